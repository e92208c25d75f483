/- No condition. -/
import Derived.Test.YtpjkbbihjoflnaaGreatDoorK1
import Derived.OpenShut
import Derived.Deep.Slices
import Derived.Shelf.Strings.Repeat
set_option linter.unusedVariables false
set_option linter.unusedSimpArgs false
set_option maxRecDepth 100000
namespace Go.Ref
open Go
variable {P:Program} {E:Env} {X:ax} {s:State} {a:Act}
def eP(X Y:ax):Prop:=Y.w=X.w/\∀g j p n,X.ow g= .row (.r j p) n->Y.ow g= .row (.r j p) n
theorem eP.refl(X:ax):eP X X:=⟨rfl,fun _ _ _ _ h=>h⟩
theorem eP.trans{X Y Z:ax}(h:eP X Y)(k:eP Y Z):eP X Z:=⟨k.1.trans h.1,fun g j p n e=>k.2 g j p n (h.2 g j p n e)⟩
theorem aA.AH{X Y:ax}(h:eP X Y)(hx:Ext X Y)(hβ:Y.β=X.β){j:Nat}{sv:SV}{v:Value}(hn:sv.bK=false)(hr:aA X (.r j) sv v):aA Y (.r j) sv v:=by
 cases sv with
 |undef=>trivial
 |skip=>exact hr
 |cF=>exact hr
 |dN=>exact hr
 |over=>exact hr
 |aj t x own=>
  obtain⟨cs,h1,h2,h3⟩:=hr
  refine⟨cs,h1.mono hx,h2,fun p hp=> ?_⟩
  obtain⟨e,t',xs,v,g0,g1,g2,g3⟩:=h3 p hp
  refine⟨e,t',xs,v,g0,g1,g2,?_⟩
  rcases g3 with ho|⟨g,cap,cur,k1,k2,k3,k4,k5,k6⟩
  ·exact .inl ho
  ·exact .inr ⟨g,cap,cur,k1,by rw[h.1];exact k2,k3,k4,k5,h.2 _ _ _ _ k6⟩
 |ptr id t p=>obtain⟨r,h1,h2⟩:=hr;exact⟨r,by rw[hβ];exact h1,h2⟩
 |view t x=>
  obtain⟨ad,cs,h1,h2,h3,h4⟩:=hr
  exact⟨ad,cs,h1,h2,h3.mono hx,fun i u hi=>hx.az _ _ (h4 i u hi)⟩
 |cap f t x u y=>exact rC hx.az hr
 |bz id a b k=>cases hn
theorem adu{X:ax}{i j:Nat}{q:List Nat->Place}:eP X (X.turn i j q):=⟨rfl,fun g j p n h=>by simp only[ax.turn,h]⟩
theorem acm{X:ax}{id:Nat}{p:List Nat}{q:List Nat->Place}:eP X (X.gF id p q):=⟨rfl,fun g j p n h=>by simp only[ax.gF,h]⟩
theorem CZ(hE:ap P E):∀(rs:List ResultVar) (X:ax) (s s':State) (l:List SV) (j0:Nat),Rel X s a->gD E s rs=some (l,s')->
 ∃Y vs,Y.w=X.w/\Ext X Y/\eP X Y/\Y.β=X.β/\Rel Y s' a/\vs.length=l.length/\(∀(j:Nat) sv v,l[j]? =some sv->vs[j]? =some v->aA Y (.r (j0+j)) sv v)/\l.any SV.bK=false/\
  (rs.mapM (m:=Sem) fun x=>match x with
    | .tmp t=>pure (a.tmps.getD t Go.undef)
    | .cell ad t=>do loadVar t (<-asAddr (a.tmps.getD ad Go.undef))).run P X.w= .ok vs X.w
 | [],X,s,s',l,j0,hr,h=>by
   simp only[gD,Option.some.injEq,Prod.mk.injEq] at h
   obtain⟨rfl,rfl⟩:=h
   exact⟨X,[],rfl,Ext.refl X,eP.refl X,rfl,hr,rfl,(fun j sv v hl=>by simp at hl),rfl,by simp⟩
 | .tmp t::r,X,s,s',l,j0,hr,h=>by
   simp only[gD] at h
   split at h
   case isTrue=>cases h
   rename_i dP
   have dP:(one (s.slot t)).bK=false:=by simpa using dP
   split at h
   case h_2=>cases h
   rename_i l1 s1 h1
   cases h
   have key:∃Y,Y.w=X.w/\Ext X Y/\eP X Y/\Y.β=X.β/\Rel Y (s.close [(t,0)]) a/\aA Y (.r j0) (one (s.slot t)) (a.tmps.getD t Go.undef):=by
    have cC:=hr.aG (.tmp t)
    cases hs:one (s.slot t) with
    |aj ty x w=>
     have cC:aA X (.c t 0) (one (s.slot t)) (a.tmps.getD t Go.undef):=cC
     rw[hs] at cC
     obtain⟨cs,g1,g2,g3⟩:=cC
     have hT:dS (s.close [(t,0)]) X (X.turn t 0 (.r j0)):=LR fun p=>cU.close
     exact⟨X.turn t 0 (.r j0),rfl,hT.ext,adu,rfl,(hr.close _).mod hT.mod,cs,g1.ai (fun _ _=>hT.az.1),g2,g3.l9⟩
    |bz id c b n=>rw[hs] at dP;cases dP
    |_=>
     refine⟨X,rfl,Ext.refl X,eP.refl X,rfl,hr.close _,?_⟩
     have cC:aA X (.c t 0) (one (s.slot t)) (a.tmps.getD t Go.undef):=cC
     rw[hs] at cC
     exact cC
   obtain⟨Y,hw,aZ,bS,hβ,bu,aL⟩:=key
   obtain⟨Z,vs,vh,cf,ug,hβ2,cY,hlen,m7,tY,aV⟩:=CZ hE r Y _ s' l1 (j0+1) bu h1
   refine⟨Z,a.tmps.getD t Go.undef::vs,vh.trans hw,aZ.trans cf,bS.trans ug,hβ2.trans hβ,cY,by simp [hlen],fun j sv v hl hv=> ?_,?_,?_⟩
   ·cases j with
    |zero=>
     simp only[List.getElem?_cons_zero,Option.some.injEq] at hl hv
     subst hl hv
     exact aL.AH ug cf hβ2 dP
    |succ j=>
     simp only[List.getElem?_cons_succ] at hl hv
     rw[show j0+(j+1)=j0+1+j by omega]
     exact m7 j sv v hl hv
   ·simp only[List.any_cons,dP,tY,Bool.or_self]
   ·rw[hw] at aV
    simp only[List.mapM_cons,Sem.run_bind,Sem.run_pure,Result.andThen_ok,aV]
 | .cell p T::r,X,s,s',l,j0,hr,h=>by
   simp only[gD] at h
   split at h
   case h_2=>cases h
   rename_i id tt t ii hT
   split at h
   case h_2=>cases h
   rename_i B hB
   split at h
   case isFalse=>cases h
   rename_i heq
   rw[Bool.and_eq_true] at heq
   have dY:tt.bF=false:=by simpa using heq.2
   have hte:=Ty.aI heq.1
   have YR:B.t.bF=false:=hte▸hE.iL hT
   split at h
   case h_2=>cases h
   rename_i l1 s1 h1
   cases h
   have hb:=z28 hB
   obtain⟨r0,hβ,tG⟩:=hr.boxes id B hb
   obtain⟨cs,T',aD,aL,how,bR⟩:=tG.cells YR
   have eb:=hr.slot p
   rw[ii] at eb
   obtain⟨r1,hβ1,hvp⟩:aA X (.c p 0) (.ptr id tt []) (a.tmps.getD p Go.undef):=eb
   obtain⟨hv,_⟩:=(qq dY).1 hvp
   rw[hβ] at hβ1
   cases hβ1
   have eL:Rel X (s.aC (some (id,{B with own:=[]}))) a:=hr.l8 hb hβ ⟨how,dp.of YR aD aL mu⟩ (.inl (Qb YR))
   have FD:∀q,¬cU (s.aC (some (id,{B with own:=[]}))) (.b id ([]++q)):=by
    rintro q ⟨B2,cT,hp⟩
    rw[RY hb] at cT
    cases cT
    cases hp
   have mj:=zvv (X:=X) (q:= .r j0) FD
   have JJ:aA (X.gF id [] (.r j0)) (.r j0) (.aj B.t B.x B.own) (dL B.t cs.toList):=by
    refine⟨cs.toList,aL.ai (fun _ _=>mj.az.1),rfl,fun q hq=> ?_⟩
    obtain⟨e,t',xs,v,g0,g1,g2,g3⟩:=bR q hq
    exact⟨e,t',xs,v,g0,g1,g2,bp.qn (p:=[]) g3⟩
   obtain⟨Z,vs,vh,cf,ug,hβ2,cY,hlen,m7,tY,aV⟩:=CZ hE r (X.gF id [] (.r j0)) _ s' l1 (j0+1) (eL.mod mj.mod) h1
   refine⟨Z,dL B.t cs.toList::vs,vh,mj.ext.trans cf,acm.trans ug,hβ2,cY,by simp [hlen],fun j sv v hl hv=> ?_,?_,?_⟩
   ·cases j with
    |zero=>
     simp only[List.getElem?_cons_zero,Option.some.injEq] at hl hv
     subst hl hv
     exact JJ.AH ug cf hβ2 rfl
    |succ j=>
     simp only[List.getElem?_cons_succ] at hl hv
     rw[show j0+(j+1)=j0+1+j by omega]
     exact m7 j sv v hl hv
   ·simpa [SV.bK] using tY
   ·have hl:=AQ (P:=P) hE (hte▸hT:E.ty T=some B.t) aL (ad:=⟨r0,0,none⟩) (w:=X.w) (fun i v hi=>by
     rw[iC,Nat.zero_add]
     simp only[World.cell?,aD]
     simpa using hi)
    have hw3:(X.gF id [] (.r j0)).w=X.w:=rfl
    rw[hw3] at aV
    have iX:a.tmps.getD p Go.undef= .pointer (some ⟨r0,0,none⟩):=by simpa [Ty.off] using hv
    have ha:(asAddr (.pointer (some ⟨r0,0,none⟩))).run P X.w= .ok ⟨r0,0,none⟩ X.w:=by simp [asAddr]
    simp only[List.mapM_cons,Sem.run_bind,Sem.run_pure,Result.andThen_ok,aV,iX,ha,hl]
def ax.zero(X:ax)(id:Nat):ax:=
 {X with ow:=fun g=>match X.ow g with
  | .box bc=>if bc=id then .box 0 else .box bc
  | .row (.b bc p) n=>if bc=id then .row (.b 0 p) n else .row (.b bc p) n
  |w=>w}
theorem F1{id:Nat}{ad:Addr}{v:Value}(h:X.az ad v):(X.zero id).az ad v:=by
 refine⟨h.1,h.2.1,?_⟩
 have:=h.2.2
 simp only[ax.zero]
 cases hx:X.ow ad.block with
 |box i=>rw[hx] at this;exact this.elim
 |row pl n=>
  rw[hx] at this
  cases pl with
  |b i p=>simp only;split<;>exact this
  |_=>exact this
 |_=>rw[hx] at this;exact this
theorem akl{id:Nat}:Ext X (X.zero id) where
 az:=fun _ _=>F1
 size:=Nat.le_refl _
 os:=rfl
 tape:=rfl
 output:=rfl
 β0:=rfl
 still:=fun g _ bS=>by
  refine⟨?_,rfl⟩
  simp only[ax.zero]
  cases hx:X.ow g with
  |box i=>rw[hx] at bS;exact bS.elim
  |row pl n=>rw[hx] at bS;exact bS.elim
  |_=>rfl
theorem bC.zero{id r:Nat}{B:bB}(h:bC X id r B):bC (X.zero id) 0 r B:=by
 obtain⟨h3,h1⟩:=h
 refine⟨by simp [ax.zero,h3],h1.move (fun _ _=>F1) rfl (fun cs h4 p hp=> ?_) fun _ _ g o _ ho hw=>⟨ho,by simp [ax.zero,hw]⟩⟩
 obtain⟨e,t',xs,v,g0,g1,g2,g3⟩:=h4 p hp
 refine⟨e,t',xs,v,g0,g1,g2,?_⟩
 rcases g3 with ho|⟨g,cap,cur,k1,k2,k3,k4,k5,k6⟩
 ·exact .inl ho
 ·exact .inr ⟨g,cap,cur,k1,k2,k3,k4,k5,by simp [ax.zero,k6]⟩
theorem aA.zero{id j r0:Nat}{sv:SV}{v:Value}(hp:∀bc t p,sv= .ptr bc t p->X.β bc=some r0)(hn:sv.bK=false)(h:aA X (.r j) sv v):aA {X.zero id with β:=fun _=>some r0} (.r j) (sv.gh 0) v:=by
 cases sv with
 |undef=>trivial
 |skip=>exact h
 |cF=>exact h
 |dN=>exact h
 |over=>exact h
 |aj t x own=>
  obtain⟨cs,h1,h2,h3⟩:=h
  refine⟨cs,bg.ai (Y:={X.zero id with β:=fun _=>some r0}) (fun ad v hs=>(F1 hs:(X.zero id).az ad v)) h1,h2,fun p hp=> ?_⟩
  obtain⟨e,t',xs,v,g0,g1,g2,g3⟩:=h3 p hp
  refine⟨e,t',xs,v,g0,g1,g2,?_⟩
  rcases g3 with ho|⟨g,cap,cur,k1,k2,k3,k4,k5,k6⟩
  ·exact .inl ho
  ·exact .inr ⟨g,cap,cur,k1,k2,k3,k4,k5,by simp [ax.zero,k6]⟩
 |ptr bc t p=>
  obtain⟨r,h1,h2⟩:=h
  have:=hp bc t p rfl
  rw[h1] at this
  cases this
  exact⟨r0,rfl,h2⟩
 |view t x=>
  obtain⟨ad,cs,h1,h2,h3,h4⟩:=h
  exact⟨ad,cs,h1,h2,bg.ai (Y:={X.zero id with β:=fun _=>some r0}) (fun ad v hs=>(F1 hs:(X.zero id).az ad v)) h3,fun i u hi=>(F1 (h4 i u hi):(X.zero id).az _ _)⟩
 |cap f t x u y=>exact rC (Y:={X.zero id with β:=fun _=>some r0}) (fun ad v hs=>(F1 hs:(X.zero id).az ad v)) h
 |bz bc a b k=>cases hn
theorem aA.anyβ{j r0:Nat}{sv:SV}{v:Value}(hp:∀bc t p,sv≠ .ptr bc t p)(hn:sv.bK=false)(h:aA X (.r j) sv v):aA {X with β:=fun _=>some r0} (.r j) sv v:=by
 cases sv with
 |undef=>trivial
 |skip=>exact h
 |cF=>exact h
 |dN=>exact h
 |over=>exact h
 |aj t x own=>
  obtain⟨cs,h1,h2,h3⟩:=h
  exact⟨cs,bg.ai (X:=X) (Y:={X with β:=fun _=>some r0}) (fun ad v (hs:X.az ad v)=>(hs:({X with β:=fun _=>some r0}:ax).az ad v)) h1,h2,h3⟩
 |ptr bc t p=>exact absurd rfl (hp bc t p)
 |view t x=>
  obtain⟨ad,cs,h1,h2,h3,h4⟩:=h
  exact⟨ad,cs,h1,h2,bg.ai (X:=X) (Y:={X with β:=fun _=>some r0}) (fun ad v (hs:X.az ad v)=>(hs:({X with β:=fun _=>some r0}:ax).az ad v)) h3,h4⟩
 |cap f t x u y=>exact rC (X:=X) (Y:={X with β:=fun _=>some r0}) (fun ad v (hs:X.az ad v)=>(hs:({X with β:=fun _=>some r0}:ax).az ad v)) h
 |bz bc a b k=>cases hn
theorem Sx:∀{l:List SV} {id:Nat} {t:Ty} {p:List Nat},SV.ptr id t p∈l->id∈Be l
 |v::r,id,t,p,h=>by
  rcases List.mem_cons.1 h with e|h
  ·subst e;simp [Be]
  ·have:=Sx h
   cases v<;>simp [Be,this]
theorem CY{l:List SV}{vs:List Value}(hlen:vs.length=l.length)(h:∀(j:Nat) sv v,l[j]? =some sv->vs[j]? =some v->aA X (.r j) sv v):cL X .r l (if h:vs.toArray.size=1 then vs.toArray[0] else .tuple vs.toArray):=by
 match l,vs,hlen with
 | [sv],[v],_=>exact h 0 sv v rfl rfl
 | [],[],_=>exact⟨#[],rfl,rfl,fun j s u hs=>by simp at hs⟩
 |x::y::r,u::v::w,hlen=>
  refine⟨(u::v::w).toArray,by simp,by simpa using hlen,fun j s z hs hz=>h j s z hs (by simpa using hz)⟩
theorem abG{Z:ax}{s':State}{b:Option bB}{l' r:List SV}{b':Option bB}{vs:List Value}(hX:Ext X Z)(cY:Rel Z s' a)(hlen:vs.length=l'.length)(iH:∀(j:Nat) sv v,l'[j]? =some sv->vs[j]? =some v->aA Z (.r j) sv v)
 (dP:l'.any SV.bK=false) (eW:GH s' b l' (fun r b=>some (r,b))=some (r,b')):∃Y',Y'.w=Z.w/\Ext X Y'/\yd X Y' b r b' (if h:vs.toArray.size=1 then vs.toArray[0] else .tuple vs.toArray):=by
 unfold GH at eW
 cases b with
 |some B=>
  cases hp:Be l' with
  |cons _ _=>rw[hp] at eW;cases eW
  |nil=>
   rw[hp] at eW
   have nD:∀id t p,SV.ptr id t p∉l':=fun id t p hm=>by
    have:=Sx hm
    rw[hp] at this;cases this
   cases er:s'.box 0 with
   |none=>simp only[er] at eW;cases eW
   |some B'=>
    simp only[er] at eW
    cases eW
    obtain⟨r0,h3,h4⟩:=cY.boxes 0 B' (z28 er)
    refine⟨Z,rfl,hX,r0,CY hlen fun j sv v h1 h2=>(iH j sv v h1 h2).anyβ (fun id t p e=>nD id t p (e▸List.mem_of_getElem? h1)) (by simpa using List.any_eq_false.1 dP sv (List.mem_of_getElem? h1)),fun B2 cT=> ?_,fun _=>nD,dP⟩
    cases cT
    exact⟨h4,fun _=>by rw[<-hX.β0];exact h3⟩
 |none=>
  cases hp:Be l' with
  |nil=>
   rw[hp] at eW
   have nD:∀id t p,SV.ptr id t p∉l':=fun id t p hm=>by
    have:=Sx hm
    rw[hp] at this;cases this
   cases eW
   exact⟨Z,rfl,hX,0,CY hlen fun j sv v h1 h2=>(iH j sv v h1 h2).anyβ (fun id t p e=>nD id t p (e▸List.mem_of_getElem? h1)) (by simpa using List.any_eq_false.1 dP sv (List.mem_of_getElem? h1)),(fun B2 cT=>by cases cT),fun _=>nD,dP⟩
  |cons id rest=>
   rw[hp] at eW
   cases rest with
   |cons _ _=>cases eW
   |nil=>
    cases hB:s'.box id with
    |none=>simp only[hB] at eW;cases eW
    |some B=>
     simp only[hB] at eW
     cases eW
     obtain⟨r0,h3,h4⟩:=cY.boxes id B (z28 hB)
     refine⟨Z.zero id,rfl,hX.trans akl,r0,?_,fun B2 cT=> ?_,fun hh=> ?_,LI dP⟩
     ·refine CY (by simpa using hlen) fun j sv v h1 h2=> ?_
      rw[List.getElem?_map] at h1
      obtain⟨s0,eX,rfl⟩:=Option.map_eq_some_iff.1 h1
      refine(iH j s0 v eX h2).zero (fun bc t p e=> ?_) (by simpa using List.any_eq_false.1 dP s0 (List.mem_of_getElem? eX))
      have:=Sx (e▸List.mem_of_getElem? eX)
      rw[hp] at this
      simp only[List.mem_singleton] at this
      subst this
      exact h3
     ·cases cT
      exact⟨h4.zero,fun hh=>by cases hh⟩
     ·rcases hh with hh|hh<;>cases hh
theorem Sh:∀(ts:List Ty) (l:List SV),(aM ts l).length=l.length
 | [],l=>by simp [aM]
 |t::r,[]=>by simp [aM]
 |t::r,v::q=>by
  cases t<;>cases v<;>simp [aM,Sh r q]
theorem Lz{X:ax}:∀(ts:List Ty) (l:List SV) (i:Nat) (sv:SV) (v:Value),(aM ts l)[i]? =some sv->(∀sv,l[i]? =some sv->∃pl,aA X pl sv v)->∀q,(∃xE,l[i]? =some xE/\(sv=xE\/sv=xE.shut\/xE= .cF))/\((∀xE,l[i]? =some xE->aA X q xE v)->aA X q sv v)
 | [],l,i,sv,v,h,_,q=>by
   have h:l[i]? =some sv:=by simpa [aM] using h
   exact⟨⟨sv,h,.inl rfl⟩,fun hh=>hh sv h⟩
 |t::r,[],i,sv,v,h,_,q=>by simp [aM] at h
 |t::r,x::y,i,sv,v,h,hx,q=>by
  cases i with
  |zero=>
   have key:(aM (t::r) (x::y))[0]? =some sv->(sv=x.shut)\/(x= .cF/\∃e u,sv= .aj (.sl e u) ([]:List (El u)) []):=by
    intro h
    cases t<;>cases x<;>simp only[aM,List.getElem?_cons_zero,Option.some.injEq] at h<;>first|exact .inl h.symm|exact .inr ⟨rfl,_,_,h.symm⟩
   rcases key h with rfl|⟨rfl,e,u,rfl⟩
   ·exact⟨⟨x,rfl,.inr (.inl rfl)⟩,fun hh=>(hh x rfl).shut⟩
   ·refine⟨⟨_,rfl,.inr (.inr rfl)⟩,fun hh=> ?_⟩
    have:=hh _ rfl
    exact⟨[.slice none 0 0],⟨none,0,rfl,Nat.le_refl _,fun j x hj=>by simp at hj⟩,this,mu⟩
  |succ i=>
   have h':(aM r y)[i]? =some sv:=by
    cases t<;>cases x<;>simpa [aM] using h
   have:=Lz r y i sv v h' (fun sv hs=>hx sv (by simpa using hs)) q
   simpa using this
theorem agl{ts:List Ty}{l:List SV}{id:Nat}{t:Ty}{p:List Nat}(h:SV.ptr id t p∈aM ts l):SV.ptr id t p∈l:=by
 induction ts generalizing l with
 |nil=>simpa [aM] using h
 |cons u r ih=>
  cases l with
  |nil=>simp [aM] at h
  |cons v q=>
   have key:SV.ptr id t p=v.shut\/SV.ptr id t p∈aM r q:=by
    cases u<;>cases v<;>simp [aM,SV.shut] at h⊢ <;>first|exact h|exact .inr h|skip
   rcases key with e|hm
   ·rw[Sy e.symm];simp
   ·exact List.mem_cons_of_mem _ (ih hm)
theorem agk{ts:List Ty}{l:List SV}{id j:Nat}{c d:Ty}(h:SV.bz id c d j∈aM ts l):SV.bz id c d j∈l:=by
 induction ts generalizing l with
 |nil=>simpa [aM] using h
 |cons u r ih=>
  cases l with
  |nil=>simp [aM] at h
  |cons v q=>
   have key:SV.bz id c d j=v.shut\/SV.bz id c d j∈aM r q:=by
    cases u<;>cases v<;>simp [aM,SV.shut] at h⊢ <;>first|exact h|exact .inr h|skip
   rcases key with e|hm
   ·have:=zqo v
    rw[<-e] at this
    cases this
   ·exact List.mem_cons_of_mem _ (ih hm)
theorem amc(hE:ap P E)(hm:P.follows .mixedOrders=true){C C0:ah}(hC0:C0.Nat)(YH:∀f,cV P C0 f){f:FuncId}{fn:Func}{code:Code}(iB:P.funcs[f]? =some fn)(tW:(fn.name== "runtime.NumGoroutine")=false)(qd:fn.body=some code)
 (hC:∀(l:List SV) (b:Option bB) (r:List SV) (b':Option bB),C (List SV×Option bB) f l b (fun r b=>some (r,b))=some (r,b')->∃k,jr E (C0 (List SV×Option bB)) k fn code l b (fun r b=>some (r,b))=some (r,b')):cV P C f:=by
 intro l b r b' h
 refine⟨⟨fn,code,iB,tW,qd⟩,fun X args gV=> ?_⟩
 obtain⟨k,h⟩:=hC l b r b' h
 unfold jr at h
 cases hg:(E.sp.isSome&&b.isSome) with
 |true=>rw[hg] at h;cases h
 |false=>
 rw[hg,cond_false] at h
 have hF:Fr E X:=fun bI=>gV.rows (by
  cases hE2:E.sp with
  |none=>exact absurd hE2 bI
  |some z=>
   cases b with
   |none=>rfl
   |some B=>rw[hE2] at hg;cases hg)
 simp only at h
 obtain⟨⟨e,s⟩,h1,h2⟩:=jD (vA hC0 code _ (fun e s=>some (e,s)) (K:=fun z=>match z.1 with
  | .exit _=>none
  |_=>match gD E z.2 fn.results.toList with
   |some (l,s')=>GH s' b (gC E l) (fun r b=>some (r,b))
   |none=>none) (fun e s=>by cases e<;>rfl) _) h
 refine calls_of_wp iB qd ?_
 have dx:=gV.size
 refine Ei hE hm hC0 YH k code X X _ _ e s hF (Ext.refl X) (?_:Rel X _ _) h1 _ fun Y a' aZ bu=> ?_
 ·have dP:=Sh E.ps l
  refine⟨by simp [dx,dP],by simp [dP],fun i sl v hs hv=> ?_,fun id B hB=> ?_,fun i sl id t p hs hm=> ?_,rfl,fun i sl id c d n hs hm=> ?_⟩
  ·by_cases hi:i<l.length
   ·rw[List.getElem?_append_left (by simpa [dP] using hi),List.getElem?_map] at hs
    obtain⟨sv,jz,rfl⟩:=Option.map_eq_some_iff.1 hs
    rw[Array.getElem?_append_left (by omega)] at hv
    exact(Lz E.ps l i sv v jz (fun sv h0=>⟨_,gV.rep i sv v h0 hv⟩) (.c i 0)).2 fun xE h0=>gV.rep i xE v h0 hv
   ·rw[List.getElem?_append_right (by simp [dP];omega),List.getElem?_replicate] at hs
    split at hs
    ·cases hs;trivial
    ·cases hs
  ·cases id with
   |zero=>
    simp only[List.getElem?_cons_zero,Option.some.injEq] at hB
    exact gV.box B hB
   |succ id=>
    simp only[List.getElem?_cons_succ,List.getElem?_replicate] at hB
    split at hB<;>cases hB
  ·by_cases hi:i<l.length
   ·rw[List.getElem?_append_left (by simpa [dP] using hi),List.getElem?_map] at hs
    obtain⟨sv,jz,rfl⟩:=Option.map_eq_some_iff.1 hs
    simp only[List.mem_singleton] at hm
    subst hm
    obtain⟨rfl,hb⟩:=gV.ptr id t p (agl (List.mem_of_getElem? jz))
    cases b with
    |none=>cases hb
    |some B=>exact⟨B,rfl⟩
   ·rw[List.getElem?_append_right (by simp [dP];omega),List.getElem?_replicate] at hs
    split at hs
    ·cases hs;simp at hm
    ·cases hs
  ·exfalso
   by_cases hi:i<l.length
   ·rw[List.getElem?_append_left (by simpa [dP] using hi),List.getElem?_map] at hs
    obtain⟨sv,jz,rfl⟩:=Option.map_eq_some_iff.1 hs
    simp only[List.mem_singleton] at hm
    subst hm
    exact XR gV.om (agk (List.mem_of_getElem? jz))
   ·rw[List.getElem?_append_right (by simp [dP];omega),List.getElem?_replicate] at hs
    split at hs
    ·cases hs;simp at hm
    ·cases hs
 ·
  have Y6:∃l s',gD E s fn.results.toList=some (l,s')/\GH s' b (gC E l) (fun r b=>some (r,b))=some (r,b')/\(e= .normal\/e= .ret):=by
   cases e with
   |exit id=>cases h2
   |normal=>
    simp only at h2
    split at h2
    ·exact⟨_,_,by assumption,h2,.inl rfl⟩
    ·cases h2
   |ret=>
    simp only at h2
    split at h2
    ·exact⟨_,_,by assumption,h2,.inr rfl⟩
    ·cases h2
  obtain⟨l',s',eL,eW,he⟩:=Y6
  obtain⟨Z,vs,hw,cf,bS,hβ,cY,hlen,m7,YS,aV⟩:=CZ hE fn.results.toList Y s s' l' 0 bu eL
  have Aq:(results fn a'.tmps).run P Y.w= .ok (if h:vs.toArray.size=1 then vs.toArray[0] else .tuple vs.toArray) Y.w:=by
   unfold results
   simp only[Array.mapM_eq_mapM_toList,Sem.run_bind,Sem.run_map,Sem.run_pure,Result.andThen_ok]
   exact congrArg (fun r:Result (List Value)=>(r.andThen fun a w'=>Result.ok a.toArray w').andThen fun a w'=>Result.ok (if h:a.size=1 then a[0] else Value.tuple a) w') aV
  have hX:Ext X Z:=aZ.trans cf
  have iH:∀(j:Nat) sv v,l'[j]? =some sv->vs[j]? =some v->aA Z (.r j) sv v:=fun j sv v h1 h2=>by
   have:=m7 j sv v h1 h2
   rwa [Nat.zero_add] at this
  have Jv:vs.length=(gC E l').length:=by
   unfold gC
   cases E.ro<;>simpa using hlen
  have B9:∀(j:Nat) sv v,(gC E l')[j]? =some sv->vs[j]? =some v->aA Z (.r j) sv v:=fun j sv v h1 h2=>by
   unfold gC at h1
   cases hro:E.ro with
   |false=>rw[hro] at h1;exact iH j sv v h1 h2
   |true=>
    rw[hro,cond_true,List.getElem?_map] at h1
    obtain⟨s0,eX,rfl⟩:=Option.map_eq_some_iff.1 h1
    exact aA.fA (iH j s0 v eX h2)
  have tY:(gC E l').any SV.bK=false:=by
   unfold gC
   cases E.ro with
   |false=>exact YS
   |true=>exact zif l'
  have fin:=abG (b:=b) hX cY Jv B9 tY eW
  obtain⟨Y',Rq,hX',hL⟩:=fin
  have Rq:=Rq.trans hw
  rcases he with rfl|rfl
  ·exact⟨bu.defers,_,Aq,Y',Rq,hX',hL⟩
  ·exact⟨bu.defers,_,Aq,Y',Rq,hX',hL⟩
end Go.Ref

namespace Go.Ref
open Go
variable {P:Program} {E:Env}
def Wf:(t:Ty)->El t->Prop
 | .bool,_=>True
 | .int k,n=>(Lit.int k n).wf=true
 | .str,s=>s.size<=maxLen
 | .sl _ t,xs=>List.length xs<=maxLen/\∀x∈(xs:List (El t)),Wf t x
 | .arr n t,xs=>List.length xs=n/\∀x∈(xs:List (El t)),Wf t x
 | .unit,_=>True
 | .pair a b,x=>Wf a x.1/\Wf b x.2
 | .aJ _ _ _,_=>False
theorem FU(hE:ap P E){T:TypeId}{t:Ty}(ht:E.ty T=some t):P.cellsOf T=t.cells:=by
 obtain⟨i,h1,h2,_⟩:=(hE.ty T t ht).info
 simp [Program.cellsOf,h1,h2]
def Ty.gi:Ty->Bool
 | .sl _ t=> !(Nat.beq t.cells 0)&&t.gi
 | .arr _ t=>t.gi
 | .pair a b=>a.gi&&b.gi
 |_=>true
def uU(w:World)(β:Nat->Option Nat):ax:=⟨w,fun _=> .all,β⟩
theorem agn{w:World}{β:Nat->Option Nat}{a:Addr}{v:Value}(h:w.cell? a=some v):(uU w β).az a v:=⟨World.cell?_spot h,h,trivial⟩
theorem zns{α:Type}{n:Nat}{p:Nat->α->Prop}(h:∀i,i<n->∃x,p i x):∃xs:List α,xs.length=n/\∀(i:Nat) x,xs[i]? =some x->p i x:=by
 induction n with
 |zero=>exact⟨[],rfl,fun i x hi=>by simp at hi⟩
 |succ n ih=>
  obtain⟨xs,h1,h2⟩:=ih fun i hi=>h i (by omega)
  obtain⟨y,hy⟩:=h n (by omega)
  refine⟨xs++ [y],by simp [h1],fun i x hi=> ?_⟩
  rw[List.getElem?_append] at hi
  split at hi
  ·exact h2 i x hi
  ·rename_i aq
   have tO:i-xs.length=0:=by
    have:=(List.getElem?_eq_some_iff.1 hi).1
    simp at this
    omega
   rw[tO] at hi
   simp only[List.getElem?_cons_zero,Option.some.injEq] at hi
   subst hi
   have:i=n:=by omega
   subst this
   exact hy
section
variable {H:Type} {enc:TypeId×Value->H} {w:World} {base:Nat} {spare:Nat->Bool} {held:Bool} {β:Nat->Option Nat}
theorem amp(hE:ap P E):∀t:Ty,
 (∀(T:TypeId) (cq:Nat) (cs:List Value) (x:DataW H×List MemPlace),E.ty T=some t->t.gi=true->DataW.trod enc P w base spare held cq T cs=some x->∃y:El t,bg (uU w β) t y cs/\Wf t y)/\
 (∀(fl:List Field) (off cq:Nat) (cs:List Value),jh E fl t off->t.gi=true->off+t.cells<=cs.length->(∀f∈fl,∃x,DataW.trod enc P w base spare held cq f.type ((cs.drop f.offset).take (P.cellsOf f.type))=some x)->
   ∃y:El t,bg (uU w β) t y ((cs.drop off).take t.cells)/\Wf t y):=by
 intro t
 have lp:∀{t:Ty},t.df=false->t≠ .unit->∀(fl:List Field) (off:Nat),¬jh E fl t off:=by
  intro t h1 h2 fl off h
  cases t<;>cases fl<;>simp_all [jh,Ty.df]
 induction t with
 |aJ k a b _ _=>exact⟨fun T cq cs x hT ij h=>absurd (hE.iL hT) (by simp [Ty.bF]),fun fl off cq cs hf=>absurd hf (lp rfl (by simp) fl off)⟩
 |bool=>
  refine⟨fun T cq cs x hT ij h=> ?_,fun fl off cq cs hf=>absurd hf (lp rfl (by simp) fl off)⟩
  have hu:=(hE.ty T _ hT).dj
  cases cq with
  |zero=>simp [DataW.trod] at h
  |succ m=>
   unfold DataW.trod at h
   rw[hu] at h
   split at h<;>try(first|cases h;done|(simp_all;done))
   rename_i b _
   exact⟨b,rfl,trivial⟩
 |int k=>
  refine⟨fun T cq cs x hT ij h=> ?_,fun fl off cq cs hf=>absurd hf (lp rfl (by simp) fl off)⟩
  have hu:=(hE.ty T _ hT).dj
  cases cq with
  |zero=>simp [DataW.trod] at h
  |succ m=>
   unfold DataW.trod at h
   rw[hu] at h
   split at h<;>simp_all
   rename_i k1 k2 n hk
   subst hk
   exact⟨n,rfl,h.1.2⟩
 |str=>
  refine⟨fun T cq cs x hT ij h=> ?_,fun fl off cq cs hf=>absurd hf (lp rfl (by simp) fl off)⟩
  have hu:=(hE.ty T _ hT).dj
  cases cq with
  |zero=>simp [DataW.trod] at h
  |succ m=>
   unfold DataW.trod at h
   rw[hu] at h
   split at h<;>simp_all
   rename_i s
   exact⟨s,rfl,h.1⟩
 |sl e t ih=>
  refine⟨fun T cq cs x hT ij h=> ?_,fun fl off cq cs hf=>absurd hf (lp rfl (by simp) fl off)⟩
  obtain⟨hu,he⟩:=(hE.ty T _ hT).dj
  have hc:=FU hE he
  rcases Go.Deep.open_slice hu h with⟨rfl,_⟩|⟨a,len,cap,m,n,D,Pl,rfl,hb,hl,hm,FC,_,fH⟩
  ·exact⟨[],⟨none,0,rfl,Nat.le_refl _,fun j x hj=>by simp at hj⟩,by simp [maxLen],fun x hx=>by cases hx⟩
  ·have hlm:len<=m:=by rw[FC];split<;>omega
   have hk:0<t.cells/\t.gi=true:=by
    simp only[Ty.gi,Bool.and_eq_true,Bool.not_eq_true'] at ij
    refine⟨?_,ij.2⟩
    rcases Nat.eq_zero_or_pos t.cells with h0|h0
    ·rw[h0] at ij;simp at ij
    ·exact h0
   obtain⟨ys,h1,h2⟩:=zns (n:=len) (p:=fun i (y:El t)=>∃eD,w.cells? base (a.add (i*t.cells)) t.cells=some eD/\bg (uU w β) t y eD/\Wf t y) (fun i hi=>by
    obtain⟨eD,g1,g2⟩:=fH i (by omega)
    rw[hc] at g1
    obtain⟨y,k1,k2⟩:=ih.1 e n eD _ he hk.2 g2
    exact⟨y,eD,g1,k1,k2⟩)
   refine⟨ys,bg.xD h1 hl (fun j y hj=> ?_),by show ys.length<=_;omega,fun y hy=> ?_⟩
   ·obtain⟨eD,g1,g2,g3⟩:=h2 j y hj
    obtain⟨_,hlen,dI⟩:=World.cells?_some g1
    have hj0:=(List.getElem?_eq_some_iff.1 hj).1
    obtain⟨c0,e1,_⟩:=h2 0 _ (List.getElem?_eq_getElem (by omega))
    obtain⟨_,aoh,BO⟩:=World.cells?_some e1
    have Ar:a.spot=none:=by
     have:=BO 0 (by omega)
     rw[List.getElem?_eq_getElem (by omega)] at this
     have h3:=World.cell?_spot this
     simpa [Addr.add] using h3
    refine⟨a,eD,rfl,Ar,g2,fun i v hi=>agn ?_⟩
    have hil:=(List.getElem?_eq_some_iff.1 hi).1
    have:=dI i (by omega)
    rw[P2 a Ar,hi] at this
    exact this
   ·obtain⟨i,hi⟩:=List.mem_iff_getElem?.1 hy
    obtain⟨eD,_,_,g3⟩:=h2 i y hi
    exact g3
 |arr n t ih=>
  refine⟨fun T cq cs x hT ij h=> ?_,fun fl off cq cs hf=>absurd hf (lp rfl (by simp) fl off)⟩
  obtain⟨e,hu,he,_⟩:=(hE.ty T _ hT).dj
  have hc:=FU hE he
  have Jh:=FU hE hT
  obtain⟨xs,m,rfl,_,hl,Av,fH⟩:=DataW.trod_array hu h
  obtain⟨ys,h1,h2⟩:=zns (n:=n) (p:=fun i (y:El t)=>bg (uU w β) t y ((cs.drop (i*t.cells)).take t.cells)/\Wf t y) (fun i hi=>by
   have g:=fH i hi
   rw[hc,List.getElem?_eq_getElem (by omega)] at g
   exact ih.1 e m _ _ he ij g)
  refine⟨ys,⟨h1,by rw[hl,Jh];rfl,fun j y hj=>(h2 j y hj).1⟩,h1,fun y hy=> ?_⟩
  obtain⟨i,hi⟩:=List.mem_iff_getElem?.1 hy
  exact(h2 i y hi).2
 |unit=>
  refine⟨fun T cq cs x hT ij h=> ?_,fun fl off cq cs hf ij hle cQ=>⟨(),by simp [Ty.cells,bg],trivial⟩⟩
  obtain⟨fs,hu,dd,_⟩:=(hE.ty T _ hT).dj
  have Jh:=FU hE hT
  obtain⟨xs,m,rfl,_,hl,_⟩:=DataW.trod_struct hu h
  rw[Jh] at hl
  refine⟨(),?_,trivial⟩
  exact List.eq_nil_of_length_eq_zero hl
 |pair ta tb lY lZ=>
  have step:∀(fl:List Field) (off cq:Nat) (cs:List Value),jh E fl (.pair ta tb) off->(Ty.pair ta tb).gi=true->off+(Ty.pair ta tb).cells<=cs.length->(∀f∈fl,∃x,DataW.trod enc P w base spare held cq f.type ((cs.drop f.offset).take (P.cellsOf f.type))=some x)->
   ∃y:El (.pair ta tb),bg (uU w β) (.pair ta tb) y ((cs.drop off).take (Ty.pair ta tb).cells)/\Wf (.pair ta tb) y:=by
   intro fl off cq cs hf ij hle cQ
   cases fl with
   |nil=>simp [jh] at hf
   |cons f fl=>
    obtain⟨f1,f2,f3,f4⟩:=hf
    simp only[Ty.gi,Bool.and_eq_true] at ij
    simp only[Ty.cells] at hle
    obtain⟨x,hx⟩:=cQ f (by simp)
    rw[FU hE f2,f1] at hx
    obtain⟨y1,r1,w1⟩:=lY.1 f.type cq _ x f2 ij.1 hx
    obtain⟨y2,r2,w2⟩:=lZ.2 fl (off+ta.cells) cq cs f4 ij.2 (by omega) (fun g hg=>cQ g (List.mem_cons_of_mem _ hg))
    refine⟨(y1,y2),⟨_,_,?_,r1,r2⟩,w1,w2⟩
    simp only[Ty.cells]
    rw[<-List.drop_drop]
    exact List.take_add
  refine⟨fun T cq cs x hT ij h=> ?_,step⟩
  obtain⟨fs,hu,dd,_⟩:=(hE.ty T _ hT).dj
  have Jh:=FU hE hT
  obtain⟨xs,m,rfl,_,hl,Av,fH⟩:=DataW.trod_struct hu h
  rw[Jh] at hl
  obtain⟨y,r,wf⟩:=step fs.toList 0 m cs dd ij (by omega) (fun f hf=>by
   obtain⟨i,hi⟩:=List.mem_iff_getElem?.1 hf
   have xc:fs[i]? =some f:=by simpa using hi
   have:=fH i f xc
   have aq:=(List.getElem?_eq_some_iff.1 hi).1
   rw[List.getElem?_eq_getElem (by simp at aq;omega)] at this
   exact⟨_,this⟩)
  refine⟨y,?_,wf⟩
  rw[List.drop_zero,<-hl,List.take_length] at r
  exact r
end
end Go.Ref

namespace Go.Ref
open Go
variable {P:Program} {E:Env}
def D4:Value->Value->Bool
 | .bool a,.bool b=>a==b
 | .int k a,.int j b=>decide (k=j)&&decide (a=b)
 | .string a,.string b=>Nat.beq a.size 0&&Nat.beq b.size 0
 | .slice none 0 0,.slice none 0 0=>true
 |_,_=>false
theorem znw{a:ByteArray}(h:a.size=0):a=⟨#[]⟩:=by
 cases a with
 |mk d=>
  have:d.size=0:=h
  have:=Array.eq_empty_of_size_eq_zero this
  rw[this]
theorem afC{a b:Value}(h:D4 a b=true):a=b:=by
 unfold D4 at h
 split at h
 ·simp at h;rw[h]
 ·simp at h;rw[h.1,h.2]
 ·simp only[Bool.and_eq_true] at h
  rw[znw (Nat.eq_of_beq_eq_true h.1),znw (Nat.eq_of_beq_eq_true h.2)]
 ·rfl
 ·cases h
def Gk:List Value->List Value->Bool
 | [],[]=>true
 |a::r,b::q=>D4 a b&&Gk r q
 |_,_=>false
theorem RT:∀{a b:List Value},Gk a b=true->a=b
 | [],[],_=>rfl
 |a::r,b::q,h=>by
  simp only[Gk,Bool.and_eq_true] at h
  rw[afC h.1,RT h.2]
def Ec(t:Ty)(v:Value):Bool:=
 match v with
 | .agg cs=>t.agg&&Gk cs.toList (zp t)
 |v=> !t.agg&&Gk [v] (zp t)
theorem ag9{t:Ty}{v:Value}(h:Ec t v=true):v=dL t (zp t):=by
 unfold Ec at h
 split at h
 ·simp only[Bool.and_eq_true] at h
  rw[jx h.1,<-RT h.2]
 ·simp only[Bool.and_eq_true,Bool.not_eq_true'] at h
  rw[<-RT h.2,Qa h.1]
def qT(E:Env):List Field->Ty->Nat->Bool
 | [],.unit,_=>true
 |f::r,.pair a b,off=>Nat.beq f.offset off&&((match E.ty f.type with
  |some t=>t.cp a
  |none=>false)&&(!(f.name== "_")&&qT E r b (off+a.cells)))
 |_,_,_=>false
theorem zqb:∀{fl:List Field} {t:Ty} {off:Nat},qT E fl t off=true->jh E fl t off
 | [],t,off,h=>by cases t<;>simp_all [qT,jh]
 |f::r,t,off,h=>by
  cases t<;>simp only[qT,Bool.and_eq_true] at h<;>try(cases h;done)
  obtain⟨h1,h2,h3,h4⟩:=h
  refine⟨Nat.eq_of_beq_eq_true h1,?_,?_,zqb h4⟩
  ·cases hf:E.ty f.type with
   |none=>rw[hf] at h2;cases h2
   |some u=>rw[hf] at h2;rw[Ty.aI h2]
  ·simpa using h3
def uH(E:Env)(T:TypeId)(t:Ty):Bool:=
 match E.ty T with
 |some u=>u.cp t
 |none=>false
theorem C5{T:TypeId}{t:Ty}(h:uH E T t=true):E.ty T=some t:=by
 unfold uH at h
 split at h
 ·rename_i u hu;rw[hu,Ty.aI h]
 ·cases h
def Cx(P:Program)(E:Env)(T:TypeId)(t:Ty):Bool:=
 match P.underlying T,t with
 |some .bool,.bool=>true
 |some (.int k),.int j=>decide (k=j)
 |some .string,.str=>true
 |some (.slice e),.sl e' u=>Nat.beq e e'&&uH E e u
 |some (.array n e),.arr m u=>Nat.beq n m&&(uH E e u&& !P.eqGuardType P.depth T)
 |some (.struct fs),.unit=>qT E fs.toList .unit 0&&(!P.stoodInHeld T&& !P.eqGuardType P.depth T)
 |some (.struct fs),.pair a b=>qT E fs.toList (.pair a b) 0&&(!P.stoodInHeld T&& !P.eqGuardType P.depth T)
 |_,_=>false
theorem akg{T:TypeId}{t:Ty}(h:Cx P E T t=true):Oj P E T t:=by
 unfold Cx at h
 split at h
 ·assumption
 ·rename_i k j hu;rw[<-of_decide_eq_true h];exact hu
 ·assumption
 ·rename_i e e' u hu
  simp only[Bool.and_eq_true] at h
  have:=Nat.eq_of_beq_eq_true h.1
  subst this
  exact⟨hu,C5 h.2⟩
 ·rename_i n e m u hu
  simp only[Bool.and_eq_true] at h
  have:=Nat.eq_of_beq_eq_true h.1
  subst this
  exact⟨e,hu,C5 h.2.1,by simpa using h.2.2⟩
 ·rename_i fs hu
  simp only[Bool.and_eq_true,Bool.not_eq_true'] at h
  exact⟨fs,hu,zqb h.1,h.2.1,h.2.2⟩
 ·rename_i fs a b hu
  simp only[Bool.and_eq_true,Bool.not_eq_true'] at h
  exact⟨fs,hu,zqb h.1,h.2.1,h.2.2⟩
 ·cases h
def Ax(P:Program)(E:Env)(T:TypeId)(t:Ty):Bool:=
 match P.info? T with
 |some i=>Nat.beq i.size t.cells&&(Nat.beq i.bytes (E.bytes T)&&match i.zero with
  |some v=>Ec t v
  |none=>false)
 |none=>false
def BI(P:Program)(E:Env)(T:TypeId):Bool:=
 match E.ty T with
 |some t=>Ax P E T t&&Cx P E T t
 |none=>true
theorem aju{T:TypeId}{t:Ty}(h:BI P E T=true)(ht:E.ty T=some t):lI P E T t:=by
 unfold BI at h
 rw[ht] at h
 simp only[Bool.and_eq_true] at h
 refine⟨?_,akg h.2⟩
 have h1:=h.1
 unfold Ax at h1
 split at h1
 ·rename_i i hi
  simp only[Bool.and_eq_true] at h1
  obtain⟨g1,g2,g3⟩:=h1
  split at g3
  ·rename_i v hv
   exact⟨i,hi,Nat.eq_of_beq_eq_true g1,Nat.eq_of_beq_eq_true g2,by rw[hv,ag9 g3]⟩
  ·cases g3
 ·cases h1
def Rv(P:Program)(T:TypeId):Bool:=
 match P.underlying T,P.info? T with
 |some (.pointer _),some i=>Nat.beq i.size 1
 |_,_=>false
structure pD where
 FO:List (Option Ty)
 Ye:List Nat
 AF:List Bool
 Ru:List (TypeId×TypeId×TypeId):=[]
def xq:List (TypeId×TypeId×TypeId)->TypeId->Option (TypeId×TypeId)
 | [],_=>none
 |q::r,T=>bif Nat.beq q.1 T then some q.2 else xq r T
def ZA(P:Program)(q:TypeId×TypeId×TypeId):Bool:=
 match P.underlying q.1 with
 |some (.map k e)=>Nat.beq k q.2.1&&Nat.beq e q.2.2
 |_=>false
theorem NN{P:Program}:∀{l:List (TypeId×TypeId×TypeId)},l.all (ZA P)=true->∀{T k e:TypeId},xq l T=some (k,e)->P.underlying T=some (.map k e)
 |q::r,hl,T,k,e,h=>by
  simp only[List.all_cons,Bool.and_eq_true] at hl
  unfold xq at h
  cases hq:Nat.beq q.1 T with
  |false=>rw[hq] at h;exact NN hl.2 h
  |true=>
   rw[hq] at h
   have:=Nat.eq_of_beq_eq_true hq
   subst this
   have h1:=hl.1
   unfold ZA at h1
   split at h1
   ·rename_i k' e' hu
    simp only[Bool.and_eq_true] at h1
    have a1:=Nat.eq_of_beq_eq_true h1.1
    have a2:=Nat.eq_of_beq_eq_true h1.2
    rw[hu,a1,a2]
    have h:some q.2=some (k,e):=h
    injection h with h
    rw[h]
   ·cases h1
def pD.env(t:pD)(dm lj:Nat->List Nat)(outs:List Nat)(ps:List Ty):Env:=⟨fun T=>t.FO.getD T none,fun T=>t.Ye.getD T 0,fun T=>t.AF.getD T false,dm,lj,outs,ps,xq t.Ru,fun _=>none,fun _=>none,fun _=>[],[],false,[],fun _=>[],fun _=>none,fun _=>none,fun _=>false,none,none⟩
def pD.tC(t:pD):Env:=t.env (fun _=>[]) (fun _=>[]) [] []
def pD.ok(P:Program)(t:pD):Bool:=(List.range t.FO.length).all (BI P t.tC)&&((List.range t.AF.length).all (fun T=> !t.AF.getD T false||Rv P T)&&t.Ru.all (ZA P))
theorem rY{E':Env}(h1:E.ty=E'.ty)(h2:E.bytes=E'.bytes){T:TypeId}{t:Ty}(h:lI P E T t):lI P E' T t:=by
 have dd:∀(fl:List Field) (t:Ty) (off:Nat),jh E fl t off->jh E' fl t off:=by
  intro fl
  induction fl with
  |nil=>intro t off h;cases t<;>simp_all [jh]
  |cons f r ih=>
   intro t off h
   cases t<;>simp only[jh] at h⊢ <;>try exact h
   exact⟨h.1,by rw[<-h1];exact h.2.1,h.2.2.1,ih _ _ h.2.2.2⟩
 refine⟨by rw[<-h2];exact h.info,?_⟩
 have hu:=h.dj
 cases t with
 |bool=>exact hu
 |int k=>exact hu
 |str=>exact hu
 |sl e u=>exact⟨hu.1,by rw[<-h1];exact hu.2⟩
 |arr n u=>obtain⟨e,g1,g2⟩:=hu;exact⟨e,g1,by rw[<-h1];exact g2⟩
 |unit=>obtain⟨fs,g1,g2,g3⟩:=hu;exact⟨fs,g1,dd _ _ _ g2,g3⟩
 |pair a b=>obtain⟨fs,g1,g2,g3⟩:=hu;exact⟨fs,g1,dd _ _ _ g2,g3⟩
 |aJ k a b=>exact hu.elim
theorem ap.join(h:ap P E)(j:Nat->Option (List Nat)):ap P {E with join:=j}:=
 ⟨fun T u hT=>rY (E:=E) (E':={E with join:=j}) rfl rfl (h.ty T u hT),h.pt,h.p1,h.mp,h.bl,h.gr,h.gz,h.g3,h.ga⟩
theorem ap.fz(h:ap P E)(j:Nat->Option (Nat×TypeId)):ap P {E with fz:=j}:=
 ⟨fun T u hT=>rY (E:=E) (E':={E with fz:=j}) rfl rfl (h.ty T u hT),h.pt,h.p1,h.mp,h.bl,h.gr,h.gz,h.g3,h.ga⟩
theorem ap.dr(h:ap P E)(j:Nat->List Nat):ap P {E with dr:=j}:=
 ⟨fun T u hT=>rY (E:=E) (E':={E with dr:=j}) rfl rfl (h.ty T u hT),h.pt,h.p1,h.mp,h.bl,h.gr,h.gz,h.g3,h.ga⟩
theorem ap.sh(h:ap P E)(j:List Nat):ap P {E with sh:=j}:=
 ⟨fun T u hT=>rY (E:=E) (E':={E with sh:=j}) rfl rfl (h.ty T u hT),h.pt,h.p1,h.mp,h.bl,h.gr,h.gz,h.g3,h.ga⟩
theorem ap.mv(h:ap P E)(j:List Nat):ap P {E with mv:=j}:=
 ⟨fun T u hT=>rY (E:=E) (E':={E with mv:=j}) rfl rfl (h.ty T u hT),h.pt,h.p1,h.mp,h.bl,h.gr,h.gz,h.g3,h.ga⟩
theorem ap.fr(h:ap P E)(j:Nat->List Nat):ap P {E with fr:=j}:=
 ⟨fun T u hT=>rY (E:=E) (E':={E with fr:=j}) rfl rfl (h.ty T u hT),h.pt,h.p1,h.mp,h.bl,h.gr,h.gz,h.g3,h.ga⟩
def blB(P:Program)(T:TypeId):Bool:=
 match P.info? T with
 |some i=>match i.zero with
  |some (.agg a)=>match a.toList with
   | [.pointer none,.slice none 0 0]=>true
   |_=>false
  |_=>false
 |none=>false
theorem ap.gn(h:ap P E)(T e:TypeId)(hT:blB P T=true):ap P {E with bl:=fun t=>bif Nat.beq t T then some e else none}:=
 ⟨fun T' u hT=>rY (E:=E) (E':={E with bl:=fun t=>bif Nat.beq t T then some e else none}) rfl rfl (h.ty T' u hT),h.pt,h.p1,h.mp,fun T' e' he=>by
   have he:(bif Nat.beq T' T then some e else none)=some e':=he
   cases hb:Nat.beq T' T with
   |false=>rw[hb] at he;cases he
   |true=>
    have:=Nat.eq_of_beq_eq_true hb
    subst this
    unfold blB at hT
    split at hT
    case h_2=>cases hT
    rename_i i hi
    split at hT
    case h_2=>cases hT
    rename_i a ha
    split at hT
    case h_2=>cases hT
    rename_i hl
    exact⟨i,hi,by rw[ha];congr 1;congr 1;apply Array.ext';rw[hl]⟩,h.gr,h.gz,h.g3,h.ga⟩
def Yq(P:Program)(T:TypeId)(a:Ty):Bool:=
 match P.underlying T with
 |some (.struct fs)=>[0,1,2].all fun j=>match fs[j]? with
  |some f=>Nat.beq f.offset (mV a [j])&&match P.info? f.type with
   |some i=> !(Nat.beq i.size 0)
   |none=>false
  |none=>false
 |_=>false
def Yo(P:Program)(T:TypeId):Bool:=
 match P.underlying T with
 |some (.array 2 e)=>match P.info? e with
  |some i=>Nat.beq i.size 1
  |none=>false
 |_=>false
theorem an4{T:TypeId}{a:Ty}(h:Yq P T a=true):∃fs,P.underlying T=some (.struct fs)/\∀j,j<=2->∃f i,fs[j]? =some f/\f.offset=mV a [j]/\P.info? f.type=some i/\i.size≠0:=by
 unfold Yq at h
 split at h
 case h_2=>cases h
 rename_i fs hu
 refine⟨fs,hu,fun j hj=> ?_⟩
 have:=List.all_eq_true.1 h j (by match j,hj with|0,_=>simp|1,_=>simp|2,_=>simp)
 split at this
 case h_2=>cases this
 rename_i f hf
 rw[Bool.and_eq_true] at this
 obtain⟨h1,h2⟩:=this
 split at h2
 case h_2=>cases h2
 rename_i i hi
 exact⟨f,i,hf,Nat.eq_of_beq_eq_true h1,hi,fun e=>by rw[e] at h2;simp at h2⟩
theorem an3{T:TypeId}(h:Yo P T=true):∃e i,P.underlying T=some (.array 2 e)/\P.info? e=some i/\i.size=1:=by
 unfold Yo at h
 split at h
 case h_2=>cases h
 rename_i e hu
 split at h
 case h_2=>cases h
 rename_i i hi
 exact⟨e,i,hu,hi,Nat.eq_of_beq_eq_true h⟩
def Yr(P:Program)(T:TypeId)(a:Ty):Bool:=
 match P.info? T with
 |some i=>match i.zero with
  |some (.agg cs)=>Gk (cs.toList.take a.cells) (zp a)&&(match cs.toList.drop a.cells with
   | [.pointer none,.pointer none,.int .i64 n]=>decide (n=0)
   |_=>false)
  |_=>false
 |none=>false
theorem an5{T:TypeId}{a:Ty}(h:Yr P T a=true):∃i,P.info? T=some i/\i.zero=some (.agg (zp a++ [Value.pointer none,Value.pointer none,Value.int .i64 0]).toArray):=by
 unfold Yr at h
 split at h
 case h_2=>cases h
 rename_i i hi
 split at h
 case h_2=>cases h
 rename_i cs ey
 rw[Bool.and_eq_true] at h
 obtain⟨h1,h2⟩:=h
 split at h2
 case h_2=>cases h2
 rename_i n hd
 have:=of_decide_eq_true h2
 subst this
 refine⟨i,hi,?_⟩
 rw[ey,<-RT h1,<-hd,List.take_append_drop]
def Yn(P:Program)(E:Env)(T:TypeId)(a:Ty):Bool:=
 match P.underlying T with
 |some (.struct fs)=>(match fs.toList with
  |f::_=>Nat.beq f.offset 0&&uH E f.type a
  | []=>false)&&fs.toList.all fun f=>(P.info? f.type).isSome
 |_=>false
theorem an2{T:TypeId}{a:Ty}(h:Yn P E T a=true):∃fs f,P.underlying T=some (.struct fs)/\fs[0]? =some f/\f.offset=0/\E.ty f.type=some a/\∀f∈fs.toList,∃i,P.info? f.type=some i:=by
 unfold Yn at h
 split at h
 case h_2=>cases h
 rename_i fs hu
 rw[Bool.and_eq_true] at h
 obtain⟨h1,h2⟩:=h
 split at h1
 case h_2=>cases h1
 rename_i f r hl
 rw[Bool.and_eq_true] at h1
 refine⟨fs,f,hu,by rw[<-Array.getElem?_toList,hl];rfl,Nat.eq_of_beq_eq_true h1.1,C5 h1.2,fun g hg=> ?_⟩
 exact Option.isSome_iff_exists.1 (List.all_eq_true.1 h2 g hg)
theorem ap.bN(h:ap P E)(T A:TypeId)(a b:Ty)(hT:Yq P T a=true)(hZ:Yr P T a=true)(h3:Yn P E T a=true)(hA:Yo P A=true):ap P {E with gr:=fun t=>bif Nat.beq t T then some (a,b) else none,ga:=fun t=>Nat.beq t A}:=
 ⟨fun T' u ve=>rY (E:=E) (E':={E with gr:=fun t=>bif Nat.beq t T then some (a,b) else none,ga:=fun t=>Nat.beq t A}) rfl rfl (h.ty T' u ve),h.pt,h.p1,h.mp,h.bl,fun T' a' b' he=>by
   have he:(bif Nat.beq T' T then some (a,b) else none)=some (a',b'):=he
   cases hb:Nat.beq T' T with
   |false=>rw[hb] at he;cases he
   |true=>
    have:=Nat.eq_of_beq_eq_true hb
    subst this
    rw[hb] at he
    cases he
    exact an4 hT,fun T' a' b' he=>by
   have he:(bif Nat.beq T' T then some (a,b) else none)=some (a',b'):=he
   cases hb:Nat.beq T' T with
   |false=>rw[hb] at he;cases he
   |true=>
    have:=Nat.eq_of_beq_eq_true hb
    subst this
    rw[hb] at he
    cases he
    exact an5 hZ,fun T' a' b' he=>by
   have he:(bif Nat.beq T' T then some (a,b) else none)=some (a',b'):=he
   cases hb:Nat.beq T' T with
   |false=>rw[hb] at he;cases he
   |true=>
    have:=Nat.eq_of_beq_eq_true hb
    subst this
    rw[hb] at he
    cases he
    exact an2 (E:=E) h3,fun T' he=>by
   have:=Nat.eq_of_beq_eq_true (show Nat.beq T' A=true from he)
   subst this
   exact an3 hA⟩
theorem ap.sg(h:ap P E)(j:Option (Nat×Nat×Nat)):ap P {E with sg:=j}:=
 ⟨fun T u hT=>rY (E:=E) (E':={E with sg:=j}) rfl rfl (h.ty T u hT),h.pt,h.p1,h.mp,h.bl,h.gr,h.gz,h.g3,h.ga⟩
theorem ap.sp(h:ap P E)(j:Option (Nat×Nat×Nat×Nat)):ap P {E with sp:=j}:=
 ⟨fun T u hT=>rY (E:=E) (E':={E with sp:=j}) rfl rfl (h.ty T u hT),h.pt,h.p1,h.mp,h.bl,h.gr,h.gz,h.g3,h.ga⟩
theorem ap.ro(h:ap P E)(j:Bool):ap P {E with ro:=j}:=
 ⟨fun T u hT=>rY (E:=E) (E':={E with ro:=j}) rfl rfl (h.ty T u hT),h.pt,h.p1,h.mp,h.bl,h.gr,h.gz,h.g3,h.ga⟩
theorem pD.lS{t:pD}(h:t.ok P=true)(dm lj:Nat->List Nat)(outs:List Nat)(ps:List Ty):ap P (t.env dm lj outs ps):=by
 unfold pD.ok at h
 simp only[Bool.and_eq_true] at h
 have lf:∀T,t.AF.getD T false=true->Rv P T=true:=fun T ve=>by
  have aq:T<t.AF.length:=by
   rcases Nat.lt_or_ge T t.AF.length with h1|h1
   ·exact h1
   ·rw[List.getD_eq_getElem?_getD,List.getElem?_eq_none h1] at ve;cases ve
  have:=List.all_eq_true.1 h.2.1 T (List.mem_range.2 aq)
  rw[ve] at this
  simpa using this
 refine⟨fun T u hT=> ?_,fun T hT=> ?_,fun T hT=> ?_,fun T k e hT=>NN h.2.2 hT,fun T e hT=>(by cases hT),fun T a b hT=>(by cases hT),fun T a b hT=>(by cases hT),fun T a b hT=>(by cases hT),fun T hT=>by cases hT⟩
 ·refine rY (E:=t.tC) (E':=t.env dm lj outs ps) rfl rfl (aju ?_ hT)
  refine List.all_eq_true.1 h.1 T (List.mem_range.2 ?_)
  have ve:t.FO.getD T none=some u:=hT
  rcases Nat.lt_or_ge T t.FO.length with h1|h1
  ·exact h1
  ·rw[List.getD_eq_getElem?_getD,List.getElem?_eq_none h1] at ve;cases ve
 ·have:=lf T hT
  unfold Rv at this
  split at this
  ·rename_i e i he _;exact⟨e,he⟩
  ·cases this
 ·have:=lf T hT
  unfold Rv at this
  split at this
  ·rename_i e i _ hi;exact⟨i,hi,Nat.eq_of_beq_eq_true this⟩
  ·cases this
end Go.Ref

namespace Go.Ref
open Go
variable {P:Program} {E:Env}
abbrev Pure:=(R:Type)->List SV->Option bB->(List SV->Option bB->Option R)->Option R
def Pure.Nat(g:Pure):Prop:=∀(R S:Type) l b (F:List SV->Option bB->Option R) (G:List SV->Option bB->Option S) (K:S->Option R),(∀r b,F r b=(G r b).bind K)->g R l b F=(g S l b G).bind K
def ah.none:ah:=fun _ _ _ _ _=> .none
def ah.add(C:ah)(n:FuncId)(ps:List Ty)(g:Pure):ah:=fun R f l b K=>bif Nat.beq f n then g R (aM ps l) b K else C R f l b K
theorem ajU:ah.none.Nat:=fun _ _ _ _ _ _ _ _ _=>rfl
theorem agj(f:FuncId):cV P ah.none f:=fun _ _ _ _ h=>by cases h
theorem Vn{C:ah}{n:FuncId}{ps:List Ty}{g:Pure}(hC:C.Nat)(hg:g.Nat):(C.add n ps g).Nat:=fun R S f l b F G K h=>by
 unfold ah.add
 cases Nat.beq f n with
 |false=>exact hC R S f l b F G K h
 |true=>exact hg R S _ b F G K h
theorem aiY(hE:ap P E)(hm:P.follows .mixedOrders=true){C:ah}(hC:C.Nat)(h0:∀f,cV P C f){n:FuncId}{ps:List Ty}{g:Pure}{fn:Func}{code:Code}(iB:P.funcs[n]? =some fn)(tW:(fn.name== "runtime.NumGoroutine")=false)(qd:fn.body=some code)
 (h:∀(l:List SV) (b:Option bB) (r:List SV) (b':Option bB),g (List SV×Option bB) (aM ps l) b (fun r b=>some (r,b))=some (r,b')->∃k,jr E (C (List SV×Option bB)) k fn code l b (fun r b=>some (r,b))=some (r,b')):∀f,cV P (C.add n ps g) f:=by
 intro f
 by_cases e:f=n
 ·subst e
  refine amc hE hm hC h0 iB tW qd fun l b r b' hc=>h l b r b' ?_
  unfold ah.add at hc
  have:Nat.beq f f=true:=by simp
  rw[this] at hc
  exact hc
 ·intro l b r b' hc
  unfold ah.add at hc
  have:Nat.beq f n=false:=by
   cases hh:Nat.beq f n with
   |false=>rfl
   |true=>exact absurd (Nat.eq_of_beq_eq_true hh) e
  rw[this] at hc
  exact h0 f l b r b' hc
def sub:List Nat->Code->Code
 | [],c=>c
 |0::p,.seq a _=>sub p a
 |_::p,.seq _ b=>sub p b
 |0::p,.cond _ a _=>sub p a
 |_::p,.cond _ _ b=>sub p b
 |_::p,.block _ b=>sub p b
 |_::p,.loop b=>sub p b
 |_,c=>c
section
variable {R:Type}
def zj(id:Nat)(K:Ex->State->Option R):Ex->State->Option R:=fun e s=>match e with
 | .exit j=>bif Nat.beq j id then K .normal s else K (.exit j) s
 |e=>K e s
def aT(E:Env)(C:FuncId->bU R)(k:Nat)(b:Code)(K:Ex->State->Option R):Ex->State->Option R:=fun e s=>match e with
 | .normal=>ni E k (uN b) s fun s=>ev E C k b s K
 |e=>K e s
def aS(E:Env)(rs:List ResultVar)(bx:Option bB)(K:List SV->Option bB->Option R):Ex->State->Option R:=fun e s=>match e with
 | .exit _=>none
 |_=>match gD E s rs with
  |some (l,s')=>GH s' bx (gC E l) K
  |none=>none
end
section
variable {R:Type}
def fM(l:List SV)(K:Option R):Option R:=
 match l with
 | []=>K
 |_=>none
def fN(t:Ty)(l:List SV)(K:El t->Option R):Option R:=
 match l with
 | [a]=>a.el t K
 |_=>none
def fp(t u:Ty)(l:List SV)(K:El t->El u->Option R):Option R:=
 match l with
 | [a,b]=>a.el t fun x=>b.el u fun y=>K x y
 |_=>none
def kV(t u v:Ty)(l:List SV)(K:El t->El u->El v->Option R):Option R:=
 match l with
 | [a,b,c]=>a.el t fun x=>b.el u fun y=>c.el v fun z=>K x y z
 |_=>none
def kW(t u v w:Ty)(l:List SV)(K:El t->El u->El v->El w->Option R):Option R:=
 match l with
 | [a,b,c,d]=>a.el t fun x=>b.el u fun y=>c.el v fun z=>d.el w fun z'=>K x y z z'
 |_=>none
end
theorem al7{R:Type}{t:Ty}{v:SV}{r:List Ty}{q:List SV}{K:El t->Option R}{z:R}{v':SV}{q':List SV}(hn:aM (t::r) (v::q)=v'::q')(h:v'.el t K=some z):∃y,v'= .aj t y []/\q'=aM r q/\K y=some z:=by
 have key:v'=v.shut/\q'=aM r q\/(∃e u,t= .sl e u/\v'= .aj (.sl e u) ([]:List (El u)) []/\q'=aM r q):=by
  cases t<;>cases v<;>simp only[aM,List.cons.injEq] at hn<;>first|exact .inl ⟨hn.1.symm,hn.2.symm⟩|exact .inr ⟨_,_,rfl,hn.1.symm,hn.2.symm⟩
 rcases key with⟨rfl,rfl⟩|⟨e,u,rfl,rfl,rfl⟩
 ·cases v with
  |aj t' x own=>
   simp only[SV.shut,SV.el] at h
   split at h
   ·rename_i heq
    have:=Ty.aI heq
    subst this
    exact⟨x,rfl,rfl,h⟩
   ·cases h
  |cF=>cases t<;>first|(simp [SV.shut,SV.el] at h;done)|(simp [aM,SV.shut] at hn;done)
  |_=>simp [SV.shut,SV.el] at h
 ·simp only[SV.el,Ty.cj,dite_true] at h
  exact⟨[],rfl,rfl,h⟩
theorem zqi(hE:ap P E){H:Type}{enc:TypeId×Value->H}{w:World}{spare:Nat->Bool}{held:Bool}{β:Nat->Option Nat}{base b:Nat}{T:TypeId}{t:Ty}{v:Value}{d:DataW H}{ps:List MemPlace}(hT:E.ty T=some t)(ij:t.gi=true)
 (hv:Value.okWide P w .any b T v) (hd:DataW.Trod enc P w base spare held T v d ps):∃y:El t,Wf t y/\∀q,aA (uU w β) q (.aj t y []) v:=by
 obtain⟨cq,hd⟩:=hd
 obtain⟨y,r,wf⟩:=(amp (β:=β) hE t).1 T cq _ _ hT ij hd
 refine⟨y,wf,fun q=>⟨_,r,?_,mu⟩⟩
 have hu:=(hE.ty T t hT).dj
 have hl:=r.len
 cases ht:t.agg with
 |true=>
  rw[jx ht]
  have:∃cs,v= .agg cs:=by
   unfold Value.okWide at hv
   cases t with
   |arr n t=>obtain⟨e,h1,_⟩:=hu;rw[h1] at hv;obtain⟨cs,h,_⟩:=hv;exact⟨cs,h⟩
   |unit=>obtain⟨fs,h1,_⟩:=hu;rw[h1] at hv;obtain⟨cs,h,_⟩:=hv;exact⟨cs,h⟩
   |pair a b=>obtain⟨fs,h1,_⟩:=hu;rw[h1] at hv;obtain⟨cs,h,_⟩:=hv;exact⟨cs,h⟩
   |aJ k a b=>exact absurd (hE.iL hT) (by simp [Ty.bF])
   |_=>simp [Ty.agg] at ht
  obtain⟨cs,rfl⟩:=this
  rfl
 |false=>
  have YU:∀cs,v≠ .agg cs:=by
   rintro cs rfl
   unfold Value.okWide at hv
   cases t with
   |bool=>have hu:P.underlying T=some .bool:=hu;rw[hu] at hv;unfold Cell.okWide at hv;rw[hu] at hv;unfold Cell.ok at hv;rw[hu] at hv;exact hv
   |int k=>have hu:P.underlying T=some (.int k):=hu;rw[hu] at hv;unfold Cell.okWide at hv;rw[hu] at hv;unfold Cell.ok at hv;rw[hu] at hv;exact hv
   |str=>have hu:P.underlying T=some .string:=hu;rw[hu] at hv;unfold Cell.okWide at hv;rw[hu] at hv;unfold Cell.ok at hv;rw[hu] at hv;exact hv
   |sl e t=>have hu:P.underlying T=some (.slice e):=hu.1;rw[hu] at hv;unfold Cell.okWide at hv;rw[hu] at hv;unfold Cell.ok at hv;rw[hu] at hv;exact hv
   |_=>simp [Ty.agg] at ht
  have hc:v.cells.toList=[v]:=by
   cases v<;>first|rfl|exact absurd rfl (YU _)
  rw[hc,Qa ht]
theorem ads{w:World}{β:Nat->Option Nat}{Y:ax}(h:Ext (uU w β) Y):∀g,g<w.heap.size->Y.w.heap[g]? =w.heap[g]? :=fun g hg=>(h.still g hg trivial).2
end Go.Ref

namespace Go.Ref
open Go
theorem Eb{x:Int}(h1: -9223372036854775808<=x)(h2:x<=9223372036854775807):IntKind.i64.wrap x=x:=by
 simp [IntKind.wrap,IntKind.signed,IntKind.bits]
 omega
theorem ag7{R:Type}{j n:Nat}{x:Option R}(h:j<n):zd (j:Int) n x=x:=by
 unfold zd
 rw[decide_eq_true (by omega:(0:Int)<=j),decide_eq_true (by omega:(j:Int)<n)]
 rfl
variable {P:Program} {E:Env}
def Qe(X:ax):List SV->List Value->Prop
 | [],[]=>True
 |s::l,v::vs=>(∀q,aA X q s v)/\(∀id t p,s≠ .ptr id t p)/\Qe X l vs
 |_,_=>False
theorem zuq{X:ax}:∀{l:List SV} {vs:List Value},Qe X l vs->vs.length=l.length/\∀(i:Nat) s v,l[i]? =some s->vs[i]? =some v->(∀q,aA X q s v)/\∀id t p,s≠ .ptr id t p
 | [],[],_=>⟨rfl,fun i s v h=>by simp at h⟩
 |s::l,v::vs,h=>by
  obtain⟨h1,h2,h3⟩:=h
  obtain⟨g1,g2⟩:=zuq h3
  refine⟨by simp [g1],fun i s' v' hs hv=> ?_⟩
  cases i with
  |zero=>
   simp only[List.getElem?_cons_zero,Option.some.injEq] at hs hv
   subst hs hv
   exact⟨h1,h2⟩
  |succ i=>
   simp only[List.getElem?_cons_succ] at hs hv
   exact g2 i s' v' hs hv
theorem ajr{X:ax}{l:List SV}{args:Array Value}(h:Qe X l args.toList)(hX:∀g pl n,X.ow g≠ .row pl n)(hβ:∀id,X.β id=none):jG X l none args:=by
 obtain⟨h1,h2⟩:=zuq h
 refine⟨by simpa using h1,fun i sv v hs hv=>(h2 i sv v hs (by simpa using hv)).1 _,fun id t p hm=> ?_,fun B hB=>(by cases hB),fun _=>hX,List.any_eq_false.2 fun v hm=> ?_⟩
 ·obtain⟨i,hi⟩:=List.mem_iff_getElem?.1 hm
  have aq:=(List.getElem?_eq_some_iff.1 hi).1
  have fW:i<args.toList.length:=by omega
  exact absurd rfl ((h2 i _ _ hi (List.getElem?_eq_getElem fW)).2 id t p)
 ·obtain⟨i,hi⟩:=List.mem_iff_getElem?.1 hm
  have aq:=(List.getElem?_eq_some_iff.1 hi).1
  have fW:i<args.toList.length:=by omega
  have hv:=(h2 i _ _ hi (List.getElem?_eq_getElem fW)).1 (fun _=> .r 0 [])
  cases v with
  |bz id c d j=>
   obtain⟨r,e,_⟩:=hv
   rw[hβ id] at e
   cases e
  |_=>simp [SV.bK]
theorem agB{C:ah}{f:FuncId}(ho:cV P C f){l:List SV}{args:Array Value}{W:World}{b:Bool}(hc:C (List SV×Option bB) f l none (fun r b=>some (r,b))=some ([.aj .bool b []],none))(gV:Qe (uU W fun _=>none) l args.toList):
 Calls P f args W fun e w'=>e= .returned (.bool b)/\RowKit.Below W.heap.size W w':=by
 refine((ho l none _ _ hc).2 (uU W fun _=>none) args (ajr gV (fun g pl n e=>by cases e) fun _=>rfl)).mono fun e w' he=> ?_
 cases e with
 |returned v=>
  obtain⟨Y,rfl,aZ,r0,aL,_,_,_⟩:=he
  have aL:aA {Y with β:=fun _=>some r0} (.r 0) (.aj .bool b []) v:=aL
  refine⟨by rw[OK aL],aZ.os,aZ.tape,aZ.output,aZ.size,fun k hk=>ads aZ k hk⟩
 |panicked c=>exact he.elim
 |outgrown=>exact he.elim
end Go.Ref

namespace Go.Ref
open Go
variable {P:Program} {E:Env}
def bs(l:List Nat):ByteArray:=⟨(l.map UInt8.ofNat).toArray⟩
@[irreducible] def ag:Nat:=18446744073709551616
theorem ac8{R:Type}(f:Unit->Option R):cH ag f=f ():=by
 have:ag=18446744073709551615+1:=by unfold ag;rfl
 rw[this];rfl
section
variable {R S:Type}
def lh(body:State->(Ex->State->Option R)->Option R)(l lx:List Nat)(k:Nat)(K:Ex->State->Option R):Ex->State->Option R:=fun e s=>match e with
 | .normal=>rG l s fun s=>aB body l lx k s K
 |e=>rG lx s fun s=>K e s
def jP(t:Ty)(own:List (List Nat))(l:List SV)(b:Option bB)(K:El t->List SV->Option R):Option R:=
 match l,b with
 | .ptr 0 u []::r,some B=>if h:B.t.cp t=true then if(u.cp t&&B.own==own)=true then K (Ty.cast h B.x) r else none else none
 |_,_=>none
def kU(t pt bt:Ty)(own:List (List Nat))(l:List SV)(b:Option bB)(K:El t->El bt->Option R):Option R:=
 match l,b with
 | [a,.ptr 0 u []],some B=>if h:B.t.cp bt=true then if(u.cp pt&&B.own==own)=true then a.el t fun y=>K y (Ty.cast h B.x) else none else none
 |_,_=>none
def GF(t u v w:Ty)(l:List SV)(K:El t->El u->El v->El w->Option R):Option R:=
 match l with
 | [a,b,.view v' x,.view w' y]=>if h:v'.cp v=true then if h2:w'.cp w=true then a.el t fun p=>b.el u fun q=>K p q (Ty.cast h x) (Ty.cast h2 y) else none else none
 |_=>none
def gb(b:Option bB)(K:Option R):Option R:=
 match b with
 |none=>K
 |some _=>none
theorem Ek{b:Option bB}{F:Option R}{G:Option S}{K:S->Option R}(h:F=G.bind K):gb b F=(gb b G).bind K:=by
 cases b
 ·exact h
 ·rfl
theorem Eh{b:Option bB}{F:Option R}{z:R}(h:gb b F=some z):b=none/\F=some z:=by
 cases b
 ·exact⟨rfl,h⟩
 ·cases h
theorem zhm(c:Bool)(x y:Option S)(F:S->Option R):(bif c then x else y).bind F=bif c then x.bind F else y.bind F:=by cases c<;>rfl
theorem aco(i:Int)(n:Nat)(x:Option S)(F:S->Option R):(zd i n x).bind F=zd i n (x.bind F):=by
 unfold zd;rw[zhm,zhm];rfl
theorem agi(F:S->Option R):(none:Option S).bind F=none:=Eq.trans rfl rfl
theorem zc(x:S)(F:S->Option R):(some x).bind F=F x:=Eq.trans rfl rfl
theorem aj9{α β:Type}(f:α->Option S)(g:β->Option S)(e:α⊕β)(F:S->Option R):(Sum.elim f g e).bind F=Sum.elim (fun x=>(f x).bind F) (fun x=>(g x).bind F) e:=by cases e<;>rfl
theorem afq{α:Type}(x:Option α)(f:α->Option S)(F:S->Option R):(x.bind f).bind F=x.bind fun y=>(f y).bind F:=by cases x<;>rfl
theorem zh8{l:List SV}{F:Option R}{G:Option S}{K:S->Option R}(h:F=G.bind K):fM l F=(fM l G).bind K:=by
 unfold fM;split
 ·exact h
 ·rfl
theorem zh9{t:Ty}{l:List SV}{F:El t->Option R}{G:El t->Option S}{K:S->Option R}(h:∀x,F x=(G x).bind K):fN t l F=(fN t l G).bind K:=by
 unfold fN;split
 ·exact zt h
 ·rfl
theorem zha{t u:Ty}{l:List SV}{F:El t->El u->Option R}{G:El t->El u->Option S}{K:S->Option R}(h:∀x y,F x y=(G x y).bind K):fp t u l F=(fp t u l G).bind K:=by
 unfold fp;split
 ·exact zt fun x=>zt fun y=>h x y
 ·rfl
theorem afl{t u v:Ty}{l:List SV}{F:El t->El u->El v->Option R}{G:El t->El u->El v->Option S}{K:S->Option R}(h:∀x y z,F x y z=(G x y z).bind K):kV t u v l F=(kV t u v l G).bind K:=by
 unfold kV;split
 ·exact zt fun x=>zt fun y=>zt fun z=>h x y z
 ·rfl
theorem afm{t u v w:Ty}{l:List SV}{F:El t->El u->El v->El w->Option R}{G:El t->El u->El v->El w->Option S}{K:S->Option R}(h:∀x y z a,F x y z a=(G x y z a).bind K):kW t u v w l F=(kW t u v w l G).bind K:=by
 unfold kW;split
 ·exact zt fun x=>zt fun y=>zt fun z=>zt fun a=>h x y z a
 ·rfl
theorem O9{t:Ty}{own:List (List Nat)}{l:List SV}{b:Option bB}{F:El t->List SV->Option R}{G:El t->List SV->Option S}{K:S->Option R}(h:∀x r,F x r=(G x r).bind K):jP t own l b F=(jP t own l b G).bind K:=by
 unfold jP;split
 ·split
  ·split
   ·exact h _ _
   ·rfl
  ·rfl
 ·rfl
theorem afk{t pt bt:Ty}{own:List (List Nat)}{l:List SV}{b:Option bB}{F:El t->El bt->Option R}{G:El t->El bt->Option S}{K:S->Option R}(h:∀x y,F x y=(G x y).bind K):kU t pt bt own l b F=(kU t pt bt own l b G).bind K:=by
 unfold kU;split
 ·split
  ·split
   ·exact zt fun y=>h _ _
   ·rfl
  ·rfl
 ·rfl
theorem acG{t u v w:Ty}{l:List SV}{F:El t->El u->El v->El w->Option R}{G:El t->El u->El v->El w->Option S}{K:S->Option R}(h:∀x y z a,F x y z a=(G x y z a).bind K):GF t u v w l F=(GF t u v w l G).bind K:=by
 unfold GF;split
 ·split
  ·split
   ·exact zt fun x=>zt fun y=>h x y _ _
   ·rfl
  ·rfl
 ·rfl
theorem rA{α:Type}{m:Option α}{F:α->Option R}{G:α->Option S}{K:S->Option R}(h:∀r,F r=(G r).bind K):m.bind F=(m.bind G).bind K:=by
 cases m with
 |none=>rfl
 |some x=>exact h x
theorem Qc{α β:Type}{f:α->Option R}{g:β->Option R}{f':α->Option S}{g':β->Option S}{K:S->Option R}{e:α⊕β}(h1:∀x,f x=(f' x).bind K)(h2:∀x,g x=(g' x).bind K):Sum.elim f g e=(Sum.elim f' g' e).bind K:=by
 cases e with
 |inl x=>exact h1 x
 |inr x=>exact h2 x
end
section
variable {R:Type}
theorem afW{C:FuncId->bU R}{k:Nat}{fn:Func}{code:Code}{l q:List SV}{b:Option bB}{K:List SV->Option bB->Option R}(h:aM E.ps l=q)(hq:aM E.ps q=q)(hl:q.length=l.length):jr E C k fn code l b K=jr E C k fn code q b K:=by
 unfold jr
 simp only[h,hq,hl]
theorem LB:∀{ts:List Ty} {q:List SV},(∀s∈q,s.shut=s/\s≠ .cF)->aM ts q=q
 |ts,[],_=>by cases ts<;>simp [aM]
 | [],q,_=>by simp [aM]
 |t::r,v::q,h=>by
  have h1:=h v (by simp)
  have h2:=LB (ts:=r) (q:=q) (fun s hs=>h s (by simp [hs]))
  cases t<;>cases v<;>simp [aM,h2]<;>first|exact h1.1|exact absurd rfl h1.2
theorem ajV{ts:List Ty}{l:List SV}(h:aM ts l=[]):l=[]:=by
 have:=Sh ts l
 rw[h] at this
 exact List.length_eq_zero_iff.1 this.symm
theorem LA{t:Ty}{r:List Ty}{l:List SV}{v':SV}{q':List SV}(h:aM (t::r) l=v'::q'):∃v q,l=v::q:=by
 cases l with
 |nil=>simp [aM] at h
 |cons v q=>exact⟨v,q,rfl⟩
theorem nF{t:Ty}{r:List Ty}{l:List SV}{a:SV}{q':List SV}{K:El t->Option R}{z:R}(hn:aM (t::r) l=a::q')(h:a.el t K=some z):∃y v q,a= .aj t y []/\l=v::q/\aM r q=q'/\K y=some z:=by
 obtain⟨v,q,rfl⟩:=LA hn
 obtain⟨y,h1,h2,h3⟩:=al7 hn h
 exact⟨y,v,q,h1,rfl,h2.symm,h3⟩
theorem En{l q:List SV}(hn:aM E.ps l=q)(hd:∀s∈q,s.shut=s/\s≠ .cF){C:FuncId->bU R}{k:Nat}{fn:Func}{code:Code}{b:Option bB}{K:List SV->Option bB->Option R}:jr E C k fn code l b K=jr E C k fn code q b K:=
 afW hn (LB hd) (by rw[<-hn,Sh])
theorem x6{t:Ty}{x:El t}:(SV.aj t x []).shut=SV.aj t x []/\SV.aj t x []≠ .cF:=⟨rfl,by simp⟩
def gI(E:Env)(l q:List SV):Prop:=∀{R:Type} (C:FuncId->bU R) (k:Nat) (fn:Func) (code:Code) (b:Option bB) (K:List SV->Option bB->Option R),jr E C k fn code l b K=jr E C k fn code q b K
theorem xu{l:List SV}{F:Option R}{z:R}(iV:E.ps=[])(h:fM (aM [] l) F=some z):F=some z/\gI E l []:=by
 unfold fM at h
 split at h
 ·rename_i hn
  have:=ajV hn
  subst this
  exact⟨h,fun C k fn code b K=>rfl⟩
 ·cases h
theorem J7{t:Ty}{l:List SV}{F:El t->Option R}{z:R}(iV:E.ps=[t])(h:fN t (aM [t] l) F=some z):∃x,F x=some z/\gI E l [.aj t x []]:=by
 unfold fN at h
 split at h
 ·rename_i a hn
  obtain⟨x,v,q,rfl,rfl,h1,h⟩:=nF hn h
  refine⟨x,h,fun C k fn code b K=>En (by rw[iV];exact hn) ?_⟩
  intro s hs
  simp only[List.mem_cons,List.not_mem_nil,or_false] at hs
  subst hs;exact x6
 ·cases h
theorem kg{t u:Ty}{l:List SV}{F:El t->El u->Option R}{z:R}(iV:E.ps=[t,u])(h:fp t u (aM [t,u] l) F=some z):∃x y,F x y=some z/\gI E l [.aj t x [],.aj u y []]:=by
 unfold fp at h
 split at h
 ·rename_i a b hn
  obtain⟨x,v,q,rfl,rfl,h1,h⟩:=nF hn h
  obtain⟨y,v',q',rfl,rfl,h2,h⟩:=nF h1 h
  refine⟨x,y,h,fun C k fn code b K=>En (by rw[iV];exact hn) ?_⟩
  intro s hs
  simp only[List.mem_cons,List.not_mem_nil,or_false] at hs
  rcases hs with rfl|rfl<;>exact x6
 ·cases h
theorem aaS{t u v:Ty}{l:List SV}{F:El t->El u->El v->Option R}{z:R}(iV:E.ps=[t,u,v])(h:kV t u v (aM [t,u,v] l) F=some z):∃x y a,F x y a=some z/\gI E l [.aj t x [],.aj u y [],.aj v a []]:=by
 unfold kV at h
 split at h
 ·rename_i a b c hn
  obtain⟨x,v,q,rfl,rfl,h1,h⟩:=nF hn h
  obtain⟨y,v',q',rfl,rfl,h2,h⟩:=nF h1 h
  obtain⟨w,v',q',rfl,rfl,h3,h⟩:=nF h2 h
  refine⟨x,y,w,h,fun C k fn code b K=>En (by rw[iV];exact hn) ?_⟩
  intro s hs
  simp only[List.mem_cons,List.not_mem_nil,or_false] at hs
  rcases hs with rfl|rfl|rfl<;>exact x6
 ·cases h
theorem aaT{t u v w:Ty}{l:List SV}{F:El t->El u->El v->El w->Option R}{z:R}(iV:E.ps=[t,u,v,w])(h:kW t u v w (aM [t,u,v,w] l) F=some z):∃x y a b,F x y a b=some z/\gI E l [.aj t x [],.aj u y [],.aj v a [],.aj w b []]:=by
 unfold kW at h
 split at h
 ·rename_i a b c d hn
  obtain⟨x,v,q,rfl,rfl,h1,h⟩:=nF hn h
  obtain⟨y,v',q',rfl,rfl,h2,h⟩:=nF h1 h
  obtain⟨w,v',q',rfl,rfl,h3,h⟩:=nF h2 h
  obtain⟨w',v',q',rfl,rfl,h4,h⟩:=nF h3 h
  refine⟨x,y,w,w',h,fun C k fn code b K=>En (by rw[iV];exact hn) ?_⟩
  intro s hs
  simp only[List.mem_cons,List.not_mem_nil,or_false] at hs
  rcases hs with rfl|rfl|rfl|rfl<;>exact x6
 ·cases h
theorem zh7{t:Ty}{own:List (List Nat)}{l:List SV}{b:Option bB}{F:El t->List SV->Option R}{z:R}(h:jP t own l b F=some z):∃x r,l= .ptr 0 t []::r/\b=some ⟨t,x,own⟩/\F x r=some z:=by
 unfold jP at h
 split at h
 ·rename_i u r B
  split at h
  ·rename_i hB
   split at h
   ·rename_i hu
    simp only[Bool.and_eq_true,beq_iff_eq] at hu
    obtain⟨h1,h2⟩:=hu
    obtain⟨Bt,Bx,Bo⟩:=B
    have:=Ty.aI hB
    have h3:=Ty.aI h1
    subst this
    subst h3
    subst h2
    exact⟨Bx,r,rfl,rfl,h⟩
   ·cases h
  ·cases h
 ·cases h
theorem aj3{ts:List Ty}{l:List SV}{t:Ty}{r:List SV}(h:aM (.unit::ts) l= .ptr 0 t []::r):∃q,l= .ptr 0 t []::q/\aM ts q=r:=by
 obtain⟨v,q,rfl⟩:=LA h
 cases v<;>simp [aM,SV.shut] at h
 obtain⟨⟨rfl,rfl,rfl⟩,h2⟩:=h
 exact⟨q,rfl,h2⟩
theorem OI{t:Ty}:(SV.ptr 0 t []).shut=SV.ptr 0 t []/\SV.ptr 0 t []≠ .cF:=⟨rfl,by simp⟩
theorem Cl{t:Ty}{own:List (List Nat)}{ts:List Ty}{l:List SV}{b:Option bB}{F:El t->List SV->Option R}{z:R}(h:jP t own (aM (.unit::ts) l) b F=some z):∃x q,l= .ptr 0 t []::q/\b=some ⟨t,x,own⟩/\F x (aM ts q)=some z:=by
 obtain⟨x,r,h1,h2,h3⟩:=zh7 h
 obtain⟨q,rfl,hq⟩:=aj3 h1
 exact⟨x,q,rfl,h2,by rw[hq];exact h3⟩
theorem gI.ptr{t:Ty}{ts:List Ty}{q q':List SV}(iV:E.ps= .unit::ts)(hn:aM ts q=q')(hd:∀s∈q',s.shut=s/\s≠ .cF):gI E (.ptr 0 t []::q) (.ptr 0 t []::q'):=fun C k fn code b K=>
 En (by rw[iV];simp [aM,SV.shut,hn]) (fun s hs=>by
  rcases List.mem_cons.1 hs with rfl|hs
  ·exact OI
  ·exact hd s hs)
theorem J8{t:Ty}{q:List SV}{F:Option R}{z:R}(iV:E.ps=[.unit])(h:fM (aM [] q) F=some z):F=some z/\gI E (.ptr 0 t []::q) [.ptr 0 t []]:=by
 unfold fM at h
 split at h
 ·rename_i hn
  exact⟨h,gI.ptr iV hn (by simp)⟩
 ·cases h
theorem J9{t u:Ty}{q:List SV}{F:El u->Option R}{z:R}(iV:E.ps=[.unit,u])(h:fN u (aM [u] q) F=some z):∃x,F x=some z/\gI E (.ptr 0 t []::q) [.ptr 0 t [],.aj u x []]:=by
 unfold fN at h
 split at h
 ·rename_i a hn
  obtain⟨x,v,q,rfl,rfl,h1,h⟩:=nF hn h
  refine⟨x,h,gI.ptr iV hn ?_⟩
  intro s hs
  simp only[List.mem_cons,List.not_mem_nil,or_false] at hs
  subst hs;exact x6
 ·cases h
theorem Ka{t u v:Ty}{q:List SV}{F:El u->El v->Option R}{z:R}(iV:E.ps=[.unit,u,v])(h:fp u v (aM [u,v] q) F=some z):∃x y,F x y=some z/\gI E (.ptr 0 t []::q) [.ptr 0 t [],.aj u x [],.aj v y []]:=by
 unfold fp at h
 split at h
 ·rename_i a b hn
  obtain⟨x,v,q,rfl,rfl,h1,h⟩:=nF hn h
  obtain⟨y,v',q',rfl,rfl,h2,h⟩:=nF h1 h
  refine⟨x,y,h,gI.ptr iV hn ?_⟩
  intro s hs
  simp only[List.mem_cons,List.not_mem_nil,or_false] at hs
  rcases hs with rfl|rfl<;>exact x6
 ·cases h
theorem Kc{t pt bt:Ty}{own:List (List Nat)}{l:List SV}{b:Option bB}{F:El t->El bt->Option R}{z:R}(iV:E.ps=[t,.unit])(h:kU t pt bt own (aM [t,.unit] l) b F=some z):
 ∃x y,b=some ⟨bt,y,own⟩/\F x y=some z/\gI E l [.aj t x [],.ptr 0 pt []]:=by
 unfold kU at h
 split at h
 ·rename_i a u B hn
  split at h
  ·rename_i hB
   split at h
   ·rename_i hu
    simp only[Bool.and_eq_true,beq_iff_eq] at hu
    obtain⟨h1,h2⟩:=hu
    obtain⟨Bt,Bx,Bo⟩:=B
    have:=Ty.aI hB
    have h3:=Ty.aI h1
    subst this
    subst h3
    subst h2
    obtain⟨y,v,q,rfl,rfl,h4,h⟩:=nF hn h
    refine⟨y,Bx,rfl,h,fun C k fn code b K=>En (by rw[iV];exact hn) ?_⟩
    intro s hs
    simp only[List.mem_cons,List.not_mem_nil,or_false] at hs
    rcases hs with rfl|rfl
    ·exact x6
    ·exact OI
   ·cases h
  ·cases h
 ·cases h
theorem N3{t:Ty}{x:El t}:(SV.view t x).shut=SV.view t x/\SV.view t x≠ .cF:=⟨rfl,by simp⟩
theorem Kb{t u v w:Ty}{l:List SV}{F:El t->El u->El v->El w->Option R}{z:R}(iV:E.ps=[t,u,.unit,.unit])(h:GF t u v w (aM [t,u,.unit,.unit] l) F=some z):
 ∃p q x y,F p q x y=some z/\gI E l [.aj t p [],.aj u q [],.view v x,.view w y]:=by
 unfold GF at h
 split at h
 ·rename_i a b v' x w' y hn
  split at h
  ·rename_i hv
   split at h
   ·rename_i hw
    have:=Ty.aI hv
    have h3:=Ty.aI hw
    subst this
    subst h3
    obtain⟨p,v1,q1,rfl,rfl,h4,h⟩:=nF hn h
    obtain⟨q,v2,q2,rfl,rfl,h5,h⟩:=nF h4 h
    refine⟨p,q,x,y,h,fun C k fn code b K=>En (by rw[iV];exact hn) ?_⟩
    intro s hs
    simp only[List.mem_cons,List.not_mem_nil,or_false] at hs
    rcases hs with rfl|rfl|rfl|rfl
    ·exact x6
    ·exact x6
    ·exact N3
    ·exact N3
   ·cases h
  ·cases h
 ·cases h
end
end Go.Ref

namespace Go.Ref
open Go
variable {P:Program} {E:Env}
def ax.after(X:ax)(w:World):ax:=⟨w,fun g=>if g<X.w.heap.size then X.ow g else .ro 0,X.β⟩
theorem zud{X:ax}{w:World}(h:RowKit.Below X.w.heap.size X.w w){a:Addr}{v:Value}(hs:X.az a v):(X.after w).az a v:=by
 have aq:=ax.ix hs
 refine⟨hs.1,?_,?_⟩
 ·have:=hs.2.1
  simp only[World.cell?] at this⊢
  rw[show(X.after w).w=w from rfl,h.block _ aq];exact this
 ·simp only[ax.after];rw[if_pos aq];exact hs.2.2
theorem afh{X:ax}{w:World}(h:RowKit.Below X.w.heap.size X.w w):Ext X (X.after w) where
 az:=fun _ _=>zud h
 size:=h.size
 os:=h.os
 tape:=h.tape
 output:=h.output
 β0:=rfl
 still:=fun g hg _=>⟨by simp only[ax.after];rw[if_pos hg],h.block g hg⟩
theorem ajJ{C:ah}(h0:∀f,cV P C f){n:FuncId}{g:Pure}(eA:rK P n)
 (h:∀(l:List SV) (b:Option bB) (r:List SV) (b':Option bB),g (List SV×Option bB) l b (fun r b=>some (r,b))=some (r,b')->b'=none/\(∀id t p,SV.ptr id t p∉r)/\r.any SV.bK=false/\
   ∀(X:ax) (args:Array Value),jG X l b args->Calls P n args X.w fun e w'=>∃v,e= .returned v/\RowKit.Below X.w.heap.size X.w w'/\∀Y:ax,Y.w=w'->(∀a v,X.az a v->Y.az a v)->cL Y .r r v):∀f,cV P (C.add n [] g) f:=by
 intro f
 by_cases e:f=n
 ·subst e
  intro l b r b' hc
  unfold ah.add at hc
  have hb:Nat.beq f f=true:=by simp
  rw[hb] at hc
  have hc:g (List SV×Option bB) (aM [] l) b (fun r b=>some (r,b))=some (r,b'):=hc
  have hl:aM [] l=l:=by cases l<;>rfl
  rw[hl] at hc
  obtain⟨rfl,hp,dP,BN⟩:=h l b r b' hc
  refine⟨eA,fun X args gV=>(BN X args gV).mono fun e w' he=> ?_⟩
  obtain⟨v,rfl,hB,aL⟩:=he
  refine⟨X.after w',rfl,afh hB,0,aL {X.after w' with β:=fun _=>some 0} rfl (fun a v hs=>(zud hB hs:(X.after w').az a v)),fun B' er=>(by cases er),fun _=>hp,dP⟩
 ·intro l b r b' hc
  unfold ah.add at hc
  have:Nat.beq f n=false:=by
   cases hh:Nat.beq f n with
   |false=>rfl
   |true=>exact absurd (Nat.eq_of_beq_eq_true hh) e
  rw[this] at hc
  exact h0 f l b r b' hc
theorem K5{X:ax}{l:List SV}{b:Option bB}{args:Array Value}(h:jG X l b args){i:Nat}{sv:SV}(hs:l[i]? =some sv){x:ByteArray}(hx:∀(X:ax) (pl:List Nat->Place) (v:Value),aA X pl sv v->∃cs,bg X .str x cs/\v=dL .str cs):args[i]? =some (.string x):=by
 have aq:i<args.size:=by rw[h.size];exact(List.getElem?_eq_some_iff.1 hs).1
 rw[Array.getElem?_eq_getElem aq]
 obtain⟨cs,h1,h2⟩:=hx X _ _ (h.rep i sv _ hs (Array.getElem?_eq_getElem aq))
 rw[h2,nw h1]
theorem afU{X:ax}{l:List SV}{b:Option bB}{args:Array Value}(h:jG X l b args){i:Nat}{sv:SV}(hs:l[i]? =some sv){k:IntKind}{n:Int}(hx:∀(X:ax) (pl:List Nat->Place) (v:Value),aA X pl sv v->∃cs,bg X (.int k) n cs/\v=dL (.int k) cs):args[i]? =some (.int k n):=by
 have aq:i<args.size:=by rw[h.size];exact(List.getElem?_eq_some_iff.1 hs).1
 rw[Array.getElem?_eq_getElem aq]
 obtain⟨cs,h1,h2⟩:=hx X _ _ (h.rep i sv _ hs (Array.getElem?_eq_getElem aq))
 rw[h2,lB h1]
theorem ai0{args:Array Value}{v:Value}(hs:args.size=1)(h:args[0]? =some v):args= #[v]:=by
 apply Array.ext'
 match hl:args.toList,(show args.toList.length=1 by simpa using hs) with
 | [x],_=>
   have:args.toList[0]? =some v:=by simpa using h
   rw[hl] at this
   simpa using this
theorem z168{args:Array Value}{u v:Value}(hs:args.size=2)(h:args[0]? =some u)(h1:args[1]? =some v):args= #[u,v]:=by
 apply Array.ext'
 match hl:args.toList,(show args.toList.length=2 by simpa using hs) with
 | [x,y],_=>
   have a:args.toList[0]? =some u:=by simpa using h
   have b:args.toList[1]? =some v:=by simpa using h1
   rw[hl] at a b
   simp at a b
   rw[a,b]
theorem ajK{C:ah}(h0:∀f,cV P C f){n:FuncId}(eA:rK P n)(F:ByteArray->Int->Option ByteArray)
 (h:∀(s:ByteArray) (k:Int) (r:ByteArray),F s k=some r->∀w:World,Calls P n #[.string s,.int .i64 k] w fun e w'=>e= .returned (.string r)/\RowKit.Below w.heap.size w w'):
 ∀f,cV P (C.add n [] fun R l b K=>gb b (fp .str (.int .i64) l fun x0 x1=>(F x0 x1).bind fun r=>K [.aj .str r []] none)) f:=by
 refine ajJ h0 eA fun l b r b' hc=> ?_
 obtain⟨hb,hc2⟩:=Eh hc
 clear hc
 subst hb
 have hc:=hc2
 clear hc2
 unfold fp at hc
 split at hc
 case h_2=>cases hc
 rename_i sa sb
 obtain⟨s,hc,hs⟩:=zy hc
 obtain⟨k,hc,hk⟩:=zy hc
 have hc:((F s k).bind fun r=>some (([SV.aj .str r []]:List SV),(none:Option bB)))=some (r,b'):=hc
 cases hF:F s k with
 |none=>rw[hF] at hc;cases hc
 |some x=>
  rw[hF] at hc
  cases hc
  refine⟨rfl,(fun id t p hm=>by simp at hm),rfl,fun X args gV=> ?_⟩
  have e:=z168 gV.size (K5 gV rfl hs) (afU gV rfl hk)
  rw[e]
  exact(h s k x hF X.w).mono fun e w' ⟨he,hB⟩=>⟨_,he,hB,fun Y _ _=>AZ⟩
end Go.Ref
namespace bn
open Go Go.Ref
def strings_Repeat(s:ByteArray)(k:Int):Option ByteArray:=
 bif decide (0<=k) then bif decide (k<=9223372036854775807) then bif decide ((s.size:Int)*k<=140737488355328) then some ⟨(Go.Lib.repeatL s.data.toList k.toNat).toArray⟩ else none else none else none
theorem zdr{P:Program}{ρ:Go.Shelf.Ren}(L:Go.Proofs.Lays.n105 P ρ)(B:Go.Proofs.Builder.Extra P ρ){n:FuncId}(hn:ρ.f 105=n)(s:ByteArray)(k:Int)(r:ByteArray)(h:strings_Repeat s k=some r)(w:World):
 Calls P n #[.string s,.int .i64 k] w fun e w'=>e= .returned (.string r)/\RowKit.Below w.heap.size w w':=by
 subst hn
 unfold strings_Repeat at h
 by_cases h0:0<=k
 ·by_cases h1:k<=9223372036854775807
  ·by_cases h2:(s.size:Int)*k<=140737488355328
   ·rw[decide_eq_true h0,decide_eq_true h1,decide_eq_true h2] at h
    cases h
    obtain⟨c,rfl⟩:∃c:Nat,k=(c:Int):=⟨k.toNat,by omega⟩
    exact Go.Proofs.Any.strings_Repeat L B s c w (by omega) (by rw[<-Int.natCast_mul] at h2;omega)
   ·rw[decide_eq_true h0,decide_eq_true h1,decide_eq_false h2] at h;cases h
  ·rw[decide_eq_true h0,decide_eq_false h1] at h;cases h
 ·rw[decide_eq_false h0] at h;cases h
end bn

namespace Go.Ref
open Go Go.Shelf Go.RowKit Go.Proofs
variable {P:Program} {E:Env} {ρ:Ren}
abbrev xF(T e:TypeId):Ty:= .aJ (.gn T e) .unit .unit
def RL(x s:ByteArray):Option (Int×ByteArray):=bif decide (x.size+s.size<=140737488355328) then some ((s.size:Int),x++s) else none
def z52(x:ByteArray):Option (ByteArray×ByteArray):=some (x,x)
def QD(T e:TypeId):Pure:=fun R l b K=>jP (xF T e) [[]] l b fun x0 l=>fN .str l fun x1=>(RL x0 x1).bind fun r=>K [.aj (.int .i64) r.1 [],.undef] (some ⟨xF T e,r.2,[[]]⟩)
def QC(T e:TypeId):Pure:=fun R l b K=>jP (xF T e) [[]] l b fun x0 l=>fM l ((z52 x0).bind fun r=>K [.aj .str r.1 []] (some ⟨xF T e,r.2,[]⟩))
theorem anZ(T e:TypeId):(QD T e).Nat:=fun R S l b F G K h=>O9 fun _ _=>zh9 fun _=>rA fun _=>h _ _
theorem anY(T e:TypeId):(QC T e).Nat:=fun R S l b F G K h=>O9 fun _ _=>zh8 (rA fun _=>h _ _)
theorem abQ(x s:ByteArray):Lib.strCells (x++s)=Lib.strCells x++Lib.strCells s:=by
 simp [Lib.strCells,ByteArray.data_append]
def ax.gn(X:ax)(w:World)(r:Nat)(g:Option Nat):ax:=⟨w,fun k=>if k=r then .box 0 else if g=some k then .row (.b 0 []) 0 else if k<X.w.heap.size then X.ow k else .ro 0,X.β⟩
theorem Nv{X:ax}{w:World}{r:Nat}{g0 g:Option Nat}(how:X.ow r= .box 0)(h0:∀k,g0=some k->X.ow k= .row (.b 0 []) 0)(h:gm r g0 X.w w)(hg:∀k,g=some k->g0=some k\/X.w.heap.size<=k):Ext X (X.gn w r g):=by
 have dm:∀k,k<X.w.heap.size->X.ow k≠ .box 0->X.ow k≠ .row (.b 0 []) 0->(X.gn w r g).ow k=X.ow k/\w.heap[k]? =X.w.heap[k]? :=fun k hk h1 h2=>by
  have hr:k≠r:=fun e=>h1 (by rw[e];exact how)
  have hg1:g≠some k:=fun e=>by
   rcases hg k e with e2|e2
   ·exact h2 (h0 k e2)
   ·omega
  have hg2:some k≠g0:=fun e=>h2 (h0 k e.symm)
  refine⟨?_,h.block k hk hr hg2⟩
  simp only[ax.gn]
  rw[if_neg hr,if_neg hg1,if_pos hk]
 refine⟨fun a v hs=> ?_,h.size,h.os,h.tape,h.output,rfl,fun k hk bS=> ?_⟩
 ·have aq:=ax.ix hs
  have hu:=hs.2.2
  obtain⟨k1,k2⟩:=dm a.block aq (fun e=>by rw[e] at hu;exact hu) (fun e=>by rw[e] at hu;exact Nat.not_lt_zero _ hu)
  refine⟨hs.1,?_,by rw[k1];exact hu⟩
  have:=hs.2.1
  simp only[World.cell?] at this⊢
  rw[show(X.gn w r g).w.heap=w.heap from rfl,k2];exact this
 ·exact dm k hk (fun e=>by rw[e] at bS;exact bS) (fun e=>by rw[e] at bS;exact bS)
theorem L9(n:Nat):Nat.beq n n=true:=by simp
theorem Ol{f n:Nat}(e:f≠n):Nat.beq f n=false:=by
 cases hh:Nat.beq f n with
 |false=>rfl
 |true=>exact absurd (Nat.eq_of_beq_eq_true hh) e
theorem afs{C:ah}(h0:∀f,cV P C f){n T e:TypeId}(eA:rK P n)(L:Lays.n166 P ρ)(X0:Builder.Extra P ρ)(hn:ρ.f 166=n)(hT:ρ.t 72=T)(he:ρ.t 5=e):∀f,cV P (C.add n [] (QD T e)) f:=by
 subst hT he
 intro f
 by_cases ef:f=n
 ·subst ef
  intro l b r b' hc
  unfold ah.add at hc
  rw[L9] at hc
  have hc:QD (ρ.t 72) (ρ.t 5) (List SV×Option bB) (aM [] l) b (fun r b=>some (r,b))=some (r,b'):=hc
  have hl:aM [] l=l:=by cases l<;>rfl
  rw[hl] at hc
  unfold QD at hc
  obtain⟨x,q,rfl,rfl,Jg⟩:=zh7 hc
  clear hc
  have hc:=Jg
  clear Jg
  unfold fN at hc
  split at hc
  case h_2=>cases hc
  rename_i a
  obtain⟨s,hc,hs⟩:=zy hc
  unfold RL at hc
  cases hd:decide (ByteArray.size x+s.size<=140737488355328) with
  |false=>rw[hd] at hc;cases hc
  |true=>
   rw[hd] at hc
   cases hc
   have hlen:=of_decide_eq_true hd
   refine⟨eA,fun X args gV=> ?_⟩
   obtain⟨r0,hβ,how,⟨o,ho⟩,hb⟩:=gV.box _ rfl
   obtain⟨v,hB,hv⟩:=hb (by simp)
   have dx:args.size=2:=by rw[gV.size];rfl
   have a0:args[0]? =some (.pointer (some ⟨r0,0,none⟩)):=by
    rw[Array.getElem?_eq_getElem (by omega)]
    obtain⟨r1,g1,g2⟩:=gV.rep 0 _ _ rfl (Array.getElem?_eq_getElem (by omega))
    rw[hβ] at g1
    cases g1
    rw[((Pe rfl).1 g2).1];rfl
   have a1:args[1]? =some (.string s):=K5 gV (i:=1) rfl hs
   rw[z168 dx a0 a1,<-hn]
   refine(afv L X0 r0 v (Lib.strCells x) s X.w hB (by rw[Lib.strCells_length];exact hlen)).mono ?_
   rintro e w' ⟨rfl,v',er,wW,gO⟩
   have hY:(X.gn w' r0 v'.ownBlock).ow r0= .box 0:=by simp [ax.gn]
   refine⟨X.gn w' r0 v'.ownBlock,rfl,Nv how hv wW gO,r0,⟨_,rfl,rfl,fun j sv u hj hu=> ?_⟩,fun B' cT=> ?_,(fun _ id t p hm=>by simp at hm),rfl⟩
   ·match j with
    |0=>cases hj;cases hu;exact jg
    |1=>cases hj;trivial
    |j+2=>simp at hj
   ·cases cT
    refine⟨⟨hY,?_,fun _=>⟨v',by rw[abQ];exact er,fun g hg=> ?_⟩⟩,fun _=>hβ⟩
    ·rcases er.mQ with h|h<;>exact⟨_,h⟩
    ·simp only[ax.gn]
     rw[if_neg (fun e=>er.ne (by rw[hg,e])),if_pos hg]
 ·intro l b r b' hc
  unfold ah.add at hc
  rw[Ol ef] at hc
  exact h0 f l b r b' hc
theorem afr{C:ah}(h0:∀f,cV P C f){n T e:TypeId}(eA:rK P n)(L:Lays.n169 P ρ)(X0:Builder.Extra P ρ)(hn:ρ.f 169=n)(hT:ρ.t 72=T)(he:ρ.t 5=e):∀f,cV P (C.add n [] (QC T e)) f:=by
 subst hT he
 intro f
 by_cases ef:f=n
 ·subst ef
  intro l b r b' hc
  unfold ah.add at hc
  rw[L9] at hc
  have hc:QC (ρ.t 72) (ρ.t 5) (List SV×Option bB) (aM [] l) b (fun r b=>some (r,b))=some (r,b'):=hc
  have hl:aM [] l=l:=by cases l<;>rfl
  rw[hl] at hc
  unfold QC at hc
  obtain⟨x,q,rfl,rfl,Jg⟩:=zh7 hc
  clear hc
  have hc:=Jg
  clear Jg
  unfold fM at hc
  split at hc
  case h_2=>cases hc
  cases hc
  refine⟨eA,fun X args gV=> ?_⟩
  obtain⟨r0,hβ,how,⟨o,ho⟩,hb⟩:=gV.box _ rfl
  obtain⟨v,hB,hv⟩:=hb (by simp)
  have dx:args.size=1:=by rw[gV.size];rfl
  have a0:args[0]? =some (.pointer (some ⟨r0,0,none⟩)):=by
   rw[Array.getElem?_eq_getElem (by omega)]
   obtain⟨r1,g1,g2⟩:=gV.rep 0 _ _ rfl (Array.getElem?_eq_getElem (by omega))
   rw[hβ] at g1
   cases g1
   rw[((Pe rfl).1 g2).1];rfl
  rw[ai0 dx a0,<-hn]
  refine(ai6 L X0 r0 v (x:ByteArray).data.toList X.w hB).mono ?_
  rintro e w' ⟨rfl,wW⟩
  have hY:(X.gn w' r0 none).ow r0= .box 0:=by simp [ax.gn]
  refine⟨X.gn w' r0 none,rfl,Nv how hv wW (fun k hk=>by cases hk),r0,?_,fun B' cT=> ?_,(fun _ id t p hm=>by simp at hm),rfl⟩
  ·exact AZ
  ·cases cT
   refine⟨⟨hY,⟨_,Array.getElem?_eq_getElem (Nat.lt_of_lt_of_le hB.lt wW.size)⟩,fun hm=>by cases hm⟩,fun _=>hβ⟩
 ·intro l b r b' hc
  unfold ah.add at hc
  rw[Ol ef] at hc
  exact h0 f l b r b' hc
end Go.Ref

namespace Go.Ref
open Go
variable {P:Program} {R S:Type}
structure aO(P:Program)(T:ah):Prop where
 mix:P.follows .mixedOrders=true
 nat:T.Nat
 uu:∀f,cV P T f
noncomputable abbrev cd (fn:Func):Code:=fn.body.getD .skip
noncomputable abbrev vd (E:Env) (T:ah) (R:Type) (k:Nat) (fn:Func) (l:List SV) (b:Option bB) (K:List SV->Option bB->Option R):Option R:=jr E (T R) k fn (cd fn) l b K
abbrev KF(R:Type):Type:=List SV->Option bB->Option R
abbrev KX(R:Type):Type:=Ex->State->Option R
abbrev kp(β:Type):Type 1:=(R:Type)->β->KF R->Option R
def kp.Nat{β:Type}(o:kp β):Prop:=∀(R S:Type) r (F:KF R) (G:KF S) (K:S->Option R),(∀r b,F r b=(G r b).bind K)->o R r F=(o S r G).bind K
def tw(fn:Func):Bool:= !(fn.name== "runtime.NumGoroutine")&&fn.body.isSome
def tI(x:Int):SV:= .aj (.int .i64) x []
def tU(x:Int):SV:= .aj (.int .u8) x []
def tB(x:Bool):SV:= .aj .bool x []
def tS(x:ByteArray):SV:= .aj .str x []
theorem Oy{kk:Nat}(hF:kk=ag){R:Type}(f:Unit->Option R):cH kk f=f ():=by rw[hF];exact ac8 f
theorem aE:(∀{R S:Type} (c:Bool) (x y:Option S) (F:S->Option R),(bif c then x else y).bind F=bif c then x.bind F else y.bind F)/\(∀{R S:Type} (i:Int) (n:Nat) (x:Option S) (F:S->Option R),(zd i n x).bind F=zd i n (x.bind F))/\
 (∀{R S:Type} (F:S->Option R),(.none:Option S).bind F= .none)/\(∀{R S:Type} (x:S) (F:S->Option R),(some x).bind F=F x)/\(∀{R S α β:Type} (f:α->Option S) (g:β->Option S) (e:α⊕β) (F:S->Option R),(Sum.elim f g e).bind F=Sum.elim (fun x=>(f x).bind F) (fun x=>(g x).bind F) e)/\
 (∀{R S α:Type} (x:Option α) (f:α->Option S) (F:S->Option R),(x.bind f).bind F=x.bind fun y=>(f y).bind F)/\(∀{α β γ:Type} (f:α->γ) (g:β->γ) (x:α),Sum.elim f g (.inl x)=f x)/\(∀{α β γ:Type} (f:α->γ) (g:β->γ) (x:β),Sum.elim f g (.inr x)=g x):=
 ⟨zhm,aco,agi,zc,aj9,afq,fun _ _ _=>rfl,fun _ _ _=>rfl⟩
theorem aO.none(hm:P.follows .mixedOrders=true):aO P ah.none:=⟨hm,ajU,agj⟩
theorem aO.add{E:Env}{T:ah}(h:aO P T)(hE:ap P E){n:FuncId}{ps:List Ty}{g:Pure}{fn:Func}(iB:P.funcs[n]? =some fn)(hc:tw fn=true)(hg:g.Nat)
 (h1:∀(l:List SV) (b:Option bB) (r:List SV) (b':Option bB),g (List SV×Option bB) (aM ps l) b (fun r b=>some (r,b))=some (r,b')->∃k,jr E (T (List SV×Option bB)) k fn (cd fn) l b (fun r b=>some (r,b))=some (r,b')):aO P (T.add n ps g):=by
 obtain⟨h2,h3⟩:=Bool.and_eq_true_iff.1 hc
 refine⟨h.mix,Vn h.nat hg,aiY hE h.mix h.nat h.uu iB (by simpa using h2) ?_ h1⟩
 cases e:fn.body with
 |none=>rw[e] at h3;cases h3
 |some c=>simp [cd,e]
def FJ{β:Type}(f:Option β)(o:kp β):Pure:=fun R l b K=>gb b (fM l (f.bind fun r=>o R r K))
theorem Kn(E:Env){T:ah}{n:FuncId}(fn:Func){β:Type}{f:Option β}{o:kp β}(m:(R:Type)->Nat->KF R->Option R)(h0:aO P T)(hE:ap P E)(iB:P.funcs[n]? =some fn)(hc:tw fn=true)(hp:E.ps=[])(ho:o.Nat)
 (h1:∀(R:Type) k (K:KF R),vd E T R k fn [] .none K=m R k K) (h2:∀(R:Type) kk (e:kk=ag) (K:KF R),m R kk K=f.bind fun r=>o R r K):aO P (T.add n [] (FJ f o)):=
 h0.add hE iB hc (fun R S l b F G K h=>Ek (zh8 (rA fun _=>ho _ _ _ _ _ _ h))) fun l b r b' h=>by
  obtain⟨rfl,h5⟩:=Eh h
  obtain⟨h3,h4⟩:=xu hp h5
  exact⟨ag,(h4 _ _ _ _ _ _).trans (((h1 _ _ _).trans (h2 _ _ rfl _)).trans h3)⟩
def cK(t:Ty){β:Type}(f:El t->Option β)(o:kp β):Pure:=fun R l b K=>gb b (fN t l (fun x=>(f x).bind fun r=>o R r K))
theorem cN(E:Env){T:ah}{n:FuncId}(fn:Func){t:Ty}{β:Type}{f:El t->Option β}{o:kp β}(m:(R:Type)->Nat->El t->KF R->Option R)(h0:aO P T)(hE:ap P E)(iB:P.funcs[n]? =some fn)(hc:tw fn=true)(hp:E.ps=[t])(ho:o.Nat)
 (h1:∀(R:Type) k x (K:KF R),vd E T R k fn [.aj t x []] .none K=m R k x K) (h2:∀(R:Type) kk (e:kk=ag) x (K:KF R),m R kk x K=(f x).bind fun r=>o R r K):aO P (T.add n [t] (cK t f o)):=
 h0.add hE iB hc (fun R S l b F G K h=>Ek (zh9 fun _=>rA fun _=>ho _ _ _ _ _ _ h)) fun l b r b' h=>by
  obtain⟨rfl,h5⟩:=Eh h
  obtain⟨x,h3,h4⟩:=J7 hp h5
  exact⟨ag,(h4 _ _ _ _ _ _).trans (((h1 _ _ x _).trans (h2 _ _ rfl x _)).trans h3)⟩
def dv(t u:Ty){β:Type}(f:El t->El u->Option β)(o:kp β):Pure:=fun R l b K=>gb b (fp t u l (fun x y=>(f x y).bind fun r=>o R r K))
theorem dz(E:Env){T:ah}{n:FuncId}(fn:Func){t u:Ty}{β:Type}{f:El t->El u->Option β}{o:kp β}(m:(R:Type)->Nat->El t->El u->KF R->Option R)(h0:aO P T)(hE:ap P E)(iB:P.funcs[n]? =some fn)(hc:tw fn=true)(hp:E.ps=[t,u])(ho:o.Nat)
 (h1:∀(R:Type) k x y (K:KF R),vd E T R k fn [.aj t x [],.aj u y []] .none K=m R k x y K) (h2:∀(R:Type) kk (e:kk=ag) x y (K:KF R),m R kk x y K=(f x y).bind fun r=>o R r K):aO P (T.add n [t,u] (dv t u f o)):=
 h0.add hE iB hc (fun R S l b F G K h=>Ek (zha fun _ _=>rA fun _=>ho _ _ _ _ _ _ h)) fun l b r b' h=>by
  obtain⟨rfl,h5⟩:=Eh h
  obtain⟨x,y,h3,h4⟩:=kg hp h5
  exact⟨ag,(h4 _ _ _ _ _ _).trans (((h1 _ _ x y _).trans (h2 _ _ rfl x y _)).trans h3)⟩
def kh(t u v:Ty){β:Type}(f:El t->El u->El v->Option β)(o:kp β):Pure:=fun R l b K=>gb b (kV t u v l (fun x y a=>(f x y a).bind fun r=>o R r K))
theorem ku(E:Env){T:ah}{n:FuncId}(fn:Func){t u v:Ty}{β:Type}{f:El t->El u->El v->Option β}{o:kp β}(m:(R:Type)->Nat->El t->El u->El v->KF R->Option R)(h0:aO P T)(hE:ap P E)(iB:P.funcs[n]? =some fn)(hc:tw fn=true)(hp:E.ps=[t,u,v])(ho:o.Nat)
 (h1:∀(R:Type) k x y a (K:KF R),vd E T R k fn [.aj t x [],.aj u y [],.aj v a []] .none K=m R k x y a K) (h2:∀(R:Type) kk (e:kk=ag) x y a (K:KF R),m R kk x y a K=(f x y a).bind fun r=>o R r K):aO P (T.add n [t,u,v] (kh t u v f o)):=
 h0.add hE iB hc (fun R S l b F G K h=>Ek (afl fun _ _ _=>rA fun _=>ho _ _ _ _ _ _ h)) fun l b r b' h=>by
  obtain⟨rfl,h5⟩:=Eh h
  obtain⟨x,y,a,h3,h4⟩:=aaS hp h5
  exact⟨ag,(h4 _ _ _ _ _ _).trans (((h1 _ _ x y a _).trans (h2 _ _ rfl x y a _)).trans h3)⟩
def Rw(t u v w:Ty){β:Type}(f:El t->El u->El v->El w->Option β)(o:kp β):Pure:=fun R l b K=>gb b (kW t u v w l (fun x y a b=>(f x y a b).bind fun r=>o R r K))
theorem st4(E:Env){T:ah}{n:FuncId}(fn:Func){t u v w:Ty}{β:Type}{f:El t->El u->El v->El w->Option β}{o:kp β}(m:(R:Type)->Nat->El t->El u->El v->El w->KF R->Option R)(h0:aO P T)(hE:ap P E)(iB:P.funcs[n]? =some fn)(hc:tw fn=true)(hp:E.ps=[t,u,v,w])(ho:o.Nat)
 (h1:∀(R:Type) k x y a b (K:KF R),vd E T R k fn [.aj t x [],.aj u y [],.aj v a [],.aj w b []] .none K=m R k x y a b K) (h2:∀(R:Type) kk (e:kk=ag) x y a b (K:KF R),m R kk x y a b K=(f x y a b).bind fun r=>o R r K):aO P (T.add n [t,u,v,w] (Rw t u v w f o)):=
 h0.add hE iB hc (fun R S l b F G K h=>Ek (afm fun _ _ _ _=>rA fun _=>ho _ _ _ _ _ _ h)) fun l b r b' h=>by
  obtain⟨rfl,h5⟩:=Eh h
  obtain⟨x,y,a,b,h3,h4⟩:=aaT hp h5
  exact⟨ag,(h4 _ _ _ _ _ _).trans (((h1 _ _ x y a b _).trans (h2 _ _ rfl x y a b _)).trans h3)⟩
def FI(T0:Ty)(wn:List (List Nat)){β:Type}(f:El T0->Option β)(o:kp β):Pure:=fun R l b K=>jP T0 wn l b fun z l=>fM l ((f z).bind fun r=>o R r K)
theorem RJ(E:Env){T:ah}{n:FuncId}(fn:Func){T0:Ty}{wn:List (List Nat)}{β:Type}{f:El T0->Option β}{o:kp β}(m:(R:Type)->Nat->El T0->KF R->Option R)(h0:aO P T)(hE:ap P E)(iB:P.funcs[n]? =some fn)(hc:tw fn=true)(hp:E.ps=[.unit])(ho:o.Nat)
 (h1:∀(R:Type) k z (K:KF R),vd E T R k fn [.ptr 0 T0 []] (some ⟨T0,z,wn⟩) K=m R k z K) (h2:∀(R:Type) kk (e:kk=ag) z (K:KF R),m R kk z K=(f z).bind fun r=>o R r K):aO P (T.add n [.unit] (FI T0 wn f o)):=
 h0.add hE iB hc (fun R S l b F G K h=>O9 fun _ _=>zh8 (rA fun _=>ho _ _ _ _ _ _ h)) fun l b r b' h=>by
  unfold FI at h
  obtain⟨z,q,rfl,rfl,h5⟩:=Cl h
  obtain⟨h3,h4⟩:=J8 hp h5
  exact⟨ag,(h4 _ _ _ _ _ _).trans (((h1 _ _ z _).trans (h2 _ _ rfl z _)).trans h3)⟩
def Co(T0:Ty)(wn:List (List Nat))(t:Ty){β:Type}(f:El T0->El t->Option β)(o:kp β):Pure:=fun R l b K=>jP T0 wn l b fun z l=>fN t l (fun x=>(f z x).bind fun r=>o R r K)
theorem Kl(E:Env){T:ah}{n:FuncId}(fn:Func){T0:Ty}{wn:List (List Nat)}{t:Ty}{β:Type}{f:El T0->El t->Option β}{o:kp β}(m:(R:Type)->Nat->El T0->El t->KF R->Option R)(h0:aO P T)(hE:ap P E)(iB:P.funcs[n]? =some fn)(hc:tw fn=true)(hp:E.ps=[.unit,t])(ho:o.Nat)
 (h1:∀(R:Type) k z x (K:KF R),vd E T R k fn [.ptr 0 T0 [],.aj t x []] (some ⟨T0,z,wn⟩) K=m R k z x K) (h2:∀(R:Type) kk (e:kk=ag) z x (K:KF R),m R kk z x K=(f z x).bind fun r=>o R r K):aO P (T.add n [.unit,t] (Co T0 wn t f o)):=
 h0.add hE iB hc (fun R S l b F G K h=>O9 fun _ _=>zh9 fun _=>rA fun _=>ho _ _ _ _ _ _ h) fun l b r b' h=>by
  unfold Co at h
  obtain⟨z,q,rfl,rfl,h5⟩:=Cl h
  obtain⟨x,h3,h4⟩:=J9 hp h5
  exact⟨ag,(h4 _ _ _ _ _ _).trans (((h1 _ _ z x _).trans (h2 _ _ rfl z x _)).trans h3)⟩
def pb2(T0:Ty)(wn:List (List Nat))(t u:Ty){β:Type}(f:El T0->El t->El u->Option β)(o:kp β):Pure:=fun R l b K=>jP T0 wn l b fun z l=>fp t u l (fun x y=>(f z x y).bind fun r=>o R r K)
theorem sb2(E:Env){T:ah}{n:FuncId}(fn:Func){T0:Ty}{wn:List (List Nat)}{t u:Ty}{β:Type}{f:El T0->El t->El u->Option β}{o:kp β}(m:(R:Type)->Nat->El T0->El t->El u->KF R->Option R)(h0:aO P T)(hE:ap P E)(iB:P.funcs[n]? =some fn)(hc:tw fn=true)(hp:E.ps=[.unit,t,u])(ho:o.Nat)
 (h1:∀(R:Type) k z x y (K:KF R),vd E T R k fn [.ptr 0 T0 [],.aj t x [],.aj u y []] (some ⟨T0,z,wn⟩) K=m R k z x y K) (h2:∀(R:Type) kk (e:kk=ag) z x y (K:KF R),m R kk z x y K=(f z x y).bind fun r=>o R r K):aO P (T.add n [.unit,t,u] (pb2 T0 wn t u f o)):=
 h0.add hE iB hc (fun R S l b F G K h=>O9 fun _ _=>zha fun _ _=>rA fun _=>ho _ _ _ _ _ _ h) fun l b r b' h=>by
  unfold pb2 at h
  obtain⟨z,q,rfl,rfl,h5⟩:=Cl h
  obtain⟨x,y,h3,h4⟩:=Ka hp h5
  exact⟨ag,(h4 _ _ _ _ _ _).trans (((h1 _ _ z x y _).trans (h2 _ _ rfl z x y _)).trans h3)⟩
def pz(t pt bt:Ty)(wn:List (List Nat)){β:Type}(f:El t->El bt->Option β)(o:kp β):Pure:=fun R l b K=>kU t pt bt wn l b fun x y=>(f x y).bind fun r=>o R r K
theorem sz(E:Env){T:ah}{n:FuncId}(fn:Func){t pt bt:Ty}{wn:List (List Nat)}{β:Type}{f:El t->El bt->Option β}{o:kp β}(m:(R:Type)->Nat->El t->El bt->KF R->Option R)(h0:aO P T)(hE:ap P E)(iB:P.funcs[n]? =some fn)(hc:tw fn=true)(hp:E.ps=[t,.unit])(ho:o.Nat)
 (h1:∀(R:Type) k x y (K:KF R),vd E T R k fn [.aj t x [],.ptr 0 pt []] (some ⟨bt,y,wn⟩) K=m R k x y K) (h2:∀(R:Type) kk (e:kk=ag) x y (K:KF R),m R kk x y K=(f x y).bind fun r=>o R r K):aO P (T.add n [t,.unit] (pz t pt bt wn f o)):=
 h0.add hE iB hc (fun R S l b F G K h=>afk fun _ _=>rA fun _=>ho _ _ _ _ _ _ h) fun l b r b' h=>by
  obtain⟨x,y,rfl,h3,h4⟩:=Kc hp h
  exact⟨ag,(h4 _ _ _ _ _ _).trans (((h1 _ _ x y _).trans (h2 _ _ rfl x y _)).trans h3)⟩
def pv(t u v w:Ty){β:Type}(f:El t->El u->El v->El w->Option β)(o:kp β):Pure:=fun R l b K=>gb b (GF t u v w l (fun x y a b=>(f x y a b).bind fun r=>o R r K))
theorem sv(E:Env){T:ah}{n:FuncId}(fn:Func){t u v w:Ty}{β:Type}{f:El t->El u->El v->El w->Option β}{o:kp β}(m:(R:Type)->Nat->El t->El u->El v->El w->KF R->Option R)(h0:aO P T)(hE:ap P E)(iB:P.funcs[n]? =some fn)(hc:tw fn=true)(hp:E.ps=[t,u,.unit,.unit])(ho:o.Nat)
 (h1:∀(R:Type) k x y a b (K:KF R),vd E T R k fn [.aj t x [],.aj u y [],.view v a,.view w b] .none K=m R k x y a b K) (h2:∀(R:Type) kk (e:kk=ag) x y a b (K:KF R),m R kk x y a b K=(f x y a b).bind fun r=>o R r K):aO P (T.add n [t,u,.unit,.unit] (pv t u v w f o)):=
 h0.add hE iB hc (fun R S l b F G K h=>Ek (acG fun _ _ _ _=>rA fun _=>ho _ _ _ _ _ _ h)) fun l b r b' h=>by
  unfold pv at h
  obtain⟨rfl,h5⟩:=Eh h
  obtain⟨x,y,a,b,h3,h4⟩:=Kb hp h5
  exact⟨ag,(h4 _ _ _ _ _ _).trans (((h1 _ _ x y a b _).trans (h2 _ _ rfl x y a b _)).trans h3)⟩
end Go.Ref

namespace bn
open Go.IntKind renaming wrap->zW,i64->zI,u8->zU
open Go Go.Ref
abbrev mN:Type:=(ByteArray×Nat)
abbrev jl:Type:=(Int×Int×Int)
abbrev QZ:Type:=(ByteArray×Int)
abbrev Zt3:Type:=(Int×ByteArray)
abbrev wQ:Type:=(List (List Int))
abbrev jy:Type:=(ByteArray×Bool)
abbrev aQ:Type:=(Int×Int×Unit)
abbrev zO:Type:=(Int×Bool×Int)
abbrev Br:Type:=(List (Int×Bool))
abbrev I2:Type:=(ByteArray×Int×Int)
abbrev bd:Type:=(Int×ByteArray×Unit)
abbrev hM:Type:=(List jy)
abbrev dA:Type:=(ByteArray×ByteArray×Unit)
abbrev ak:Type:=(List bd)
abbrev al:Type:=(Int×Bool×(List Int)×Unit)
abbrev aR:Type:=(Int×Int×Int×Int×Int×Unit)
abbrev lJ:Type:=(Int×Int×ByteArray×Int×Unit)
abbrev aN:Type:=(List dA)
abbrev tm:Type:=(Int×al)
abbrev gJ:Type:=(List aR)
abbrev ct:Type:=(List lJ)
abbrev jm:Type:=(ak×Int×Int)
abbrev aw:Type:=(ByteArray×ak×Unit)
abbrev af:Type:=(Int×Int×gJ×Unit)
abbrev n6:Type:=(List af)
abbrev aF:Type:=(Int×Int×Int×ByteArray×aN×Unit)
abbrev qL:Type:=(ak×Int×Int×ak)
abbrev bQ:Type:=(List aF)
abbrev qM:Type:=(aw×aQ×aw)
abbrev ay:Type:=(aN×bQ×Unit)
abbrev qN:Type:=(ByteArray×Int×aw×aQ×aw)
abbrev ar:Type:=(af×ay×(List Int)×ak×Unit)
abbrev mO:Type:=(List ar)
abbrev lK:Type:=(ay×af×af)
abbrev av:Type:=(mO×Int×Unit)
abbrev lL:Type:=(Int×Int×Int×ay×af×af)
def UU{R:Type}(a:ByteArray)(b:Int)(c:ByteArray->Int->Option R):Option R:=
 c a b
def UW{R:Type}(a:ByteArray)(b:Int)(c:ByteArray->Int->Option R)(d:ByteArray->Option R):Option R:=
 bif 0<(a.size:Int) then zd (zW zI ((a.size:Int)-1)) a.size (bif ze a (zW zI ((a.size:Int)-(1:Int))).toNat=b then bif 0<=zW zI ((a.size:Int)-1) then bif zW zI ((a.size:Int)-1)<=(a.size:Int) then c (a.extract 0 (zW zI ((a.size:Int)-(1:Int))).toNat) b else none else none else d a) else d a
def UX{R:Type}(a:ByteArray)(b:ByteArray->Option R):Option R:=
 b a
def Gg:Nat->ByteArray->Int->Option ByteArray
 |0,_,_=>none
 |k+1,v0,v1=>UW v0 v1 (fun a0 a1=>Gg k a0 a1) (fun a0=>some a0)
def vN(a:ByteArray)(b:Int):Option ByteArray:=
 UU a b (fun a0 a1=>(Gg ag a0 a1).bind fun e=>UX e (fun a0=>some a0))
def UQ{R:Type}(a:ByteArray)(b:Int)(c:ByteArray->Int->Option R):Option R:=
 c a b
def UR{R:Type}(a:ByteArray)(b:Int)(c:ByteArray->Int->Option R)(d:ByteArray->Option R):Option R:=
 bif 0<(a.size:Int) then zd 0 a.size (bif ze a ((0:Int)).toNat=b then bif 1<=(a.size:Int) then c (a.extract ((1:Int)).toNat a.size) b else none else d a) else d a
def US{R:Type}(a:ByteArray)(b:ByteArray->Option R):Option R:=
 b a
def Gf:Nat->ByteArray->Int->Option ByteArray
 |0,_,_=>none
 |k+1,v0,v1=>UR v0 v1 (fun a0 a1=>Gf k a0 a1) (fun a0=>some a0)
def vM(a:ByteArray)(b:Int):Option ByteArray:=
 UQ a b (fun a0 a1=>(Gf ag a0 a1).bind fun e=>US e (fun a0=>some a0))
def UO{R:Type}(a b:ByteArray)(c:ByteArray->Option R):Option R:=
 bif a=bs [] then c a else bif b=bs [] then c a else bif(b.size:Int)=1 then zd 0 b.size (bif ze b ((0:Int)).toNat<128 then zd 0 b.size ((vN a (ze b ((0:Int)).toNat)).bind fun r1=>zd 0 b.size ((vM r1 (ze b ((0:Int)).toNat)).bind fun r2=>c r2)) else none) else none
def s7(a b:ByteArray):Option ByteArray:=
 UO a b (fun a0=>some a0)
def Wv{R:Type}(a:ByteArray)(b:mN->Option R):Option R:=
 b (a,0)
def Ww{R:Type}(a:mN)(b:Bool->Option R)(c:mN->Option R)(d:Option R):Option R:=
 bif a.2<a.1.size then bif(((Utf8.decode a.1 a.2).1:Nat):Int)<48 then b false else bif 57<(((Utf8.decode a.1 a.2).1:Nat):Int) then b false else c (a.1,a.2+(Utf8.decode a.1 a.2).2) else d
def Dk{R:Type}(a:Bool)(b:Bool->Option R):Option R:=
 b a
def Dl{R:Type}(a:Bool->Option R):Option R:=
 a true
def Gs:Nat->mN->Option (Sum Bool Unit)
 |0,_=>none
 |k+1,v0=>Ww v0 (fun a0=>some (.inl a0)) (fun a0=>Gs k a0) (some (.inr ()))
def yh(a:ByteArray):Option Bool:=
 Wv a (fun a0=>(Gs ag a0).bind fun e=>Sum.elim (fun(we:Bool)=>Dk we (fun a0=>some a0)) (fun(we:Unit)=>Dl (fun a0=>some a0)) e)
def Wy{R:Type}(a:ByteArray)(b:Int->Bool->Option R)(c:Int->mN->Option R):Option R:=
 bif a=bs [] then b 0 false else bif 18<(a.size:Int) then b 0 false else(yh a).bind fun r1=>bif !r1 then b 0 false else c 0 (a,0)
def Wz{R:Type}(a:Int)(b:mN)(c:Int->mN->Option R)(d:Int->Option R):Option R:=
 bif b.2<b.1.size then c (zW zI (zW zI (10*a)+zW zI (IntKind.i32.wrap ((((Utf8.decode b.1 b.2).1:Nat):Int)-48)))) (b.1,b.2+(Utf8.decode b.1 b.2).2) else d a
def Dm{R:Type}(a:Int)(b:Int->Bool->Option R):Option R:=
 b a true
def Gt:Nat->Int->mN->Option Int
 |0,_,_=>none
 |k+1,v0,v1=>Wz v0 v1 (fun a0 a1=>Gt k a0 a1) (fun a0=>some a0)
def yi(a:ByteArray):Option (Int×Bool):=
 Wy a (fun a0 a1=>some (a0,a1)) (fun a0 a1=>(Gt ag a0 a1).bind fun e=>Dm e (fun a0 a1=>some (a0,a1)))
def WC{R:Type}(a b:Int)(c:ByteArray->Bool->Option R)(d:Int->Nat->Int->Nat->(List Int)->Option R):Option R:=
 bif a<0 then c (bs []) false else bif b<1 then c (bs []) false else bif 18<b then c (bs []) false else bif b=b then bif 0<=b then bif b*1<=140737488355328 then d a b.toNat (zW zI (b-1)) b.toNat (List.replicate b.toNat 0) else none else none else none
def Qj{R:Type}(a:Int)(b:Nat)(c:Int)(d:Nat)(e:(List Int))(f:Int->Nat->Int->Nat->(List Int)->Option R)(g:Int->Nat->Nat->(List Int)->Option R):Option R:=
 bif 0<=c then zd c b (bif Nat.ble (c.toNat+1) (List.length e) then f (zW zI (Int.tdiv a 10)) b (zW zI (c-1)) d (List.set e c.toNat (zW zU (zW zI (48+Int.tmod a 10)))) else none) else g a b d e
def WD{R:Type}(a:Int)(b c:Nat)(d:(List Int))(e:ByteArray->Bool->Option R):Option R:=
 bif 0<a then e (bs []) false else bif Nat.beq b (List.length d) then e (strOf d) true else none
def E4:Nat->Int->Nat->Int->Nat->(List Int)->Option (Int×Nat×Nat×(List Int))
 |0,_,_,_,_,_=>none
 |k+1,v0,v1,v2,v3,v4=>Qj v0 v1 v2 v3 v4 (fun a0 a1 a2 a3 a4=>E4 k a0 a1 a2 a3 a4) (fun a0 a1 a2 a3=>some (a0,a1,a2,a3))
def Ha(a b:Int):Option jy:=
 WC a b (fun a0 a1=>some (a0,a1)) (fun a0 a1 a2 a3 a4=>(E4 ag a0 a1 a2 a3 a4).bind fun e=>WD e.1 e.2.1 e.2.2.1 e.2.2.2 (fun a0 a1=>some (a0,a1)))
def WA{R:Type}(a:ByteArray)(b:Int)(c:ByteArray->Bool->Option R):Option R:=
 bif a=bs [] then c (bs []) false else bif 999<(a.size:Int) then c (bs []) false else(yh a).bind fun r1=>bif !r1 then c (bs []) false else bif b<1 then c (bs []) false else bif 999<b then c (bs []) false else bif(a.size:Int)<=b then(strings_Repeat (bs [48]) (zW zI (b-(a.size:Int)))).bind fun r2=>bif r2.size+a.size<=9223372036854775807 then c (r2++a) true else none else bif 0<=zW zI ((a.size:Int)-b) then bif zW zI ((a.size:Int)-b)<=(a.size:Int) then(s7 (a.extract 0 (zW zI ((a.size:Int)-b)).toNat) (bs [48])).bind fun r3=>bif !decide (r3=bs []) then c (bs []) false else bif 0<=zW zI ((a.size:Int)-b) then bif zW zI ((a.size:Int)-b)<=(a.size:Int) then c (a.extract (zW zI ((a.size:Int)-b)).toNat a.size) true else none else none else none else none
def G8(a:ByteArray)(b:Int):Option jy:=
 WA a b (fun a0 a1=>some (a0,a1))
def oP{R:Type}(a:Int)(b:Int->Option R):Option R:=
 bif a<1 then b 0 else b (zW zI (zW zI (Int.tdiv a 2)+Int.tmod a 2))
def Q2(a:Int):Option Int:=
 oP a (fun a0=>some a0)
def oF{R:Type}(a:ByteArray)(b:Int)(c:ByteArray->Int->Int->Option R)(d:ByteArray->Int->(List Int)->Int->Int->Option R):Option R:=
 bif b<0 then c (bs []) 1 0 else bif 999<b then c (bs []) 1 0 else(Q2 b).bind fun r1=>bif(a.size:Int)<r1 then c (bs []) 2 (a.size:Int) else bif 0<=zW zI (b+1) then bif zW zI (b+1)*1<=140737488355328 then(Q2 b).bind fun r2=>d a b [] r2 0 else none else none
def mA{R:Type}(a:ByteArray)(b:Int)(c:(List Int))(d e:Int)(f:Int->ByteArray->Int->Int->(List Int)->Option R)(g:ByteArray->Int->(List Int)->Int->Int->Option R)(h:Int->(List Int)->Option R):Option R:=
 bif e<d then zd e a.size (zd e a.size (bif e=0 then bif !decide (Int.tmod b 2=0) then bif !decide (Int.fdiv (ze a e.toNat) (2^min ((4:Int)).toNat 8)=0) then f b (bs []) 4 0 c else bif 9<Int.fdiv (ze a e.toNat) (2^min ((4:Int)).toNat 8) then f b (bs []) 3 e c else bif 9<aP .and .u8 (ze a e.toNat) 15 then f b (bs []) 3 e c else bif(List.length c+List.length ([(zW zU ((48:Int)+Int.fdiv (ze a e.toNat) (2^min ((4:Int)).toNat 8))),(zW zU ((48:Int)+aP .and .u8 (ze a e.toNat) (15:Int)))]:List Int))*1<=140737488355328 then g a b (c++([(zW zU (48+Int.fdiv (ze a e.toNat) (2^min ((4:Int)).toNat 8))),(zW zU (48+aP .and .u8 (ze a e.toNat) 15))]:List Int)) d (zW zI (e+1)) else none else bif 9<Int.fdiv (ze a e.toNat) (2^min ((4:Int)).toNat 8) then f b (bs []) 3 e c else bif 9<aP .and .u8 (ze a e.toNat) 15 then f b (bs []) 3 e c else bif(List.length c+List.length ([(zW zU ((48:Int)+Int.fdiv (ze a e.toNat) (2^min ((4:Int)).toNat 8))),(zW zU ((48:Int)+aP .and .u8 (ze a e.toNat) (15:Int)))]:List Int))*1<=140737488355328 then g a b (c++([(zW zU (48+Int.fdiv (ze a e.toNat) (2^min ((4:Int)).toNat 8))),(zW zU (48+aP .and .u8 (ze a e.toNat) 15))]:List Int)) d (zW zI (e+1)) else none else bif 9<Int.fdiv (ze a e.toNat) (2^min ((4:Int)).toNat 8) then f b (bs []) 3 e c else bif 9<aP .and .u8 (ze a e.toNat) 15 then f b (bs []) 3 e c else bif(List.length c+List.length ([(zW zU ((48:Int)+Int.fdiv (ze a e.toNat) (2^min ((4:Int)).toNat 8))),(zW zU ((48:Int)+aP .and .u8 (ze a e.toNat) (15:Int)))]:List Int))*1<=140737488355328 then g a b (c++([(zW zU (48+Int.fdiv (ze a e.toNat) (2^min ((4:Int)).toNat 8))),(zW zU (48+aP .and .u8 (ze a e.toNat) 15))]:List Int)) d (zW zI (e+1)) else none)) else h b c
def sk{R:Type}(a:Int)(b:ByteArray)(c d:Int)(e:(List Int))(f:ByteArray->Int->Int->Option R):Option R:=
 f b c d
def oG{R:Type}(a:Int)(b:(List Int))(c:ByteArray->Int->Int->Option R):Option R:=
 bif 0<=Int.tmod a 2 then bif Int.tmod a 2<=(((List.length b):Nat):Int) then c (strOf (List.drop (Int.tmod a (2:Int)).toNat (List.take (List.length b) b))) 0 0 else none else none
def iR:Nat->ByteArray->Int->(List Int)->Int->Int->Option (Sum (Int×ByteArray×Int×Int×(List Int)) (Int×(List Int)))
 |0,_,_,_,_,_=>none
 |k+1,v0,v1,v2,v3,v4=>mA v0 v1 v2 v3 v4 (fun a0 a1 a2 a3 a4=>some (.inl (a0,a1,a2,a3,a4))) (fun a0 a1 a2 a3 a4=>iR k a0 a1 a2 a3 a4) (fun a0 a1=>some (.inr (a0,a1)))
def Q0(a:ByteArray)(b:Int):Option I2:=
 oF a b (fun a0 a1 a2=>some (a0,a1,a2)) (fun a0 a1 a2 a3 a4=>(iR ag a0 a1 a2 a3 a4).bind fun e=>Sum.elim (fun(we:(Int×ByteArray×Int×Int×(List Int)))=>sk we.1 we.2.1 we.2.2.1 we.2.2.2.1 we.2.2.2.2 (fun a0 a1 a2=>some (a0,a1,a2))) (fun(we:(Int×(List Int)))=>oG we.1 we.2 (fun a0 a1 a2=>some (a0,a1,a2))) e)
def kM{R:Type}(a:ByteArray)(b:ByteArray->Bool->Option R)(c:ByteArray->(List Int)->Int->Option R):Option R:=
 bif 999<(a.size:Int) then b (bs []) false else(yh a).bind fun r1=>bif !r1 then b (bs []) false else bif !decide (Int.tmod (a.size:Int) 2=0) then bif(bs [48]).size+a.size<=9223372036854775807 then bif 0<=zW zI (Int.tdiv ((bs [48]++a).size:Int) 2) then bif zW zI (Int.tdiv ((bs [48]++a).size:Int) 2)*1<=140737488355328 then c (bs [48]++a) [] 0 else none else none else none else bif 0<=zW zI (Int.tdiv (a.size:Int) 2) then bif zW zI (Int.tdiv (a.size:Int) 2)*1<=140737488355328 then c a [] 0 else none else none
theorem acA{R S:Type}(F:R->Option S)(a)(b)(c):(kM a b c).bind F=kM a (fun a0 a1=>(b a0 a1).bind F) (fun a0 a1 a2=>(c a0 a1 a2).bind F):=by
 simp only[kM,aE]
def mH{R:Type}(a:ByteArray)(b:(List Int))(c:Int)(d:ByteArray->(List Int)->Int->Option R)(e:(List Int)->Option R):Option R:=
 bif c<(a.size:Int) then zd c a.size (zd (zW zI (c+1)) a.size (bif(List.length b+List.length ([(aP .or .u8 (zW zU (zW zU (ze a c.toNat-(48:Int))*2^min ((4:Int)).toNat 8)) (zW zU (ze a (zW zI (c+(1:Int))).toNat-(48:Int))))]:List Int))*1<=140737488355328 then d a (b++([(aP .or .u8 (zW zU (zW zU (ze a c.toNat-48)*2^min ((4:Int)).toNat 8)) (zW zU (ze a (zW zI (c+(1:Int))).toNat-48)))]:List Int)) (zW zI (c+2)) else none)) else e b
def sZ{R:Type}(a:(List Int))(b:ByteArray->Bool->Option R):Option R:=
 b (strOf a) true
def jJ:Nat->ByteArray->(List Int)->Int->Option (List Int)
 |0,_,_,_=>none
 |k+1,v0,v1,v2=>mH v0 v1 v2 (fun a0 a1 a2=>jJ k a0 a1 a2) (fun a0=>some a0)
def Q1(a:ByteArray):Option jy:=
 kM a (fun a0 a1=>some (a0,a1)) (fun a0 a1 a2=>(jJ ag a0 a1 a2).bind fun e=>sZ e (fun a0 a1=>some (a0,a1)))
def oY{R:Type}(a:Int)(b:Int->Option R):Option R:=
 bif a<0 then b 0 else bif 65535<a then b 0 else bif 255<a then b (zW zI (zW zI (zW zI (0+1)+1)+1)) else bif 127<a then b (zW zI (zW zI (0+1)+1)) else b (zW zI (0+1))
def Q4(a:Int):Option Int:=
 oY a (fun a0=>some a0)
def kN{R:Type}(a:ByteArray)(b:Int)(c:Int->Int->Int->Option R)(d:ByteArray->Int->Int->Int->Int->Int->Option R):Option R:=
 bif b<0 then c 0 0 1 else bif(a.size:Int)<b then c 0 0 1 else bif b=(a.size:Int) then c 0 0 2 else zd b a.size (bif 127<zW zI (ze a b.toNat) then bif zW zI (ze a b.toNat)=128 then c 0 0 14 else bif 130<zW zI (ze a b.toNat) then c 0 0 14 else bif zW zI ((a.size:Int)-zW zI (b+1))<zW zI (zW zI (ze a b.toNat)-128) then c 0 0 2 else d a (zW zI (b+1)) 0 (zW zI (zW zI (ze a b.toNat)-128)) (zW zI (zW zI (ze a b.toNat)-128)) 0 else bif zW zI ((a.size:Int)-zW zI (b+1))<0 then c 0 0 2 else d a (zW zI (b+1)) (zW zI (ze a b.toNat)) 0 0 0)
theorem acB{R S:Type}(F:R->Option S)(a)(b)(c)(d):(kN a b c d).bind F=kN a b (fun a0 a1 a2=>(c a0 a1 a2).bind F) (fun a0 a1 a2 a3 a4 a5=>(d a0 a1 a2 a3 a4 a5).bind F):=by
 simp only[kN,aE]
def kO{R:Type}(a:ByteArray)(b c d e f:Int)(g:ByteArray->Int->Int->Int->Int->Int->Option R)(h:Int->Int->Int->Option R):Option R:=
 bif f<e then zd (zW zI (b+f)) a.size (g a b (aP .or .i64 (zW zI (c*2^min ((8:Int)).toNat 64)) (zW zI (ze a (zW zI (b+f)).toNat))) d e (zW zI (f+1))) else h b c d
def kP{R:Type}(a b c:Int)(d:Int->Int->Int->Option R):Option R:=
 (Q4 b).bind fun r1=>bif !decide (r1=zW zI (c+1)) then d 0 0 14 else d b (zW zI (a+c)) 0
def eO:Nat->ByteArray->Int->Int->Int->Int->Int->Option jl
 |0,_,_,_,_,_,_=>none
 |k+1,v0,v1,v2,v3,v4,v5=>kO v0 v1 v2 v3 v4 v5 (fun a0 a1 a2 a3 a4 a5=>eO k a0 a1 a2 a3 a4 a5) (fun a0 a1 a2=>some (a0,a1,a2))
def Q3(a:ByteArray)(b:Int):Option jl:=
 kN a b (fun a0 a1 a2=>some (a0,a1,a2)) (fun a0 a1 a2 a3 a4 a5=>(eO ag a0 a1 a2 a3 a4 a5).bind fun e=>kP e.1 e.2.1 e.2.2 (fun a0 a1 a2=>some (a0,a1,a2)))
def zy0{R:Type}(a:Int)(b:Int->Option R):Option R:=
 bif 4294967296<=a then bif 65536<=Int.fdiv a (2^min ((32:Int)).toNat 64) then bif 256<=Int.fdiv (Int.fdiv a (2^min ((32:Int)).toNat 64)) (2^min ((16:Int)).toNat 64) then zd (zW zU (Int.fdiv (Int.fdiv (Int.fdiv a (2^min ((32:Int)).toNat 64)) (2^min ((16:Int)).toNat 64)) (2^min ((8:Int)).toNat 64))) (bs [0,1,2,2,3,3,3,3,4,4,4,4,4,4,4,4,5,5,5,5,5,5,5,5,5,5,5,5,5,5,5,5,6,6,6,6,6,6,6,6,6,6,6,6,6,6,6,6,6,6,6,6,6,6,6,6,6,6,6,6,6,6,6,6,7,7,7,7,7,7,7,7,7,7,7,7,7,7,7,7,7,7,7,7,7,7,7,7,7,7,7,7,7,7,7,7,7,7,7,7,7,7,7,7,7,7,7,7,7,7,7,7,7,7,7,7,7,7,7,7,7,7,7,7,7,7,7,7,8,8,8,8,8,8,8,8,8,8,8,8,8,8,8,8,8,8,8,8,8,8,8,8,8,8,8,8,8,8,8,8,8,8,8,8,8,8,8,8,8,8,8,8,8,8,8,8,8,8,8,8,8,8,8,8,8,8,8,8,8,8,8,8,8,8,8,8,8,8,8,8,8,8,8,8,8,8,8,8,8,8,8,8,8,8,8,8,8,8,8,8,8,8,8,8,8,8,8,8,8,8,8,8,8,8,8,8,8,8,8,8,8,8,8,8,8,8,8,8,8,8,8,8,8,8,8,8]).size (b (zW zI (zW zI (zW zI (32+16)+8)+zW zI (ze (bs [0,1,2,2,3,3,3,3,4,4,4,4,4,4,4,4,5,5,5,5,5,5,5,5,5,5,5,5,5,5,5,5,6,6,6,6,6,6,6,6,6,6,6,6,6,6,6,6,6,6,6,6,6,6,6,6,6,6,6,6,6,6,6,6,7,7,7,7,7,7,7,7,7,7,7,7,7,7,7,7,7,7,7,7,7,7,7,7,7,7,7,7,7,7,7,7,7,7,7,7,7,7,7,7,7,7,7,7,7,7,7,7,7,7,7,7,7,7,7,7,7,7,7,7,7,7,7,7,8,8,8,8,8,8,8,8,8,8,8,8,8,8,8,8,8,8,8,8,8,8,8,8,8,8,8,8,8,8,8,8,8,8,8,8,8,8,8,8,8,8,8,8,8,8,8,8,8,8,8,8,8,8,8,8,8,8,8,8,8,8,8,8,8,8,8,8,8,8,8,8,8,8,8,8,8,8,8,8,8,8,8,8,8,8,8,8,8,8,8,8,8,8,8,8,8,8,8,8,8,8,8,8,8,8,8,8,8,8,8,8,8,8,8,8,8,8,8,8,8,8,8,8,8,8,8,8]) (zW zU (Int.fdiv (Int.fdiv (Int.fdiv a (2^min ((32:Int)).toNat 64)) (2^min ((16:Int)).toNat 64)) (2^min ((8:Int)).toNat 64))).toNat)))) else zd (zW zU (Int.fdiv (Int.fdiv a (2^min ((32:Int)).toNat 64)) (2^min ((16:Int)).toNat 64))) (bs [0,1,2,2,3,3,3,3,4,4,4,4,4,4,4,4,5,5,5,5,5,5,5,5,5,5,5,5,5,5,5,5,6,6,6,6,6,6,6,6,6,6,6,6,6,6,6,6,6,6,6,6,6,6,6,6,6,6,6,6,6,6,6,6,7,7,7,7,7,7,7,7,7,7,7,7,7,7,7,7,7,7,7,7,7,7,7,7,7,7,7,7,7,7,7,7,7,7,7,7,7,7,7,7,7,7,7,7,7,7,7,7,7,7,7,7,7,7,7,7,7,7,7,7,7,7,7,7,8,8,8,8,8,8,8,8,8,8,8,8,8,8,8,8,8,8,8,8,8,8,8,8,8,8,8,8,8,8,8,8,8,8,8,8,8,8,8,8,8,8,8,8,8,8,8,8,8,8,8,8,8,8,8,8,8,8,8,8,8,8,8,8,8,8,8,8,8,8,8,8,8,8,8,8,8,8,8,8,8,8,8,8,8,8,8,8,8,8,8,8,8,8,8,8,8,8,8,8,8,8,8,8,8,8,8,8,8,8,8,8,8,8,8,8,8,8,8,8,8,8,8,8,8,8,8,8]).size (b (zW zI (zW zI (32+16)+zW zI (ze (bs [0,1,2,2,3,3,3,3,4,4,4,4,4,4,4,4,5,5,5,5,5,5,5,5,5,5,5,5,5,5,5,5,6,6,6,6,6,6,6,6,6,6,6,6,6,6,6,6,6,6,6,6,6,6,6,6,6,6,6,6,6,6,6,6,7,7,7,7,7,7,7,7,7,7,7,7,7,7,7,7,7,7,7,7,7,7,7,7,7,7,7,7,7,7,7,7,7,7,7,7,7,7,7,7,7,7,7,7,7,7,7,7,7,7,7,7,7,7,7,7,7,7,7,7,7,7,7,7,8,8,8,8,8,8,8,8,8,8,8,8,8,8,8,8,8,8,8,8,8,8,8,8,8,8,8,8,8,8,8,8,8,8,8,8,8,8,8,8,8,8,8,8,8,8,8,8,8,8,8,8,8,8,8,8,8,8,8,8,8,8,8,8,8,8,8,8,8,8,8,8,8,8,8,8,8,8,8,8,8,8,8,8,8,8,8,8,8,8,8,8,8,8,8,8,8,8,8,8,8,8,8,8,8,8,8,8,8,8,8,8,8,8,8,8,8,8,8,8,8,8,8,8,8,8,8,8]) (zW zU (Int.fdiv (Int.fdiv a (2^min ((32:Int)).toNat 64)) (2^min ((16:Int)).toNat 64))).toNat)))) else bif 256<=Int.fdiv a (2^min ((32:Int)).toNat 64) then zd (zW zU (Int.fdiv (Int.fdiv a (2^min ((32:Int)).toNat 64)) (2^min ((8:Int)).toNat 64))) (bs [0,1,2,2,3,3,3,3,4,4,4,4,4,4,4,4,5,5,5,5,5,5,5,5,5,5,5,5,5,5,5,5,6,6,6,6,6,6,6,6,6,6,6,6,6,6,6,6,6,6,6,6,6,6,6,6,6,6,6,6,6,6,6,6,7,7,7,7,7,7,7,7,7,7,7,7,7,7,7,7,7,7,7,7,7,7,7,7,7,7,7,7,7,7,7,7,7,7,7,7,7,7,7,7,7,7,7,7,7,7,7,7,7,7,7,7,7,7,7,7,7,7,7,7,7,7,7,7,8,8,8,8,8,8,8,8,8,8,8,8,8,8,8,8,8,8,8,8,8,8,8,8,8,8,8,8,8,8,8,8,8,8,8,8,8,8,8,8,8,8,8,8,8,8,8,8,8,8,8,8,8,8,8,8,8,8,8,8,8,8,8,8,8,8,8,8,8,8,8,8,8,8,8,8,8,8,8,8,8,8,8,8,8,8,8,8,8,8,8,8,8,8,8,8,8,8,8,8,8,8,8,8,8,8,8,8,8,8,8,8,8,8,8,8,8,8,8,8,8,8,8,8,8,8,8,8]).size (b (zW zI (zW zI (32+8)+zW zI (ze (bs [0,1,2,2,3,3,3,3,4,4,4,4,4,4,4,4,5,5,5,5,5,5,5,5,5,5,5,5,5,5,5,5,6,6,6,6,6,6,6,6,6,6,6,6,6,6,6,6,6,6,6,6,6,6,6,6,6,6,6,6,6,6,6,6,7,7,7,7,7,7,7,7,7,7,7,7,7,7,7,7,7,7,7,7,7,7,7,7,7,7,7,7,7,7,7,7,7,7,7,7,7,7,7,7,7,7,7,7,7,7,7,7,7,7,7,7,7,7,7,7,7,7,7,7,7,7,7,7,8,8,8,8,8,8,8,8,8,8,8,8,8,8,8,8,8,8,8,8,8,8,8,8,8,8,8,8,8,8,8,8,8,8,8,8,8,8,8,8,8,8,8,8,8,8,8,8,8,8,8,8,8,8,8,8,8,8,8,8,8,8,8,8,8,8,8,8,8,8,8,8,8,8,8,8,8,8,8,8,8,8,8,8,8,8,8,8,8,8,8,8,8,8,8,8,8,8,8,8,8,8,8,8,8,8,8,8,8,8,8,8,8,8,8,8,8,8,8,8,8,8,8,8,8,8,8,8]) (zW zU (Int.fdiv (Int.fdiv a (2^min ((32:Int)).toNat 64)) (2^min ((8:Int)).toNat 64))).toNat)))) else zd (zW zU (Int.fdiv a (2^min ((32:Int)).toNat 64))) (bs [0,1,2,2,3,3,3,3,4,4,4,4,4,4,4,4,5,5,5,5,5,5,5,5,5,5,5,5,5,5,5,5,6,6,6,6,6,6,6,6,6,6,6,6,6,6,6,6,6,6,6,6,6,6,6,6,6,6,6,6,6,6,6,6,7,7,7,7,7,7,7,7,7,7,7,7,7,7,7,7,7,7,7,7,7,7,7,7,7,7,7,7,7,7,7,7,7,7,7,7,7,7,7,7,7,7,7,7,7,7,7,7,7,7,7,7,7,7,7,7,7,7,7,7,7,7,7,7,8,8,8,8,8,8,8,8,8,8,8,8,8,8,8,8,8,8,8,8,8,8,8,8,8,8,8,8,8,8,8,8,8,8,8,8,8,8,8,8,8,8,8,8,8,8,8,8,8,8,8,8,8,8,8,8,8,8,8,8,8,8,8,8,8,8,8,8,8,8,8,8,8,8,8,8,8,8,8,8,8,8,8,8,8,8,8,8,8,8,8,8,8,8,8,8,8,8,8,8,8,8,8,8,8,8,8,8,8,8,8,8,8,8,8,8,8,8,8,8,8,8,8,8,8,8,8,8]).size (b (zW zI (32+zW zI (ze (bs [0,1,2,2,3,3,3,3,4,4,4,4,4,4,4,4,5,5,5,5,5,5,5,5,5,5,5,5,5,5,5,5,6,6,6,6,6,6,6,6,6,6,6,6,6,6,6,6,6,6,6,6,6,6,6,6,6,6,6,6,6,6,6,6,7,7,7,7,7,7,7,7,7,7,7,7,7,7,7,7,7,7,7,7,7,7,7,7,7,7,7,7,7,7,7,7,7,7,7,7,7,7,7,7,7,7,7,7,7,7,7,7,7,7,7,7,7,7,7,7,7,7,7,7,7,7,7,7,8,8,8,8,8,8,8,8,8,8,8,8,8,8,8,8,8,8,8,8,8,8,8,8,8,8,8,8,8,8,8,8,8,8,8,8,8,8,8,8,8,8,8,8,8,8,8,8,8,8,8,8,8,8,8,8,8,8,8,8,8,8,8,8,8,8,8,8,8,8,8,8,8,8,8,8,8,8,8,8,8,8,8,8,8,8,8,8,8,8,8,8,8,8,8,8,8,8,8,8,8,8,8,8,8,8,8,8,8,8,8,8,8,8,8,8,8,8,8,8,8,8,8,8,8,8,8,8]) (zW zU (Int.fdiv a (2^min ((32:Int)).toNat 64))).toNat)))) else bif 65536<=a then bif 256<=Int.fdiv a (2^min ((16:Int)).toNat 64) then zd (zW zU (Int.fdiv (Int.fdiv a (2^min ((16:Int)).toNat 64)) (2^min ((8:Int)).toNat 64))) (bs [0,1,2,2,3,3,3,3,4,4,4,4,4,4,4,4,5,5,5,5,5,5,5,5,5,5,5,5,5,5,5,5,6,6,6,6,6,6,6,6,6,6,6,6,6,6,6,6,6,6,6,6,6,6,6,6,6,6,6,6,6,6,6,6,7,7,7,7,7,7,7,7,7,7,7,7,7,7,7,7,7,7,7,7,7,7,7,7,7,7,7,7,7,7,7,7,7,7,7,7,7,7,7,7,7,7,7,7,7,7,7,7,7,7,7,7,7,7,7,7,7,7,7,7,7,7,7,7,8,8,8,8,8,8,8,8,8,8,8,8,8,8,8,8,8,8,8,8,8,8,8,8,8,8,8,8,8,8,8,8,8,8,8,8,8,8,8,8,8,8,8,8,8,8,8,8,8,8,8,8,8,8,8,8,8,8,8,8,8,8,8,8,8,8,8,8,8,8,8,8,8,8,8,8,8,8,8,8,8,8,8,8,8,8,8,8,8,8,8,8,8,8,8,8,8,8,8,8,8,8,8,8,8,8,8,8,8,8,8,8,8,8,8,8,8,8,8,8,8,8,8,8,8,8,8,8]).size (b (zW zI (zW zI (zW zI (0+16)+8)+zW zI (ze (bs [0,1,2,2,3,3,3,3,4,4,4,4,4,4,4,4,5,5,5,5,5,5,5,5,5,5,5,5,5,5,5,5,6,6,6,6,6,6,6,6,6,6,6,6,6,6,6,6,6,6,6,6,6,6,6,6,6,6,6,6,6,6,6,6,7,7,7,7,7,7,7,7,7,7,7,7,7,7,7,7,7,7,7,7,7,7,7,7,7,7,7,7,7,7,7,7,7,7,7,7,7,7,7,7,7,7,7,7,7,7,7,7,7,7,7,7,7,7,7,7,7,7,7,7,7,7,7,7,8,8,8,8,8,8,8,8,8,8,8,8,8,8,8,8,8,8,8,8,8,8,8,8,8,8,8,8,8,8,8,8,8,8,8,8,8,8,8,8,8,8,8,8,8,8,8,8,8,8,8,8,8,8,8,8,8,8,8,8,8,8,8,8,8,8,8,8,8,8,8,8,8,8,8,8,8,8,8,8,8,8,8,8,8,8,8,8,8,8,8,8,8,8,8,8,8,8,8,8,8,8,8,8,8,8,8,8,8,8,8,8,8,8,8,8,8,8,8,8,8,8,8,8,8,8,8,8]) (zW zU (Int.fdiv (Int.fdiv a (2^min ((16:Int)).toNat 64)) (2^min ((8:Int)).toNat 64))).toNat)))) else zd (zW zU (Int.fdiv a (2^min ((16:Int)).toNat 64))) (bs [0,1,2,2,3,3,3,3,4,4,4,4,4,4,4,4,5,5,5,5,5,5,5,5,5,5,5,5,5,5,5,5,6,6,6,6,6,6,6,6,6,6,6,6,6,6,6,6,6,6,6,6,6,6,6,6,6,6,6,6,6,6,6,6,7,7,7,7,7,7,7,7,7,7,7,7,7,7,7,7,7,7,7,7,7,7,7,7,7,7,7,7,7,7,7,7,7,7,7,7,7,7,7,7,7,7,7,7,7,7,7,7,7,7,7,7,7,7,7,7,7,7,7,7,7,7,7,7,8,8,8,8,8,8,8,8,8,8,8,8,8,8,8,8,8,8,8,8,8,8,8,8,8,8,8,8,8,8,8,8,8,8,8,8,8,8,8,8,8,8,8,8,8,8,8,8,8,8,8,8,8,8,8,8,8,8,8,8,8,8,8,8,8,8,8,8,8,8,8,8,8,8,8,8,8,8,8,8,8,8,8,8,8,8,8,8,8,8,8,8,8,8,8,8,8,8,8,8,8,8,8,8,8,8,8,8,8,8,8,8,8,8,8,8,8,8,8,8,8,8,8,8,8,8,8,8]).size (b (zW zI (zW zI (0+16)+zW zI (ze (bs [0,1,2,2,3,3,3,3,4,4,4,4,4,4,4,4,5,5,5,5,5,5,5,5,5,5,5,5,5,5,5,5,6,6,6,6,6,6,6,6,6,6,6,6,6,6,6,6,6,6,6,6,6,6,6,6,6,6,6,6,6,6,6,6,7,7,7,7,7,7,7,7,7,7,7,7,7,7,7,7,7,7,7,7,7,7,7,7,7,7,7,7,7,7,7,7,7,7,7,7,7,7,7,7,7,7,7,7,7,7,7,7,7,7,7,7,7,7,7,7,7,7,7,7,7,7,7,7,8,8,8,8,8,8,8,8,8,8,8,8,8,8,8,8,8,8,8,8,8,8,8,8,8,8,8,8,8,8,8,8,8,8,8,8,8,8,8,8,8,8,8,8,8,8,8,8,8,8,8,8,8,8,8,8,8,8,8,8,8,8,8,8,8,8,8,8,8,8,8,8,8,8,8,8,8,8,8,8,8,8,8,8,8,8,8,8,8,8,8,8,8,8,8,8,8,8,8,8,8,8,8,8,8,8,8,8,8,8,8,8,8,8,8,8,8,8,8,8,8,8,8,8,8,8,8,8]) (zW zU (Int.fdiv a (2^min ((16:Int)).toNat 64))).toNat)))) else bif 256<=a then zd (zW zU (Int.fdiv a (2^min ((8:Int)).toNat 64))) (bs [0,1,2,2,3,3,3,3,4,4,4,4,4,4,4,4,5,5,5,5,5,5,5,5,5,5,5,5,5,5,5,5,6,6,6,6,6,6,6,6,6,6,6,6,6,6,6,6,6,6,6,6,6,6,6,6,6,6,6,6,6,6,6,6,7,7,7,7,7,7,7,7,7,7,7,7,7,7,7,7,7,7,7,7,7,7,7,7,7,7,7,7,7,7,7,7,7,7,7,7,7,7,7,7,7,7,7,7,7,7,7,7,7,7,7,7,7,7,7,7,7,7,7,7,7,7,7,7,8,8,8,8,8,8,8,8,8,8,8,8,8,8,8,8,8,8,8,8,8,8,8,8,8,8,8,8,8,8,8,8,8,8,8,8,8,8,8,8,8,8,8,8,8,8,8,8,8,8,8,8,8,8,8,8,8,8,8,8,8,8,8,8,8,8,8,8,8,8,8,8,8,8,8,8,8,8,8,8,8,8,8,8,8,8,8,8,8,8,8,8,8,8,8,8,8,8,8,8,8,8,8,8,8,8,8,8,8,8,8,8,8,8,8,8,8,8,8,8,8,8,8,8,8,8,8,8]).size (b (zW zI (zW zI (0+8)+zW zI (ze (bs [0,1,2,2,3,3,3,3,4,4,4,4,4,4,4,4,5,5,5,5,5,5,5,5,5,5,5,5,5,5,5,5,6,6,6,6,6,6,6,6,6,6,6,6,6,6,6,6,6,6,6,6,6,6,6,6,6,6,6,6,6,6,6,6,7,7,7,7,7,7,7,7,7,7,7,7,7,7,7,7,7,7,7,7,7,7,7,7,7,7,7,7,7,7,7,7,7,7,7,7,7,7,7,7,7,7,7,7,7,7,7,7,7,7,7,7,7,7,7,7,7,7,7,7,7,7,7,7,8,8,8,8,8,8,8,8,8,8,8,8,8,8,8,8,8,8,8,8,8,8,8,8,8,8,8,8,8,8,8,8,8,8,8,8,8,8,8,8,8,8,8,8,8,8,8,8,8,8,8,8,8,8,8,8,8,8,8,8,8,8,8,8,8,8,8,8,8,8,8,8,8,8,8,8,8,8,8,8,8,8,8,8,8,8,8,8,8,8,8,8,8,8,8,8,8,8,8,8,8,8,8,8,8,8,8,8,8,8,8,8,8,8,8,8,8,8,8,8,8,8,8,8,8,8,8,8]) (zW zU (Int.fdiv a (2^min ((8:Int)).toNat 64))).toNat)))) else zd (zW zU a) (bs [0,1,2,2,3,3,3,3,4,4,4,4,4,4,4,4,5,5,5,5,5,5,5,5,5,5,5,5,5,5,5,5,6,6,6,6,6,6,6,6,6,6,6,6,6,6,6,6,6,6,6,6,6,6,6,6,6,6,6,6,6,6,6,6,7,7,7,7,7,7,7,7,7,7,7,7,7,7,7,7,7,7,7,7,7,7,7,7,7,7,7,7,7,7,7,7,7,7,7,7,7,7,7,7,7,7,7,7,7,7,7,7,7,7,7,7,7,7,7,7,7,7,7,7,7,7,7,7,8,8,8,8,8,8,8,8,8,8,8,8,8,8,8,8,8,8,8,8,8,8,8,8,8,8,8,8,8,8,8,8,8,8,8,8,8,8,8,8,8,8,8,8,8,8,8,8,8,8,8,8,8,8,8,8,8,8,8,8,8,8,8,8,8,8,8,8,8,8,8,8,8,8,8,8,8,8,8,8,8,8,8,8,8,8,8,8,8,8,8,8,8,8,8,8,8,8,8,8,8,8,8,8,8,8,8,8,8,8,8,8,8,8,8,8,8,8,8,8,8,8,8,8,8,8,8,8]).size (b (zW zI (0+zW zI (ze (bs [0,1,2,2,3,3,3,3,4,4,4,4,4,4,4,4,5,5,5,5,5,5,5,5,5,5,5,5,5,5,5,5,6,6,6,6,6,6,6,6,6,6,6,6,6,6,6,6,6,6,6,6,6,6,6,6,6,6,6,6,6,6,6,6,7,7,7,7,7,7,7,7,7,7,7,7,7,7,7,7,7,7,7,7,7,7,7,7,7,7,7,7,7,7,7,7,7,7,7,7,7,7,7,7,7,7,7,7,7,7,7,7,7,7,7,7,7,7,7,7,7,7,7,7,7,7,7,7,8,8,8,8,8,8,8,8,8,8,8,8,8,8,8,8,8,8,8,8,8,8,8,8,8,8,8,8,8,8,8,8,8,8,8,8,8,8,8,8,8,8,8,8,8,8,8,8,8,8,8,8,8,8,8,8,8,8,8,8,8,8,8,8,8,8,8,8,8,8,8,8,8,8,8,8,8,8,8,8,8,8,8,8,8,8,8,8,8,8,8,8,8,8,8,8,8,8,8,8,8,8,8,8,8,8,8,8,8,8,8,8,8,8,8,8,8,8,8,8,8,8,8,8,8,8,8,8]) (zW zU a).toNat))))
def sK(a:Int):Option Int:=
 zy0 a (fun a0=>some a0)
def TL{R:Type}(a:Int)(b:Int->Option R):Option R:=
 (sK a).bind fun r1=>b (zW zI (64-r1))
def mE(a:Int):Option Int:=
 TL a (fun a0=>some a0)
def WM{R:Type}(a:Int)(b:aQ->Option R):Option R:=
 bif a<1 then b (0,0,()) else bif 128<a then b (0,0,()) else bif a<=64 then bif zW zI (64-a)<0 then none else b (IntKind.u64.wrap (1*2^min (zW zI (64-a)).toNat 64),0,()) else bif zW zI (128-a)<0 then none else b (0,IntKind.u64.wrap (1*2^min (zW zI (128-a)).toNat 64),())
def Fi(a:Int):Option aQ:=
 WM a (fun a0=>some a0)
def WI{R:Type}(a b:aQ)(c:aQ->Option R):Option R:=
 c (aP .or .u64 a.1 b.1,aP .or .u64 a.2.1 b.2.1,())
def tf(a b:aQ):Option aQ:=
 WI a b (fun a0=>some a0)
def WL{R:Type}(a:aQ)(b:Int)(c:aQ->Option R):Option R:=
 (Fi b).bind fun r1=>(tf a r1).bind fun r2=>c r2
def yj(a:aQ)(b:Int):Option aQ:=
 WL a b (fun a0=>some a0)
def WG{R:Type}(a:(List Int))(b:(List Int)->Int->Int->aQ->aQ->Option R):Option R:=
 b a ((List.length a):Int) 0 (0,0,()) (0,0,())
def Qk{R:Type}(a:(List Int))(b c:Int)(d e:aQ)(f:(List Int)->Int->Int->aQ->aQ->Option R)(g:aQ->aQ->Option R):Option R:=
 bif c<b then zd c (List.length a) ((yj e (List.getD a c.toNat (0:Int))).bind fun r1=>f a b (zW zI (c+1)) d r1) else g d e
def WH{R:Type}(a b:aQ)(c:aQ->Option R):Option R:=
 c b
def A9:Nat->(List Int)->Int->Int->aQ->aQ->Option (aQ×aQ)
 |0,_,_,_,_,_=>none
 |k+1,v0,v1,v2,v3,v4=>Qk v0 v1 v2 v3 v4 (fun a0 a1 a2 a3 a4=>A9 k a0 a1 a2 a3 a4) (fun a0 a1=>some (a0,a1))
def uY(a:(List Int)):Option aQ:=
 WG a (fun a0 a1 a2 a3 a4=>(A9 ag a0 a1 a2 a3 a4).bind fun e=>WH e.1 e.2 (fun a0=>some a0))
def Ql{R:Type}(a b:aQ)(c:aQ->Option R):Option R:=
 c (aP .and .u64 a.1 b.1,aP .and .u64 a.2.1 b.2.1,())
def rL(a b:aQ):Option aQ:=
 Ql a b (fun a0=>some a0)
def Dn{R:Type}(a b:Int)(c:aQ->Option R):Option R:=
 c (a,b,())
def QP(a b:Int):Option aQ:=
 Dn a b (fun a0=>some a0)
def WK{R:Type}(a:aQ)(b:Int)(c:Int->Option R):Option R:=
 bif(if b<0 then 0 else b)<64 then bif(if b<0 then 0 else b)<0 then none else bif !decide (IntKind.u64.wrap (a.1*2^min (if b<0 then 0 else b).toNat 64)=0) then(mE (IntKind.u64.wrap (a.1*2^min (if b<0 then 0 else b).toNat 64))).bind fun r1=>c (zW zI (zW zI ((if b<0 then 0 else b)+r1)+1)) else bif(if 64<zW zI (64-64) then 64 else zW zI (64-64))<0 then none else bif !decide (IntKind.u64.wrap (a.2.1*2^min (if 64<zW zI (64-64) then 64 else zW zI (64-(64:Int))).toNat 64)=0) then(mE (IntKind.u64.wrap (a.2.1*2^min (if 64<zW zI (64-64) then 64 else zW zI (64-(64:Int))).toNat 64))).bind fun r2=>c (zW zI (zW zI (64+r2)+1)) else c 0 else bif(if 64<zW zI ((if b<0 then 0 else b)-64) then 64 else zW zI ((if b<0 then 0 else b)-64))<0 then none else bif !decide (IntKind.u64.wrap (a.2.1*2^min (if 64<zW zI ((if b<0 then 0 else b)-64) then 64 else zW zI ((if b<0 then 0 else b)-(64:Int))).toNat 64)=0) then(mE (IntKind.u64.wrap (a.2.1*2^min (if 64<zW zI ((if b<0 then 0 else b)-64) then 64 else zW zI ((if b<0 then 0 else b)-(64:Int))).toNat 64))).bind fun r3=>c (zW zI (zW zI ((if b<0 then 0 else b)+r3)+1)) else c 0
def Fh(a:aQ)(b:Int):Option Int:=
 WK a b (fun a0=>some a0)
def WJ{R:Type}(a:aQ)(b:Int)(c:Bool->Option R):Option R:=
 (Fi b).bind fun r1=>(rL a r1).bind fun r2=>c (!(decide (r2.1=0)&&(decide (r2.2.1=0)&&true)))
def Hf(a:aQ)(b:Int):Option Bool:=
 WJ a b (fun a0=>some a0)
def Dp{R:Type}(a:aQ)(b:Int->Int->Option R):Option R:=
 b a.1 a.2.1
def QQ(a:aQ):Option (Int×Int):=
 Dp a (fun a0 a1=>some (a0,a1))
def zxw{R:Type}(a:Int)(b:Int->Bool->Option R):Option R:=
 bif 48<=a then bif a<=57 then b (zW zI (zW zU (a-48))) true else bif 65<=a then bif a<=70 then b (zW zI (zW zI (zW zU (a-65))+10)) true else b 0 false else b 0 false else bif 65<=a then bif a<=70 then b (zW zI (zW zI (zW zU (a-65))+10)) true else b 0 false else b 0 false
def sJ(a:Int):Option (Int×Bool):=
 zxw a (fun a0 a1=>some (a0,a1))
def TH{R:Type}(a:ByteArray)(b:ByteArray->(List Int)->Int->Int->Option R):Option R:=
 bif 0<=zW zI (Int.tdiv (a.size:Int) 2) then bif zW zI (Int.tdiv (a.size:Int) 2)*1<=140737488355328 then b a [] 0 0 else none else none
def PC{R:Type}(a:ByteArray)(b:(List Int))(c d:Int)(e:ByteArray->ByteArray->Int->Bool->(List Int)->Option R)(f:ByteArray->(List Int)->Int->Int->Option R)(g:ByteArray->(List Int)->Option R):Option R:=
 bif d<(a.size:Int) then zd d a.size ((sJ (ze a d.toNat)).bind fun r1=>bif !r1.2 then e a (bs []) d false b else bif Int.tmod d 2=0 then f a b r1.1 (zW zI (d+1)) else bif(List.length b+List.length ([(zW zU (aP .or .i64 (zW zI (c*2^min ((4:Int)).toNat 64)) r1.1))]:List Int))*1<=140737488355328 then f a (b++([(zW zU (aP .or .i64 (zW zI (c*2^min ((4:Int)).toNat 64)) r1.1))]:List Int)) c (zW zI (d+1)) else none) else g a b
def zxy{R:Type}(a b:ByteArray)(c:Int)(d:Bool)(e:(List Int))(f:ByteArray->Int->Bool->Option R):Option R:=
 f b c d
def TI{R:Type}(a:ByteArray)(b:(List Int))(c:ByteArray->Int->Bool->Option R):Option R:=
 bif !decide (Int.tmod (a.size:Int) 2=0) then c (bs []) (a.size:Int) false else c (strOf b) 0 true
def EL:Nat->ByteArray->(List Int)->Int->Int->Option (Sum (ByteArray×ByteArray×Int×Bool×(List Int)) (ByteArray×(List Int)))
 |0,_,_,_,_=>none
 |k+1,v0,v1,v2,v3=>PC v0 v1 v2 v3 (fun a0 a1 a2 a3 a4=>some (.inl (a0,a1,a2,a3,a4))) (fun a0 a1 a2 a3=>EL k a0 a1 a2 a3) (fun a0 a1=>some (.inr (a0,a1)))
def gG(a:ByteArray):Option (ByteArray×Int×Bool):=
 TH a (fun a0 a1 a2 a3=>(EL ag a0 a1 a2 a3).bind fun e=>Sum.elim (fun(we:(ByteArray×ByteArray×Int×Bool×(List Int)))=>zxy we.1 we.2.1 we.2.2.1 we.2.2.2.1 we.2.2.2.2 (fun a0 a1 a2=>some (a0,a1,a2))) (fun(we:(ByteArray×(List Int)))=>TI we.1 we.2 (fun a0 a1 a2=>some (a0,a1,a2))) e)
def TK{R:Type}(a:ByteArray)(b:ByteArray->(List Int)->Int->Option R):Option R:=
 bif 0<=zW zI (2*(a.size:Int)) then bif zW zI (2*(a.size:Int))*1<=140737488355328 then b a [] 0 else none else none
def PD{R:Type}(a:ByteArray)(b:(List Int))(c:Int)(d:ByteArray->(List Int)->Int->Option R)(e:(List Int)->Option R):Option R:=
 bif c<(a.size:Int) then zd c a.size (zd (Int.fdiv (ze a c.toNat) (2^min ((4:Int)).toNat 8)) (bs [48,49,50,51,52,53,54,55,56,57,65,66,67,68,69,70]).size (zd c a.size (zd (aP .and .u8 (ze a c.toNat) 15) (bs [48,49,50,51,52,53,54,55,56,57,65,66,67,68,69,70]).size (bif(List.length b+List.length ([(ze (bs [48,49,50,51,52,53,54,55,56,57,65,66,67,68,69,70]) (Int.fdiv (ze a c.toNat) (2^min ((4:Int)).toNat 8)).toNat),(ze (bs [48,49,50,51,52,53,54,55,56,57,65,66,67,68,69,70]) (aP .and .u8 (ze a c.toNat) (15:Int)).toNat)]:List Int))*1<=140737488355328 then d a (b++([(ze (bs [48,49,50,51,52,53,54,55,56,57,65,66,67,68,69,70]) (Int.fdiv (ze a c.toNat) (2^min ((4:Int)).toNat 8)).toNat),(ze (bs [48,49,50,51,52,53,54,55,56,57,65,66,67,68,69,70]) (aP .and .u8 (ze a c.toNat) (15:Int)).toNat)]:List Int)) (zW zI (c+1)) else none)))) else e b
def zxz{R:Type}(a:(List Int))(b:ByteArray->Option R):Option R:=
 b (strOf a)
def EM:Nat->ByteArray->(List Int)->Int->Option (List Int)
 |0,_,_,_=>none
 |k+1,v0,v1,v2=>PD v0 v1 v2 (fun a0 a1 a2=>EM k a0 a1 a2) (fun a0=>some a0)
def jH(a:ByteArray):Option ByteArray:=
 TK a (fun a0 a1 a2=>(EM ag a0 a1 a2).bind fun e=>zxz e (fun a0=>some a0))
def mL{R:Type}(a:Int)(b:Bool->Option R):Option R:=
 bif a=1 then b true else b (decide (a=2))
def Q9(a:Int):Option Bool:=
 mL a (fun a0=>some a0)
def VF{R:Type}(a:Int)(b:ByteArray)(c:Int)(d:(List Int)->Int->Int->Option R):Option R:=
 bif a=1 then bif zW zI ((b.size:Int)-c)<zW zI (8*2) then d (List.replicate 8 0) 0 2 else bif 0<=zW zI (c+zW zI (8*2)) then bif zW zI (c+zW zI (8*2))<=(b.size:Int) then bif 0<=c then bif c<=(((zW zI (c+zW zI (8*(2:Int)))).toNat:Nat):Int) then bif a=1 then(gG (b.extract c.toNat (zW zI (c+zW zI (8*(2:Int)))).toNat)).bind fun r1=>bif !r1.2.2 then d (List.replicate 8 0) 0 3 else bif Nat.beq 8 (List.length (List.replicate 8 (0:Int))) then bif Nat.beq 8 (List.length (bX (List.replicate 8 (0:Int)) (List.take 8 (nH r1.1)) 0)) then d (bX (List.replicate 8 0) (List.take 8 (nH r1.1)) 0) (zW zI (c+zW zI (8*2))) 0 else none else none else bif Nat.beq 8 (List.length (List.replicate 8 (0:Int))) then bif Nat.beq 8 (List.length (bX (List.replicate 8 (0:Int)) (List.take 8 (nH (b.extract c.toNat (zW zI (c+zW zI ((8:Int)*(2:Int)))).toNat))) 0)) then d (bX (List.replicate 8 0) (List.take 8 (nH (b.extract c.toNat (zW zI (c+zW zI (8*(2:Int)))).toNat))) 0) (zW zI (c+zW zI (8*2))) 0 else none else none else none else none else none else none else bif zW zI ((b.size:Int)-c)<8 then d (List.replicate 8 0) 0 2 else bif 0<=zW zI (c+8) then bif zW zI (c+8)<=(b.size:Int) then bif 0<=c then bif c<=(((zW zI (c+(8:Int))).toNat:Nat):Int) then bif a=1 then(gG (b.extract c.toNat (zW zI (c+(8:Int))).toNat)).bind fun r2=>bif !r2.2.2 then d (List.replicate 8 0) 0 3 else bif Nat.beq 8 (List.length (List.replicate 8 (0:Int))) then bif Nat.beq 8 (List.length (bX (List.replicate 8 (0:Int)) (List.take 8 (nH r2.1)) 0)) then d (bX (List.replicate 8 0) (List.take 8 (nH r2.1)) 0) (zW zI (c+8)) 0 else none else none else bif Nat.beq 8 (List.length (List.replicate 8 (0:Int))) then bif Nat.beq 8 (List.length (bX (List.replicate 8 (0:Int)) (List.take 8 (nH (b.extract c.toNat (zW zI (c+(8:Int))).toNat))) 0)) then d (bX (List.replicate 8 0) (List.take 8 (nH (b.extract c.toNat (zW zI (c+(8:Int))).toNat))) 0) (zW zI (c+8)) 0 else none else none else none else none else none else none
def Fg(a:Int)(b:ByteArray)(c:Int):Option ((List Int)×Int×Int):=
 VF a b c (fun a0 a1 a2=>some (a0,a1,a2))
def pk{R:Type}(a:(List Int))(b:Int->(List Int)->Int->Option R):Option R:=
 b 0 a 0
def mI{R:Type}(a:Int)(b:(List Int))(c:Int)(d:Int->(List Int)->Int->Option R)(e:Int->Option R):Option R:=
 bif c<8 then zd c 8 (d (aP .or .u64 (IntKind.u64.wrap (a*2^min ((8:Int)).toNat 64)) (IntKind.u64.wrap (List.getD b c.toNat 0))) b (zW zI (c+1))) else e a
def ti{R:Type}(a:Int)(b:Int->Option R):Option R:=
 b a
def jM:Nat->Int->(List Int)->Int->Option Int
 |0,_,_,_=>none
 |k+1,v0,v1,v2=>mI v0 v1 v2 (fun a0 a1 a2=>jM k a0 a1 a2) (fun a0=>some a0)
def Q7(a:(List Int)):Option Int:=
 pk a (fun a0 a1 a2=>(jM ag a0 a1 a2).bind fun e=>ti e (fun a0=>some a0))
def pa{R:Type}(a:Int)(b:ByteArray)(c:Int)(d:aQ->Int->Int->Option R):Option R:=
 (Q9 a).bind fun r1=>bif !r1 then d (0,0,()) 0 1 else bif c<0 then d (0,0,()) 0 1 else bif(b.size:Int)<c then d (0,0,()) 0 1 else(Fg a b c).bind fun r2=>bif !decide (r2.2.2=0) then d (0,0,()) 0 r2.2.2 else(Q7 r2.1).bind fun r3=>bif aP .and .u64 r3 9223372036854775808=0 then(QP r3 (0:Int)).bind fun r4=>d r4 r2.2.1 0 else(Fg a b r2.2.1).bind fun r5=>bif !decide (r5.2.2=0) then d (0,0,()) 0 r5.2.2 else bif r5.1=([0,0,0,0,0,0,0,0]:List Int) then d (0,0,()) 0 8 else(Q7 r5.1).bind fun r6=>(QP (aP .andNot .u64 r3 9223372036854775808) r6).bind fun r7=>d r7 r5.2.1 0
def Q5(a:Int)(b:ByteArray)(c:Int):Option (aQ×Int×Int):=
 pa a b c (fun a0 a1 a2=>some (a0,a1,a2))
def pr{R:Type}(a:Int)(b:Int->Int->(List Int)->(List Int)->Option R):Option R:=
 b a 0 (List.replicate 8 0) (List.replicate 8 0)
def mK{R:Type}(a b:Int)(c d:(List Int))(e:Int->Int->(List Int)->(List Int)->Option R)(f:(List Int)->(List Int)->Option R):Option R:=
 bif b<8 then bif zW zI (8*zW zI (7-b))<0 then none else zd b 8 (e a (zW zI (b+1)) c (List.set d b.toNat (zW zU (Int.fdiv a (2^min (zW zI (8*zW zI (7-b))).toNat 64))))) else f c d
def pu{R:Type}(a b:(List Int))(c:(List Int)->Option R):Option R:=
 c b
def hI:Nat->Int->Int->(List Int)->(List Int)->Option ((List Int)×(List Int))
 |0,_,_,_,_=>none
 |k+1,v0,v1,v2,v3=>mK v0 v1 v2 v3 (fun a0 a1 a2 a3=>hI k a0 a1 a2 a3) (fun a0 a1=>some (a0,a1))
def Q8(a:Int):Option (List Int):=
 pr a (fun a0 a1 a2 a3=>(hI ag a0 a1 a2 a3).bind fun e=>pu e.1 e.2 (fun a0=>some a0))
def pd{R:Type}(a:Int)(b:aQ)(c:ByteArray->Int->Option R):Option R:=
 (Q9 a).bind fun r1=>bif !r1 then c (bs []) 1 else(Hf b (1:Int)).bind fun r2=>bif r2 then c (bs []) 1 else(QQ b).bind fun r3=>(Q8 r3.2).bind fun r4=>bif !decide (r4=([0,0,0,0,0,0,0,0]:List Int)) then bif Nat.beq 8 (List.length r4) then(Q8 (aP .or .u64 r3.1 (9223372036854775808:Int))).bind fun r5=>bif Nat.beq 8 (List.length r5) then bif(strOf r5).size+(strOf r4).size<=9223372036854775807 then bif a=1 then(jH (strOf r5++strOf r4)).bind fun r6=>c r6 0 else c (strOf r5++strOf r4) 0 else none else none else none else(Q8 r3.1).bind fun r7=>bif Nat.beq 8 (List.length r7) then bif(strOf r7).size+(bs []).size<=9223372036854775807 then bif a=1 then(jH (strOf r7++bs [])).bind fun r8=>c r8 0 else c (strOf r7++bs []) 0 else none else none
def Q6(a:Int)(b:aQ):Option QZ:=
 pd a b (fun a0 a1=>some (a0,a1))
def PJ{R:Type}(a:Int)(b:Int->Option R):Option R:=
 bif a=2 then b 2 else bif a=3 then b 3 else b 0
def jI(a:Int):Option Int:=
 PJ a (fun a0=>some a0)
def zye{R:Type}(a:Int)(b:Int->Int->Int->Option R):Option R:=
 (jI a).bind fun r1=>b 0 r1 0
def zyf{R:Type}(a b c:Int)(d:Int->Int->Int->Option R)(e:Int->Option R):Option R:=
 bif c<b then d (zW zI (zW zI (10*a)+9)) b (zW zI (c+1)) else e a
def zyg{R:Type}(a:Int)(b:Int->Option R):Option R:=
 b a
def T3:Nat->Int->Int->Int->Option Int
 |0,_,_,_=>none
 |k+1,v0,v1,v2=>zyf v0 v1 v2 (fun a0 a1 a2=>T3 k a0 a1 a2) (fun a0=>some a0)
def qC(a:Int):Option Int:=
 zye a (fun a0 a1 a2=>(T3 ag a0 a1 a2).bind fun e=>zyg e (fun a0=>some a0))
def PI{R:Type}(a b:Int)(c:Bool->Option R):Option R:=
 bif a=1 then(jI b).bind fun r1=>c (decide (0<r1)) else bif a=2 then(jI b).bind fun r2=>c (decide (0<r2)) else c false
def qE(a b:Int):Option Bool:=
 PI a b (fun a0=>some a0)
def TZ{R:Type}(a b:Int)(c:ByteArray)(d:Int)(e:Int->Int->Int->Option R):Option R:=
 (qE a b).bind fun r1=>bif !r1 then e 0 0 1 else bif d<0 then e 0 0 1 else bif(c.size:Int)<d then e 0 0 1 else(jI b).bind fun r2=>bif a=2 then(Q2 r2).bind fun r3=>bif zW zI ((c.size:Int)-d)<r3 then e 0 0 2 else bif 0<=zW zI (d+r3) then bif zW zI (d+r3)<=(c.size:Int) then bif 0<=d then bif d<=(((zW zI (d+r3)).toNat:Nat):Int) then bif a=2 then(jI b).bind fun r4=>(Q0 (c.extract d.toNat (zW zI (d+r3)).toNat) r4).bind fun r5=>bif !decide (r5.2.1=0) then e 0 0 3 else(yi r5.1).bind fun r6=>bif !r6.2 then e 0 0 3 else e r6.1 (zW zI (d+r3)) 0 else(yi (c.extract d.toNat (zW zI (d+r3)).toNat)).bind fun r7=>bif !r7.2 then e 0 0 3 else e r7.1 (zW zI (d+r3)) 0 else none else none else none else none else bif zW zI ((c.size:Int)-d)<r2 then e 0 0 2 else bif 0<=zW zI (d+r2) then bif zW zI (d+r2)<=(c.size:Int) then bif 0<=d then bif d<=(((zW zI (d+r2)).toNat:Nat):Int) then bif a=2 then(jI b).bind fun r8=>(Q0 (c.extract d.toNat (zW zI (d+r2)).toNat) r8).bind fun r9=>bif !decide (r9.2.1=0) then e 0 0 3 else(yi r9.1).bind fun kI=>bif !kI.2 then e 0 0 3 else e kI.1 (zW zI (d+r2)) 0 else(yi (c.extract d.toNat (zW zI (d+r2)).toNat)).bind fun lr=>bif !lr.2 then e 0 0 3 else e lr.1 (zW zI (d+r2)) 0 else none else none else none else none
def sP(a b:Int)(c:ByteArray)(d:Int):Option jl:=
 TZ a b c d (fun a0 a1 a2=>some (a0,a1,a2))
def T4{R:Type}(a b c:Int)(d:ByteArray->Int->Option R):Option R:=
 (qE a b).bind fun r1=>bif !r1 then d (bs []) 1 else(jI b).bind fun r2=>(Ha c r2).bind fun r3=>bif !r3.2 then d (bs []) 5 else bif a=2 then(Q1 r3.1).bind fun r4=>d r4.1 0 else d r3.1 0
def qD(a b c:Int):Option QZ:=
 T4 a b c (fun a0 a1=>some (a0,a1))
def We{R:Type}(a:Int)(b:Int->Option R):Option R:=
 bif a=1 then b 1 else bif a=2 then b 2 else bif a=3 then b 3 else bif a=4 then b 7 else bif a=5 then b 15 else bif a=6 then b 15 else b 0
def yf(a:Int):Option Int:=
 We a (fun a0=>some a0)
def V5{R:Type}(a:Int)(b:Bool->Option R):Option R:=
 (yf a).bind fun r1=>b (!decide (r1=0))
def Bk(a:Int):Option Bool:=
 V5 a (fun a0=>some a0)
def Da{R:Type}(a:Int)(b:Int->Option R):Option R:=
 bif 48<=a then bif a<=57 then b 1 else bif 65<=a then bif a<=90 then b 2 else bif 97<=a then bif a<=122 then b 2 else bif 32<=a then bif a<=126 then b 4 else b 8 else b 8 else bif 32<=a then bif a<=126 then b 4 else b 8 else b 8 else bif 97<=a then bif a<=122 then b 2 else bif 32<=a then bif a<=126 then b 4 else b 8 else b 8 else bif 32<=a then bif a<=126 then b 4 else b 8 else b 8 else bif 65<=a then bif a<=90 then b 2 else bif 97<=a then bif a<=122 then b 2 else bif 32<=a then bif a<=126 then b 4 else b 8 else b 8 else bif 32<=a then bif a<=126 then b 4 else b 8 else b 8 else bif 97<=a then bif a<=122 then b 2 else bif 32<=a then bif a<=126 then b 4 else b 8 else b 8 else bif 32<=a then bif a<=126 then b 4 else b 8 else b 8
def Bl(a:Int):Option Int:=
 Da a (fun a0=>some a0)
def V1{R:Type}(a:Int)(b:ByteArray)(c:ByteArray->Int->Int->Option R):Option R:=
 (yf a).bind fun r1=>c b r1 0
def Qg{R:Type}(a:ByteArray)(b c:Int)(d:Int->Option R)(e:ByteArray->Int->Int->Option R)(f:Option R):Option R:=
 bif c<(a.size:Int) then zd c a.size ((Bl (ze a c.toNat)).bind fun r2=>bif aP .and .i64 b r2=0 then d c else e a b (zW zI (c+1))) else f
def C8{R:Type}(a:Int)(b:Int->Option R):Option R:=
 b a
def C9{R:Type}(a:Int->Option R):Option R:=
 a (-1:Int)
def E0:Nat->ByteArray->Int->Int->Option (Sum Int Unit)
 |0,_,_,_=>none
 |k+1,v0,v1,v2=>Qg v0 v1 v2 (fun a0=>some (.inl a0)) (fun a0 a1 a2=>E0 k a0 a1 a2) (some (.inr ()))
def GZ(a:Int)(b:ByteArray):Option Int:=
 V1 a b (fun a0 a1 a2=>(E0 ag a0 a1 a2).bind fun e=>Sum.elim (fun(we:Int)=>C8 we (fun a0=>some a0)) (fun(we:Unit)=>C9 (fun a0=>some a0)) e)
def V8{R:Type}(a b:Int)(c:Bool->Option R):Option R:=
 (Bk a).bind fun r1=>bif r1 then(Bk b).bind fun r2=>bif r2 then(yf b).bind fun r3=>(yf a).bind fun r4=>c (decide (aP .andNot .i64 r3 r4=0)) else c false else c false
def G1(a b:Int):Option Bool:=
 V8 a b (fun a0=>some a0)
def zzk{R:Type}(a:Int)(b:Bool->Option R):Option R:=
 bif 0<a then bif a<=255 then b (decide (aP .and .i64 a 32=0)) else b false else b false
def nX(a:Int):Option Bool:=
 zzk a (fun a0=>some a0)
def UZ{R:Type}(a:Int)(b:Bool->Option R):Option R:=
 bif a<=255 then(nX a).bind fun r1=>bif r1 then b (!decide (aP .and .i64 a 31=31)) else b false else bif a<=65535 then(nX (Int.fdiv a (2^min ((8:Int)).toNat 64))).bind fun r2=>bif r2 then bif aP .and .i64 (Int.fdiv a (2^min ((8:Int)).toNat 64)) 31=31 then bif 1<=aP .and .i64 a 255 then b (decide (aP .and .i64 a 255<=127)) else b false else b false else b false else b false
def s9(a:Int):Option Bool:=
 UZ a (fun a0=>some a0)
def UY{R:Type}(a:ByteArray)(b:Int)(c:Int->Int->Int->Option R):Option R:=
 bif b<0 then c 0 0 1 else bif(a.size:Int)<b then c 0 0 1 else bif b=(a.size:Int) then c 0 0 2 else zd b a.size ((nX (zW zI (ze a b.toNat))).bind fun r1=>bif !r1 then c 0 0 13 else bif !decide (aP .and .i64 (zW zI (ze a b.toNat)) 31=31) then c (zW zI (ze a b.toNat)) (zW zI (b+1)) 0 else bif zW zI (b+1)=(a.size:Int) then c 0 0 2 else zd (zW zI (b+1)) a.size ((s9 (aP .or .i64 (zW zI (zW zI (ze a b.toNat)*2^min ((8:Int)).toNat 64)) (zW zI (ze a (zW zI (b+(1:Int))).toNat)))).bind fun r2=>bif !r2 then c 0 0 13 else c (aP .or .i64 (zW zI (zW zI (ze a b.toNat)*2^min ((8:Int)).toNat 64)) (zW zI (ze a (zW zI (b+(1:Int))).toNat))) (zW zI (b+2)) 0))
def s8(a:ByteArray)(b:Int):Option jl:=
 UY a b (fun a0 a1 a2=>some (a0,a1,a2))
def U1{R:Type}(a:ByteArray)(b:ByteArray->ak->Int->Br->Option R):Option R:=
 b a [] 0 []
def U2{R:Type}(a:ByteArray)(b:ak)(c:Int)(d:Br)(e:ak->Int->Int->ak->Option R)(f:ByteArray->ak->Int->Br->Option R)(g:ak->Option R):Option R:=
 bif c<(a.size:Int) then(s8 a c).bind fun r1=>bif !decide (r1.2.2=(0:Int)) then e ([]:List bd) r1.2.2 c b else(Q3 a r1.2.1).bind fun r2=>bif !decide (r2.2.2=(0:Int)) then e ([]:List bd) r2.2.2 r1.2.1 b else bif zW zI ((a.size:Int)-r2.2.1)<r2.1 then e ([]:List bd) (2:Int) (a.size:Int) b else bif eZ (fT (.int .i64)) false d r1.1 then e ([]:List bd) (10:Int) c b else bif fa (fT (.int .i64)) d r1.1 then none else bif(0:Int)<=zW zI (r2.2.1+r2.1) then bif zW zI (r2.2.1+r2.1)<=((a.size:Nat):Int) then bif(0:Int)<=r2.2.1 then bif r2.2.1<=(((zW zI (r2.2.1+r2.1)).toNat:Nat):Int) then bif(List.length b+List.length ([(r1.1,a.extract r2.2.1.toNat (zW zI (r2.2.1+r2.1)).toNat,())]:List bd))*24<=140737488355328 then f a (b++([(r1.1,a.extract r2.2.1.toNat (zW zI (r2.2.1+r2.1)).toNat,())]:List bd)) (zW zI (r2.2.1+r2.1)) (d++ [(r1.1,true)]) else none else none else none else none else none else g b
def zzm{R:Type}(a:ak)(b c:Int)(d:ak)(e:ak->Int->Int->Option R):Option R:=
 e a b c
def zzn{R:Type}(a:ak)(b:ak->Int->Int->Option R):Option R:=
 b a 0 0
def Gh:Nat->ByteArray->ak->Int->Br->Option (Sum qL ak)
 |0,_,_,_,_=>none
 |k+1,v0,v1,v2,v3=>U2 v0 v1 v2 v3 (fun a0 a1 a2 a3=>some (.inl (a0,a1,a2,a3))) (fun a0 a1 a2 a3=>Gh k a0 a1 a2 a3) (fun a0=>some (.inr a0))
def tc(a:ByteArray):Option (Sum jm jm):=
 U1 a (fun a0 a1 a2 a3=>(Gh ag a0 a1 a2 a3).bind fun e=>Sum.elim (fun(we:qL)=>zzm we.1 we.2.1 we.2.2.1 we.2.2.2 (fun a0 a1 a2=>some (.inl (a0,a1,a2)))) (fun(we:ak)=>zzn we (fun a0 a1 a2=>some (.inr (a0,a1,a2)))) e)
def UH{R:Type}(a:aR)(b:Int->Option R):Option R:=
 bif a.1<2 then b 1 else bif 128<a.1 then b 1 else(Bk a.2.1).bind fun r1=>bif !r1 then b 6 else bif a.2.2.1<1 then b 3 else bif 3<a.2.2.1 then b 3 else bif a.2.2.2.1<1 then b 5 else bif a.2.2.2.2.1<a.2.2.2.1 then b 5 else bif 999<a.2.2.2.2.1 then b 5 else bif a.2.2.1=1 then bif !decide (a.2.2.2.1=a.2.2.2.2.1) then b 5 else bif !decide (a.2.2.1=1) then(qC a.2.2.1).bind fun r2=>bif r2<a.2.2.2.2.1 then b 5 else bif a.2.2.1=1 then bif a.2.1=6 then b 13 else b 0 else b 0 else bif a.2.2.1=1 then bif a.2.1=6 then b 13 else b 0 else b 0 else bif !decide (a.2.2.1=1) then(qC a.2.2.1).bind fun r3=>bif r3<a.2.2.2.2.1 then b 5 else bif a.2.2.1=1 then bif a.2.1=6 then b 13 else b 0 else b 0 else bif a.2.2.1=1 then bif a.2.1=6 then b 13 else b 0 else b 0
def lF(a:aR):Option Int:=
 UH a (fun a0=>some a0)
def UI{R:Type}(a:aR)(b:ByteArray)(c:Int->Option R):Option R:=
 (lF a).bind fun r1=>bif !decide (r1=0) then c 1 else bif(b.size:Int)<a.2.2.2.1 then c 5 else bif a.2.2.2.2.1<(b.size:Int) then c 5 else(GZ a.2.1 b).bind fun r2=>bif 0<=r2 then c 6 else bif a.2.1=6 then(tc b).bind fun r3=>Sum.elim (fun(mg:jm)=>bif !decide (mg.2.1=0) then c 13 else c 0) (fun(mg:jm)=>bif !decide (mg.2.1=0) then c 13 else c 0) r3 else c 0
def bW(a:aR)(b:ByteArray):Option Int:=
 UI a b (fun a0=>some a0)
def UK{R:Type}(a b:Int)(c:Bool->Option R):Option R:=
 bif a=5 then c true else bif a=6 then c (decide (a=b)) else bif b=6 then c (decide (a=b)) else(G1 a b).bind fun r1=>c r1
def vL(a b:Int):Option Bool:=
 UK a b (fun a0=>some a0)
def UJ{R:Type}(a b:aR)(c:Bool->Option R):Option R:=
 (lF a).bind fun r1=>bif r1=0 then(lF b).bind fun r2=>bif r2=0 then bif a.2.2.2.1<=b.2.2.2.1 then bif b.2.2.2.2.1<=a.2.2.2.2.1 then(vL a.2.1 b.2.1).bind fun r3=>c r3 else c false else c false else c false else c false
def lG(a b:aR):Option Bool:=
 UJ a b (fun a0=>some a0)
def Qf{R:Type}(a:Int)(b:Bool->Option R):Option R:=
 bif a=1 then b true else b (decide (a=2))
def Bj(a:Int):Option Bool:=
 Qf a (fun a0=>some a0)
def VR{R:Type}(a b:Int)(c:Int->Option R):Option R:=
 bif a=2 then bif b=1 then c 1 else bif a=1 then bif b=5 then c 2 else bif b=6 then c 2 else c 0 else c 0 else bif a=1 then bif b=5 then c 2 else bif b=6 then c 2 else c 0 else c 0
def kL(a b:Int):Option Int:=
 VR a b (fun a0=>some a0)
def VK{R:Type}(a:Int)(b:aR)(c:ByteArray)(d:Int)(e:ByteArray->Int->Int->Option R):Option R:=
 (Bj a).bind fun r1=>bif !r1 then e (bs []) 0 1 else(lF b).bind fun r2=>bif !decide (r2=0) then e (bs []) 0 1 else bif d<0 then e (bs []) 0 1 else bif(c.size:Int)<d then e (bs []) 0 1 else bif !decide (b.2.2.1=1) then(sP a b.2.2.1 c d).bind fun r3=>bif !decide (r3.2.2=0) then e (bs []) 0 r3.2.2 else bif r3.1<b.2.2.2.1 then e (bs []) 0 5 else bif b.2.2.2.2.1<r3.1 then e (bs []) 0 5 else(kL a b.2.1).bind fun r4=>bif r4=1 then(Q2 r3.1).bind fun r5=>bif zW zI ((c.size:Int)-r3.2.1)<r5 then e (bs []) 0 2 else bif 0<=zW zI (r3.2.1+r5) then bif zW zI (r3.2.1+r5)<=(c.size:Int) then bif 0<=r3.2.1 then bif r3.2.1<=(((zW zI (r3.2.1+r5)).toNat:Nat):Int) then(kL a b.2.1).bind fun r6=>bif r6=1 then(Q0 (c.extract r3.2.1.toNat (zW zI (r3.2.1+r5)).toNat) r3.1).bind fun r7=>bif !decide (r7.2.1=0) then e (bs []) 0 r7.2.1 else(bW b r7.1).bind fun r8=>bif !decide (r8=0) then e (bs []) 0 r8 else e r7.1 (zW zI (r3.2.1+r5)) 0 else bif r6=2 then(gG (c.extract r3.2.1.toNat (zW zI (r3.2.1+r5)).toNat)).bind fun r9=>bif !r9.2.2 then e (bs []) 0 3 else(bW b r9.1).bind fun kI=>bif !decide (kI=0) then e (bs []) 0 kI else e r9.1 (zW zI (r3.2.1+r5)) 0 else(bW b (c.extract r3.2.1.toNat (zW zI (r3.2.1+r5)).toNat)).bind fun lr=>bif !decide (lr=0) then e (bs []) 0 lr else e (c.extract r3.2.1.toNat (zW zI (r3.2.1+r5)).toNat) (zW zI (r3.2.1+r5)) 0 else none else none else none else none else bif r4=2 then bif zW zI ((c.size:Int)-r3.2.1)<zW zI (2*r3.1) then e (bs []) 0 2 else bif 0<=zW zI (r3.2.1+zW zI (2*r3.1)) then bif zW zI (r3.2.1+zW zI (2*r3.1))<=(c.size:Int) then bif 0<=r3.2.1 then bif r3.2.1<=(((zW zI (r3.2.1+zW zI (2*r3.1))).toNat:Nat):Int) then(kL a b.2.1).bind fun nE=>bif nE=1 then(Q0 (c.extract r3.2.1.toNat (zW zI (r3.2.1+zW zI (2*r3.1))).toNat) r3.1).bind fun l7=>bif !decide (l7.2.1=0) then e (bs []) 0 l7.2.1 else(bW b l7.1).bind fun rT=>bif !decide (rT=0) then e (bs []) 0 rT else e l7.1 (zW zI (r3.2.1+zW zI (2*r3.1))) 0 else bif nE=2 then(gG (c.extract r3.2.1.toNat (zW zI (r3.2.1+zW zI (2*r3.1))).toNat)).bind fun qh=>bif !qh.2.2 then e (bs []) 0 3 else(bW b qh.1).bind fun ux=>bif !decide (ux=0) then e (bs []) 0 ux else e qh.1 (zW zI (r3.2.1+zW zI (2*r3.1))) 0 else(bW b (c.extract r3.2.1.toNat (zW zI (r3.2.1+zW zI (2*r3.1))).toNat)).bind fun xA=>bif !decide (xA=0) then e (bs []) 0 xA else e (c.extract r3.2.1.toNat (zW zI (r3.2.1+zW zI (2*r3.1))).toNat) (zW zI (r3.2.1+zW zI (2*r3.1))) 0 else none else none else none else none else bif zW zI ((c.size:Int)-r3.2.1)<r3.1 then e (bs []) 0 2 else bif 0<=zW zI (r3.2.1+r3.1) then bif zW zI (r3.2.1+r3.1)<=(c.size:Int) then bif 0<=r3.2.1 then bif r3.2.1<=(((zW zI (r3.2.1+r3.1)).toNat:Nat):Int) then(kL a b.2.1).bind fun xB=>bif xB=1 then(Q0 (c.extract r3.2.1.toNat (zW zI (r3.2.1+r3.1)).toNat) r3.1).bind fun rf=>bif !decide (rf.2.1=0) then e (bs []) 0 rf.2.1 else(bW b rf.1).bind fun xC=>bif !decide (xC=0) then e (bs []) 0 xC else e rf.1 (zW zI (r3.2.1+r3.1)) 0 else bif xB=2 then(gG (c.extract r3.2.1.toNat (zW zI (r3.2.1+r3.1)).toNat)).bind fun uy=>bif !uy.2.2 then e (bs []) 0 3 else(bW b uy.1).bind fun Cr=>bif !decide (Cr=0) then e (bs []) 0 Cr else e uy.1 (zW zI (r3.2.1+r3.1)) 0 else(bW b (c.extract r3.2.1.toNat (zW zI (r3.2.1+r3.1)).toNat)).bind fun Ct=>bif !decide (Ct=0) then e (bs []) 0 Ct else e (c.extract r3.2.1.toNat (zW zI (r3.2.1+r3.1)).toNat) (zW zI (r3.2.1+r3.1)) 0 else none else none else none else none else(kL a b.2.1).bind fun Rx=>bif Rx=1 then(Q2 b.2.2.2.1).bind fun rh=>bif zW zI ((c.size:Int)-d)<rh then e (bs []) 0 2 else bif 0<=zW zI (d+rh) then bif zW zI (d+rh)<=(c.size:Int) then bif 0<=d then bif d<=(((zW zI (d+rh)).toNat:Nat):Int) then(kL a b.2.1).bind fun Ry=>bif Ry=1 then(Q0 (c.extract d.toNat (zW zI (d+rh)).toNat) b.2.2.2.1).bind fun FK=>bif !decide (FK.2.1=0) then e (bs []) 0 FK.2.1 else(bW b FK.1).bind fun Rz=>bif !decide (Rz=0) then e (bs []) 0 Rz else e FK.1 (zW zI (d+rh)) 0 else bif Ry=2 then(gG (c.extract d.toNat (zW zI (d+rh)).toNat)).bind fun Ke=>bif !Ke.2.2 then e (bs []) 0 3 else(bW b Ke.1).bind fun RA=>bif !decide (RA=0) then e (bs []) 0 RA else e Ke.1 (zW zI (d+rh)) 0 else(bW b (c.extract d.toNat (zW zI (d+rh)).toNat)).bind fun RB=>bif !decide (RB=0) then e (bs []) 0 RB else e (c.extract d.toNat (zW zI (d+rh)).toNat) (zW zI (d+rh)) 0 else none else none else none else none else bif Rx=2 then bif zW zI ((c.size:Int)-d)<zW zI (2*b.2.2.2.1) then e (bs []) 0 2 else bif 0<=zW zI (d+zW zI (2*b.2.2.2.1)) then bif zW zI (d+zW zI (2*b.2.2.2.1))<=(c.size:Int) then bif 0<=d then bif d<=(((zW zI (d+zW zI (2*b.2.2.2.1))).toNat:Nat):Int) then(kL a b.2.1).bind fun RC=>bif RC=1 then(Q0 (c.extract d.toNat (zW zI (d+zW zI (2*b.2.2.2.1))).toNat) b.2.2.2.1).bind fun FL=>bif !decide (FL.2.1=0) then e (bs []) 0 FL.2.1 else(bW b FL.1).bind fun RD=>bif !decide (RD=0) then e (bs []) 0 RD else e FL.1 (zW zI (d+zW zI (2*b.2.2.2.1))) 0 else bif RC=2 then(gG (c.extract d.toNat (zW zI (d+zW zI (2*b.2.2.2.1))).toNat)).bind fun Kf=>bif !Kf.2.2 then e (bs []) 0 3 else(bW b Kf.1).bind fun RE=>bif !decide (RE=0) then e (bs []) 0 RE else e Kf.1 (zW zI (d+zW zI (2*b.2.2.2.1))) 0 else(bW b (c.extract d.toNat (zW zI (d+zW zI (2*b.2.2.2.1))).toNat)).bind fun Kg=>bif !decide (Kg=0) then e (bs []) 0 Kg else e (c.extract d.toNat (zW zI (d+zW zI (2*b.2.2.2.1))).toNat) (zW zI (d+zW zI (2*b.2.2.2.1))) 0 else none else none else none else none else bif zW zI ((c.size:Int)-d)<b.2.2.2.1 then e (bs []) 0 2 else bif 0<=zW zI (d+b.2.2.2.1) then bif zW zI (d+b.2.2.2.1)<=(c.size:Int) then bif 0<=d then bif d<=(((zW zI (d+b.2.2.2.1)).toNat:Nat):Int) then(kL a b.2.1).bind fun RF=>bif RF=1 then(Q0 (c.extract d.toNat (zW zI (d+b.2.2.2.1)).toNat) b.2.2.2.1).bind fun FM=>bif !decide (FM.2.1=0) then e (bs []) 0 FM.2.1 else(bW b FM.1).bind fun RG=>bif !decide (RG=0) then e (bs []) 0 RG else e FM.1 (zW zI (d+b.2.2.2.1)) 0 else bif RF=2 then(gG (c.extract d.toNat (zW zI (d+b.2.2.2.1)).toNat)).bind fun Kh=>bif !Kh.2.2 then e (bs []) 0 3 else(bW b Kh.1).bind fun RH=>bif !decide (RH=0) then e (bs []) 0 RH else e Kh.1 (zW zI (d+b.2.2.2.1)) 0 else(bW b (c.extract d.toNat (zW zI (d+b.2.2.2.1)).toNat)).bind fun r43=>bif !decide (r43=0) then e (bs []) 0 r43 else e (c.extract d.toNat (zW zI (d+b.2.2.2.1)).toNat) (zW zI (d+b.2.2.2.1)) 0 else none else none else none else none
def GR(a:Int)(b:aR)(c:ByteArray)(d:Int):Option I2:=
 VK a b c d (fun a0 a1 a2=>some (a0,a1,a2))
def VM{R:Type}(a:Int)(b:aR)(c:ByteArray)(d:ByteArray->Int->Option R):Option R:=
 (Bj a).bind fun r1=>bif !r1 then d (bs []) 1 else(bW b c).bind fun r2=>bif !decide (r2=0) then d (bs []) r2 else bif !decide (b.2.2.1=1) then(qD a b.2.2.1 (c.size:Int)).bind fun r3=>(kL a b.2.1).bind fun r4=>bif r4=1 then(Q1 c).bind fun r5=>bif r3.1.size+r5.1.size<=9223372036854775807 then d (r3.1++r5.1) 0 else none else bif r4=2 then(jH c).bind fun r6=>bif r3.1.size+r6.size<=9223372036854775807 then d (r3.1++r6) 0 else none else bif r3.1.size+c.size<=9223372036854775807 then d (r3.1++c) 0 else none else(kL a b.2.1).bind fun r7=>bif r7=1 then(Q1 c).bind fun r8=>bif(bs []).size+r8.1.size<=9223372036854775807 then d (bs []++r8.1) 0 else none else bif r7=2 then(jH c).bind fun r9=>bif(bs []).size+r9.size<=9223372036854775807 then d (bs []++r9) 0 else none else bif(bs []).size+c.size<=9223372036854775807 then d (bs []++c) 0 else none
def Bh(a:Int)(b:aR)(c:ByteArray):Option QZ:=
 VM a b c (fun a0 a1=>some (a0,a1))
def Wq{R:Type}(a:aN)(b:Int->Int->Option R)(c:aN->Int->Int->hM->Option R):Option R:=
 bif 256<((List.length a):Int) then b 5 256 else c a ((List.length a):Int) 0 []
def Dg{R:Type}(a:aN)(b c:Int)(d:hM)(e:Int->Int->Option R)(f:aN->Int->Int->hM->Option R)(g:Option R):Option R:=
 bif c<b then zd c (List.length a) (bif eZ (fT .str) false d (List.getD a c.toNat (bs [],bs [],())).1 then e (10:Int) c else bif fa (fT .str) d (List.getD a c.toNat (bs [],bs [],())).1 then none else f a b (zW zI (c+(1:Int))) (d++ [((List.getD a c.toNat (bs [],bs [],())).1,true)])) else g
def Dh{R:Type}(a b:Int)(c:Int->Int->Option R):Option R:=
 c a b
def Di{R:Type}(a:Int->Int->Option R):Option R:=
 a 0 0
def Qi:Nat->aN->Int->Int->hM->Option (Sum (Int×Int) Unit)
 |0,_,_,_,_=>none
 |k+1,v0,v1,v2,v3=>Dg v0 v1 v2 v3 (fun a0 a1=>some (.inl (a0,a1))) (fun a0 a1 a2 a3=>Qi k a0 a1 a2 a3) (some (.inr ()))
def G7(a:aN):Option (Int×Int):=
 Wq a (fun a0 a1=>some (a0,a1)) (fun a0 a1 a2 a3=>(Qi ag a0 a1 a2 a3).bind fun e=>Sum.elim (fun(we:(Int×Int))=>Dh we.1 we.2 (fun a0 a1=>some (a0,a1))) (fun(we:Unit)=>Di (fun a0 a1=>some (a0,a1))) e)
def Wl{R:Type}(a:aN)(b:ByteArray)(c:ByteArray->aN->Int->Int->Option R):Option R:=
 c b a ((List.length a):Int) 0
def Dc{R:Type}(a:ByteArray)(b:aN)(c d:Int)(e:ByteArray->Bool->Option R)(f:ByteArray->aN->Int->Int->Option R)(g:Option R):Option R:=
 bif d<c then zd d (List.length b) (bif(List.getD b d.toNat (bs [],bs [],())).1=a then e (List.getD b d.toNat (bs [],bs [],())).2.1 true else f a b c (zW zI (d+1))) else g
def Dd{R:Type}(a:ByteArray)(b:Bool)(c:ByteArray->Bool->Option R):Option R:=
 c a b
def De{R:Type}(a:ByteArray->Bool->Option R):Option R:=
 a (bs []) false
def Qh:Nat->ByteArray->aN->Int->Int->Option (Sum jy Unit)
 |0,_,_,_,_=>none
 |k+1,v0,v1,v2,v3=>Dc v0 v1 v2 v3 (fun a0 a1=>some (.inl (a0,a1))) (fun a0 a1 a2 a3=>Qh k a0 a1 a2 a3) (some (.inr ()))
def G6(a:aN)(b:ByteArray):Option jy:=
 Wl a b (fun a0 a1 a2 a3=>(Qh ag a0 a1 a2 a3).bind fun e=>Sum.elim (fun(we:jy)=>Dd we.1 we.2 (fun a0 a1=>some (a0,a1))) (fun(we:Unit)=>De (fun a0 a1=>some (a0,a1))) e)
def WT{R:Type}(a:Int)(b:Int->Option R)(c:Int->al->Option R):Option R:=
 bif a<1 then b 5 else bif 65535<a then b 5 else c 0 (a,false,[],())
def Ho(a:Int):Option (Sum Int tm):=
 WT a (fun a0=>some (.inl a0)) (fun a0 a1=>some (.inr (a0,a1)))
def WS{R:Type}(a:al)(b:Int->al->Option R):Option R:=
 bif((List.length a.2.2.1):Int)<2 then b 0 a else zd 0 (List.length a.2.2.1) (zd 1 (List.length a.2.2.1) (b (aP .or .i64 (zW zI (zW zI (List.getD a.2.2.1 ((0:Int)).toNat 0)*2^min ((8:Int)).toNat 64)) (zW zI (List.getD a.2.2.1 ((1:Int)).toNat 0))) a))
def Hm(a:al):Option tm:=
 WS a (fun a0 a1=>some (a0,a1))
def WO{R:Type}(a:al)(b:ByteArray)(c:ByteArray->(List ByteArray)->Int->al->Option R):Option R:=
 c b [] 0 a
def Qm{R:Type}(a:ByteArray)(b:(List ByteArray))(c:Int)(d:al)(e:(List ByteArray)->Bool->(List ByteArray)->al->Option R)(f:ByteArray->(List ByteArray)->Int->al->Option R)(g:(List ByteArray)->al->Option R):Option R:=
 bif c<(a.size:Int) then bif !d.2.1 then zd c a.size (bif(List.length d.2.2.1+List.length ([(ze a c.toNat)]:List Int))*1<=140737488355328 then(Hm (d.1,d.2.1,d.2.2.1++([(ze a c.toNat)]:List Int),())).bind fun r1=>bif((List.length r1.2.2.2.1):Int)=2 then bif r1.1=0 then e b true b (r1.2.1,true,[],()) else bif r1.2.1<r1.1 then e b true b (r1.2.1,true,[],()) else bif((List.length r1.2.2.2.1):Int)=zW zI (2+r1.1) then bif 0<r1.1 then bif 2<=(((List.length r1.2.2.2.1):Nat):Int) then bif(List.length b+List.length ([(strOf (List.drop ((2:Int)).toNat (List.take (List.length r1.2.2.2.1) r1.2.2.2.1)))]:List ByteArray))*16<=140737488355328 then f a (b++([(strOf (List.drop ((2:Int)).toNat (List.take (List.length r1.2.2.2.1) r1.2.2.2.1)))]:List ByteArray)) (zW zI (c+1)) (r1.2.1,r1.2.2.1,[],()) else none else none else f a b (zW zI (c+1)) r1.2 else f a b (zW zI (c+1)) r1.2 else bif((List.length r1.2.2.2.1):Int)=zW zI (2+r1.1) then bif 0<r1.1 then bif 2<=(((List.length r1.2.2.2.1):Nat):Int) then bif(List.length b+List.length ([(strOf (List.drop ((2:Int)).toNat (List.take (List.length r1.2.2.2.1) r1.2.2.2.1)))]:List ByteArray))*16<=140737488355328 then f a (b++([(strOf (List.drop ((2:Int)).toNat (List.take (List.length r1.2.2.2.1) r1.2.2.2.1)))]:List ByteArray)) (zW zI (c+1)) (r1.2.1,r1.2.2.1,[],()) else none else none else f a b (zW zI (c+1)) r1.2 else f a b (zW zI (c+1)) r1.2 else none) else g b d else g b d
def WQ{R:Type}(a:(List ByteArray))(b:Bool)(c:(List ByteArray))(d:al)(e:(List ByteArray)->Bool->al->Option R):Option R:=
 e a b d
def WR{R:Type}(a:(List ByteArray))(b:al)(c:(List ByteArray)->Bool->al->Option R):Option R:=
 c a false b
def E5:Nat->ByteArray->(List ByteArray)->Int->al->Option (Sum ((List ByteArray)×Bool×(List ByteArray)×al) ((List ByteArray)×al))
 |0,_,_,_,_=>none
 |k+1,v0,v1,v2,v3=>Qm v0 v1 v2 v3 (fun a0 a1 a2 a3=>some (.inl (a0,a1,a2,a3))) (fun a0 a1 a2 a3=>E5 k a0 a1 a2 a3) (fun a0 a1=>some (.inr (a0,a1)))
def Bm(a:al)(b:ByteArray):Option ((List ByteArray)×Bool×al):=
 WO a b (fun a0 a1 a2 a3=>(E5 ag a0 a1 a2 a3).bind fun e=>Sum.elim (fun(we:((List ByteArray)×Bool×(List ByteArray)×al))=>WQ we.1 we.2.1 we.2.2.1 we.2.2.2 (fun a0 a1 a2=>some (a0,a1,a2))) (fun(we:((List ByteArray)×al))=>WR we.1 we.2 (fun a0 a1 a2=>some (a0,a1,a2))) e)
def WU{R:Type}(a:ByteArray)(b:ByteArray->Int->Option R):Option R:=
 bif(a.size:Int)<1 then b (bs []) 5 else bif 65535<(a.size:Int) then b (bs []) 5 else bif(strOf ([(zW zU (Int.fdiv (a.size:Int) (2^min ((8:Int)).toNat 64))),(zW zU (a.size:Int))]:List Int)).size+a.size<=9223372036854775807 then b (strOf ([(zW zU (Int.fdiv (a.size:Int) (2^min ((8:Int)).toNat 64))),(zW zU (a.size:Int))]:List Int)++a) 0 else none
def Bn(a:ByteArray):Option QZ:=
 WU a (fun a0 a1=>some (a0,a1))
def Dq{R:Type}(a:al)(b:Bool->al->Option R):Option R:=
 b a.2.1 a
def XZ(a:al):Option (Bool×al):=
 Dq a (fun a0 a1=>some (a0,a1))
def Ds{R:Type}(a:al)(b:Int->al->Option R):Option R:=
 b ((List.length a.2.2.1):Int) a
def X2(a:al):Option tm:=
 Ds a (fun a0 a1=>some (a0,a1))
def TX{R:Type}(a:ByteArray)(b:Bool->Option R):Option R:=
 bif(a.size:Int)=4 then(yh a).bind fun r1=>b r1 else b false
def nU(a:ByteArray):Option Bool:=
 TX a (fun a0=>some a0)
def TY{R:Type}(a:ByteArray)(b:Int->Bool->Option R):Option R:=
 (nU a).bind fun r1=>bif !r1 then b 0 false else zd 0 a.size (b (zW zI (zW zU (ze a ((0:Int)).toNat-48))) true)
def jj(a:ByteArray):Option (Int×Bool):=
 TY a (fun a0 a1=>some (a0,a1))
def TV{R:Type}(a:ByteArray)(b:Bool->Option R):Option R:=
 (nU a).bind fun r1=>bif r1 then zd 2 a.size (bif ze a ((2:Int)).toNat=48 then b true else zd 2 a.size (b (decide (ze a ((2:Int)).toNat=50)))) else b false
def nT(a:ByteArray):Option Bool:=
 TV a (fun a0=>some a0)
def TW{R:Type}(a:ByteArray)(b:ByteArray->Bool->Option R):Option R:=
 (nT a).bind fun r1=>bif !r1 then b (bs []) false else bif 2<=(a.size:Int) then zd 2 a.size (bif(a.extract 0 ((2:Int)).toNat).size+(strOf ([(zW zU (ze a ((2:Int)).toNat+1))]:List Int)).size<=9223372036854775807 then bif 3<=(a.size:Int) then bif(a.extract 0 ((2:Int)).toNat++strOf ([(zW zU (ze a ((2:Int)).toNat+1))]:List Int)).size+(a.extract ((3:Int)).toNat a.size).size<=9223372036854775807 then b ((a.extract 0 ((2:Int)).toNat++strOf ([(zW zU (ze a ((2:Int)).toNat+1))]:List Int))++a.extract ((3:Int)).toNat a.size) true else none else none else none) else none
def sO(a:ByteArray):Option jy:=
 TW a (fun a0 a1=>some (a0,a1))
def Ge{R:Type}(a:af)(b:Int->Int->Option R)(c:gJ->Int->Int->af->Option R):Option R:=
 bif !decide (a.1=1) then bif !decide (a.1=2) then b 1 (-1:Int) else bif a.2.1<0 then b 7 (-1:Int) else bif 9<a.2.1 then b 7 (-1:Int) else c a.2.2.1 ((List.length a.2.2.1):Int) 0 a else bif a.2.1<0 then b 7 (-1:Int) else bif 9<a.2.1 then b 7 (-1:Int) else c a.2.2.1 ((List.length a.2.2.1):Int) 0 a
theorem abt{R S:Type}(F:R->Option S)(a)(b)(c):(Ge a b c).bind F=Ge a (fun a0 a1=>(b a0 a1).bind F) (fun a0 a1 a2 a3=>(c a0 a1 a2 a3).bind F):=by
 simp only[Ge,aE]
def PQ{R:Type}(a:gJ)(b c:Int)(d:af)(e:Int->Int->Option R)(f:gJ->Int->Int->af->Option R)(g:Option R):Option R:=
 bif c<b then zd c (List.length a) ((lF (List.getD a c.toNat (0,0,0,0,0,()))).bind fun r1=>bif !decide (r1=0) then e r1 c else bif 0<c then zd (zW zI (c-1)) (List.length d.2.2.1) (bif(List.getD a c.toNat (0,0,0,0,0,())).1<=(List.getD d.2.2.1 (zW zI (c-(1:Int))).toNat (0,0,0,0,0,())).1 then e 11 c else f a b (zW zI (c+1)) d) else f a b (zW zI (c+1)) d) else g
def Uv{R:Type}(a b:Int)(c:Int->Int->Option R):Option R:=
 c a b
def Uw{R:Type}(a:Int->Int->Option R):Option R:=
 a 0 0
def A4:Nat->gJ->Int->Int->af->Option (Sum (Int×Int) Unit)
 |0,_,_,_,_=>none
 |k+1,v0,v1,v2,v3=>PQ v0 v1 v2 v3 (fun a0 a1=>some (.inl (a0,a1))) (fun a0 a1 a2 a3=>A4 k a0 a1 a2 a3) (some (.inr ()))
def mG(a:af):Option (Int×Int):=
 Ge a (fun a0 a1=>some (a0,a1)) (fun a0 a1 a2 a3=>(A4 ag a0 a1 a2 a3).bind fun e=>Sum.elim (fun(we:(Int×Int))=>Uv we.1 we.2 (fun a0 a1=>some (a0,a1))) (fun(we:Unit)=>Uw (fun a0 a1=>some (a0,a1))) e)
def Uy{R:Type}(a:af)(b:Int)(c:Int->gJ->Int->Int->aR->Option R):Option R:=
 c b a.2.2.1 ((List.length a.2.2.1):Int) 0 (0,0,0,0,0,())
def zz1{R:Type}(a:Int)(b:gJ)(c d:Int)(e:aR)(f:Bool->aR->Option R)(g:Int->gJ->Int->Int->aR->Option R)(h:aR->Option R):Option R:=
 bif d<c then zd d (List.length b) (bif(List.getD b d.toNat (0,0,0,0,0,())).1=a then f true (List.getD b d.toNat (0,0,0,0,0,())) else g a b c (zW zI (d+1)) e) else h e
def zz2{R:Type}(a:Bool)(b:aR)(c:aR->Bool->Option R):Option R:=
 c b a
def zz3{R:Type}(a:aR)(b:aR->Bool->Option R):Option R:=
 b (0,0,0,0,0,()) false
def PR:Nat->Int->gJ->Int->Int->aR->Option (Sum (Bool×aR) aR)
 |0,_,_,_,_,_=>none
 |k+1,v0,v1,v2,v3,v4=>zz1 v0 v1 v2 v3 v4 (fun a0 a1=>some (.inl (a0,a1))) (fun a0 a1 a2 a3 a4=>PR k a0 a1 a2 a3 a4) (fun a0=>some (.inr a0))
def fK(a:af)(b:Int):Option (aR×Bool):=
 Uy a b (fun a0 a1 a2 a3 a4=>(PR ag a0 a1 a2 a3 a4).bind fun e=>Sum.elim (fun(we:(Bool×aR))=>zz2 we.1 we.2 (fun a0 a1=>some (a0,a1))) (fun(we:aR)=>zz3 we (fun a0 a1=>some (a0,a1))) e)
def TP{R:Type}(a:aw)(b:Int)(c:Int->ak->Int->Int->Option R):Option R:=
 c b a.2.1 ((List.length a.2.1):Int) 0
def zy6{R:Type}(a:Int)(b:ak)(c d:Int)(e:ByteArray->Bool->Option R)(f:Int->ak->Int->Int->Option R)(g:Option R):Option R:=
 bif d<c then zd d (List.length b) (bif(List.getD b d.toNat (0,bs [],())).1=a then e (List.getD b d.toNat (0,bs [],())).2.1 true else f a b c (zW zI (d+1))) else g
def zy7{R:Type}(a:ByteArray)(b:Bool)(c:ByteArray->Bool->Option R):Option R:=
 c a b
def zy8{R:Type}(a:ByteArray->Bool->Option R):Option R:=
 a (bs []) false
def PF:Nat->Int->ak->Int->Int->Option (Sum jy Unit)
 |0,_,_,_,_=>none
 |k+1,v0,v1,v2,v3=>zy6 v0 v1 v2 v3 (fun a0 a1=>some (.inl (a0,a1))) (fun a0 a1 a2 a3=>PF k a0 a1 a2 a3) (some (.inr ()))
def nR(a:aw)(b:Int):Option jy:=
 TP a b (fun a0 a1 a2 a3=>(PF ag a0 a1 a2 a3).bind fun e=>Sum.elim (fun(we:jy)=>zy7 we.1 we.2 (fun a0 a1=>some (a0,a1))) (fun(we:Unit)=>zy8 (fun a0 a1=>some (a0,a1))) e)
def TU{R:Type}(a:aw)(b:Int)(c:Int->ak->Int->Int->aw->aw->Option R):Option R:=
 c b a.2.1 ((List.length a.2.1):Int) 0 (bs [],[],()) (a.1,[],())
def zyc{R:Type}(a:Int)(b:ak)(c d:Int)(e f:aw)(g:Int->ak->Int->Int->aw->aw->Option R)(h:aw->aw->Option R):Option R:=
 bif d<c then zd d (List.length b) (bif !decide ((List.getD b d.toNat (0,bs [],())).1=a) then bif(List.length f.2.1+List.length ([(List.getD b d.toNat ((0:Int),bs [],()))]:List bd))*24<=140737488355328 then g a b c (zW zI (d+1)) e (f.1,f.2.1++([(List.getD b d.toNat (0,bs [],()))]:List bd),()) else none else g a b c (zW zI (d+1)) e f) else h e f
def zyd{R:Type}(a b:aw)(c:aw->Option R):Option R:=
 c b
def PH:Nat->Int->ak->Int->Int->aw->aw->Option (aw×aw)
 |0,_,_,_,_,_,_=>none
 |k+1,v0,v1,v2,v3,v4,v5=>zyc v0 v1 v2 v3 v4 v5 (fun a0 a1 a2 a3 a4 a5=>PH k a0 a1 a2 a3 a4 a5) (fun a0 a1=>some (a0,a1))
def sN(a:aw)(b:Int):Option aw:=
 TU a b (fun a0 a1 a2 a3 a4 a5=>(PH ag a0 a1 a2 a3 a4 a5).bind fun e=>zyd e.1 e.2 (fun a0=>some a0))
def zyb{R:Type}(a:bd)(b:Int)(c:Bool->Int->Option R):Option R:=
 c (decide (b<a.1)) b
def sM(a:bd)(b:Int):Option (Bool×Int):=
 zyb a b (fun a0 a1=>some (a0,a1))
def UE{R:Type}(a:ak)(b:Int)(c:ak->Int->Int->Int->Option R):Option R:=
 c a ((List.length a):Int) 0 b
def zza{R:Type}(a:ak)(b c d:Int)(e:Int->Int->Option R)(f:ak->Int->Int->Int->Option R)(g:Int->Option R):Option R:=
 bif c<b then zd c (List.length a) ((sM (List.getD a c.toNat (0,bs [],())) d).bind fun r1=>bif r1.1 then e c r1.2 else f a b (zW zI (c+1)) r1.2) else g d
def zzb{R:Type}(a b:Int)(c:Int->Int->Option R):Option R:=
 c a b
def zzc{R:Type}(a:Int)(b:Int->Int->Option R):Option R:=
 b (-1:Int) a
def PT:Nat->ak->Int->Int->Int->Option (Sum (Int×Int) Int)
 |0,_,_,_,_=>none
 |k+1,v0,v1,v2,v3=>zza v0 v1 v2 v3 (fun a0 a1=>some (.inl (a0,a1))) (fun a0 a1 a2 a3=>PT k a0 a1 a2 a3) (fun a0=>some (.inr a0))
def s4(a:ak)(b:Int):Option (Int×Int):=
 UE a b (fun a0 a1 a2 a3=>(PT ag a0 a1 a2 a3).bind fun e=>Sum.elim (fun(we:(Int×Int))=>zzb we.1 we.2 (fun a0 a1=>some (a0,a1))) (fun(we:Int)=>zzc we (fun a0 a1=>some (a0,a1))) e)
def TS{R:Type}(a:aw)(b:Int)(c:ByteArray)(d:aw->Option R):Option R:=
 (sN a b).bind fun r1=>(s4 r1.2.1 b).bind fun r2=>bif r2.1<0 then bif zW zI (((List.length r1.2.1):Int)+1)=zW zI (((List.length r1.2.1):Int)+1) then bif 0<=zW zI (((List.length r1.2.1):Int)+1) then bif zW zI (((List.length r1.2.1):Int)+1)*24<=140737488355328 then bif 0<=((List.length r1.2.1):Int) then bif((List.length r1.2.1):Int)<=(((List.length r1.2.1):Nat):Int) then bif Nat.beq (zW zI (((List.length r1.2.1):Int)+(1:Int))).toNat (List.length (List.replicate (zW zI (((List.length r1.2.1):Int)+(1:Int))).toNat ((0:Int),bs [],()))) then zd ((List.length r1.2.1):Int) (zW zI (((List.length r1.2.1):Int)+(1:Int))).toNat (bif Nat.ble ((((List.length r1.2.1):Int)).toNat+1) (List.length (bX (List.replicate (zW zI (((List.length r1.2.1):Int)+(1:Int))).toNat ((0:Int),bs [],())) (List.take (zW zI (((List.length r1.2.1):Int)+(1:Int))).toNat (List.drop 0 (List.take (((List.length r1.2.1):Int)).toNat r1.2.1))) 0)) then bif 0<=zW zI (((List.length r1.2.1):Int)+1) then bif zW zI (((List.length r1.2.1):Int)+1)<=(((zW zI (((List.length r1.2.1):Int)+(1:Int))).toNat:Nat):Int) then bif 0<=((List.length r1.2.1):Int) then bif((List.length r1.2.1):Int)<=(((List.length r1.2.1):Nat):Int) then bif Nat.beq (zW zI (((List.length r1.2.1):Int)+(1:Int))).toNat (List.length (List.set (bX (List.replicate (zW zI (((List.length r1.2.1):Int)+(1:Int))).toNat ((0:Int),bs [],())) (List.take (zW zI (((List.length r1.2.1):Int)+(1:Int))).toNat (List.drop 0 (List.take (((List.length r1.2.1):Int)).toNat r1.2.1))) 0) (((List.length r1.2.1):Int)).toNat (r2.2,c,()))) then bif Nat.ble (zW zI (((List.length r1.2.1):Int)+(1:Int))).toNat (zW zI (((List.length r1.2.1):Int)+(1:Int))).toNat then bif Nat.beq (zW zI (((List.length r1.2.1):Int)+(1:Int))).toNat (List.length (bX (List.set (bX (List.replicate (zW zI (((List.length r1.2.1):Int)+(1:Int))).toNat ((0:Int),bs [],())) (List.take (zW zI (((List.length r1.2.1):Int)+(1:Int))).toNat (List.drop 0 (List.take (((List.length r1.2.1):Int)).toNat r1.2.1))) 0) (((List.length r1.2.1):Int)).toNat (r2.2,c,())) (List.take ((zW zI (((List.length r1.2.1):Int)+(1:Int))).toNat-(zW zI (((List.length r1.2.1):Int)+(1:Int))).toNat) (List.drop (((List.length r1.2.1):Int)).toNat (List.take (List.length r1.2.1) r1.2.1))) (zW zI (((List.length r1.2.1):Int)+(1:Int))).toNat)) then d (a.1,bX (List.set (bX (List.replicate (zW zI (((List.length r1.2.1):Int)+(1:Int))).toNat (0,bs [],())) (List.take (zW zI (((List.length r1.2.1):Int)+(1:Int))).toNat (List.drop 0 (List.take (((List.length r1.2.1):Int)).toNat r1.2.1))) 0) (((List.length r1.2.1):Int)).toNat (r2.2,c,())) (List.take ((zW zI (((List.length r1.2.1):Int)+(1:Int))).toNat-(zW zI (((List.length r1.2.1):Int)+(1:Int))).toNat) (List.drop (((List.length r1.2.1):Int)).toNat (List.take (List.length r1.2.1) r1.2.1))) (zW zI (((List.length r1.2.1):Int)+(1:Int))).toNat,()) else none else none else none else none else none else none else none else none) else none else none else none else none else none else none else bif zW zI (((List.length r1.2.1):Int)+1)=zW zI (((List.length r1.2.1):Int)+1) then bif 0<=zW zI (((List.length r1.2.1):Int)+1) then bif zW zI (((List.length r1.2.1):Int)+1)*24<=140737488355328 then bif 0<=r2.1 then bif r2.1<=(((List.length r1.2.1):Nat):Int) then bif Nat.beq (zW zI (((List.length r1.2.1):Int)+(1:Int))).toNat (List.length (List.replicate (zW zI (((List.length r1.2.1):Int)+(1:Int))).toNat ((0:Int),bs [],()))) then zd r2.1 (zW zI (((List.length r1.2.1):Int)+(1:Int))).toNat (bif Nat.ble (r2.1.toNat+1) (List.length (bX (List.replicate (zW zI (((List.length r1.2.1):Int)+(1:Int))).toNat ((0:Int),bs [],())) (List.take (zW zI (((List.length r1.2.1):Int)+(1:Int))).toNat (List.drop 0 (List.take r2.1.toNat r1.2.1))) 0)) then bif 0<=zW zI (r2.1+1) then bif zW zI (r2.1+1)<=(((zW zI (((List.length r1.2.1):Int)+(1:Int))).toNat:Nat):Int) then bif 0<=r2.1 then bif r2.1<=(((List.length r1.2.1):Nat):Int) then bif Nat.beq (zW zI (((List.length r1.2.1):Int)+(1:Int))).toNat (List.length (List.set (bX (List.replicate (zW zI (((List.length r1.2.1):Int)+(1:Int))).toNat ((0:Int),bs [],())) (List.take (zW zI (((List.length r1.2.1):Int)+(1:Int))).toNat (List.drop 0 (List.take r2.1.toNat r1.2.1))) 0) r2.1.toNat (r2.2,c,()))) then bif Nat.ble (zW zI (r2.1+(1:Int))).toNat (zW zI (((List.length r1.2.1):Int)+(1:Int))).toNat then bif Nat.beq (zW zI (((List.length r1.2.1):Int)+(1:Int))).toNat (List.length (bX (List.set (bX (List.replicate (zW zI (((List.length r1.2.1):Int)+(1:Int))).toNat ((0:Int),bs [],())) (List.take (zW zI (((List.length r1.2.1):Int)+(1:Int))).toNat (List.drop 0 (List.take r2.1.toNat r1.2.1))) 0) r2.1.toNat (r2.2,c,())) (List.take ((zW zI (((List.length r1.2.1):Int)+(1:Int))).toNat-(zW zI (r2.1+(1:Int))).toNat) (List.drop r2.1.toNat (List.take (List.length r1.2.1) r1.2.1))) (zW zI (r2.1+(1:Int))).toNat)) then d (a.1,bX (List.set (bX (List.replicate (zW zI (((List.length r1.2.1):Int)+(1:Int))).toNat (0,bs [],())) (List.take (zW zI (((List.length r1.2.1):Int)+(1:Int))).toNat (List.drop 0 (List.take r2.1.toNat r1.2.1))) 0) r2.1.toNat (r2.2,c,())) (List.take ((zW zI (((List.length r1.2.1):Int)+(1:Int))).toNat-(zW zI (r2.1+(1:Int))).toNat) (List.drop r2.1.toNat (List.take (List.length r1.2.1) r1.2.1))) (zW zI (r2.1+(1:Int))).toNat,()) else none else none else none else none else none else none else none else none) else none else none else none else none else none else none
def hG(a:aw)(b:Int)(c:ByteArray):Option aw:=
 TS a b c (fun a0=>some a0)
def TN{R:Type}(a:af)(b:aw)(c:aQ->Option R)(d:Int->ak->Int->Int->af->aQ->Option R):Option R:=
 (mG a).bind fun r1=>bif !decide (r1.1=0) then c (1,(-1:Int),()) else(jj b.1).bind fun r2=>bif !r2.2 then c (7,0,()) else bif !decide (r2.1=a.2.1) then c (7,0,()) else d 0 b.2.1 ((List.length b.2.1):Int) 0 a (0,0,())
def zy2{R:Type}(a:Int)(b:ak)(c d:Int)(e:af)(f:aQ)(g:aQ->Option R)(h:Int->ak->Int->Int->af->aQ->Option R)(i:aQ->Option R):Option R:=
 bif d<c then zd d (List.length b) (bif(List.getD b d.toNat (0,bs [],())).1<=a then g (11,(List.getD b d.toNat (0,bs [],())).1,()) else(fK e (List.getD b d.toNat (0,bs [],())).1).bind fun r3=>bif !r3.2 then g (9,(List.getD b d.toNat (0,bs [],())).1,()) else(bW r3.1 (List.getD b d.toNat (0,bs [],())).2.1).bind fun r4=>bif !decide (r4=0) then g (r4,(List.getD b d.toNat (0,bs [],())).1,()) else h (List.getD b d.toNat (0,bs [],())).1 b c (zW zI (d+1)) e f) else i f
def zy3{R:Type}(a:aQ)(b:aQ->Option R):Option R:=
 b a
def zy4{R:Type}(a:aQ)(b:aQ->Option R):Option R:=
 b (0,0,())
def PE:Nat->Int->ak->Int->Int->af->aQ->Option (Sum aQ aQ)
 |0,_,_,_,_,_,_=>none
 |k+1,v0,v1,v2,v3,v4,v5=>zy2 v0 v1 v2 v3 v4 v5 (fun a0=>some (.inl a0)) (fun a0 a1 a2 a3 a4 a5=>PE k a0 a1 a2 a3 a4 a5) (fun a0=>some (.inr a0))
def qB(a:af)(b:aw):Option aQ:=
 TN a b (fun a0=>some a0) (fun a0 a1 a2 a3 a4 a5=>(PE ag a0 a1 a2 a3 a4 a5).bind fun e=>Sum.elim (fun(we:aQ)=>zy3 we (fun a0=>some a0)) (fun(we:aQ)=>zy4 we (fun a0=>some a0)) e)
def TR{R:Type}(a:aw)(b:ak->Int->Int->aQ->aQ->Option R):Option R:=
 b a.2.1 ((List.length a.2.1):Int) 0 (0,0,()) (0,0,())
def zy9{R:Type}(a:ak)(b c:Int)(d e:aQ)(f:ak->Int->Int->aQ->aQ->Option R)(g:aQ->aQ->Option R):Option R:=
 bif c<b then zd c (List.length a) ((yj e (List.getD a c.toNat (0,bs [],())).1).bind fun r1=>f a b (zW zI (c+1)) d r1) else g d e
def zya{R:Type}(a b:aQ)(c:aQ->Option R):Option R:=
 c b
def PG:Nat->ak->Int->Int->aQ->aQ->Option (aQ×aQ)
 |0,_,_,_,_,_=>none
 |k+1,v0,v1,v2,v3,v4=>zy9 v0 v1 v2 v3 v4 (fun a0 a1 a2 a3 a4=>PG k a0 a1 a2 a3 a4) (fun a0 a1=>some (a0,a1))
def sL(a:aw):Option aQ:=
 TR a (fun a0 a1 a2 a3 a4=>(PG ag a0 a1 a2 a3 a4).bind fun e=>zya e.1 e.2 (fun a0=>some a0))
def UG{R:Type}(a:(List Int))(b:Int)(c:(List Int)->Int->Int->Int->Option R):Option R:=
 c a b ((List.length a):Int) 0
def zze{R:Type}(a:(List Int))(b c d:Int)(e:Int->Option R)(f:(List Int)->Int->Int->Int->Option R)(g:Option R):Option R:=
 bif d<c then zd d (List.length a) (bif b=List.getD a d.toNat 0 then e d else f a b c (zW zI (d+1))) else g
def zzf{R:Type}(a:Int)(b:Int->Option R):Option R:=
 b a
def zzg{R:Type}(a:Int->Option R):Option R:=
 a (-1:Int)
def PU:Nat->(List Int)->Int->Int->Int->Option (Sum Int Unit)
 |0,_,_,_,_=>none
 |k+1,v0,v1,v2,v3=>zze v0 v1 v2 v3 (fun a0=>some (.inl a0)) (fun a0 a1 a2 a3=>PU k a0 a1 a2 a3) (some (.inr ()))
def vK(a:(List Int))(b:Int):Option Int:=
 UG a b (fun a0 a1 a2 a3=>(PU ag a0 a1 a2 a3).bind fun e=>Sum.elim (fun(we:Int)=>zzf we (fun a0=>some a0)) (fun(we:Unit)=>zzg (fun a0=>some a0)) e)
def UA{R:Type}(a:(List Int))(b:Int)(c:Bool->Option R):Option R:=
 (vK a b).bind fun r1=>c (decide (0<=r1))
def sY(a:(List Int))(b:Int):Option Bool:=
 UA a b (fun a0=>some a0)
def Uj{R:Type}(a:ar)(b:Int)(c:Int->Option R):Option R:=
 zd b (List.length a.2.2.1) ((fK a.1 (List.getD a.2.2.1 b.toNat (0:Int))).bind fun r1=>bif !r1.2 then c 9 else bif List.getD a.2.2.1 b.toNat 0=39 then c 1 else bif 0<=b then bif b<=(((List.length a.2.2.1):Nat):Int) then(sY (List.drop 0 (List.take b.toNat a.2.2.1)) (List.getD a.2.2.1 b.toNat (0:Int))).bind fun r2=>bif r2 then c 10 else c 0 else none else none)
def sU(a:ar)(b:Int):Option Int:=
 Uj a b (fun a0=>some a0)
def Ui{R:Type}(a b:bd)(c:Bool->bd->Option R):Option R:=
 c (decide (a.1=b.1)) b
def qF(a b:bd):Option (Bool×bd):=
 Ui a b (fun a0 a1=>some (a0,a1))
def UC{R:Type}(a:ak)(b:bd)(c:ak->Int->Int->bd->Option R):Option R:=
 c a ((List.length a):Int) 0 b
def zz6{R:Type}(a:ak)(b c:Int)(d:bd)(e:Int->bd->Option R)(f:ak->Int->Int->bd->Option R)(g:bd->Option R):Option R:=
 bif c<b then zd c (List.length a) ((qF (List.getD a c.toNat (0,bs [],())) d).bind fun r1=>bif r1.1 then e c r1.2 else f a b (zW zI (c+1)) r1.2) else g d
def zz7{R:Type}(a:Int)(b:bd)(c:Int->bd->Option R):Option R:=
 c a b
def zz8{R:Type}(a:bd)(b:Int->bd->Option R):Option R:=
 b (-1:Int) a
def PS:Nat->ak->Int->Int->bd->Option (Sum (Int×bd) bd)
 |0,_,_,_,_=>none
 |k+1,v0,v1,v2,v3=>zz6 v0 v1 v2 v3 (fun a0 a1=>some (.inl (a0,a1))) (fun a0 a1 a2 a3=>PS k a0 a1 a2 a3) (fun a0=>some (.inr a0))
def vJ(a:ak)(b:bd):Option (Int×bd):=
 UC a b (fun a0 a1 a2 a3=>(PS ag a0 a1 a2 a3).bind fun e=>Sum.elim (fun(we:(Int×bd))=>zz7 we.1 we.2 (fun a0 a1=>some (a0,a1))) (fun(we:bd)=>zz8 we (fun a0 a1=>some (a0,a1))) e)
def Uz{R:Type}(a:ak)(b:bd)(c:Bool->bd->Option R):Option R:=
 (vJ a b).bind fun r1=>c (decide (0<=r1.1)) r1.2
def sX(a:ak)(b:bd):Option (Bool×bd):=
 Uz a b (fun a0 a1=>some (a0,a1))
def Uh{R:Type}(a:ar)(b:Int)(c:aR)(d:Int->Option R):Option R:=
 zd b (List.length a.2.2.2.1) (bif(List.getD a.2.2.2.1 b.toNat (0,bs [],())).1<0 then d 1 else bif 16<(List.getD a.2.2.2.1 b.toNat (0,bs [],())).1 then d 1 else bif 0<=b then bif b<=(((List.length a.2.2.2.1):Nat):Int) then(sX (List.drop 0 (List.take b.toNat a.2.2.2.1)) (List.getD a.2.2.2.1 b.toNat (0,bs [],()))).bind fun r1=>bif r1.1 then d 10 else(bW c r1.2.2.1).bind fun r2=>d r2 else none else none)
def sT(a:ar)(b:Int)(c:aR):Option Int:=
 Uh a b c (fun a0=>some a0)
def Ua{R:Type}(a:ar)(b:Int->Int->Int->Option R)(c:Int->Int->ar->aR->Option R):Option R:=
 (mG a.1).bind fun r1=>bif !decide (r1.1=0) then b 1 1 0 else(fK a.1 (39:Int)).bind fun r2=>bif !r2.2 then b 9 1 1 else c ((List.length a.2.2.1):Int) 0 a r2.1
def PL{R:Type}(a b:Int)(c:ar)(d:aR)(e:Int->Int->Int->ar->aR->Option R)(f:Int->Int->ar->aR->Option R)(g:ar->aR->Option R):Option R:=
 bif b<a then(sU c b).bind fun r3=>bif !decide (r3=0) then e r3 2 b c d else f a (zW zI (b+1)) c d else g c d
def zyk{R:Type}(a b c:Int)(d:ar)(e:aR)(f:Int->Int->Int->Option R):Option R:=
 f a b c
def Ub{R:Type}(a:ar)(b:aR)(c:Bool->ak->Int->Int->ar->aR->Option R):Option R:=
 c false a.2.2.2.1 ((List.length a.2.2.2.1):Int) 0 a b
def PM{R:Type}(a:Bool)(b:ak)(c d:Int)(e:ar)(f:aR)(g:Int->Int->Int->Bool->ar->Option R)(h:Bool->ak->Int->Int->ar->aR->Option R)(i:Bool->ar->Option R):Option R:=
 bif d<c then zd d (List.length b) ((sT e d f).bind fun r4=>bif !decide (r4=0) then g r4 3 d a e else bif a then h true b c (zW zI (d+1)) e f else h (decide ((List.getD b d.toNat (0,bs [],())).1=0)) b c (zW zI (d+1)) e f) else i a e
def zyl{R:Type}(a b c:Int)(d:Bool)(e:ar)(f:Int->Int->Int->Option R):Option R:=
 f a b c
def Uc{R:Type}(a:Bool)(b:ar)(c:Int->Int->Int->Option R):Option R:=
 bif !a then c 15 3 ((List.length b.2.2.2.1):Int) else c 0 0 0
def EN:Nat->Int->Int->ar->aR->Option (Sum (Int×Int×Int×ar×aR) (ar×aR))
 |0,_,_,_,_=>none
 |k+1,v0,v1,v2,v3=>PL v0 v1 v2 v3 (fun a0 a1 a2 a3 a4=>some (.inl (a0,a1,a2,a3,a4))) (fun a0 a1 a2 a3=>EN k a0 a1 a2 a3) (fun a0 a1=>some (.inr (a0,a1)))
def EO:Nat->Bool->ak->Int->Int->ar->aR->Option (Sum (Int×Int×Int×Bool×ar) (Bool×ar))
 |0,_,_,_,_,_,_=>none
 |k+1,v0,v1,v2,v3,v4,v5=>PM v0 v1 v2 v3 v4 v5 (fun a0 a1 a2 a3 a4=>some (.inl (a0,a1,a2,a3,a4))) (fun a0 a1 a2 a3 a4 a5=>EO k a0 a1 a2 a3 a4 a5) (fun a0 a1=>some (.inr (a0,a1)))
def sR(a:ar):Option jl:=
 Ua a (fun a0 a1 a2=>some (a0,a1,a2)) (fun a0 a1 a2 a3=>(EN ag a0 a1 a2 a3).bind fun e=>Sum.elim (fun(we:(Int×Int×Int×ar×aR))=>zyk we.1 we.2.1 we.2.2.1 we.2.2.2.1 we.2.2.2.2 (fun a0 a1 a2=>some (a0,a1,a2))) (fun(we:(ar×aR))=>Ub we.1 we.2 (fun a0 a1 a2 a3 a4 a5=>(EO ag a0 a1 a2 a3 a4 a5).bind fun e=>Sum.elim (fun(we:(Int×Int×Int×Bool×ar))=>zyl we.1 we.2.1 we.2.2.1 we.2.2.2.1 we.2.2.2.2 (fun a0 a1 a2=>some (a0,a1,a2))) (fun(we:(Bool×ar))=>Uc we.1 we.2 (fun a0 a1 a2=>some (a0,a1,a2))) e)) e)
def Uf{R:Type}(a:ar)(b:Int)(c:(List Int)->Int->Int->ar->Option R):Option R:=
 c ([b,0]:List Int) ((List.length ([b,(0:Int)]:List Int)):Int) 0 a
def PN{R:Type}(a:(List Int))(b c:Int)(d:ar)(e:Int->(List Int)->Int->Int->ak->Int->Int->ar->Option R)(f:Option R):Option R:=
 bif c<b then zd c (List.length a) (e (List.getD a c.toNat 0) a b c d.2.2.2.1 ((List.length d.2.2.2.1):Int) 0 d) else f
def zyo{R:Type}(a:ByteArray->Option R):Option R:=
 a (bs [])
def zyp{R:Type}(a:Int)(b:(List Int))(c d:Int)(e:ak)(f g:Int)(h:ar)(i:ByteArray->(List Int)->Int->Int->ar->Option R)(j:Int->(List Int)->Int->Int->ak->Int->Int->ar->Option R)(l:(List Int)->Int->Int->ar->Option R):Option R:=
 bif g<f then zd g (List.length e) (bif(List.getD e g.toNat (0,bs [],())).1=a then i (List.getD e g.toNat (0,bs [],())).2.1 b c d h else j a b c d e f (zW zI (g+1)) h) else l b c d h
def zyq{R:Type}(a:ByteArray)(b:(List Int))(c d:Int)(e:ar)(f:ByteArray->Option R):Option R:=
 f a
def Ug{R:Type}(a:(List Int))(b c:Int)(d:ar)(e:(List Int)->Int->Int->ar->Option R):Option R:=
 e a b (zW zI (c+1)) d
def zyr{R:Type}(a:ByteArray)(b:ByteArray->Option R):Option R:=
 b a
def Gc:Nat->Int->(List Int)->Int->Int->ak->Int->Int->ar->Option (Sum (ByteArray×(List Int)×Int×Int×ar) ((List Int)×Int×Int×ar))
 |0,_,_,_,_,_,_,_,_=>none
 |k+1,v0,v1,v2,v3,v4,v5,v6,v7=>zyp v0 v1 v2 v3 v4 v5 v6 v7 (fun a0 a1 a2 a3 a4=>some (.inl (a0,a1,a2,a3,a4))) (fun a0 a1 a2 a3 a4 a5 a6 a7=>Gc k a0 a1 a2 a3 a4 a5 a6 a7) (fun a0 a1 a2 a3=>some (.inr (a0,a1,a2,a3)))
def A3:Nat->(List Int)->Int->Int->ar->Option (Sum Unit ByteArray)
 |0,_,_,_,_=>none
 |k+1,v0,v1,v2,v3=>PN v0 v1 v2 v3 (fun a0 a1 a2 a3 a4 a5 a6 a7=>(Gc ag a0 a1 a2 a3 a4 a5 a6 a7).bind fun e=>Sum.elim (fun(we:(ByteArray×(List Int)×Int×Int×ar))=>zyq we.1 we.2.1 we.2.2.1 we.2.2.2.1 we.2.2.2.2 (fun a0=>some (.inr a0))) (fun(we:((List Int)×Int×Int×ar))=>Ug we.1 we.2.1 we.2.2.1 we.2.2.2 (fun a0 a1 a2 a3=>A3 k a0 a1 a2 a3)) e) (some (.inl ()))
def sS(a:ar)(b:Int):Option ByteArray:=
 Uf a b (fun a0 a1 a2 a3=>(A3 ag a0 a1 a2 a3).bind fun e=>Sum.elim (fun(we:Unit)=>zyo (fun a0=>some a0)) (fun(we:ByteArray)=>zyr we (fun a0=>some a0)) e)
def T6{R:Type}(a:ar)(b:aw)(c:aQ)(d:aw->Bool->Option R)(e:(List Int)->Int->Int->ar->aw->aQ->aw->aw->Option R):Option R:=
 (sO b.1).bind fun r1=>bif !r1.2 then d (bs [],[],()) false else e a.2.2.1 ((List.length a.2.2.1):Int) 0 a b c (bs [],[],()) (r1.1,[],())
def zyh{R:Type}(a:(List Int))(b c:Int)(d:ar)(e:aw)(f:aQ)(g h:aw)(i:(List Int)->Int->Int->ar->aw->aQ->aw->aw->Option R)(j:ar->aQ->aw->aw->Option R):Option R:=
 bif c<b then zd c (List.length a) ((nR e (List.getD a c.toNat (0:Int))).bind fun r2=>bif r2.2 then(hG h (List.getD a c.toNat 0) r2.1).bind fun r3=>i a b (zW zI (c+1)) d e f g r3 else i a b (zW zI (c+1)) d e f g h) else j d f g h
def T7{R:Type}(a:ar)(b:aQ)(c d:aw)(e:aw->Bool->Option R):Option R:=
 (sS a b.1).bind fun r4=>(hG d 39 r4).bind fun r5=>e r5 true
def PK:Nat->(List Int)->Int->Int->ar->aw->aQ->aw->aw->Option (ar×aQ×aw×aw)
 |0,_,_,_,_,_,_,_,_=>none
 |k+1,v0,v1,v2,v3,v4,v5,v6,v7=>zyh v0 v1 v2 v3 v4 v5 v6 v7 (fun a0 a1 a2 a3 a4 a5 a6 a7=>PK k a0 a1 a2 a3 a4 a5 a6 a7) (fun a0 a1 a2 a3=>some (a0,a1,a2,a3))
def sQ(a:ar)(b:aw)(c:aQ):Option (aw×Bool):=
 T6 a b c (fun a0 a1=>some (a0,a1)) (fun a0 a1 a2 a3 a4 a5 a6 a7=>(PK ag a0 a1 a2 a3 a4 a5 a6 a7).bind fun e=>T7 e.1 e.2.1 e.2.2.1 e.2.2.2 (fun a0 a1=>some (a0,a1)))
def UN{R:Type}(a:af)(b:ByteArray)(c:ByteArray->Int->Int->Option R):Option R:=
 bif a.1=2 then(Q2 (4:Int)).bind fun r1=>bif(b.size:Int)<r1 then c (bs []) 0 2 else bif 0<=r1 then bif r1<=(b.size:Int) then bif a.1=2 then(Q0 (b.extract 0 r1.toNat) (4:Int)).bind fun r2=>(jj r2.1).bind fun r3=>bif !r3.2 then c (bs []) 0 7 else bif !decide (r3.1=a.2.1) then c (bs []) 0 7 else c r2.1 r1 0 else(jj (b.extract 0 r1.toNat)).bind fun r4=>bif !r4.2 then c (bs []) 0 7 else bif !decide (r4.1=a.2.1) then c (bs []) 0 7 else c (b.extract 0 r1.toNat) r1 0 else none else none else bif(b.size:Int)<4 then c (bs []) 0 2 else bif 4<=(b.size:Int) then bif a.1=2 then(Q0 (b.extract 0 ((4:Int)).toNat) (4:Int)).bind fun r5=>(jj r5.1).bind fun r6=>bif !r6.2 then c (bs []) 0 7 else bif !decide (r6.1=a.2.1) then c (bs []) 0 7 else c r5.1 4 0 else(jj (b.extract 0 ((4:Int)).toNat)).bind fun r7=>bif !r7.2 then c (bs []) 0 7 else bif !decide (r7.1=a.2.1) then c (bs []) 0 7 else c (b.extract 0 ((4:Int)).toNat) 4 0 else none
def s6(a:af)(b:ByteArray):Option I2:=
 UN a b (fun a0 a1 a2=>some (a0,a1,a2))
def UM{R:Type}(a:af)(b:ByteArray)(c:aw->aQ->Option R)(d:ByteArray->Int->Int->af->aw->aQ->aw->aQ->Option R):Option R:=
 (mG a).bind fun r1=>bif !decide (r1.1=0) then c (bs [],[],()) (1,(-1:Int),()) else(s6 a b).bind fun r2=>bif !decide (r2.2.2=0) then c (bs [],[],()) (r2.2.2,0,()) else(Q5 a.1 b r2.2.1).bind fun r3=>bif !decide (r3.2.2=0) then c (r2.1,[],()) (r3.2.2,1,()) else(Fh r3.1 (0:Int)).bind fun r4=>d b r3.2.1 r4 a (bs [],[],()) (0,0,()) (r2.1,[],()) r3.1
def PV{R:Type}(a:ByteArray)(b c:Int)(d:af)(e:aw)(f:aQ)(g:aw)(h:aQ)(i:ByteArray->Int->aw->aQ->aw->Option R)(j:ByteArray->Int->Int->af->aw->aQ->aw->aQ->Option R)(l:ByteArray->Int->aw->aQ->aw->Option R):Option R:=
 bif !decide (c=0) then(fK d c).bind fun r5=>bif !r5.2 then i a b g (9,c,()) g else(GR d.1 r5.1 a b).bind fun r6=>bif !decide (r6.2.2=0) then i a b g (r6.2.2,c,()) g else bif(List.length g.2.1+List.length ([(c,r6.1,())]:List bd))*24<=140737488355328 then(Fh h c).bind fun r7=>j a r6.2.1 r7 d e f (g.1,g.2.1++([(c,r6.1,())]:List bd),()) h else none else l a b e f g
def zzi{R:Type}(a:ByteArray)(b:Int)(c:aw)(d:aQ)(e:aw)(f:aw->aQ->Option R):Option R:=
 f c d
def zzj{R:Type}(a:ByteArray)(b:Int)(c:aw)(d:aQ)(e:aw)(f:aw->aQ->Option R):Option R:=
 bif b<(a.size:Int) then f e (12,129,()) else f e (0,0,())
def EQ:Nat->ByteArray->Int->Int->af->aw->aQ->aw->aQ->Option (Sum qN qN)
 |0,_,_,_,_,_,_,_,_=>none
 |k+1,v0,v1,v2,v3,v4,v5,v6,v7=>PV v0 v1 v2 v3 v4 v5 v6 v7 (fun a0 a1 a2 a3 a4=>some (.inl (a0,a1,a2,a3,a4))) (fun a0 a1 a2 a3 a4 a5 a6 a7=>EQ k a0 a1 a2 a3 a4 a5 a6 a7) (fun a0 a1 a2 a3 a4=>some (.inr (a0,a1,a2,a3,a4)))
def qH(a:af)(b:ByteArray):Option (aw×aQ):=
 UM a b (fun a0 a1=>some (a0,a1)) (fun a0 a1 a2 a3 a4 a5 a6 a7=>(EQ ag a0 a1 a2 a3 a4 a5 a6 a7).bind fun e=>Sum.elim (fun(we:qN)=>zzi we.1 we.2.1 we.2.2.1 we.2.2.2.1 we.2.2.2.2 (fun a0 a1=>some (a0,a1))) (fun(we:qN)=>zzj we.1 we.2.1 we.2.2.1 we.2.2.2.1 we.2.2.2.2 (fun a0 a1=>some (a0,a1))) e)
def U6{R:Type}(a:Int)(b:ByteArray)(c:ByteArray->Bool->Option R):Option R:=
 (nU b).bind fun r1=>bif !r1 then c (bs []) false else bif a=1 then c b true else bif a=2 then(Q1 b).bind fun r2=>c r2.1 r2.2 else c (bs []) false
def td(a:Int)(b:ByteArray):Option jy:=
 U6 a b (fun a0 a1=>some (a0,a1))
def U5{R:Type}(a b:ByteArray)(c:ByteArray->Option R):Option R:=
 (RL b a).bind fun r1=>c r1.2
def jK(a b:ByteArray):Option ByteArray:=
 U5 a b (fun a0=>some a0)
def U4{R:Type}(a:af)(b:aw)(c:ByteArray->aQ->Option R)(d:ak->Int->Int->af->aQ->ByteArray->Option R):Option R:=
 (qB a b).bind fun r1=>bif !decide (r1.1=0) then c (bs []) r1 else(td a.1 b.1).bind fun r2=>(jK r2.1 (bs [])).bind fun r3=>(sL b).bind fun r4=>(Q6 a.1 r4).bind fun r5=>(jK r5.1 r3).bind fun r6=>d b.2.1 ((List.length b.2.1):Int) 0 a (0,0,()) r6
def zzo{R:Type}(a:ak)(b c:Int)(d:af)(e:aQ)(f:ByteArray)(g:ak->Int->Int->af->aQ->ByteArray->Option R)(h:aQ->ByteArray->Option R):Option R:=
 bif c<b then zd c (List.length a) ((fK d (List.getD a c.toNat (0,bs [],())).1).bind fun r7=>(Bh d.1 r7.1 (List.getD a c.toNat (0,bs [],())).2.1).bind fun r8=>(jK r8.1 f).bind fun r9=>g a b (zW zI (c+1)) d e r9) else h e f
def zzp{R:Type}(a:aQ)(b:ByteArray)(c:ByteArray->aQ->Option R):Option R:=
 (z52 b).bind fun kI=>c kI.1 (0,0,())
def PW:Nat->ak->Int->Int->af->aQ->ByteArray->Option (aQ×ByteArray)
 |0,_,_,_,_,_,_=>none
 |k+1,v0,v1,v2,v3,v4,v5=>zzo v0 v1 v2 v3 v4 v5 (fun a0 a1 a2 a3 a4 a5=>PW k a0 a1 a2 a3 a4 a5) (fun a0 a1=>some (a0,a1))
def nY(a:af)(b:aw):Option (ByteArray×aQ):=
 U4 a b (fun a0 a1=>some (a0,a1)) (fun a0 a1 a2 a3 a4 a5=>(PW ag a0 a1 a2 a3 a4 a5).bind fun e=>zzp e.1 e.2 (fun a0 a1=>some (a0,a1)))
def Uq{R:Type}(a:aF)(b c:af)(d:aR->aR->Int->Option R):Option R:=
 (fK b a.2.1).bind fun r1=>(fK c a.2.2.1).bind fun r2=>bif a.1=3 then bif a.1=2 then bif !decide (a.2.1=0) then d r1.1 r2.1 9 else bif !decide (a.2.2.1=0) then d r1.1 r2.1 9 else d r1.1 r2.1 0 else bif !decide (a.2.1=0) then d r1.1 r2.1 9 else bif !r2.2 then d r1.1 r2.1 9 else d r1.1 r2.1 0 else bif a.1=2 then bif !r1.2 then d r1.1 r2.1 9 else bif !decide (a.2.2.1=0) then d r1.1 r2.1 9 else d r1.1 r2.1 0 else bif !r1.2 then d r1.1 r2.1 9 else bif !r2.2 then d r1.1 r2.1 9 else d r1.1 r2.1 0
def sW(a:aF)(b c:af):Option (aR×aR×Int):=
 Uq a b c (fun a0 a1 a2=>some (a0,a1,a2))
def Ur{R:Type}(a:aR)(b:Bool->Option R):Option R:=
 bif a.2.1=1 then b (decide (a.2.2.1=1)) else b false
def jk(a:aR):Option Bool:=
 Ur a (fun a0=>some a0)
def Ut{R:Type}(a:aN)(b c:aR)(d:Int->Option R)(e:aN->Int->Int->aR->aR->Option R):Option R:=
 (G7 a).bind fun r1=>bif !decide (r1.1=0) then d 15 else bif((List.length a):Int)=0 then d 15 else e a ((List.length a):Int) 0 b c
def zyw{R:Type}(a:aN)(b c:Int)(d e:aR)(f:Int->Option R)(g:aN->Int->Int->aR->aR->Option R)(h:Option R):Option R:=
 bif c<b then zd c (List.length a) ((bW d (List.getD a c.toNat (bs [],bs [],())).1).bind fun r2=>bif !decide (r2=0) then f r2 else(bW e (List.getD a c.toNat (bs [],bs [],())).2.1).bind fun r3=>bif !decide (r3=0) then f r3 else g a b (zW zI (c+1)) d e) else h
def zyx{R:Type}(a:Int)(b:Int->Option R):Option R:=
 b a
def zyy{R:Type}(a:Int->Option R):Option R:=
 a 0
def PO:Nat->aN->Int->Int->aR->aR->Option (Sum Int Unit)
 |0,_,_,_,_,_=>none
 |k+1,v0,v1,v2,v3,v4=>zyw v0 v1 v2 v3 v4 (fun a0=>some (.inl a0)) (fun a0 a1 a2 a3 a4=>PO k a0 a1 a2 a3 a4) (some (.inr ()))
def mF(a:aN)(b c:aR):Option Int:=
 Ut a b c (fun a0=>some a0) (fun a0 a1 a2 a3 a4=>(PO ag a0 a1 a2 a3 a4).bind fun e=>Sum.elim (fun(we:Int)=>zyx we (fun a0=>some a0)) (fun(we:Unit)=>zyy (fun a0=>some a0)) e)
def Up{R:Type}(a:aF)(b c:af)(d:Int->Option R):Option R:=
 bif a.1<1 then d 1 else bif 5<a.1 then d 1 else(sW a b c).bind fun r1=>bif !decide (r1.2.2=0) then d r1.2.2 else bif !decide (a.2.2.2.1=bs []) then bif !decide (a.1=3) then d 3 else bif 0<((List.length a.2.2.2.2.1):Int) then bif !decide (a.1=5) then d 3 else bif a.1=1 then(lG r1.2.1 r1.1).bind fun r2=>bif !r2 then d 6 else d 0 else bif a.1=3 then(bW r1.2.1 a.2.2.2.1).bind fun r3=>d r3 else bif a.1=4 then(jk r1.1).bind fun r4=>bif !r4 then d 6 else(jk r1.2.1).bind fun r5=>bif !r5 then d 6 else d 0 else bif a.1=5 then(mF a.2.2.2.2.1 r1.1 r1.2.1).bind fun r6=>d r6 else d 0 else bif a.1=1 then(lG r1.2.1 r1.1).bind fun r7=>bif !r7 then d 6 else d 0 else bif a.1=3 then(bW r1.2.1 a.2.2.2.1).bind fun r8=>d r8 else bif a.1=4 then(jk r1.1).bind fun r9=>bif !r9 then d 6 else(jk r1.2.1).bind fun kI=>bif !kI then d 6 else d 0 else bif a.1=5 then(mF a.2.2.2.2.1 r1.1 r1.2.1).bind fun lr=>d lr else d 0 else bif 0<((List.length a.2.2.2.2.1):Int) then bif !decide (a.1=5) then d 3 else bif a.1=1 then(lG r1.2.1 r1.1).bind fun nE=>bif !nE then d 6 else d 0 else bif a.1=3 then(bW r1.2.1 a.2.2.2.1).bind fun l7=>d l7 else bif a.1=4 then(jk r1.1).bind fun rT=>bif !rT then d 6 else(jk r1.2.1).bind fun qh=>bif !qh then d 6 else d 0 else bif a.1=5 then(mF a.2.2.2.2.1 r1.1 r1.2.1).bind fun ux=>d ux else d 0 else bif a.1=1 then(lG r1.2.1 r1.1).bind fun xA=>bif !xA then d 6 else d 0 else bif a.1=3 then(bW r1.2.1 a.2.2.2.1).bind fun xB=>d xB else bif a.1=4 then(jk r1.1).bind fun rf=>bif !rf then d 6 else(jk r1.2.1).bind fun xC=>bif !xC then d 6 else d 0 else bif a.1=5 then(mF a.2.2.2.2.1 r1.1 r1.2.1).bind fun uy=>d uy else d 0
def nW(a:aF)(b c:af):Option Int:=
 Up a b c (fun a0=>some a0)
def Uo{R:Type}(a:aF)(b:af)(c:ByteArray)(d:bd->Int->Option R):Option R:=
 bif a.1=1 then d (a.2.2.1,c,()) 0 else bif a.1=2 then d (0,bs [],()) 0 else bif a.1=3 then d (a.2.2.1,a.2.2.2.1,()) 0 else bif a.1=4 then(fK b a.2.2.1).bind fun r1=>bif !r1.2 then d (0,bs [],()) 9 else(G8 c r1.1.2.2.2.1).bind fun r2=>bif !r2.2 then d (0,bs [],()) 5 else d (a.2.2.1,r2.1,()) 0 else bif a.1=5 then(G6 a.2.2.2.2.1 c).bind fun r3=>bif !r3.2 then d (0,bs [],()) 15 else d (a.2.2.1,r3.1,()) 0 else d (0,bs [],()) 1
def nV(a:aF)(b:af)(c:ByteArray):Option (bd×Int):=
 Uo a b c (fun a0 a1=>some (a0,a1))
def Vm{R:Type}(a:dA)(b c:af)(d:Bool->Option R):Option R:=
 (jj a.1).bind fun r1=>(jj a.2.1).bind fun r2=>bif r1.2 then bif r2.2 then bif r1.1=b.2.1 then bif r2.1=c.2.1 then(nT a.1).bind fun r3=>(nT a.2.1).bind fun r4=>d (r3==r4) else d false else d false else d false else d false
def n0(a:dA)(b c:af):Option Bool:=
 Vm a b c (fun a0=>some a0)
def Va{R:Type}(a:ay)(b c:af)(d:n6->Int->Int->ay->af->af->Option R):Option R:=
 d ([b,c]:List af) ((List.length ([b,c]:List af)):Int) 0 a b c
def Vb{R:Type}(a:n6)(b c:Int)(d:ay)(e f:af)(g:Int->Int->Int->ay->af->af->Option R)(h:n6->Int->Int->ay->af->af->Option R)(i:ay->af->af->Option R):Option R:=
 bif c<b then zd c (List.length a) ((mG (List.getD a c.toNat (0,0,[],()))).bind fun r1=>bif !decide (r1.1=0) then g 1 1 c d e f else h a b (zW zI (c+1)) d e f) else i d e f
def zzt{R:Type}(a b c:Int)(d:ay)(e f:af)(g:Int->Int->Int->Option R):Option R:=
 g a b c
def Vc{R:Type}(a:ay)(b c:af)(d:Int->Int->Int->Option R)(e:aN->Int->Int->ay->af->af->hM->Option R):Option R:=
 bif 256<((List.length a.1):Int) then d 5 2 256 else e a.1 ((List.length a.1):Int) 0 a b c []
def zzu{R:Type}(a:aN)(b c:Int)(d:ay)(e f:af)(g:hM)(h:Int->Int->Int->ay->af->af->Option R)(i:aN->Int->Int->ay->af->af->hM->Option R)(j:ay->af->af->Option R):Option R:=
 bif c<b then zd c (List.length a) ((n0 (List.getD a c.toNat (bs [],bs [],())) e f).bind fun r2=>bif !r2 then h (7:Int) (2:Int) c d e f else bif eZ (fT .str) false g (List.getD a c.toNat (bs [],bs [],())).1 then h (10:Int) (2:Int) c d e f else bif fa (fT .str) g (List.getD a c.toNat (bs [],bs [],())).1 then none else i a b (zW zI (c+(1:Int))) d e f (g++ [((List.getD a c.toNat (bs [],bs [],())).1,true)])) else j d e f
def zzv{R:Type}(a b c:Int)(d:ay)(e f:af)(g:Int->Int->Int->Option R):Option R:=
 g a b c
def Vd{R:Type}(a:ay)(b c:af)(d:Int->Int->Int->Option R)(e:bQ->Int->Int->af->af->aQ->aQ->Option R):Option R:=
 bif 256<((List.length a.2.1):Int) then d 5 3 256 else e a.2.1 ((List.length a.2.1):Int) 0 b c (0,0,()) (0,0,())
def zzw{R:Type}(a:bQ)(b c:Int)(d e:af)(f g:aQ)(h:Int->Int->Int->Option R)(i:bQ->Int->Int->af->af->aQ->aQ->Option R)(j:Option R):Option R:=
 bif c<b then zd c (List.length a) ((nW (List.getD a c.toNat (0,0,0,bs [],[],())) d e).bind fun r3=>bif !decide (r3=0) then h r3 3 c else(uY ([(List.getD a c.toNat (0,0,0,bs [],[],())).2.1]:List Int)).bind fun r4=>(uY ([(List.getD a c.toNat (0,0,0,bs [],[],())).2.2.1]:List Int)).bind fun r5=>(rL f r4).bind fun r6=>bif !(decide (r6.1=0)&&(decide (r6.2.1=0)&&true)) then h 10 3 c else(rL g r5).bind fun r7=>bif !(decide (r7.1=0)&&(decide (r7.2.1=0)&&true)) then h 10 3 c else(tf f r4).bind fun r8=>(tf g r5).bind fun r9=>i a b (zW zI (c+1)) d e r8 r9) else j
def zzx{R:Type}(a b c:Int)(d:Int->Int->Int->Option R):Option R:=
 d a b c
def zzy{R:Type}(a:Int->Int->Int->Option R):Option R:=
 a 0 0 0
def Gi:Nat->n6->Int->Int->ay->af->af->Option (Sum lL lK)
 |0,_,_,_,_,_,_=>none
 |k+1,v0,v1,v2,v3,v4,v5=>Vb v0 v1 v2 v3 v4 v5 (fun a0 a1 a2 a3 a4 a5=>some (.inl (a0,a1,a2,a3,a4,a5))) (fun a0 a1 a2 a3 a4 a5=>Gi k a0 a1 a2 a3 a4 a5) (fun a0 a1 a2=>some (.inr (a0,a1,a2)))
def Gj:Nat->aN->Int->Int->ay->af->af->hM->Option (Sum lL lK)
 |0,_,_,_,_,_,_,_=>none
 |k+1,v0,v1,v2,v3,v4,v5,v6=>zzu v0 v1 v2 v3 v4 v5 v6 (fun a0 a1 a2 a3 a4 a5=>some (.inl (a0,a1,a2,a3,a4,a5))) (fun a0 a1 a2 a3 a4 a5 a6=>Gj k a0 a1 a2 a3 a4 a5 a6) (fun a0 a1 a2=>some (.inr (a0,a1,a2)))
def PX:Nat->bQ->Int->Int->af->af->aQ->aQ->Option (Sum jl Unit)
 |0,_,_,_,_,_,_,_=>none
 |k+1,v0,v1,v2,v3,v4,v5,v6=>zzw v0 v1 v2 v3 v4 v5 v6 (fun a0 a1 a2=>some (.inl (a0,a1,a2))) (fun a0 a1 a2 a3 a4 a5 a6=>PX k a0 a1 a2 a3 a4 a5 a6) (some (.inr ()))
def qI(a:ay)(b c:af):Option jl:=
 Va a b c (fun a0 a1 a2 a3 a4 a5=>(Gi ag a0 a1 a2 a3 a4 a5).bind fun e=>Sum.elim (fun(we:lL)=>zzt we.1 we.2.1 we.2.2.1 we.2.2.2.1 we.2.2.2.2.1 we.2.2.2.2.2 (fun a0 a1 a2=>some (a0,a1,a2))) (fun(we:lK)=>Vc we.1 we.2.1 we.2.2 (fun a0 a1 a2=>some (a0,a1,a2)) (fun a0 a1 a2 a3 a4 a5 a6=>(Gj ag a0 a1 a2 a3 a4 a5 a6).bind fun e=>Sum.elim (fun(we:lL)=>zzv we.1 we.2.1 we.2.2.1 we.2.2.2.1 we.2.2.2.2.1 we.2.2.2.2.2 (fun a0 a1 a2=>some (a0,a1,a2))) (fun(we:lK)=>Vd we.1 we.2.1 we.2.2 (fun a0 a1 a2=>some (a0,a1,a2)) (fun a0 a1 a2 a3 a4 a5 a6=>(PX ag a0 a1 a2 a3 a4 a5 a6).bind fun e=>Sum.elim (fun(we:jl)=>zzx we.1 we.2.1 we.2.2 (fun a0 a1 a2=>some (a0,a1,a2))) (fun(we:Unit)=>zzy (fun a0 a1 a2=>some (a0,a1,a2))) e)) e)) e)
def Vl{R:Type}(a:ay)(b:ByteArray)(c:ByteArray->aN->Int->Int->Option R):Option R:=
 c b a.1 ((List.length a.1):Int) 0
def CH{R:Type}(a:ByteArray)(b:aN)(c d:Int)(e:ByteArray->Bool->Option R)(f:ByteArray->aN->Int->Int->Option R)(g:Option R):Option R:=
 bif d<c then zd d (List.length b) (bif(List.getD b d.toNat (bs [],bs [],())).1=a then e (List.getD b d.toNat (bs [],bs [],())).2.1 true else f a b c (zW zI (d+1))) else g
def CI{R:Type}(a:ByteArray)(b:Bool)(c:ByteArray->Bool->Option R):Option R:=
 c a b
def CJ{R:Type}(a:ByteArray->Bool->Option R):Option R:=
 a (bs []) false
def P1:Nat->ByteArray->aN->Int->Int->Option (Sum jy Unit)
 |0,_,_,_,_=>none
 |k+1,v0,v1,v2,v3=>CH v0 v1 v2 v3 (fun a0 a1=>some (.inl (a0,a1))) (fun a0 a1 a2 a3=>P1 k a0 a1 a2 a3) (some (.inr ()))
def te(a:ay)(b:ByteArray):Option jy:=
 Vl a b (fun a0 a1 a2 a3=>(P1 ag a0 a1 a2 a3).bind fun e=>Sum.elim (fun(we:jy)=>CI we.1 we.2 (fun a0 a1=>some (a0,a1))) (fun(we:Unit)=>CJ (fun a0 a1=>some (a0,a1))) e)
def Vj{R:Type}(a:ay)(b:Int)(c:Int->bQ->Int->Int->aF->Option R):Option R:=
 c b a.2.1 ((List.length a.2.1):Int) 0 (0,0,0,bs [],[],())
def z105{R:Type}(a:Int)(b:bQ)(c d:Int)(e:aF)(f:Bool->aF->Option R)(g:Int->bQ->Int->Int->aF->Option R)(h:aF->Option R):Option R:=
 bif d<c then zd d (List.length b) (bif(List.getD b d.toNat (0,0,0,bs [],[],())).2.1=a then f true (List.getD b d.toNat (0,0,0,bs [],[],())) else g a b c (zW zI (d+1)) e) else h e
def CF{R:Type}(a:Bool)(b:aF)(c:aF->Bool->Option R):Option R:=
 c b a
def z107{R:Type}(a:aF)(b:aF->Bool->Option R):Option R:=
 b (0,0,0,bs [],[],()) false
def P0:Nat->Int->bQ->Int->Int->aF->Option (Sum (Bool×aF) aF)
 |0,_,_,_,_,_=>none
 |k+1,v0,v1,v2,v3,v4=>z105 v0 v1 v2 v3 v4 (fun a0 a1=>some (.inl (a0,a1))) (fun a0 a1 a2 a3 a4=>P0 k a0 a1 a2 a3 a4) (fun a0=>some (.inr a0))
def nZ(a:ay)(b:Int):Option (aF×Bool):=
 Vj a b (fun a0 a1 a2 a3 a4=>(P0 ag a0 a1 a2 a3 a4).bind fun e=>Sum.elim (fun(we:(Bool×aF))=>CF we.1 we.2 (fun a0 a1=>some (a0,a1))) (fun(we:aF)=>z107 we (fun a0 a1=>some (a0,a1))) e)
def Vg{R:Type}(a:ay)(b c:af)(d:aw)(e:aw->aQ->Option R)(f:bQ->Int->Int->ay->af->aw->aw->aQ->aw->Option R):Option R:=
 (qI a b c).bind fun r1=>bif !decide (r1.1=0) then e (bs [],[],()) (1,(-1:Int),()) else(qB b d).bind fun r2=>bif !decide (r2.1=0) then e (bs [],[],()) r2 else(te a d.1).bind fun r3=>bif !r3.2 then e (bs [],[],()) (7,0,()) else f a.2.1 ((List.length a.2.1):Int) 0 a c d (bs [],[],()) (0,0,()) (r3.1,[],())
def CA{R:Type}(a:bQ)(b c:Int)(d:ay)(e:af)(f g:aw)(h:aQ)(i:aw)(j:bQ->Int->Int->ay->af->aw->aw->aQ->aw->Option R)(l:ay->af->aw->aw->aQ->aw->Option R):Option R:=
 bif c<b then zd c (List.length a) (bif(List.getD a c.toNat (0,0,0,bs [],[],())).1=3 then(hG i (List.getD a c.toNat (0,0,0,bs [],[],())).2.2.1 (List.getD a c.toNat (0,0,0,bs [],[],())).2.2.2.1).bind fun r4=>j a b (zW zI (c+1)) d e f g h r4 else j a b (zW zI (c+1)) d e f g h i) else l d e f g h i
def Vh{R:Type}(a:ay)(b:af)(c d:aw)(e:aQ)(f:aw)(g:ak->Int->Int->ay->af->aw->aQ->aw->Option R):Option R:=
 g c.2.1 ((List.length c.2.1):Int) 0 a b d e f
def CB{R:Type}(a:ak)(b c:Int)(d:ay)(e:af)(f:aw)(g:aQ)(h:aw)(i:aw->aQ->aw->Option R)(j:ak->Int->Int->ay->af->aw->aQ->aw->Option R)(l:aw->aQ->aw->Option R):Option R:=
 bif c<b then zd c (List.length a) ((nZ d (List.getD a c.toNat (0,bs [],())).1).bind fun r5=>bif !r5.2 then i (bs [],[],()) (9,(List.getD a c.toNat (0,bs [],())).1,()) h else(nV r5.1 e (List.getD a c.toNat (0,bs [],())).2.1).bind fun r6=>bif !decide (r6.2=0) then i (bs [],[],()) (r6.2,(List.getD a c.toNat (0,bs [],())).1,()) h else bif !decide (r6.1.1=0) then(hG h r6.1.1 r6.1.2.1).bind fun r7=>j a b (zW zI (c+1)) d e f g r7 else j a b (zW zI (c+1)) d e f g h) else l f g h
def CC{R:Type}(a:aw)(b:aQ)(c:aw)(d:aw->aQ->Option R):Option R:=
 d a b
def CD{R:Type}(a:aw)(b:aQ)(c:aw)(d:aw->aQ->Option R):Option R:=
 d c (0,0,())
def PY:Nat->bQ->Int->Int->ay->af->aw->aw->aQ->aw->Option (ay×af×aw×aw×aQ×aw)
 |0,_,_,_,_,_,_,_,_,_=>none
 |k+1,v0,v1,v2,v3,v4,v5,v6,v7,v8=>CA v0 v1 v2 v3 v4 v5 v6 v7 v8 (fun a0 a1 a2 a3 a4 a5 a6 a7 a8=>PY k a0 a1 a2 a3 a4 a5 a6 a7 a8) (fun a0 a1 a2 a3 a4 a5=>some (a0,a1,a2,a3,a4,a5))
def PZ:Nat->ak->Int->Int->ay->af->aw->aQ->aw->Option (Sum qM qM)
 |0,_,_,_,_,_,_,_,_=>none
 |k+1,v0,v1,v2,v3,v4,v5,v6,v7=>CB v0 v1 v2 v3 v4 v5 v6 v7 (fun a0 a1 a2=>some (.inl (a0,a1,a2))) (fun a0 a1 a2 a3 a4 a5 a6 a7=>PZ k a0 a1 a2 a3 a4 a5 a6 a7) (fun a0 a1 a2=>some (.inr (a0,a1,a2)))
def qJ(a:ay)(b c:af)(d:aw):Option (aw×aQ):=
 Vg a b c d (fun a0 a1=>some (a0,a1)) (fun a0 a1 a2 a3 a4 a5 a6 a7 a8=>(PY ag a0 a1 a2 a3 a4 a5 a6 a7 a8).bind fun e=>Vh e.1 e.2.1 e.2.2.1 e.2.2.2.1 e.2.2.2.2.1 e.2.2.2.2.2 (fun a0 a1 a2 a3 a4 a5 a6 a7=>(PZ ag a0 a1 a2 a3 a4 a5 a6 a7).bind fun e=>Sum.elim (fun(we:qM)=>CC we.1 we.2.1 we.2.2 (fun a0 a1=>some (a0,a1))) (fun(we:qM)=>CD we.1 we.2.1 we.2.2 (fun a0 a1=>some (a0,a1))) e))
def Ul{R:Type}(a:av)(b:Int->Int->Int->Option R)(c:mO->Int->av->Option R):Option R:=
 bif a.2.1<1 then b 5 2 0 else bif 65535<a.2.1 then b 5 2 0 else c a.1 0 a
def Gd{R:Type}(a:mO)(b:Int)(c:av)(d:Int->Int->Int->Option R)(e:mO->Int->av->Option R)(f:Option R):Option R:=
 bif b<2 then zd b 2 ((sR (List.getD a b.toNat ((0,0,[],()),([],[],()),[],[],()))).bind fun r1=>bif !decide (r1.1=0) then d r1.1 b 1 else zd (zW zI (1-b)) 2 ((qI (List.getD a b.toNat ((0,0,[],()),([],[],()),[],[],())).2.1 (List.getD a b.toNat ((0,0,[],()),([],[],()),[],[],())).1 (List.getD c.1 (zW zI (1-b)).toNat ((0,0,[],()),([],[],()),[],[],())).1).bind fun r2=>bif !decide (r2.1=0) then d r2.1 b 2 else e a (zW zI (b+1)) c)) else f
def zyt{R:Type}(a b c:Int)(d:Int->Int->Int->Option R):Option R:=
 d a b c
def zyu{R:Type}(a:Int->Int->Int->Option R):Option R:=
 a 0 0 0
def EP:Nat->mO->Int->av->Option (Sum jl Unit)
 |0,_,_,_=>none
 |k+1,v0,v1,v2=>Gd v0 v1 v2 (fun a0 a1 a2=>some (.inl (a0,a1,a2))) (fun a0 a1 a2=>EP k a0 a1 a2) (some (.inr ()))
def qG(a:av):Option jl:=
 Ul a (fun a0 a1 a2=>some (a0,a1,a2)) (fun a0 a1 a2=>(EP ag a0 a1 a2).bind fun e=>Sum.elim (fun(we:jl)=>zyt we.1 we.2.1 we.2.2 (fun a0 a1 a2=>some (a0,a1,a2))) (fun(we:Unit)=>zyu (fun a0 a1 a2=>some (a0,a1,a2))) e)
def Un{R:Type}(a:aw)(b:aQ)(c:ar)(d:av)(e:Int->ByteArray->Option R):Option R:=
 (sQ c a b).bind fun r1=>bif !r1.2 then e 3 (bs []) else(nY c.1 r1.1).bind fun r2=>bif r2.1=bs [] then e 3 (bs []) else bif d.2.1<(r2.1.size:Int) then e 3 (bs []) else e 2 r2.1
def ky(a:aw)(b:aQ)(c:ar)(d:av):Option Zt3:=
 Un a b c d (fun a0 a1=>some (a0,a1))
def Um{R:Type}(a:av)(b:Int)(c:ByteArray)(d:Int->ByteArray->Option R):Option R:=
 (qG a).bind fun r1=>bif !decide (r1.1=0) then d 0 (bs []) else bif b<0 then d 0 (bs []) else bif 1<b then d 0 (bs []) else zd b 2 (zd (zW zI (1-b)) 2 ((qH (List.getD a.1 b.toNat ((0,0,[],()),([],[],()),[],[],())).1 c).bind fun r2=>bif !decide (r2.2.1=0) then(ky r2.1 r2.2 (List.getD a.1 b.toNat ((0,0,[],()),([],[],()),[],[],())) a).bind fun r3=>d r3.1 r3.2 else(qJ (List.getD a.1 b.toNat ((0,0,[],()),([],[],()),[],[],())).2.1 (List.getD a.1 b.toNat ((0,0,[],()),([],[],()),[],[],())).1 (List.getD a.1 (zW zI (1-b)).toNat ((0,0,[],()),([],[],()),[],[],())).1 r2.1).bind fun r4=>bif !decide (r4.2.1=0) then(ky r2.1 r4.2 (List.getD a.1 b.toNat ((0,0,[],()),([],[],()),[],[],())) a).bind fun r5=>d r5.1 r5.2 else(nY (List.getD a.1 (zW zI (1-b)).toNat ((0,0,[],()),([],[],()),[],[],())).1 r4.1).bind fun r6=>bif a.2.1<(r6.1.size:Int) then(ky r2.1 (5,129,()) (List.getD a.1 b.toNat ((0,0,[],()),([],[],()),[],[],())) a).bind fun r7=>d r7.1 r7.2 else d 1 r6.1))
def sV(a:av)(b:Int)(c:ByteArray):Option Zt3:=
 Um a b c (fun a0 a1=>some (a0,a1))
def W6{R:Type}(a:ar)(b:bQ->bQ->Int->Int->ar->ar->Option R):Option R:=
 bif List.length a.1.2.2.1*40<=140737488355328 then bif List.length a.2.1.1*32<=140737488355328 then bif 0<=((List.length a.2.1.2.1):Int) then bif((List.length a.2.1.2.1):Int)*64<=140737488355328 then b [] a.2.1.2.1 ((List.length a.2.1.2.1):Int) 0 ((a.1.1,a.1.2.1,a.1.2.2.1,()),(a.2.1.1,a.2.1.2.1,()),a.2.2.1,a.2.2.2.1,()) ((0,0,[],()),([],[],()),[],[],()) else none else none else none else none
def z156{R:Type}(a b:bQ)(c d:Int)(e f:ar)(g:bQ->bQ->Int->Int->ar->ar->Option R)(h:bQ->ar->ar->Option R):Option R:=
 bif d<c then zd d (List.length b) (bif List.length (List.getD b d.toNat ((0:Int),(0:Int),(0:Int),bs [],([]:List dA),())).2.2.2.2.1*32<=140737488355328 then bif(List.length a+List.length ([((List.getD b d.toNat ((0:Int),(0:Int),(0:Int),bs [],([]:List dA),())).1,(List.getD b d.toNat ((0:Int),(0:Int),(0:Int),bs [],([]:List dA),())).2.1,(List.getD b d.toNat ((0:Int),(0:Int),(0:Int),bs [],([]:List dA),())).2.2.1,(List.getD b d.toNat ((0:Int),(0:Int),(0:Int),bs [],([]:List dA),())).2.2.2.1,(List.getD b d.toNat ((0:Int),(0:Int),(0:Int),bs [],([]:List dA),())).2.2.2.2.1,())]:List aF))*64<=140737488355328 then g (a++([((List.getD b d.toNat (0,0,0,bs [],[],())).1,(List.getD b d.toNat (0,0,0,bs [],[],())).2.1,(List.getD b d.toNat (0,0,0,bs [],[],())).2.2.1,(List.getD b d.toNat (0,0,0,bs [],[],())).2.2.2.1,(List.getD b d.toNat (0,0,0,bs [],[],())).2.2.2.2.1,())]:List aF)) b c (zW zI (d+1)) e f else none else none) else h a e f
def W7{R:Type}(a:bQ)(b c:ar)(d:ar->Option R):Option R:=
 bif List.length b.2.2.1*8<=140737488355328 then bif List.length b.2.2.2.1*24<=140737488355328 then d (b.1,(b.2.1.1,a,()),b.2.2.1,b.2.2.2.1,()) else none else none
def Qp:Nat->bQ->bQ->Int->Int->ar->ar->Option (bQ×ar×ar)
 |0,_,_,_,_,_,_=>none
 |k+1,v0,v1,v2,v3,v4,v5=>z156 v0 v1 v2 v3 v4 v5 (fun a0 a1 a2 a3 a4 a5=>Qp k a0 a1 a2 a3 a4 a5) (fun a0 a1 a2=>some (a0,a1,a2))
def Hx(a:ar):Option ar:=
 W6 a (fun a0 a1 a2 a3 a4 a5=>(Qp ag a0 a1 a2 a3 a4 a5).bind fun e=>W7 e.1 e.2.1 e.2.2 (fun a0=>some a0))
def W3{R:Type}(a:av)(b:Int->Option R)(c:Int->av->(av×(Option al×Option al)×Int)->Option R):Option R:=
 (qG a).bind fun r1=>bif !decide (r1.1=0) then b 1 else c 0 a (a,((none,none),0))
def Gv{R:Type}(a:Int)(b:av)(c:(av×(Option al×Option al)×Int))(d:Int->av->(av×(Option al×Option al)×Int)->Option R)(e:(av×(Option al×Option al)×Int)->Option R):Option R:=
 bif a<2 then zd a 2 ((Hx (List.getD b.1 a.toNat ((0,0,[],()),([],[],()),[],[],()))).bind fun r2=>zd a 2 ((Ho b.2.1).bind fun r3=>Sum.elim (fun(mg:Int)=>zd a 2 (d (zW zI (a+1)) b ((List.set c.1.1 a.toNat r2,c.1.2.1,()),(fG a.toNat none c.2.1,c.2.2)))) (fun(mg:tm)=>zd a 2 (d (zW zI (a+1)) b ((List.set c.1.1 a.toNat r2,c.1.2.1,()),(fG a.toNat (some mg.2) c.2.1,c.2.2)))) r3)) else e c
def Dx{R:Type}(a:(av×(Option al×Option al)×Int))(b:Int->(av×(Option al×Option al)×Int)->Option R):Option R:=
 b 0 a
def E6:Nat->Int->av->(av×(Option al×Option al)×Int)->Option (av×(Option al×Option al)×Int)
 |0,_,_,_=>none
 |k+1,v0,v1,v2=>Gv v0 v1 v2 (fun a0 a1 a2=>E6 k a0 a1 a2) (fun a0=>some a0)
def yl(a:av):Option (Sum Int (Int×(av×(Option al×Option al)×Int))):=
 W3 a (fun a0=>some (.inl a0)) (fun a0 a1 a2=>(E6 ag a0 a1 a2).bind fun e=>Dx e (fun a0 a1=>some (.inr (a0,a1))))
def W4{R:Type}(a:Int)(b:Bool->Option R):Option R:=
 bif a=0 then b true else b (decide (a=1))
def Bp(a:Int):Option Bool:=
 W4 a (fun a0=>some a0)
def WZ{R:Type}(a:(av×(Option al×Option al)×Int))(b:Int)(c:ByteArray)(d:lJ->(av×(Option al×Option al)×Int)->Option R):Option R:=
 (sV a.1 b c).bind fun r1=>bif r1.1=3 then d (b,r1.1,bs [],zW zI (a.2.2+1),()) (a.1,(a.2.1,zW zI (a.2.2+1))) else bif r1.1=1 then(Bn r1.2).bind fun r2=>d (zW zI (1-b),r1.1,r2.1,a.2.2,()) a else(Bn r1.2).bind fun r3=>d (b,r1.1,r3.1,a.2.2,()) a
def Fl(a:(av×(Option al×Option al)×Int))(b:Int)(c:ByteArray):Option (lJ×(av×(Option al×Option al)×Int)):=
 WZ a b c (fun a0 a1=>some (a0,a1))
def WW{R:Type}(a:(av×(Option al×Option al)×Int))(b:bd)(c:ct->(av×(Option al×Option al)×Int)->Option R)(d:ct->Bool->(List ByteArray)->Int->Int->(av×(Option al×Option al)×Int)->bd->Option R):Option R:=
 (Bp b.1).bind fun r1=>bif !r1 then c [] a else zd b.1 2 ((getM b.1.toNat a.2.1).bind fun m2=>(Bm m2 b.2.1).bind fun r3=>d [] r3.2.1 r3.1 ((List.length r3.1):Int) 0 (a.1,(fG b.1.toNat (some r3.2.2) a.2.1,a.2.2)) b)
def Dv{R:Type}(a:ct)(b:Bool)(c:(List ByteArray))(d e:Int)(f:(av×(Option al×Option al)×Int))(g:bd)(h:ct->Bool->(List ByteArray)->Int->Int->(av×(Option al×Option al)×Int)->bd->Option R)(i:ct->Bool->(av×(Option al×Option al)×Int)->bd->Option R):Option R:=
 bif e<d then zd e (List.length c) ((Fl f g.1 (List.getD c e.toNat (bs []))).bind fun r4=>bif(List.length a+List.length ([r4.1]:List lJ))*40<=140737488355328 then h (a++([r4.1]:List lJ)) b c d (zW zI (e+1)) r4.2 g else none) else i a b f g
def Qn{R:Type}(a:ct)(b:Bool)(c:(av×(Option al×Option al)×Int))(d:bd)(e:ct->(av×(Option al×Option al)×Int)->Option R):Option R:=
 bif b then bif(List.length a+List.length ([(d.1,(4:Int),bs [],c.2.2,())]:List lJ))*40<=140737488355328 then e (a++([(d.1,4,bs [],c.2.2,())]:List lJ)) c else none else e a c
def Gu:Nat->ct->Bool->(List ByteArray)->Int->Int->(av×(Option al×Option al)×Int)->bd->Option (ct×Bool×(av×(Option al×Option al)×Int)×bd)
 |0,_,_,_,_,_,_,_=>none
 |k+1,v0,v1,v2,v3,v4,v5,v6=>Dv v0 v1 v2 v3 v4 v5 v6 (fun a0 a1 a2 a3 a4 a5 a6=>Gu k a0 a1 a2 a3 a4 a5 a6) (fun a0 a1 a2 a3=>some (a0,a1,a2,a3))
def Fk(a:(av×(Option al×Option al)×Int))(b:bd):Option (ct×(av×(Option al×Option al)×Int)):=
 WW a b (fun a0 a1=>some (a0,a1)) (fun a0 a1 a2 a3 a4 a5 a6=>(Gu ag a0 a1 a2 a3 a4 a5 a6).bind fun e=>Qn e.1 e.2.1 e.2.2.1 e.2.2.2 (fun a0 a1=>some (a0,a1)))
def WY{R:Type}(a:(av×(Option al×Option al)×Int))(b:ak)(c:ct->ak->Int->Int->(av×(Option al×Option al)×Int)->Option R):Option R:=
 c [] b ((List.length b):Int) 0 a
def Dw{R:Type}(a:ct)(b:ak)(c d:Int)(e:(av×(Option al×Option al)×Int))(f:ct->ak->Int->Int->(av×(Option al×Option al)×Int)->Option R)(g:ct->(av×(Option al×Option al)×Int)->Option R):Option R:=
 bif d<c then zd d (List.length b) ((Fk e (List.getD b d.toNat (0,bs [],()))).bind fun r1=>bif(List.length a+List.length r1.1)*40<=140737488355328 then f (a++r1.1) b c (zW zI (d+1)) r1.2 else none) else g a e
def z154{R:Type}(a:ct)(b:(av×(Option al×Option al)×Int))(c:ct->(av×(Option al×Option al)×Int)->Option R):Option R:=
 c a b
def Qo:Nat->ct->ak->Int->Int->(av×(Option al×Option al)×Int)->Option (ct×(av×(Option al×Option al)×Int))
 |0,_,_,_,_,_=>none
 |k+1,v0,v1,v2,v3,v4=>Dw v0 v1 v2 v3 v4 (fun a0 a1 a2 a3 a4=>Qo k a0 a1 a2 a3 a4) (fun a0 a1=>some (a0,a1))
def vP(a:(av×(Option al×Option al)×Int))(b:ak):Option (ct×(av×(Option al×Option al)×Int)):=
 WY a b (fun a0 a1 a2 a3 a4=>(Qo ag a0 a1 a2 a3 a4).bind fun e=>z154 e.1 e.2 (fun a0 a1=>some (a0,a1)))
def Du{R:Type}(a:(av×(Option al×Option al)×Int))(b:Int->(av×(Option al×Option al)×Int)->Option R):Option R:=
 b a.2.2 a
def QR(a:(av×(Option al×Option al)×Int)):Option (Int×(av×(Option al×Option al)×Int)):=
 Du a (fun a0 a1=>some (a0,a1))
def Dt{R:Type}(a:(av×(Option al×Option al)×Int))(b:Int)(c:Bool->(av×(Option al×Option al)×Int)->Option R):Option R:=
 (Bp b).bind fun r1=>bif r1 then zd b 2 ((getM b.toNat a.2.1).bind fun m2=>(XZ m2).bind fun r3=>c r3.1 (a.1,(fG b.toNat (some r3.2) a.2.1,a.2.2))) else c false a
def Fj(a:(av×(Option al×Option al)×Int))(b:Int):Option (Bool×(av×(Option al×Option al)×Int)):=
 Dt a b (fun a0 a1=>some (a0,a1))
def z152{R:Type}(a:(av×(Option al×Option al)×Int))(b:Int)(c:Int->(av×(Option al×Option al)×Int)->Option R):Option R:=
 (Bp b).bind fun r1=>bif !r1 then c 0 a else zd b 2 ((getM b.toNat a.2.1).bind fun m2=>(X2 m2).bind fun r3=>c r3.1 (a.1,(fG b.toNat (some r3.2) a.2.1,a.2.2)))
def QS(a:(av×(Option al×Option al)×Int))(b:Int):Option (Int×(av×(Option al×Option al)×Int)):=
 z152 a b (fun a0 a1=>some (a0,a1))
def DY{R:Type}(a:(List Int)->Option R):Option R:=
 a ([2,3,4,7,11,12,14,23,32,35,37,38,41,42,49,52,55,64,70,102,128]:List Int)
def X6:Option (List Int):=
 DY (fun a0=>some a0)
def z162{R:Type}(a:wQ->Option R):Option R:=
 a ([([2,1,2,12,19,1,2,12,19]:List Int),([3,1,1,6,6,1,1,6,6]:List Int),([4,1,1,12,12,1,1,12,12]:List Int),([7,1,1,10,10,1,1,10,10]:List Int),([11,1,1,6,6,1,1,6,6]:List Int),([12,1,1,6,6,1,1,12,12]:List Int),([13,1,1,4,4,0,0,0,0]:List Int),([14,1,1,4,4,1,1,4,4]:List Int),([18,1,1,4,4,0,0,0,0]:List Int),([22,1,1,3,3,3,1,12,12]:List Int),([23,1,1,3,3,1,1,3,3]:List Int),([26,0,0,0,0,1,1,4,4]:List Int),([32,1,2,1,11,1,2,1,11]:List Int),([35,4,2,1,37,4,2,1,37]:List Int),([37,3,1,12,12,3,1,12,12]:List Int),([38,3,1,6,6,3,1,6,6]:List Int),([39,3,1,2,2,1,1,3,3]:List Int),([41,4,1,8,8,4,1,8,8]:List Int),([42,4,1,15,15,4,1,15,15]:List Int),([43,4,1,40,40,4,2,1,99]:List Int),([48,4,3,1,999,4,3,1,999]:List Int),([49,1,1,3,3,1,1,3,3]:List Int),([52,5,1,8,8,5,1,8,8]:List Int),([55,6,3,1,255,6,3,1,255]:List Int),([64,5,1,8,8,5,1,8,8]:List Int),([70,1,1,3,3,1,1,3,3]:List Int),([90,1,1,42,42,0,0,0,0]:List Int),([102,4,2,1,28,4,2,1,28]:List Int),([128,5,1,8,8,5,1,8,8]:List Int)]:List (List Int))
def X7:Option wQ:=
 z162 (fun a0=>some a0)
def DZ{R:Type}(a:Int)(b:Int->wQ->Int->af->af->Option R):Option R:=
 X7.bind fun r1=>b a r1 0 (0,0,[],()) (zW zI (a+1),a,[],())
def z160{R:Type}(a:Int)(b:wQ)(c:Int)(d e:af)(f:Int->wQ->Int->af->af->Option R)(g:af->af->Option R):Option R:=
 bif c<((List.length b):Int) then zd c (List.length b) (bif 0<=zW zI (5+zW zI (4*a)) then bif zW zI (5+zW zI (4*a))<=(((List.length (List.getD b c.toNat ([]:List Int))):Nat):Int) then bif 0<=zW zI (1+zW zI (4*a)) then bif zW zI (1+zW zI (4*a))<=(((zW zI (5+zW zI (4*a))).toNat:Nat):Int) then zd 0 (List.length (List.drop (zW zI ((1:Int)+zW zI ((4:Int)*a))).toNat (List.take (zW zI ((5:Int)+zW zI ((4:Int)*a))).toNat (List.getD b c.toNat ([]:List Int))))) (bif 0<List.getD (List.drop (zW zI (1+zW zI (4*a))).toNat (List.take (zW zI (5+zW zI (4*a))).toNat (List.getD b c.toNat []))) ((0:Int)).toNat 0 then zd c (List.length b) (zd 0 (List.length (List.getD b c.toNat ([]:List Int))) (zd 0 (List.length (List.drop (zW zI ((1:Int)+zW zI ((4:Int)*a))).toNat (List.take (zW zI ((5:Int)+zW zI ((4:Int)*a))).toNat (List.getD b c.toNat ([]:List Int))))) (zd 1 (List.length (List.drop (zW zI ((1:Int)+zW zI ((4:Int)*a))).toNat (List.take (zW zI ((5:Int)+zW zI ((4:Int)*a))).toNat (List.getD b c.toNat ([]:List Int))))) (zd 2 (List.length (List.drop (zW zI ((1:Int)+zW zI ((4:Int)*a))).toNat (List.take (zW zI ((5:Int)+zW zI ((4:Int)*a))).toNat (List.getD b c.toNat ([]:List Int))))) (zd 3 (List.length (List.drop (zW zI ((1:Int)+zW zI ((4:Int)*a))).toNat (List.take (zW zI ((5:Int)+zW zI ((4:Int)*a))).toNat (List.getD b c.toNat ([]:List Int))))) (bif(List.length e.2.2.1+List.length ([(List.getD (List.getD b c.toNat ([]:List Int)) ((0:Int)).toNat (0:Int),List.getD (List.drop (zW zI ((1:Int)+zW zI ((4:Int)*a))).toNat (List.take (zW zI ((5:Int)+zW zI ((4:Int)*a))).toNat (List.getD b c.toNat ([]:List Int)))) ((0:Int)).toNat (0:Int),List.getD (List.drop (zW zI ((1:Int)+zW zI ((4:Int)*a))).toNat (List.take (zW zI ((5:Int)+zW zI ((4:Int)*a))).toNat (List.getD b c.toNat ([]:List Int)))) ((1:Int)).toNat (0:Int),List.getD (List.drop (zW zI ((1:Int)+zW zI ((4:Int)*a))).toNat (List.take (zW zI ((5:Int)+zW zI ((4:Int)*a))).toNat (List.getD b c.toNat ([]:List Int)))) ((2:Int)).toNat (0:Int),List.getD (List.drop (zW zI ((1:Int)+zW zI ((4:Int)*a))).toNat (List.take (zW zI ((5:Int)+zW zI ((4:Int)*a))).toNat (List.getD b c.toNat ([]:List Int)))) ((3:Int)).toNat (0:Int),())]:List aR))*40<=140737488355328 then f a b (zW zI (c+1)) d (e.1,e.2.1,e.2.2.1++([(List.getD (List.getD b c.toNat []) ((0:Int)).toNat 0,List.getD (List.drop (zW zI (1+zW zI (4*a))).toNat (List.take (zW zI (5+zW zI (4*a))).toNat (List.getD b c.toNat []))) ((0:Int)).toNat 0,List.getD (List.drop (zW zI (1+zW zI (4*a))).toNat (List.take (zW zI (5+zW zI (4*a))).toNat (List.getD b c.toNat []))) ((1:Int)).toNat 0,List.getD (List.drop (zW zI (1+zW zI (4*a))).toNat (List.take (zW zI (5+zW zI (4*a))).toNat (List.getD b c.toNat []))) ((2:Int)).toNat 0,List.getD (List.drop (zW zI (1+zW zI (4*a))).toNat (List.take (zW zI (5+zW zI (4*a))).toNat (List.getD b c.toNat []))) ((3:Int)).toNat 0,())]:List aR),()) else none)))))) else f a b (zW zI (c+1)) d e) else none else none else none else none) else g d e
def D0{R:Type}(a b:af)(c:af->Option R):Option R:=
 c b
def XG:Nat->Int->wQ->Int->af->af->Option (af×af)
 |0,_,_,_,_,_=>none
 |k+1,v0,v1,v2,v3,v4=>z160 v0 v1 v2 v3 v4 (fun a0 a1 a2 a3 a4=>XG k a0 a1 a2 a3 a4) (fun a0 a1=>some (a0,a1))
def QT(a:Int):Option af:=
 DZ a (fun a0 a1 a2 a3 a4=>(XG ag a0 a1 a2 a3 a4).bind fun e=>D0 e.1 e.2 (fun a0=>some a0))
def Xh{R:Type}(a:Int)(b:Bool->Option R):Option R:=
 bif 48<=a then b (decide (a<=57)) else b false
def HB(a:Int):Option Bool:=
 Xh a (fun a0=>some a0)
def Xf{R:Type}(a:ByteArray)(b:ByteArray->Int->Option R):Option R:=
 b a 0
def Xg{R:Type}(a:ByteArray)(b:Int)(c:Bool->Option R)(d:ByteArray->Int->Option R)(e:Option R):Option R:=
 bif b<(a.size:Int) then zd b a.size ((HB (ze a b.toNat)).bind fun r1=>bif !r1 then c false else d a (zW zI (b+1))) else e
def z159{R:Type}(a:Bool)(b:Bool->Option R):Option R:=
 b a
def Dz{R:Type}(a:Bool->Option R):Option R:=
 a true
def Gx:Nat->ByteArray->Int->Option (Sum Bool Unit)
 |0,_,_=>none
 |k+1,v0,v1=>Xg v0 v1 (fun a0=>some (.inl a0)) (fun a0 a1=>Gx k a0 a1) (some (.inr ()))
def Fm(a:ByteArray):Option Bool:=
 Xf a (fun a0 a1=>(Gx ag a0 a1).bind fun e=>Sum.elim (fun(we:Bool)=>z159 we (fun a0=>some a0)) (fun(we:Unit)=>Dz (fun a0=>some a0)) e)
def Xj{R:Type}(a:ByteArray)(b:Int->Bool->Option R)(c:ByteArray->Int->Int->Option R):Option R:=
 bif(a.size:Int)<1 then b 0 false else bif 18<(a.size:Int) then b 0 false else(Fm a).bind fun r1=>bif !r1 then b 0 false else c a 0 0
def Xk{R:Type}(a:ByteArray)(b c:Int)(d:ByteArray->Int->Int->Option R)(e:Int->Option R):Option R:=
 bif c<(a.size:Int) then zd c a.size (d a (zW zI (zW zI (zW zI (10*b)+zW zI (ze a c.toNat))-48)) (zW zI (c+1))) else e b
def DA{R:Type}(a:Int)(b:Int->Bool->Option R):Option R:=
 b a true
def Gy:Nat->ByteArray->Int->Int->Option Int
 |0,_,_,_=>none
 |k+1,v0,v1,v2=>Xk v0 v1 v2 (fun a0 a1 a2=>Gy k a0 a1 a2) (fun a0=>some a0)
def HD(a:ByteArray):Option (Int×Bool):=
 Xj a (fun a0 a1=>some (a0,a1)) (fun a0 a1 a2=>(Gy ag a0 a1 a2).bind fun e=>DA e (fun a0 a1=>some (a0,a1)))
def Xt{R:Type}(a:(List Int))(b:Int)(c:(List Int)->Int->Int->Option R):Option R:=
 c a b 0
def Qt{R:Type}(a:(List Int))(b c:Int)(d:Bool->Option R)(e:(List Int)->Int->Int->Option R)(f:Option R):Option R:=
 bif c<((List.length a):Int) then zd c (List.length a) (bif List.getD a c.toNat 0=b then d true else e a b (zW zI (c+1))) else f
def DK{R:Type}(a:Bool)(b:Bool->Option R):Option R:=
 b a
def DL{R:Type}(a:Bool->Option R):Option R:=
 a false
def E8:Nat->(List Int)->Int->Int->Option (Sum Bool Unit)
 |0,_,_,_=>none
 |k+1,v0,v1,v2=>Qt v0 v1 v2 (fun a0=>some (.inl a0)) (fun a0 a1 a2=>E8 k a0 a1 a2) (some (.inr ()))
def HG(a:(List Int))(b:Int):Option Bool:=
 Xt a b (fun a0 a1 a2=>(E8 ag a0 a1 a2).bind fun e=>Sum.elim (fun(we:Bool)=>DK we (fun a0=>some a0)) (fun(we:Unit)=>DL (fun a0=>some a0)) e)
def Xn{R:Type}(a b:Int)(c:Bool->Option R):Option R:=
 bif 48<=b then bif 65<=b then bif b<=90 then bif a=1 then c (decide (b<=57)) else bif a=2 then c true else bif a=3 then bif b<=57 then c true else c true else bif a=4 then bif 32<=b then c (decide (b<=126)) else c false else bif a=5 then c true else c (decide (a=6)) else bif 97<=b then bif a=1 then c (decide (b<=57)) else bif a=2 then c (decide (b<=122)) else bif a=3 then bif b<=57 then c true else c (decide (b<=122)) else bif a=4 then bif 32<=b then c (decide (b<=126)) else c false else bif a=5 then c true else c (decide (a=6)) else bif a=1 then c (decide (b<=57)) else bif a=2 then c false else bif a=3 then bif b<=57 then c true else c false else bif a=4 then bif 32<=b then c (decide (b<=126)) else c false else bif a=5 then c true else c (decide (a=6)) else bif 97<=b then bif a=1 then c (decide (b<=57)) else bif a=2 then c (decide (b<=122)) else bif a=3 then bif b<=57 then c true else c (decide (b<=122)) else bif a=4 then bif 32<=b then c (decide (b<=126)) else c false else bif a=5 then c true else c (decide (a=6)) else bif a=1 then c (decide (b<=57)) else bif a=2 then c false else bif a=3 then bif b<=57 then c true else c false else bif a=4 then bif 32<=b then c (decide (b<=126)) else c false else bif a=5 then c true else c (decide (a=6)) else bif 65<=b then bif b<=90 then bif a=1 then c false else bif a=2 then c true else bif a=3 then c true else bif a=4 then bif 32<=b then c (decide (b<=126)) else c false else bif a=5 then c true else c (decide (a=6)) else bif 97<=b then bif a=1 then c false else bif a=2 then c (decide (b<=122)) else bif a=3 then c (decide (b<=122)) else bif a=4 then bif 32<=b then c (decide (b<=126)) else c false else bif a=5 then c true else c (decide (a=6)) else bif a=1 then c false else bif a=2 then c false else bif a=3 then c false else bif a=4 then bif 32<=b then c (decide (b<=126)) else c false else bif a=5 then c true else c (decide (a=6)) else bif 97<=b then bif a=1 then c false else bif a=2 then c (decide (b<=122)) else bif a=3 then c (decide (b<=122)) else bif a=4 then bif 32<=b then c (decide (b<=126)) else c false else bif a=5 then c true else c (decide (a=6)) else bif a=1 then c false else bif a=2 then c false else bif a=3 then c false else bif a=4 then bif 32<=b then c (decide (b<=126)) else c false else bif a=5 then c true else c (decide (a=6))
def ym(a b:Int):Option Bool:=
 Xn a b (fun a0=>some a0)
def Xm{R:Type}(a:Int)(b:ByteArray)(c:Int->ByteArray->Int->Option R):Option R:=
 c a b 0
def Qs{R:Type}(a:Int)(b:ByteArray)(c:Int)(d:Int->Option R)(e:Int->ByteArray->Int->Option R)(f:Option R):Option R:=
 bif c<(b.size:Int) then zd c b.size ((ym a (ze b c.toNat)).bind fun r1=>bif !r1 then d c else e a b (zW zI (c+1))) else f
def DC{R:Type}(a:Int)(b:Int->Option R):Option R:=
 b a
def DE{R:Type}(a:Int->Option R):Option R:=
 a (-1:Int)
def z93:Nat->Int->ByteArray->Int->Option (Sum Int Unit)
 |0,_,_,_=>none
 |k+1,v0,v1,v2=>Qs v0 v1 v2 (fun a0=>some (.inl a0)) (fun a0 a1 a2=>z93 k a0 a1 a2) (some (.inr ()))
def HE(a:Int)(b:ByteArray):Option Int:=
 Xm a b (fun a0 a1 a2=>(z93 ag a0 a1 a2).bind fun e=>Sum.elim (fun(we:Int)=>DC we (fun a0=>some a0)) (fun(we:Unit)=>DE (fun a0=>some a0)) e)
def Xq{R:Type}(a b:Int)(c:Bool->Option R)(d:Int->Int->Int->Option R):Option R:=
 bif a<1 then c false else bif 6<a then c false else bif b<1 then c false else bif 6<b then c false else d a b 0
def DG{R:Type}(a b c:Int)(d:Bool->Option R)(e:Int->Int->Int->Option R)(f:Option R):Option R:=
 bif c<256 then(ym b (zW zU c)).bind fun r1=>bif r1 then(ym a (zW zU c)).bind fun r2=>bif !r2 then d false else e a b (zW zI (c+1)) else e a b (zW zI (c+1)) else f
def DH{R:Type}(a:Bool)(b:Bool->Option R):Option R:=
 b a
def DI{R:Type}(a:Bool->Option R):Option R:=
 a true
def Xp:Nat->Int->Int->Int->Option (Sum Bool Unit)
 |0,_,_,_=>none
 |k+1,v0,v1,v2=>DG v0 v1 v2 (fun a0=>some (.inl a0)) (fun a0 a1 a2=>Xp k a0 a1 a2) (some (.inr ()))
def Fo(a b:Int):Option Bool:=
 Xq a b (fun a0=>some a0) (fun a0 a1 a2=>(Xp ag a0 a1 a2).bind fun e=>Sum.elim (fun(we:Bool)=>DH we (fun a0=>some a0)) (fun(we:Unit)=>DI (fun a0=>some a0)) e)
def DM{R:Type}(a:Int)(b:Int->Option R):Option R:=
 bif a=0 then b 0 else bif Int.tmod (zW zU (Int.tdiv a 32)) 2=1 then b 0 else bif Int.tmod a 32=31 then b 2 else b 1
def yp(a:Int):Option Int:=
 DM a (fun a0=>some a0)
def Qu{R:Type}(a:ByteArray)(b:Int)(c:Int->Int->Int->Option R):Option R:=
 bif b<0 then c 0 0 1 else bif(a.size:Int)<b then c 0 0 1 else bif b=(a.size:Int) then c 0 0 2 else zd b a.size ((yp (ze a b.toNat)).bind fun r1=>bif r1=0 then c 0 0 13 else bif r1=1 then zd b a.size (c (zW zI (ze a b.toNat)) (zW zI (b+1)) 0) else bif zW zI ((a.size:Int)-b)<2 then c 0 0 2 else zd (zW zI (b+1)) a.size (bif ze a (zW zI (b+(1:Int))).toNat=0 then c 0 0 13 else zd (zW zI (b+1)) a.size (bif 127<ze a (zW zI (b+(1:Int))).toNat then c 0 0 13 else zd b a.size (zd (zW zI (b+1)) a.size (c (zW zI (zW zI (256*zW zI (ze a b.toNat))+zW zI (ze a (zW zI (b+(1:Int))).toNat))) (zW zI (b+2)) 0)))))
def yq(a:ByteArray)(b:Int):Option jl:=
 Qu a b (fun a0 a1 a2=>some (a0,a1,a2))
def Qv{R:Type}(a:ByteArray)(b:Int)(c:Int->Int->Int->Option R):Option R:=
 bif b<0 then c 0 0 1 else bif(a.size:Int)<b then c 0 0 1 else bif b=(a.size:Int) then c 0 0 2 else zd b a.size (bif zW zI (ze a b.toNat)<128 then c (zW zI (ze a b.toNat)) (zW zI (b+1)) 0 else bif !decide (zW zI (ze a b.toNat)=129) then bif !decide (zW zI (ze a b.toNat)=130) then c 0 0 14 else bif zW zI ((a.size:Int)-b)<zW zI (zW zI (ze a b.toNat)-127) then c 0 0 2 else bif zW zI (ze a b.toNat)=129 then zd (zW zI (b+1)) a.size (bif ze a (zW zI (b+(1:Int))).toNat<128 then c 0 0 14 else zd (zW zI (b+1)) a.size (c (zW zI (ze a (zW zI (b+(1:Int))).toNat)) (zW zI (b+2)) 0)) else zd (zW zI (b+1)) a.size (bif ze a (zW zI (b+(1:Int))).toNat=0 then c 0 0 14 else zd (zW zI (b+1)) a.size (zd (zW zI (b+2)) a.size (c (zW zI (zW zI (256*zW zI (ze a (zW zI (b+(1:Int))).toNat))+zW zI (ze a (zW zI (b+(2:Int))).toNat))) (zW zI (b+3)) 0))) else bif zW zI ((a.size:Int)-b)<zW zI (zW zI (ze a b.toNat)-127) then c 0 0 2 else bif zW zI (ze a b.toNat)=129 then zd (zW zI (b+1)) a.size (bif ze a (zW zI (b+(1:Int))).toNat<128 then c 0 0 14 else zd (zW zI (b+1)) a.size (c (zW zI (ze a (zW zI (b+(1:Int))).toNat)) (zW zI (b+2)) 0)) else zd (zW zI (b+1)) a.size (bif ze a (zW zI (b+(1:Int))).toNat=0 then c 0 0 14 else zd (zW zI (b+1)) a.size (zd (zW zI (b+2)) a.size (c (zW zI (zW zI (256*zW zI (ze a (zW zI (b+(1:Int))).toNat))+zW zI (ze a (zW zI (b+(2:Int))).toNat))) (zW zI (b+3)) 0))))
def yr(a:ByteArray)(b:Int):Option jl:=
 Qv a b (fun a0 a1 a2=>some (a0,a1,a2))
def Xw{R:Type}(a:ak)(b c:Int)(d:ak->Int->Int->Int->Option R):Option R:=
 d a b c 0
def Qy{R:Type}(a:ak)(b c d:Int)(e:Bool->Option R)(f:ak->Int->Int->Int->Option R)(g:Option R):Option R:=
 bif d<b then zd d (List.length a) (bif(List.getD a d.toNat (0,bs [],())).1=c then e true else f a b c (zW zI (d+1))) else g
def DR{R:Type}(a:Bool)(b:Bool->Option R):Option R:=
 b a
def DS{R:Type}(a:Bool->Option R):Option R:=
 a false
def E9:Nat->ak->Int->Int->Int->Option (Sum Bool Unit)
 |0,_,_,_,_=>none
 |k+1,v0,v1,v2,v3=>Qy v0 v1 v2 v3 (fun a0=>some (.inl a0)) (fun a0 a1 a2 a3=>E9 k a0 a1 a2 a3) (some (.inr ()))
def HL(a:ak)(b c:Int):Option Bool:=
 Xw a b c (fun a0 a1 a2 a3=>(E9 ag a0 a1 a2 a3).bind fun e=>Sum.elim (fun(we:Bool)=>DR we (fun a0=>some a0)) (fun(we:Unit)=>DS (fun a0=>some a0)) e)
def Qw{R:Type}(a:ByteArray)(b:ByteArray->ak->Int->Option R):Option R:=
 b a [] 0
def Qx{R:Type}(a:ByteArray)(b:ak)(c:Int)(d:ak->Int->Int->ak->Option R)(e:ByteArray->ak->Int->Option R)(f:ak->Option R):Option R:=
 bif c<(a.size:Int) then(yq a c).bind fun r1=>bif !decide (r1.2.2=0) then d [] r1.2.2 c b else(yr a r1.2.1).bind fun r2=>bif !decide (r2.2.2=0) then d [] r2.2.2 r1.2.1 b else bif zW zI ((a.size:Int)-r2.2.1)<r2.1 then d [] 2 (a.size:Int) b else(HL b ((List.length b):Int) r1.1).bind fun r3=>bif r3 then d [] 10 c b else bif 0<=zW zI (r2.2.1+r2.1) then bif zW zI (r2.2.1+r2.1)<=(a.size:Int) then bif 0<=r2.2.1 then bif r2.2.1<=(((zW zI (r2.2.1+r2.1)).toNat:Nat):Int) then bif(List.length b+List.length ([(r1.1,a.extract r2.2.1.toNat (zW zI (r2.2.1+r2.1)).toNat,())]:List bd))*24<=140737488355328 then e a (b++([(r1.1,a.extract r2.2.1.toNat (zW zI (r2.2.1+r2.1)).toNat,())]:List bd)) (zW zI (r2.2.1+r2.1)) else none else none else none else none else none else f b
def DO{R:Type}(a:ak)(b c:Int)(d:ak)(e:ak->Int->Int->Option R):Option R:=
 e a b c
def DP{R:Type}(a:ak)(b:ak->Int->Int->Option R):Option R:=
 b a 0 0
def Ba:Nat->ByteArray->ak->Int->Option (Sum qL ak)
 |0,_,_,_=>none
 |k+1,v0,v1,v2=>Qx v0 v1 v2 (fun a0 a1 a2 a3=>some (.inl (a0,a1,a2,a3))) (fun a0 a1 a2=>Ba k a0 a1 a2) (fun a0=>some (.inr a0))
def yt(a:ByteArray):Option (Sum jm jm):=
 Qw a (fun a0 a1 a2=>(Ba ag a0 a1 a2).bind fun e=>Sum.elim (fun(we:qL)=>DO we.1 we.2.1 we.2.2.1 we.2.2.2 (fun a0 a1 a2=>some (.inl (a0,a1,a2)))) (fun(we:ak)=>DP we (fun a0 a1 a2=>some (.inr (a0,a1,a2)))) e)
def Xx{R:Type}(a:aR)(b:Int->Option R):Option R:=
 bif a.1<2 then b 1 else bif 128<a.1 then b 1 else bif a.2.1<1 then b 6 else bif 6<a.2.1 then b 6 else bif a.2.2.1<1 then b 3 else bif 3<a.2.2.1 then b 3 else bif a.2.2.1=2 then bif a.2.2.2.1<1 then b 5 else bif a.2.2.2.2.1<a.2.2.2.1 then b 5 else bif 99<a.2.2.2.2.1 then b 5 else bif a.2.2.1=1 then bif !decide (a.2.2.2.1=a.2.2.2.2.1) then b 5 else bif a.2.2.1=1 then bif a.2.1=6 then b 13 else b 0 else b 0 else bif a.2.2.1=1 then bif a.2.1=6 then b 13 else b 0 else b 0 else bif a.2.2.2.1<1 then b 5 else bif a.2.2.2.2.1<a.2.2.2.1 then b 5 else bif 999<a.2.2.2.2.1 then b 5 else bif a.2.2.1=1 then bif !decide (a.2.2.2.1=a.2.2.2.2.1) then b 5 else bif a.2.2.1=1 then bif a.2.1=6 then b 13 else b 0 else b 0 else bif a.2.2.1=1 then bif a.2.1=6 then b 13 else b 0 else b 0
def yu(a:aR):Option Int:=
 Xx a (fun a0=>some a0)
def Gz{R:Type}(a:aR)(b:ByteArray)(c:Int->Option R):Option R:=
 (yu a).bind fun r1=>bif !decide (r1=0) then c 1 else bif(b.size:Int)<a.2.2.2.1 then c 5 else bif a.2.2.2.2.1<(b.size:Int) then c 5 else(HE a.2.1 b).bind fun r2=>bif 0<=r2 then c 6 else bif a.2.1=6 then(yt b).bind fun r3=>Sum.elim (fun(mg:jm)=>bif !decide (mg.2.1=0) then c 13 else c 0) (fun(mg:jm)=>bif !decide (mg.2.1=0) then c 13 else c 0) r3 else c 0
def mJ(a:aR)(b:ByteArray):Option Int:=
 Gz a b (fun a0=>some a0)
def GC{R:Type}(a b:aR)(c:Bool->Option R):Option R:=
 (yu a).bind fun r1=>bif !decide (r1=0) then c false else(yu b).bind fun r2=>bif !decide (r2=0) then c false else bif b.2.2.2.1<a.2.2.2.1 then c false else bif a.2.2.2.2.1<b.2.2.2.2.1 then c false else bif a.2.1=5 then c true else bif a.2.1=6 then c (decide (a.2.1=b.2.1)) else bif b.2.1=6 then c (decide (a.2.1=b.2.1)) else(Fo a.2.1 b.2.1).bind fun r3=>c r3
def uZ(a b:aR):Option Bool:=
 GC a b (fun a0=>some a0)
def XB{R:Type}(a:af)(b:af->Option R):Option R:=
 bif(List.length ([]:List aR)+List.length a.2.2.1)*40<=140737488355328 then b (a.1,a.2.1,[]++a.2.2.1,()) else none
def HR(a:af):Option af:=
 XB a (fun a0=>some a0)
def GD{R:Type}(a:af)(b:Int->Int->Option R)(c:Int->Int->af->Option R):Option R:=
 bif !decide (a.1=1) then bif !decide (a.1=2) then b 1 (-1:Int) else bif a.2.1<0 then b 7 (-1:Int) else bif 9<a.2.1 then b 7 (-1:Int) else c 0 0 a else bif a.2.1<0 then b 7 (-1:Int) else bif 9<a.2.1 then b 7 (-1:Int) else c 0 0 a
theorem abU{R S:Type}(F:R->Option S)(a)(b)(c):(GD a b c).bind F=GD a (fun a0 a1=>(b a0 a1).bind F) (fun a0 a1 a2=>(c a0 a1 a2).bind F):=by
 simp only[GD,aE]
def Qz{R:Type}(a b:Int)(c:af)(d:Int->Int->Option R)(e:Int->Int->af->Option R)(f:Option R):Option R:=
 bif b<((List.length c.2.2.1):Int) then zd b (List.length c.2.2.1) ((yu (List.getD c.2.2.1 b.toNat (0,0,0,0,0,()))).bind fun r1=>bif !decide (r1=0) then d r1 b else zd b (List.length c.2.2.1) (bif(List.getD c.2.2.1 b.toNat (0,0,0,0,0,())).1<=a then d 11 b else zd b (List.length c.2.2.1) (e (List.getD c.2.2.1 b.toNat (0,0,0,0,0,())).1 (zW zI (b+1)) c))) else f
def Xz{R:Type}(a b:Int)(c:Int->Int->Option R):Option R:=
 c a b
def XA{R:Type}(a:Int->Int->Option R):Option R:=
 a 0 0
def xY:Nat->Int->Int->af->Option (Sum (Int×Int) Unit)
 |0,_,_,_=>none
 |k+1,v0,v1,v2=>Qz v0 v1 v2 (fun a0 a1=>some (.inl (a0,a1))) (fun a0 a1 a2=>xY k a0 a1 a2) (some (.inr ()))
def HQ(a:af):Option (Int×Int):=
 GD a (fun a0 a1=>some (a0,a1)) (fun a0 a1 a2=>(xY ag a0 a1 a2).bind fun e=>Sum.elim (fun(we:(Int×Int))=>Xz we.1 we.2 (fun a0 a1=>some (a0,a1))) (fun(we:Unit)=>XA (fun a0 a1=>some (a0,a1))) e)
def XE{R:Type}(a:af)(b:Bool->Option R):Option R:=
 (HQ a).bind fun r1=>b (decide (r1.1=0))
def Bq(a:af):Option Bool:=
 XE a (fun a0=>some a0)
def XD{R:Type}(a:af)(b:Int)(c:Int->Int->af->Option R):Option R:=
 c b 0 a
def DV{R:Type}(a b:Int)(c:af)(d:Int->Option R)(e:Int->Int->af->Option R)(f:Option R):Option R:=
 bif b<((List.length c.2.2.1):Int) then zd b (List.length c.2.2.1) (bif(List.getD c.2.2.1 b.toNat (0,0,0,0,0,())).1=a then d b else e a (zW zI (b+1)) c) else f
def DW{R:Type}(a:Int)(b:Int->Option R):Option R:=
 b a
def DX{R:Type}(a:Int->Option R):Option R:=
 a (-1:Int)
def QA:Nat->Int->Int->af->Option (Sum Int Unit)
 |0,_,_,_=>none
 |k+1,v0,v1,v2=>DV v0 v1 v2 (fun a0=>some (.inl a0)) (fun a0 a1 a2=>QA k a0 a1 a2) (some (.inr ()))
def yx(a:af)(b:Int):Option Int:=
 XD a b (fun a0 a1 a2=>(QA ag a0 a1 a2).bind fun e=>Sum.elim (fun(we:Int)=>DW we (fun a0=>some a0)) (fun(we:Unit)=>DX (fun a0=>some a0)) e)
def SB{R:Type}(a:ByteArray)(b:Bool->Option R):Option R:=
 bif(a.size:Int)=4 then(Fm a).bind fun r1=>b r1 else b false
def sm(a:ByteArray):Option Bool:=
 SB a (fun a0=>some a0)
def XH{R:Type}(a:ByteArray)(b:Bool->Option R):Option R:=
 (HD a).bind fun r1=>bif r1.2 then bif(a.size:Int)=4 then bif Int.tmod (zW zI (Int.tdiv r1.1 10)) 10=0 then b true else b (decide (Int.tmod (zW zI (Int.tdiv r1.1 10)) 10=2)) else b false else b false
def Fp(a:ByteArray):Option Bool:=
 XH a (fun a0=>some a0)
def zw4{R:Type}(a:aN)(b:aN->aN->Int->Option R):Option R:=
 b a [] 0
def zw5{R:Type}(a b:aN)(c:Int)(d:aN->aN->Int->Option R)(e:aN->Option R):Option R:=
 bif c<((List.length a):Int) then zd c (List.length a) (zd c (List.length a) (bif(List.length b+List.length ([((List.getD a c.toNat (bs [],bs [],())).2.1,(List.getD a c.toNat (bs [],bs [],())).1,())]:List dA))*32<=140737488355328 then d a (b++([((List.getD a c.toNat (bs [],bs [],())).2.1,(List.getD a c.toNat (bs [],bs [],())).1,())]:List dA)) (zW zI (c+1)) else none)) else e b
def zw6{R:Type}(a:aN)(b:aN->Option R):Option R:=
 b a
def SH:Nat->aN->aN->Int->Option aN
 |0,_,_,_=>none
 |k+1,v0,v1,v2=>zw5 v0 v1 v2 (fun a0 a1 a2=>SH k a0 a1 a2) (fun a0=>some a0)
def ss(a:aN):Option aN:=
 zw4 a (fun a0 a1 a2=>(SH ag a0 a1 a2).bind fun e=>zw6 e (fun a0=>some a0))
def SF{R:Type}(a:aN)(b:aN->Option R):Option R:=
 bif(List.length ([]:List dA)+List.length a)*32<=140737488355328 then b ([]++a) else none
def qx(a:aN):Option aN:=
 SF a (fun a0=>some a0)
def SJ{R:Type}(a:aN)(b:Int)(c:ByteArray)(d:aN->Int->ByteArray->Int->Option R):Option R:=
 d a b c 0
def Ph{R:Type}(a:aN)(b:Int)(c:ByteArray)(d:Int)(e:Int->Option R)(f:aN->Int->ByteArray->Int->Option R)(g:Option R):Option R:=
 bif d<b then zd d (List.length a) (bif(List.getD a d.toNat (bs [],bs [],())).1=c then e d else f a b c (zW zI (d+1))) else g
def zw8{R:Type}(a:Int)(b:Int->Option R):Option R:=
 b a
def zw9{R:Type}(a:Int->Option R):Option R:=
 a (-1:Int)
def Ey:Nat->aN->Int->ByteArray->Int->Option (Sum Int Unit)
 |0,_,_,_,_=>none
 |k+1,v0,v1,v2,v3=>Ph v0 v1 v2 v3 (fun a0=>some (.inl a0)) (fun a0 a1 a2 a3=>Ey k a0 a1 a2 a3) (some (.inr ()))
def qy(a:aN)(b:Int)(c:ByteArray):Option Int:=
 SJ a b c (fun a0 a1 a2 a3=>(Ey ag a0 a1 a2 a3).bind fun e=>Sum.elim (fun(we:Int)=>zw8 we (fun a0=>some a0)) (fun(we:Unit)=>zw9 (fun a0=>some a0)) e)
def SC{R:Type}(a:aN)(b:ByteArray)(c:ByteArray->Bool->Option R):Option R:=
 (qy a ((List.length a):Int) b).bind fun r1=>bif r1<0 then c (bs []) false else zd r1 (List.length a) (c (List.getD a r1.toNat (bs [],bs [],())).2.1 true)
def sn(a:aN)(b:ByteArray):Option jy:=
 SC a b (fun a0 a1=>some (a0,a1))
def SE{R:Type}(a:aN)(b:Int->Int->Option R)(c:aN->Int->Option R):Option R:=
 bif 256<((List.length a):Int) then b 5 256 else c a 0
def Pg{R:Type}(a:aN)(b:Int)(c:Int->Int->Option R)(d:aN->Int->Option R)(e:Option R):Option R:=
 bif b<((List.length a):Int) then zd b (List.length a) ((qy a b (List.getD a b.toNat (bs [],bs [],())).1).bind fun r1=>bif 0<=r1 then c 10 b else d a (zW zI (b+1))) else e
def zw2{R:Type}(a b:Int)(c:Int->Int->Option R):Option R:=
 c a b
def zw3{R:Type}(a:Int->Int->Option R):Option R:=
 a 0 0
def Ew:Nat->aN->Int->Option (Sum (Int×Int) Unit)
 |0,_,_=>none
 |k+1,v0,v1=>Pg v0 v1 (fun a0 a1=>some (.inl (a0,a1))) (fun a0 a1=>Ew k a0 a1) (some (.inr ()))
def sr(a:aN):Option (Int×Int):=
 SE a (fun a0 a1=>some (a0,a1)) (fun a0 a1=>(Ew ag a0 a1).bind fun e=>Sum.elim (fun(we:(Int×Int))=>zw2 we.1 we.2 (fun a0 a1=>some (a0,a1))) (fun(we:Unit)=>zw3 (fun a0 a1=>some (a0,a1))) e)
def SQ{R:Type}(a:aF)(b:Bool->Option R)(c:Int->aF->Option R):Option R:=
 bif 1200<(a.2.2.2.1.size:Int) then b true else bif 300<((List.length a.2.2.2.2.1):Int) then b true else c 0 a
def Pm{R:Type}(a:Int)(b:aF)(c:Bool->Option R)(d:Int->aF->Option R)(e:Option R):Option R:=
 bif a<((List.length b.2.2.2.2.1):Int) then zd a (List.length b.2.2.2.2.1) (bif 1200<(((List.getD b.2.2.2.2.1 a.toNat (bs [],bs [],())).1).size:Int) then c true else zd a (List.length b.2.2.2.2.1) (bif 1200<(((List.getD b.2.2.2.2.1 a.toNat (bs [],bs [],())).2.1).size:Int) then c true else d (zW zI (a+1)) b)) else e
def zwl{R:Type}(a:Bool)(b:Bool->Option R):Option R:=
 b a
def zwm{R:Type}(a:Bool->Option R):Option R:=
 a false
def xS:Nat->Int->aF->Option (Sum Bool Unit)
 |0,_,_=>none
 |k+1,v0,v1=>Pm v0 v1 (fun a0=>some (.inl a0)) (fun a0 a1=>xS k a0 a1) (some (.inr ()))
def nP(a:aF):Option Bool:=
 SQ a (fun a0=>some a0) (fun a0 a1=>(xS ag a0 a1).bind fun e=>Sum.elim (fun(we:Bool)=>zwl we (fun a0=>some a0)) (fun(we:Unit)=>zwm (fun a0=>some a0)) e)
def SO{R:Type}(a:aF)(b:aF->Option R):Option R:=
 (qx a.2.2.2.2.1).bind fun r1=>b (a.1,a.2.1,a.2.2.1,a.2.2.2.1,r1,())
def nO(a:aF):Option aF:=
 SO a (fun a0=>some a0)
def F7{R:Type}(a:aF)(b c:af)(d:Bool->aF->af->af->Option R):Option R:=
 bif a.1<1 then d true a b c else d (decide (5<a.1)) a b c
theorem abn{R S:Type}(F:R->Option S)(a)(b)(c)(d):(F7 a b c d).bind F=F7 a b c (fun a0 a1 a2 a3=>(d a0 a1 a2 a3).bind F):=by
 simp only[F7,aE]
def zwf{R:Type}(a:Bool)(b:aF)(c d:af)(e:Int->Option R)(f:aF->af->af->Option R):Option R:=
 bif a then e 1 else f b c d
def F8{R:Type}(a:aF)(b c:af)(d:Int->Int->Bool->aF->af->af->Option R):Option R:=
 (yx b a.2.1).bind fun r1=>(yx c a.2.2.1).bind fun r2=>bif a.1=3 then bif !decide (a.2.1=0) then d r1 r2 true a b c else bif !decide (a.1=3) then d r1 r2 (decide (r1<0)) a b c else d r1 r2 false a b c else bif !decide (a.1=3) then d r1 r2 (decide (r1<0)) a b c else d r1 r2 false a b c
theorem abo{R S:Type}(F:R->Option S)(a)(b)(c)(d):(F8 a b c d).bind F=F8 a b c (fun a0 a1 a2 a3 a4 a5=>(d a0 a1 a2 a3 a4 a5).bind F):=by
 simp only[F8,aE]
def zwg{R:Type}(a b:Int)(c:Bool)(d:aF)(e f:af)(g:Int->Option R)(h:Int->Int->aF->af->af->Option R):Option R:=
 bif c then g 9 else h a b d e f
def F9{R:Type}(a b:Int)(c:aF)(d e:af)(f:Int->Int->Bool->aF->af->af->Option R):Option R:=
 bif c.1=2 then bif !decide (c.2.2.1=0) then f a b true c d e else bif !decide (c.1=2) then f a b (decide (b<0)) c d e else f a b false c d e else bif !decide (c.1=2) then f a b (decide (b<0)) c d e else f a b false c d e
theorem abp{R S:Type}(F:R->Option S)(a)(b)(c)(d)(e)(f):(F9 a b c d e f).bind F=F9 a b c d e (fun a0 a1 a2 a3 a4 a5=>(f a0 a1 a2 a3 a4 a5).bind F):=by
 simp only[F9,aE]
def zwh{R:Type}(a b:Int)(c:Bool)(d:aF)(e f:af)(g:Int->Option R)(h:Int->Int->aF->af->af->Option R):Option R:=
 bif c then g 9 else h a b d e f
def z85{R:Type}(a b:Int)(c:aF)(d e:af)(f:Int->Int->Bool->aF->af->af->Option R):Option R:=
 bif !decide (c.2.2.2.1=bs []) then bif !decide (c.1=3) then f a b true c d e else bif 0<((List.length c.2.2.2.2.1):Int) then f a b (!decide (c.1=5)) c d e else f a b false c d e else bif 0<((List.length c.2.2.2.2.1):Int) then f a b (!decide (c.1=5)) c d e else f a b false c d e
theorem abq{R S:Type}(F:R->Option S)(a)(b)(c)(d)(e)(f):(z85 a b c d e f).bind F=z85 a b c d e (fun a0 a1 a2 a3 a4 a5=>(f a0 a1 a2 a3 a4 a5).bind F):=by
 simp only[z85,aE]
def zwi{R:Type}(a b:Int)(c:Bool)(d:aF)(e f:af)(g:Int->Option R)(h:Int->Int->aF->af->af->Option R):Option R:=
 bif c then g 3 else h a b d e f
def Ga{R:Type}(a b:Int)(c:aF)(d e:af)(f:Int->Option R)(g:Option R)(h:Bool->Option R)(i:Int->Int->Bool->aF->af->af->Option R):Option R:=
 bif c.1=1 then zd b (List.length e.2.2.1) (zd a (List.length d.2.2.1) ((uZ (List.getD e.2.2.1 b.toNat (0,0,0,0,0,())) (List.getD d.2.2.1 a.toNat (0,0,0,0,0,()))).bind fun r3=>bif !r3 then f 6 else g)) else bif c.1=3 then zd b (List.length e.2.2.1) ((mJ (List.getD e.2.2.1 b.toNat (0,0,0,0,0,())) c.2.2.2.1).bind fun r4=>f r4) else bif c.1=4 then zd a (List.length d.2.2.1) (zd b (List.length e.2.2.1) (bif !decide ((List.getD d.2.2.1 a.toNat (0,0,0,0,0,())).2.1=1) then h true else bif !decide ((List.getD d.2.2.1 a.toNat (0,0,0,0,0,())).2.2.1=1) then h true else bif !decide ((List.getD e.2.2.1 b.toNat (0,0,0,0,0,())).2.1=1) then h true else h (!decide ((List.getD e.2.2.1 b.toNat (0,0,0,0,0,())).2.2.1=1)))) else bif c.1=5 then(sr c.2.2.2.2.1).bind fun r5=>bif !decide (r5.1=0) then i a b true c d e else i a b (decide (((List.length c.2.2.2.2.1):Int)=0)) c d e else g
theorem abr{R S:Type}(F:R->Option S)(a)(b)(c)(d)(e)(f)(g)(h)(i):(Ga a b c d e f g h i).bind F=Ga a b c d e (fun a0=>(f a0).bind F) ((g).bind F) (fun a0=>(h a0).bind F) (fun a0 a1 a2 a3 a4 a5=>(i a0 a1 a2 a3 a4 a5).bind F):=by
 simp only[Ga,aE]
def zwj{R:Type}(a:Int->Option R):Option R:=
 a 0
def zop{R:Type}(a:Bool)(b:Int->Option R)(c:Option R):Option R:=
 bif a then b 6 else c
def zoq{R:Type}(a b:Int)(c:Bool)(d:aF)(e f:af)(g:Int->Option R)(h:Int->Int->aF->af->af->Option R):Option R:=
 bif c then g 15 else h a b d e f
def Sn{R:Type}(a b:Int)(c:aF)(d e:af)(f:Int->Int->Int->aF->af->af->Option R):Option R:=
 f a b 0 c d e
def O7{R:Type}(a b c:Int)(d:aF)(e f:af)(g:Int->Int->Int->aF->af->af->Option R)(h:Option R):Option R:=
 bif c<((List.length d.2.2.2.2.1):Int) then g a b c d e f else h
def So{R:Type}(a b c:Int)(d:aF)(e f:af)(g:Int->Option R)(h:Int->Int->Int->aF->af->af->Option R):Option R:=
 zd a (List.length e.2.2.1) (zd c (List.length d.2.2.2.2.1) ((mJ (List.getD e.2.2.1 a.toNat (0,0,0,0,0,())) (List.getD d.2.2.2.2.1 c.toNat (bs [],bs [],())).1).bind fun r6=>bif !decide (r6=0) then g r6 else h a b c d e f))
def zor{R:Type}(a:Option R):Option R:=
 a
def zos{R:Type}(a:Int)(b:Int->Option R):Option R:=
 b a
def Sp{R:Type}(a b c:Int)(d:aF)(e f:af)(g:Int->Option R)(h:Int->Int->Int->aF->af->af->Option R):Option R:=
 zd b (List.length f.2.2.1) (zd c (List.length d.2.2.2.2.1) ((mJ (List.getD f.2.2.1 b.toNat (0,0,0,0,0,())) (List.getD d.2.2.2.2.1 c.toNat (bs [],bs [],())).2.1).bind fun r7=>bif !decide (r7=0) then g r7 else h a b c d e f))
def Sq{R:Type}(a b c:Int)(d:aF)(e f:af)(g:Int->Int->Int->aF->af->af->Option R):Option R:=
 g a b (zW zI (c+1)) d e f
def vu:Nat->Int->Int->Int->aF->af->af->Option (Sum Unit Int)
 |0,_,_,_,_,_,_=>none
 |k+1,v0,v1,v2,v3,v4,v5=>O7 v0 v1 v2 v3 v4 v5 (fun a0 a1 a2 a3 a4 a5=>So a0 a1 a2 a3 a4 a5 (fun a0=>some (.inr a0)) (fun a0 a1 a2 a3 a4 a5=>Sp a0 a1 a2 a3 a4 a5 (fun a0=>some (.inr a0)) (fun a0 a1 a2 a3 a4 a5=>Sq a0 a1 a2 a3 a4 a5 (fun a0 a1 a2 a3 a4 a5=>vu k a0 a1 a2 a3 a4 a5)))) (some (.inl ()))
def SN:Option Int:=
 zwj (fun a0=>some a0)
def zwe(a:Bool):Option Int:=
 zop a (fun a0=>some a0) SN
def O6(a b:Int)(c:aF)(d f:af):Option Int:=
 Sn a b c d f (fun a0 a1 a2 a3 a4 a5=>(vu ag a0 a1 a2 a3 a4 a5).bind fun e=>Sum.elim (fun(we:Unit)=>zor SN) (fun(we:Int)=>zos we (fun a0=>some a0)) e)
def zoo(a b:Int)(c:Bool)(d:aF)(e f:af):Option Int:=
 zoq a b c d e f (fun a0=>some a0) (fun a0 a1 a2 a3 a4=>O6 a0 a1 a2 a3 a4)
def Pk(a b:Int)(c:aF)(d e:af):Option Int:=
 Ga a b c d e (fun a0=>some a0) SN (fun a0=>zwe a0) (fun a0 a1 a2 a3 a4 a5=>zoo a0 a1 a2 a3 a4 a5)
def zwd(a b:Int)(c:Bool)(d:aF)(e f:af):Option Int:=
 zwi a b c d e f (fun a0=>some a0) (fun a0 a1 a2 a3 a4=>Pk a0 a1 a2 a3 a4)
def Ez(a b:Int)(c:aF)(d e:af):Option Int:=
 z85 a b c d e (fun a0 a1 a2 a3 a4 a5=>zwd a0 a1 a2 a3 a4 a5)
def zwc(a b:Int)(c:Bool)(d:aF)(e f:af):Option Int:=
 zwh a b c d e f (fun a0=>some a0) (fun a0 a1 a2 a3 a4=>Ez a0 a1 a2 a3 a4)
def Pj(a b:Int)(c:aF)(d e:af):Option Int:=
 F9 a b c d e (fun a0 a1 a2 a3 a4 a5=>zwc a0 a1 a2 a3 a4 a5)
def A0(a b:Int)(c:Bool)(d:aF)(e f:af):Option Int:=
 zwg a b c d e f (fun a0=>some a0) (fun a0 a1 a2 a3 a4=>Pj a0 a1 a2 a3 a4)
def SM(a:aF)(b c:af):Option Int:=
 F8 a b c (fun a0 a1 a2 a3 a4 a5=>A0 a0 a1 a2 a3 a4 a5)
def zwb(a:Bool)(b:aF)(c d:af):Option Int:=
 zwf a b c d (fun a0=>some a0) (fun a0 a1 a2=>SM a0 a1 a2)
def su(a:aF)(b c:af):Option Int:=
 F7 a b c (fun a0 a1 a2 a3=>zwb a0 a1 a2 a3)
def S4{R:Type}(a:ay)(b:Bool->Option R)(c:Int->ay->Option R):Option R:=
 bif 300<((List.length a.1):Int) then b true else bif 300<((List.length a.2.1):Int) then b true else c 0 a
def Ps{R:Type}(a:Int)(b:ay)(c:Bool->ay->Option R)(d:Int->ay->Option R)(e:ay->Option R):Option R:=
 bif a<((List.length b.1):Int) then zd a (List.length b.1) (bif 100<(((List.getD b.1 a.toNat (bs [],bs [],())).1).size:Int) then c true b else zd a (List.length b.1) (bif 100<(((List.getD b.1 a.toNat (bs [],bs [],())).2.1).size:Int) then c true b else d (zW zI (a+1)) b)) else e b
def zwy{R:Type}(a:Bool)(b:ay)(c:Bool->Option R):Option R:=
 c a
def S5{R:Type}(a:ay)(b:Int->ay->Option R):Option R:=
 b 0 a
def zwz{R:Type}(a:Int)(b:ay)(c:Bool->Option R)(d:Int->ay->Option R)(e:Option R):Option R:=
 bif a<((List.length b.2.1):Int) then zd a (List.length b.2.1) ((nP (List.getD b.2.1 a.toNat (0,0,0,bs [],[],()))).bind fun r1=>bif r1 then c true else d (zW zI (a+1)) b) else e
def zx0{R:Type}(a:Bool)(b:Bool->Option R):Option R:=
 b a
def zx1{R:Type}(a:Bool->Option R):Option R:=
 a false
def xT:Nat->Int->ay->Option (Sum (Bool×ay) ay)
 |0,_,_=>none
 |k+1,v0,v1=>Ps v0 v1 (fun a0 a1=>some (.inl (a0,a1))) (fun a0 a1=>xT k a0 a1) (fun a0=>some (.inr a0))
def Pr:Nat->Int->ay->Option (Sum Bool Unit)
 |0,_,_=>none
 |k+1,v0,v1=>zwz v0 v1 (fun a0=>some (.inl a0)) (fun a0 a1=>Pr k a0 a1) (some (.inr ()))
def lE(a:ay):Option Bool:=
 S4 a (fun a0=>some a0) (fun a0 a1=>(xT ag a0 a1).bind fun e=>Sum.elim (fun(we:(Bool×ay))=>zwy we.1 we.2 (fun a0=>some a0)) (fun(we:ay)=>S5 we (fun a0 a1=>(Pr ag a0 a1).bind fun e=>Sum.elim (fun(we:Bool)=>zx0 we (fun a0=>some a0)) (fun(we:Unit)=>zx1 (fun a0=>some a0)) e)) e)
def S0{R:Type}(a:ay)(b:Int->ay->ay->ay->Option R):Option R:=
 (qx a.1).bind fun r1=>b 0 a ([],[],()) (r1,[],())
def zwu{R:Type}(a:Int)(b c d:ay)(e:Int->ay->ay->ay->Option R)(f:ay->ay->Option R):Option R:=
 bif a<((List.length b.2.1):Int) then zd a (List.length b.2.1) ((nO (List.getD b.2.1 a.toNat (0,0,0,bs [],[],()))).bind fun r2=>bif(List.length d.2.1+List.length ([r2]:List aF))*64<=140737488355328 then e (zW zI (a+1)) b c (d.1,d.2.1++([r2]:List aF),()) else none) else f c d
def zwv{R:Type}(a b:ay)(c:ay->Option R):Option R:=
 c b
def Pq:Nat->Int->ay->ay->ay->Option (ay×ay)
 |0,_,_,_,_=>none
 |k+1,v0,v1,v2,v3=>zwu v0 v1 v2 v3 (fun a0 a1 a2 a3=>Pq k a0 a1 a2 a3) (fun a0 a1=>some (a0,a1))
def sA(a:ay):Option ay:=
 S0 a (fun a0 a1 a2 a3=>(Pq ag a0 a1 a2 a3).bind fun e=>zwv e.1 e.2 (fun a0=>some a0))
def S7{R:Type}(a:ByteArray)(b:Int)(c:Bool->Option R):Option R:=
 (sm a).bind fun r1=>bif r1 then zd 0 a.size (c (decide (zW zI (zW zI (ze a ((0:Int)).toNat)-48)=b))) else c false
def qz(a:ByteArray)(b:Int):Option Bool:=
 S7 a b (fun a0=>some a0)
def S6{R:Type}(a b:aF)(c:Bool->Option R):Option R:=
 bif !decide (a.2.1=0) then bif a.2.1=b.2.1 then c true else bif !decide (a.2.2.1=0) then c (decide (a.2.2.1=b.2.2.1)) else c false else bif !decide (a.2.2.1=0) then c (decide (a.2.2.1=b.2.2.1)) else c false
def sB(a b:aF):Option Bool:=
 S6 a b (fun a0=>some a0)
def SW{R:Type}(a:ay)(b c:af)(d:Int->Int->Int->Option R)(e:Int->ay->af->af->Option R):Option R:=
 (Bq b).bind fun r1=>bif !r1 then d 1 1 0 else(Bq c).bind fun r2=>bif !r2 then d 1 1 1 else bif 256<((List.length a.1):Int) then d 5 2 256 else e 0 a b c
def Pn{R:Type}(a:Int)(b:ay)(c d:af)(e:Int->Int->Int->ay->af->af->Option R)(f:Int->ay->af->af->Option R)(g:ay->af->af->Option R):Option R:=
 bif a<((List.length b.1):Int) then zd a (List.length b.1) ((qz (List.getD b.1 a.toNat (bs [],bs [],())).1 c.2.1).bind fun r3=>bif !r3 then e 7 2 a b c d else(qz (List.getD b.1 a.toNat (bs [],bs [],())).2.1 d.2.1).bind fun r4=>bif !r4 then e 7 2 a b c d else(Fp (List.getD b.1 a.toNat (bs [],bs [],())).1).bind fun r5=>(Fp (List.getD b.1 a.toNat (bs [],bs [],())).2.1).bind fun r6=>bif !(r5==r6) then e 7 2 a b c d else bif 0<=a then bif a<=(((List.length b.1):Nat):Int) then(sn (List.drop 0 (List.take a.toNat b.1)) (List.getD b.1 a.toNat (bs [],bs [],())).1).bind fun r7=>bif r7.2 then e 10 2 a b c d else f (zW zI (a+1)) b c d else none else none) else g b c d
def zwq{R:Type}(a b c:Int)(d:ay)(e f:af)(g:Int->Int->Int->Option R):Option R:=
 g a b c
def SX{R:Type}(a:ay)(b c:af)(d:Int->Int->Int->Option R)(e:Int->ay->af->af->Option R):Option R:=
 bif 256<((List.length a.2.1):Int) then d 5 3 256 else e 0 a b c
def Po{R:Type}(a:Int)(b:ay)(c d:af)(e:Int->Int->Int->Option R)(f:Int->Int->ay->af->af->Option R)(g:Option R):Option R:=
 bif a<((List.length b.2.1):Int) then zd a (List.length b.2.1) ((su (List.getD b.2.1 a.toNat (0,0,0,bs [],[],())) c d).bind fun r8=>bif !decide (r8=0) then e r8 3 a else f a 0 b c d) else g
def zwr{R:Type}(a b c:Int)(d:Int->Int->Int->Option R):Option R:=
 d a b c
def zws{R:Type}(a:Int->Int->Int->Option R):Option R:=
 a 0 0 0
def Pp{R:Type}(a b:Int)(c:ay)(d e:af)(f:Int->Int->Int->Int->ay->af->af->Option R)(g:Int->Int->ay->af->af->Option R)(h:Int->ay->af->af->Option R):Option R:=
 bif b<a then zd b (List.length c.2.1) (zd a (List.length c.2.1) ((sB (List.getD c.2.1 b.toNat (0,0,0,bs [],[],())) (List.getD c.2.1 a.toNat (0,0,0,bs [],[],()))).bind fun r9=>bif r9 then f 10 3 a a c d e else g a (zW zI (b+1)) c d e)) else h a c d e
def zwt{R:Type}(a b c d:Int)(e:ay)(f g:af)(h:Int->Int->Int->Option R):Option R:=
 h a b c
def SY{R:Type}(a:Int)(b:ay)(c d:af)(e:Int->ay->af->af->Option R):Option R:=
 e (zW zI (a+1)) b c d
def EA:Nat->Int->ay->af->af->Option (Sum lL lK)
 |0,_,_,_,_=>none
 |k+1,v0,v1,v2,v3=>Pn v0 v1 v2 v3 (fun a0 a1 a2 a3 a4 a5=>some (.inl (a0,a1,a2,a3,a4,a5))) (fun a0 a1 a2 a3=>EA k a0 a1 a2 a3) (fun a0 a1 a2=>some (.inr (a0,a1,a2)))
def EC:Nat->Int->Int->ay->af->af->Option (Sum (Int×Int×Int×Int×ay×af×af) (Int×ay×af×af))
 |0,_,_,_,_,_=>none
 |k+1,v0,v1,v2,v3,v4=>Pp v0 v1 v2 v3 v4 (fun a0 a1 a2 a3 a4 a5 a6=>some (.inl (a0,a1,a2,a3,a4,a5,a6))) (fun a0 a1 a2 a3 a4=>EC k a0 a1 a2 a3 a4) (fun a0 a1 a2 a3=>some (.inr (a0,a1,a2,a3)))
def EB:Nat->Int->ay->af->af->Option (Sum jl Unit)
 |0,_,_,_,_=>none
 |k+1,v0,v1,v2,v3=>Po v0 v1 v2 v3 (fun a0 a1 a2=>some (.inl (a0,a1,a2))) (fun a0 a1 a2 a3 a4=>(EC ag a0 a1 a2 a3 a4).bind fun e=>Sum.elim (fun(we:(Int×Int×Int×Int×ay×af×af))=>zwt we.1 we.2.1 we.2.2.1 we.2.2.2.1 we.2.2.2.2.1 we.2.2.2.2.2.1 we.2.2.2.2.2.2 (fun a0 a1 a2=>some (.inl (a0,a1,a2)))) (fun(we:(Int×ay×af×af))=>SY we.1 we.2.1 we.2.2.1 we.2.2.2 (fun a0 a1 a2 a3=>EB k a0 a1 a2 a3)) e) (some (.inr ()))
def sw(a:ay)(b c:af):Option jl:=
 SW a b c (fun a0 a1 a2=>some (a0,a1,a2)) (fun a0 a1 a2 a3=>(EA ag a0 a1 a2 a3).bind fun e=>Sum.elim (fun(we:lL)=>zwq we.1 we.2.1 we.2.2.1 we.2.2.2.1 we.2.2.2.2.1 we.2.2.2.2.2 (fun a0 a1 a2=>some (a0,a1,a2))) (fun(we:lK)=>SX we.1 we.2.1 we.2.2 (fun a0 a1 a2=>some (a0,a1,a2)) (fun a0 a1 a2 a3=>(EB ag a0 a1 a2 a3).bind fun e=>Sum.elim (fun(we:jl)=>zwr we.1 we.2.1 we.2.2 (fun a0 a1 a2=>some (a0,a1,a2))) (fun(we:Unit)=>zws (fun a0 a1 a2=>some (a0,a1,a2))) e)) e)
def Tf{R:Type}(a:ar)(b:Bool->Option R)(c:Int->ar->Option R):Option R:=
 bif 200<((List.length a.1.2.2.1):Int) then b true else bif 300<((List.length a.2.2.1):Int) then b true else bif 300<((List.length a.2.2.2.1):Int) then b true else c 0 a
def zx7{R:Type}(a:Int)(b:ar)(c:Bool->Option R)(d:Int->ar->Option R)(e:Option R):Option R:=
 bif a<((List.length b.2.2.2.1):Int) then zd a (List.length b.2.2.2.1) (bif 1200<(((List.getD b.2.2.2.1 a.toNat (0,bs [],())).2.1).size:Int) then c true else d (zW zI (a+1)) b) else e
def zx8{R:Type}(a:Bool)(b:Bool->Option R):Option R:=
 b a
def zx9{R:Type}(a:Bool->Option R):Option R:=
 a false
def Pv:Nat->Int->ar->Option (Sum Bool Unit)
 |0,_,_=>none
 |k+1,v0,v1=>zx7 v0 v1 (fun a0=>some (.inl a0)) (fun a0 a1=>Pv k a0 a1) (some (.inr ()))
def mB(a:ar):Option Bool:=
 Tf a (fun a0=>some a0) (fun a0 a1=>(Pv ag a0 a1).bind fun e=>Sum.elim (fun(we:Bool)=>zx8 we (fun a0=>some a0)) (fun(we:Unit)=>zx9 (fun a0=>some a0)) e)
def Td{R:Type}(a:ar)(b:ar->Option R):Option R:=
 (HR a.1).bind fun r1=>bif(List.length ([]:List Int)+List.length a.2.2.1)*8<=140737488355328 then bif(List.length ([]:List bd)+List.length a.2.2.2.1)*24<=140737488355328 then b (r1,a.2.1,[]++a.2.2.1,[]++a.2.2.2.1,()) else none else none
def sD(a:ar):Option ar:=
 Td a (fun a0=>some a0)
def Ti{R:Type}(a:ak)(b c:Int)(d:ak->Int->Int->Int->Option R):Option R:=
 d a b c 0
def Pw{R:Type}(a:ak)(b c d:Int)(e:Int->Option R)(f:ak->Int->Int->Int->Option R)(g:Option R):Option R:=
 bif d<b then zd d (List.length a) (bif(List.getD a d.toNat (0,bs [],())).1=c then e d else f a b c (zW zI (d+1))) else g
def zxb{R:Type}(a:Int)(b:Int->Option R):Option R:=
 b a
def zxc{R:Type}(a:Int->Option R):Option R:=
 a (-1:Int)
def EF:Nat->ak->Int->Int->Int->Option (Sum Int Unit)
 |0,_,_,_,_=>none
 |k+1,v0,v1,v2,v3=>Pw v0 v1 v2 v3 (fun a0=>some (.inl a0)) (fun a0 a1 a2 a3=>EF k a0 a1 a2 a3) (some (.inr ()))
def qA(a:ak)(b c:Int):Option Int:=
 Ti a b c (fun a0 a1 a2 a3=>(EF ag a0 a1 a2 a3).bind fun e=>Sum.elim (fun(we:Int)=>zxb we (fun a0=>some a0)) (fun(we:Unit)=>zxc (fun a0=>some a0)) e)
def Ta{R:Type}(a:ar)(b:Int->Int->Int->Option R)(c:Int->Int->ar->Option R):Option R:=
 (Bq a.1).bind fun r1=>bif !r1 then b 1 1 0 else(yx a.1 (39:Int)).bind fun r2=>bif r2<0 then b 9 1 1 else c r2 0 a
def Pt{R:Type}(a b:Int)(c:ar)(d:Int->Int->Int->Int->ar->Option R)(e:Int->Int->ar->Option R)(f:Int->ar->Option R):Option R:=
 bif b<((List.length c.2.2.1):Int) then zd b (List.length c.2.2.1) ((yx c.1 (List.getD c.2.2.1 b.toNat (0:Int))).bind fun r3=>bif r3<0 then d 9 2 b a c else zd b (List.length c.2.2.1) (bif List.getD c.2.2.1 b.toNat 0=39 then d 1 2 b a c else bif 0<=b then bif b<=(((List.length c.2.2.1):Nat):Int) then zd b (List.length c.2.2.1) ((HG (List.drop 0 (List.take b.toNat c.2.2.1)) (List.getD c.2.2.1 b.toNat (0:Int))).bind fun r4=>bif r4 then d 10 2 b a c else e a (zW zI (b+1)) c) else none else none)) else f a c
def zx4{R:Type}(a b c d:Int)(e:ar)(f:Int->Int->Int->Option R):Option R:=
 f a b c
def Tb{R:Type}(a:Int)(b:ar)(c:Int->Int->ar->Option R):Option R:=
 c a 0 b
def Pu{R:Type}(a b:Int)(c:ar)(d:Int->Int->Int->ar->Option R)(e:Int->Int->ar->Option R)(f:ar->Option R):Option R:=
 bif b<((List.length c.2.2.2.1):Int) then zd b (List.length c.2.2.2.1) (bif(List.getD c.2.2.2.1 b.toNat (0,bs [],())).1<0 then d 1 3 b c else zd b (List.length c.2.2.2.1) (bif 16<(List.getD c.2.2.2.1 b.toNat (0,bs [],())).1 then d 1 3 b c else zd b (List.length c.2.2.2.1) ((qA c.2.2.2.1 b (List.getD c.2.2.2.1 b.toNat (0,bs [],())).1).bind fun r5=>bif 0<=r5 then d 10 3 b c else zd a (List.length c.1.2.2.1) (zd b (List.length c.2.2.2.1) ((mJ (List.getD c.1.2.2.1 a.toNat (0,0,0,0,0,())) (List.getD c.2.2.2.1 b.toNat (0,bs [],())).2.1).bind fun r6=>bif !decide (r6=0) then d r6 3 b c else e a (zW zI (b+1)) c))))) else f c
def zx5{R:Type}(a b c:Int)(d:ar)(e:Int->Int->Int->Option R):Option R:=
 e a b c
def Tc{R:Type}(a:ar)(b:Int->Int->Int->Option R):Option R:=
 (qA a.2.2.2.1 ((List.length a.2.2.2.1):Int) (0:Int)).bind fun r7=>bif r7<0 then b 15 3 ((List.length a.2.2.2.1):Int) else b 0 0 0
def ED:Nat->Int->Int->ar->Option (Sum (Int×Int×Int×Int×ar) (Int×ar))
 |0,_,_,_=>none
 |k+1,v0,v1,v2=>Pt v0 v1 v2 (fun a0 a1 a2 a3 a4=>some (.inl (a0,a1,a2,a3,a4))) (fun a0 a1 a2=>ED k a0 a1 a2) (fun a0 a1=>some (.inr (a0,a1)))
def EE:Nat->Int->Int->ar->Option (Sum (Int×Int×Int×ar) ar)
 |0,_,_,_=>none
 |k+1,v0,v1,v2=>Pu v0 v1 v2 (fun a0 a1 a2 a3=>some (.inl (a0,a1,a2,a3))) (fun a0 a1 a2=>EE k a0 a1 a2) (fun a0=>some (.inr a0))
def sC(a:ar):Option jl:=
 Ta a (fun a0 a1 a2=>some (a0,a1,a2)) (fun a0 a1 a2=>(ED ag a0 a1 a2).bind fun e=>Sum.elim (fun(we:(Int×Int×Int×Int×ar))=>zx4 we.1 we.2.1 we.2.2.1 we.2.2.2.1 we.2.2.2.2 (fun a0 a1 a2=>some (a0,a1,a2))) (fun(we:(Int×ar))=>Tb we.1 we.2 (fun a0 a1 a2=>(EE ag a0 a1 a2).bind fun e=>Sum.elim (fun(we:(Int×Int×Int×ar))=>zx5 we.1 we.2.1 we.2.2.1 we.2.2.2 (fun a0 a1 a2=>some (a0,a1,a2))) (fun(we:ar)=>Tc we (fun a0 a1 a2=>some (a0,a1,a2))) e)) e)
def zxm{R:Type}(a:(List ByteArray))(b:(List ByteArray)->aN->Int->Option R):Option R:=
 b a [] 0
def zxn{R:Type}(a:(List ByteArray))(b:aN)(c:Int)(d:(List ByteArray)->aN->Int->Option R)(e:aN->Option R):Option R:=
 bif c<((List.length a):Int) then zd c (List.length a) (zd (zW zI (c+1)) (List.length a) (bif(List.length b+List.length ([(List.getD a c.toNat (bs []),List.getD a (zW zI (c+(1:Int))).toNat (bs []),())]:List dA))*32<=140737488355328 then d a (b++([(List.getD a c.toNat (bs []),List.getD a (zW zI (c+(1:Int))).toNat (bs []),())]:List dA)) (zW zI (c+2)) else none)) else e b
def zxo{R:Type}(a:aN)(b:aN->Option R):Option R:=
 b a
def Tt:Nat->(List ByteArray)->aN->Int->Option aN
 |0,_,_,_=>none
 |k+1,v0,v1,v2=>zxn v0 v1 v2 (fun a0 a1 a2=>Tt k a0 a1 a2) (fun a0=>some a0)
def sH(a:(List ByteArray)):Option aN:=
 zxm a (fun a0 a1 a2=>(Tt ag a0 a1 a2).bind fun e=>zxo e (fun a0=>some a0))
def zxj{R:Type}(a:bQ->(List Int)->Int->Option R):Option R:=
 X6.bind fun r1=>a [] r1 0
def zxk{R:Type}(a:bQ)(b:(List Int))(c:Int)(d:bQ->(List Int)->Int->Option R)(e:bQ->Option R):Option R:=
 bif c<((List.length b):Int) then zd c (List.length b) (bif List.getD b c.toNat 0=12 then zd c (List.length b) (zd c (List.length b) (bif(List.length a+List.length ([((4:Int),List.getD b c.toNat (0:Int),List.getD b c.toNat (0:Int),bs [],([]:List dA),())]:List aF))*64<=140737488355328 then d (a++([(4,List.getD b c.toNat 0,List.getD b c.toNat 0,bs [],[],())]:List aF)) b (zW zI (c+1)) else none)) else zd c (List.length b) (zd c (List.length b) (bif(List.length a+List.length ([((1:Int),List.getD b c.toNat (0:Int),List.getD b c.toNat (0:Int),bs [],([]:List dA),())]:List aF))*64<=140737488355328 then d (a++([(1,List.getD b c.toNat 0,List.getD b c.toNat 0,bs [],[],())]:List aF)) b (zW zI (c+1)) else none))) else e a
def zxl{R:Type}(a:bQ)(b:bQ->Option R):Option R:=
 b a
def Tr:Nat->bQ->(List Int)->Int->Option bQ
 |0,_,_,_=>none
 |k+1,v0,v1,v2=>zxk v0 v1 v2 (fun a0 a1 a2=>Tr k a0 a1 a2) (fun a0=>some a0)
def vG:Option bQ:=
 zxj (fun a0 a1 a2=>(Tr ag a0 a1 a2).bind fun e=>zxl e (fun a0=>some a0))
def zxi{R:Type}(a b c:ByteArray)(d:ak->Option R):Option R:=
 d ([(0,a,()),(2,b,()),(3,b,()),(12,b,()),(9,b,()),(15,c,())]:List bd)
def vF(a b c:ByteArray):Option ak:=
 zxi a b c (fun a0=>some a0)
def zxd{R:Type}(a:av->Option R):Option R:=
 (sH ([(bs [48,49,48,48]),bs [49,49,48,48],bs [48,49,49,48],bs [49,49,49,48],bs [48,50,48,48],bs [49,50,48,48],bs [48,50,49,48],bs [49,50,49,48],bs [48,50,50,48],bs [49,50,50,48],bs [48,50,51,48],bs [49,50,51,48],bs [48,52,48,48],bs [49,52,48,48],bs [48,52,49,48],bs [49,52,49,48],bs [48,52,50,48],bs [49,52,50,48],bs [48,52,51,48],bs [49,52,51,48],bs [48,56,48,48],bs [49,56,48,52],bs [48,56,49,48],(bs [49,56,49,52])]:List ByteArray)).bind fun r1=>(sH ([(bs [48,53,49]),bs [53,49,48,49,48,49,53,49,49,51,52,52],bs [48,50,49],bs [50,49,48,49,48,49,50,49,49,51,52,52],bs [48,49,50],(bs [49,48,48,49,52,48,49,48,48,49,49,48])]:List ByteArray)).bind fun r2=>(sH ([(bs [48,48]),bs [48,48,48],bs [48,53],bs [49,48,48],bs [49,52],bs [49,49,49],bs [53,49],bs [49,49,54],bs [53,52],bs [49,48,49],bs [57,49],bs [57,48,55],bs [57,54],(bs [57,48,57])]:List ByteArray)).bind fun r3=>vG.bind fun r4=>bif(List.length r4+List.length ([((2:Int),(13:Int),(0:Int),bs [],([]:List dA),()),((2:Int),(18:Int),(0:Int),bs [],([]:List dA),()),((2:Int),(90:Int),(0:Int),bs [],([]:List dA),()),((5:Int),(22:Int),(22:Int),bs [],r2,()),((5:Int),(39:Int),(39:Int),bs [],r3,()),((1:Int),(43:Int),(43:Int),bs [],([]:List dA),()),((1:Int),(48:Int),(48:Int),bs [],([]:List dA),()),((3:Int),(0:Int),(26:Int),bs [53,57,57,57],([]:List dA),())]:List aF))*64<=140737488355328 then vG.bind fun r5=>(ss r2).bind fun r6=>(ss r3).bind fun r7=>bif(List.length r5+List.length ([((2:Int),(26:Int),(0:Int),bs [],([]:List dA),()),((2:Int),(43:Int),(0:Int),bs [],([]:List dA),()),((5:Int),(22:Int),(22:Int),bs [],r6,()),((5:Int),(39:Int),(39:Int),bs [],r7,()),((1:Int),(48:Int),(48:Int),bs [],([]:List dA),())]:List aF))*64<=140737488355328 then(QT (0:Int)).bind fun r8=>(vF (bs [57,54]) (bs [51,48]) (bs [49,50])).bind fun r9=>zd 0 2 ((QT (1:Int)).bind fun kI=>(ss r1).bind fun lr=>bif(List.length ([]:List Int)+List.length ([(2:Int),(3:Int),(4:Int),(7:Int),(11:Int),(12:Int),(32:Int),(37:Int),(41:Int),(42:Int),(70:Int)]:List Int))*8<=140737488355328 then(vF (bs [57,48,57]) (bs [57,48,52]) (bs [57,48,50])).bind fun nE=>zd 1 2 (a (List.set (List.set (List.replicate 2 ((0,0,[],()),([],[],()),[],[],())) ((0:Int)).toNat (r8,(r1,r4++([(2,13,0,bs [],[],()),(2,18,0,bs [],[],()),(2,90,0,bs [],[],()),(5,22,22,bs [],r2,()),(5,39,39,bs [],r3,()),(1,43,43,bs [],[],()),(1,48,48,bs [],[],()),(3,0,26,bs [53,57,57,57],[],())]:List aF),()),([2,3,4,7,11,12,32,37,41,42,70]:List Int),r9,())) ((1:Int)).toNat (kI,(lr,r5++([(2,26,0,bs [],[],()),(2,43,0,bs [],[],()),(5,22,22,bs [],r6,()),(5,39,39,bs [],r7,()),(1,48,48,bs [],[],())]:List aF),()),[]++([2,3,4,7,11,12,32,37,41,42,70]:List Int),nE,()),4096,())) else none) else none else none
def Bi:Option av:=
 zxd (fun a0=>some a0)
def Tn{R:Type}(a:av)(b:Bool->Option R):Option R:=
 zd 0 2 ((mB (List.getD a.1 ((0:Int)).toNat ((0,0,[],()),([],[],()),[],[],()))).bind fun r1=>bif r1 then b true else zd 1 2 ((mB (List.getD a.1 ((1:Int)).toNat ((0,0,[],()),([],[],()),[],[],()))).bind fun r2=>bif r2 then b true else zd 0 2 ((lE (List.getD a.1 ((0:Int)).toNat ((0,0,[],()),([],[],()),[],[],())).2.1).bind fun r3=>bif r3 then b true else zd 1 2 ((lE (List.getD a.1 ((1:Int)).toNat ((0,0,[],()),([],[],()),[],[],())).2.1).bind fun r4=>b r4))))
def nQ(a:av):Option Bool:=
 Tn a (fun a0=>some a0)
def Tm{R:Type}(a:av)(b:Int->av->av->Option R):Option R:=
 b 0 a (List.replicate 2 ((0,0,[],()),([],[],()),[],[],()),0,())
def Gb{R:Type}(a:Int)(b c:av)(d:Int->av->av->Option R)(e:av->av->Option R):Option R:=
 bif a<2 then zd a 2 ((sA (List.getD b.1 a.toNat ((0,0,[],()),([],[],()),[],[],())).2.1).bind fun r1=>zd a 2 ((sD (List.getD b.1 a.toNat ((0,0,[],()),([],[],()),[],[],()))).bind fun r2=>zd a 2 (zd a 2 (d (zW zI (a+1)) (List.set (List.set b.1 a.toNat r2) a.toNat ((List.getD (List.set b.1 a.toNat r2) a.toNat ((0,0,[],()),([],[],()),[],[],())).1,r1,(List.getD (List.set b.1 a.toNat r2) a.toNat ((0,0,[],()),([],[],()),[],[],())).2.2.1,(List.getD (List.set b.1 a.toNat r2) a.toNat ((0,0,[],()),([],[],()),[],[],())).2.2.2.1,()),b.2.1,()) c)))) else e b c
def zxh{R:Type}(a b:av)(c:av->Option R):Option R:=
 c a
def EH:Nat->Int->av->av->Option (av×av)
 |0,_,_,_=>none
 |k+1,v0,v1,v2=>Gb v0 v1 v2 (fun a0 a1 a2=>EH k a0 a1 a2) (fun a0 a1=>some (a0,a1))
def sF(a:av):Option av:=
 Tm a (fun a0 a1 a2=>(EH ag a0 a1 a2).bind fun e=>zxh e.1 e.2 (fun a0=>some a0))
def Tk{R:Type}(a:av)(b:Int->Int->Int->Option R)(c:Int->av->Option R):Option R:=
 bif a.2.1<1 then b 5 2 0 else bif 65535<a.2.1 then b 5 2 0 else c 0 a
def z87{R:Type}(a:Int)(b:av)(c:Int->Int->Int->Option R)(d:Int->av->Option R)(e:Option R):Option R:=
 bif a<2 then zd a 2 ((sC (List.getD b.1 a.toNat ((0,0,[],()),([],[],()),[],[],()))).bind fun r1=>bif !decide (r1.1=0) then c r1.1 a 1 else zd a 2 (zd a 2 (zd (zW zI (1-a)) 2 ((sw (List.getD b.1 a.toNat ((0,0,[],()),([],[],()),[],[],())).2.1 (List.getD b.1 a.toNat ((0,0,[],()),([],[],()),[],[],())).1 (List.getD b.1 (zW zI (1-a)).toNat ((0,0,[],()),([],[],()),[],[],())).1).bind fun r2=>bif !decide (r2.1=0) then c r2.1 a 2 else d (zW zI (a+1)) b)))) else e
def zxf{R:Type}(a b c:Int)(d:Int->Int->Int->Option R):Option R:=
 d a b c
def zxg{R:Type}(a:Int->Int->Int->Option R):Option R:=
 a 0 0 0
def EG:Nat->Int->av->Option (Sum jl Unit)
 |0,_,_=>none
 |k+1,v0,v1=>z87 v0 v1 (fun a0 a1 a2=>some (.inl (a0,a1,a2))) (fun a0 a1=>EG k a0 a1) (some (.inr ()))
def sE(a:av):Option jl:=
 Tk a (fun a0 a1 a2=>some (a0,a1,a2)) (fun a0 a1=>(EG ag a0 a1).bind fun e=>Sum.elim (fun(we:jl)=>zxf we.1 we.2.1 we.2.2 (fun a0 a1 a2=>some (a0,a1,a2))) (fun(we:Unit)=>zxg (fun a0 a1 a2=>some (a0,a1,a2))) e)
def Tp{R:Type}(a:av)(b:Bool->Option R):Option R:=
 (sE a).bind fun r1=>b (decide (r1.1=0))
def sG(a:av):Option Bool:=
 Tp a (fun a0=>some a0)
def zxq{R:Type}(a:(List ByteArray))(b:Int)(c:(List ByteArray)->Int->Int->Int->Option R):Option R:=
 c a b ((List.length a):Int) 0
def Px{R:Type}(a:(List ByteArray))(b c d:Int)(e:Int->Bool->Int->Option R)(f:(List ByteArray)->Int->Int->Int->Option R)(g:Int->Int->Option R):Option R:=
 bif d<((List.length a):Int) then bif b<c then e b true c else zd d (List.length a) (bif b<((List.getD a d.toNat (bs [])).size:Int) then e b true c else zd d (List.length a) (f a b (zW zI (c+((List.getD a d.toNat (bs [])).size:Int))) (zW zI (d+1)))) else g b c
def Tv{R:Type}(a:Int)(b:Bool)(c:Int)(d:Bool->Option R):Option R:=
 d b
def Tw{R:Type}(a b:Int)(c:Bool->Option R):Option R:=
 c (decide (a<b))
def EI:Nat->(List ByteArray)->Int->Int->Int->Option (Sum zO (Int×Int))
 |0,_,_,_,_=>none
 |k+1,v0,v1,v2,v3=>Px v0 v1 v2 v3 (fun a0 a1 a2=>some (.inl (a0,a1,a2))) (fun a0 a1 a2 a3=>EI k a0 a1 a2 a3) (fun a0 a1=>some (.inr (a0,a1)))
def vH(a:(List ByteArray))(b:Int):Option Bool:=
 zxq a b (fun a0 a1 a2 a3=>(EI ag a0 a1 a2 a3).bind fun e=>Sum.elim (fun(we:zO)=>Tv we.1 we.2.1 we.2.2 (fun a0=>some a0)) (fun(we:(Int×Int))=>Tw we.1 we.2 (fun a0=>some a0)) e)
def Tz{R:Type}(a:(List ByteArray))(b:(List ByteArray)->ByteArray->Int->Option R):Option R:=
 b a (bs []) 0
def Py{R:Type}(a:(List ByteArray))(b:ByteArray)(c:Int)(d:(List ByteArray)->ByteArray->Int->Option R)(e:ByteArray->Option R):Option R:=
 bif c<((List.length a):Int) then zd c (List.length a) (bif b.size+(List.getD a c.toNat (bs [])).size<=9223372036854775807 then d a (b++List.getD a c.toNat (bs [])) (zW zI (c+1)) else none) else e b
def TA{R:Type}(a:ByteArray)(b:ByteArray->Option R):Option R:=
 b a
def EJ:Nat->(List ByteArray)->ByteArray->Int->Option ByteArray
 |0,_,_,_=>none
 |k+1,v0,v1,v2=>Py v0 v1 v2 (fun a0 a1 a2=>EJ k a0 a1 a2) (fun a0=>some a0)
def sI(a:(List ByteArray)):Option ByteArray:=
 Tz a (fun a0 a1 a2=>(EJ ag a0 a1 a2).bind fun e=>TA e (fun a0=>some a0))
def TD{R:Type}(a b:ct)(c:Bool->Option R)(d:ct->ct->Int->Option R):Option R:=
 bif !decide (((List.length a):Int)=((List.length b):Int)) then c false else d a b 0
def zxv{R:Type}(a b:ct)(c:Int)(d:Bool->Option R)(e:ct->ct->Int->Option R)(f:Option R):Option R:=
 bif c<((List.length a):Int) then zd c (List.length a) (zd c (List.length b) (bif !(decide ((List.getD a c.toNat (0,0,bs [],0,())).1=(List.getD b c.toNat (0,0,bs [],0,())).1)&&(decide ((List.getD a c.toNat (0,0,bs [],0,())).2.1=(List.getD b c.toNat (0,0,bs [],0,())).2.1)&&(decide ((List.getD a c.toNat (0,0,bs [],0,())).2.2.1=(List.getD b c.toNat (0,0,bs [],0,())).2.2.1)&&(decide ((List.getD a c.toNat (0,0,bs [],0,())).2.2.2.1=(List.getD b c.toNat (0,0,bs [],0,())).2.2.2.1)&&true)))) then d false else e a b (zW zI (c+1)))) else f
def TE{R:Type}(a:Bool)(b:Bool->Option R):Option R:=
 b a
def TF{R:Type}(a:Bool->Option R):Option R:=
 a true
def PB:Nat->ct->ct->Int->Option (Sum Bool Unit)
 |0,_,_,_=>none
 |k+1,v0,v1,v2=>zxv v0 v1 v2 (fun a0=>some (.inl a0)) (fun a0 a1 a2=>PB k a0 a1 a2) (some (.inr ()))
def mD(a b:ct):Option Bool:=
 TD a b (fun a0=>some a0) (fun a0 a1 a2=>(PB ag a0 a1 a2).bind fun e=>Sum.elim (fun(we:Bool)=>TE we (fun a0=>some a0)) (fun(we:Unit)=>TF (fun a0=>some a0)) e)
def PA{R:Type}(a:ak)(b:Int)(c:ak->Int->Int->Int->Option R):Option R:=
 c a b ((List.length a):Int) 0
def EK{R:Type}(a:ak)(b c d:Int)(e:Int->Bool->Int->Option R)(f:ak->Int->Int->Int->Option R)(g:Int->Int->Option R):Option R:=
 bif d<((List.length a):Int) then bif b<c then e b true c else zd d (List.length a) (bif b<(((List.getD a d.toNat (0,bs [],())).2.1).size:Int) then e b true c else zd d (List.length a) (f a b (zW zI (c+(((List.getD a d.toNat (0,bs [],())).2.1).size:Int))) (zW zI (d+1)))) else g b c
def zxs{R:Type}(a:Int)(b:Bool)(c:Int)(d:Bool->Option R):Option R:=
 d b
def zxt{R:Type}(a b:Int)(c:Bool->Option R):Option R:=
 c (decide (a<b))
def Pz:Nat->ak->Int->Int->Int->Option (Sum zO (Int×Int))
 |0,_,_,_,_=>none
 |k+1,v0,v1,v2,v3=>EK v0 v1 v2 v3 (fun a0 a1 a2=>some (.inl (a0,a1,a2))) (fun a0 a1 a2 a3=>Pz k a0 a1 a2 a3) (fun a0 a1=>some (.inr (a0,a1)))
def mC(a:ak)(b:Int):Option Bool:=
 PA a b (fun a0 a1 a2 a3=>(Pz ag a0 a1 a2 a3).bind fun e=>Sum.elim (fun(we:zO)=>zxs we.1 we.2.1 we.2.2 (fun a0=>some a0)) (fun(we:(Int×Int))=>zxt we.1 we.2 (fun a0=>some a0)) e)
def z157{R:Type}(a:Bool->Option R):Option R:=
 Bi.bind fun r1=>(yl r1).bind fun r2=>Sum.elim (fun(Cy:Int)=>(yl (List.replicate 2 ((0,0,[],()),([],[],()),[],[],()),0,())).bind fun r3=>Sum.elim (fun(mg:Int)=>bif !decide (Cy=0) then a false else a false) (fun(mg:(Int×(av×(Option al×Option al)×Int)))=>bif !decide (Cy=0) then a false else a false) r3) (fun(Cy:(Int×(av×(Option al×Option al)×Int)))=>(yl (List.replicate 2 ((0,0,[],()),([],[],()),[],[],()),0,())).bind fun r4=>Sum.elim (fun(Kz:Int)=>bif !decide (Cy.1=0) then a false else(vP Cy.2 ([(0,bs [0],()),(1,bs [0,1,65],()),(0,bs [0],())]:List bd)).bind fun r5=>bif Kz=1 then(mD r5.1 ([(1,3,bs [],1,()),(0,4,bs [],1,())]:List lJ)).bind fun r6=>bif r6 then(QR r5.2).bind fun r7=>bif r7.1=1 then(Fj r7.2 (0:Int)).bind fun r8=>bif r8.1 then(Fj r8.2 (1:Int)).bind fun r9=>bif !r9.1 then(QS r9.2 (1:Int)).bind fun kI=>a (decide (kI.1=0)) else a false else a false else a false else a false else a false) (fun(Kz:(Int×(av×(Option al×Option al)×Int)))=>bif !decide (Cy.1=0) then a false else(vP Cy.2 ([(0,bs [0],()),(1,bs [0,1,65],()),(0,bs [0],())]:List bd)).bind fun lr=>bif Kz.1=1 then(mD lr.1 ([(1,3,bs [],1,()),(0,4,bs [],1,())]:List lJ)).bind fun nE=>bif nE then(QR lr.2).bind fun l7=>bif l7.1=1 then(Fj l7.2 (0:Int)).bind fun rT=>bif rT.1 then(Fj rT.2 (1:Int)).bind fun qh=>bif !qh.1 then(QS qh.2 (1:Int)).bind fun ux=>a (decide (ux.1=0)) else a false else a false else a false else a false else a false) r4) r2
def gH:Option Bool:=
 z157 (fun a0=>some a0)
def Xd{R:Type}(a:av)(b:ak)(c:Int)(d:Option R)(e:Bool->(av×(Option al×Option al)×Int)->Option R):Option R:=
 (nQ a).bind fun r1=>bif r1 then d else(mC b c).bind fun r2=>bif r2 then d else(sG a).bind fun r3=>bif !r3 then d else(sF a).bind fun r4=>(yl r4).bind fun r5=>Sum.elim (fun(Cz:Int)=>bif Cz=0 then d else d) (fun(Cz:(Int×(av×(Option al×Option al)×Int)))=>bif Cz.1=0 then e true Cz.2 else e false Cz.2) r5
def tg(a:av)(b:ak)(c:Int):Option (Sum Unit (Bool×(av×(Option al×Option al)×Int))):=
 Xd a b c (some (.inl ())) (fun a0 a1=>some (.inr (a0,a1)))
def Xa{R:Type}(a:av)(b:Int)(c:(List ByteArray))(d:Bool->Option R)(e:Int->(List ByteArray)->ak->ak->(List ByteArray)->Int->Int->av->Option R):Option R:=
 (vH c (2500:Int)).bind fun r1=>bif r1 then gH.bind fun r2=>d r2 else e b c [] [] c ((List.length c):Int) 0 a
def Qq{R:Type}(a:Int)(b:(List ByteArray))(c d:ak)(e:(List ByteArray))(f g:Int)(h:av)(i:Int->(List ByteArray)->ak->ak->ByteArray->(List ByteArray)->Int->Int->Int->Int->av->Option R)(j:Int->(List ByteArray)->ak->ak->av->Option R):Option R:=
 bif g<f then zd g (List.length e) (bif(List.length c+List.length ([(a,List.getD e g.toNat (bs []),())]:List bd))*24<=140737488355328 then i a b (c++([(a,List.getD e g.toNat (bs []),())]:List bd)) d (List.getD e g.toNat (bs [])) e f g ((List.getD e g.toNat (bs [])).size:Int) 0 h else none) else j a b c d h
def Xb{R:Type}(a:Int)(b:(List ByteArray))(c d:ak)(e:av)(f:Bool->Option R):Option R:=
 (tg e c (9999:Int)).bind fun r3=>Sum.elim (fun(mg:Unit)=>(tg e [] (0:Int)).bind fun r4=>Sum.elim (fun(Kz:Unit)=>(tg e [] (0:Int)).bind fun r5=>Sum.elim (fun(Cz:Unit)=>gH.bind fun r6=>bif !r6 then gH.bind fun r7=>f r7 else gH.bind fun r8=>f r8) (fun(Cz:(Bool×(av×(Option al×Option al)×Int)))=>gH.bind fun r9=>bif !r9 then gH.bind fun kI=>f kI else gH.bind fun lr=>f lr) r5) (fun(Kz:(Bool×(av×(Option al×Option al)×Int)))=>(tg e [] (0:Int)).bind fun nE=>Sum.elim (fun(aa2:Unit)=>gH.bind fun l7=>bif !l7 then gH.bind fun rT=>f rT else gH.bind fun qh=>f qh) (fun(aa2:(Bool×(av×(Option al×Option al)×Int)))=>gH.bind fun ux=>bif !ux then gH.bind fun xA=>f xA else gH.bind fun xB=>f xB) nE) r4) (fun(mg:(Bool×(av×(Option al×Option al)×Int)))=>(tg e [] (0:Int)).bind fun rf=>Sum.elim (fun(Kx:Unit)=>(tg e [] (0:Int)).bind fun xC=>Sum.elim (fun(aa3:Unit)=>gH.bind fun uy=>bif !uy then gH.bind fun Cr=>f Cr else bif !mg.1 then gH.bind fun Ct=>f Ct else gH.bind fun Rx=>f Rx) (fun(aa3:(Bool×(av×(Option al×Option al)×Int)))=>gH.bind fun rh=>bif !rh then gH.bind fun Ry=>f Ry else bif !mg.1 then gH.bind fun FK=>f FK else gH.bind fun Rz=>f Rz) xC) (fun(Kx:(Bool×(av×(Option al×Option al)×Int)))=>(tg e [] (0:Int)).bind fun Ke=>Sum.elim (fun(Ky:Unit)=>gH.bind fun RA=>bif !RA then gH.bind fun RB=>f RB else bif !mg.1 then gH.bind fun RC=>f RC else gH.bind fun FL=>f FL) (fun(Ky:(Bool×(av×(Option al×Option al)×Int)))=>gH.bind fun RD=>bif !RD then gH.bind fun Kf=>f Kf else bif !mg.1 then gH.bind fun RE=>f RE else(vP mg.2 c).bind fun Kg=>(vP Kx.2 d).bind fun RF=>(mD Kg.1 RF.1).bind fun FM=>bif FM then(sI b).bind fun RG=>(vP Ky.2 ([(a,RG,())]:List bd)).bind fun Kh=>(mD Kg.1 Kh.1).bind fun RH=>f RH else f false) Ke) rf) r3
def Qr{R:Type}(a:Int)(b:(List ByteArray))(c d:ak)(e:ByteArray)(f:(List ByteArray))(g h i j:Int)(l:av)(m:Int->(List ByteArray)->ak->ak->ByteArray->(List ByteArray)->Int->Int->Int->Int->av->Option R)(n:Int->(List ByteArray)->ak->ak->(List ByteArray)->Int->Int->av->Option R):Option R:=
 bif j<i then bif 0<=zW zI (j+1) then bif zW zI (j+1)<=(e.size:Int) then bif 0<=j then bif j<=(((zW zI (j+(1:Int))).toNat:Nat):Int) then bif(List.length d+List.length ([(a,e.extract j.toNat (zW zI (j+(1:Int))).toNat,()),(a,bs [],())]:List bd))*24<=140737488355328 then m a b c (d++([(a,e.extract j.toNat (zW zI (j+(1:Int))).toNat,()),(a,bs [],())]:List bd)) e f g h i (zW zI (j+1)) l else none else none else none else none else none else n a b c d f g h l
def Xc{R:Type}(a:Int)(b:(List ByteArray))(c d:ak)(e:(List ByteArray))(f g:Int)(h:av)(i:Int->(List ByteArray)->ak->ak->(List ByteArray)->Int->Int->av->Option R):Option R:=
 i a b c d e f (zW zI (g+1)) h
def E7:Nat->Int->(List ByteArray)->ak->ak->ByteArray->(List ByteArray)->Int->Int->Int->Int->av->Option (Int×(List ByteArray)×ak×ak×(List ByteArray)×Int×Int×av)
 |0,_,_,_,_,_,_,_,_,_,_,_=>none
 |k+1,v0,v1,v2,v3,v4,v5,v6,v7,v8,v9,v10=>Qr v0 v1 v2 v3 v4 v5 v6 v7 v8 v9 v10 (fun a0 a1 a2 a3 a4 a5 a6 a7 a8 a9 tn=>E7 k a0 a1 a2 a3 a4 a5 a6 a7 a8 a9 tn) (fun a0 a1 a2 a3 a4 a5 a6 a7=>some (a0,a1,a2,a3,a4,a5,a6,a7))
def z91:Nat->Int->(List ByteArray)->ak->ak->(List ByteArray)->Int->Int->av->Option (Int×(List ByteArray)×ak×ak×av)
 |0,_,_,_,_,_,_,_,_=>none
 |k+1,v0,v1,v2,v3,v4,v5,v6,v7=>Qq v0 v1 v2 v3 v4 v5 v6 v7 (fun a0 a1 a2 a3 a4 a5 a6 a7 a8 a9 tn=>(E7 ag a0 a1 a2 a3 a4 a5 a6 a7 a8 a9 tn).bind fun e=>Xc e.1 e.2.1 e.2.2.1 e.2.2.2.1 e.2.2.2.2.1 e.2.2.2.2.2.1 e.2.2.2.2.2.2.1 e.2.2.2.2.2.2.2 (fun a0 a1 a2 a3 a4 a5 a6 a7=>z91 k a0 a1 a2 a3 a4 a5 a6 a7)) (fun a0 a1 a2 a3 a4=>some (a0,a1,a2,a3,a4))
def Hy(a:av)(b:Int)(c:(List ByteArray)):Option Bool:=
 Xa a b c (fun a0=>some a0) (fun a0 a1 a2 a3 a4 a5 a6 a7=>(z91 ag a0 a1 a2 a3 a4 a5 a6 a7).bind fun e=>Xb e.1 e.2.1 e.2.2.1 e.2.2.2.1 e.2.2.2.2 (fun a0=>some a0))
end bn

