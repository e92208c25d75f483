/- No condition. -/
import Derived.Test.YtpjkbbihjoflnaaGreatDoorK1
import Derived.OpenShut
import Derived.Deep.Slices
import Derived.Shelf.Strings.Repeat
set_option linter.unusedVariables false
set_option linter.unusedSimpArgs false
set_option maxRecDepth 100000
namespace Go.Ref
open Go
variable {P:Program} {E:Env} {X:aw} {s:State} {a:Act}
def eW(X Y:aw):Prop:=Y.w=X.w/\∀g j p n,X.ow g= .row (.r j p) n->Y.ow g= .row (.r j p) n
theorem eW.refl(X:aw):eW X X:=⟨rfl,fun _ _ _ _ h=>h⟩
theorem eW.trans{X Y Z:aw}(h:eW X Y)(k:eW Y Z):eW X Z:=⟨k.1.trans h.1,fun g j p n e=>k.2 g j p n (h.2 g j p n e)⟩
theorem az.Bb{X Y:aw}(h:eW X Y)(hx:Ext X Y)(hβ:Y.β=X.β){j:Nat}{sv:SV}{v:Value}(hn:sv.bL=false)(hr:az X (.r j) sv v):az Y (.r j) sv v:=by
 cases sv with
 |undef=>trivial
 |skip=>exact hr
 |cF=>exact hr
 |dT=>exact hr
 |over=>exact hr
 |aj t x own=>
  obtain⟨cs,h1,h2,h3⟩:=hr
  refine⟨cs,h1.mono hx,h2,fun p hp=> ?_⟩
  obtain⟨e,t',xs,v,g0,g1,g2,g3⟩:=h3 p hp
  refine⟨e,t',xs,v,g0,g1,g2,?_⟩
  rcases g3 with ho|⟨g,cap,cur,k1,k2,k3,k4,k5,k6⟩
  ·exact .inl ho
  ·exact .inr ⟨g,cap,cur,k1,by rw[h.1];exact k2,k3,k4,k5,h.2 _ _ _ _ k6⟩
 |ptr id t p=>obtain⟨r,h1,h2⟩:=hr;exact⟨r,by rw[hβ];exact h1,h2⟩
 |view t x=>
  obtain⟨ad,cs,h1,h2,h3,h4⟩:=hr
  exact⟨ad,cs,h1,h2,h3.mono hx,fun i u hi=>hx.ay _ _ (h4 i u hi)⟩
 |cap f t x u y=>exact rV hx.ay hr
 |bz id a b k=>cases hn
theorem aea{X:aw}{i j:Nat}{q:List Nat->Place}:eW X (X.turn i j q):=⟨rfl,fun g j p n h=>by simp only[aw.turn,h]⟩
theorem ac1{X:aw}{id:Nat}{p:List Nat}{q:List Nat->Place}:eW X (X.gP id p q):=⟨rfl,fun g j p n h=>by simp only[aw.gP,h]⟩
theorem DV(hE:al P E):∀(rs:List ResultVar) (X:aw) (s s':State) (l:List SV) (j0:Nat),Rel X s a->gN E s rs=some (l,s')->
 ∃Y vs,Y.w=X.w/\Ext X Y/\eW X Y/\Y.β=X.β/\Rel Y s' a/\vs.length=l.length/\(∀(j:Nat) sv v,l[j]? =some sv->vs[j]? =some v->az Y (.r (j0+j)) sv v)/\l.any SV.bL=false/\
  (rs.mapM (m:=Sem) fun x=>match x with
    | .tmp t=>pure (a.tmps.getD t Go.undef)
    | .cell ad t=>do loadVar t (<-asAddr (a.tmps.getD ad Go.undef))).run P X.w= .ok vs X.w
 | [],X,s,s',l,j0,hr,h=>by
   simp only[gN,Option.some.injEq,Prod.mk.injEq] at h
   obtain⟨rfl,rfl⟩:=h
   exact⟨X,[],rfl,Ext.refl X,eW.refl X,rfl,hr,rfl,(fun j sv v hl=>by simp at hl),rfl,by simp⟩
 | .tmp t::r,X,s,s',l,j0,hr,h=>by
   simp only[gN] at h
   split at h
   case isTrue=>cases h
   rename_i dV
   have dV:(one (s.slot t)).bL=false:=by simpa using dV
   split at h
   case h_2=>cases h
   rename_i l1 s1 h1
   cases h
   have key:∃Y,Y.w=X.w/\Ext X Y/\eW X Y/\Y.β=X.β/\Rel Y (s.close [(t,0)]) a/\az Y (.r j0) (one (s.slot t)) (a.tmps.getD t Go.undef):=by
    have cC:=hr.aG (.tmp t)
    cases hs:one (s.slot t) with
    |aj ty x w=>
     have cC:az X (.c t 0) (one (s.slot t)) (a.tmps.getD t Go.undef):=cC
     rw[hs] at cC
     obtain⟨cs,g1,g2,g3⟩:=cC
     have hT:dY (s.close [(t,0)]) X (X.turn t 0 (.r j0)):=MP fun p=>cX.close
     exact⟨X.turn t 0 (.r j0),rfl,hT.ext,aea,rfl,(hr.close _).mod hT.mod,cs,g1.ai (fun _ _=>hT.ay.1),g2,g3.mm⟩
    |bz id c b n=>rw[hs] at dV;cases dV
    |_=>
     refine⟨X,rfl,Ext.refl X,eW.refl X,rfl,hr.close _,?_⟩
     have cC:az X (.c t 0) (one (s.slot t)) (a.tmps.getD t Go.undef):=cC
     rw[hs] at cC
     exact cC
   obtain⟨Y,hw,aZ,bP,hβ,bu,aL⟩:=key
   obtain⟨Z,vs,vA,cf,uD,hβ2,dc,hlen,nf,uv,aW⟩:=DV hE r Y _ s' l1 (j0+1) bu h1
   refine⟨Z,a.tmps.getD t Go.undef::vs,vA.trans hw,aZ.trans cf,bP.trans uD,hβ2.trans hβ,dc,by simp [hlen],fun j sv v hl hv=> ?_,?_,?_⟩
   ·cases j with
    |zero=>
     simp only[List.getElem?_cons_zero,Option.some.injEq] at hl hv
     subst hl hv
     exact aL.Bb uD cf hβ2 dV
    |succ j=>
     simp only[List.getElem?_cons_succ] at hl hv
     rw[show j0+(j+1)=j0+1+j by omega]
     exact nf j sv v hl hv
   ·simp only[List.any_cons,dV,uv,Bool.or_self]
   ·rw[hw] at aW
    simp only[List.mapM_cons,Sem.run_bind,Sem.run_pure,Result.andThen_ok,aW]
 | .cell p T::r,X,s,s',l,j0,hr,h=>by
   simp only[gN] at h
   split at h
   case h_2=>cases h
   rename_i id tt t ix hT
   split at h
   case h_2=>cases h
   rename_i B hB
   split at h
   case isFalse=>cases h
   rename_i heq
   rw[Bool.and_eq_true] at heq
   have eh:tt.bG=false:=by simpa using heq.2
   have hte:=Ty.aI heq.1
   have ZU:B.t.bG=false:=hte▸hE.iU hT
   split at h
   case h_2=>cases h
   rename_i l1 s1 h1
   cases h
   have hb:=qJ hB
   obtain⟨r0,hβ,ua⟩:=hr.boxes id B hb
   obtain⟨cs,T',aE,aL,how,bS⟩:=ua.cells ZU
   have ew:=hr.slot p
   rw[ix] at ew
   obtain⟨r1,hβ1,hvp⟩:az X (.c p 0) (.ptr id tt []) (a.tmps.getD p Go.undef):=ew
   obtain⟨hv,_⟩:=(qH eh).1 hvp
   rw[hβ] at hβ1
   cases hβ1
   have eR:Rel X (s.aC (some (id,{B with own:=[]}))) a:=hr.ml hb hβ ⟨how,dz.of ZU aE aL mD⟩ (.inl (Rp ZU))
   have GI:∀q,¬cX (s.aC (some (id,{B with own:=[]}))) (.b id ([]++q)):=by
    rintro q ⟨B2,cW,hp⟩
    rw[SZ hb] at cW
    cases cW
    cases hp
   have mz:=zwh (X:=X) (q:= .r j0) GI
   have KJ:az (X.gP id [] (.r j0)) (.r j0) (.aj B.t B.x B.own) (dR B.t cs.toList):=by
    refine⟨cs.toList,aL.ai (fun _ _=>mz.ay.1),rfl,fun q hq=> ?_⟩
    obtain⟨e,t',xs,v,g0,g1,g2,g3⟩:=bS q hq
    exact⟨e,t',xs,v,g0,g1,g2,bp.qE (p:=[]) g3⟩
   obtain⟨Z,vs,vA,cf,uD,hβ2,dc,hlen,nf,uv,aW⟩:=DV hE r (X.gP id [] (.r j0)) _ s' l1 (j0+1) (eR.mod mz.mod) h1
   refine⟨Z,dR B.t cs.toList::vs,vA,mz.ext.trans cf,ac1.trans uD,hβ2,dc,by simp [hlen],fun j sv v hl hv=> ?_,?_,?_⟩
   ·cases j with
    |zero=>
     simp only[List.getElem?_cons_zero,Option.some.injEq] at hl hv
     subst hl hv
     exact KJ.Bb uD cf hβ2 rfl
    |succ j=>
     simp only[List.getElem?_cons_succ] at hl hv
     rw[show j0+(j+1)=j0+1+j by omega]
     exact nf j sv v hl hv
   ·simpa [SV.bL] using uv
   ·have hl:=Bj (P:=P) hE (hte▸hT:E.ty T=some B.t) aL (ad:=⟨r0,0,none⟩) (w:=X.w) (fun i v hi=>by
     rw[iK,Nat.zero_add]
     simp only[World.cell?,aE]
     simpa using hi)
    have hw3:(X.gP id [] (.r j0)).w=X.w:=rfl
    rw[hw3] at aW
    have jh:a.tmps.getD p Go.undef= .pointer (some ⟨r0,0,none⟩):=by simpa [Ty.off] using hv
    have ha:(asAddr (.pointer (some ⟨r0,0,none⟩))).run P X.w= .ok ⟨r0,0,none⟩ X.w:=by simp [asAddr]
    simp only[List.mapM_cons,Sem.run_bind,Sem.run_pure,Result.andThen_ok,aW,jh,ha,hl]
def aw.zero(X:aw)(id:Nat):aw:=
 {X with ow:=fun g=>match X.ow g with
  | .box bc=>if bc=id then .box 0 else .box bc
  | .row (.b bc p) n=>if bc=id then .row (.b 0 p) n else .row (.b bc p) n
  |w=>w}
theorem G7{id:Nat}{ad:Addr}{v:Value}(h:X.ay ad v):(X.zero id).ay ad v:=by
 refine⟨h.1,h.2.1,?_⟩
 have:=h.2.2
 simp only[aw.zero]
 cases hx:X.ow ad.block with
 |box i=>rw[hx] at this;exact this.elim
 |row pl n=>
  rw[hx] at this
  cases pl with
  |b i p=>simp only;split<;>exact this
  |_=>exact this
 |_=>rw[hx] at this;exact this
theorem ak8{id:Nat}:Ext X (X.zero id) where
 ay:=fun _ _=>G7
 size:=Nat.le_refl _
 os:=rfl
 tape:=rfl
 output:=rfl
 β0:=rfl
 still:=fun g _ bP=>by
  refine⟨?_,rfl⟩
  simp only[aw.zero]
  cases hx:X.ow g with
  |box i=>rw[hx] at bP;exact bP.elim
  |row pl n=>rw[hx] at bP;exact bP.elim
  |_=>rfl
theorem bD.zero{id r:Nat}{B:bC}(h:bD X id r B):bD (X.zero id) 0 r B:=by
 obtain⟨h3,h1⟩:=h
 refine⟨by simp [aw.zero,h3],h1.move (fun _ _=>G7) rfl (fun cs h4 p hp=> ?_) fun _ _ g o _ ho hw=>⟨ho,by simp [aw.zero,hw]⟩⟩
 obtain⟨e,t',xs,v,g0,g1,g2,g3⟩:=h4 p hp
 refine⟨e,t',xs,v,g0,g1,g2,?_⟩
 rcases g3 with ho|⟨g,cap,cur,k1,k2,k3,k4,k5,k6⟩
 ·exact .inl ho
 ·exact .inr ⟨g,cap,cur,k1,k2,k3,k4,k5,by simp [aw.zero,k6]⟩
theorem az.zero{id j r0:Nat}{sv:SV}{v:Value}(hp:∀bc t p,sv= .ptr bc t p->X.β bc=some r0)(hn:sv.bL=false)(h:az X (.r j) sv v):az {X.zero id with β:=fun _=>some r0} (.r j) (sv.gy 0) v:=by
 cases sv with
 |undef=>trivial
 |skip=>exact h
 |cF=>exact h
 |dT=>exact h
 |over=>exact h
 |aj t x own=>
  obtain⟨cs,h1,h2,h3⟩:=h
  refine⟨cs,bg.ai (Y:={X.zero id with β:=fun _=>some r0}) (fun ad v hs=>(G7 hs:(X.zero id).ay ad v)) h1,h2,fun p hp=> ?_⟩
  obtain⟨e,t',xs,v,g0,g1,g2,g3⟩:=h3 p hp
  refine⟨e,t',xs,v,g0,g1,g2,?_⟩
  rcases g3 with ho|⟨g,cap,cur,k1,k2,k3,k4,k5,k6⟩
  ·exact .inl ho
  ·exact .inr ⟨g,cap,cur,k1,k2,k3,k4,k5,by simp [aw.zero,k6]⟩
 |ptr bc t p=>
  obtain⟨r,h1,h2⟩:=h
  have:=hp bc t p rfl
  rw[h1] at this
  cases this
  exact⟨r0,rfl,h2⟩
 |view t x=>
  obtain⟨ad,cs,h1,h2,h3,h4⟩:=h
  exact⟨ad,cs,h1,h2,bg.ai (Y:={X.zero id with β:=fun _=>some r0}) (fun ad v hs=>(G7 hs:(X.zero id).ay ad v)) h3,fun i u hi=>(G7 (h4 i u hi):(X.zero id).ay _ _)⟩
 |cap f t x u y=>exact rV (Y:={X.zero id with β:=fun _=>some r0}) (fun ad v hs=>(G7 hs:(X.zero id).ay ad v)) h
 |bz bc a b k=>cases hn
theorem az.anyβ{j r0:Nat}{sv:SV}{v:Value}(hp:∀bc t p,sv≠ .ptr bc t p)(hn:sv.bL=false)(h:az X (.r j) sv v):az {X with β:=fun _=>some r0} (.r j) sv v:=by
 cases sv with
 |undef=>trivial
 |skip=>exact h
 |cF=>exact h
 |dT=>exact h
 |over=>exact h
 |aj t x own=>
  obtain⟨cs,h1,h2,h3⟩:=h
  exact⟨cs,bg.ai (X:=X) (Y:={X with β:=fun _=>some r0}) (fun ad v (hs:X.ay ad v)=>(hs:({X with β:=fun _=>some r0}:aw).ay ad v)) h1,h2,h3⟩
 |ptr bc t p=>exact absurd rfl (hp bc t p)
 |view t x=>
  obtain⟨ad,cs,h1,h2,h3,h4⟩:=h
  exact⟨ad,cs,h1,h2,bg.ai (X:=X) (Y:={X with β:=fun _=>some r0}) (fun ad v (hs:X.ay ad v)=>(hs:({X with β:=fun _=>some r0}:aw).ay ad v)) h3,h4⟩
 |cap f t x u y=>exact rV (X:=X) (Y:={X with β:=fun _=>some r0}) (fun ad v (hs:X.ay ad v)=>(hs:({X with β:=fun _=>some r0}:aw).ay ad v)) h
 |bz bc a b k=>cases hn
theorem TE:∀{l:List SV} {id:Nat} {t:Ty} {p:List Nat},SV.ptr id t p∈l->id∈BM l
 |v::r,id,t,p,h=>by
  rcases List.mem_cons.1 h with e|h
  ·subst e;simp [BM]
  ·have:=TE h
   cases v<;>simp [BM,this]
theorem DU{l:List SV}{vs:List Value}(hlen:vs.length=l.length)(h:∀(j:Nat) sv v,l[j]? =some sv->vs[j]? =some v->az X (.r j) sv v):cM X .r l (if h:vs.toArray.size=1 then vs.toArray[0] else .tuple vs.toArray):=by
 match l,vs,hlen with
 | [sv],[v],_=>exact h 0 sv v rfl rfl
 | [],[],_=>exact⟨#[],rfl,rfl,fun j s u hs=>by simp at hs⟩
 |x::y::r,u::v::w,hlen=>
  refine⟨(u::v::w).toArray,by simp,by simpa using hlen,fun j s z hs hz=>h j s z hs (by simpa using hz)⟩
theorem ack{Z:aw}{s':State}{b:Option bC}{l' r:List SV}{b':Option bC}{vs:List Value}(hX:Ext X Z)(dc:Rel Z s' a)(hlen:vs.length=l'.length)(iQ:∀(j:Nat) sv v,l'[j]? =some sv->vs[j]? =some v->az Z (.r j) sv v)
 (dV:l'.any SV.bL=false) (fc:HK s' b l' (fun r b=>some (r,b))=some (r,b')):∃Y',Y'.w=Z.w/\Ext X Y'/\yt X Y' b r b' (if h:vs.toArray.size=1 then vs.toArray[0] else .tuple vs.toArray):=by
 unfold HK at fc
 cases b with
 |some B=>
  cases hp:BM l' with
  |cons _ _=>rw[hp] at fc;cases fc
  |nil=>
   rw[hp] at fc
   have nJ:∀id t p,SV.ptr id t p∉l':=fun id t p hm=>by
    have:=TE hm
    rw[hp] at this;cases this
   cases eD:s'.box 0 with
   |none=>simp only[eD] at fc;cases fc
   |some B'=>
    simp only[eD] at fc
    cases fc
    obtain⟨r0,h3,h4⟩:=dc.boxes 0 B' (qJ eD)
    refine⟨Z,rfl,hX,r0,DU hlen fun j sv v h1 h2=>(iQ j sv v h1 h2).anyβ (fun id t p e=>nJ id t p (e▸List.mem_of_getElem? h1)) (by simpa using List.any_eq_false.1 dV sv (List.mem_of_getElem? h1)),fun B2 cW=> ?_,fun _=>nJ,dV⟩
    cases cW
    exact⟨h4,fun _=>by rw[<-hX.β0];exact h3⟩
 |none=>
  cases hp:BM l' with
  |nil=>
   rw[hp] at fc
   have nJ:∀id t p,SV.ptr id t p∉l':=fun id t p hm=>by
    have:=TE hm
    rw[hp] at this;cases this
   cases fc
   exact⟨Z,rfl,hX,0,DU hlen fun j sv v h1 h2=>(iQ j sv v h1 h2).anyβ (fun id t p e=>nJ id t p (e▸List.mem_of_getElem? h1)) (by simpa using List.any_eq_false.1 dV sv (List.mem_of_getElem? h1)),(fun B2 cW=>by cases cW),fun _=>nJ,dV⟩
  |cons id rest=>
   rw[hp] at fc
   cases rest with
   |cons _ _=>cases fc
   |nil=>
    cases hB:s'.box id with
    |none=>simp only[hB] at fc;cases fc
    |some B=>
     simp only[hB] at fc
     cases fc
     obtain⟨r0,h3,h4⟩:=dc.boxes id B (qJ hB)
     refine⟨Z.zero id,rfl,hX.trans ak8,r0,?_,fun B2 cW=> ?_,fun hh=> ?_,MG dV⟩
     ·refine DU (by simpa using hlen) fun j sv v h1 h2=> ?_
      rw[List.getElem?_map] at h1
      obtain⟨s0,fe,rfl⟩:=Option.map_eq_some_iff.1 h1
      refine(iQ j s0 v fe h2).zero (fun bc t p e=> ?_) (by simpa using List.any_eq_false.1 dV s0 (List.mem_of_getElem? fe))
      have:=TE (e▸List.mem_of_getElem? fe)
      rw[hp] at this
      simp only[List.mem_singleton] at this
      subst this
      exact h3
     ·cases cW
      exact⟨h4.zero,fun hh=>by cases hh⟩
     ·rcases hh with hh|hh<;>cases hh
theorem Tm:∀(ts:List Ty) (l:List SV),(aM ts l).length=l.length
 | [],l=>by simp [aM]
 |t::r,[]=>by simp [aM]
 |t::r,v::q=>by
  cases t<;>cases v<;>simp [aM,Tm r q]
theorem Mw{X:aw}:∀(ts:List Ty) (l:List SV) (i:Nat) (sv:SV) (v:Value),(aM ts l)[i]? =some sv->(∀sv,l[i]? =some sv->∃pl,az X pl sv v)->∀q,(∃xT,l[i]? =some xT/\(sv=xT\/sv=xT.shut\/xT= .cF))/\((∀xT,l[i]? =some xT->az X q xT v)->az X q sv v)
 | [],l,i,sv,v,h,_,q=>by
   have h:l[i]? =some sv:=by simpa [aM] using h
   exact⟨⟨sv,h,.inl rfl⟩,fun hh=>hh sv h⟩
 |t::r,[],i,sv,v,h,_,q=>by simp [aM] at h
 |t::r,x::y,i,sv,v,h,hx,q=>by
  cases i with
  |zero=>
   have key:(aM (t::r) (x::y))[0]? =some sv->(sv=x.shut)\/(x= .cF/\∃e u,sv= .aj (.sl e u) ([]:List (El u)) []):=by
    intro h
    cases t<;>cases x<;>simp only[aM,List.getElem?_cons_zero,Option.some.injEq] at h<;>first|exact .inl h.symm|exact .inr ⟨rfl,_,_,h.symm⟩
   rcases key h with rfl|⟨rfl,e,u,rfl⟩
   ·exact⟨⟨x,rfl,.inr (.inl rfl)⟩,fun hh=>(hh x rfl).shut⟩
   ·refine⟨⟨_,rfl,.inr (.inr rfl)⟩,fun hh=> ?_⟩
    have:=hh _ rfl
    exact⟨[.slice none 0 0],⟨none,0,rfl,Nat.le_refl _,fun j x hj=>by simp at hj⟩,this,mD⟩
  |succ i=>
   have h':(aM r y)[i]? =some sv:=by
    cases t<;>cases x<;>simpa [aM] using h
   have:=Mw r y i sv v h' (fun sv hs=>hx sv (by simpa using hs)) q
   simpa using this
theorem ag6{ts:List Ty}{l:List SV}{id:Nat}{t:Ty}{p:List Nat}(h:SV.ptr id t p∈aM ts l):SV.ptr id t p∈l:=by
 induction ts generalizing l with
 |nil=>simpa [aM] using h
 |cons u r ih=>
  cases l with
  |nil=>simp [aM] at h
  |cons v q=>
   have key:SV.ptr id t p=v.shut\/SV.ptr id t p∈aM r q:=by
    cases u<;>cases v<;>simp [aM,SV.shut] at h⊢ <;>first|exact h|exact .inr h|skip
   rcases key with e|hm
   ·rw[TF e.symm];simp
   ·exact List.mem_cons_of_mem _ (ih hm)
theorem ag5{ts:List Ty}{l:List SV}{id j:Nat}{c d:Ty}(h:SV.bz id c d j∈aM ts l):SV.bz id c d j∈l:=by
 induction ts generalizing l with
 |nil=>simpa [aM] using h
 |cons u r ih=>
  cases l with
  |nil=>simp [aM] at h
  |cons v q=>
   have key:SV.bz id c d j=v.shut\/SV.bz id c d j∈aM r q:=by
    cases u<;>cases v<;>simp [aM,SV.shut] at h⊢ <;>first|exact h|exact .inr h|skip
   rcases key with e|hm
   ·have:=zrc v
    rw[<-e] at this
    cases this
   ·exact List.mem_cons_of_mem _ (ih hm)
theorem am0(hE:al P E)(hm:P.follows .mixedOrders=true){C C0:ah}(hC0:C0.Nat)(ZJ:∀f,cY P C0 f){f:FuncId}{fn:Func}{code:Code}(iJ:P.funcs[f]? =some fn)(ur:(fn.name== "runtime.NumGoroutine")=false)(qv:fn.body=some code)
 (hC:∀(l:List SV) (b:Option bC) (r:List SV) (b':Option bC),C (List SV×Option bC) f l b (fun r b=>some (r,b))=some (r,b')->∃k,jB E (C0 (List SV×Option bC)) k fn code l b (fun r b=>some (r,b))=some (r,b')):cY P C f:=by
 intro l b r b' h
 refine⟨⟨fn,code,iJ,ur,qv⟩,fun X args hI=> ?_⟩
 obtain⟨k,h⟩:=hC l b r b' h
 unfold jB at h
 cases hg:(E.sp.isSome&&b.isSome) with
 |true=>rw[hg] at h;cases h
 |false=>
 rw[hg,cond_false] at h
 have hF:Fr E X:=fun bJ=>hI.rows (by
  cases hE2:E.sp with
  |none=>exact absurd hE2 bJ
  |some z=>
   cases b with
   |none=>rfl
   |some B=>rw[hE2] at hg;cases hg)
 simp only at h
 obtain⟨⟨e,s⟩,h1,h2⟩:=jP (vQ hC0 code _ (fun e s=>some (e,s)) (K:=fun z=>match z.1 with
  | .exit _=>none
  |_=>match gN E z.2 fn.results.toList with
   |some (l,s')=>HK s' b (gM E l) (fun r b=>some (r,b))
   |none=>none) (fun e s=>by cases e<;>rfl) _) h
 refine calls_of_wp iJ qv ?_
 have dm:=hI.size
 refine Fi hE hm hC0 ZJ k code X X _ _ e s hF (Ext.refl X) (?_:Rel X _ _) h1 _ fun Y a' aZ bu=> ?_
 ·have dV:=Tm E.ps l
  refine⟨by simp [dm,dV],by simp [dV],fun i sl v hs hv=> ?_,fun id B hB=> ?_,fun i sl id t p hs hm=> ?_,rfl,fun i sl id c d n hs hm=> ?_⟩
  ·by_cases hi:i<l.length
   ·rw[List.getElem?_append_left (by simpa [dV] using hi),List.getElem?_map] at hs
    obtain⟨sv,jL,rfl⟩:=Option.map_eq_some_iff.1 hs
    rw[Array.getElem?_append_left (by omega)] at hv
    exact(Mw E.ps l i sv v jL (fun sv h0=>⟨_,hI.rep i sv v h0 hv⟩) (.c i 0)).2 fun xT h0=>hI.rep i xT v h0 hv
   ·rw[List.getElem?_append_right (by simp [dV];omega),List.getElem?_replicate] at hs
    split at hs
    ·cases hs;trivial
    ·cases hs
  ·cases id with
   |zero=>
    simp only[List.getElem?_cons_zero,Option.some.injEq] at hB
    exact hI.box B hB
   |succ id=>
    simp only[List.getElem?_cons_succ,List.getElem?_replicate] at hB
    split at hB<;>cases hB
  ·by_cases hi:i<l.length
   ·rw[List.getElem?_append_left (by simpa [dV] using hi),List.getElem?_map] at hs
    obtain⟨sv,jL,rfl⟩:=Option.map_eq_some_iff.1 hs
    simp only[List.mem_singleton] at hm
    subst hm
    obtain⟨rfl,hb⟩:=hI.ptr id t p (ag6 (List.mem_of_getElem? jL))
    cases b with
    |none=>cases hb
    |some B=>exact⟨B,rfl⟩
   ·rw[List.getElem?_append_right (by simp [dV];omega),List.getElem?_replicate] at hs
    split at hs
    ·cases hs;simp at hm
    ·cases hs
  ·exfalso
   by_cases hi:i<l.length
   ·rw[List.getElem?_append_left (by simpa [dV] using hi),List.getElem?_map] at hs
    obtain⟨sv,jL,rfl⟩:=Option.map_eq_some_iff.1 hs
    simp only[List.mem_singleton] at hm
    subst hm
    exact YW hI.oM (ag5 (List.mem_of_getElem? jL))
   ·rw[List.getElem?_append_right (by simp [dV];omega),List.getElem?_replicate] at hs
    split at hs
    ·cases hs;simp at hm
    ·cases hs
 ·
  have aac:∃l s',gN E s fn.results.toList=some (l,s')/\HK s' b (gM E l) (fun r b=>some (r,b))=some (r,b')/\(e= .normal\/e= .ret):=by
   cases e with
   |exit id=>cases h2
   |normal=>
    simp only at h2
    split at h2
    ·exact⟨_,_,by assumption,h2,.inl rfl⟩
    ·cases h2
   |ret=>
    simp only at h2
    split at h2
    ·exact⟨_,_,by assumption,h2,.inr rfl⟩
    ·cases h2
  obtain⟨l',s',eR,fc,he⟩:=aac
  obtain⟨Z,vs,hw,cf,bP,hβ,dc,hlen,nf,ZV,aW⟩:=DV hE fn.results.toList Y s s' l' 0 bu eR
  have AO:(results fn a'.tmps).run P Y.w= .ok (if h:vs.toArray.size=1 then vs.toArray[0] else .tuple vs.toArray) Y.w:=by
   unfold results
   simp only[Array.mapM_eq_mapM_toList,Sem.run_bind,Sem.run_map,Sem.run_pure,Result.andThen_ok]
   exact congrArg (fun r:Result (List Value)=>(r.andThen fun a w'=>Result.ok a.toArray w').andThen fun a w'=>Result.ok (if h:a.size=1 then a[0] else Value.tuple a) w') aW
  have hX:Ext X Z:=aZ.trans cf
  have iQ:∀(j:Nat) sv v,l'[j]? =some sv->vs[j]? =some v->az Z (.r j) sv v:=fun j sv v h1 h2=>by
   have:=nf j sv v h1 h2
   rwa [Nat.zero_add] at this
  have Ku:vs.length=(gM E l').length:=by
   unfold gM
   cases E.ro<;>simpa using hlen
  have CF:∀(j:Nat) sv v,(gM E l')[j]? =some sv->vs[j]? =some v->az Z (.r j) sv v:=fun j sv v h1 h2=>by
   unfold gM at h1
   cases hro:E.ro with
   |false=>rw[hro] at h1;exact iQ j sv v h1 h2
   |true=>
    rw[hro,cond_true,List.getElem?_map] at h1
    obtain⟨s0,fe,rfl⟩:=Option.map_eq_some_iff.1 h1
    exact az.fG (iQ j s0 v fe h2)
  have uv:(gM E l').any SV.bL=false:=by
   unfold gM
   cases E.ro with
   |false=>exact ZV
   |true=>exact zj1 l'
  have fin:=ack (b:=b) hX dc Ku CF uv fc
  obtain⟨Y',Sw,hX',hL⟩:=fin
  have Sw:=Sw.trans hw
  rcases he with rfl|rfl
  ·exact⟨bu.defers,_,AO,Y',Sw,hX',hL⟩
  ·exact⟨bu.defers,_,AO,Y',Sw,hX',hL⟩
end Go.Ref

namespace Go.Ref
open Go
variable {P:Program} {E:Env}
def Wf:(t:Ty)->El t->Prop
 | .bool,_=>True
 | .int k,n=>(Lit.int k n).wf=true
 | .str,s=>s.size<=maxLen
 | .sl _ t,xs=>List.length xs<=maxLen/\∀x∈(xs:List (El t)),Wf t x
 | .arr n t,xs=>List.length xs=n/\∀x∈(xs:List (El t)),Wf t x
 | .unit,_=>True
 | .pair a b,x=>Wf a x.1/\Wf b x.2
 | .aJ _ _ _,_=>False
theorem GX(hE:al P E){T:TypeId}{t:Ty}(ht:E.ty T=some t):P.cellsOf T=t.cells:=by
 obtain⟨i,h1,h2,_⟩:=(hE.ty T t ht).info
 simp [Program.cellsOf,h1,h2]
def Ty.gA:Ty->Bool
 | .sl _ t=> !(Nat.beq t.cells 0)&&t.gA
 | .arr _ t=>t.gA
 | .pair a b=>a.gA&&b.gA
 |_=>true
def vg(w:World)(β:Nat->Option Nat):aw:=⟨w,fun _=> .all,β⟩
theorem ag8{w:World}{β:Nat->Option Nat}{a:Addr}{v:Value}(h:w.cell? a=some v):(vg w β).ay a v:=⟨World.cell?_spot h,h,trivial⟩
theorem zoj{α:Type}{n:Nat}{p:Nat->α->Prop}(h:∀i,i<n->∃x,p i x):∃xs:List α,xs.length=n/\∀(i:Nat) x,xs[i]? =some x->p i x:=by
 induction n with
 |zero=>exact⟨[],rfl,fun i x hi=>by simp at hi⟩
 |succ n ih=>
  obtain⟨xs,h1,h2⟩:=ih fun i hi=>h i (by omega)
  obtain⟨y,hy⟩:=h n (by omega)
  refine⟨xs++ [y],by simp [h1],fun i x hi=> ?_⟩
  rw[List.getElem?_append] at hi
  split at hi
  ·exact h2 i x hi
  ·rename_i aq
   have oC:i-xs.length=0:=by
    have:=(List.getElem?_eq_some_iff.1 hi).1
    simp at this
    omega
   rw[oC] at hi
   simp only[List.getElem?_cons_zero,Option.some.injEq] at hi
   subst hi
   have:i=n:=by omega
   subst this
   exact hy
section
variable {H:Type} {enc:TypeId×Value->H} {w:World} {base:Nat} {spare:Nat->Bool} {held:Bool} {β:Nat->Option Nat}
theorem anc(hE:al P E):∀t:Ty,
 (∀(T:TypeId) (cq:Nat) (cs:List Value) (x:DataW H×List MemPlace),E.ty T=some t->t.gA=true->DataW.trod enc P w base spare held cq T cs=some x->∃y:El t,bg (vg w β) t y cs/\Wf t y)/\
 (∀(fl:List Field) (off cq:Nat) (cs:List Value),js E fl t off->t.gA=true->off+t.cells<=cs.length->(∀f∈fl,∃x,DataW.trod enc P w base spare held cq f.type ((cs.drop f.offset).take (P.cellsOf f.type))=some x)->
   ∃y:El t,bg (vg w β) t y ((cs.drop off).take t.cells)/\Wf t y):=by
 intro t
 have lC:∀{t:Ty},t.dk=false->t≠ .unit->∀(fl:List Field) (off:Nat),¬js E fl t off:=by
  intro t h1 h2 fl off h
  cases t<;>cases fl<;>simp_all [js,Ty.dk]
 induction t with
 |aJ k a b _ _=>exact⟨fun T cq cs x hT gk h=>absurd (hE.iU hT) (by simp [Ty.bG]),fun fl off cq cs hf=>absurd hf (lC rfl (by simp) fl off)⟩
 |bool=>
  refine⟨fun T cq cs x hT gk h=> ?_,fun fl off cq cs hf=>absurd hf (lC rfl (by simp) fl off)⟩
  have hu:=(hE.ty T _ hT).dw
  cases cq with
  |zero=>simp [DataW.trod] at h
  |succ m=>
   unfold DataW.trod at h
   rw[hu] at h
   split at h<;>try(first|cases h;done|(simp_all;done))
   rename_i b _
   exact⟨b,rfl,trivial⟩
 |int k=>
  refine⟨fun T cq cs x hT gk h=> ?_,fun fl off cq cs hf=>absurd hf (lC rfl (by simp) fl off)⟩
  have hu:=(hE.ty T _ hT).dw
  cases cq with
  |zero=>simp [DataW.trod] at h
  |succ m=>
   unfold DataW.trod at h
   rw[hu] at h
   split at h<;>simp_all
   rename_i k1 k2 n hk
   subst hk
   exact⟨n,rfl,h.1.2⟩
 |str=>
  refine⟨fun T cq cs x hT gk h=> ?_,fun fl off cq cs hf=>absurd hf (lC rfl (by simp) fl off)⟩
  have hu:=(hE.ty T _ hT).dw
  cases cq with
  |zero=>simp [DataW.trod] at h
  |succ m=>
   unfold DataW.trod at h
   rw[hu] at h
   split at h<;>simp_all
   rename_i s
   exact⟨s,rfl,h.1⟩
 |sl e t ih=>
  refine⟨fun T cq cs x hT gk h=> ?_,fun fl off cq cs hf=>absurd hf (lC rfl (by simp) fl off)⟩
  obtain⟨hu,he⟩:=(hE.ty T _ hT).dw
  have hc:=GX hE he
  rcases Go.Deep.open_slice hu h with⟨rfl,_⟩|⟨a,len,cap,m,n,D,Pl,rfl,hb,hl,hm,GH,_,fO⟩
  ·exact⟨[],⟨none,0,rfl,Nat.le_refl _,fun j x hj=>by simp at hj⟩,by simp [maxLen],fun x hx=>by cases hx⟩
  ·have hlm:len<=m:=by rw[GH];split<;>omega
   have hk:0<t.cells/\t.gA=true:=by
    simp only[Ty.gA,Bool.and_eq_true,Bool.not_eq_true'] at gk
    refine⟨?_,gk.2⟩
    rcases Nat.eq_zero_or_pos t.cells with h0|h0
    ·rw[h0] at gk;simp at gk
    ·exact h0
   obtain⟨ys,h1,h2⟩:=zoj (n:=len) (p:=fun i (y:El t)=>∃eJ,w.cells? base (a.add (i*t.cells)) t.cells=some eJ/\bg (vg w β) t y eJ/\Wf t y) (fun i hi=>by
    obtain⟨eJ,g1,g2⟩:=fO i (by omega)
    rw[hc] at g1
    obtain⟨y,k1,k2⟩:=ih.1 e n eJ _ he hk.2 g2
    exact⟨y,eJ,g1,k1,k2⟩)
   refine⟨ys,bg.xS h1 hl (fun j y hj=> ?_),by show ys.length<=_;omega,fun y hy=> ?_⟩
   ·obtain⟨eJ,g1,g2,g3⟩:=h2 j y hj
    obtain⟨_,hlen,dO⟩:=World.cells?_some g1
    have hj0:=(List.getElem?_eq_some_iff.1 hj).1
    obtain⟨c0,e1,_⟩:=h2 0 _ (List.getElem?_eq_getElem (by omega))
    obtain⟨_,ao3,Cm⟩:=World.cells?_some e1
    have AQ:a.spot=none:=by
     have:=Cm 0 (by omega)
     rw[List.getElem?_eq_getElem (by omega)] at this
     have h3:=World.cell?_spot this
     simpa [Addr.add] using h3
    refine⟨a,eJ,rfl,AQ,g2,fun i v hi=>ag8 ?_⟩
    have hil:=(List.getElem?_eq_some_iff.1 hi).1
    have:=dO i (by omega)
    rw[Rh a AQ,hi] at this
    exact this
   ·obtain⟨i,hi⟩:=List.mem_iff_getElem?.1 hy
    obtain⟨eJ,_,_,g3⟩:=h2 i y hi
    exact g3
 |arr n t ih=>
  refine⟨fun T cq cs x hT gk h=> ?_,fun fl off cq cs hf=>absurd hf (lC rfl (by simp) fl off)⟩
  obtain⟨e,hu,he,_⟩:=(hE.ty T _ hT).dw
  have hc:=GX hE he
  have Kj:=GX hE hT
  obtain⟨xs,m,rfl,_,hl,AW,fO⟩:=DataW.trod_array hu h
  obtain⟨ys,h1,h2⟩:=zoj (n:=n) (p:=fun i (y:El t)=>bg (vg w β) t y ((cs.drop (i*t.cells)).take t.cells)/\Wf t y) (fun i hi=>by
   have g:=fO i hi
   rw[hc,List.getElem?_eq_getElem (by omega)] at g
   exact ih.1 e m _ _ he gk g)
  refine⟨ys,⟨h1,by rw[hl,Kj];rfl,fun j y hj=>(h2 j y hj).1⟩,h1,fun y hy=> ?_⟩
  obtain⟨i,hi⟩:=List.mem_iff_getElem?.1 hy
  exact(h2 i y hi).2
 |unit=>
  refine⟨fun T cq cs x hT gk h=> ?_,fun fl off cq cs hf gk hle cR=>⟨(),by simp [Ty.cells,bg],trivial⟩⟩
  obtain⟨fs,hu,di,_⟩:=(hE.ty T _ hT).dw
  have Kj:=GX hE hT
  obtain⟨xs,m,rfl,_,hl,_⟩:=DataW.trod_struct hu h
  rw[Kj] at hl
  refine⟨(),?_,trivial⟩
  exact List.eq_nil_of_length_eq_zero hl
 |pair ta tb me mf=>
  have step:∀(fl:List Field) (off cq:Nat) (cs:List Value),js E fl (.pair ta tb) off->(Ty.pair ta tb).gA=true->off+(Ty.pair ta tb).cells<=cs.length->(∀f∈fl,∃x,DataW.trod enc P w base spare held cq f.type ((cs.drop f.offset).take (P.cellsOf f.type))=some x)->
   ∃y:El (.pair ta tb),bg (vg w β) (.pair ta tb) y ((cs.drop off).take (Ty.pair ta tb).cells)/\Wf (.pair ta tb) y:=by
   intro fl off cq cs hf gk hle cR
   cases fl with
   |nil=>simp [js] at hf
   |cons f fl=>
    obtain⟨f1,f2,f3,f4⟩:=hf
    simp only[Ty.gA,Bool.and_eq_true] at gk
    simp only[Ty.cells] at hle
    obtain⟨x,hx⟩:=cR f (by simp)
    rw[GX hE f2,f1] at hx
    obtain⟨y1,r1,w1⟩:=me.1 f.type cq _ x f2 gk.1 hx
    obtain⟨y2,r2,w2⟩:=mf.2 fl (off+ta.cells) cq cs f4 gk.2 (by omega) (fun g hg=>cR g (List.mem_cons_of_mem _ hg))
    refine⟨(y1,y2),⟨_,_,?_,r1,r2⟩,w1,w2⟩
    simp only[Ty.cells]
    rw[<-List.drop_drop]
    exact List.take_add
  refine⟨fun T cq cs x hT gk h=> ?_,step⟩
  obtain⟨fs,hu,di,_⟩:=(hE.ty T _ hT).dw
  have Kj:=GX hE hT
  obtain⟨xs,m,rfl,_,hl,AW,fO⟩:=DataW.trod_struct hu h
  rw[Kj] at hl
  obtain⟨y,r,wf⟩:=step fs.toList 0 m cs di gk (by omega) (fun f hf=>by
   obtain⟨i,hi⟩:=List.mem_iff_getElem?.1 hf
   have xt:fs[i]? =some f:=by simpa using hi
   have:=fO i f xt
   have aq:=(List.getElem?_eq_some_iff.1 hi).1
   rw[List.getElem?_eq_getElem (by simp at aq;omega)] at this
   exact⟨_,this⟩)
  refine⟨y,?_,wf⟩
  rw[List.drop_zero,<-hl,List.take_length] at r
  exact r
end
end Go.Ref

namespace Go.Ref
open Go
variable {P:Program} {E:Env}
def E0:Value->Value->Bool
 | .bool a,.bool b=>a==b
 | .int k a,.int j b=>decide (k=j)&&decide (a=b)
 | .string a,.string b=>Nat.beq a.size 0&&Nat.beq b.size 0
 | .slice none 0 0,.slice none 0 0=>true
 |_,_=>false
theorem zon{a:ByteArray}(h:a.size=0):a=⟨#[]⟩:=by
 cases a with
 |mk d=>
  have:d.size=0:=h
  have:=Array.eq_empty_of_size_eq_zero this
  rw[this]
theorem agm{a b:Value}(h:E0 a b=true):a=b:=by
 unfold E0 at h
 split at h
 ·simp at h;rw[h]
 ·simp at h;rw[h.1,h.2]
 ·simp only[Bool.and_eq_true] at h
  rw[zon (Nat.eq_of_beq_eq_true h.1),zon (Nat.eq_of_beq_eq_true h.2)]
 ·rfl
 ·cases h
def Hu:List Value->List Value->Bool
 | [],[]=>true
 |a::r,b::q=>E0 a b&&Hu r q
 |_,_=>false
theorem SW:∀{a b:List Value},Hu a b=true->a=b
 | [],[],_=>rfl
 |a::r,b::q,h=>by
  simp only[Hu,Bool.and_eq_true] at h
  rw[agm h.1,SW h.2]
def E9(t:Ty)(v:Value):Bool:=
 match v with
 | .agg cs=>t.agg&&Hu cs.toList (zp t)
 |v=> !t.agg&&Hu [v] (zp t)
theorem ahR{t:Ty}{v:Value}(h:E9 t v=true):v=dR t (zp t):=by
 unfold E9 at h
 split at h
 ·simp only[Bool.and_eq_true] at h
  rw[jJ h.1,<-SW h.2]
 ·simp only[Bool.and_eq_true,Bool.not_eq_true'] at h
  rw[<-SW h.2,Ro h.1]
def rF(E:Env):List Field->Ty->Nat->Bool
 | [],.unit,_=>true
 |f::r,.pair a b,off=>Nat.beq f.offset off&&((match E.ty f.type with
  |some t=>t.cp a
  |none=>false)&&(!(f.name== "_")&&rF E r b (off+a.cells)))
 |_,_,_=>false
theorem zqz:∀{fl:List Field} {t:Ty} {off:Nat},rF E fl t off=true->js E fl t off
 | [],t,off,h=>by cases t<;>simp_all [rF,js]
 |f::r,t,off,h=>by
  cases t<;>simp only[rF,Bool.and_eq_true] at h<;>try(cases h;done)
  obtain⟨h1,h2,h3,h4⟩:=h
  refine⟨Nat.eq_of_beq_eq_true h1,?_,?_,zqz h4⟩
  ·cases hf:E.ty f.type with
   |none=>rw[hf] at h2;cases h2
   |some u=>rw[hf] at h2;rw[Ty.aI h2]
  ·simpa using h3
def uY(E:Env)(T:TypeId)(t:Ty):Bool:=
 match E.ty T with
 |some u=>u.cp t
 |none=>false
theorem D0{T:TypeId}{t:Ty}(h:uY E T t=true):E.ty T=some t:=by
 unfold uY at h
 split at h
 ·rename_i u hu;rw[hu,Ty.aI h]
 ·cases h
def C4(P:Program)(E:Env)(T:TypeId)(t:Ty):Bool:=
 match P.underlying T,t with
 |some .bool,.bool=>true
 |some (.int k),.int j=>decide (k=j)
 |some .string,.str=>true
 |some (.slice e),.sl e' u=>Nat.beq e e'&&uY E e u
 |some (.array n e),.arr m u=>Nat.beq n m&&(uY E e u&& !P.eqGuardType P.depth T)
 |some (.struct fs),.unit=>rF E fs.toList .unit 0&&(!P.stoodInHeld T&& !P.eqGuardType P.depth T)
 |some (.struct fs),.pair a b=>rF E fs.toList (.pair a b) 0&&(!P.stoodInHeld T&& !P.eqGuardType P.depth T)
 |_,_=>false
theorem ak3{T:TypeId}{t:Ty}(h:C4 P E T t=true):Ps P E T t:=by
 unfold C4 at h
 split at h
 ·assumption
 ·rename_i k j hu;rw[<-of_decide_eq_true h];exact hu
 ·assumption
 ·rename_i e e' u hu
  simp only[Bool.and_eq_true] at h
  have:=Nat.eq_of_beq_eq_true h.1
  subst this
  exact⟨hu,D0 h.2⟩
 ·rename_i n e m u hu
  simp only[Bool.and_eq_true] at h
  have:=Nat.eq_of_beq_eq_true h.1
  subst this
  exact⟨e,hu,D0 h.2.1,by simpa using h.2.2⟩
 ·rename_i fs hu
  simp only[Bool.and_eq_true,Bool.not_eq_true'] at h
  exact⟨fs,hu,zqz h.1,h.2.1,h.2.2⟩
 ·rename_i fs a b hu
  simp only[Bool.and_eq_true,Bool.not_eq_true'] at h
  exact⟨fs,hu,zqz h.1,h.2.1,h.2.2⟩
 ·cases h
def AY(P:Program)(E:Env)(T:TypeId)(t:Ty):Bool:=
 match P.info? T with
 |some i=>Nat.beq i.size t.cells&&(Nat.beq i.bytes (E.bytes T)&&match i.zero with
  |some v=>E9 t v
  |none=>false)
 |none=>false
def Cf(P:Program)(E:Env)(T:TypeId):Bool:=
 match E.ty T with
 |some t=>AY P E T t&&C4 P E T t
 |none=>true
theorem akd{T:TypeId}{t:Ty}(h:Cf P E T=true)(ht:E.ty T=some t):lU P E T t:=by
 unfold Cf at h
 rw[ht] at h
 simp only[Bool.and_eq_true] at h
 refine⟨?_,ak3 h.2⟩
 have h1:=h.1
 unfold AY at h1
 split at h1
 ·rename_i i hi
  simp only[Bool.and_eq_true] at h1
  obtain⟨g1,g2,g3⟩:=h1
  split at g3
  ·rename_i v hv
   exact⟨i,hi,Nat.eq_of_beq_eq_true g1,Nat.eq_of_beq_eq_true g2,by rw[hv,ahR g3]⟩
  ·cases g3
 ·cases h1
def SB(P:Program)(T:TypeId):Bool:=
 match P.underlying T,P.info? T with
 |some (.pointer _),some i=>Nat.beq i.size 1
 |_,_=>false
structure rf where
 GQ:List (Option Ty)
 Zh:List Nat
 A8:List Bool
 SA:List (TypeId×TypeId×TypeId):=[]
def xJ:List (TypeId×TypeId×TypeId)->TypeId->Option (TypeId×TypeId)
 | [],_=>none
 |q::r,T=>bif Nat.beq q.1 T then some q.2 else xJ r T
def mpB(P:Program)(q:TypeId×TypeId×TypeId):Bool:=
 match P.underlying q.1 with
 |some (.map k e)=>Nat.beq k q.2.1&&Nat.beq e q.2.2
 |_=>false
theorem OW{P:Program}:∀{l:List (TypeId×TypeId×TypeId)},l.all (mpB P)=true->∀{T k e:TypeId},xJ l T=some (k,e)->P.underlying T=some (.map k e)
 |q::r,hl,T,k,e,h=>by
  simp only[List.all_cons,Bool.and_eq_true] at hl
  unfold xJ at h
  cases hq:Nat.beq q.1 T with
  |false=>rw[hq] at h;exact OW hl.2 h
  |true=>
   rw[hq] at h
   have:=Nat.eq_of_beq_eq_true hq
   subst this
   have h1:=hl.1
   unfold mpB at h1
   split at h1
   ·rename_i k' e' hu
    simp only[Bool.and_eq_true] at h1
    have a1:=Nat.eq_of_beq_eq_true h1.1
    have a2:=Nat.eq_of_beq_eq_true h1.2
    rw[hu,a1,a2]
    have h:some q.2=some (k,e):=h
    injection h with h
    rw[h]
   ·cases h1
def rf.env(t:rf)(dx lu:Nat->List Nat)(outs:List Nat)(ps:List Ty):Env:=⟨fun T=>t.GQ.getD T none,fun T=>t.Zh.getD T 0,fun T=>t.A8.getD T false,dx,lu,outs,ps,xJ t.SA,fun _=>none,fun _=>none,fun _=>[],[],false,[],fun _=>[],fun _=>none,fun _=>none,fun _=>false,none,none⟩
def rf.xk(t:rf):Env:=t.env (fun _=>[]) (fun _=>[]) [] []
def rf.ok(P:Program)(t:rf):Bool:=(List.range t.GQ.length).all (Cf P t.xk)&&((List.range t.A8.length).all (fun T=> !t.A8.getD T false||SB P T)&&t.SA.all (mpB P))
theorem sE{E':Env}(h1:E.ty=E'.ty)(h2:E.bytes=E'.bytes){T:TypeId}{t:Ty}(h:lU P E T t):lU P E' T t:=by
 have di:∀(fl:List Field) (t:Ty) (off:Nat),js E fl t off->js E' fl t off:=by
  intro fl
  induction fl with
  |nil=>intro t off h;cases t<;>simp_all [js]
  |cons f r ih=>
   intro t off h
   cases t<;>simp only[js] at h⊢ <;>try exact h
   exact⟨h.1,by rw[<-h1];exact h.2.1,h.2.2.1,ih _ _ h.2.2.2⟩
 refine⟨by rw[<-h2];exact h.info,?_⟩
 have hu:=h.dw
 cases t with
 |bool=>exact hu
 |int k=>exact hu
 |str=>exact hu
 |sl e u=>exact⟨hu.1,by rw[<-h1];exact hu.2⟩
 |arr n u=>obtain⟨e,g1,g2⟩:=hu;exact⟨e,g1,by rw[<-h1];exact g2⟩
 |unit=>obtain⟨fs,g1,g2,g3⟩:=hu;exact⟨fs,g1,di _ _ _ g2,g3⟩
 |pair a b=>obtain⟨fs,g1,g2,g3⟩:=hu;exact⟨fs,g1,di _ _ _ g2,g3⟩
 |aJ k a b=>exact hu.elim
theorem al.join(h:al P E)(j:Nat->Option (List Nat)):al P {E with join:=j}:=
 ⟨fun T u hT=>sE (E:=E) (E':={E with join:=j}) rfl rfl (h.ty T u hT),h.pt,h.p1,h.mp,h.bl,h.gr,h.gz,h.g3,h.ga⟩
theorem al.fz(h:al P E)(j:Nat->Option (Nat×TypeId)):al P {E with fz:=j}:=
 ⟨fun T u hT=>sE (E:=E) (E':={E with fz:=j}) rfl rfl (h.ty T u hT),h.pt,h.p1,h.mp,h.bl,h.gr,h.gz,h.g3,h.ga⟩
theorem al.dr(h:al P E)(j:Nat->List Nat):al P {E with dr:=j}:=
 ⟨fun T u hT=>sE (E:=E) (E':={E with dr:=j}) rfl rfl (h.ty T u hT),h.pt,h.p1,h.mp,h.bl,h.gr,h.gz,h.g3,h.ga⟩
theorem al.sh(h:al P E)(j:List Nat):al P {E with sh:=j}:=
 ⟨fun T u hT=>sE (E:=E) (E':={E with sh:=j}) rfl rfl (h.ty T u hT),h.pt,h.p1,h.mp,h.bl,h.gr,h.gz,h.g3,h.ga⟩
theorem al.mv(h:al P E)(j:List Nat):al P {E with mv:=j}:=
 ⟨fun T u hT=>sE (E:=E) (E':={E with mv:=j}) rfl rfl (h.ty T u hT),h.pt,h.p1,h.mp,h.bl,h.gr,h.gz,h.g3,h.ga⟩
theorem al.fr(h:al P E)(j:Nat->List Nat):al P {E with fr:=j}:=
 ⟨fun T u hT=>sE (E:=E) (E':={E with fr:=j}) rfl rfl (h.ty T u hT),h.pt,h.p1,h.mp,h.bl,h.gr,h.gz,h.g3,h.ga⟩
def blB(P:Program)(T:TypeId):Bool:=
 match P.info? T with
 |some i=>match i.zero with
  |some (.agg a)=>match a.toList with
   | [.pointer none,.slice none 0 0]=>true
   |_=>false
  |_=>false
 |none=>false
theorem al.gF(h:al P E)(T e:TypeId)(hT:blB P T=true):al P {E with bl:=fun t=>bif Nat.beq t T then some e else none}:=
 ⟨fun T' u hT=>sE (E:=E) (E':={E with bl:=fun t=>bif Nat.beq t T then some e else none}) rfl rfl (h.ty T' u hT),h.pt,h.p1,h.mp,fun T' e' he=>by
   have he:(bif Nat.beq T' T then some e else none)=some e':=he
   cases hb:Nat.beq T' T with
   |false=>rw[hb] at he;cases he
   |true=>
    have:=Nat.eq_of_beq_eq_true hb
    subst this
    unfold blB at hT
    split at hT
    case h_2=>cases hT
    rename_i i hi
    split at hT
    case h_2=>cases hT
    rename_i a ha
    split at hT
    case h_2=>cases hT
    rename_i hl
    exact⟨i,hi,by rw[ha];congr 1;congr 1;apply Array.ext';rw[hl]⟩,h.gr,h.gz,h.g3,h.ga⟩
def Zs(P:Program)(T:TypeId)(a:Ty):Bool:=
 match P.underlying T with
 |some (.struct fs)=>[0,1,2].all fun j=>match fs[j]? with
  |some f=>Nat.beq f.offset (m3 a [j])&&match P.info? f.type with
   |some i=> !(Nat.beq i.size 0)
   |none=>false
  |none=>false
 |_=>false
def Zq(P:Program)(T:TypeId):Bool:=
 match P.underlying T with
 |some (.array 2 e)=>match P.info? e with
  |some i=>Nat.beq i.size 1
  |none=>false
 |_=>false
theorem aoQ{T:TypeId}{a:Ty}(h:Zs P T a=true):∃fs,P.underlying T=some (.struct fs)/\∀j,j<=2->∃f i,fs[j]? =some f/\f.offset=m3 a [j]/\P.info? f.type=some i/\i.size≠0:=by
 unfold Zs at h
 split at h
 case h_2=>cases h
 rename_i fs hu
 refine⟨fs,hu,fun j hj=> ?_⟩
 have:=List.all_eq_true.1 h j (by match j,hj with|0,_=>simp|1,_=>simp|2,_=>simp)
 split at this
 case h_2=>cases this
 rename_i f hf
 rw[Bool.and_eq_true] at this
 obtain⟨h1,h2⟩:=this
 split at h2
 case h_2=>cases h2
 rename_i i hi
 exact⟨f,i,hf,Nat.eq_of_beq_eq_true h1,hi,fun e=>by rw[e] at h2;simp at h2⟩
theorem aoP{T:TypeId}(h:Zq P T=true):∃e i,P.underlying T=some (.array 2 e)/\P.info? e=some i/\i.size=1:=by
 unfold Zq at h
 split at h
 case h_2=>cases h
 rename_i e hu
 split at h
 case h_2=>cases h
 rename_i i hi
 exact⟨e,i,hu,hi,Nat.eq_of_beq_eq_true h⟩
def Zt(P:Program)(T:TypeId)(a:Ty):Bool:=
 match P.info? T with
 |some i=>match i.zero with
  |some (.agg cs)=>Hu (cs.toList.take a.cells) (zp a)&&(match cs.toList.drop a.cells with
   | [.pointer none,.pointer none,.int .i64 n]=>decide (n=0)
   |_=>false)
  |_=>false
 |none=>false
theorem aoR{T:TypeId}{a:Ty}(h:Zt P T a=true):∃i,P.info? T=some i/\i.zero=some (.agg (zp a++ [Value.pointer none,Value.pointer none,Value.int .i64 0]).toArray):=by
 unfold Zt at h
 split at h
 case h_2=>cases h
 rename_i i hi
 split at h
 case h_2=>cases h
 rename_i cs eF
 rw[Bool.and_eq_true] at h
 obtain⟨h1,h2⟩:=h
 split at h2
 case h_2=>cases h2
 rename_i n hd
 have:=of_decide_eq_true h2
 subst this
 refine⟨i,hi,?_⟩
 rw[eF,<-SW h1,<-hd,List.take_append_drop]
def Zp(P:Program)(E:Env)(T:TypeId)(a:Ty):Bool:=
 match P.underlying T with
 |some (.struct fs)=>(match fs.toList with
  |f::_=>Nat.beq f.offset 0&&uY E f.type a
  | []=>false)&&fs.toList.all fun f=>(P.info? f.type).isSome
 |_=>false
theorem aoO{T:TypeId}{a:Ty}(h:Zp P E T a=true):∃fs f,P.underlying T=some (.struct fs)/\fs[0]? =some f/\f.offset=0/\E.ty f.type=some a/\∀f∈fs.toList,∃i,P.info? f.type=some i:=by
 unfold Zp at h
 split at h
 case h_2=>cases h
 rename_i fs hu
 rw[Bool.and_eq_true] at h
 obtain⟨h1,h2⟩:=h
 split at h1
 case h_2=>cases h1
 rename_i f r hl
 rw[Bool.and_eq_true] at h1
 refine⟨fs,f,hu,by rw[<-Array.getElem?_toList,hl];rfl,Nat.eq_of_beq_eq_true h1.1,D0 h1.2,fun g hg=> ?_⟩
 exact Option.isSome_iff_exists.1 (List.all_eq_true.1 h2 g hg)
theorem al.bN(h:al P E)(T A:TypeId)(a b:Ty)(hT:Zs P T a=true)(hZ:Zt P T a=true)(h3:Zp P E T a=true)(hA:Zq P A=true):al P {E with gr:=fun t=>bif Nat.beq t T then some (a,b) else none,ga:=fun t=>Nat.beq t A}:=
 ⟨fun T' u vu=>sE (E:=E) (E':={E with gr:=fun t=>bif Nat.beq t T then some (a,b) else none,ga:=fun t=>Nat.beq t A}) rfl rfl (h.ty T' u vu),h.pt,h.p1,h.mp,h.bl,fun T' a' b' he=>by
   have he:(bif Nat.beq T' T then some (a,b) else none)=some (a',b'):=he
   cases hb:Nat.beq T' T with
   |false=>rw[hb] at he;cases he
   |true=>
    have:=Nat.eq_of_beq_eq_true hb
    subst this
    rw[hb] at he
    cases he
    exact aoQ hT,fun T' a' b' he=>by
   have he:(bif Nat.beq T' T then some (a,b) else none)=some (a',b'):=he
   cases hb:Nat.beq T' T with
   |false=>rw[hb] at he;cases he
   |true=>
    have:=Nat.eq_of_beq_eq_true hb
    subst this
    rw[hb] at he
    cases he
    exact aoR hZ,fun T' a' b' he=>by
   have he:(bif Nat.beq T' T then some (a,b) else none)=some (a',b'):=he
   cases hb:Nat.beq T' T with
   |false=>rw[hb] at he;cases he
   |true=>
    have:=Nat.eq_of_beq_eq_true hb
    subst this
    rw[hb] at he
    cases he
    exact aoO (E:=E) h3,fun T' he=>by
   have:=Nat.eq_of_beq_eq_true (show Nat.beq T' A=true from he)
   subst this
   exact aoP hA⟩
theorem al.sg(h:al P E)(j:Option (Nat×Nat×Nat)):al P {E with sg:=j}:=
 ⟨fun T u hT=>sE (E:=E) (E':={E with sg:=j}) rfl rfl (h.ty T u hT),h.pt,h.p1,h.mp,h.bl,h.gr,h.gz,h.g3,h.ga⟩
theorem al.sp(h:al P E)(j:Option (Nat×Nat×Nat×Nat)):al P {E with sp:=j}:=
 ⟨fun T u hT=>sE (E:=E) (E':={E with sp:=j}) rfl rfl (h.ty T u hT),h.pt,h.p1,h.mp,h.bl,h.gr,h.gz,h.g3,h.ga⟩
theorem al.ro(h:al P E)(j:Bool):al P {E with ro:=j}:=
 ⟨fun T u hT=>sE (E:=E) (E':={E with ro:=j}) rfl rfl (h.ty T u hT),h.pt,h.p1,h.mp,h.bl,h.gr,h.gz,h.g3,h.ga⟩
theorem rf.oq{t:rf}(h:t.ok P=true)(dx lu:Nat->List Nat)(outs:List Nat)(ps:List Ty):al P (t.env dx lu outs ps):=by
 unfold rf.ok at h
 simp only[Bool.and_eq_true] at h
 have lq:∀T,t.A8.getD T false=true->SB P T=true:=fun T vu=>by
  have aq:T<t.A8.length:=by
   rcases Nat.lt_or_ge T t.A8.length with h1|h1
   ·exact h1
   ·rw[List.getD_eq_getElem?_getD,List.getElem?_eq_none h1] at vu;cases vu
  have:=List.all_eq_true.1 h.2.1 T (List.mem_range.2 aq)
  rw[vu] at this
  simpa using this
 refine⟨fun T u hT=> ?_,fun T hT=> ?_,fun T hT=> ?_,fun T k e hT=>OW h.2.2 hT,fun T e hT=>(by cases hT),fun T a b hT=>(by cases hT),fun T a b hT=>(by cases hT),fun T a b hT=>(by cases hT),fun T hT=>by cases hT⟩
 ·refine sE (E:=t.xk) (E':=t.env dx lu outs ps) rfl rfl (akd ?_ hT)
  refine List.all_eq_true.1 h.1 T (List.mem_range.2 ?_)
  have vu:t.GQ.getD T none=some u:=hT
  rcases Nat.lt_or_ge T t.GQ.length with h1|h1
  ·exact h1
  ·rw[List.getD_eq_getElem?_getD,List.getElem?_eq_none h1] at vu;cases vu
 ·have:=lq T hT
  unfold SB at this
  split at this
  ·rename_i e i he _;exact⟨e,he⟩
  ·cases this
 ·have:=lq T hT
  unfold SB at this
  split at this
  ·rename_i e i _ hi;exact⟨i,hi,Nat.eq_of_beq_eq_true this⟩
  ·cases this
end Go.Ref

namespace Go.Ref
open Go
variable {P:Program} {E:Env}
abbrev Pure:=(R:Type)->List SV->Option bC->(List SV->Option bC->Option R)->Option R
def Pure.Nat(g:Pure):Prop:=∀(R S:Type) l b (F:List SV->Option bC->Option R) (G:List SV->Option bC->Option S) (K:S->Option R),(∀r b,F r b=(G r b).bind K)->g R l b F=(g S l b G).bind K
def ah.none:ah:=fun _ _ _ _ _=> .none
def ah.add(C:ah)(n:FuncId)(ps:List Ty)(g:Pure):ah:=fun R f l b K=>bif Nat.beq f n then g R (aM ps l) b K else C R f l b K
theorem akF:ah.none.Nat:=fun _ _ _ _ _ _ _ _ _=>rfl
theorem ag4(f:FuncId):cY P ah.none f:=fun _ _ _ _ h=>by cases h
theorem Wt{C:ah}{n:FuncId}{ps:List Ty}{g:Pure}(hC:C.Nat)(hg:g.Nat):(C.add n ps g).Nat:=fun R S f l b F G K h=>by
 unfold ah.add
 cases Nat.beq f n with
 |false=>exact hC R S f l b F G K h
 |true=>exact hg R S _ b F G K h
theorem ajH(hE:al P E)(hm:P.follows .mixedOrders=true){C:ah}(hC:C.Nat)(h0:∀f,cY P C f){n:FuncId}{ps:List Ty}{g:Pure}{fn:Func}{code:Code}(iJ:P.funcs[n]? =some fn)(ur:(fn.name== "runtime.NumGoroutine")=false)(qv:fn.body=some code)
 (h:∀(l:List SV) (b:Option bC) (r:List SV) (b':Option bC),g (List SV×Option bC) (aM ps l) b (fun r b=>some (r,b))=some (r,b')->∃k,jB E (C (List SV×Option bC)) k fn code l b (fun r b=>some (r,b))=some (r,b')):∀f,cY P (C.add n ps g) f:=by
 intro f
 by_cases e:f=n
 ·subst e
  refine am0 hE hm hC h0 iJ ur qv fun l b r b' hc=>h l b r b' ?_
  unfold ah.add at hc
  have:Nat.beq f f=true:=by simp
  rw[this] at hc
  exact hc
 ·intro l b r b' hc
  unfold ah.add at hc
  have:Nat.beq f n=false:=by
   cases hh:Nat.beq f n with
   |false=>rfl
   |true=>exact absurd (Nat.eq_of_beq_eq_true hh) e
  rw[this] at hc
  exact h0 f l b r b' hc
def sub:List Nat->Code->Code
 | [],c=>c
 |0::p,.seq a _=>sub p a
 |_::p,.seq _ b=>sub p b
 |0::p,.cond _ a _=>sub p a
 |_::p,.cond _ _ b=>sub p b
 |_::p,.block _ b=>sub p b
 |_::p,.loop b=>sub p b
 |_,c=>c
section
variable {R:Type}
def zk(id:Nat)(K:Ex->State->Option R):Ex->State->Option R:=fun e s=>match e with
 | .exit j=>bif Nat.beq j id then K .normal s else K (.exit j) s
 |e=>K e s
def aU(E:Env)(C:FuncId->bV R)(k:Nat)(b:Code)(K:Ex->State->Option R):Ex->State->Option R:=fun e s=>match e with
 | .normal=>nm E k (z24 b) s fun s=>ev E C k b s K
 |e=>K e s
def aT(E:Env)(rs:List ResultVar)(bx:Option bC)(K:List SV->Option bC->Option R):Ex->State->Option R:=fun e s=>match e with
 | .exit _=>none
 |_=>match gN E s rs with
  |some (l,s')=>HK s' bx (gM E l) K
  |none=>none
end
section
variable {R:Type}
def fU(l:List SV)(K:Option R):Option R:=
 match l with
 | []=>K
 |_=>none
def fV(t:Ty)(l:List SV)(K:El t->Option R):Option R:=
 match l with
 | [a]=>a.el t K
 |_=>none
def fB(t u:Ty)(l:List SV)(K:El t->El u->Option R):Option R:=
 match l with
 | [a,b]=>a.el t fun x=>b.el u fun y=>K x y
 |_=>none
def lj(t u v:Ty)(l:List SV)(K:El t->El u->El v->Option R):Option R:=
 match l with
 | [a,b,c]=>a.el t fun x=>b.el u fun y=>c.el v fun z=>K x y z
 |_=>none
def lk(t u v w:Ty)(l:List SV)(K:El t->El u->El v->El w->Option R):Option R:=
 match l with
 | [a,b,c,d]=>a.el t fun x=>b.el u fun y=>c.el v fun z=>d.el w fun z'=>K x y z z'
 |_=>none
end
theorem amV{R:Type}{t:Ty}{v:SV}{r:List Ty}{q:List SV}{K:El t->Option R}{z:R}{v':SV}{q':List SV}(hn:aM (t::r) (v::q)=v'::q')(h:v'.el t K=some z):∃y,v'= .aj t y []/\q'=aM r q/\K y=some z:=by
 have key:v'=v.shut/\q'=aM r q\/(∃e u,t= .sl e u/\v'= .aj (.sl e u) ([]:List (El u)) []/\q'=aM r q):=by
  cases t<;>cases v<;>simp only[aM,List.cons.injEq] at hn<;>first|exact .inl ⟨hn.1.symm,hn.2.symm⟩|exact .inr ⟨_,_,rfl,hn.1.symm,hn.2.symm⟩
 rcases key with⟨rfl,rfl⟩|⟨e,u,rfl,rfl,rfl⟩
 ·cases v with
  |aj t' x own=>
   simp only[SV.shut,SV.el] at h
   split at h
   ·rename_i heq
    have:=Ty.aI heq
    subst this
    exact⟨x,rfl,rfl,h⟩
   ·cases h
  |cF=>cases t<;>first|(simp [SV.shut,SV.el] at h;done)|(simp [aM,SV.shut] at hn;done)
  |_=>simp [SV.shut,SV.el] at h
 ·simp only[SV.el,Ty.cj,dite_true] at h
  exact⟨[],rfl,rfl,h⟩
theorem NJ(hE:al P E){H:Type}{enc:TypeId×Value->H}{w:World}{spare:Nat->Bool}{held:Bool}{β:Nat->Option Nat}{base b:Nat}{T:TypeId}{t:Ty}{v:Value}{d:DataW H}{ps:List MemPlace}(hT:E.ty T=some t)(gk:t.gA=true)
 (hv:Value.okWide P w .any b T v) (hd:DataW.Trod enc P w base spare held T v d ps):∃y:El t,Wf t y/\∀q,az (vg w β) q (.aj t y []) v:=by
 obtain⟨cq,hd⟩:=hd
 obtain⟨y,r,wf⟩:=(anc (β:=β) hE t).1 T cq _ _ hT gk hd
 refine⟨y,wf,fun q=>⟨_,r,?_,mD⟩⟩
 have hu:=(hE.ty T t hT).dw
 have hl:=r.len
 cases ht:t.agg with
 |true=>
  rw[jJ ht]
  have:∃cs,v= .agg cs:=by
   unfold Value.okWide at hv
   cases t with
   |arr n t=>obtain⟨e,h1,_⟩:=hu;rw[h1] at hv;obtain⟨cs,h,_⟩:=hv;exact⟨cs,h⟩
   |unit=>obtain⟨fs,h1,_⟩:=hu;rw[h1] at hv;obtain⟨cs,h,_⟩:=hv;exact⟨cs,h⟩
   |pair a b=>obtain⟨fs,h1,_⟩:=hu;rw[h1] at hv;obtain⟨cs,h,_⟩:=hv;exact⟨cs,h⟩
   |aJ k a b=>exact absurd (hE.iU hT) (by simp [Ty.bG])
   |_=>simp [Ty.agg] at ht
  obtain⟨cs,rfl⟩:=this
  rfl
 |false=>
  have ZX:∀cs,v≠ .agg cs:=by
   rintro cs rfl
   unfold Value.okWide at hv
   cases t with
   |bool=>have hu:P.underlying T=some .bool:=hu;rw[hu] at hv;unfold Cell.okWide at hv;rw[hu] at hv;unfold Cell.ok at hv;rw[hu] at hv;exact hv
   |int k=>have hu:P.underlying T=some (.int k):=hu;rw[hu] at hv;unfold Cell.okWide at hv;rw[hu] at hv;unfold Cell.ok at hv;rw[hu] at hv;exact hv
   |str=>have hu:P.underlying T=some .string:=hu;rw[hu] at hv;unfold Cell.okWide at hv;rw[hu] at hv;unfold Cell.ok at hv;rw[hu] at hv;exact hv
   |sl e t=>have hu:P.underlying T=some (.slice e):=hu.1;rw[hu] at hv;unfold Cell.okWide at hv;rw[hu] at hv;unfold Cell.ok at hv;rw[hu] at hv;exact hv
   |_=>simp [Ty.agg] at ht
  have hc:v.cells.toList=[v]:=by
   cases v<;>first|rfl|exact absurd rfl (ZX _)
  rw[hc,Ro ht]
theorem ad8{w:World}{β:Nat->Option Nat}{Y:aw}(h:Ext (vg w β) Y):∀g,g<w.heap.size->Y.w.heap[g]? =w.heap[g]? :=fun g hg=>(h.still g hg trivial).2
end Go.Ref

namespace Go.Ref
open Go
theorem E8{x:Int}(h1: -9223372036854775808<=x)(h2:x<=9223372036854775807):IntKind.i64.wrap x=x:=by
 simp [IntKind.wrap,IntKind.signed,IntKind.bits]
 omega
theorem ahP{R:Type}{j n:Nat}{x:Option R}(h:j<n):zd (j:Int) n x=x:=by
 unfold zd
 rw[decide_eq_true (by omega:(0:Int)<=j),decide_eq_true (by omega:(j:Int)<n)]
 rfl
variable {P:Program} {E:Env}
def Rt(X:aw):List SV->List Value->Prop
 | [],[]=>True
 |s::l,v::vs=>(∀q,az X q s v)/\(∀id t p,s≠ .ptr id t p)/\Rt X l vs
 |_,_=>False
theorem zv9{X:aw}:∀{l:List SV} {vs:List Value},Rt X l vs->vs.length=l.length/\∀(i:Nat) s v,l[i]? =some s->vs[i]? =some v->(∀q,az X q s v)/\∀id t p,s≠ .ptr id t p
 | [],[],_=>⟨rfl,fun i s v h=>by simp at h⟩
 |s::l,v::vs,h=>by
  obtain⟨h1,h2,h3⟩:=h
  obtain⟨g1,g2⟩:=zv9 h3
  refine⟨by simp [g1],fun i s' v' hs hv=> ?_⟩
  cases i with
  |zero=>
   simp only[List.getElem?_cons_zero,Option.some.injEq] at hs hv
   subst hs hv
   exact⟨h1,h2⟩
  |succ i=>
   simp only[List.getElem?_cons_succ] at hs hv
   exact g2 i s' v' hs hv
theorem aka{X:aw}{l:List SV}{args:Array Value}(h:Rt X l args.toList)(hX:∀g pl n,X.ow g≠ .row pl n)(hβ:∀id,X.β id=none):jS X l none args:=by
 obtain⟨h1,h2⟩:=zv9 h
 refine⟨by simpa using h1,fun i sv v hs hv=>(h2 i sv v hs (by simpa using hv)).1 _,fun id t p hm=> ?_,fun B hB=>(by cases hB),fun _=>hX,List.any_eq_false.2 fun v hm=> ?_⟩
 ·obtain⟨i,hi⟩:=List.mem_iff_getElem?.1 hm
  have aq:=(List.getElem?_eq_some_iff.1 hi).1
  have gi:i<args.toList.length:=by omega
  exact absurd rfl ((h2 i _ _ hi (List.getElem?_eq_getElem gi)).2 id t p)
 ·obtain⟨i,hi⟩:=List.mem_iff_getElem?.1 hm
  have aq:=(List.getElem?_eq_some_iff.1 hi).1
  have gi:i<args.toList.length:=by omega
  have hv:=(h2 i _ _ hi (List.getElem?_eq_getElem gi)).1 (fun _=> .r 0 [])
  cases v with
  |bz id c d j=>
   obtain⟨r,e,_⟩:=hv
   rw[hβ id] at e
   cases e
  |_=>simp [SV.bL]
theorem ahm{C:ah}{f:FuncId}(ho:cY P C f){l:List SV}{args:Array Value}{W:World}{b:Bool}(hc:C (List SV×Option bC) f l none (fun r b=>some (r,b))=some ([.aj .bool b []],none))(hI:Rt (vg W fun _=>none) l args.toList):
 Calls P f args W fun e w'=>e= .returned (.bool b)/\RowKit.Below W.heap.size W w':=by
 refine((ho l none _ _ hc).2 (vg W fun _=>none) args (aka hI (fun g pl n e=>by cases e) fun _=>rfl)).mono fun e w' he=> ?_
 cases e with
 |returned v=>
  obtain⟨Y,rfl,aZ,r0,aL,_,_,_⟩:=he
  have aL:az {Y with β:=fun _=>some r0} (.r 0) (.aj .bool b []) v:=aL
  refine⟨by rw[PQ aL],aZ.os,aZ.tape,aZ.output,aZ.size,fun k hk=>ad8 aZ k hk⟩
 |panicked c=>exact he.elim
 |outgrown=>exact he.elim
end Go.Ref

namespace Go.Ref
open Go
variable {P:Program} {E:Env}
def bs(l:List Nat):ByteArray:=⟨(l.map UInt8.ofNat).toArray⟩
@[irreducible] def ag:Nat:=18446744073709551616
theorem adR{R:Type}(f:Unit->Option R):cJ ag f=f ():=by
 have:ag=18446744073709551615+1:=by unfold ag;rfl
 rw[this];rfl
section
variable {R S:Type}
def lr(body:State->(Ex->State->Option R)->Option R)(l lx:List Nat)(k:Nat)(K:Ex->State->Option R):Ex->State->Option R:=fun e s=>match e with
 | .normal=>rZ l s fun s=>aB body l lx k s K
 |e=>rZ lx s fun s=>K e s
def j5(t:Ty)(own:List (List Nat))(l:List SV)(b:Option bC)(K:El t->List SV->Option R):Option R:=
 match l,b with
 | .ptr 0 u []::r,some B=>if h:B.t.cp t=true then if(u.cp t&&B.own==own)=true then K (Ty.cast h B.x) r else none else none
 |_,_=>none
def lh(t pt bt:Ty)(own:List (List Nat))(l:List SV)(b:Option bC)(K:El t->El bt->Option R):Option R:=
 match l,b with
 | [a,.ptr 0 u []],some B=>if h:B.t.cp bt=true then if(u.cp pt&&B.own==own)=true then a.el t fun y=>K y (Ty.cast h B.x) else none else none
 |_,_=>none
def HI(t u v w:Ty)(l:List SV)(K:El t->El u->El v->El w->Option R):Option R:=
 match l with
 | [a,b,.view v' x,.view w' y]=>if h:v'.cp v=true then if h2:w'.cp w=true then a.el t fun p=>b.el u fun q=>K p q (Ty.cast h x) (Ty.cast h2 y) else none else none
 |_=>none
def gu(b:Option bC)(K:Option R):Option R:=
 match b with
 |none=>K
 |some _=>none
theorem Fl{b:Option bC}{F:Option R}{G:Option S}{K:S->Option R}(h:F=G.bind K):gu b F=(gu b G).bind K:=by
 cases b
 ·exact h
 ·rfl
theorem Fh{b:Option bC}{F:Option R}{z:R}(h:gu b F=some z):b=none/\F=some z:=by
 cases b
 ·exact⟨rfl,h⟩
 ·cases h
theorem zi6(c:Bool)(x y:Option S)(F:S->Option R):(bif c then x else y).bind F=bif c then x.bind F else y.bind F:=by cases c<;>rfl
theorem ac3(i:Int)(n:Nat)(x:Option S)(F:S->Option R):(zd i n x).bind F=zd i n (x.bind F):=by
 unfold zd;rw[zi6,zi6];rfl
theorem ag3(F:S->Option R):(none:Option S).bind F=none:=Eq.trans rfl rfl
theorem zc(x:S)(F:S->Option R):(some x).bind F=F x:=Eq.trans rfl rfl
theorem akW{α β:Type}(f:α->Option S)(g:β->Option S)(e:α⊕β)(F:S->Option R):(Sum.elim f g e).bind F=Sum.elim (fun x=>(f x).bind F) (fun x=>(g x).bind F) e:=by cases e<;>rfl
theorem aga{α:Type}(x:Option α)(f:α->Option S)(F:S->Option R):(x.bind f).bind F=x.bind fun y=>(f y).bind F:=by cases x<;>rfl
theorem zhs{l:List SV}{F:Option R}{G:Option S}{K:S->Option R}(h:F=G.bind K):fU l F=(fU l G).bind K:=by
 unfold fU;split
 ·exact h
 ·rfl
theorem zht{t:Ty}{l:List SV}{F:El t->Option R}{G:El t->Option S}{K:S->Option R}(h:∀x,F x=(G x).bind K):fV t l F=(fV t l G).bind K:=by
 unfold fV;split
 ·exact zt h
 ·rfl
theorem zhu{t u:Ty}{l:List SV}{F:El t->El u->Option R}{G:El t->El u->Option S}{K:S->Option R}(h:∀x y,F x y=(G x y).bind K):fB t u l F=(fB t u l G).bind K:=by
 unfold fB;split
 ·exact zt fun x=>zt fun y=>h x y
 ·rfl
theorem af5{t u v:Ty}{l:List SV}{F:El t->El u->El v->Option R}{G:El t->El u->El v->Option S}{K:S->Option R}(h:∀x y z,F x y z=(G x y z).bind K):lj t u v l F=(lj t u v l G).bind K:=by
 unfold lj;split
 ·exact zt fun x=>zt fun y=>zt fun z=>h x y z
 ·rfl
theorem af6{t u v w:Ty}{l:List SV}{F:El t->El u->El v->El w->Option R}{G:El t->El u->El v->El w->Option S}{K:S->Option R}(h:∀x y z a,F x y z a=(G x y z a).bind K):lk t u v w l F=(lk t u v w l G).bind K:=by
 unfold lk;split
 ·exact zt fun x=>zt fun y=>zt fun z=>zt fun a=>h x y z a
 ·rfl
theorem Qf{t:Ty}{own:List (List Nat)}{l:List SV}{b:Option bC}{F:El t->List SV->Option R}{G:El t->List SV->Option S}{K:S->Option R}(h:∀x r,F x r=(G x r).bind K):j5 t own l b F=(j5 t own l b G).bind K:=by
 unfold j5;split
 ·split
  ·split
   ·exact h _ _
   ·rfl
  ·rfl
 ·rfl
theorem af4{t pt bt:Ty}{own:List (List Nat)}{l:List SV}{b:Option bC}{F:El t->El bt->Option R}{G:El t->El bt->Option S}{K:S->Option R}(h:∀x y,F x y=(G x y).bind K):lh t pt bt own l b F=(lh t pt bt own l b G).bind K:=by
 unfold lh;split
 ·split
  ·split
   ·exact zt fun y=>h _ _
   ·rfl
  ·rfl
 ·rfl
theorem adn{t u v w:Ty}{l:List SV}{F:El t->El u->El v->El w->Option R}{G:El t->El u->El v->El w->Option S}{K:S->Option R}(h:∀x y z a,F x y z a=(G x y z a).bind K):HI t u v w l F=(HI t u v w l G).bind K:=by
 unfold HI;split
 ·split
  ·split
   ·exact zt fun x=>zt fun y=>h x y _ _
   ·rfl
  ·rfl
 ·rfl
theorem rT{α:Type}{m:Option α}{F:α->Option R}{G:α->Option S}{K:S->Option R}(h:∀r,F r=(G r).bind K):m.bind F=(m.bind G).bind K:=by
 cases m with
 |none=>rfl
 |some x=>exact h x
theorem Rq{α β:Type}{f:α->Option R}{g:β->Option R}{f':α->Option S}{g':β->Option S}{K:S->Option R}{e:α⊕β}(h1:∀x,f x=(f' x).bind K)(h2:∀x,g x=(g' x).bind K):Sum.elim f g e=(Sum.elim f' g' e).bind K:=by
 cases e with
 |inl x=>exact h1 x
 |inr x=>exact h2 x
end
section
variable {R:Type}
theorem agH{C:FuncId->bV R}{k:Nat}{fn:Func}{code:Code}{l q:List SV}{b:Option bC}{K:List SV->Option bC->Option R}(h:aM E.ps l=q)(hq:aM E.ps q=q)(hl:q.length=l.length):jB E C k fn code l b K=jB E C k fn code q b K:=by
 unfold jB
 simp only[h,hq,hl]
theorem My:∀{ts:List Ty} {q:List SV},(∀s∈q,s.shut=s/\s≠ .cF)->aM ts q=q
 |ts,[],_=>by cases ts<;>simp [aM]
 | [],q,_=>by simp [aM]
 |t::r,v::q,h=>by
  have h1:=h v (by simp)
  have h2:=My (ts:=r) (q:=q) (fun s hs=>h s (by simp [hs]))
  cases t<;>cases v<;>simp [aM,h2]<;>first|exact h1.1|exact absurd rfl h1.2
theorem akG{ts:List Ty}{l:List SV}(h:aM ts l=[]):l=[]:=by
 have:=Tm ts l
 rw[h] at this
 exact List.length_eq_zero_iff.1 this.symm
theorem Mx{t:Ty}{r:List Ty}{l:List SV}{v':SV}{q':List SV}(h:aM (t::r) l=v'::q'):∃v q,l=v::q:=by
 cases l with
 |nil=>simp [aM] at h
 |cons v q=>exact⟨v,q,rfl⟩
theorem nM{t:Ty}{r:List Ty}{l:List SV}{a:SV}{q':List SV}{K:El t->Option R}{z:R}(hn:aM (t::r) l=a::q')(h:a.el t K=some z):∃y v q,a= .aj t y []/\l=v::q/\aM r q=q'/\K y=some z:=by
 obtain⟨v,q,rfl⟩:=Mx hn
 obtain⟨y,h1,h2,h3⟩:=amV hn h
 exact⟨y,v,q,h1,rfl,h2.symm,h3⟩
theorem Fo{l q:List SV}(hn:aM E.ps l=q)(hd:∀s∈q,s.shut=s/\s≠ .cF){C:FuncId->bV R}{k:Nat}{fn:Func}{code:Code}{b:Option bC}{K:List SV->Option bC->Option R}:jB E C k fn code l b K=jB E C k fn code q b K:=
 agH hn (My hd) (by rw[<-hn,Tm])
theorem yk{t:Ty}{x:El t}:(SV.aj t x []).shut=SV.aj t x []/\SV.aj t x []≠ .cF:=⟨rfl,by simp⟩
def gR(E:Env)(l q:List SV):Prop:=∀{R:Type} (C:FuncId->bV R) (k:Nat) (fn:Func) (code:Code) (b:Option bC) (K:List SV->Option bC->Option R),jB E C k fn code l b K=jB E C k fn code q b K
theorem xM{l:List SV}{F:Option R}{z:R}(jf:E.ps=[])(h:fU (aM [] l) F=some z):F=some z/\gR E l []:=by
 unfold fU at h
 split at h
 ·rename_i hn
  have:=akG hn
  subst this
  exact⟨h,fun C k fn code b K=>rfl⟩
 ·cases h
theorem K9{t:Ty}{l:List SV}{F:El t->Option R}{z:R}(jf:E.ps=[t])(h:fV t (aM [t] l) F=some z):∃x,F x=some z/\gR E l [.aj t x []]:=by
 unfold fV at h
 split at h
 ·rename_i a hn
  obtain⟨x,v,q,rfl,rfl,h1,h⟩:=nM hn h
  refine⟨x,h,fun C k fn code b K=>Fo (by rw[jf];exact hn) ?_⟩
  intro s hs
  simp only[List.mem_cons,List.not_mem_nil,or_false] at hs
  subst hs;exact yk
 ·cases h
theorem kv{t u:Ty}{l:List SV}{F:El t->El u->Option R}{z:R}(jf:E.ps=[t,u])(h:fB t u (aM [t,u] l) F=some z):∃x y,F x y=some z/\gR E l [.aj t x [],.aj u y []]:=by
 unfold fB at h
 split at h
 ·rename_i a b hn
  obtain⟨x,v,q,rfl,rfl,h1,h⟩:=nM hn h
  obtain⟨y,v',q',rfl,rfl,h2,h⟩:=nM h1 h
  refine⟨x,y,h,fun C k fn code b K=>Fo (by rw[jf];exact hn) ?_⟩
  intro s hs
  simp only[List.mem_cons,List.not_mem_nil,or_false] at hs
  rcases hs with rfl|rfl<;>exact yk
 ·cases h
theorem abE{t u v:Ty}{l:List SV}{F:El t->El u->El v->Option R}{z:R}(jf:E.ps=[t,u,v])(h:lj t u v (aM [t,u,v] l) F=some z):∃x y a,F x y a=some z/\gR E l [.aj t x [],.aj u y [],.aj v a []]:=by
 unfold lj at h
 split at h
 ·rename_i a b c hn
  obtain⟨x,v,q,rfl,rfl,h1,h⟩:=nM hn h
  obtain⟨y,v',q',rfl,rfl,h2,h⟩:=nM h1 h
  obtain⟨w,v',q',rfl,rfl,h3,h⟩:=nM h2 h
  refine⟨x,y,w,h,fun C k fn code b K=>Fo (by rw[jf];exact hn) ?_⟩
  intro s hs
  simp only[List.mem_cons,List.not_mem_nil,or_false] at hs
  rcases hs with rfl|rfl|rfl<;>exact yk
 ·cases h
theorem abF{t u v w:Ty}{l:List SV}{F:El t->El u->El v->El w->Option R}{z:R}(jf:E.ps=[t,u,v,w])(h:lk t u v w (aM [t,u,v,w] l) F=some z):∃x y a b,F x y a b=some z/\gR E l [.aj t x [],.aj u y [],.aj v a [],.aj w b []]:=by
 unfold lk at h
 split at h
 ·rename_i a b c d hn
  obtain⟨x,v,q,rfl,rfl,h1,h⟩:=nM hn h
  obtain⟨y,v',q',rfl,rfl,h2,h⟩:=nM h1 h
  obtain⟨w,v',q',rfl,rfl,h3,h⟩:=nM h2 h
  obtain⟨w',v',q',rfl,rfl,h4,h⟩:=nM h3 h
  refine⟨x,y,w,w',h,fun C k fn code b K=>Fo (by rw[jf];exact hn) ?_⟩
  intro s hs
  simp only[List.mem_cons,List.not_mem_nil,or_false] at hs
  rcases hs with rfl|rfl|rfl|rfl<;>exact yk
 ·cases h
theorem zhr{t:Ty}{own:List (List Nat)}{l:List SV}{b:Option bC}{F:El t->List SV->Option R}{z:R}(h:j5 t own l b F=some z):∃x r,l= .ptr 0 t []::r/\b=some ⟨t,x,own⟩/\F x r=some z:=by
 unfold j5 at h
 split at h
 ·rename_i u r B
  split at h
  ·rename_i hB
   split at h
   ·rename_i hu
    simp only[Bool.and_eq_true,beq_iff_eq] at hu
    obtain⟨h1,h2⟩:=hu
    obtain⟨Bt,Bx,Bo⟩:=B
    have:=Ty.aI hB
    have h3:=Ty.aI h1
    subst this
    subst h3
    subst h2
    exact⟨Bx,r,rfl,rfl,h⟩
   ·cases h
  ·cases h
 ·cases h
theorem akO{ts:List Ty}{l:List SV}{t:Ty}{r:List SV}(h:aM (.unit::ts) l= .ptr 0 t []::r):∃q,l= .ptr 0 t []::q/\aM ts q=r:=by
 obtain⟨v,q,rfl⟩:=Mx h
 cases v<;>simp [aM,SV.shut] at h
 obtain⟨⟨rfl,rfl,rfl⟩,h2⟩:=h
 exact⟨q,rfl,h2⟩
theorem PM{t:Ty}:(SV.ptr 0 t []).shut=SV.ptr 0 t []/\SV.ptr 0 t []≠ .cF:=⟨rfl,by simp⟩
theorem CT{t:Ty}{own:List (List Nat)}{ts:List Ty}{l:List SV}{b:Option bC}{F:El t->List SV->Option R}{z:R}(h:j5 t own (aM (.unit::ts) l) b F=some z):∃x q,l= .ptr 0 t []::q/\b=some ⟨t,x,own⟩/\F x (aM ts q)=some z:=by
 obtain⟨x,r,h1,h2,h3⟩:=zhr h
 obtain⟨q,rfl,hq⟩:=akO h1
 exact⟨x,q,rfl,h2,by rw[hq];exact h3⟩
theorem gR.ptr{t:Ty}{ts:List Ty}{q q':List SV}(jf:E.ps= .unit::ts)(hn:aM ts q=q')(hd:∀s∈q',s.shut=s/\s≠ .cF):gR E (.ptr 0 t []::q) (.ptr 0 t []::q'):=fun C k fn code b K=>
 Fo (by rw[jf];simp [aM,SV.shut,hn]) (fun s hs=>by
  rcases List.mem_cons.1 hs with rfl|hs
  ·exact PM
  ·exact hd s hs)
theorem La{t:Ty}{q:List SV}{F:Option R}{z:R}(jf:E.ps=[.unit])(h:fU (aM [] q) F=some z):F=some z/\gR E (.ptr 0 t []::q) [.ptr 0 t []]:=by
 unfold fU at h
 split at h
 ·rename_i hn
  exact⟨h,gR.ptr jf hn (by simp)⟩
 ·cases h
theorem Lb{t u:Ty}{q:List SV}{F:El u->Option R}{z:R}(jf:E.ps=[.unit,u])(h:fV u (aM [u] q) F=some z):∃x,F x=some z/\gR E (.ptr 0 t []::q) [.ptr 0 t [],.aj u x []]:=by
 unfold fV at h
 split at h
 ·rename_i a hn
  obtain⟨x,v,q,rfl,rfl,h1,h⟩:=nM hn h
  refine⟨x,h,gR.ptr jf hn ?_⟩
  intro s hs
  simp only[List.mem_cons,List.not_mem_nil,or_false] at hs
  subst hs;exact yk
 ·cases h
theorem Lc{t u v:Ty}{q:List SV}{F:El u->El v->Option R}{z:R}(jf:E.ps=[.unit,u,v])(h:fB u v (aM [u,v] q) F=some z):∃x y,F x y=some z/\gR E (.ptr 0 t []::q) [.ptr 0 t [],.aj u x [],.aj v y []]:=by
 unfold fB at h
 split at h
 ·rename_i a b hn
  obtain⟨x,v,q,rfl,rfl,h1,h⟩:=nM hn h
  obtain⟨y,v',q',rfl,rfl,h2,h⟩:=nM h1 h
  refine⟨x,y,h,gR.ptr jf hn ?_⟩
  intro s hs
  simp only[List.mem_cons,List.not_mem_nil,or_false] at hs
  rcases hs with rfl|rfl<;>exact yk
 ·cases h
theorem Le{t pt bt:Ty}{own:List (List Nat)}{l:List SV}{b:Option bC}{F:El t->El bt->Option R}{z:R}(jf:E.ps=[t,.unit])(h:lh t pt bt own (aM [t,.unit] l) b F=some z):
 ∃x y,b=some ⟨bt,y,own⟩/\F x y=some z/\gR E l [.aj t x [],.ptr 0 pt []]:=by
 unfold lh at h
 split at h
 ·rename_i a u B hn
  split at h
  ·rename_i hB
   split at h
   ·rename_i hu
    simp only[Bool.and_eq_true,beq_iff_eq] at hu
    obtain⟨h1,h2⟩:=hu
    obtain⟨Bt,Bx,Bo⟩:=B
    have:=Ty.aI hB
    have h3:=Ty.aI h1
    subst this
    subst h3
    subst h2
    obtain⟨y,v,q,rfl,rfl,h4,h⟩:=nM hn h
    refine⟨y,Bx,rfl,h,fun C k fn code b K=>Fo (by rw[jf];exact hn) ?_⟩
    intro s hs
    simp only[List.mem_cons,List.not_mem_nil,or_false] at hs
    rcases hs with rfl|rfl
    ·exact yk
    ·exact PM
   ·cases h
  ·cases h
 ·cases h
theorem Pd{t:Ty}{x:El t}:(SV.view t x).shut=SV.view t x/\SV.view t x≠ .cF:=⟨rfl,by simp⟩
theorem Ld{t u v w:Ty}{l:List SV}{F:El t->El u->El v->El w->Option R}{z:R}(jf:E.ps=[t,u,.unit,.unit])(h:HI t u v w (aM [t,u,.unit,.unit] l) F=some z):
 ∃p q x y,F p q x y=some z/\gR E l [.aj t p [],.aj u q [],.view v x,.view w y]:=by
 unfold HI at h
 split at h
 ·rename_i a b v' x w' y hn
  split at h
  ·rename_i hv
   split at h
   ·rename_i hw
    have:=Ty.aI hv
    have h3:=Ty.aI hw
    subst this
    subst h3
    obtain⟨p,v1,q1,rfl,rfl,h4,h⟩:=nM hn h
    obtain⟨q,v2,q2,rfl,rfl,h5,h⟩:=nM h4 h
    refine⟨p,q,x,y,h,fun C k fn code b K=>Fo (by rw[jf];exact hn) ?_⟩
    intro s hs
    simp only[List.mem_cons,List.not_mem_nil,or_false] at hs
    rcases hs with rfl|rfl|rfl|rfl
    ·exact yk
    ·exact yk
    ·exact Pd
    ·exact Pd
   ·cases h
  ·cases h
 ·cases h
end
end Go.Ref

namespace Go.Ref
open Go
variable {P:Program} {E:Env}
def aw.after(X:aw)(w:World):aw:=⟨w,fun g=>if g<X.w.heap.size then X.ow g else .ro 0,X.β⟩
theorem zuy{X:aw}{w:World}(h:RowKit.Below X.w.heap.size X.w w){a:Addr}{v:Value}(hs:X.ay a v):(X.after w).ay a v:=by
 have aq:=aw.iF hs
 refine⟨hs.1,?_,?_⟩
 ·have:=hs.2.1
  simp only[World.cell?] at this⊢
  rw[show(X.after w).w=w from rfl,h.block _ aq];exact this
 ·simp only[aw.after];rw[if_pos aq];exact hs.2.2
theorem af1{X:aw}{w:World}(h:RowKit.Below X.w.heap.size X.w w):Ext X (X.after w) where
 ay:=fun _ _=>zuy h
 size:=h.size
 os:=h.os
 tape:=h.tape
 output:=h.output
 β0:=rfl
 still:=fun g hg _=>⟨by simp only[aw.after];rw[if_pos hg],h.block g hg⟩
theorem aks{C:ah}(h0:∀f,cY P C f){n:FuncId}{g:Pure}(eG:sf P n)
 (h:∀(l:List SV) (b:Option bC) (r:List SV) (b':Option bC),g (List SV×Option bC) l b (fun r b=>some (r,b))=some (r,b')->b'=none/\(∀id t p,SV.ptr id t p∉r)/\r.any SV.bL=false/\
   ∀(X:aw) (args:Array Value),jS X l b args->Calls P n args X.w fun e w'=>∃v,e= .returned v/\RowKit.Below X.w.heap.size X.w w'/\∀Y:aw,Y.w=w'->(∀a v,X.ay a v->Y.ay a v)->cM Y .r r v):∀f,cY P (C.add n [] g) f:=by
 intro f
 by_cases e:f=n
 ·subst e
  intro l b r b' hc
  unfold ah.add at hc
  have hb:Nat.beq f f=true:=by simp
  rw[hb] at hc
  have hc:g (List SV×Option bC) (aM [] l) b (fun r b=>some (r,b))=some (r,b'):=hc
  have hl:aM [] l=l:=by cases l<;>rfl
  rw[hl] at hc
  obtain⟨rfl,hp,dV,Ck⟩:=h l b r b' hc
  refine⟨eG,fun X args hI=>(Ck X args hI).mono fun e w' he=> ?_⟩
  obtain⟨v,rfl,hB,aL⟩:=he
  refine⟨X.after w',rfl,af1 hB,0,aL {X.after w' with β:=fun _=>some 0} rfl (fun a v hs=>(zuy hB hs:(X.after w').ay a v)),fun B' eD=>(by cases eD),fun _=>hp,dV⟩
 ·intro l b r b' hc
  unfold ah.add at hc
  have:Nat.beq f n=false:=by
   cases hh:Nat.beq f n with
   |false=>rfl
   |true=>exact absurd (Nat.eq_of_beq_eq_true hh) e
  rw[this] at hc
  exact h0 f l b r b' hc
theorem L4{X:aw}{l:List SV}{b:Option bC}{args:Array Value}(h:jS X l b args){i:Nat}{sv:SV}(hs:l[i]? =some sv){x:ByteArray}(hx:∀(X:aw) (pl:List Nat->Place) (v:Value),az X pl sv v->∃cs,bg X .str x cs/\v=dR .str cs):args[i]? =some (.string x):=by
 have aq:i<args.size:=by rw[h.size];exact(List.getElem?_eq_some_iff.1 hs).1
 rw[Array.getElem?_eq_getElem aq]
 obtain⟨cs,h1,h2⟩:=hx X _ _ (h.rep i sv _ hs (Array.getElem?_eq_getElem aq))
 rw[h2,nC h1]
theorem agF{X:aw}{l:List SV}{b:Option bC}{args:Array Value}(h:jS X l b args){i:Nat}{sv:SV}(hs:l[i]? =some sv){k:IntKind}{n:Int}(hx:∀(X:aw) (pl:List Nat->Place) (v:Value),az X pl sv v->∃cs,bg X (.int k) n cs/\v=dR (.int k) cs):args[i]? =some (.int k n):=by
 have aq:i<args.size:=by rw[h.size];exact(List.getElem?_eq_some_iff.1 hs).1
 rw[Array.getElem?_eq_getElem aq]
 obtain⟨cs,h1,h2⟩:=hx X _ _ (h.rep i sv _ hs (Array.getElem?_eq_getElem aq))
 rw[h2,lL h1]
theorem ajJ{args:Array Value}{v:Value}(hs:args.size=1)(h:args[0]? =some v):args= #[v]:=by
 apply Array.ext'
 match hl:args.toList,(show args.toList.length=1 by simpa using hs) with
 | [x],_=>
   have:args.toList[0]? =some v:=by simpa using h
   rw[hl] at this
   simpa using this
theorem M6{args:Array Value}{u v:Value}(hs:args.size=2)(h:args[0]? =some u)(h1:args[1]? =some v):args= #[u,v]:=by
 apply Array.ext'
 match hl:args.toList,(show args.toList.length=2 by simpa using hs) with
 | [x,y],_=>
   have a:args.toList[0]? =some u:=by simpa using h
   have b:args.toList[1]? =some v:=by simpa using h1
   rw[hl] at a b
   simp at a b
   rw[a,b]
theorem akt{C:ah}(h0:∀f,cY P C f){n:FuncId}(eG:sf P n)(F:ByteArray->Int->Option ByteArray)
 (h:∀(s:ByteArray) (k:Int) (r:ByteArray),F s k=some r->∀w:World,Calls P n #[.string s,.int .i64 k] w fun e w'=>e= .returned (.string r)/\RowKit.Below w.heap.size w w'):
 ∀f,cY P (C.add n [] fun R l b K=>gu b (fB .str (.int .i64) l fun x0 x1=>(F x0 x1).bind fun r=>K [.aj .str r []] none)) f:=by
 refine aks h0 eG fun l b r b' hc=> ?_
 obtain⟨hb,hc2⟩:=Fh hc
 clear hc
 subst hb
 have hc:=hc2
 clear hc2
 unfold fB at hc
 split at hc
 case h_2=>cases hc
 rename_i sa sb
 obtain⟨s,hc,hs⟩:=zz hc
 obtain⟨k,hc,hk⟩:=zz hc
 have hc:((F s k).bind fun r=>some (([SV.aj .str r []]:List SV),(none:Option bC)))=some (r,b'):=hc
 cases hF:F s k with
 |none=>rw[hF] at hc;cases hc
 |some x=>
  rw[hF] at hc
  cases hc
  refine⟨rfl,(fun id t p hm=>by simp at hm),rfl,fun X args hI=> ?_⟩
  have e:=M6 hI.size (L4 hI rfl hs) (agF hI rfl hk)
  rw[e]
  exact(h s k x hF X.w).mono fun e w' ⟨he,hB⟩=>⟨_,he,hB,fun Y _ _=>Bv⟩
end Go.Ref
namespace bm
open Go Go.Ref
def strings_Repeat(s:ByteArray)(k:Int):Option ByteArray:=
 bif decide (0<=k) then bif decide (k<=9223372036854775807) then bif decide ((s.size:Int)*k<=140737488355328) then some ⟨(Go.Lib.repeatL s.data.toList k.toNat).toArray⟩ else none else none else none
theorem zea{P:Program}{ρ:Go.Shelf.Ren}(L:Go.Proofs.Lays.n105 P ρ)(B:Go.Proofs.Builder.Extra P ρ){n:FuncId}(hn:ρ.f 105=n)(s:ByteArray)(k:Int)(r:ByteArray)(h:strings_Repeat s k=some r)(w:World):
 Calls P n #[.string s,.int .i64 k] w fun e w'=>e= .returned (.string r)/\RowKit.Below w.heap.size w w':=by
 subst hn
 unfold strings_Repeat at h
 by_cases h0:0<=k
 ·by_cases h1:k<=9223372036854775807
  ·by_cases h2:(s.size:Int)*k<=140737488355328
   ·rw[decide_eq_true h0,decide_eq_true h1,decide_eq_true h2] at h
    cases h
    obtain⟨c,rfl⟩:∃c:Nat,k=(c:Int):=⟨k.toNat,by omega⟩
    exact Go.Proofs.Any.strings_Repeat L B s c w (by omega) (by rw[<-Int.natCast_mul] at h2;omega)
   ·rw[decide_eq_true h0,decide_eq_true h1,decide_eq_false h2] at h;cases h
  ·rw[decide_eq_true h0,decide_eq_false h1] at h;cases h
 ·rw[decide_eq_false h0] at h;cases h
end bm

namespace Go.Ref
open Go Go.Shelf Go.RowKit Go.Proofs
variable {P:Program} {E:Env} {ρ:Ren}
abbrev xU(T e:TypeId):Ty:= .aJ (.gF T e) .unit .unit
def SM(x s:ByteArray):Option (Int×ByteArray):=bif decide (x.size+s.size<=140737488355328) then some ((s.size:Int),x++s) else none
def z5b(x:ByteArray):Option (ByteArray×ByteArray):=some (x,x)
def RQ(T e:TypeId):Pure:=fun R l b K=>j5 (xU T e) [[]] l b fun x0 l=>fV .str l fun x1=>(SM x0 x1).bind fun r=>K [.aj (.int .i64) r.1 [],.undef] (some ⟨xU T e,r.2,[[]]⟩)
def RP(T e:TypeId):Pure:=fun R l b K=>j5 (xU T e) [[]] l b fun x0 l=>fU l ((z5b x0).bind fun r=>K [.aj .str r.1 []] (some ⟨xU T e,r.2,[]⟩))
theorem aoL(T e:TypeId):(RQ T e).Nat:=fun R S l b F G K h=>Qf fun _ _=>zht fun _=>rT fun _=>h _ _
theorem aoK(T e:TypeId):(RP T e).Nat:=fun R S l b F G K h=>Qf fun _ _=>zhs (rT fun _=>h _ _)
theorem z198(x s:ByteArray):Lib.strCells (x++s)=Lib.strCells x++Lib.strCells s:=by
 simp [Lib.strCells,ByteArray.data_append]
def aw.gF(X:aw)(w:World)(r:Nat)(g:Option Nat):aw:=⟨w,fun k=>if k=r then .box 0 else if g=some k then .row (.b 0 []) 0 else if k<X.w.heap.size then X.ow k else .ro 0,X.β⟩
theorem OC{X:aw}{w:World}{r:Nat}{g0 g:Option Nat}(how:X.ow r= .box 0)(h0:∀k,g0=some k->X.ow k= .row (.b 0 []) 0)(h:gE r g0 X.w w)(hg:∀k,g=some k->g0=some k\/X.w.heap.size<=k):Ext X (X.gF w r g):=by
 have dx:∀k,k<X.w.heap.size->X.ow k≠ .box 0->X.ow k≠ .row (.b 0 []) 0->(X.gF w r g).ow k=X.ow k/\w.heap[k]? =X.w.heap[k]? :=fun k hk h1 h2=>by
  have hr:k≠r:=fun e=>h1 (by rw[e];exact how)
  have hg1:g≠some k:=fun e=>by
   rcases hg k e with e2|e2
   ·exact h2 (h0 k e2)
   ·omega
  have hg2:some k≠g0:=fun e=>h2 (h0 k e.symm)
  refine⟨?_,h.block k hk hr hg2⟩
  simp only[aw.gF]
  rw[if_neg hr,if_neg hg1,if_pos hk]
 refine⟨fun a v hs=> ?_,h.size,h.os,h.tape,h.output,rfl,fun k hk bP=> ?_⟩
 ·have aq:=aw.iF hs
  have hu:=hs.2.2
  obtain⟨k1,k2⟩:=dx a.block aq (fun e=>by rw[e] at hu;exact hu) (fun e=>by rw[e] at hu;exact Nat.not_lt_zero _ hu)
  refine⟨hs.1,?_,by rw[k1];exact hu⟩
  have:=hs.2.1
  simp only[World.cell?] at this⊢
  rw[show(X.gF w r g).w.heap=w.heap from rfl,k2];exact this
 ·exact dx k hk (fun e=>by rw[e] at bP;exact bP) (fun e=>by rw[e] at bP;exact bP)
theorem z175(n:Nat):Nat.beq n n=true:=by simp
theorem Pu{f n:Nat}(e:f≠n):Nat.beq f n=false:=by
 cases hh:Nat.beq f n with
 |false=>rfl
 |true=>exact absurd (Nat.eq_of_beq_eq_true hh) e
theorem agc{C:ah}(h0:∀f,cY P C f){n T e:TypeId}(eG:sf P n)(L:Lays.n166 P ρ)(X0:Builder.Extra P ρ)(hn:ρ.f 166=n)(hT:ρ.t 72=T)(he:ρ.t 5=e):∀f,cY P (C.add n [] (RQ T e)) f:=by
 subst hT he
 intro f
 by_cases ef:f=n
 ·subst ef
  intro l b r b' hc
  unfold ah.add at hc
  rw[z175] at hc
  have hc:RQ (ρ.t 72) (ρ.t 5) (List SV×Option bC) (aM [] l) b (fun r b=>some (r,b))=some (r,b'):=hc
  have hl:aM [] l=l:=by cases l<;>rfl
  rw[hl] at hc
  unfold RQ at hc
  obtain⟨x,q,rfl,rfl,Ki⟩:=zhr hc
  clear hc
  have hc:=Ki
  clear Ki
  unfold fV at hc
  split at hc
  case h_2=>cases hc
  rename_i a
  obtain⟨s,hc,hs⟩:=zz hc
  unfold SM at hc
  cases hd:decide (ByteArray.size x+s.size<=140737488355328) with
  |false=>rw[hd] at hc;cases hc
  |true=>
   rw[hd] at hc
   cases hc
   have hlen:=of_decide_eq_true hd
   refine⟨eG,fun X args hI=> ?_⟩
   obtain⟨r0,hβ,how,⟨o,ho⟩,hb⟩:=hI.box _ rfl
   obtain⟨v,hB,hv⟩:=hb (by simp)
   have dm:args.size=2:=by rw[hI.size];rfl
   have a0:args[0]? =some (.pointer (some ⟨r0,0,none⟩)):=by
    rw[Array.getElem?_eq_getElem (by omega)]
    obtain⟨r1,g1,g2⟩:=hI.rep 0 _ _ rfl (Array.getElem?_eq_getElem (by omega))
    rw[hβ] at g1
    cases g1
    rw[((Qk rfl).1 g2).1];rfl
   have a1:args[1]? =some (.string s):=L4 hI (i:=1) rfl hs
   rw[M6 dm a0 a1,<-hn]
   refine(age L X0 r0 v (Lib.strCells x) s X.w hB (by rw[Lib.strCells_length];exact hlen)).mono ?_
   rintro e w' ⟨rfl,v',eD,xl,gY⟩
   have hY:(X.gF w' r0 v'.ownBlock).ow r0= .box 0:=by simp [aw.gF]
   refine⟨X.gF w' r0 v'.ownBlock,rfl,OC how hv xl gY,r0,⟨_,rfl,rfl,fun j sv u hj hu=> ?_⟩,fun B' cW=> ?_,(fun _ id t p hm=>by simp at hm),rfl⟩
   ·match j with
    |0=>cases hj;cases hu;exact jr
    |1=>cases hj;trivial
    |j+2=>simp at hj
   ·cases cW
    refine⟨⟨hY,?_,fun _=>⟨v',by rw[z198];exact eD,fun g hg=> ?_⟩⟩,fun _=>hβ⟩
    ·rcases eD.mV with h|h<;>exact⟨_,h⟩
    ·simp only[aw.gF]
     rw[if_neg (fun e=>eD.ne (by rw[hg,e])),if_pos hg]
 ·intro l b r b' hc
  unfold ah.add at hc
  rw[Pu ef] at hc
  exact h0 f l b r b' hc
theorem agb{C:ah}(h0:∀f,cY P C f){n T e:TypeId}(eG:sf P n)(L:Lays.n169 P ρ)(X0:Builder.Extra P ρ)(hn:ρ.f 169=n)(hT:ρ.t 72=T)(he:ρ.t 5=e):∀f,cY P (C.add n [] (RP T e)) f:=by
 subst hT he
 intro f
 by_cases ef:f=n
 ·subst ef
  intro l b r b' hc
  unfold ah.add at hc
  rw[z175] at hc
  have hc:RP (ρ.t 72) (ρ.t 5) (List SV×Option bC) (aM [] l) b (fun r b=>some (r,b))=some (r,b'):=hc
  have hl:aM [] l=l:=by cases l<;>rfl
  rw[hl] at hc
  unfold RP at hc
  obtain⟨x,q,rfl,rfl,Ki⟩:=zhr hc
  clear hc
  have hc:=Ki
  clear Ki
  unfold fU at hc
  split at hc
  case h_2=>cases hc
  cases hc
  refine⟨eG,fun X args hI=> ?_⟩
  obtain⟨r0,hβ,how,⟨o,ho⟩,hb⟩:=hI.box _ rfl
  obtain⟨v,hB,hv⟩:=hb (by simp)
  have dm:args.size=1:=by rw[hI.size];rfl
  have a0:args[0]? =some (.pointer (some ⟨r0,0,none⟩)):=by
   rw[Array.getElem?_eq_getElem (by omega)]
   obtain⟨r1,g1,g2⟩:=hI.rep 0 _ _ rfl (Array.getElem?_eq_getElem (by omega))
   rw[hβ] at g1
   cases g1
   rw[((Qk rfl).1 g2).1];rfl
  rw[ajJ dm a0,<-hn]
  refine(ajP L X0 r0 v (x:ByteArray).data.toList X.w hB).mono ?_
  rintro e w' ⟨rfl,xl⟩
  have hY:(X.gF w' r0 none).ow r0= .box 0:=by simp [aw.gF]
  refine⟨X.gF w' r0 none,rfl,OC how hv xl (fun k hk=>by cases hk),r0,?_,fun B' cW=> ?_,(fun _ id t p hm=>by simp at hm),rfl⟩
  ·exact Bv
  ·cases cW
   refine⟨⟨hY,⟨_,Array.getElem?_eq_getElem (Nat.lt_of_lt_of_le hB.lt xl.size)⟩,fun hm=>by cases hm⟩,fun _=>hβ⟩
 ·intro l b r b' hc
  unfold ah.add at hc
  rw[Pu ef] at hc
  exact h0 f l b r b' hc
end Go.Ref

namespace Go.Ref
open Go
variable {P:Program} {R S:Type}
structure aP(P:Program)(T:ah):Prop where
 mix:P.follows .mixedOrders=true
 nat:T.Nat
 uL:∀f,cY P T f
noncomputable abbrev cd (fn:Func):Code:=fn.body.getD .skip
noncomputable abbrev vr (E:Env) (T:ah) (R:Type) (k:Nat) (fn:Func) (l:List SV) (b:Option bC) (K:List SV->Option bC->Option R):Option R:=jB E (T R) k fn (cd fn) l b K
abbrev KF(R:Type):Type:=List SV->Option bC->Option R
abbrev KX(R:Type):Type:=Ex->State->Option R
abbrev kC(β:Type):Type 1:=(R:Type)->β->KF R->Option R
def kC.Nat{β:Type}(o:kC β):Prop:=∀(R S:Type) r (F:KF R) (G:KF S) (K:S->Option R),(∀r b,F r b=(G r b).bind K)->o R r F=(o S r G).bind K
def tT(fn:Func):Bool:= !(fn.name== "runtime.NumGoroutine")&&fn.body.isSome
def tI(x:Int):SV:= .aj (.int .i64) x []
def tU(x:Int):SV:= .aj (.int .u8) x []
def tB(x:Bool):SV:= .aj .bool x []
def tS(x:ByteArray):SV:= .aj .str x []
theorem PD{kk:Nat}(hF:kk=ag){R:Type}(f:Unit->Option R):cJ kk f=f ():=by rw[hF];exact adR f
theorem aD:(∀{R S:Type} (c:Bool) (x y:Option S) (F:S->Option R),(bif c then x else y).bind F=bif c then x.bind F else y.bind F)/\(∀{R S:Type} (i:Int) (n:Nat) (x:Option S) (F:S->Option R),(zd i n x).bind F=zd i n (x.bind F))/\
 (∀{R S:Type} (F:S->Option R),(.none:Option S).bind F= .none)/\(∀{R S:Type} (x:S) (F:S->Option R),(some x).bind F=F x)/\(∀{R S α β:Type} (f:α->Option S) (g:β->Option S) (e:α⊕β) (F:S->Option R),(Sum.elim f g e).bind F=Sum.elim (fun x=>(f x).bind F) (fun x=>(g x).bind F) e)/\
 (∀{R S α:Type} (x:Option α) (f:α->Option S) (F:S->Option R),(x.bind f).bind F=x.bind fun y=>(f y).bind F)/\(∀{α β γ:Type} (f:α->γ) (g:β->γ) (x:α),Sum.elim f g (.inl x)=f x)/\(∀{α β γ:Type} (f:α->γ) (g:β->γ) (x:β),Sum.elim f g (.inr x)=g x):=
 ⟨zi6,ac3,ag3,zc,akW,aga,fun _ _ _=>rfl,fun _ _ _=>rfl⟩
theorem aP.none(hm:P.follows .mixedOrders=true):aP P ah.none:=⟨hm,akF,ag4⟩
theorem aP.add{E:Env}{T:ah}(h:aP P T)(hE:al P E){n:FuncId}{ps:List Ty}{g:Pure}{fn:Func}(iJ:P.funcs[n]? =some fn)(hc:tT fn=true)(hg:g.Nat)
 (h1:∀(l:List SV) (b:Option bC) (r:List SV) (b':Option bC),g (List SV×Option bC) (aM ps l) b (fun r b=>some (r,b))=some (r,b')->∃k,jB E (T (List SV×Option bC)) k fn (cd fn) l b (fun r b=>some (r,b))=some (r,b')):aP P (T.add n ps g):=by
 obtain⟨h2,h3⟩:=Bool.and_eq_true_iff.1 hc
 refine⟨h.mix,Wt h.nat hg,ajH hE h.mix h.nat h.uL iJ (by simpa using h2) ?_ h1⟩
 cases e:fn.body with
 |none=>rw[e] at h3;cases h3
 |some c=>simp [cd,e]
def GO{β:Type}(f:Option β)(o:kC β):Pure:=fun R l b K=>gu b (fU l (f.bind fun r=>o R r K))
theorem Ll(E:Env){T:ah}{n:FuncId}(fn:Func){β:Type}{f:Option β}{o:kC β}(m:(R:Type)->Nat->KF R->Option R)(h0:aP P T)(hE:al P E)(iJ:P.funcs[n]? =some fn)(hc:tT fn=true)(hp:E.ps=[])(ho:o.Nat)
 (h1:∀(R:Type) k (K:KF R),vr E T R k fn [] .none K=m R k K) (h2:∀(R:Type) kk (e:kk=ag) (K:KF R),m R kk K=f.bind fun r=>o R r K):aP P (T.add n [] (GO f o)):=
 h0.add hE iJ hc (fun R S l b F G K h=>Fl (zhs (rT fun _=>ho _ _ _ _ _ _ h))) fun l b r b' h=>by
  obtain⟨rfl,h5⟩:=Fh h
  obtain⟨h3,h4⟩:=xM hp h5
  exact⟨ag,(h4 _ _ _ _ _ _).trans (((h1 _ _ _).trans (h2 _ _ rfl _)).trans h3)⟩
def cO(t:Ty){β:Type}(f:El t->Option β)(o:kC β):Pure:=fun R l b K=>gu b (fV t l (fun x=>(f x).bind fun r=>o R r K))
theorem cP(E:Env){T:ah}{n:FuncId}(fn:Func){t:Ty}{β:Type}{f:El t->Option β}{o:kC β}(m:(R:Type)->Nat->El t->KF R->Option R)(h0:aP P T)(hE:al P E)(iJ:P.funcs[n]? =some fn)(hc:tT fn=true)(hp:E.ps=[t])(ho:o.Nat)
 (h1:∀(R:Type) k x (K:KF R),vr E T R k fn [.aj t x []] .none K=m R k x K) (h2:∀(R:Type) kk (e:kk=ag) x (K:KF R),m R kk x K=(f x).bind fun r=>o R r K):aP P (T.add n [t] (cO t f o)):=
 h0.add hE iJ hc (fun R S l b F G K h=>Fl (zht fun _=>rT fun _=>ho _ _ _ _ _ _ h)) fun l b r b' h=>by
  obtain⟨rfl,h5⟩:=Fh h
  obtain⟨x,h3,h4⟩:=K9 hp h5
  exact⟨ag,(h4 _ _ _ _ _ _).trans (((h1 _ _ x _).trans (h2 _ _ rfl x _)).trans h3)⟩
def dt(t u:Ty){β:Type}(f:El t->El u->Option β)(o:kC β):Pure:=fun R l b K=>gu b (fB t u l (fun x y=>(f x y).bind fun r=>o R r K))
theorem dv(E:Env){T:ah}{n:FuncId}(fn:Func){t u:Ty}{β:Type}{f:El t->El u->Option β}{o:kC β}(m:(R:Type)->Nat->El t->El u->KF R->Option R)(h0:aP P T)(hE:al P E)(iJ:P.funcs[n]? =some fn)(hc:tT fn=true)(hp:E.ps=[t,u])(ho:o.Nat)
 (h1:∀(R:Type) k x y (K:KF R),vr E T R k fn [.aj t x [],.aj u y []] .none K=m R k x y K) (h2:∀(R:Type) kk (e:kk=ag) x y (K:KF R),m R kk x y K=(f x y).bind fun r=>o R r K):aP P (T.add n [t,u] (dt t u f o)):=
 h0.add hE iJ hc (fun R S l b F G K h=>Fl (zhu fun _ _=>rT fun _=>ho _ _ _ _ _ _ h)) fun l b r b' h=>by
  obtain⟨rfl,h5⟩:=Fh h
  obtain⟨x,y,h3,h4⟩:=kv hp h5
  exact⟨ag,(h4 _ _ _ _ _ _).trans (((h1 _ _ x y _).trans (h2 _ _ rfl x y _)).trans h3)⟩
def kE(t u v:Ty){β:Type}(f:El t->El u->El v->Option β)(o:kC β):Pure:=fun R l b K=>gu b (lj t u v l (fun x y a=>(f x y a).bind fun r=>o R r K))
theorem kU(E:Env){T:ah}{n:FuncId}(fn:Func){t u v:Ty}{β:Type}{f:El t->El u->El v->Option β}{o:kC β}(m:(R:Type)->Nat->El t->El u->El v->KF R->Option R)(h0:aP P T)(hE:al P E)(iJ:P.funcs[n]? =some fn)(hc:tT fn=true)(hp:E.ps=[t,u,v])(ho:o.Nat)
 (h1:∀(R:Type) k x y a (K:KF R),vr E T R k fn [.aj t x [],.aj u y [],.aj v a []] .none K=m R k x y a K) (h2:∀(R:Type) kk (e:kk=ag) x y a (K:KF R),m R kk x y a K=(f x y a).bind fun r=>o R r K):aP P (T.add n [t,u,v] (kE t u v f o)):=
 h0.add hE iJ hc (fun R S l b F G K h=>Fl (af5 fun _ _ _=>rT fun _=>ho _ _ _ _ _ _ h)) fun l b r b' h=>by
  obtain⟨rfl,h5⟩:=Fh h
  obtain⟨x,y,a,h3,h4⟩:=abE hp h5
  exact⟨ag,(h4 _ _ _ _ _ _).trans (((h1 _ _ x y a _).trans (h2 _ _ rfl x y a _)).trans h3)⟩
def SC(t u v w:Ty){β:Type}(f:El t->El u->El v->El w->Option β)(o:kC β):Pure:=fun R l b K=>gu b (lk t u v w l (fun x y a b=>(f x y a b).bind fun r=>o R r K))
theorem st4(E:Env){T:ah}{n:FuncId}(fn:Func){t u v w:Ty}{β:Type}{f:El t->El u->El v->El w->Option β}{o:kC β}(m:(R:Type)->Nat->El t->El u->El v->El w->KF R->Option R)(h0:aP P T)(hE:al P E)(iJ:P.funcs[n]? =some fn)(hc:tT fn=true)(hp:E.ps=[t,u,v,w])(ho:o.Nat)
 (h1:∀(R:Type) k x y a b (K:KF R),vr E T R k fn [.aj t x [],.aj u y [],.aj v a [],.aj w b []] .none K=m R k x y a b K) (h2:∀(R:Type) kk (e:kk=ag) x y a b (K:KF R),m R kk x y a b K=(f x y a b).bind fun r=>o R r K):aP P (T.add n [t,u,v,w] (SC t u v w f o)):=
 h0.add hE iJ hc (fun R S l b F G K h=>Fl (af6 fun _ _ _ _=>rT fun _=>ho _ _ _ _ _ _ h)) fun l b r b' h=>by
  obtain⟨rfl,h5⟩:=Fh h
  obtain⟨x,y,a,b,h3,h4⟩:=abF hp h5
  exact⟨ag,(h4 _ _ _ _ _ _).trans (((h1 _ _ x y a b _).trans (h2 _ _ rfl x y a b _)).trans h3)⟩
def GN(T0:Ty)(wn:List (List Nat)){β:Type}(f:El T0->Option β)(o:kC β):Pure:=fun R l b K=>j5 T0 wn l b fun z l=>fU l ((f z).bind fun r=>o R r K)
theorem SI(E:Env){T:ah}{n:FuncId}(fn:Func){T0:Ty}{wn:List (List Nat)}{β:Type}{f:El T0->Option β}{o:kC β}(m:(R:Type)->Nat->El T0->KF R->Option R)(h0:aP P T)(hE:al P E)(iJ:P.funcs[n]? =some fn)(hc:tT fn=true)(hp:E.ps=[.unit])(ho:o.Nat)
 (h1:∀(R:Type) k z (K:KF R),vr E T R k fn [.ptr 0 T0 []] (some ⟨T0,z,wn⟩) K=m R k z K) (h2:∀(R:Type) kk (e:kk=ag) z (K:KF R),m R kk z K=(f z).bind fun r=>o R r K):aP P (T.add n [.unit] (GN T0 wn f o)):=
 h0.add hE iJ hc (fun R S l b F G K h=>Qf fun _ _=>zhs (rT fun _=>ho _ _ _ _ _ _ h)) fun l b r b' h=>by
  unfold GN at h
  obtain⟨z,q,rfl,rfl,h5⟩:=CT h
  obtain⟨h3,h4⟩:=La hp h5
  exact⟨ag,(h4 _ _ _ _ _ _).trans (((h1 _ _ z _).trans (h2 _ _ rfl z _)).trans h3)⟩
def CW(T0:Ty)(wn:List (List Nat))(t:Ty){β:Type}(f:El T0->El t->Option β)(o:kC β):Pure:=fun R l b K=>j5 T0 wn l b fun z l=>fV t l (fun x=>(f z x).bind fun r=>o R r K)
theorem Lj(E:Env){T:ah}{n:FuncId}(fn:Func){T0:Ty}{wn:List (List Nat)}{t:Ty}{β:Type}{f:El T0->El t->Option β}{o:kC β}(m:(R:Type)->Nat->El T0->El t->KF R->Option R)(h0:aP P T)(hE:al P E)(iJ:P.funcs[n]? =some fn)(hc:tT fn=true)(hp:E.ps=[.unit,t])(ho:o.Nat)
 (h1:∀(R:Type) k z x (K:KF R),vr E T R k fn [.ptr 0 T0 [],.aj t x []] (some ⟨T0,z,wn⟩) K=m R k z x K) (h2:∀(R:Type) kk (e:kk=ag) z x (K:KF R),m R kk z x K=(f z x).bind fun r=>o R r K):aP P (T.add n [.unit,t] (CW T0 wn t f o)):=
 h0.add hE iJ hc (fun R S l b F G K h=>Qf fun _ _=>zht fun _=>rT fun _=>ho _ _ _ _ _ _ h) fun l b r b' h=>by
  unfold CW at h
  obtain⟨z,q,rfl,rfl,h5⟩:=CT h
  obtain⟨x,h3,h4⟩:=Lb hp h5
  exact⟨ag,(h4 _ _ _ _ _ _).trans (((h1 _ _ z x _).trans (h2 _ _ rfl z x _)).trans h3)⟩
def pb2(T0:Ty)(wn:List (List Nat))(t u:Ty){β:Type}(f:El T0->El t->El u->Option β)(o:kC β):Pure:=fun R l b K=>j5 T0 wn l b fun z l=>fB t u l (fun x y=>(f z x y).bind fun r=>o R r K)
theorem sb2(E:Env){T:ah}{n:FuncId}(fn:Func){T0:Ty}{wn:List (List Nat)}{t u:Ty}{β:Type}{f:El T0->El t->El u->Option β}{o:kC β}(m:(R:Type)->Nat->El T0->El t->El u->KF R->Option R)(h0:aP P T)(hE:al P E)(iJ:P.funcs[n]? =some fn)(hc:tT fn=true)(hp:E.ps=[.unit,t,u])(ho:o.Nat)
 (h1:∀(R:Type) k z x y (K:KF R),vr E T R k fn [.ptr 0 T0 [],.aj t x [],.aj u y []] (some ⟨T0,z,wn⟩) K=m R k z x y K) (h2:∀(R:Type) kk (e:kk=ag) z x y (K:KF R),m R kk z x y K=(f z x y).bind fun r=>o R r K):aP P (T.add n [.unit,t,u] (pb2 T0 wn t u f o)):=
 h0.add hE iJ hc (fun R S l b F G K h=>Qf fun _ _=>zhu fun _ _=>rT fun _=>ho _ _ _ _ _ _ h) fun l b r b' h=>by
  unfold pb2 at h
  obtain⟨z,q,rfl,rfl,h5⟩:=CT h
  obtain⟨x,y,h3,h4⟩:=Lc hp h5
  exact⟨ag,(h4 _ _ _ _ _ _).trans (((h1 _ _ z x y _).trans (h2 _ _ rfl z x y _)).trans h3)⟩
def pz(t pt bt:Ty)(wn:List (List Nat)){β:Type}(f:El t->El bt->Option β)(o:kC β):Pure:=fun R l b K=>lh t pt bt wn l b fun x y=>(f x y).bind fun r=>o R r K
theorem sz(E:Env){T:ah}{n:FuncId}(fn:Func){t pt bt:Ty}{wn:List (List Nat)}{β:Type}{f:El t->El bt->Option β}{o:kC β}(m:(R:Type)->Nat->El t->El bt->KF R->Option R)(h0:aP P T)(hE:al P E)(iJ:P.funcs[n]? =some fn)(hc:tT fn=true)(hp:E.ps=[t,.unit])(ho:o.Nat)
 (h1:∀(R:Type) k x y (K:KF R),vr E T R k fn [.aj t x [],.ptr 0 pt []] (some ⟨bt,y,wn⟩) K=m R k x y K) (h2:∀(R:Type) kk (e:kk=ag) x y (K:KF R),m R kk x y K=(f x y).bind fun r=>o R r K):aP P (T.add n [t,.unit] (pz t pt bt wn f o)):=
 h0.add hE iJ hc (fun R S l b F G K h=>af4 fun _ _=>rT fun _=>ho _ _ _ _ _ _ h) fun l b r b' h=>by
  obtain⟨x,y,rfl,h3,h4⟩:=Le hp h
  exact⟨ag,(h4 _ _ _ _ _ _).trans (((h1 _ _ x y _).trans (h2 _ _ rfl x y _)).trans h3)⟩
def pv(t u v w:Ty){β:Type}(f:El t->El u->El v->El w->Option β)(o:kC β):Pure:=fun R l b K=>gu b (HI t u v w l (fun x y a b=>(f x y a b).bind fun r=>o R r K))
theorem sv(E:Env){T:ah}{n:FuncId}(fn:Func){t u v w:Ty}{β:Type}{f:El t->El u->El v->El w->Option β}{o:kC β}(m:(R:Type)->Nat->El t->El u->El v->El w->KF R->Option R)(h0:aP P T)(hE:al P E)(iJ:P.funcs[n]? =some fn)(hc:tT fn=true)(hp:E.ps=[t,u,.unit,.unit])(ho:o.Nat)
 (h1:∀(R:Type) k x y a b (K:KF R),vr E T R k fn [.aj t x [],.aj u y [],.view v a,.view w b] .none K=m R k x y a b K) (h2:∀(R:Type) kk (e:kk=ag) x y a b (K:KF R),m R kk x y a b K=(f x y a b).bind fun r=>o R r K):aP P (T.add n [t,u,.unit,.unit] (pv t u v w f o)):=
 h0.add hE iJ hc (fun R S l b F G K h=>Fl (adn fun _ _ _ _=>rT fun _=>ho _ _ _ _ _ _ h)) fun l b r b' h=>by
  unfold pv at h
  obtain⟨rfl,h5⟩:=Fh h
  obtain⟨x,y,a,b,h3,h4⟩:=Ld hp h5
  exact⟨ag,(h4 _ _ _ _ _ _).trans (((h1 _ _ x y a b _).trans (h2 _ _ rfl x y a b _)).trans h3)⟩
end Go.Ref

namespace bm
open Go.IntKind renaming wrap->zW,i64->zI,u8->zU
open Go Go.Ref
abbrev mS:Type:=(ByteArray×Nat)
abbrev jw:Type:=(Int×Int×Int)
abbrev Sf:Type:=(ByteArray×Int)
abbrev Zt3:Type:=(Int×ByteArray)
abbrev xe:Type:=(List (List Int))
abbrev jK:Type:=(ByteArray×Bool)
abbrev aR:Type:=(Int×Int×Unit)
abbrev J1:Type:=(Int×Bool×Int)
abbrev BZ:Type:=(List (Int×Bool))
abbrev J2:Type:=(ByteArray×Int×Int)
abbrev bd:Type:=(Int×ByteArray×Unit)
abbrev ij:Type:=(List jK)
abbrev dF:Type:=(ByteArray×ByteArray×Unit)
abbrev ak:Type:=(List bd)
abbrev ap:Type:=(Int×Bool×(List Int)×Unit)
abbrev aS:Type:=(Int×Int×Int×Int×Int×Unit)
abbrev lV:Type:=(Int×Int×ByteArray×Int×Unit)
abbrev aO:Type:=(List dF)
abbrev tP:Type:=(Int×ap)
abbrev gS:Type:=(List aS)
abbrev ct:Type:=(List lV)
abbrev jx:Type:=(ak×Int×Int)
abbrev av:Type:=(ByteArray×ak×Unit)
abbrev af:Type:=(Int×Int×gS×Unit)
abbrev og:Type:=(List af)
abbrev aF:Type:=(Int×Int×Int×ByteArray×aO×Unit)
abbrev rj:Type:=(ak×Int×Int×ak)
abbrev bR:Type:=(List aF)
abbrev rl:Type:=(av×aR×av)
abbrev ax:Type:=(aO×bR×Unit)
abbrev ru:Type:=(ByteArray×Int×av×aR×av)
abbrev ar:Type:=(af×ax×(List Int)×ak×Unit)
abbrev mT:Type:=(List ar)
abbrev lW:Type:=(ax×af×af)
abbrev aA:Type:=(mT×Int×Unit)
abbrev lX:Type:=(Int×Int×Int×ax×af×af)
def V0{R:Type}(a:ByteArray)(b:Int)(c:ByteArray->Int->Option R):Option R:=
 c a b
def V1{R:Type}(a:ByteArray)(b:Int)(c:ByteArray->Int->Option R)(d:ByteArray->Option R):Option R:=
 bif 0<(a.size:Int) then zd (zW zI ((a.size:Int)-1)) a.size (bif ze a (zW zI ((a.size:Int)-(1:Int))).toNat=b then bif 0<=zW zI ((a.size:Int)-1) then bif zW zI ((a.size:Int)-1)<=(a.size:Int) then c (a.extract 0 (zW zI ((a.size:Int)-(1:Int))).toNat) b else none else none else d a) else d a
def V2{R:Type}(a:ByteArray)(b:ByteArray->Option R):Option R:=
 b a
def Hq:Nat->ByteArray->Int->Option ByteArray
 |0,_,_=>none
 |k+1,v0,v1=>V1 v0 v1 (fun a0 a1=>Hq k a0 a1) (fun a0=>some a0)
def wl(a:ByteArray)(b:Int):Option ByteArray:=
 V0 a b (fun a0 a1=>(Hq ag a0 a1).bind fun e=>V2 e (fun a0=>some a0))
def VW{R:Type}(a:ByteArray)(b:Int)(c:ByteArray->Int->Option R):Option R:=
 c a b
def VX{R:Type}(a:ByteArray)(b:Int)(c:ByteArray->Int->Option R)(d:ByteArray->Option R):Option R:=
 bif 0<(a.size:Int) then zd 0 a.size (bif ze a ((0:Int)).toNat=b then bif 1<=(a.size:Int) then c (a.extract ((1:Int)).toNat a.size) b else none else d a) else d a
def VY{R:Type}(a:ByteArray)(b:ByteArray->Option R):Option R:=
 b a
def Hp:Nat->ByteArray->Int->Option ByteArray
 |0,_,_=>none
 |k+1,v0,v1=>VX v0 v1 (fun a0 a1=>Hp k a0 a1) (fun a0=>some a0)
def wh(a:ByteArray)(b:Int):Option ByteArray:=
 VW a b (fun a0 a1=>(Hp ag a0 a1).bind fun e=>VY e (fun a0=>some a0))
def VU{R:Type}(a b:ByteArray)(c:ByteArray->Option R):Option R:=
 bif a=bs [] then c a else bif b=bs [] then c a else bif(b.size:Int)=1 then zd 0 b.size (bif ze b ((0:Int)).toNat<128 then zd 0 b.size ((wl a (ze b ((0:Int)).toNat)).bind fun r1=>zd 0 b.size ((wh r1 (ze b ((0:Int)).toNat)).bind fun r2=>c r2)) else none) else none
def tE(a b:ByteArray):Option ByteArray:=
 VU a b (fun a0=>some a0)
def XG{R:Type}(a:ByteArray)(b:mS->Option R):Option R:=
 b (a,0)
def XH{R:Type}(a:mS)(b:Bool->Option R)(c:mS->Option R)(d:Option R):Option R:=
 bif a.2<a.1.size then bif(((Utf8.decode a.1 a.2).1:Nat):Int)<48 then b false else bif 57<(((Utf8.decode a.1 a.2).1:Nat):Int) then b false else c (a.1,a.2+(Utf8.decode a.1 a.2).2) else d
def Ec{R:Type}(a:Bool)(b:Bool->Option R):Option R:=
 b a
def Ed{R:Type}(a:Bool->Option R):Option R:=
 a true
def Hz:Nat->mS->Option (Sum Bool Unit)
 |0,_=>none
 |k+1,v0=>XH v0 (fun a0=>some (.inl a0)) (fun a0=>Hz k a0) (some (.inr ()))
def yy(a:ByteArray):Option Bool:=
 XG a (fun a0=>(Hz ag a0).bind fun e=>Sum.elim (fun(we:Bool)=>Ec we (fun a0=>some a0)) (fun(we:Unit)=>Ed (fun a0=>some a0)) e)
def XJ{R:Type}(a:ByteArray)(b:Int->Bool->Option R)(c:Int->mS->Option R):Option R:=
 bif a=bs [] then b 0 false else bif 18<(a.size:Int) then b 0 false else(yy a).bind fun r1=>bif !r1 then b 0 false else c 0 (a,0)
def XK{R:Type}(a:Int)(b:mS)(c:Int->mS->Option R)(d:Int->Option R):Option R:=
 bif b.2<b.1.size then c (zW zI (zW zI (10*a)+zW zI (IntKind.i32.wrap ((((Utf8.decode b.1 b.2).1:Nat):Int)-48)))) (b.1,b.2+(Utf8.decode b.1 b.2).2) else d a
def Ee{R:Type}(a:Int)(b:Int->Bool->Option R):Option R:=
 b a true
def HA:Nat->Int->mS->Option Int
 |0,_,_=>none
 |k+1,v0,v1=>XK v0 v1 (fun a0 a1=>HA k a0 a1) (fun a0=>some a0)
def yz(a:ByteArray):Option (Int×Bool):=
 XJ a (fun a0 a1=>some (a0,a1)) (fun a0 a1=>(HA ag a0 a1).bind fun e=>Ee e (fun a0 a1=>some (a0,a1)))
def XO{R:Type}(a b:Int)(c:ByteArray->Bool->Option R)(d:Int->Nat->Int->Nat->(List Int)->Option R):Option R:=
 bif a<0 then c (bs []) false else bif b<1 then c (bs []) false else bif 18<b then c (bs []) false else bif b=b then bif 0<=b then bif b*1<=140737488355328 then d a b.toNat (zW zI (b-1)) b.toNat (List.replicate b.toNat 0) else none else none else none
def Ry{R:Type}(a:Int)(b:Nat)(c:Int)(d:Nat)(e:(List Int))(f:Int->Nat->Int->Nat->(List Int)->Option R)(g:Int->Nat->Nat->(List Int)->Option R):Option R:=
 bif 0<=c then zd c b (bif Nat.ble (c.toNat+1) (List.length e) then f (zW zI (Int.tdiv a 10)) b (zW zI (c-1)) d (List.set e c.toNat (zW zU (zW zI (48+Int.tmod a 10)))) else none) else g a b d e
def XP{R:Type}(a:Int)(b c:Nat)(d:(List Int))(e:ByteArray->Bool->Option R):Option R:=
 bif 0<a then e (bs []) false else bif Nat.beq b (List.length d) then e (strOf d) true else none
def F6:Nat->Int->Nat->Int->Nat->(List Int)->Option (Int×Nat×Nat×(List Int))
 |0,_,_,_,_,_=>none
 |k+1,v0,v1,v2,v3,v4=>Ry v0 v1 v2 v3 v4 (fun a0 a1 a2 a3 a4=>F6 k a0 a1 a2 a3 a4) (fun a0 a1 a2 a3=>some (a0,a1,a2,a3))
def Ib(a b:Int):Option jK:=
 XO a b (fun a0 a1=>some (a0,a1)) (fun a0 a1 a2 a3 a4=>(F6 ag a0 a1 a2 a3 a4).bind fun e=>XP e.1 e.2.1 e.2.2.1 e.2.2.2 (fun a0 a1=>some (a0,a1)))
def XL{R:Type}(a:ByteArray)(b:Int)(c:ByteArray->Bool->Option R):Option R:=
 bif a=bs [] then c (bs []) false else bif 999<(a.size:Int) then c (bs []) false else(yy a).bind fun r1=>bif !r1 then c (bs []) false else bif b<1 then c (bs []) false else bif 999<b then c (bs []) false else bif(a.size:Int)<=b then(strings_Repeat (bs [48]) (zW zI (b-(a.size:Int)))).bind fun r2=>bif r2.size+a.size<=9223372036854775807 then c (r2++a) true else none else bif 0<=zW zI ((a.size:Int)-b) then bif zW zI ((a.size:Int)-b)<=(a.size:Int) then(tE (a.extract 0 (zW zI ((a.size:Int)-b)).toNat) (bs [48])).bind fun r3=>bif !decide (r3=bs []) then c (bs []) false else bif 0<=zW zI ((a.size:Int)-b) then bif zW zI ((a.size:Int)-b)<=(a.size:Int) then c (a.extract (zW zI ((a.size:Int)-b)).toNat a.size) true else none else none else none else none
def H9(a:ByteArray)(b:Int):Option jK:=
 XL a b (fun a0 a1=>some (a0,a1))
def pj{R:Type}(a:Int)(b:Int->Option R):Option R:=
 bif a<1 then b 0 else b (zW zI (zW zI (Int.tdiv a 2)+Int.tmod a 2))
def Q2(a:Int):Option Int:=
 pj a (fun a0=>some a0)
def oV{R:Type}(a:ByteArray)(b:Int)(c:ByteArray->Int->Int->Option R)(d:ByteArray->Int->(List Int)->Int->Int->Option R):Option R:=
 bif b<0 then c (bs []) 1 0 else bif 999<b then c (bs []) 1 0 else(Q2 b).bind fun r1=>bif(a.size:Int)<r1 then c (bs []) 2 (a.size:Int) else bif 0<=zW zI (b+1) then bif zW zI (b+1)*1<=140737488355328 then(Q2 b).bind fun r2=>d a b [] r2 0 else none else none
def mG{R:Type}(a:ByteArray)(b:Int)(c:(List Int))(d e:Int)(f:Int->ByteArray->Int->Int->(List Int)->Option R)(g:ByteArray->Int->(List Int)->Int->Int->Option R)(h:Int->(List Int)->Option R):Option R:=
 bif e<d then zd e a.size (zd e a.size (bif e=0 then bif !decide (Int.tmod b 2=0) then bif !decide (Int.fdiv (ze a e.toNat) (2^min ((4:Int)).toNat 8)=0) then f b (bs []) 4 0 c else bif 9<Int.fdiv (ze a e.toNat) (2^min ((4:Int)).toNat 8) then f b (bs []) 3 e c else bif 9<aQ .and .u8 (ze a e.toNat) 15 then f b (bs []) 3 e c else bif(List.length c+List.length ([(zW zU ((48:Int)+Int.fdiv (ze a e.toNat) (2^min ((4:Int)).toNat 8))),(zW zU ((48:Int)+aQ .and .u8 (ze a e.toNat) (15:Int)))]:List Int))*1<=140737488355328 then g a b (c++([(zW zU (48+Int.fdiv (ze a e.toNat) (2^min ((4:Int)).toNat 8))),(zW zU (48+aQ .and .u8 (ze a e.toNat) 15))]:List Int)) d (zW zI (e+1)) else none else bif 9<Int.fdiv (ze a e.toNat) (2^min ((4:Int)).toNat 8) then f b (bs []) 3 e c else bif 9<aQ .and .u8 (ze a e.toNat) 15 then f b (bs []) 3 e c else bif(List.length c+List.length ([(zW zU ((48:Int)+Int.fdiv (ze a e.toNat) (2^min ((4:Int)).toNat 8))),(zW zU ((48:Int)+aQ .and .u8 (ze a e.toNat) (15:Int)))]:List Int))*1<=140737488355328 then g a b (c++([(zW zU (48+Int.fdiv (ze a e.toNat) (2^min ((4:Int)).toNat 8))),(zW zU (48+aQ .and .u8 (ze a e.toNat) 15))]:List Int)) d (zW zI (e+1)) else none else bif 9<Int.fdiv (ze a e.toNat) (2^min ((4:Int)).toNat 8) then f b (bs []) 3 e c else bif 9<aQ .and .u8 (ze a e.toNat) 15 then f b (bs []) 3 e c else bif(List.length c+List.length ([(zW zU ((48:Int)+Int.fdiv (ze a e.toNat) (2^min ((4:Int)).toNat 8))),(zW zU ((48:Int)+aQ .and .u8 (ze a e.toNat) (15:Int)))]:List Int))*1<=140737488355328 then g a b (c++([(zW zU (48+Int.fdiv (ze a e.toNat) (2^min ((4:Int)).toNat 8))),(zW zU (48+aQ .and .u8 (ze a e.toNat) 15))]:List Int)) d (zW zI (e+1)) else none)) else h b c
def sL{R:Type}(a:Int)(b:ByteArray)(c d:Int)(e:(List Int))(f:ByteArray->Int->Int->Option R):Option R:=
 f b c d
def oW{R:Type}(a:Int)(b:(List Int))(c:ByteArray->Int->Int->Option R):Option R:=
 bif 0<=Int.tmod a 2 then bif Int.tmod a 2<=(((List.length b):Nat):Int) then c (strOf (List.drop (Int.tmod a (2:Int)).toNat (List.take (List.length b) b))) 0 0 else none else none
def jb:Nat->ByteArray->Int->(List Int)->Int->Int->Option (Sum (Int×ByteArray×Int×Int×(List Int)) (Int×(List Int)))
 |0,_,_,_,_,_=>none
 |k+1,v0,v1,v2,v3,v4=>mG v0 v1 v2 v3 v4 (fun a0 a1 a2 a3 a4=>some (.inl (a0,a1,a2,a3,a4))) (fun a0 a1 a2 a3 a4=>jb k a0 a1 a2 a3 a4) (fun a0 a1=>some (.inr (a0,a1)))
def Q0(a:ByteArray)(b:Int):Option J2:=
 oV a b (fun a0 a1 a2=>some (a0,a1,a2)) (fun a0 a1 a2 a3 a4=>(jb ag a0 a1 a2 a3 a4).bind fun e=>Sum.elim (fun(we:(Int×ByteArray×Int×Int×(List Int)))=>sL we.1 we.2.1 we.2.2.1 we.2.2.2.1 we.2.2.2.2 (fun a0 a1 a2=>some (a0,a1,a2))) (fun(we:(Int×(List Int)))=>oW we.1 we.2 (fun a0 a1 a2=>some (a0,a1,a2))) e)
def kY{R:Type}(a:ByteArray)(b:ByteArray->Bool->Option R)(c:ByteArray->(List Int)->Int->Option R):Option R:=
 bif 999<(a.size:Int) then b (bs []) false else(yy a).bind fun r1=>bif !r1 then b (bs []) false else bif !decide (Int.tmod (a.size:Int) 2=0) then bif(bs [48]).size+a.size<=9223372036854775807 then bif 0<=zW zI (Int.tdiv ((bs [48]++a).size:Int) 2) then bif zW zI (Int.tdiv ((bs [48]++a).size:Int) 2)*1<=140737488355328 then c (bs [48]++a) [] 0 else none else none else none else bif 0<=zW zI (Int.tdiv (a.size:Int) 2) then bif zW zI (Int.tdiv (a.size:Int) 2)*1<=140737488355328 then c a [] 0 else none else none
theorem adg{R S:Type}(F:R->Option S)(a)(b)(c):(kY a b c).bind F=kY a (fun a0 a1=>(b a0 a1).bind F) (fun a0 a1 a2=>(c a0 a1 a2).bind F):=by
 simp only[kY,aD]
def mM{R:Type}(a:ByteArray)(b:(List Int))(c:Int)(d:ByteArray->(List Int)->Int->Option R)(e:(List Int)->Option R):Option R:=
 bif c<(a.size:Int) then zd c a.size (zd (zW zI (c+1)) a.size (bif(List.length b+List.length ([(aQ .or .u8 (zW zU (zW zU (ze a c.toNat-(48:Int))*2^min ((4:Int)).toNat 8)) (zW zU (ze a (zW zI (c+(1:Int))).toNat-(48:Int))))]:List Int))*1<=140737488355328 then d a (b++([(aQ .or .u8 (zW zU (zW zU (ze a c.toNat-48)*2^min ((4:Int)).toNat 8)) (zW zU (ze a (zW zI (c+(1:Int))).toNat-48)))]:List Int)) (zW zI (c+2)) else none)) else e b
def tA{R:Type}(a:(List Int))(b:ByteArray->Bool->Option R):Option R:=
 b (strOf a) true
def jV:Nat->ByteArray->(List Int)->Int->Option (List Int)
 |0,_,_,_=>none
 |k+1,v0,v1,v2=>mM v0 v1 v2 (fun a0 a1 a2=>jV k a0 a1 a2) (fun a0=>some a0)
def Q1(a:ByteArray):Option jK:=
 kY a (fun a0 a1=>some (a0,a1)) (fun a0 a1 a2=>(jV ag a0 a1 a2).bind fun e=>tA e (fun a0 a1=>some (a0,a1)))
def pw{R:Type}(a:Int)(b:Int->Option R):Option R:=
 bif a<0 then b 0 else bif 65535<a then b 0 else bif 255<a then b (zW zI (zW zI (zW zI (0+1)+1)+1)) else bif 127<a then b (zW zI (zW zI (0+1)+1)) else b (zW zI (0+1))
def Q4(a:Int):Option Int:=
 pw a (fun a0=>some a0)
def kZ{R:Type}(a:ByteArray)(b:Int)(c:Int->Int->Int->Option R)(d:ByteArray->Int->Int->Int->Int->Int->Option R):Option R:=
 bif b<0 then c 0 0 1 else bif(a.size:Int)<b then c 0 0 1 else bif b=(a.size:Int) then c 0 0 2 else zd b a.size (bif 127<zW zI (ze a b.toNat) then bif zW zI (ze a b.toNat)=128 then c 0 0 14 else bif 130<zW zI (ze a b.toNat) then c 0 0 14 else bif zW zI ((a.size:Int)-zW zI (b+1))<zW zI (zW zI (ze a b.toNat)-128) then c 0 0 2 else d a (zW zI (b+1)) 0 (zW zI (zW zI (ze a b.toNat)-128)) (zW zI (zW zI (ze a b.toNat)-128)) 0 else bif zW zI ((a.size:Int)-zW zI (b+1))<0 then c 0 0 2 else d a (zW zI (b+1)) (zW zI (ze a b.toNat)) 0 0 0)
theorem adh{R S:Type}(F:R->Option S)(a)(b)(c)(d):(kZ a b c d).bind F=kZ a b (fun a0 a1 a2=>(c a0 a1 a2).bind F) (fun a0 a1 a2 a3 a4 a5=>(d a0 a1 a2 a3 a4 a5).bind F):=by
 simp only[kZ,aD]
def ld{R:Type}(a:ByteArray)(b c d e f:Int)(g:ByteArray->Int->Int->Int->Int->Int->Option R)(h:Int->Int->Int->Option R):Option R:=
 bif f<e then zd (zW zI (b+f)) a.size (g a b (aQ .or .i64 (zW zI (c*2^min ((8:Int)).toNat 64)) (zW zI (ze a (zW zI (b+f)).toNat))) d e (zW zI (f+1))) else h b c d
def lf{R:Type}(a b c:Int)(d:Int->Int->Int->Option R):Option R:=
 (Q4 b).bind fun r1=>bif !decide (r1=zW zI (c+1)) then d 0 0 14 else d b (zW zI (a+c)) 0
def eV:Nat->ByteArray->Int->Int->Int->Int->Int->Option jw
 |0,_,_,_,_,_,_=>none
 |k+1,v0,v1,v2,v3,v4,v5=>ld v0 v1 v2 v3 v4 v5 (fun a0 a1 a2 a3 a4 a5=>eV k a0 a1 a2 a3 a4 a5) (fun a0 a1 a2=>some (a0,a1,a2))
def Q3(a:ByteArray)(b:Int):Option jw:=
 kZ a b (fun a0 a1 a2=>some (a0,a1,a2)) (fun a0 a1 a2 a3 a4 a5=>(eV ag a0 a1 a2 a3 a4 a5).bind fun e=>lf e.1 e.2.1 e.2.2 (fun a0 a1 a2=>some (a0,a1,a2)))
def zyo{R:Type}(a:Int)(b:Int->Option R):Option R:=
 bif 4294967296<=a then bif 65536<=Int.fdiv a (2^min ((32:Int)).toNat 64) then bif 256<=Int.fdiv (Int.fdiv a (2^min ((32:Int)).toNat 64)) (2^min ((16:Int)).toNat 64) then zd (zW zU (Int.fdiv (Int.fdiv (Int.fdiv a (2^min ((32:Int)).toNat 64)) (2^min ((16:Int)).toNat 64)) (2^min ((8:Int)).toNat 64))) (bs [0,1,2,2,3,3,3,3,4,4,4,4,4,4,4,4,5,5,5,5,5,5,5,5,5,5,5,5,5,5,5,5,6,6,6,6,6,6,6,6,6,6,6,6,6,6,6,6,6,6,6,6,6,6,6,6,6,6,6,6,6,6,6,6,7,7,7,7,7,7,7,7,7,7,7,7,7,7,7,7,7,7,7,7,7,7,7,7,7,7,7,7,7,7,7,7,7,7,7,7,7,7,7,7,7,7,7,7,7,7,7,7,7,7,7,7,7,7,7,7,7,7,7,7,7,7,7,7,8,8,8,8,8,8,8,8,8,8,8,8,8,8,8,8,8,8,8,8,8,8,8,8,8,8,8,8,8,8,8,8,8,8,8,8,8,8,8,8,8,8,8,8,8,8,8,8,8,8,8,8,8,8,8,8,8,8,8,8,8,8,8,8,8,8,8,8,8,8,8,8,8,8,8,8,8,8,8,8,8,8,8,8,8,8,8,8,8,8,8,8,8,8,8,8,8,8,8,8,8,8,8,8,8,8,8,8,8,8,8,8,8,8,8,8,8,8,8,8,8,8,8,8,8,8,8,8]).size (b (zW zI (zW zI (zW zI (32+16)+8)+zW zI (ze (bs [0,1,2,2,3,3,3,3,4,4,4,4,4,4,4,4,5,5,5,5,5,5,5,5,5,5,5,5,5,5,5,5,6,6,6,6,6,6,6,6,6,6,6,6,6,6,6,6,6,6,6,6,6,6,6,6,6,6,6,6,6,6,6,6,7,7,7,7,7,7,7,7,7,7,7,7,7,7,7,7,7,7,7,7,7,7,7,7,7,7,7,7,7,7,7,7,7,7,7,7,7,7,7,7,7,7,7,7,7,7,7,7,7,7,7,7,7,7,7,7,7,7,7,7,7,7,7,7,8,8,8,8,8,8,8,8,8,8,8,8,8,8,8,8,8,8,8,8,8,8,8,8,8,8,8,8,8,8,8,8,8,8,8,8,8,8,8,8,8,8,8,8,8,8,8,8,8,8,8,8,8,8,8,8,8,8,8,8,8,8,8,8,8,8,8,8,8,8,8,8,8,8,8,8,8,8,8,8,8,8,8,8,8,8,8,8,8,8,8,8,8,8,8,8,8,8,8,8,8,8,8,8,8,8,8,8,8,8,8,8,8,8,8,8,8,8,8,8,8,8,8,8,8,8,8,8]) (zW zU (Int.fdiv (Int.fdiv (Int.fdiv a (2^min ((32:Int)).toNat 64)) (2^min ((16:Int)).toNat 64)) (2^min ((8:Int)).toNat 64))).toNat)))) else zd (zW zU (Int.fdiv (Int.fdiv a (2^min ((32:Int)).toNat 64)) (2^min ((16:Int)).toNat 64))) (bs [0,1,2,2,3,3,3,3,4,4,4,4,4,4,4,4,5,5,5,5,5,5,5,5,5,5,5,5,5,5,5,5,6,6,6,6,6,6,6,6,6,6,6,6,6,6,6,6,6,6,6,6,6,6,6,6,6,6,6,6,6,6,6,6,7,7,7,7,7,7,7,7,7,7,7,7,7,7,7,7,7,7,7,7,7,7,7,7,7,7,7,7,7,7,7,7,7,7,7,7,7,7,7,7,7,7,7,7,7,7,7,7,7,7,7,7,7,7,7,7,7,7,7,7,7,7,7,7,8,8,8,8,8,8,8,8,8,8,8,8,8,8,8,8,8,8,8,8,8,8,8,8,8,8,8,8,8,8,8,8,8,8,8,8,8,8,8,8,8,8,8,8,8,8,8,8,8,8,8,8,8,8,8,8,8,8,8,8,8,8,8,8,8,8,8,8,8,8,8,8,8,8,8,8,8,8,8,8,8,8,8,8,8,8,8,8,8,8,8,8,8,8,8,8,8,8,8,8,8,8,8,8,8,8,8,8,8,8,8,8,8,8,8,8,8,8,8,8,8,8,8,8,8,8,8,8]).size (b (zW zI (zW zI (32+16)+zW zI (ze (bs [0,1,2,2,3,3,3,3,4,4,4,4,4,4,4,4,5,5,5,5,5,5,5,5,5,5,5,5,5,5,5,5,6,6,6,6,6,6,6,6,6,6,6,6,6,6,6,6,6,6,6,6,6,6,6,6,6,6,6,6,6,6,6,6,7,7,7,7,7,7,7,7,7,7,7,7,7,7,7,7,7,7,7,7,7,7,7,7,7,7,7,7,7,7,7,7,7,7,7,7,7,7,7,7,7,7,7,7,7,7,7,7,7,7,7,7,7,7,7,7,7,7,7,7,7,7,7,7,8,8,8,8,8,8,8,8,8,8,8,8,8,8,8,8,8,8,8,8,8,8,8,8,8,8,8,8,8,8,8,8,8,8,8,8,8,8,8,8,8,8,8,8,8,8,8,8,8,8,8,8,8,8,8,8,8,8,8,8,8,8,8,8,8,8,8,8,8,8,8,8,8,8,8,8,8,8,8,8,8,8,8,8,8,8,8,8,8,8,8,8,8,8,8,8,8,8,8,8,8,8,8,8,8,8,8,8,8,8,8,8,8,8,8,8,8,8,8,8,8,8,8,8,8,8,8,8]) (zW zU (Int.fdiv (Int.fdiv a (2^min ((32:Int)).toNat 64)) (2^min ((16:Int)).toNat 64))).toNat)))) else bif 256<=Int.fdiv a (2^min ((32:Int)).toNat 64) then zd (zW zU (Int.fdiv (Int.fdiv a (2^min ((32:Int)).toNat 64)) (2^min ((8:Int)).toNat 64))) (bs [0,1,2,2,3,3,3,3,4,4,4,4,4,4,4,4,5,5,5,5,5,5,5,5,5,5,5,5,5,5,5,5,6,6,6,6,6,6,6,6,6,6,6,6,6,6,6,6,6,6,6,6,6,6,6,6,6,6,6,6,6,6,6,6,7,7,7,7,7,7,7,7,7,7,7,7,7,7,7,7,7,7,7,7,7,7,7,7,7,7,7,7,7,7,7,7,7,7,7,7,7,7,7,7,7,7,7,7,7,7,7,7,7,7,7,7,7,7,7,7,7,7,7,7,7,7,7,7,8,8,8,8,8,8,8,8,8,8,8,8,8,8,8,8,8,8,8,8,8,8,8,8,8,8,8,8,8,8,8,8,8,8,8,8,8,8,8,8,8,8,8,8,8,8,8,8,8,8,8,8,8,8,8,8,8,8,8,8,8,8,8,8,8,8,8,8,8,8,8,8,8,8,8,8,8,8,8,8,8,8,8,8,8,8,8,8,8,8,8,8,8,8,8,8,8,8,8,8,8,8,8,8,8,8,8,8,8,8,8,8,8,8,8,8,8,8,8,8,8,8,8,8,8,8,8,8]).size (b (zW zI (zW zI (32+8)+zW zI (ze (bs [0,1,2,2,3,3,3,3,4,4,4,4,4,4,4,4,5,5,5,5,5,5,5,5,5,5,5,5,5,5,5,5,6,6,6,6,6,6,6,6,6,6,6,6,6,6,6,6,6,6,6,6,6,6,6,6,6,6,6,6,6,6,6,6,7,7,7,7,7,7,7,7,7,7,7,7,7,7,7,7,7,7,7,7,7,7,7,7,7,7,7,7,7,7,7,7,7,7,7,7,7,7,7,7,7,7,7,7,7,7,7,7,7,7,7,7,7,7,7,7,7,7,7,7,7,7,7,7,8,8,8,8,8,8,8,8,8,8,8,8,8,8,8,8,8,8,8,8,8,8,8,8,8,8,8,8,8,8,8,8,8,8,8,8,8,8,8,8,8,8,8,8,8,8,8,8,8,8,8,8,8,8,8,8,8,8,8,8,8,8,8,8,8,8,8,8,8,8,8,8,8,8,8,8,8,8,8,8,8,8,8,8,8,8,8,8,8,8,8,8,8,8,8,8,8,8,8,8,8,8,8,8,8,8,8,8,8,8,8,8,8,8,8,8,8,8,8,8,8,8,8,8,8,8,8,8]) (zW zU (Int.fdiv (Int.fdiv a (2^min ((32:Int)).toNat 64)) (2^min ((8:Int)).toNat 64))).toNat)))) else zd (zW zU (Int.fdiv a (2^min ((32:Int)).toNat 64))) (bs [0,1,2,2,3,3,3,3,4,4,4,4,4,4,4,4,5,5,5,5,5,5,5,5,5,5,5,5,5,5,5,5,6,6,6,6,6,6,6,6,6,6,6,6,6,6,6,6,6,6,6,6,6,6,6,6,6,6,6,6,6,6,6,6,7,7,7,7,7,7,7,7,7,7,7,7,7,7,7,7,7,7,7,7,7,7,7,7,7,7,7,7,7,7,7,7,7,7,7,7,7,7,7,7,7,7,7,7,7,7,7,7,7,7,7,7,7,7,7,7,7,7,7,7,7,7,7,7,8,8,8,8,8,8,8,8,8,8,8,8,8,8,8,8,8,8,8,8,8,8,8,8,8,8,8,8,8,8,8,8,8,8,8,8,8,8,8,8,8,8,8,8,8,8,8,8,8,8,8,8,8,8,8,8,8,8,8,8,8,8,8,8,8,8,8,8,8,8,8,8,8,8,8,8,8,8,8,8,8,8,8,8,8,8,8,8,8,8,8,8,8,8,8,8,8,8,8,8,8,8,8,8,8,8,8,8,8,8,8,8,8,8,8,8,8,8,8,8,8,8,8,8,8,8,8,8]).size (b (zW zI (32+zW zI (ze (bs [0,1,2,2,3,3,3,3,4,4,4,4,4,4,4,4,5,5,5,5,5,5,5,5,5,5,5,5,5,5,5,5,6,6,6,6,6,6,6,6,6,6,6,6,6,6,6,6,6,6,6,6,6,6,6,6,6,6,6,6,6,6,6,6,7,7,7,7,7,7,7,7,7,7,7,7,7,7,7,7,7,7,7,7,7,7,7,7,7,7,7,7,7,7,7,7,7,7,7,7,7,7,7,7,7,7,7,7,7,7,7,7,7,7,7,7,7,7,7,7,7,7,7,7,7,7,7,7,8,8,8,8,8,8,8,8,8,8,8,8,8,8,8,8,8,8,8,8,8,8,8,8,8,8,8,8,8,8,8,8,8,8,8,8,8,8,8,8,8,8,8,8,8,8,8,8,8,8,8,8,8,8,8,8,8,8,8,8,8,8,8,8,8,8,8,8,8,8,8,8,8,8,8,8,8,8,8,8,8,8,8,8,8,8,8,8,8,8,8,8,8,8,8,8,8,8,8,8,8,8,8,8,8,8,8,8,8,8,8,8,8,8,8,8,8,8,8,8,8,8,8,8,8,8,8,8]) (zW zU (Int.fdiv a (2^min ((32:Int)).toNat 64))).toNat)))) else bif 65536<=a then bif 256<=Int.fdiv a (2^min ((16:Int)).toNat 64) then zd (zW zU (Int.fdiv (Int.fdiv a (2^min ((16:Int)).toNat 64)) (2^min ((8:Int)).toNat 64))) (bs [0,1,2,2,3,3,3,3,4,4,4,4,4,4,4,4,5,5,5,5,5,5,5,5,5,5,5,5,5,5,5,5,6,6,6,6,6,6,6,6,6,6,6,6,6,6,6,6,6,6,6,6,6,6,6,6,6,6,6,6,6,6,6,6,7,7,7,7,7,7,7,7,7,7,7,7,7,7,7,7,7,7,7,7,7,7,7,7,7,7,7,7,7,7,7,7,7,7,7,7,7,7,7,7,7,7,7,7,7,7,7,7,7,7,7,7,7,7,7,7,7,7,7,7,7,7,7,7,8,8,8,8,8,8,8,8,8,8,8,8,8,8,8,8,8,8,8,8,8,8,8,8,8,8,8,8,8,8,8,8,8,8,8,8,8,8,8,8,8,8,8,8,8,8,8,8,8,8,8,8,8,8,8,8,8,8,8,8,8,8,8,8,8,8,8,8,8,8,8,8,8,8,8,8,8,8,8,8,8,8,8,8,8,8,8,8,8,8,8,8,8,8,8,8,8,8,8,8,8,8,8,8,8,8,8,8,8,8,8,8,8,8,8,8,8,8,8,8,8,8,8,8,8,8,8,8]).size (b (zW zI (zW zI (zW zI (0+16)+8)+zW zI (ze (bs [0,1,2,2,3,3,3,3,4,4,4,4,4,4,4,4,5,5,5,5,5,5,5,5,5,5,5,5,5,5,5,5,6,6,6,6,6,6,6,6,6,6,6,6,6,6,6,6,6,6,6,6,6,6,6,6,6,6,6,6,6,6,6,6,7,7,7,7,7,7,7,7,7,7,7,7,7,7,7,7,7,7,7,7,7,7,7,7,7,7,7,7,7,7,7,7,7,7,7,7,7,7,7,7,7,7,7,7,7,7,7,7,7,7,7,7,7,7,7,7,7,7,7,7,7,7,7,7,8,8,8,8,8,8,8,8,8,8,8,8,8,8,8,8,8,8,8,8,8,8,8,8,8,8,8,8,8,8,8,8,8,8,8,8,8,8,8,8,8,8,8,8,8,8,8,8,8,8,8,8,8,8,8,8,8,8,8,8,8,8,8,8,8,8,8,8,8,8,8,8,8,8,8,8,8,8,8,8,8,8,8,8,8,8,8,8,8,8,8,8,8,8,8,8,8,8,8,8,8,8,8,8,8,8,8,8,8,8,8,8,8,8,8,8,8,8,8,8,8,8,8,8,8,8,8,8]) (zW zU (Int.fdiv (Int.fdiv a (2^min ((16:Int)).toNat 64)) (2^min ((8:Int)).toNat 64))).toNat)))) else zd (zW zU (Int.fdiv a (2^min ((16:Int)).toNat 64))) (bs [0,1,2,2,3,3,3,3,4,4,4,4,4,4,4,4,5,5,5,5,5,5,5,5,5,5,5,5,5,5,5,5,6,6,6,6,6,6,6,6,6,6,6,6,6,6,6,6,6,6,6,6,6,6,6,6,6,6,6,6,6,6,6,6,7,7,7,7,7,7,7,7,7,7,7,7,7,7,7,7,7,7,7,7,7,7,7,7,7,7,7,7,7,7,7,7,7,7,7,7,7,7,7,7,7,7,7,7,7,7,7,7,7,7,7,7,7,7,7,7,7,7,7,7,7,7,7,7,8,8,8,8,8,8,8,8,8,8,8,8,8,8,8,8,8,8,8,8,8,8,8,8,8,8,8,8,8,8,8,8,8,8,8,8,8,8,8,8,8,8,8,8,8,8,8,8,8,8,8,8,8,8,8,8,8,8,8,8,8,8,8,8,8,8,8,8,8,8,8,8,8,8,8,8,8,8,8,8,8,8,8,8,8,8,8,8,8,8,8,8,8,8,8,8,8,8,8,8,8,8,8,8,8,8,8,8,8,8,8,8,8,8,8,8,8,8,8,8,8,8,8,8,8,8,8,8]).size (b (zW zI (zW zI (0+16)+zW zI (ze (bs [0,1,2,2,3,3,3,3,4,4,4,4,4,4,4,4,5,5,5,5,5,5,5,5,5,5,5,5,5,5,5,5,6,6,6,6,6,6,6,6,6,6,6,6,6,6,6,6,6,6,6,6,6,6,6,6,6,6,6,6,6,6,6,6,7,7,7,7,7,7,7,7,7,7,7,7,7,7,7,7,7,7,7,7,7,7,7,7,7,7,7,7,7,7,7,7,7,7,7,7,7,7,7,7,7,7,7,7,7,7,7,7,7,7,7,7,7,7,7,7,7,7,7,7,7,7,7,7,8,8,8,8,8,8,8,8,8,8,8,8,8,8,8,8,8,8,8,8,8,8,8,8,8,8,8,8,8,8,8,8,8,8,8,8,8,8,8,8,8,8,8,8,8,8,8,8,8,8,8,8,8,8,8,8,8,8,8,8,8,8,8,8,8,8,8,8,8,8,8,8,8,8,8,8,8,8,8,8,8,8,8,8,8,8,8,8,8,8,8,8,8,8,8,8,8,8,8,8,8,8,8,8,8,8,8,8,8,8,8,8,8,8,8,8,8,8,8,8,8,8,8,8,8,8,8,8]) (zW zU (Int.fdiv a (2^min ((16:Int)).toNat 64))).toNat)))) else bif 256<=a then zd (zW zU (Int.fdiv a (2^min ((8:Int)).toNat 64))) (bs [0,1,2,2,3,3,3,3,4,4,4,4,4,4,4,4,5,5,5,5,5,5,5,5,5,5,5,5,5,5,5,5,6,6,6,6,6,6,6,6,6,6,6,6,6,6,6,6,6,6,6,6,6,6,6,6,6,6,6,6,6,6,6,6,7,7,7,7,7,7,7,7,7,7,7,7,7,7,7,7,7,7,7,7,7,7,7,7,7,7,7,7,7,7,7,7,7,7,7,7,7,7,7,7,7,7,7,7,7,7,7,7,7,7,7,7,7,7,7,7,7,7,7,7,7,7,7,7,8,8,8,8,8,8,8,8,8,8,8,8,8,8,8,8,8,8,8,8,8,8,8,8,8,8,8,8,8,8,8,8,8,8,8,8,8,8,8,8,8,8,8,8,8,8,8,8,8,8,8,8,8,8,8,8,8,8,8,8,8,8,8,8,8,8,8,8,8,8,8,8,8,8,8,8,8,8,8,8,8,8,8,8,8,8,8,8,8,8,8,8,8,8,8,8,8,8,8,8,8,8,8,8,8,8,8,8,8,8,8,8,8,8,8,8,8,8,8,8,8,8,8,8,8,8,8,8]).size (b (zW zI (zW zI (0+8)+zW zI (ze (bs [0,1,2,2,3,3,3,3,4,4,4,4,4,4,4,4,5,5,5,5,5,5,5,5,5,5,5,5,5,5,5,5,6,6,6,6,6,6,6,6,6,6,6,6,6,6,6,6,6,6,6,6,6,6,6,6,6,6,6,6,6,6,6,6,7,7,7,7,7,7,7,7,7,7,7,7,7,7,7,7,7,7,7,7,7,7,7,7,7,7,7,7,7,7,7,7,7,7,7,7,7,7,7,7,7,7,7,7,7,7,7,7,7,7,7,7,7,7,7,7,7,7,7,7,7,7,7,7,8,8,8,8,8,8,8,8,8,8,8,8,8,8,8,8,8,8,8,8,8,8,8,8,8,8,8,8,8,8,8,8,8,8,8,8,8,8,8,8,8,8,8,8,8,8,8,8,8,8,8,8,8,8,8,8,8,8,8,8,8,8,8,8,8,8,8,8,8,8,8,8,8,8,8,8,8,8,8,8,8,8,8,8,8,8,8,8,8,8,8,8,8,8,8,8,8,8,8,8,8,8,8,8,8,8,8,8,8,8,8,8,8,8,8,8,8,8,8,8,8,8,8,8,8,8,8,8]) (zW zU (Int.fdiv a (2^min ((8:Int)).toNat 64))).toNat)))) else zd (zW zU a) (bs [0,1,2,2,3,3,3,3,4,4,4,4,4,4,4,4,5,5,5,5,5,5,5,5,5,5,5,5,5,5,5,5,6,6,6,6,6,6,6,6,6,6,6,6,6,6,6,6,6,6,6,6,6,6,6,6,6,6,6,6,6,6,6,6,7,7,7,7,7,7,7,7,7,7,7,7,7,7,7,7,7,7,7,7,7,7,7,7,7,7,7,7,7,7,7,7,7,7,7,7,7,7,7,7,7,7,7,7,7,7,7,7,7,7,7,7,7,7,7,7,7,7,7,7,7,7,7,7,8,8,8,8,8,8,8,8,8,8,8,8,8,8,8,8,8,8,8,8,8,8,8,8,8,8,8,8,8,8,8,8,8,8,8,8,8,8,8,8,8,8,8,8,8,8,8,8,8,8,8,8,8,8,8,8,8,8,8,8,8,8,8,8,8,8,8,8,8,8,8,8,8,8,8,8,8,8,8,8,8,8,8,8,8,8,8,8,8,8,8,8,8,8,8,8,8,8,8,8,8,8,8,8,8,8,8,8,8,8,8,8,8,8,8,8,8,8,8,8,8,8,8,8,8,8,8,8]).size (b (zW zI (0+zW zI (ze (bs [0,1,2,2,3,3,3,3,4,4,4,4,4,4,4,4,5,5,5,5,5,5,5,5,5,5,5,5,5,5,5,5,6,6,6,6,6,6,6,6,6,6,6,6,6,6,6,6,6,6,6,6,6,6,6,6,6,6,6,6,6,6,6,6,7,7,7,7,7,7,7,7,7,7,7,7,7,7,7,7,7,7,7,7,7,7,7,7,7,7,7,7,7,7,7,7,7,7,7,7,7,7,7,7,7,7,7,7,7,7,7,7,7,7,7,7,7,7,7,7,7,7,7,7,7,7,7,7,8,8,8,8,8,8,8,8,8,8,8,8,8,8,8,8,8,8,8,8,8,8,8,8,8,8,8,8,8,8,8,8,8,8,8,8,8,8,8,8,8,8,8,8,8,8,8,8,8,8,8,8,8,8,8,8,8,8,8,8,8,8,8,8,8,8,8,8,8,8,8,8,8,8,8,8,8,8,8,8,8,8,8,8,8,8,8,8,8,8,8,8,8,8,8,8,8,8,8,8,8,8,8,8,8,8,8,8,8,8,8,8,8,8,8,8,8,8,8,8,8,8,8,8,8,8,8,8]) (zW zU a).toNat))))
def s9(a:Int):Option Int:=
 zyo a (fun a0=>some a0)
def US{R:Type}(a:Int)(b:Int->Option R):Option R:=
 (s9 a).bind fun r1=>b (zW zI (64-r1))
def mJ(a:Int):Option Int:=
 US a (fun a0=>some a0)
def XX{R:Type}(a:Int)(b:aR->Option R):Option R:=
 bif a<1 then b (0,0,()) else bif 128<a then b (0,0,()) else bif a<=64 then bif zW zI (64-a)<0 then none else b (IntKind.u64.wrap (1*2^min (zW zI (64-a)).toNat 64),0,()) else bif zW zI (128-a)<0 then none else b (0,IntKind.u64.wrap (1*2^min (zW zI (128-a)).toNat 64),())
def Gi(a:Int):Option aR:=
 XX a (fun a0=>some a0)
def XT{R:Type}(a b:aR)(c:aR->Option R):Option R:=
 c (aQ .or .u64 a.1 b.1,aQ .or .u64 a.2.1 b.2.1,())
def tL(a b:aR):Option aR:=
 XT a b (fun a0=>some a0)
def XW{R:Type}(a:aR)(b:Int)(c:aR->Option R):Option R:=
 (Gi b).bind fun r1=>(tL a r1).bind fun r2=>c r2
def yA(a:aR)(b:Int):Option aR:=
 XW a b (fun a0=>some a0)
def XR{R:Type}(a:(List Int))(b:(List Int)->Int->Int->aR->aR->Option R):Option R:=
 b a ((List.length a):Int) 0 (0,0,()) (0,0,())
def Rz{R:Type}(a:(List Int))(b c:Int)(d e:aR)(f:(List Int)->Int->Int->aR->aR->Option R)(g:aR->aR->Option R):Option R:=
 bif c<b then zd c (List.length a) ((yA e (List.getD a c.toNat (0:Int))).bind fun r1=>f a b (zW zI (c+1)) d r1) else g d e
def XS{R:Type}(a b:aR)(c:aR->Option R):Option R:=
 c b
def BG:Nat->(List Int)->Int->Int->aR->aR->Option (aR×aR)
 |0,_,_,_,_,_=>none
 |k+1,v0,v1,v2,v3,v4=>Rz v0 v1 v2 v3 v4 (fun a0 a1 a2 a3 a4=>BG k a0 a1 a2 a3 a4) (fun a0 a1=>some (a0,a1))
def vk(a:(List Int)):Option aR:=
 XR a (fun a0 a1 a2 a3 a4=>(BG ag a0 a1 a2 a3 a4).bind fun e=>XS e.1 e.2 (fun a0=>some a0))
def RA{R:Type}(a b:aR)(c:aR->Option R):Option R:=
 c (aQ .and .u64 a.1 b.1,aQ .and .u64 a.2.1 b.2.1,())
def si(a b:aR):Option aR:=
 RA a b (fun a0=>some a0)
def Ef{R:Type}(a b:Int)(c:aR->Option R):Option R:=
 c (a,b,())
def R5(a b:Int):Option aR:=
 Ef a b (fun a0=>some a0)
def XV{R:Type}(a:aR)(b:Int)(c:Int->Option R):Option R:=
 bif(if b<0 then 0 else b)<64 then bif(if b<0 then 0 else b)<0 then none else bif !decide (IntKind.u64.wrap (a.1*2^min (if b<0 then 0 else b).toNat 64)=0) then(mJ (IntKind.u64.wrap (a.1*2^min (if b<0 then 0 else b).toNat 64))).bind fun r1=>c (zW zI (zW zI ((if b<0 then 0 else b)+r1)+1)) else bif(if 64<zW zI (64-64) then 64 else zW zI (64-64))<0 then none else bif !decide (IntKind.u64.wrap (a.2.1*2^min (if 64<zW zI (64-64) then 64 else zW zI (64-(64:Int))).toNat 64)=0) then(mJ (IntKind.u64.wrap (a.2.1*2^min (if 64<zW zI (64-64) then 64 else zW zI (64-(64:Int))).toNat 64))).bind fun r2=>c (zW zI (zW zI (64+r2)+1)) else c 0 else bif(if 64<zW zI ((if b<0 then 0 else b)-64) then 64 else zW zI ((if b<0 then 0 else b)-64))<0 then none else bif !decide (IntKind.u64.wrap (a.2.1*2^min (if 64<zW zI ((if b<0 then 0 else b)-64) then 64 else zW zI ((if b<0 then 0 else b)-(64:Int))).toNat 64)=0) then(mJ (IntKind.u64.wrap (a.2.1*2^min (if 64<zW zI ((if b<0 then 0 else b)-64) then 64 else zW zI ((if b<0 then 0 else b)-(64:Int))).toNat 64))).bind fun r3=>c (zW zI (zW zI ((if b<0 then 0 else b)+r3)+1)) else c 0
def Gh(a:aR)(b:Int):Option Int:=
 XV a b (fun a0=>some a0)
def XU{R:Type}(a:aR)(b:Int)(c:Bool->Option R):Option R:=
 (Gi b).bind fun r1=>(si a r1).bind fun r2=>c (!(decide (r2.1=0)&&(decide (r2.2.1=0)&&true)))
def Ii(a:aR)(b:Int):Option Bool:=
 XU a b (fun a0=>some a0)
def Eg{R:Type}(a:aR)(b:Int->Int->Option R):Option R:=
 b a.1 a.2.1
def R6(a:aR):Option (Int×Int):=
 Eg a (fun a0 a1=>some (a0,a1))
def zyk{R:Type}(a:Int)(b:Int->Bool->Option R):Option R:=
 bif 48<=a then bif a<=57 then b (zW zI (zW zU (a-48))) true else bif 65<=a then bif a<=70 then b (zW zI (zW zI (zW zU (a-65))+10)) true else b 0 false else b 0 false else bif 65<=a then bif a<=70 then b (zW zI (zW zI (zW zU (a-65))+10)) true else b 0 false else b 0 false
def s8(a:Int):Option (Int×Bool):=
 zyk a (fun a0 a1=>some (a0,a1))
def UO{R:Type}(a:ByteArray)(b:ByteArray->(List Int)->Int->Int->Option R):Option R:=
 bif 0<=zW zI (Int.tdiv (a.size:Int) 2) then bif zW zI (Int.tdiv (a.size:Int) 2)*1<=140737488355328 then b a [] 0 0 else none else none
def QI{R:Type}(a:ByteArray)(b:(List Int))(c d:Int)(e:ByteArray->ByteArray->Int->Bool->(List Int)->Option R)(f:ByteArray->(List Int)->Int->Int->Option R)(g:ByteArray->(List Int)->Option R):Option R:=
 bif d<(a.size:Int) then zd d a.size ((s8 (ze a d.toNat)).bind fun r1=>bif !r1.2 then e a (bs []) d false b else bif Int.tmod d 2=0 then f a b r1.1 (zW zI (d+1)) else bif(List.length b+List.length ([(zW zU (aQ .or .i64 (zW zI (c*2^min ((4:Int)).toNat 64)) r1.1))]:List Int))*1<=140737488355328 then f a (b++([(zW zU (aQ .or .i64 (zW zI (c*2^min ((4:Int)).toNat 64)) r1.1))]:List Int)) c (zW zI (d+1)) else none) else g a b
def zym{R:Type}(a b:ByteArray)(c:Int)(d:Bool)(e:(List Int))(f:ByteArray->Int->Bool->Option R):Option R:=
 f b c d
def UP{R:Type}(a:ByteArray)(b:(List Int))(c:ByteArray->Int->Bool->Option R):Option R:=
 bif !decide (Int.tmod (a.size:Int) 2=0) then c (bs []) (a.size:Int) false else c (strOf b) 0 true
def FL:Nat->ByteArray->(List Int)->Int->Int->Option (Sum (ByteArray×ByteArray×Int×Bool×(List Int)) (ByteArray×(List Int)))
 |0,_,_,_,_=>none
 |k+1,v0,v1,v2,v3=>QI v0 v1 v2 v3 (fun a0 a1 a2 a3 a4=>some (.inl (a0,a1,a2,a3,a4))) (fun a0 a1 a2 a3=>FL k a0 a1 a2 a3) (fun a0 a1=>some (.inr (a0,a1)))
def gQ(a:ByteArray):Option (ByteArray×Int×Bool):=
 UO a (fun a0 a1 a2 a3=>(FL ag a0 a1 a2 a3).bind fun e=>Sum.elim (fun(we:(ByteArray×ByteArray×Int×Bool×(List Int)))=>zym we.1 we.2.1 we.2.2.1 we.2.2.2.1 we.2.2.2.2 (fun a0 a1 a2=>some (a0,a1,a2))) (fun(we:(ByteArray×(List Int)))=>UP we.1 we.2 (fun a0 a1 a2=>some (a0,a1,a2))) e)
def UR{R:Type}(a:ByteArray)(b:ByteArray->(List Int)->Int->Option R):Option R:=
 bif 0<=zW zI (2*(a.size:Int)) then bif zW zI (2*(a.size:Int))*1<=140737488355328 then b a [] 0 else none else none
def QJ{R:Type}(a:ByteArray)(b:(List Int))(c:Int)(d:ByteArray->(List Int)->Int->Option R)(e:(List Int)->Option R):Option R:=
 bif c<(a.size:Int) then zd c a.size (zd (Int.fdiv (ze a c.toNat) (2^min ((4:Int)).toNat 8)) (bs [48,49,50,51,52,53,54,55,56,57,65,66,67,68,69,70]).size (zd c a.size (zd (aQ .and .u8 (ze a c.toNat) 15) (bs [48,49,50,51,52,53,54,55,56,57,65,66,67,68,69,70]).size (bif(List.length b+List.length ([(ze (bs [48,49,50,51,52,53,54,55,56,57,65,66,67,68,69,70]) (Int.fdiv (ze a c.toNat) (2^min ((4:Int)).toNat 8)).toNat),(ze (bs [48,49,50,51,52,53,54,55,56,57,65,66,67,68,69,70]) (aQ .and .u8 (ze a c.toNat) (15:Int)).toNat)]:List Int))*1<=140737488355328 then d a (b++([(ze (bs [48,49,50,51,52,53,54,55,56,57,65,66,67,68,69,70]) (Int.fdiv (ze a c.toNat) (2^min ((4:Int)).toNat 8)).toNat),(ze (bs [48,49,50,51,52,53,54,55,56,57,65,66,67,68,69,70]) (aQ .and .u8 (ze a c.toNat) (15:Int)).toNat)]:List Int)) (zW zI (c+1)) else none)))) else e b
def zyn{R:Type}(a:(List Int))(b:ByteArray->Option R):Option R:=
 b (strOf a)
def FM:Nat->ByteArray->(List Int)->Int->Option (List Int)
 |0,_,_,_=>none
 |k+1,v0,v1,v2=>QJ v0 v1 v2 (fun a0 a1 a2=>FM k a0 a1 a2) (fun a0=>some a0)
def jT(a:ByteArray):Option ByteArray:=
 UR a (fun a0 a1 a2=>(FM ag a0 a1 a2).bind fun e=>zyn e (fun a0=>some a0))
def mQ{R:Type}(a:Int)(b:Bool->Option R):Option R:=
 bif a=1 then b true else b (decide (a=2))
def Q9(a:Int):Option Bool:=
 mQ a (fun a0=>some a0)
def WN{R:Type}(a:Int)(b:ByteArray)(c:Int)(d:(List Int)->Int->Int->Option R):Option R:=
 bif a=1 then bif zW zI ((b.size:Int)-c)<zW zI (8*2) then d (List.replicate 8 0) 0 2 else bif 0<=zW zI (c+zW zI (8*2)) then bif zW zI (c+zW zI (8*2))<=(b.size:Int) then bif 0<=c then bif c<=(((zW zI (c+zW zI (8*(2:Int)))).toNat:Nat):Int) then bif a=1 then(gQ (b.extract c.toNat (zW zI (c+zW zI (8*(2:Int)))).toNat)).bind fun r1=>bif !r1.2.2 then d (List.replicate 8 0) 0 3 else bif Nat.beq 8 (List.length (List.replicate 8 (0:Int))) then bif Nat.beq 8 (List.length (bY (List.replicate 8 (0:Int)) (List.take 8 (nO r1.1)) 0)) then d (bY (List.replicate 8 0) (List.take 8 (nO r1.1)) 0) (zW zI (c+zW zI (8*2))) 0 else none else none else bif Nat.beq 8 (List.length (List.replicate 8 (0:Int))) then bif Nat.beq 8 (List.length (bY (List.replicate 8 (0:Int)) (List.take 8 (nO (b.extract c.toNat (zW zI (c+zW zI ((8:Int)*(2:Int)))).toNat))) 0)) then d (bY (List.replicate 8 0) (List.take 8 (nO (b.extract c.toNat (zW zI (c+zW zI (8*(2:Int)))).toNat))) 0) (zW zI (c+zW zI (8*2))) 0 else none else none else none else none else none else none else bif zW zI ((b.size:Int)-c)<8 then d (List.replicate 8 0) 0 2 else bif 0<=zW zI (c+8) then bif zW zI (c+8)<=(b.size:Int) then bif 0<=c then bif c<=(((zW zI (c+(8:Int))).toNat:Nat):Int) then bif a=1 then(gQ (b.extract c.toNat (zW zI (c+(8:Int))).toNat)).bind fun r2=>bif !r2.2.2 then d (List.replicate 8 0) 0 3 else bif Nat.beq 8 (List.length (List.replicate 8 (0:Int))) then bif Nat.beq 8 (List.length (bY (List.replicate 8 (0:Int)) (List.take 8 (nO r2.1)) 0)) then d (bY (List.replicate 8 0) (List.take 8 (nO r2.1)) 0) (zW zI (c+8)) 0 else none else none else bif Nat.beq 8 (List.length (List.replicate 8 (0:Int))) then bif Nat.beq 8 (List.length (bY (List.replicate 8 (0:Int)) (List.take 8 (nO (b.extract c.toNat (zW zI (c+(8:Int))).toNat))) 0)) then d (bY (List.replicate 8 0) (List.take 8 (nO (b.extract c.toNat (zW zI (c+(8:Int))).toNat))) 0) (zW zI (c+8)) 0 else none else none else none else none else none else none
def Gg(a:Int)(b:ByteArray)(c:Int):Option ((List Int)×Int×Int):=
 WN a b c (fun a0 a1 a2=>some (a0,a1,a2))
def pI{R:Type}(a:(List Int))(b:Int->(List Int)->Int->Option R):Option R:=
 b 0 a 0
def mN{R:Type}(a:Int)(b:(List Int))(c:Int)(d:Int->(List Int)->Int->Option R)(e:Int->Option R):Option R:=
 bif c<8 then zd c 8 (d (aQ .or .u64 (IntKind.u64.wrap (a*2^min ((8:Int)).toNat 64)) (IntKind.u64.wrap (List.getD b c.toNat 0))) b (zW zI (c+1))) else e a
def tM{R:Type}(a:Int)(b:Int->Option R):Option R:=
 b a
def jX:Nat->Int->(List Int)->Int->Option Int
 |0,_,_,_=>none
 |k+1,v0,v1,v2=>mN v0 v1 v2 (fun a0 a1 a2=>jX k a0 a1 a2) (fun a0=>some a0)
def Q7(a:(List Int)):Option Int:=
 pI a (fun a0 a1 a2=>(jX ag a0 a1 a2).bind fun e=>tM e (fun a0=>some a0))
def pB{R:Type}(a:Int)(b:ByteArray)(c:Int)(d:aR->Int->Int->Option R):Option R:=
 (Q9 a).bind fun r1=>bif !r1 then d (0,0,()) 0 1 else bif c<0 then d (0,0,()) 0 1 else bif(b.size:Int)<c then d (0,0,()) 0 1 else(Gg a b c).bind fun r2=>bif !decide (r2.2.2=0) then d (0,0,()) 0 r2.2.2 else(Q7 r2.1).bind fun r3=>bif aQ .and .u64 r3 9223372036854775808=0 then(R5 r3 (0:Int)).bind fun r4=>d r4 r2.2.1 0 else(Gg a b r2.2.1).bind fun r5=>bif !decide (r5.2.2=0) then d (0,0,()) 0 r5.2.2 else bif r5.1=([0,0,0,0,0,0,0,0]:List Int) then d (0,0,()) 0 8 else(Q7 r5.1).bind fun r6=>(R5 (aQ .andNot .u64 r3 9223372036854775808) r6).bind fun r7=>d r7 r5.2.1 0
def Q5(a:Int)(b:ByteArray)(c:Int):Option (aR×Int×Int):=
 pB a b c (fun a0 a1 a2=>some (a0,a1,a2))
def pM{R:Type}(a:Int)(b:Int->Int->(List Int)->(List Int)->Option R):Option R:=
 b a 0 (List.replicate 8 0) (List.replicate 8 0)
def mP{R:Type}(a b:Int)(c d:(List Int))(e:Int->Int->(List Int)->(List Int)->Option R)(f:(List Int)->(List Int)->Option R):Option R:=
 bif b<8 then bif zW zI (8*zW zI (7-b))<0 then none else zd b 8 (e a (zW zI (b+1)) c (List.set d b.toNat (zW zU (Int.fdiv a (2^min (zW zI (8*zW zI (7-b))).toNat 64))))) else f c d
def pN{R:Type}(a b:(List Int))(c:(List Int)->Option R):Option R:=
 c b
def ii:Nat->Int->Int->(List Int)->(List Int)->Option ((List Int)×(List Int))
 |0,_,_,_,_=>none
 |k+1,v0,v1,v2,v3=>mP v0 v1 v2 v3 (fun a0 a1 a2 a3=>ii k a0 a1 a2 a3) (fun a0 a1=>some (a0,a1))
def Q8(a:Int):Option (List Int):=
 pM a (fun a0 a1 a2 a3=>(ii ag a0 a1 a2 a3).bind fun e=>pN e.1 e.2 (fun a0=>some a0))
def pD{R:Type}(a:Int)(b:aR)(c:ByteArray->Int->Option R):Option R:=
 (Q9 a).bind fun r1=>bif !r1 then c (bs []) 1 else(Ii b (1:Int)).bind fun r2=>bif r2 then c (bs []) 1 else(R6 b).bind fun r3=>(Q8 r3.2).bind fun r4=>bif !decide (r4=([0,0,0,0,0,0,0,0]:List Int)) then bif Nat.beq 8 (List.length r4) then(Q8 (aQ .or .u64 r3.1 (9223372036854775808:Int))).bind fun r5=>bif Nat.beq 8 (List.length r5) then bif(strOf r5).size+(strOf r4).size<=9223372036854775807 then bif a=1 then(jT (strOf r5++strOf r4)).bind fun r6=>c r6 0 else c (strOf r5++strOf r4) 0 else none else none else none else(Q8 r3.1).bind fun r7=>bif Nat.beq 8 (List.length r7) then bif(strOf r7).size+(bs []).size<=9223372036854775807 then bif a=1 then(jT (strOf r7++bs [])).bind fun r8=>c r8 0 else c (strOf r7++bs []) 0 else none else none
def Q6(a:Int)(b:aR):Option Sf:=
 pD a b (fun a0 a1=>some (a0,a1))
def QP{R:Type}(a:Int)(b:Int->Option R):Option R:=
 bif a=2 then b 2 else bif a=3 then b 3 else b 0
def jU(a:Int):Option Int:=
 QP a (fun a0=>some a0)
def zz2{R:Type}(a:Int)(b:Int->Int->Int->Option R):Option R:=
 (jU a).bind fun r1=>b 0 r1 0
def zz3{R:Type}(a b c:Int)(d:Int->Int->Int->Option R)(e:Int->Option R):Option R:=
 bif c<b then d (zW zI (zW zI (10*a)+9)) b (zW zI (c+1)) else e a
def zz4{R:Type}(a:Int)(b:Int->Option R):Option R:=
 b a
def U9:Nat->Int->Int->Int->Option Int
 |0,_,_,_=>none
 |k+1,v0,v1,v2=>zz3 v0 v1 v2 (fun a0 a1 a2=>U9 k a0 a1 a2) (fun a0=>some a0)
def qV(a:Int):Option Int:=
 zz2 a (fun a0 a1 a2=>(U9 ag a0 a1 a2).bind fun e=>zz4 e (fun a0=>some a0))
def QO{R:Type}(a b:Int)(c:Bool->Option R):Option R:=
 bif a=1 then(jU b).bind fun r1=>c (decide (0<r1)) else bif a=2 then(jU b).bind fun r2=>c (decide (0<r2)) else c false
def qX(a b:Int):Option Bool:=
 QO a b (fun a0=>some a0)
def U7{R:Type}(a b:Int)(c:ByteArray)(d:Int)(e:Int->Int->Int->Option R):Option R:=
 (qX a b).bind fun r1=>bif !r1 then e 0 0 1 else bif d<0 then e 0 0 1 else bif(c.size:Int)<d then e 0 0 1 else(jU b).bind fun r2=>bif a=2 then(Q2 r2).bind fun r3=>bif zW zI ((c.size:Int)-d)<r3 then e 0 0 2 else bif 0<=zW zI (d+r3) then bif zW zI (d+r3)<=(c.size:Int) then bif 0<=d then bif d<=(((zW zI (d+r3)).toNat:Nat):Int) then bif a=2 then(jU b).bind fun r4=>(Q0 (c.extract d.toNat (zW zI (d+r3)).toNat) r4).bind fun r5=>bif !decide (r5.2.1=0) then e 0 0 3 else(yz r5.1).bind fun r6=>bif !r6.2 then e 0 0 3 else e r6.1 (zW zI (d+r3)) 0 else(yz (c.extract d.toNat (zW zI (d+r3)).toNat)).bind fun r7=>bif !r7.2 then e 0 0 3 else e r7.1 (zW zI (d+r3)) 0 else none else none else none else none else bif zW zI ((c.size:Int)-d)<r2 then e 0 0 2 else bif 0<=zW zI (d+r2) then bif zW zI (d+r2)<=(c.size:Int) then bif 0<=d then bif d<=(((zW zI (d+r2)).toNat:Nat):Int) then bif a=2 then(jU b).bind fun r8=>(Q0 (c.extract d.toNat (zW zI (d+r2)).toNat) r8).bind fun r9=>bif !decide (r9.2.1=0) then e 0 0 3 else(yz r9.1).bind fun kS=>bif !kS.2 then e 0 0 3 else e kS.1 (zW zI (d+r2)) 0 else(yz (c.extract d.toNat (zW zI (d+r2)).toNat)).bind fun lE=>bif !lE.2 then e 0 0 3 else e lE.1 (zW zI (d+r2)) 0 else none else none else none else none
def tg(a b:Int)(c:ByteArray)(d:Int):Option jw:=
 U7 a b c d (fun a0 a1 a2=>some (a0,a1,a2))
def Va{R:Type}(a b c:Int)(d:ByteArray->Int->Option R):Option R:=
 (qX a b).bind fun r1=>bif !r1 then d (bs []) 1 else(jU b).bind fun r2=>(Ib c r2).bind fun r3=>bif !r3.2 then d (bs []) 5 else bif a=2 then(Q1 r3.1).bind fun r4=>d r4.1 0 else d r3.1 0
def qW(a b c:Int):Option Sf:=
 Va a b c (fun a0 a1=>some (a0,a1))
def Xp{R:Type}(a:Int)(b:Int->Option R):Option R:=
 bif a=1 then b 1 else bif a=2 then b 2 else bif a=3 then b 3 else bif a=4 then b 7 else bif a=5 then b 15 else bif a=6 then b 15 else b 0
def yw(a:Int):Option Int:=
 Xp a (fun a0=>some a0)
def Xg{R:Type}(a:Int)(b:Bool->Option R):Option R:=
 (yw a).bind fun r1=>b (!decide (r1=0))
def BS(a:Int):Option Bool:=
 Xg a (fun a0=>some a0)
def z159{R:Type}(a:Int)(b:Int->Option R):Option R:=
 bif 48<=a then bif a<=57 then b 1 else bif 65<=a then bif a<=90 then b 2 else bif 97<=a then bif a<=122 then b 2 else bif 32<=a then bif a<=126 then b 4 else b 8 else b 8 else bif 32<=a then bif a<=126 then b 4 else b 8 else b 8 else bif 97<=a then bif a<=122 then b 2 else bif 32<=a then bif a<=126 then b 4 else b 8 else b 8 else bif 32<=a then bif a<=126 then b 4 else b 8 else b 8 else bif 65<=a then bif a<=90 then b 2 else bif 97<=a then bif a<=122 then b 2 else bif 32<=a then bif a<=126 then b 4 else b 8 else b 8 else bif 32<=a then bif a<=126 then b 4 else b 8 else b 8 else bif 97<=a then bif a<=122 then b 2 else bif 32<=a then bif a<=126 then b 4 else b 8 else b 8 else bif 32<=a then bif a<=126 then b 4 else b 8 else b 8
def BT(a:Int):Option Int:=
 z159 a (fun a0=>some a0)
def Xc{R:Type}(a:Int)(b:ByteArray)(c:ByteArray->Int->Int->Option R):Option R:=
 (yw a).bind fun r1=>c b r1 0
def Rv{R:Type}(a:ByteArray)(b c:Int)(d:Int->Option R)(e:ByteArray->Int->Int->Option R)(f:Option R):Option R:=
 bif c<(a.size:Int) then zd c a.size ((BT (ze a c.toNat)).bind fun r2=>bif aQ .and .i64 b r2=0 then d c else e a b (zW zI (c+1))) else f
def z157{R:Type}(a:Int)(b:Int->Option R):Option R:=
 b a
def D2{R:Type}(a:Int->Option R):Option R:=
 a (-1:Int)
def F2:Nat->ByteArray->Int->Int->Option (Sum Int Unit)
 |0,_,_,_=>none
 |k+1,v0,v1,v2=>Rv v0 v1 v2 (fun a0=>some (.inl a0)) (fun a0 a1 a2=>F2 k a0 a1 a2) (some (.inr ()))
def HZ(a:Int)(b:ByteArray):Option Int:=
 Xc a b (fun a0 a1 a2=>(F2 ag a0 a1 a2).bind fun e=>Sum.elim (fun(we:Int)=>z157 we (fun a0=>some a0)) (fun(we:Unit)=>D2 (fun a0=>some a0)) e)
def Xj{R:Type}(a b:Int)(c:Bool->Option R):Option R:=
 (BS a).bind fun r1=>bif r1 then(BS b).bind fun r2=>bif r2 then(yw b).bind fun r3=>(yw a).bind fun r4=>c (decide (aQ .andNot .i64 r3 r4=0)) else c false else c false
def H2(a b:Int):Option Bool:=
 Xj a b (fun a0=>some a0)
def Db{R:Type}(a:Int)(b:Bool->Option R):Option R:=
 bif 0<a then bif a<=255 then b (decide (aQ .and .i64 a 32=0)) else b false else b false
def n7(a:Int):Option Bool:=
 Db a (fun a0=>some a0)
def V4{R:Type}(a:Int)(b:Bool->Option R):Option R:=
 bif a<=255 then(n7 a).bind fun r1=>bif r1 then b (!decide (aQ .and .i64 a 31=31)) else b false else bif a<=65535 then(n7 (Int.fdiv a (2^min ((8:Int)).toNat 64))).bind fun r2=>bif r2 then bif aQ .and .i64 (Int.fdiv a (2^min ((8:Int)).toNat 64)) 31=31 then bif 1<=aQ .and .i64 a 255 then b (decide (aQ .and .i64 a 255<=127)) else b false else b false else b false else b false
def tG(a:Int):Option Bool:=
 V4 a (fun a0=>some a0)
def V3{R:Type}(a:ByteArray)(b:Int)(c:Int->Int->Int->Option R):Option R:=
 bif b<0 then c 0 0 1 else bif(a.size:Int)<b then c 0 0 1 else bif b=(a.size:Int) then c 0 0 2 else zd b a.size ((n7 (zW zI (ze a b.toNat))).bind fun r1=>bif !r1 then c 0 0 13 else bif !decide (aQ .and .i64 (zW zI (ze a b.toNat)) 31=31) then c (zW zI (ze a b.toNat)) (zW zI (b+1)) 0 else bif zW zI (b+1)=(a.size:Int) then c 0 0 2 else zd (zW zI (b+1)) a.size ((tG (aQ .or .i64 (zW zI (zW zI (ze a b.toNat)*2^min ((8:Int)).toNat 64)) (zW zI (ze a (zW zI (b+(1:Int))).toNat)))).bind fun r2=>bif !r2 then c 0 0 13 else c (aQ .or .i64 (zW zI (zW zI (ze a b.toNat)*2^min ((8:Int)).toNat 64)) (zW zI (ze a (zW zI (b+(1:Int))).toNat))) (zW zI (b+2)) 0))
def tF(a:ByteArray)(b:Int):Option jw:=
 V3 a b (fun a0 a1 a2=>some (a0,a1,a2))
def V6{R:Type}(a:ByteArray)(b:ByteArray->ak->Int->BZ->Option R):Option R:=
 b a [] 0 []
def V7{R:Type}(a:ByteArray)(b:ak)(c:Int)(d:BZ)(e:ak->Int->Int->ak->Option R)(f:ByteArray->ak->Int->BZ->Option R)(g:ak->Option R):Option R:=
 bif c<(a.size:Int) then(tF a c).bind fun r1=>bif !decide (r1.2.2=(0:Int)) then e ([]:List bd) r1.2.2 c b else(Q3 a r1.2.1).bind fun r2=>bif !decide (r2.2.2=(0:Int)) then e ([]:List bd) r2.2.2 r1.2.1 b else bif zW zI ((a.size:Int)-r2.2.1)<r2.1 then e ([]:List bd) (2:Int) (a.size:Int) b else bif fg (gd (.int .i64)) false d r1.1 then e ([]:List bd) (10:Int) c b else bif fh (gd (.int .i64)) d r1.1 then none else bif(0:Int)<=zW zI (r2.2.1+r2.1) then bif zW zI (r2.2.1+r2.1)<=((a.size:Nat):Int) then bif(0:Int)<=r2.2.1 then bif r2.2.1<=(((zW zI (r2.2.1+r2.1)).toNat:Nat):Int) then bif(List.length b+List.length ([(r1.1,a.extract r2.2.1.toNat (zW zI (r2.2.1+r2.1)).toNat,())]:List bd))*24<=140737488355328 then f a (b++([(r1.1,a.extract r2.2.1.toNat (zW zI (r2.2.1+r2.1)).toNat,())]:List bd)) (zW zI (r2.2.1+r2.1)) (d++ [(r1.1,true)]) else none else none else none else none else none else g b
def Dd{R:Type}(a:ak)(b c:Int)(d:ak)(e:ak->Int->Int->Option R):Option R:=
 e a b c
def De{R:Type}(a:ak)(b:ak->Int->Int->Option R):Option R:=
 b a 0 0
def Hr:Nat->ByteArray->ak->Int->BZ->Option (Sum rj ak)
 |0,_,_,_,_=>none
 |k+1,v0,v1,v2,v3=>V7 v0 v1 v2 v3 (fun a0 a1 a2 a3=>some (.inl (a0,a1,a2,a3))) (fun a0 a1 a2 a3=>Hr k a0 a1 a2 a3) (fun a0=>some (.inr a0))
def tH(a:ByteArray):Option (Sum jx jx):=
 V6 a (fun a0 a1 a2 a3=>(Hr ag a0 a1 a2 a3).bind fun e=>Sum.elim (fun(we:rj)=>Dd we.1 we.2.1 we.2.2.1 we.2.2.2 (fun a0 a1 a2=>some (.inl (a0,a1,a2)))) (fun(we:ak)=>De we (fun a0 a1 a2=>some (.inr (a0,a1,a2)))) e)
def VN{R:Type}(a:aS)(b:Int->Option R):Option R:=
 bif a.1<2 then b 1 else bif 128<a.1 then b 1 else(BS a.2.1).bind fun r1=>bif !r1 then b 6 else bif a.2.2.1<1 then b 3 else bif 3<a.2.2.1 then b 3 else bif a.2.2.2.1<1 then b 5 else bif a.2.2.2.2.1<a.2.2.2.1 then b 5 else bif 999<a.2.2.2.2.1 then b 5 else bif a.2.2.1=1 then bif !decide (a.2.2.2.1=a.2.2.2.2.1) then b 5 else bif !decide (a.2.2.1=1) then(qV a.2.2.1).bind fun r2=>bif r2<a.2.2.2.2.1 then b 5 else bif a.2.2.1=1 then bif a.2.1=6 then b 13 else b 0 else b 0 else bif a.2.2.1=1 then bif a.2.1=6 then b 13 else b 0 else b 0 else bif !decide (a.2.2.1=1) then(qV a.2.2.1).bind fun r3=>bif r3<a.2.2.2.2.1 then b 5 else bif a.2.2.1=1 then bif a.2.1=6 then b 13 else b 0 else b 0 else bif a.2.2.1=1 then bif a.2.1=6 then b 13 else b 0 else b 0
def lQ(a:aS):Option Int:=
 VN a (fun a0=>some a0)
def VO{R:Type}(a:aS)(b:ByteArray)(c:Int->Option R):Option R:=
 (lQ a).bind fun r1=>bif !decide (r1=0) then c 1 else bif(b.size:Int)<a.2.2.2.1 then c 5 else bif a.2.2.2.2.1<(b.size:Int) then c 5 else(HZ a.2.1 b).bind fun r2=>bif 0<=r2 then c 6 else bif a.2.1=6 then(tH b).bind fun r3=>Sum.elim (fun(sB:jx)=>bif !decide (sB.2.1=0) then c 13 else c 0) (fun(sB:jx)=>bif !decide (sB.2.1=0) then c 13 else c 0) r3 else c 0
def bX(a:aS)(b:ByteArray):Option Int:=
 VO a b (fun a0=>some a0)
def VQ{R:Type}(a b:Int)(c:Bool->Option R):Option R:=
 bif a=5 then c true else bif a=6 then c (decide (a=b)) else bif b=6 then c (decide (a=b)) else(H2 a b).bind fun r1=>c r1
def wg(a b:Int):Option Bool:=
 VQ a b (fun a0=>some a0)
def VP{R:Type}(a b:aS)(c:Bool->Option R):Option R:=
 (lQ a).bind fun r1=>bif r1=0 then(lQ b).bind fun r2=>bif r2=0 then bif a.2.2.2.1<=b.2.2.2.1 then bif b.2.2.2.2.1<=a.2.2.2.2.1 then(wg a.2.1 b.2.1).bind fun r3=>c r3 else c false else c false else c false else c false
def lR(a b:aS):Option Bool:=
 VP a b (fun a0=>some a0)
def Ru{R:Type}(a:Int)(b:Bool->Option R):Option R:=
 bif a=1 then b true else b (decide (a=2))
def BR(a:Int):Option Bool:=
 Ru a (fun a0=>some a0)
def W0{R:Type}(a b:Int)(c:Int->Option R):Option R:=
 bif a=2 then bif b=1 then c 1 else bif a=1 then bif b=5 then c 2 else bif b=6 then c 2 else c 0 else c 0 else bif a=1 then bif b=5 then c 2 else bif b=6 then c 2 else c 0 else c 0
def kX(a b:Int):Option Int:=
 W0 a b (fun a0=>some a0)
def WT{R:Type}(a:Int)(b:aS)(c:ByteArray)(d:Int)(e:ByteArray->Int->Int->Option R):Option R:=
 (BR a).bind fun r1=>bif !r1 then e (bs []) 0 1 else(lQ b).bind fun r2=>bif !decide (r2=0) then e (bs []) 0 1 else bif d<0 then e (bs []) 0 1 else bif(c.size:Int)<d then e (bs []) 0 1 else bif !decide (b.2.2.1=1) then(tg a b.2.2.1 c d).bind fun r3=>bif !decide (r3.2.2=0) then e (bs []) 0 r3.2.2 else bif r3.1<b.2.2.2.1 then e (bs []) 0 5 else bif b.2.2.2.2.1<r3.1 then e (bs []) 0 5 else(kX a b.2.1).bind fun r4=>bif r4=1 then(Q2 r3.1).bind fun r5=>bif zW zI ((c.size:Int)-r3.2.1)<r5 then e (bs []) 0 2 else bif 0<=zW zI (r3.2.1+r5) then bif zW zI (r3.2.1+r5)<=(c.size:Int) then bif 0<=r3.2.1 then bif r3.2.1<=(((zW zI (r3.2.1+r5)).toNat:Nat):Int) then(kX a b.2.1).bind fun r6=>bif r6=1 then(Q0 (c.extract r3.2.1.toNat (zW zI (r3.2.1+r5)).toNat) r3.1).bind fun r7=>bif !decide (r7.2.1=0) then e (bs []) 0 r7.2.1 else(bX b r7.1).bind fun r8=>bif !decide (r8=0) then e (bs []) 0 r8 else e r7.1 (zW zI (r3.2.1+r5)) 0 else bif r6=2 then(gQ (c.extract r3.2.1.toNat (zW zI (r3.2.1+r5)).toNat)).bind fun r9=>bif !r9.2.2 then e (bs []) 0 3 else(bX b r9.1).bind fun kS=>bif !decide (kS=0) then e (bs []) 0 kS else e r9.1 (zW zI (r3.2.1+r5)) 0 else(bX b (c.extract r3.2.1.toNat (zW zI (r3.2.1+r5)).toNat)).bind fun lE=>bif !decide (lE=0) then e (bs []) 0 lE else e (c.extract r3.2.1.toNat (zW zI (r3.2.1+r5)).toNat) (zW zI (r3.2.1+r5)) 0 else none else none else none else none else bif r4=2 then bif zW zI ((c.size:Int)-r3.2.1)<zW zI (2*r3.1) then e (bs []) 0 2 else bif 0<=zW zI (r3.2.1+zW zI (2*r3.1)) then bif zW zI (r3.2.1+zW zI (2*r3.1))<=(c.size:Int) then bif 0<=r3.2.1 then bif r3.2.1<=(((zW zI (r3.2.1+zW zI (2*r3.1))).toNat:Nat):Int) then(kX a b.2.1).bind fun nK=>bif nK=1 then(Q0 (c.extract r3.2.1.toNat (zW zI (r3.2.1+zW zI (2*r3.1))).toNat) r3.1).bind fun mj=>bif !decide (mj.2.1=0) then e (bs []) 0 mj.2.1 else(bX b mj.1).bind fun su=>bif !decide (su=0) then e (bs []) 0 su else e mj.1 (zW zI (r3.2.1+zW zI (2*r3.1))) 0 else bif nK=2 then(gQ (c.extract r3.2.1.toNat (zW zI (r3.2.1+zW zI (2*r3.1))).toNat)).bind fun qy=>bif !qy.2.2 then e (bs []) 0 3 else(bX b qy.1).bind fun uO=>bif !decide (uO=0) then e (bs []) 0 uO else e qy.1 (zW zI (r3.2.1+zW zI (2*r3.1))) 0 else(bX b (c.extract r3.2.1.toNat (zW zI (r3.2.1+zW zI (2*r3.1))).toNat)).bind fun xQ=>bif !decide (xQ=0) then e (bs []) 0 xQ else e (c.extract r3.2.1.toNat (zW zI (r3.2.1+zW zI (2*r3.1))).toNat) (zW zI (r3.2.1+zW zI (2*r3.1))) 0 else none else none else none else none else bif zW zI ((c.size:Int)-r3.2.1)<r3.1 then e (bs []) 0 2 else bif 0<=zW zI (r3.2.1+r3.1) then bif zW zI (r3.2.1+r3.1)<=(c.size:Int) then bif 0<=r3.2.1 then bif r3.2.1<=(((zW zI (r3.2.1+r3.1)).toNat:Nat):Int) then(kX a b.2.1).bind fun vB=>bif vB=1 then(Q0 (c.extract r3.2.1.toNat (zW zI (r3.2.1+r3.1)).toNat) r3.1).bind fun qz=>bif !decide (qz.2.1=0) then e (bs []) 0 qz.2.1 else(bX b qz.1).bind fun xR=>bif !decide (xR=0) then e (bs []) 0 xR else e qz.1 (zW zI (r3.2.1+r3.1)) 0 else bif vB=2 then(gQ (c.extract r3.2.1.toNat (zW zI (r3.2.1+r3.1)).toNat)).bind fun sw=>bif !sw.2.2 then e (bs []) 0 3 else(bX b sw.1).bind fun A9=>bif !decide (A9=0) then e (bs []) 0 A9 else e sw.1 (zW zI (r3.2.1+r3.1)) 0 else(bX b (c.extract r3.2.1.toNat (zW zI (r3.2.1+r3.1)).toNat)).bind fun CZ=>bif !decide (CZ=0) then e (bs []) 0 CZ else e (c.extract r3.2.1.toNat (zW zI (r3.2.1+r3.1)).toNat) (zW zI (r3.2.1+r3.1)) 0 else none else none else none else none else(kX a b.2.1).bind fun SD=>bif SD=1 then(Q2 b.2.2.2.1).bind fun uP=>bif zW zI ((c.size:Int)-d)<uP then e (bs []) 0 2 else bif 0<=zW zI (d+uP) then bif zW zI (d+uP)<=(c.size:Int) then bif 0<=d then bif d<=(((zW zI (d+uP)).toNat:Nat):Int) then(kX a b.2.1).bind fun r26=>bif r26=1 then(Q0 (c.extract d.toNat (zW zI (d+uP)).toNat) b.2.2.2.1).bind fun SE=>bif !decide (SE.2.1=0) then e (bs []) 0 SE.2.1 else(bX b SE.1).bind fun r28=>bif !decide (r28=0) then e (bs []) 0 r28 else e SE.1 (zW zI (d+uP)) 0 else bif r26=2 then(gQ (c.extract d.toNat (zW zI (d+uP)).toNat)).bind fun r29=>bif !r29.2.2 then e (bs []) 0 3 else(bX b r29.1).bind fun r30=>bif !decide (r30=0) then e (bs []) 0 r30 else e r29.1 (zW zI (d+uP)) 0 else(bX b (c.extract d.toNat (zW zI (d+uP)).toNat)).bind fun r31=>bif !decide (r31=0) then e (bs []) 0 r31 else e (c.extract d.toNat (zW zI (d+uP)).toNat) (zW zI (d+uP)) 0 else none else none else none else none else bif SD=2 then bif zW zI ((c.size:Int)-d)<zW zI (2*b.2.2.2.1) then e (bs []) 0 2 else bif 0<=zW zI (d+zW zI (2*b.2.2.2.1)) then bif zW zI (d+zW zI (2*b.2.2.2.1))<=(c.size:Int) then bif 0<=d then bif d<=(((zW zI (d+zW zI (2*b.2.2.2.1))).toNat:Nat):Int) then(kX a b.2.1).bind fun r32=>bif r32=1 then(Q0 (c.extract d.toNat (zW zI (d+zW zI (2*b.2.2.2.1))).toNat) b.2.2.2.1).bind fun SF=>bif !decide (SF.2.1=0) then e (bs []) 0 SF.2.1 else(bX b SF.1).bind fun r34=>bif !decide (r34=0) then e (bs []) 0 r34 else e SF.1 (zW zI (d+zW zI (2*b.2.2.2.1))) 0 else bif r32=2 then(gQ (c.extract d.toNat (zW zI (d+zW zI (2*b.2.2.2.1))).toNat)).bind fun r35=>bif !r35.2.2 then e (bs []) 0 3 else(bX b r35.1).bind fun r36=>bif !decide (r36=0) then e (bs []) 0 r36 else e r35.1 (zW zI (d+zW zI (2*b.2.2.2.1))) 0 else(bX b (c.extract d.toNat (zW zI (d+zW zI (2*b.2.2.2.1))).toNat)).bind fun r37=>bif !decide (r37=0) then e (bs []) 0 r37 else e (c.extract d.toNat (zW zI (d+zW zI (2*b.2.2.2.1))).toNat) (zW zI (d+zW zI (2*b.2.2.2.1))) 0 else none else none else none else none else bif zW zI ((c.size:Int)-d)<b.2.2.2.1 then e (bs []) 0 2 else bif 0<=zW zI (d+b.2.2.2.1) then bif zW zI (d+b.2.2.2.1)<=(c.size:Int) then bif 0<=d then bif d<=(((zW zI (d+b.2.2.2.1)).toNat:Nat):Int) then(kX a b.2.1).bind fun r38=>bif r38=1 then(Q0 (c.extract d.toNat (zW zI (d+b.2.2.2.1)).toNat) b.2.2.2.1).bind fun SG=>bif !decide (SG.2.1=0) then e (bs []) 0 SG.2.1 else(bX b SG.1).bind fun r40=>bif !decide (r40=0) then e (bs []) 0 r40 else e SG.1 (zW zI (d+b.2.2.2.1)) 0 else bif r38=2 then(gQ (c.extract d.toNat (zW zI (d+b.2.2.2.1)).toNat)).bind fun r41=>bif !r41.2.2 then e (bs []) 0 3 else(bX b r41.1).bind fun r42=>bif !decide (r42=0) then e (bs []) 0 r42 else e r41.1 (zW zI (d+b.2.2.2.1)) 0 else(bX b (c.extract d.toNat (zW zI (d+b.2.2.2.1)).toNat)).bind fun r43=>bif !decide (r43=0) then e (bs []) 0 r43 else e (c.extract d.toNat (zW zI (d+b.2.2.2.1)).toNat) (zW zI (d+b.2.2.2.1)) 0 else none else none else none else none
def HU(a:Int)(b:aS)(c:ByteArray)(d:Int):Option J2:=
 WT a b c d (fun a0 a1 a2=>some (a0,a1,a2))
def WV{R:Type}(a:Int)(b:aS)(c:ByteArray)(d:ByteArray->Int->Option R):Option R:=
 (BR a).bind fun r1=>bif !r1 then d (bs []) 1 else(bX b c).bind fun r2=>bif !decide (r2=0) then d (bs []) r2 else bif !decide (b.2.2.1=1) then(qW a b.2.2.1 (c.size:Int)).bind fun r3=>(kX a b.2.1).bind fun r4=>bif r4=1 then(Q1 c).bind fun r5=>bif r3.1.size+r5.1.size<=9223372036854775807 then d (r3.1++r5.1) 0 else none else bif r4=2 then(jT c).bind fun r6=>bif r3.1.size+r6.size<=9223372036854775807 then d (r3.1++r6) 0 else none else bif r3.1.size+c.size<=9223372036854775807 then d (r3.1++c) 0 else none else(kX a b.2.1).bind fun r7=>bif r7=1 then(Q1 c).bind fun r8=>bif(bs []).size+r8.1.size<=9223372036854775807 then d (bs []++r8.1) 0 else none else bif r7=2 then(jT c).bind fun r9=>bif(bs []).size+r9.size<=9223372036854775807 then d (bs []++r9) 0 else none else bif(bs []).size+c.size<=9223372036854775807 then d (bs []++c) 0 else none
def BP(a:Int)(b:aS)(c:ByteArray):Option Sf:=
 WV a b c (fun a0 a1=>some (a0,a1))
def XB{R:Type}(a:aO)(b:Int->Int->Option R)(c:aO->Int->Int->ij->Option R):Option R:=
 bif 256<((List.length a):Int) then b 5 256 else c a ((List.length a):Int) 0 []
def D8{R:Type}(a:aO)(b c:Int)(d:ij)(e:Int->Int->Option R)(f:aO->Int->Int->ij->Option R)(g:Option R):Option R:=
 bif c<b then zd c (List.length a) (bif fg (gd .str) false d (List.getD a c.toNat (bs [],bs [],())).1 then e (10:Int) c else bif fh (gd .str) d (List.getD a c.toNat (bs [],bs [],())).1 then none else f a b (zW zI (c+(1:Int))) (d++ [((List.getD a c.toNat (bs [],bs [],())).1,true)])) else g
def D9{R:Type}(a b:Int)(c:Int->Int->Option R):Option R:=
 c a b
def Ea{R:Type}(a:Int->Int->Option R):Option R:=
 a 0 0
def Rx:Nat->aO->Int->Int->ij->Option (Sum (Int×Int) Unit)
 |0,_,_,_,_=>none
 |k+1,v0,v1,v2,v3=>D8 v0 v1 v2 v3 (fun a0 a1=>some (.inl (a0,a1))) (fun a0 a1 a2 a3=>Rx k a0 a1 a2 a3) (some (.inr ()))
def H8(a:aO):Option (Int×Int):=
 XB a (fun a0 a1=>some (a0,a1)) (fun a0 a1 a2 a3=>(Rx ag a0 a1 a2 a3).bind fun e=>Sum.elim (fun(we:(Int×Int))=>D9 we.1 we.2 (fun a0 a1=>some (a0,a1))) (fun(we:Unit)=>Ea (fun a0 a1=>some (a0,a1))) e)
def Xw{R:Type}(a:aO)(b:ByteArray)(c:ByteArray->aO->Int->Int->Option R):Option R:=
 c b a ((List.length a):Int) 0
def D4{R:Type}(a:ByteArray)(b:aO)(c d:Int)(e:ByteArray->Bool->Option R)(f:ByteArray->aO->Int->Int->Option R)(g:Option R):Option R:=
 bif d<c then zd d (List.length b) (bif(List.getD b d.toNat (bs [],bs [],())).1=a then e (List.getD b d.toNat (bs [],bs [],())).2.1 true else f a b c (zW zI (d+1))) else g
def D5{R:Type}(a:ByteArray)(b:Bool)(c:ByteArray->Bool->Option R):Option R:=
 c a b
def D6{R:Type}(a:ByteArray->Bool->Option R):Option R:=
 a (bs []) false
def Rw:Nat->ByteArray->aO->Int->Int->Option (Sum jK Unit)
 |0,_,_,_,_=>none
 |k+1,v0,v1,v2,v3=>D4 v0 v1 v2 v3 (fun a0 a1=>some (.inl (a0,a1))) (fun a0 a1 a2 a3=>Rw k a0 a1 a2 a3) (some (.inr ()))
def H7(a:aO)(b:ByteArray):Option jK:=
 Xw a b (fun a0 a1 a2 a3=>(Rw ag a0 a1 a2 a3).bind fun e=>Sum.elim (fun(we:jK)=>D5 we.1 we.2 (fun a0 a1=>some (a0,a1))) (fun(we:Unit)=>D6 (fun a0 a1=>some (a0,a1))) e)
def X5{R:Type}(a:Int)(b:Int->Option R)(c:Int->ap->Option R):Option R:=
 bif a<1 then b 5 else bif 65535<a then b 5 else c 0 (a,false,[],())
def Is(a:Int):Option (Sum Int tP):=
 X5 a (fun a0=>some (.inl a0)) (fun a0 a1=>some (.inr (a0,a1)))
def X4{R:Type}(a:ap)(b:Int->ap->Option R):Option R:=
 bif((List.length a.2.2.1):Int)<2 then b 0 a else zd 0 (List.length a.2.2.1) (zd 1 (List.length a.2.2.1) (b (aQ .or .i64 (zW zI (zW zI (List.getD a.2.2.1 ((0:Int)).toNat 0)*2^min ((8:Int)).toNat 64)) (zW zI (List.getD a.2.2.1 ((1:Int)).toNat 0))) a))
def Iq(a:ap):Option tP:=
 X4 a (fun a0 a1=>some (a0,a1))
def XZ{R:Type}(a:ap)(b:ByteArray)(c:ByteArray->(List ByteArray)->Int->ap->Option R):Option R:=
 c b [] 0 a
def RB{R:Type}(a:ByteArray)(b:(List ByteArray))(c:Int)(d:ap)(e:(List ByteArray)->Bool->(List ByteArray)->ap->Option R)(f:ByteArray->(List ByteArray)->Int->ap->Option R)(g:(List ByteArray)->ap->Option R):Option R:=
 bif c<(a.size:Int) then bif !d.2.1 then zd c a.size (bif(List.length d.2.2.1+List.length ([(ze a c.toNat)]:List Int))*1<=140737488355328 then(Iq (d.1,d.2.1,d.2.2.1++([(ze a c.toNat)]:List Int),())).bind fun r1=>bif((List.length r1.2.2.2.1):Int)=2 then bif r1.1=0 then e b true b (r1.2.1,true,[],()) else bif r1.2.1<r1.1 then e b true b (r1.2.1,true,[],()) else bif((List.length r1.2.2.2.1):Int)=zW zI (2+r1.1) then bif 0<r1.1 then bif 2<=(((List.length r1.2.2.2.1):Nat):Int) then bif(List.length b+List.length ([(strOf (List.drop ((2:Int)).toNat (List.take (List.length r1.2.2.2.1) r1.2.2.2.1)))]:List ByteArray))*16<=140737488355328 then f a (b++([(strOf (List.drop ((2:Int)).toNat (List.take (List.length r1.2.2.2.1) r1.2.2.2.1)))]:List ByteArray)) (zW zI (c+1)) (r1.2.1,r1.2.2.1,[],()) else none else none else f a b (zW zI (c+1)) r1.2 else f a b (zW zI (c+1)) r1.2 else bif((List.length r1.2.2.2.1):Int)=zW zI (2+r1.1) then bif 0<r1.1 then bif 2<=(((List.length r1.2.2.2.1):Nat):Int) then bif(List.length b+List.length ([(strOf (List.drop ((2:Int)).toNat (List.take (List.length r1.2.2.2.1) r1.2.2.2.1)))]:List ByteArray))*16<=140737488355328 then f a (b++([(strOf (List.drop ((2:Int)).toNat (List.take (List.length r1.2.2.2.1) r1.2.2.2.1)))]:List ByteArray)) (zW zI (c+1)) (r1.2.1,r1.2.2.1,[],()) else none else none else f a b (zW zI (c+1)) r1.2 else f a b (zW zI (c+1)) r1.2 else none) else g b d else g b d
def X2{R:Type}(a:(List ByteArray))(b:Bool)(c:(List ByteArray))(d:ap)(e:(List ByteArray)->Bool->ap->Option R):Option R:=
 e a b d
def X3{R:Type}(a:(List ByteArray))(b:ap)(c:(List ByteArray)->Bool->ap->Option R):Option R:=
 c a false b
def F7:Nat->ByteArray->(List ByteArray)->Int->ap->Option (Sum ((List ByteArray)×Bool×(List ByteArray)×ap) ((List ByteArray)×ap))
 |0,_,_,_,_=>none
 |k+1,v0,v1,v2,v3=>RB v0 v1 v2 v3 (fun a0 a1 a2 a3=>some (.inl (a0,a1,a2,a3))) (fun a0 a1 a2 a3=>F7 k a0 a1 a2 a3) (fun a0 a1=>some (.inr (a0,a1)))
def BU(a:ap)(b:ByteArray):Option ((List ByteArray)×Bool×ap):=
 XZ a b (fun a0 a1 a2 a3=>(F7 ag a0 a1 a2 a3).bind fun e=>Sum.elim (fun(we:((List ByteArray)×Bool×(List ByteArray)×ap))=>X2 we.1 we.2.1 we.2.2.1 we.2.2.2 (fun a0 a1 a2=>some (a0,a1,a2))) (fun(we:((List ByteArray)×ap))=>X3 we.1 we.2 (fun a0 a1 a2=>some (a0,a1,a2))) e)
def X6{R:Type}(a:ByteArray)(b:ByteArray->Int->Option R):Option R:=
 bif(a.size:Int)<1 then b (bs []) 5 else bif 65535<(a.size:Int) then b (bs []) 5 else bif(strOf ([(zW zU (Int.fdiv (a.size:Int) (2^min ((8:Int)).toNat 64))),(zW zU (a.size:Int))]:List Int)).size+a.size<=9223372036854775807 then b (strOf ([(zW zU (Int.fdiv (a.size:Int) (2^min ((8:Int)).toNat 64))),(zW zU (a.size:Int))]:List Int)++a) 0 else none
def BV(a:ByteArray):Option Sf:=
 X6 a (fun a0 a1=>some (a0,a1))
def Eh{R:Type}(a:ap)(b:Bool->ap->Option R):Option R:=
 b a.2.1 a
def Y3(a:ap):Option (Bool×ap):=
 Eh a (fun a0 a1=>some (a0,a1))
def Ej{R:Type}(a:ap)(b:Int->ap->Option R):Option R:=
 b ((List.length a.2.2.1):Int) a
def Y4(a:ap):Option tP:=
 Ej a (fun a0 a1=>some (a0,a1))
def U5{R:Type}(a:ByteArray)(b:Bool->Option R):Option R:=
 bif(a.size:Int)=4 then(yy a).bind fun r1=>b r1 else b false
def n4(a:ByteArray):Option Bool:=
 U5 a (fun a0=>some a0)
def U6{R:Type}(a:ByteArray)(b:Int->Bool->Option R):Option R:=
 (n4 a).bind fun r1=>bif !r1 then b 0 false else zd 0 a.size (b (zW zI (zW zU (ze a ((0:Int)).toNat-48))) true)
def ju(a:ByteArray):Option (Int×Bool):=
 U6 a (fun a0 a1=>some (a0,a1))
def U3{R:Type}(a:ByteArray)(b:Bool->Option R):Option R:=
 (n4 a).bind fun r1=>bif r1 then zd 2 a.size (bif ze a ((2:Int)).toNat=48 then b true else zd 2 a.size (b (decide (ze a ((2:Int)).toNat=50)))) else b false
def n3(a:ByteArray):Option Bool:=
 U3 a (fun a0=>some a0)
def U4{R:Type}(a:ByteArray)(b:ByteArray->Bool->Option R):Option R:=
 (n3 a).bind fun r1=>bif !r1 then b (bs []) false else bif 2<=(a.size:Int) then zd 2 a.size (bif(a.extract 0 ((2:Int)).toNat).size+(strOf ([(zW zU (ze a ((2:Int)).toNat+1))]:List Int)).size<=9223372036854775807 then bif 3<=(a.size:Int) then bif(a.extract 0 ((2:Int)).toNat++strOf ([(zW zU (ze a ((2:Int)).toNat+1))]:List Int)).size+(a.extract ((3:Int)).toNat a.size).size<=9223372036854775807 then b ((a.extract 0 ((2:Int)).toNat++strOf ([(zW zU (ze a ((2:Int)).toNat+1))]:List Int))++a.extract ((3:Int)).toNat a.size) true else none else none else none) else none
def tf(a:ByteArray):Option jK:=
 U4 a (fun a0 a1=>some (a0,a1))
def Ho{R:Type}(a:af)(b:Int->Int->Option R)(c:gS->Int->Int->af->Option R):Option R:=
 bif !decide (a.1=1) then bif !decide (a.1=2) then b 1 (-1:Int) else bif a.2.1<0 then b 7 (-1:Int) else bif 9<a.2.1 then b 7 (-1:Int) else c a.2.2.1 ((List.length a.2.2.1):Int) 0 a else bif a.2.1<0 then b 7 (-1:Int) else bif 9<a.2.1 then b 7 (-1:Int) else c a.2.2.1 ((List.length a.2.2.1):Int) 0 a
theorem ab5{R S:Type}(F:R->Option S)(a)(b)(c):(Ho a b c).bind F=Ho a (fun a0 a1=>(b a0 a1).bind F) (fun a0 a1 a2 a3=>(c a0 a1 a2 a3).bind F):=by
 simp only[Ho,aD]
def QV{R:Type}(a:gS)(b c:Int)(d:af)(e:Int->Int->Option R)(f:gS->Int->Int->af->Option R)(g:Option R):Option R:=
 bif c<b then zd c (List.length a) ((lQ (List.getD a c.toNat (0,0,0,0,0,()))).bind fun r1=>bif !decide (r1=0) then e r1 c else bif 0<c then zd (zW zI (c-1)) (List.length d.2.2.1) (bif(List.getD a c.toNat (0,0,0,0,0,())).1<=(List.getD d.2.2.1 (zW zI (c-(1:Int))).toNat (0,0,0,0,0,())).1 then e 11 c else f a b (zW zI (c+1)) d) else f a b (zW zI (c+1)) d) else g
def VB{R:Type}(a b:Int)(c:Int->Int->Option R):Option R:=
 c a b
def VC{R:Type}(a:Int->Int->Option R):Option R:=
 a 0 0
def BB:Nat->gS->Int->Int->af->Option (Sum (Int×Int) Unit)
 |0,_,_,_,_=>none
 |k+1,v0,v1,v2,v3=>QV v0 v1 v2 v3 (fun a0 a1=>some (.inl (a0,a1))) (fun a0 a1 a2 a3=>BB k a0 a1 a2 a3) (some (.inr ()))
def mL(a:af):Option (Int×Int):=
 Ho a (fun a0 a1=>some (a0,a1)) (fun a0 a1 a2 a3=>(BB ag a0 a1 a2 a3).bind fun e=>Sum.elim (fun(we:(Int×Int))=>VB we.1 we.2 (fun a0 a1=>some (a0,a1))) (fun(we:Unit)=>VC (fun a0 a1=>some (a0,a1))) e)
def VE{R:Type}(a:af)(b:Int)(c:Int->gS->Int->Int->aS->Option R):Option R:=
 c b a.2.2.1 ((List.length a.2.2.1):Int) 0 (0,0,0,0,0,())
def zzp{R:Type}(a:Int)(b:gS)(c d:Int)(e:aS)(f:Bool->aS->Option R)(g:Int->gS->Int->Int->aS->Option R)(h:aS->Option R):Option R:=
 bif d<c then zd d (List.length b) (bif(List.getD b d.toNat (0,0,0,0,0,())).1=a then f true (List.getD b d.toNat (0,0,0,0,0,())) else g a b c (zW zI (d+1)) e) else h e
def zzq{R:Type}(a:Bool)(b:aS)(c:aS->Bool->Option R):Option R:=
 c b a
def zzr{R:Type}(a:aS)(b:aS->Bool->Option R):Option R:=
 b (0,0,0,0,0,()) false
def QW:Nat->Int->gS->Int->Int->aS->Option (Sum (Bool×aS) aS)
 |0,_,_,_,_,_=>none
 |k+1,v0,v1,v2,v3,v4=>zzp v0 v1 v2 v3 v4 (fun a0 a1=>some (.inl (a0,a1))) (fun a0 a1 a2 a3 a4=>QW k a0 a1 a2 a3 a4) (fun a0=>some (.inr a0))
def fS(a:af)(b:Int):Option (aS×Bool):=
 VE a b (fun a0 a1 a2 a3 a4=>(QW ag a0 a1 a2 a3 a4).bind fun e=>Sum.elim (fun(we:(Bool×aS))=>zzq we.1 we.2 (fun a0 a1=>some (a0,a1))) (fun(we:aS)=>zzr we (fun a0 a1=>some (a0,a1))) e)
def UX{R:Type}(a:av)(b:Int)(c:Int->ak->Int->Int->Option R):Option R:=
 c b a.2.1 ((List.length a.2.1):Int) 0
def zyu{R:Type}(a:Int)(b:ak)(c d:Int)(e:ByteArray->Bool->Option R)(f:Int->ak->Int->Int->Option R)(g:Option R):Option R:=
 bif d<c then zd d (List.length b) (bif(List.getD b d.toNat (0,bs [],())).1=a then e (List.getD b d.toNat (0,bs [],())).2.1 true else f a b c (zW zI (d+1))) else g
def zyv{R:Type}(a:ByteArray)(b:Bool)(c:ByteArray->Bool->Option R):Option R:=
 c a b
def zyw{R:Type}(a:ByteArray->Bool->Option R):Option R:=
 a (bs []) false
def QL:Nat->Int->ak->Int->Int->Option (Sum jK Unit)
 |0,_,_,_,_=>none
 |k+1,v0,v1,v2,v3=>zyu v0 v1 v2 v3 (fun a0 a1=>some (.inl (a0,a1))) (fun a0 a1 a2 a3=>QL k a0 a1 a2 a3) (some (.inr ()))
def nZ(a:av)(b:Int):Option jK:=
 UX a b (fun a0 a1 a2 a3=>(QL ag a0 a1 a2 a3).bind fun e=>Sum.elim (fun(we:jK)=>zyv we.1 we.2 (fun a0 a1=>some (a0,a1))) (fun(we:Unit)=>zyw (fun a0 a1=>some (a0,a1))) e)
def U2{R:Type}(a:av)(b:Int)(c:Int->ak->Int->Int->av->av->Option R):Option R:=
 c b a.2.1 ((List.length a.2.1):Int) 0 (bs [],[],()) (a.1,[],())
def zz0{R:Type}(a:Int)(b:ak)(c d:Int)(e f:av)(g:Int->ak->Int->Int->av->av->Option R)(h:av->av->Option R):Option R:=
 bif d<c then zd d (List.length b) (bif !decide ((List.getD b d.toNat (0,bs [],())).1=a) then bif(List.length f.2.1+List.length ([(List.getD b d.toNat ((0:Int),bs [],()))]:List bd))*24<=140737488355328 then g a b c (zW zI (d+1)) e (f.1,f.2.1++([(List.getD b d.toNat (0,bs [],()))]:List bd),()) else none else g a b c (zW zI (d+1)) e f) else h e f
def zz1{R:Type}(a b:av)(c:av->Option R):Option R:=
 c b
def QN:Nat->Int->ak->Int->Int->av->av->Option (av×av)
 |0,_,_,_,_,_,_=>none
 |k+1,v0,v1,v2,v3,v4,v5=>zz0 v0 v1 v2 v3 v4 v5 (fun a0 a1 a2 a3 a4 a5=>QN k a0 a1 a2 a3 a4 a5) (fun a0 a1=>some (a0,a1))
def te(a:av)(b:Int):Option av:=
 U2 a b (fun a0 a1 a2 a3 a4 a5=>(QN ag a0 a1 a2 a3 a4 a5).bind fun e=>zz1 e.1 e.2 (fun a0=>some a0))
def zyz{R:Type}(a:bd)(b:Int)(c:Bool->Int->Option R):Option R:=
 c (decide (b<a.1)) b
def td(a:bd)(b:Int):Option (Bool×Int):=
 zyz a b (fun a0 a1=>some (a0,a1))
def VK{R:Type}(a:ak)(b:Int)(c:ak->Int->Int->Int->Option R):Option R:=
 c a ((List.length a):Int) 0 b
def zzy{R:Type}(a:ak)(b c d:Int)(e:Int->Int->Option R)(f:ak->Int->Int->Int->Option R)(g:Int->Option R):Option R:=
 bif c<b then zd c (List.length a) ((td (List.getD a c.toNat (0,bs [],())) d).bind fun r1=>bif r1.1 then e c r1.2 else f a b (zW zI (c+1)) r1.2) else g d
def zzz{R:Type}(a b:Int)(c:Int->Int->Option R):Option R:=
 c a b
def C5{R:Type}(a:Int)(b:Int->Int->Option R):Option R:=
 b (-1:Int) a
def QY:Nat->ak->Int->Int->Int->Option (Sum (Int×Int) Int)
 |0,_,_,_,_=>none
 |k+1,v0,v1,v2,v3=>zzy v0 v1 v2 v3 (fun a0 a1=>some (.inl (a0,a1))) (fun a0 a1 a2 a3=>QY k a0 a1 a2 a3) (fun a0=>some (.inr a0))
def tC(a:ak)(b:Int):Option (Int×Int):=
 VK a b (fun a0 a1 a2 a3=>(QY ag a0 a1 a2 a3).bind fun e=>Sum.elim (fun(we:(Int×Int))=>zzz we.1 we.2 (fun a0 a1=>some (a0,a1))) (fun(we:Int)=>C5 we (fun a0 a1=>some (a0,a1))) e)
def U0{R:Type}(a:av)(b:Int)(c:ByteArray)(d:av->Option R):Option R:=
 (te a b).bind fun r1=>(tC r1.2.1 b).bind fun r2=>bif r2.1<0 then bif zW zI (((List.length r1.2.1):Int)+1)=zW zI (((List.length r1.2.1):Int)+1) then bif 0<=zW zI (((List.length r1.2.1):Int)+1) then bif zW zI (((List.length r1.2.1):Int)+1)*24<=140737488355328 then bif 0<=((List.length r1.2.1):Int) then bif((List.length r1.2.1):Int)<=(((List.length r1.2.1):Nat):Int) then bif Nat.beq (zW zI (((List.length r1.2.1):Int)+(1:Int))).toNat (List.length (List.replicate (zW zI (((List.length r1.2.1):Int)+(1:Int))).toNat ((0:Int),bs [],()))) then zd ((List.length r1.2.1):Int) (zW zI (((List.length r1.2.1):Int)+(1:Int))).toNat (bif Nat.ble ((((List.length r1.2.1):Int)).toNat+1) (List.length (bY (List.replicate (zW zI (((List.length r1.2.1):Int)+(1:Int))).toNat ((0:Int),bs [],())) (List.take (zW zI (((List.length r1.2.1):Int)+(1:Int))).toNat (List.drop 0 (List.take (((List.length r1.2.1):Int)).toNat r1.2.1))) 0)) then bif 0<=zW zI (((List.length r1.2.1):Int)+1) then bif zW zI (((List.length r1.2.1):Int)+1)<=(((zW zI (((List.length r1.2.1):Int)+(1:Int))).toNat:Nat):Int) then bif 0<=((List.length r1.2.1):Int) then bif((List.length r1.2.1):Int)<=(((List.length r1.2.1):Nat):Int) then bif Nat.beq (zW zI (((List.length r1.2.1):Int)+(1:Int))).toNat (List.length (List.set (bY (List.replicate (zW zI (((List.length r1.2.1):Int)+(1:Int))).toNat ((0:Int),bs [],())) (List.take (zW zI (((List.length r1.2.1):Int)+(1:Int))).toNat (List.drop 0 (List.take (((List.length r1.2.1):Int)).toNat r1.2.1))) 0) (((List.length r1.2.1):Int)).toNat (r2.2,c,()))) then bif Nat.ble (zW zI (((List.length r1.2.1):Int)+(1:Int))).toNat (zW zI (((List.length r1.2.1):Int)+(1:Int))).toNat then bif Nat.beq (zW zI (((List.length r1.2.1):Int)+(1:Int))).toNat (List.length (bY (List.set (bY (List.replicate (zW zI (((List.length r1.2.1):Int)+(1:Int))).toNat ((0:Int),bs [],())) (List.take (zW zI (((List.length r1.2.1):Int)+(1:Int))).toNat (List.drop 0 (List.take (((List.length r1.2.1):Int)).toNat r1.2.1))) 0) (((List.length r1.2.1):Int)).toNat (r2.2,c,())) (List.take ((zW zI (((List.length r1.2.1):Int)+(1:Int))).toNat-(zW zI (((List.length r1.2.1):Int)+(1:Int))).toNat) (List.drop (((List.length r1.2.1):Int)).toNat (List.take (List.length r1.2.1) r1.2.1))) (zW zI (((List.length r1.2.1):Int)+(1:Int))).toNat)) then d (a.1,bY (List.set (bY (List.replicate (zW zI (((List.length r1.2.1):Int)+(1:Int))).toNat (0,bs [],())) (List.take (zW zI (((List.length r1.2.1):Int)+(1:Int))).toNat (List.drop 0 (List.take (((List.length r1.2.1):Int)).toNat r1.2.1))) 0) (((List.length r1.2.1):Int)).toNat (r2.2,c,())) (List.take ((zW zI (((List.length r1.2.1):Int)+(1:Int))).toNat-(zW zI (((List.length r1.2.1):Int)+(1:Int))).toNat) (List.drop (((List.length r1.2.1):Int)).toNat (List.take (List.length r1.2.1) r1.2.1))) (zW zI (((List.length r1.2.1):Int)+(1:Int))).toNat,()) else none else none else none else none else none else none else none else none) else none else none else none else none else none else none else bif zW zI (((List.length r1.2.1):Int)+1)=zW zI (((List.length r1.2.1):Int)+1) then bif 0<=zW zI (((List.length r1.2.1):Int)+1) then bif zW zI (((List.length r1.2.1):Int)+1)*24<=140737488355328 then bif 0<=r2.1 then bif r2.1<=(((List.length r1.2.1):Nat):Int) then bif Nat.beq (zW zI (((List.length r1.2.1):Int)+(1:Int))).toNat (List.length (List.replicate (zW zI (((List.length r1.2.1):Int)+(1:Int))).toNat ((0:Int),bs [],()))) then zd r2.1 (zW zI (((List.length r1.2.1):Int)+(1:Int))).toNat (bif Nat.ble (r2.1.toNat+1) (List.length (bY (List.replicate (zW zI (((List.length r1.2.1):Int)+(1:Int))).toNat ((0:Int),bs [],())) (List.take (zW zI (((List.length r1.2.1):Int)+(1:Int))).toNat (List.drop 0 (List.take r2.1.toNat r1.2.1))) 0)) then bif 0<=zW zI (r2.1+1) then bif zW zI (r2.1+1)<=(((zW zI (((List.length r1.2.1):Int)+(1:Int))).toNat:Nat):Int) then bif 0<=r2.1 then bif r2.1<=(((List.length r1.2.1):Nat):Int) then bif Nat.beq (zW zI (((List.length r1.2.1):Int)+(1:Int))).toNat (List.length (List.set (bY (List.replicate (zW zI (((List.length r1.2.1):Int)+(1:Int))).toNat ((0:Int),bs [],())) (List.take (zW zI (((List.length r1.2.1):Int)+(1:Int))).toNat (List.drop 0 (List.take r2.1.toNat r1.2.1))) 0) r2.1.toNat (r2.2,c,()))) then bif Nat.ble (zW zI (r2.1+(1:Int))).toNat (zW zI (((List.length r1.2.1):Int)+(1:Int))).toNat then bif Nat.beq (zW zI (((List.length r1.2.1):Int)+(1:Int))).toNat (List.length (bY (List.set (bY (List.replicate (zW zI (((List.length r1.2.1):Int)+(1:Int))).toNat ((0:Int),bs [],())) (List.take (zW zI (((List.length r1.2.1):Int)+(1:Int))).toNat (List.drop 0 (List.take r2.1.toNat r1.2.1))) 0) r2.1.toNat (r2.2,c,())) (List.take ((zW zI (((List.length r1.2.1):Int)+(1:Int))).toNat-(zW zI (r2.1+(1:Int))).toNat) (List.drop r2.1.toNat (List.take (List.length r1.2.1) r1.2.1))) (zW zI (r2.1+(1:Int))).toNat)) then d (a.1,bY (List.set (bY (List.replicate (zW zI (((List.length r1.2.1):Int)+(1:Int))).toNat (0,bs [],())) (List.take (zW zI (((List.length r1.2.1):Int)+(1:Int))).toNat (List.drop 0 (List.take r2.1.toNat r1.2.1))) 0) r2.1.toNat (r2.2,c,())) (List.take ((zW zI (((List.length r1.2.1):Int)+(1:Int))).toNat-(zW zI (r2.1+(1:Int))).toNat) (List.drop r2.1.toNat (List.take (List.length r1.2.1) r1.2.1))) (zW zI (r2.1+(1:Int))).toNat,()) else none else none else none else none else none else none else none else none) else none else none else none else none else none else none
def ig(a:av)(b:Int)(c:ByteArray):Option av:=
 U0 a b c (fun a0=>some a0)
def UU{R:Type}(a:af)(b:av)(c:aR->Option R)(d:Int->ak->Int->Int->af->aR->Option R):Option R:=
 (mL a).bind fun r1=>bif !decide (r1.1=0) then c (1,(-1:Int),()) else(ju b.1).bind fun r2=>bif !r2.2 then c (7,0,()) else bif !decide (r2.1=a.2.1) then c (7,0,()) else d 0 b.2.1 ((List.length b.2.1):Int) 0 a (0,0,())
def zyq{R:Type}(a:Int)(b:ak)(c d:Int)(e:af)(f:aR)(g:aR->Option R)(h:Int->ak->Int->Int->af->aR->Option R)(i:aR->Option R):Option R:=
 bif d<c then zd d (List.length b) (bif(List.getD b d.toNat (0,bs [],())).1<=a then g (11,(List.getD b d.toNat (0,bs [],())).1,()) else(fS e (List.getD b d.toNat (0,bs [],())).1).bind fun r3=>bif !r3.2 then g (9,(List.getD b d.toNat (0,bs [],())).1,()) else(bX r3.1 (List.getD b d.toNat (0,bs [],())).2.1).bind fun r4=>bif !decide (r4=0) then g (r4,(List.getD b d.toNat (0,bs [],())).1,()) else h (List.getD b d.toNat (0,bs [],())).1 b c (zW zI (d+1)) e f) else i f
def zyr{R:Type}(a:aR)(b:aR->Option R):Option R:=
 b a
def zys{R:Type}(a:aR)(b:aR->Option R):Option R:=
 b (0,0,())
def QK:Nat->Int->ak->Int->Int->af->aR->Option (Sum aR aR)
 |0,_,_,_,_,_,_=>none
 |k+1,v0,v1,v2,v3,v4,v5=>zyq v0 v1 v2 v3 v4 v5 (fun a0=>some (.inl a0)) (fun a0 a1 a2 a3 a4 a5=>QK k a0 a1 a2 a3 a4 a5) (fun a0=>some (.inr a0))
def qU(a:af)(b:av):Option aR:=
 UU a b (fun a0=>some a0) (fun a0 a1 a2 a3 a4 a5=>(QK ag a0 a1 a2 a3 a4 a5).bind fun e=>Sum.elim (fun(we:aR)=>zyr we (fun a0=>some a0)) (fun(we:aR)=>zys we (fun a0=>some a0)) e)
def UZ{R:Type}(a:av)(b:ak->Int->Int->aR->aR->Option R):Option R:=
 b a.2.1 ((List.length a.2.1):Int) 0 (0,0,()) (0,0,())
def zyx{R:Type}(a:ak)(b c:Int)(d e:aR)(f:ak->Int->Int->aR->aR->Option R)(g:aR->aR->Option R):Option R:=
 bif c<b then zd c (List.length a) ((yA e (List.getD a c.toNat (0,bs [],())).1).bind fun r1=>f a b (zW zI (c+1)) d r1) else g d e
def zyy{R:Type}(a b:aR)(c:aR->Option R):Option R:=
 c b
def QM:Nat->ak->Int->Int->aR->aR->Option (aR×aR)
 |0,_,_,_,_,_=>none
 |k+1,v0,v1,v2,v3,v4=>zyx v0 v1 v2 v3 v4 (fun a0 a1 a2 a3 a4=>QM k a0 a1 a2 a3 a4) (fun a0 a1=>some (a0,a1))
def tc(a:av):Option aR:=
 UZ a (fun a0 a1 a2 a3 a4=>(QM ag a0 a1 a2 a3 a4).bind fun e=>zyy e.1 e.2 (fun a0=>some a0))
def VM{R:Type}(a:(List Int))(b:Int)(c:(List Int)->Int->Int->Int->Option R):Option R:=
 c a b ((List.length a):Int) 0
def C7{R:Type}(a:(List Int))(b c d:Int)(e:Int->Option R)(f:(List Int)->Int->Int->Int->Option R)(g:Option R):Option R:=
 bif d<c then zd d (List.length a) (bif b=List.getD a d.toNat 0 then e d else f a b c (zW zI (d+1))) else g
def C8{R:Type}(a:Int)(b:Int->Option R):Option R:=
 b a
def C9{R:Type}(a:Int->Option R):Option R:=
 a (-1:Int)
def QZ:Nat->(List Int)->Int->Int->Int->Option (Sum Int Unit)
 |0,_,_,_,_=>none
 |k+1,v0,v1,v2,v3=>C7 v0 v1 v2 v3 (fun a0=>some (.inl a0)) (fun a0 a1 a2 a3=>QZ k a0 a1 a2 a3) (some (.inr ()))
def vZ(a:(List Int))(b:Int):Option Int:=
 VM a b (fun a0 a1 a2 a3=>(QZ ag a0 a1 a2 a3).bind fun e=>Sum.elim (fun(we:Int)=>C8 we (fun a0=>some a0)) (fun(we:Unit)=>C9 (fun a0=>some a0)) e)
def VG{R:Type}(a:(List Int))(b:Int)(c:Bool->Option R):Option R:=
 (vZ a b).bind fun r1=>c (decide (0<=r1))
def tz(a:(List Int))(b:Int):Option Bool:=
 VG a b (fun a0=>some a0)
def Vp{R:Type}(a:ar)(b:Int)(c:Int->Option R):Option R:=
 zd b (List.length a.2.2.1) ((fS a.1 (List.getD a.2.2.1 b.toNat (0:Int))).bind fun r1=>bif !r1.2 then c 9 else bif List.getD a.2.2.1 b.toNat 0=39 then c 1 else bif 0<=b then bif b<=(((List.length a.2.2.1):Nat):Int) then(tz (List.drop 0 (List.take b.toNat a.2.2.1)) (List.getD a.2.2.1 b.toNat (0:Int))).bind fun r2=>bif r2 then c 10 else c 0 else none else none)
def tn(a:ar)(b:Int):Option Int:=
 Vp a b (fun a0=>some a0)
def Vo{R:Type}(a b:bd)(c:Bool->bd->Option R):Option R:=
 c (decide (a.1=b.1)) b
def qY(a b:bd):Option (Bool×bd):=
 Vo a b (fun a0 a1=>some (a0,a1))
def VI{R:Type}(a:ak)(b:bd)(c:ak->Int->Int->bd->Option R):Option R:=
 c a ((List.length a):Int) 0 b
def zzu{R:Type}(a:ak)(b c:Int)(d:bd)(e:Int->bd->Option R)(f:ak->Int->Int->bd->Option R)(g:bd->Option R):Option R:=
 bif c<b then zd c (List.length a) ((qY (List.getD a c.toNat (0,bs [],())) d).bind fun r1=>bif r1.1 then e c r1.2 else f a b (zW zI (c+1)) r1.2) else g d
def zzv{R:Type}(a:Int)(b:bd)(c:Int->bd->Option R):Option R:=
 c a b
def zzw{R:Type}(a:bd)(b:Int->bd->Option R):Option R:=
 b (-1:Int) a
def QX:Nat->ak->Int->Int->bd->Option (Sum (Int×bd) bd)
 |0,_,_,_,_=>none
 |k+1,v0,v1,v2,v3=>zzu v0 v1 v2 v3 (fun a0 a1=>some (.inl (a0,a1))) (fun a0 a1 a2 a3=>QX k a0 a1 a2 a3) (fun a0=>some (.inr a0))
def vY(a:ak)(b:bd):Option (Int×bd):=
 VI a b (fun a0 a1 a2 a3=>(QX ag a0 a1 a2 a3).bind fun e=>Sum.elim (fun(we:(Int×bd))=>zzv we.1 we.2 (fun a0 a1=>some (a0,a1))) (fun(we:bd)=>zzw we (fun a0 a1=>some (a0,a1))) e)
def VF{R:Type}(a:ak)(b:bd)(c:Bool->bd->Option R):Option R:=
 (vY a b).bind fun r1=>c (decide (0<=r1.1)) r1.2
def tw(a:ak)(b:bd):Option (Bool×bd):=
 VF a b (fun a0 a1=>some (a0,a1))
def Vn{R:Type}(a:ar)(b:Int)(c:aS)(d:Int->Option R):Option R:=
 zd b (List.length a.2.2.2.1) (bif(List.getD a.2.2.2.1 b.toNat (0,bs [],())).1<0 then d 1 else bif 16<(List.getD a.2.2.2.1 b.toNat (0,bs [],())).1 then d 1 else bif 0<=b then bif b<=(((List.length a.2.2.2.1):Nat):Int) then(tw (List.drop 0 (List.take b.toNat a.2.2.2.1)) (List.getD a.2.2.2.1 b.toNat (0,bs [],()))).bind fun r1=>bif r1.1 then d 10 else(bX c r1.2.2.1).bind fun r2=>d r2 else none else none)
def tm(a:ar)(b:Int)(c:aS):Option Int:=
 Vn a b c (fun a0=>some a0)
def Vg{R:Type}(a:ar)(b:Int->Int->Int->Option R)(c:Int->Int->ar->aS->Option R):Option R:=
 (mL a.1).bind fun r1=>bif !decide (r1.1=0) then b 1 1 0 else(fS a.1 (39:Int)).bind fun r2=>bif !r2.2 then b 9 1 1 else c ((List.length a.2.2.1):Int) 0 a r2.1
def QR{R:Type}(a b:Int)(c:ar)(d:aS)(e:Int->Int->Int->ar->aS->Option R)(f:Int->Int->ar->aS->Option R)(g:ar->aS->Option R):Option R:=
 bif b<a then(tn c b).bind fun r3=>bif !decide (r3=0) then e r3 2 b c d else f a (zW zI (b+1)) c d else g c d
def zz8{R:Type}(a b c:Int)(d:ar)(e:aS)(f:Int->Int->Int->Option R):Option R:=
 f a b c
def Vh{R:Type}(a:ar)(b:aS)(c:Bool->ak->Int->Int->ar->aS->Option R):Option R:=
 c false a.2.2.2.1 ((List.length a.2.2.2.1):Int) 0 a b
def QS{R:Type}(a:Bool)(b:ak)(c d:Int)(e:ar)(f:aS)(g:Int->Int->Int->Bool->ar->Option R)(h:Bool->ak->Int->Int->ar->aS->Option R)(i:Bool->ar->Option R):Option R:=
 bif d<c then zd d (List.length b) ((tm e d f).bind fun r4=>bif !decide (r4=0) then g r4 3 d a e else bif a then h true b c (zW zI (d+1)) e f else h (decide ((List.getD b d.toNat (0,bs [],())).1=0)) b c (zW zI (d+1)) e f) else i a e
def zz9{R:Type}(a b c:Int)(d:Bool)(e:ar)(f:Int->Int->Int->Option R):Option R:=
 f a b c
def Vi{R:Type}(a:Bool)(b:ar)(c:Int->Int->Int->Option R):Option R:=
 bif !a then c 15 3 ((List.length b.2.2.2.1):Int) else c 0 0 0
def FN:Nat->Int->Int->ar->aS->Option (Sum (Int×Int×Int×ar×aS) (ar×aS))
 |0,_,_,_,_=>none
 |k+1,v0,v1,v2,v3=>QR v0 v1 v2 v3 (fun a0 a1 a2 a3 a4=>some (.inl (a0,a1,a2,a3,a4))) (fun a0 a1 a2 a3=>FN k a0 a1 a2 a3) (fun a0 a1=>some (.inr (a0,a1)))
def FO:Nat->Bool->ak->Int->Int->ar->aS->Option (Sum (Int×Int×Int×Bool×ar) (Bool×ar))
 |0,_,_,_,_,_,_=>none
 |k+1,v0,v1,v2,v3,v4,v5=>QS v0 v1 v2 v3 v4 v5 (fun a0 a1 a2 a3 a4=>some (.inl (a0,a1,a2,a3,a4))) (fun a0 a1 a2 a3 a4 a5=>FO k a0 a1 a2 a3 a4 a5) (fun a0 a1=>some (.inr (a0,a1)))
def tj(a:ar):Option jw:=
 Vg a (fun a0 a1 a2=>some (a0,a1,a2)) (fun a0 a1 a2 a3=>(FN ag a0 a1 a2 a3).bind fun e=>Sum.elim (fun(we:(Int×Int×Int×ar×aS))=>zz8 we.1 we.2.1 we.2.2.1 we.2.2.2.1 we.2.2.2.2 (fun a0 a1 a2=>some (a0,a1,a2))) (fun(we:(ar×aS))=>Vh we.1 we.2 (fun a0 a1 a2 a3 a4 a5=>(FO ag a0 a1 a2 a3 a4 a5).bind fun e=>Sum.elim (fun(we:(Int×Int×Int×Bool×ar))=>zz9 we.1 we.2.1 we.2.2.1 we.2.2.2.1 we.2.2.2.2 (fun a0 a1 a2=>some (a0,a1,a2))) (fun(we:(Bool×ar))=>Vi we.1 we.2 (fun a0 a1 a2=>some (a0,a1,a2))) e)) e)
def Vl{R:Type}(a:ar)(b:Int)(c:(List Int)->Int->Int->ar->Option R):Option R:=
 c ([b,0]:List Int) ((List.length ([b,(0:Int)]:List Int)):Int) 0 a
def QT{R:Type}(a:(List Int))(b c:Int)(d:ar)(e:Int->(List Int)->Int->Int->ak->Int->Int->ar->Option R)(f:Option R):Option R:=
 bif c<b then zd c (List.length a) (e (List.getD a c.toNat 0) a b c d.2.2.2.1 ((List.length d.2.2.2.1):Int) 0 d) else f
def zzc{R:Type}(a:ByteArray->Option R):Option R:=
 a (bs [])
def zzd{R:Type}(a:Int)(b:(List Int))(c d:Int)(e:ak)(f g:Int)(h:ar)(i:ByteArray->(List Int)->Int->Int->ar->Option R)(j:Int->(List Int)->Int->Int->ak->Int->Int->ar->Option R)(l:(List Int)->Int->Int->ar->Option R):Option R:=
 bif g<f then zd g (List.length e) (bif(List.getD e g.toNat (0,bs [],())).1=a then i (List.getD e g.toNat (0,bs [],())).2.1 b c d h else j a b c d e f (zW zI (g+1)) h) else l b c d h
def zze{R:Type}(a:ByteArray)(b:(List Int))(c d:Int)(e:ar)(f:ByteArray->Option R):Option R:=
 f a
def Vm{R:Type}(a:(List Int))(b c:Int)(d:ar)(e:(List Int)->Int->Int->ar->Option R):Option R:=
 e a b (zW zI (c+1)) d
def zzf{R:Type}(a:ByteArray)(b:ByteArray->Option R):Option R:=
 b a
def Hm:Nat->Int->(List Int)->Int->Int->ak->Int->Int->ar->Option (Sum (ByteArray×(List Int)×Int×Int×ar) ((List Int)×Int×Int×ar))
 |0,_,_,_,_,_,_,_,_=>none
 |k+1,v0,v1,v2,v3,v4,v5,v6,v7=>zzd v0 v1 v2 v3 v4 v5 v6 v7 (fun a0 a1 a2 a3 a4=>some (.inl (a0,a1,a2,a3,a4))) (fun a0 a1 a2 a3 a4 a5 a6 a7=>Hm k a0 a1 a2 a3 a4 a5 a6 a7) (fun a0 a1 a2 a3=>some (.inr (a0,a1,a2,a3)))
def BA:Nat->(List Int)->Int->Int->ar->Option (Sum Unit ByteArray)
 |0,_,_,_,_=>none
 |k+1,v0,v1,v2,v3=>QT v0 v1 v2 v3 (fun a0 a1 a2 a3 a4 a5 a6 a7=>(Hm ag a0 a1 a2 a3 a4 a5 a6 a7).bind fun e=>Sum.elim (fun(we:(ByteArray×(List Int)×Int×Int×ar))=>zze we.1 we.2.1 we.2.2.1 we.2.2.2.1 we.2.2.2.2 (fun a0=>some (.inr a0))) (fun(we:((List Int)×Int×Int×ar))=>Vm we.1 we.2.1 we.2.2.1 we.2.2.2 (fun a0 a1 a2 a3=>BA k a0 a1 a2 a3)) e) (some (.inl ()))
def tk(a:ar)(b:Int):Option ByteArray:=
 Vl a b (fun a0 a1 a2 a3=>(BA ag a0 a1 a2 a3).bind fun e=>Sum.elim (fun(we:Unit)=>zzc (fun a0=>some a0)) (fun(we:ByteArray)=>zzf we (fun a0=>some a0)) e)
def Vc{R:Type}(a:ar)(b:av)(c:aR)(d:av->Bool->Option R)(e:(List Int)->Int->Int->ar->av->aR->av->av->Option R):Option R:=
 (tf b.1).bind fun r1=>bif !r1.2 then d (bs [],[],()) false else e a.2.2.1 ((List.length a.2.2.1):Int) 0 a b c (bs [],[],()) (r1.1,[],())
def zz5{R:Type}(a:(List Int))(b c:Int)(d:ar)(e:av)(f:aR)(g h:av)(i:(List Int)->Int->Int->ar->av->aR->av->av->Option R)(j:ar->aR->av->av->Option R):Option R:=
 bif c<b then zd c (List.length a) ((nZ e (List.getD a c.toNat (0:Int))).bind fun r2=>bif r2.2 then(ig h (List.getD a c.toNat 0) r2.1).bind fun r3=>i a b (zW zI (c+1)) d e f g r3 else i a b (zW zI (c+1)) d e f g h) else j d f g h
def Vd{R:Type}(a:ar)(b:aR)(c d:av)(e:av->Bool->Option R):Option R:=
 (tk a b.1).bind fun r4=>(ig d 39 r4).bind fun r5=>e r5 true
def QQ:Nat->(List Int)->Int->Int->ar->av->aR->av->av->Option (ar×aR×av×av)
 |0,_,_,_,_,_,_,_,_=>none
 |k+1,v0,v1,v2,v3,v4,v5,v6,v7=>zz5 v0 v1 v2 v3 v4 v5 v6 v7 (fun a0 a1 a2 a3 a4 a5 a6 a7=>QQ k a0 a1 a2 a3 a4 a5 a6 a7) (fun a0 a1 a2 a3=>some (a0,a1,a2,a3))
def ti(a:ar)(b:av)(c:aR):Option (av×Bool):=
 Vc a b c (fun a0 a1=>some (a0,a1)) (fun a0 a1 a2 a3 a4 a5 a6 a7=>(QQ ag a0 a1 a2 a3 a4 a5 a6 a7).bind fun e=>Vd e.1 e.2.1 e.2.2.1 e.2.2.2 (fun a0 a1=>some (a0,a1)))
def VT{R:Type}(a:af)(b:ByteArray)(c:ByteArray->Int->Int->Option R):Option R:=
 bif a.1=2 then(Q2 (4:Int)).bind fun r1=>bif(b.size:Int)<r1 then c (bs []) 0 2 else bif 0<=r1 then bif r1<=(b.size:Int) then bif a.1=2 then(Q0 (b.extract 0 r1.toNat) (4:Int)).bind fun r2=>(ju r2.1).bind fun r3=>bif !r3.2 then c (bs []) 0 7 else bif !decide (r3.1=a.2.1) then c (bs []) 0 7 else c r2.1 r1 0 else(ju (b.extract 0 r1.toNat)).bind fun r4=>bif !r4.2 then c (bs []) 0 7 else bif !decide (r4.1=a.2.1) then c (bs []) 0 7 else c (b.extract 0 r1.toNat) r1 0 else none else none else bif(b.size:Int)<4 then c (bs []) 0 2 else bif 4<=(b.size:Int) then bif a.1=2 then(Q0 (b.extract 0 ((4:Int)).toNat) (4:Int)).bind fun r5=>(ju r5.1).bind fun r6=>bif !r6.2 then c (bs []) 0 7 else bif !decide (r6.1=a.2.1) then c (bs []) 0 7 else c r5.1 4 0 else(ju (b.extract 0 ((4:Int)).toNat)).bind fun r7=>bif !r7.2 then c (bs []) 0 7 else bif !decide (r7.1=a.2.1) then c (bs []) 0 7 else c (b.extract 0 ((4:Int)).toNat) 4 0 else none
def tD(a:af)(b:ByteArray):Option J2:=
 VT a b (fun a0 a1 a2=>some (a0,a1,a2))
def VS{R:Type}(a:af)(b:ByteArray)(c:av->aR->Option R)(d:ByteArray->Int->Int->af->av->aR->av->aR->Option R):Option R:=
 (mL a).bind fun r1=>bif !decide (r1.1=0) then c (bs [],[],()) (1,(-1:Int),()) else(tD a b).bind fun r2=>bif !decide (r2.2.2=0) then c (bs [],[],()) (r2.2.2,0,()) else(Q5 a.1 b r2.2.1).bind fun r3=>bif !decide (r3.2.2=0) then c (r2.1,[],()) (r3.2.2,1,()) else(Gh r3.1 (0:Int)).bind fun r4=>d b r3.2.1 r4 a (bs [],[],()) (0,0,()) (r2.1,[],()) r3.1
def Ra{R:Type}(a:ByteArray)(b c:Int)(d:af)(e:av)(f:aR)(g:av)(h:aR)(i:ByteArray->Int->av->aR->av->Option R)(j:ByteArray->Int->Int->af->av->aR->av->aR->Option R)(l:ByteArray->Int->av->aR->av->Option R):Option R:=
 bif !decide (c=0) then(fS d c).bind fun r5=>bif !r5.2 then i a b g (9,c,()) g else(HU d.1 r5.1 a b).bind fun r6=>bif !decide (r6.2.2=0) then i a b g (r6.2.2,c,()) g else bif(List.length g.2.1+List.length ([(c,r6.1,())]:List bd))*24<=140737488355328 then(Gh h c).bind fun r7=>j a r6.2.1 r7 d e f (g.1,g.2.1++([(c,r6.1,())]:List bd),()) h else none else l a b e f g
def Da{R:Type}(a:ByteArray)(b:Int)(c:av)(d:aR)(e:av)(f:av->aR->Option R):Option R:=
 f c d
def z107{R:Type}(a:ByteArray)(b:Int)(c:av)(d:aR)(e:av)(f:av->aR->Option R):Option R:=
 bif b<(a.size:Int) then f e (12,129,()) else f e (0,0,())
def FQ:Nat->ByteArray->Int->Int->af->av->aR->av->aR->Option (Sum ru ru)
 |0,_,_,_,_,_,_,_,_=>none
 |k+1,v0,v1,v2,v3,v4,v5,v6,v7=>Ra v0 v1 v2 v3 v4 v5 v6 v7 (fun a0 a1 a2 a3 a4=>some (.inl (a0,a1,a2,a3,a4))) (fun a0 a1 a2 a3 a4 a5 a6 a7=>FQ k a0 a1 a2 a3 a4 a5 a6 a7) (fun a0 a1 a2 a3 a4=>some (.inr (a0,a1,a2,a3,a4)))
def q7(a:af)(b:ByteArray):Option (av×aR):=
 VS a b (fun a0 a1=>some (a0,a1)) (fun a0 a1 a2 a3 a4 a5 a6 a7=>(FQ ag a0 a1 a2 a3 a4 a5 a6 a7).bind fun e=>Sum.elim (fun(we:ru)=>Da we.1 we.2.1 we.2.2.1 we.2.2.2.1 we.2.2.2.2 (fun a0 a1=>some (a0,a1))) (fun(we:ru)=>z107 we.1 we.2.1 we.2.2.1 we.2.2.2.1 we.2.2.2.2 (fun a0 a1=>some (a0,a1))) e)
def Wb{R:Type}(a:Int)(b:ByteArray)(c:ByteArray->Bool->Option R):Option R:=
 (n4 b).bind fun r1=>bif !r1 then c (bs []) false else bif a=1 then c b true else bif a=2 then(Q1 b).bind fun r2=>c r2.1 r2.2 else c (bs []) false
def tJ(a:Int)(b:ByteArray):Option jK:=
 Wb a b (fun a0 a1=>some (a0,a1))
def Wa{R:Type}(a b:ByteArray)(c:ByteArray->Option R):Option R:=
 (SM b a).bind fun r1=>c r1.2
def jW(a b:ByteArray):Option ByteArray:=
 Wa a b (fun a0=>some a0)
def V9{R:Type}(a:af)(b:av)(c:ByteArray->aR->Option R)(d:ak->Int->Int->af->aR->ByteArray->Option R):Option R:=
 (qU a b).bind fun r1=>bif !decide (r1.1=0) then c (bs []) r1 else(tJ a.1 b.1).bind fun r2=>(jW r2.1 (bs [])).bind fun r3=>(tc b).bind fun r4=>(Q6 a.1 r4).bind fun r5=>(jW r5.1 r3).bind fun r6=>d b.2.1 ((List.length b.2.1):Int) 0 a (0,0,()) r6
def Df{R:Type}(a:ak)(b c:Int)(d:af)(e:aR)(f:ByteArray)(g:ak->Int->Int->af->aR->ByteArray->Option R)(h:aR->ByteArray->Option R):Option R:=
 bif c<b then zd c (List.length a) ((fS d (List.getD a c.toNat (0,bs [],())).1).bind fun r7=>(BP d.1 r7.1 (List.getD a c.toNat (0,bs [],())).2.1).bind fun r8=>(jW r8.1 f).bind fun r9=>g a b (zW zI (c+1)) d e r9) else h e f
def Dg{R:Type}(a:aR)(b:ByteArray)(c:ByteArray->aR->Option R):Option R:=
 (z5b b).bind fun kS=>c kS.1 (0,0,())
def Rb:Nat->ak->Int->Int->af->aR->ByteArray->Option (aR×ByteArray)
 |0,_,_,_,_,_,_=>none
 |k+1,v0,v1,v2,v3,v4,v5=>Df v0 v1 v2 v3 v4 v5 (fun a0 a1 a2 a3 a4 a5=>Rb k a0 a1 a2 a3 a4 a5) (fun a0 a1=>some (a0,a1))
def n8(a:af)(b:av):Option (ByteArray×aR):=
 V9 a b (fun a0 a1=>some (a0,a1)) (fun a0 a1 a2 a3 a4 a5=>(Rb ag a0 a1 a2 a3 a4 a5).bind fun e=>Dg e.1 e.2 (fun a0 a1=>some (a0,a1)))
def Vw{R:Type}(a:aF)(b c:af)(d:aS->aS->Int->Option R):Option R:=
 (fS b a.2.1).bind fun r1=>(fS c a.2.2.1).bind fun r2=>bif a.1=3 then bif a.1=2 then bif !decide (a.2.1=0) then d r1.1 r2.1 9 else bif !decide (a.2.2.1=0) then d r1.1 r2.1 9 else d r1.1 r2.1 0 else bif !decide (a.2.1=0) then d r1.1 r2.1 9 else bif !r2.2 then d r1.1 r2.1 9 else d r1.1 r2.1 0 else bif a.1=2 then bif !r1.2 then d r1.1 r2.1 9 else bif !decide (a.2.2.1=0) then d r1.1 r2.1 9 else d r1.1 r2.1 0 else bif !r1.2 then d r1.1 r2.1 9 else bif !r2.2 then d r1.1 r2.1 9 else d r1.1 r2.1 0
def tv(a:aF)(b c:af):Option (aS×aS×Int):=
 Vw a b c (fun a0 a1 a2=>some (a0,a1,a2))
def Vx{R:Type}(a:aS)(b:Bool->Option R):Option R:=
 bif a.2.1=1 then b (decide (a.2.2.1=1)) else b false
def jv(a:aS):Option Bool:=
 Vx a (fun a0=>some a0)
def Vz{R:Type}(a:aO)(b c:aS)(d:Int->Option R)(e:aO->Int->Int->aS->aS->Option R):Option R:=
 (H8 a).bind fun r1=>bif !decide (r1.1=0) then d 15 else bif((List.length a):Int)=0 then d 15 else e a ((List.length a):Int) 0 b c
def zzk{R:Type}(a:aO)(b c:Int)(d e:aS)(f:Int->Option R)(g:aO->Int->Int->aS->aS->Option R)(h:Option R):Option R:=
 bif c<b then zd c (List.length a) ((bX d (List.getD a c.toNat (bs [],bs [],())).1).bind fun r2=>bif !decide (r2=0) then f r2 else(bX e (List.getD a c.toNat (bs [],bs [],())).2.1).bind fun r3=>bif !decide (r3=0) then f r3 else g a b (zW zI (c+1)) d e) else h
def zzl{R:Type}(a:Int)(b:Int->Option R):Option R:=
 b a
def zzm{R:Type}(a:Int->Option R):Option R:=
 a 0
def QU:Nat->aO->Int->Int->aS->aS->Option (Sum Int Unit)
 |0,_,_,_,_,_=>none
 |k+1,v0,v1,v2,v3,v4=>zzk v0 v1 v2 v3 v4 (fun a0=>some (.inl a0)) (fun a0 a1 a2 a3 a4=>QU k a0 a1 a2 a3 a4) (some (.inr ()))
def mK(a:aO)(b c:aS):Option Int:=
 Vz a b c (fun a0=>some a0) (fun a0 a1 a2 a3 a4=>(QU ag a0 a1 a2 a3 a4).bind fun e=>Sum.elim (fun(we:Int)=>zzl we (fun a0=>some a0)) (fun(we:Unit)=>zzm (fun a0=>some a0)) e)
def Vv{R:Type}(a:aF)(b c:af)(d:Int->Option R):Option R:=
 bif a.1<1 then d 1 else bif 5<a.1 then d 1 else(tv a b c).bind fun r1=>bif !decide (r1.2.2=0) then d r1.2.2 else bif !decide (a.2.2.2.1=bs []) then bif !decide (a.1=3) then d 3 else bif 0<((List.length a.2.2.2.2.1):Int) then bif !decide (a.1=5) then d 3 else bif a.1=1 then(lR r1.2.1 r1.1).bind fun r2=>bif !r2 then d 6 else d 0 else bif a.1=3 then(bX r1.2.1 a.2.2.2.1).bind fun r3=>d r3 else bif a.1=4 then(jv r1.1).bind fun r4=>bif !r4 then d 6 else(jv r1.2.1).bind fun r5=>bif !r5 then d 6 else d 0 else bif a.1=5 then(mK a.2.2.2.2.1 r1.1 r1.2.1).bind fun r6=>d r6 else d 0 else bif a.1=1 then(lR r1.2.1 r1.1).bind fun r7=>bif !r7 then d 6 else d 0 else bif a.1=3 then(bX r1.2.1 a.2.2.2.1).bind fun r8=>d r8 else bif a.1=4 then(jv r1.1).bind fun r9=>bif !r9 then d 6 else(jv r1.2.1).bind fun kS=>bif !kS then d 6 else d 0 else bif a.1=5 then(mK a.2.2.2.2.1 r1.1 r1.2.1).bind fun lE=>d lE else d 0 else bif 0<((List.length a.2.2.2.2.1):Int) then bif !decide (a.1=5) then d 3 else bif a.1=1 then(lR r1.2.1 r1.1).bind fun nK=>bif !nK then d 6 else d 0 else bif a.1=3 then(bX r1.2.1 a.2.2.2.1).bind fun mj=>d mj else bif a.1=4 then(jv r1.1).bind fun su=>bif !su then d 6 else(jv r1.2.1).bind fun qy=>bif !qy then d 6 else d 0 else bif a.1=5 then(mK a.2.2.2.2.1 r1.1 r1.2.1).bind fun uO=>d uO else d 0 else bif a.1=1 then(lR r1.2.1 r1.1).bind fun xQ=>bif !xQ then d 6 else d 0 else bif a.1=3 then(bX r1.2.1 a.2.2.2.1).bind fun vB=>d vB else bif a.1=4 then(jv r1.1).bind fun qz=>bif !qz then d 6 else(jv r1.2.1).bind fun xR=>bif !xR then d 6 else d 0 else bif a.1=5 then(mK a.2.2.2.2.1 r1.1 r1.2.1).bind fun sw=>d sw else d 0
def n6(a:aF)(b c:af):Option Int:=
 Vv a b c (fun a0=>some a0)
def Vu{R:Type}(a:aF)(b:af)(c:ByteArray)(d:bd->Int->Option R):Option R:=
 bif a.1=1 then d (a.2.2.1,c,()) 0 else bif a.1=2 then d (0,bs [],()) 0 else bif a.1=3 then d (a.2.2.1,a.2.2.2.1,()) 0 else bif a.1=4 then(fS b a.2.2.1).bind fun r1=>bif !r1.2 then d (0,bs [],()) 9 else(H9 c r1.1.2.2.2.1).bind fun r2=>bif !r2.2 then d (0,bs [],()) 5 else d (a.2.2.1,r2.1,()) 0 else bif a.1=5 then(H7 a.2.2.2.2.1 c).bind fun r3=>bif !r3.2 then d (0,bs [],()) 15 else d (a.2.2.1,r3.1,()) 0 else d (0,bs [],()) 1
def n5(a:aF)(b:af)(c:ByteArray):Option (bd×Int):=
 Vu a b c (fun a0 a1=>some (a0,a1))
def Ws{R:Type}(a:dF)(b c:af)(d:Bool->Option R):Option R:=
 (ju a.1).bind fun r1=>(ju a.2.1).bind fun r2=>bif r1.2 then bif r2.2 then bif r1.1=b.2.1 then bif r2.1=c.2.1 then(n3 a.1).bind fun r3=>(n3 a.2.1).bind fun r4=>d (r3==r4) else d false else d false else d false else d false
def oc(a:dF)(b c:af):Option Bool:=
 Ws a b c (fun a0=>some a0)
def Wg{R:Type}(a:ax)(b c:af)(d:og->Int->Int->ax->af->af->Option R):Option R:=
 d ([b,c]:List af) ((List.length ([b,c]:List af)):Int) 0 a b c
def Wh{R:Type}(a:og)(b c:Int)(d:ax)(e f:af)(g:Int->Int->Int->ax->af->af->Option R)(h:og->Int->Int->ax->af->af->Option R)(i:ax->af->af->Option R):Option R:=
 bif c<b then zd c (List.length a) ((mL (List.getD a c.toNat (0,0,[],()))).bind fun r1=>bif !decide (r1.1=0) then g 1 1 c d e f else h a b (zW zI (c+1)) d e f) else i d e f
def Dk{R:Type}(a b c:Int)(d:ax)(e f:af)(g:Int->Int->Int->Option R):Option R:=
 g a b c
def Wi{R:Type}(a:ax)(b c:af)(d:Int->Int->Int->Option R)(e:aO->Int->Int->ax->af->af->ij->Option R):Option R:=
 bif 256<((List.length a.1):Int) then d 5 2 256 else e a.1 ((List.length a.1):Int) 0 a b c []
def Dl{R:Type}(a:aO)(b c:Int)(d:ax)(e f:af)(g:ij)(h:Int->Int->Int->ax->af->af->Option R)(i:aO->Int->Int->ax->af->af->ij->Option R)(j:ax->af->af->Option R):Option R:=
 bif c<b then zd c (List.length a) ((oc (List.getD a c.toNat (bs [],bs [],())) e f).bind fun r2=>bif !r2 then h (7:Int) (2:Int) c d e f else bif fg (gd .str) false g (List.getD a c.toNat (bs [],bs [],())).1 then h (10:Int) (2:Int) c d e f else bif fh (gd .str) g (List.getD a c.toNat (bs [],bs [],())).1 then none else i a b (zW zI (c+(1:Int))) d e f (g++ [((List.getD a c.toNat (bs [],bs [],())).1,true)])) else j d e f
def Dm{R:Type}(a b c:Int)(d:ax)(e f:af)(g:Int->Int->Int->Option R):Option R:=
 g a b c
def Wj{R:Type}(a:ax)(b c:af)(d:Int->Int->Int->Option R)(e:bR->Int->Int->af->af->aR->aR->Option R):Option R:=
 bif 256<((List.length a.2.1):Int) then d 5 3 256 else e a.2.1 ((List.length a.2.1):Int) 0 b c (0,0,()) (0,0,())
def Dn{R:Type}(a:bR)(b c:Int)(d e:af)(f g:aR)(h:Int->Int->Int->Option R)(i:bR->Int->Int->af->af->aR->aR->Option R)(j:Option R):Option R:=
 bif c<b then zd c (List.length a) ((n6 (List.getD a c.toNat (0,0,0,bs [],[],())) d e).bind fun r3=>bif !decide (r3=0) then h r3 3 c else(vk ([(List.getD a c.toNat (0,0,0,bs [],[],())).2.1]:List Int)).bind fun r4=>(vk ([(List.getD a c.toNat (0,0,0,bs [],[],())).2.2.1]:List Int)).bind fun r5=>(si f r4).bind fun r6=>bif !(decide (r6.1=0)&&(decide (r6.2.1=0)&&true)) then h 10 3 c else(si g r5).bind fun r7=>bif !(decide (r7.1=0)&&(decide (r7.2.1=0)&&true)) then h 10 3 c else(tL f r4).bind fun r8=>(tL g r5).bind fun r9=>i a b (zW zI (c+1)) d e r8 r9) else j
def Dp{R:Type}(a b c:Int)(d:Int->Int->Int->Option R):Option R:=
 d a b c
def Dq{R:Type}(a:Int->Int->Int->Option R):Option R:=
 a 0 0 0
def Hs:Nat->og->Int->Int->ax->af->af->Option (Sum lX lW)
 |0,_,_,_,_,_,_=>none
 |k+1,v0,v1,v2,v3,v4,v5=>Wh v0 v1 v2 v3 v4 v5 (fun a0 a1 a2 a3 a4 a5=>some (.inl (a0,a1,a2,a3,a4,a5))) (fun a0 a1 a2 a3 a4 a5=>Hs k a0 a1 a2 a3 a4 a5) (fun a0 a1 a2=>some (.inr (a0,a1,a2)))
def Ht:Nat->aO->Int->Int->ax->af->af->ij->Option (Sum lX lW)
 |0,_,_,_,_,_,_,_=>none
 |k+1,v0,v1,v2,v3,v4,v5,v6=>Dl v0 v1 v2 v3 v4 v5 v6 (fun a0 a1 a2 a3 a4 a5=>some (.inl (a0,a1,a2,a3,a4,a5))) (fun a0 a1 a2 a3 a4 a5 a6=>Ht k a0 a1 a2 a3 a4 a5 a6) (fun a0 a1 a2=>some (.inr (a0,a1,a2)))
def Rc:Nat->bR->Int->Int->af->af->aR->aR->Option (Sum jw Unit)
 |0,_,_,_,_,_,_,_=>none
 |k+1,v0,v1,v2,v3,v4,v5,v6=>Dn v0 v1 v2 v3 v4 v5 v6 (fun a0 a1 a2=>some (.inl (a0,a1,a2))) (fun a0 a1 a2 a3 a4 a5 a6=>Rc k a0 a1 a2 a3 a4 a5 a6) (some (.inr ()))
def q9(a:ax)(b c:af):Option jw:=
 Wg a b c (fun a0 a1 a2 a3 a4 a5=>(Hs ag a0 a1 a2 a3 a4 a5).bind fun e=>Sum.elim (fun(we:lX)=>Dk we.1 we.2.1 we.2.2.1 we.2.2.2.1 we.2.2.2.2.1 we.2.2.2.2.2 (fun a0 a1 a2=>some (a0,a1,a2))) (fun(we:lW)=>Wi we.1 we.2.1 we.2.2 (fun a0 a1 a2=>some (a0,a1,a2)) (fun a0 a1 a2 a3 a4 a5 a6=>(Ht ag a0 a1 a2 a3 a4 a5 a6).bind fun e=>Sum.elim (fun(we:lX)=>Dm we.1 we.2.1 we.2.2.1 we.2.2.2.1 we.2.2.2.2.1 we.2.2.2.2.2 (fun a0 a1 a2=>some (a0,a1,a2))) (fun(we:lW)=>Wj we.1 we.2.1 we.2.2 (fun a0 a1 a2=>some (a0,a1,a2)) (fun a0 a1 a2 a3 a4 a5 a6=>(Rc ag a0 a1 a2 a3 a4 a5 a6).bind fun e=>Sum.elim (fun(we:jw)=>Dp we.1 we.2.1 we.2.2 (fun a0 a1 a2=>some (a0,a1,a2))) (fun(we:Unit)=>Dq (fun a0 a1 a2=>some (a0,a1,a2))) e)) e)) e)
def Wr{R:Type}(a:ax)(b:ByteArray)(c:ByteArray->aO->Int->Int->Option R):Option R:=
 c b a.1 ((List.length a.1):Int) 0
def DB{R:Type}(a:ByteArray)(b:aO)(c d:Int)(e:ByteArray->Bool->Option R)(f:ByteArray->aO->Int->Int->Option R)(g:Option R):Option R:=
 bif d<c then zd d (List.length b) (bif(List.getD b d.toNat (bs [],bs [],())).1=a then e (List.getD b d.toNat (bs [],bs [],())).2.1 true else f a b c (zW zI (d+1))) else g
def DC{R:Type}(a:ByteArray)(b:Bool)(c:ByteArray->Bool->Option R):Option R:=
 c a b
def DE{R:Type}(a:ByteArray->Bool->Option R):Option R:=
 a (bs []) false
def Rg:Nat->ByteArray->aO->Int->Int->Option (Sum jK Unit)
 |0,_,_,_,_=>none
 |k+1,v0,v1,v2,v3=>DB v0 v1 v2 v3 (fun a0 a1=>some (.inl (a0,a1))) (fun a0 a1 a2 a3=>Rg k a0 a1 a2 a3) (some (.inr ()))
def tK(a:ax)(b:ByteArray):Option jK:=
 Wr a b (fun a0 a1 a2 a3=>(Rg ag a0 a1 a2 a3).bind fun e=>Sum.elim (fun(we:jK)=>DC we.1 we.2 (fun a0 a1=>some (a0,a1))) (fun(we:Unit)=>DE (fun a0 a1=>some (a0,a1))) e)
def Wp{R:Type}(a:ax)(b:Int)(c:Int->bR->Int->Int->aF->Option R):Option R:=
 c b a.2.1 ((List.length a.2.1):Int) 0 (0,0,0,bs [],[],())
def Dx{R:Type}(a:Int)(b:bR)(c d:Int)(e:aF)(f:Bool->aF->Option R)(g:Int->bR->Int->Int->aF->Option R)(h:aF->Option R):Option R:=
 bif d<c then zd d (List.length b) (bif(List.getD b d.toNat (0,0,0,bs [],[],())).2.1=a then f true (List.getD b d.toNat (0,0,0,bs [],[],())) else g a b c (zW zI (d+1)) e) else h e
def Dy{R:Type}(a:Bool)(b:aF)(c:aF->Bool->Option R):Option R:=
 c b a
def Dz{R:Type}(a:aF)(b:aF->Bool->Option R):Option R:=
 b (0,0,0,bs [],[],()) false
def Rf:Nat->Int->bR->Int->Int->aF->Option (Sum (Bool×aF) aF)
 |0,_,_,_,_,_=>none
 |k+1,v0,v1,v2,v3,v4=>Dx v0 v1 v2 v3 v4 (fun a0 a1=>some (.inl (a0,a1))) (fun a0 a1 a2 a3 a4=>Rf k a0 a1 a2 a3 a4) (fun a0=>some (.inr a0))
def n9(a:ax)(b:Int):Option (aF×Bool):=
 Wp a b (fun a0 a1 a2 a3 a4=>(Rf ag a0 a1 a2 a3 a4).bind fun e=>Sum.elim (fun(we:(Bool×aF))=>Dy we.1 we.2 (fun a0 a1=>some (a0,a1))) (fun(we:aF)=>Dz we (fun a0 a1=>some (a0,a1))) e)
def Wm{R:Type}(a:ax)(b c:af)(d:av)(e:av->aR->Option R)(f:bR->Int->Int->ax->af->av->av->aR->av->Option R):Option R:=
 (q9 a b c).bind fun r1=>bif !decide (r1.1=0) then e (bs [],[],()) (1,(-1:Int),()) else(qU b d).bind fun r2=>bif !decide (r2.1=0) then e (bs [],[],()) r2 else(tK a d.1).bind fun r3=>bif !r3.2 then e (bs [],[],()) (7,0,()) else f a.2.1 ((List.length a.2.1):Int) 0 a c d (bs [],[],()) (0,0,()) (r3.1,[],())
def Ds{R:Type}(a:bR)(b c:Int)(d:ax)(e:af)(f g:av)(h:aR)(i:av)(j:bR->Int->Int->ax->af->av->av->aR->av->Option R)(l:ax->af->av->av->aR->av->Option R):Option R:=
 bif c<b then zd c (List.length a) (bif(List.getD a c.toNat (0,0,0,bs [],[],())).1=3 then(ig i (List.getD a c.toNat (0,0,0,bs [],[],())).2.2.1 (List.getD a c.toNat (0,0,0,bs [],[],())).2.2.2.1).bind fun r4=>j a b (zW zI (c+1)) d e f g h r4 else j a b (zW zI (c+1)) d e f g h i) else l d e f g h i
def Wn{R:Type}(a:ax)(b:af)(c d:av)(e:aR)(f:av)(g:ak->Int->Int->ax->af->av->aR->av->Option R):Option R:=
 g c.2.1 ((List.length c.2.1):Int) 0 a b d e f
def Dt{R:Type}(a:ak)(b c:Int)(d:ax)(e:af)(f:av)(g:aR)(h:av)(i:av->aR->av->Option R)(j:ak->Int->Int->ax->af->av->aR->av->Option R)(l:av->aR->av->Option R):Option R:=
 bif c<b then zd c (List.length a) ((n9 d (List.getD a c.toNat (0,bs [],())).1).bind fun r5=>bif !r5.2 then i (bs [],[],()) (9,(List.getD a c.toNat (0,bs [],())).1,()) h else(n5 r5.1 e (List.getD a c.toNat (0,bs [],())).2.1).bind fun r6=>bif !decide (r6.2=0) then i (bs [],[],()) (r6.2,(List.getD a c.toNat (0,bs [],())).1,()) h else bif !decide (r6.1.1=0) then(ig h r6.1.1 r6.1.2.1).bind fun r7=>j a b (zW zI (c+1)) d e f g r7 else j a b (zW zI (c+1)) d e f g h) else l f g h
def Du{R:Type}(a:av)(b:aR)(c:av)(d:av->aR->Option R):Option R:=
 d a b
def Dv{R:Type}(a:av)(b:aR)(c:av)(d:av->aR->Option R):Option R:=
 d c (0,0,())
def Rd:Nat->bR->Int->Int->ax->af->av->av->aR->av->Option (ax×af×av×av×aR×av)
 |0,_,_,_,_,_,_,_,_,_=>none
 |k+1,v0,v1,v2,v3,v4,v5,v6,v7,v8=>Ds v0 v1 v2 v3 v4 v5 v6 v7 v8 (fun a0 a1 a2 a3 a4 a5 a6 a7 a8=>Rd k a0 a1 a2 a3 a4 a5 a6 a7 a8) (fun a0 a1 a2 a3 a4 a5=>some (a0,a1,a2,a3,a4,a5))
def Re:Nat->ak->Int->Int->ax->af->av->aR->av->Option (Sum rl rl)
 |0,_,_,_,_,_,_,_,_=>none
 |k+1,v0,v1,v2,v3,v4,v5,v6,v7=>Dt v0 v1 v2 v3 v4 v5 v6 v7 (fun a0 a1 a2=>some (.inl (a0,a1,a2))) (fun a0 a1 a2 a3 a4 a5 a6 a7=>Re k a0 a1 a2 a3 a4 a5 a6 a7) (fun a0 a1 a2=>some (.inr (a0,a1,a2)))
def re(a:ax)(b c:af)(d:av):Option (av×aR):=
 Wm a b c d (fun a0 a1=>some (a0,a1)) (fun a0 a1 a2 a3 a4 a5 a6 a7 a8=>(Rd ag a0 a1 a2 a3 a4 a5 a6 a7 a8).bind fun e=>Wn e.1 e.2.1 e.2.2.1 e.2.2.2.1 e.2.2.2.2.1 e.2.2.2.2.2 (fun a0 a1 a2 a3 a4 a5 a6 a7=>(Re ag a0 a1 a2 a3 a4 a5 a6 a7).bind fun e=>Sum.elim (fun(we:rl)=>Du we.1 we.2.1 we.2.2 (fun a0 a1=>some (a0,a1))) (fun(we:rl)=>Dv we.1 we.2.1 we.2.2 (fun a0 a1=>some (a0,a1))) e))
def Vr{R:Type}(a:aA)(b:Int->Int->Int->Option R)(c:mT->Int->aA->Option R):Option R:=
 bif a.2.1<1 then b 5 2 0 else bif 65535<a.2.1 then b 5 2 0 else c a.1 0 a
def Hn{R:Type}(a:mT)(b:Int)(c:aA)(d:Int->Int->Int->Option R)(e:mT->Int->aA->Option R)(f:Option R):Option R:=
 bif b<2 then zd b 2 ((tj (List.getD a b.toNat ((0,0,[],()),([],[],()),[],[],()))).bind fun r1=>bif !decide (r1.1=0) then d r1.1 b 1 else zd (zW zI (1-b)) 2 ((q9 (List.getD a b.toNat ((0,0,[],()),([],[],()),[],[],())).2.1 (List.getD a b.toNat ((0,0,[],()),([],[],()),[],[],())).1 (List.getD c.1 (zW zI (1-b)).toNat ((0,0,[],()),([],[],()),[],[],())).1).bind fun r2=>bif !decide (r2.1=0) then d r2.1 b 2 else e a (zW zI (b+1)) c)) else f
def zzh{R:Type}(a b c:Int)(d:Int->Int->Int->Option R):Option R:=
 d a b c
def zzi{R:Type}(a:Int->Int->Int->Option R):Option R:=
 a 0 0 0
def FP:Nat->mT->Int->aA->Option (Sum jw Unit)
 |0,_,_,_=>none
 |k+1,v0,v1,v2=>Hn v0 v1 v2 (fun a0 a1 a2=>some (.inl (a0,a1,a2))) (fun a0 a1 a2=>FP k a0 a1 a2) (some (.inr ()))
def qZ(a:aA):Option jw:=
 Vr a (fun a0 a1 a2=>some (a0,a1,a2)) (fun a0 a1 a2=>(FP ag a0 a1 a2).bind fun e=>Sum.elim (fun(we:jw)=>zzh we.1 we.2.1 we.2.2 (fun a0 a1 a2=>some (a0,a1,a2))) (fun(we:Unit)=>zzi (fun a0 a1 a2=>some (a0,a1,a2))) e)
def Vt{R:Type}(a:av)(b:aR)(c:ar)(d:aA)(e:Int->ByteArray->Option R):Option R:=
 (ti c a b).bind fun r1=>bif !r1.2 then e 3 (bs []) else(n8 c.1 r1.1).bind fun r2=>bif r2.1=bs [] then e 3 (bs []) else bif d.2.1<(r2.1.size:Int) then e 3 (bs []) else e 2 r2.1
def kI(a:av)(b:aR)(c:ar)(d:aA):Option Zt3:=
 Vt a b c d (fun a0 a1=>some (a0,a1))
def Vs{R:Type}(a:aA)(b:Int)(c:ByteArray)(d:Int->ByteArray->Option R):Option R:=
 (qZ a).bind fun r1=>bif !decide (r1.1=0) then d 0 (bs []) else bif b<0 then d 0 (bs []) else bif 1<b then d 0 (bs []) else zd b 2 (zd (zW zI (1-b)) 2 ((q7 (List.getD a.1 b.toNat ((0,0,[],()),([],[],()),[],[],())).1 c).bind fun r2=>bif !decide (r2.2.1=0) then(kI r2.1 r2.2 (List.getD a.1 b.toNat ((0,0,[],()),([],[],()),[],[],())) a).bind fun r3=>d r3.1 r3.2 else(re (List.getD a.1 b.toNat ((0,0,[],()),([],[],()),[],[],())).2.1 (List.getD a.1 b.toNat ((0,0,[],()),([],[],()),[],[],())).1 (List.getD a.1 (zW zI (1-b)).toNat ((0,0,[],()),([],[],()),[],[],())).1 r2.1).bind fun r4=>bif !decide (r4.2.1=0) then(kI r2.1 r4.2 (List.getD a.1 b.toNat ((0,0,[],()),([],[],()),[],[],())) a).bind fun r5=>d r5.1 r5.2 else(n8 (List.getD a.1 (zW zI (1-b)).toNat ((0,0,[],()),([],[],()),[],[],())).1 r4.1).bind fun r6=>bif a.2.1<(r6.1.size:Int) then(kI r2.1 (5,129,()) (List.getD a.1 b.toNat ((0,0,[],()),([],[],()),[],[],())) a).bind fun r7=>d r7.1 r7.2 else d 1 r6.1))
def tu(a:aA)(b:Int)(c:ByteArray):Option Zt3:=
 Vs a b c (fun a0 a1=>some (a0,a1))
def Yh{R:Type}(a:ar)(b:bR->bR->Int->Int->ar->ar->Option R):Option R:=
 bif List.length a.1.2.2.1*40<=140737488355328 then bif List.length a.2.1.1*32<=140737488355328 then bif 0<=((List.length a.2.1.2.1):Int) then bif((List.length a.2.1.2.1):Int)*64<=140737488355328 then b [] a.2.1.2.1 ((List.length a.2.1.2.1):Int) 0 ((a.1.1,a.1.2.1,a.1.2.2.1,()),(a.2.1.1,a.2.1.2.1,()),a.2.2.1,a.2.2.2.1,()) ((0,0,[],()),([],[],()),[],[],()) else none else none else none else none
def Es{R:Type}(a b:bR)(c d:Int)(e f:ar)(g:bR->bR->Int->Int->ar->ar->Option R)(h:bR->ar->ar->Option R):Option R:=
 bif d<c then zd d (List.length b) (bif List.length (List.getD b d.toNat ((0:Int),(0:Int),(0:Int),bs [],([]:List dF),())).2.2.2.2.1*32<=140737488355328 then bif(List.length a+List.length ([((List.getD b d.toNat ((0:Int),(0:Int),(0:Int),bs [],([]:List dF),())).1,(List.getD b d.toNat ((0:Int),(0:Int),(0:Int),bs [],([]:List dF),())).2.1,(List.getD b d.toNat ((0:Int),(0:Int),(0:Int),bs [],([]:List dF),())).2.2.1,(List.getD b d.toNat ((0:Int),(0:Int),(0:Int),bs [],([]:List dF),())).2.2.2.1,(List.getD b d.toNat ((0:Int),(0:Int),(0:Int),bs [],([]:List dF),())).2.2.2.2.1,())]:List aF))*64<=140737488355328 then g (a++([((List.getD b d.toNat (0,0,0,bs [],[],())).1,(List.getD b d.toNat (0,0,0,bs [],[],())).2.1,(List.getD b d.toNat (0,0,0,bs [],[],())).2.2.1,(List.getD b d.toNat (0,0,0,bs [],[],())).2.2.2.1,(List.getD b d.toNat (0,0,0,bs [],[],())).2.2.2.2.1,())]:List aF)) b c (zW zI (d+1)) e f else none else none) else h a e f
def Yi{R:Type}(a:bR)(b c:ar)(d:ar->Option R):Option R:=
 bif List.length b.2.2.1*8<=140737488355328 then bif List.length b.2.2.2.1*24<=140737488355328 then d (b.1,(b.2.1.1,a,()),b.2.2.1,b.2.2.2.1,()) else none else none
def RE:Nat->bR->bR->Int->Int->ar->ar->Option (bR×ar×ar)
 |0,_,_,_,_,_,_=>none
 |k+1,v0,v1,v2,v3,v4,v5=>Es v0 v1 v2 v3 v4 v5 (fun a0 a1 a2 a3 a4 a5=>RE k a0 a1 a2 a3 a4 a5) (fun a0 a1 a2=>some (a0,a1,a2))
def IC(a:ar):Option ar:=
 Yh a (fun a0 a1 a2 a3 a4 a5=>(RE ag a0 a1 a2 a3 a4 a5).bind fun e=>Yi e.1 e.2.1 e.2.2 (fun a0=>some a0))
def Ye{R:Type}(a:aA)(b:Int->Option R)(c:Int->aA->(aA×(Option ap×Option ap)×Int)->Option R):Option R:=
 (qZ a).bind fun r1=>bif !decide (r1.1=0) then b 1 else c 0 a (a,((none,none),0))
def HC{R:Type}(a:Int)(b:aA)(c:(aA×(Option ap×Option ap)×Int))(d:Int->aA->(aA×(Option ap×Option ap)×Int)->Option R)(e:(aA×(Option ap×Option ap)×Int)->Option R):Option R:=
 bif a<2 then zd a 2 ((IC (List.getD b.1 a.toNat ((0,0,[],()),([],[],()),[],[],()))).bind fun r2=>zd a 2 ((Is b.2.1).bind fun r3=>Sum.elim (fun(sB:Int)=>zd a 2 (d (zW zI (a+1)) b ((List.set c.1.1 a.toNat r2,c.1.2.1,()),(fN a.toNat none c.2.1,c.2.2)))) (fun(sB:tP)=>zd a 2 (d (zW zI (a+1)) b ((List.set c.1.1 a.toNat r2,c.1.2.1,()),(fN a.toNat (some sB.2) c.2.1,c.2.2)))) r3)) else e c
def Er{R:Type}(a:(aA×(Option ap×Option ap)×Int))(b:Int->(aA×(Option ap×Option ap)×Int)->Option R):Option R:=
 b 0 a
def F8:Nat->Int->aA->(aA×(Option ap×Option ap)×Int)->Option (aA×(Option ap×Option ap)×Int)
 |0,_,_,_=>none
 |k+1,v0,v1,v2=>HC v0 v1 v2 (fun a0 a1 a2=>F8 k a0 a1 a2) (fun a0=>some a0)
def yD(a:aA):Option (Sum Int (Int×(aA×(Option ap×Option ap)×Int))):=
 Ye a (fun a0=>some (.inl a0)) (fun a0 a1 a2=>(F8 ag a0 a1 a2).bind fun e=>Er e (fun a0 a1=>some (.inr (a0,a1))))
def Yf{R:Type}(a:Int)(b:Bool->Option R):Option R:=
 bif a=0 then b true else b (decide (a=1))
def BW(a:Int):Option Bool:=
 Yf a (fun a0=>some a0)
def Yc{R:Type}(a:(aA×(Option ap×Option ap)×Int))(b:Int)(c:ByteArray)(d:lV->(aA×(Option ap×Option ap)×Int)->Option R):Option R:=
 (tu a.1 b c).bind fun r1=>bif r1.1=3 then d (b,r1.1,bs [],zW zI (a.2.2+1),()) (a.1,(a.2.1,zW zI (a.2.2+1))) else bif r1.1=1 then(BV r1.2).bind fun r2=>d (zW zI (1-b),r1.1,r2.1,a.2.2,()) a else(BV r1.2).bind fun r3=>d (b,r1.1,r3.1,a.2.2,()) a
def Gl(a:(aA×(Option ap×Option ap)×Int))(b:Int)(c:ByteArray):Option (lV×(aA×(Option ap×Option ap)×Int)):=
 Yc a b c (fun a0 a1=>some (a0,a1))
def X8{R:Type}(a:(aA×(Option ap×Option ap)×Int))(b:bd)(c:ct->(aA×(Option ap×Option ap)×Int)->Option R)(d:ct->Bool->(List ByteArray)->Int->Int->(aA×(Option ap×Option ap)×Int)->bd->Option R):Option R:=
 (BW b.1).bind fun r1=>bif !r1 then c [] a else zd b.1 2 ((getM b.1.toNat a.2.1).bind fun m2=>(BU m2 b.2.1).bind fun r3=>d [] r3.2.1 r3.1 ((List.length r3.1):Int) 0 (a.1,(fN b.1.toNat (some r3.2.2) a.2.1,a.2.2)) b)
def En{R:Type}(a:ct)(b:Bool)(c:(List ByteArray))(d e:Int)(f:(aA×(Option ap×Option ap)×Int))(g:bd)(h:ct->Bool->(List ByteArray)->Int->Int->(aA×(Option ap×Option ap)×Int)->bd->Option R)(i:ct->Bool->(aA×(Option ap×Option ap)×Int)->bd->Option R):Option R:=
 bif e<d then zd e (List.length c) ((Gl f g.1 (List.getD c e.toNat (bs []))).bind fun r4=>bif(List.length a+List.length ([r4.1]:List lV))*40<=140737488355328 then h (a++([r4.1]:List lV)) b c d (zW zI (e+1)) r4.2 g else none) else i a b f g
def RC{R:Type}(a:ct)(b:Bool)(c:(aA×(Option ap×Option ap)×Int))(d:bd)(e:ct->(aA×(Option ap×Option ap)×Int)->Option R):Option R:=
 bif b then bif(List.length a+List.length ([(d.1,(4:Int),bs [],c.2.2,())]:List lV))*40<=140737488355328 then e (a++([(d.1,4,bs [],c.2.2,())]:List lV)) c else none else e a c
def HB:Nat->ct->Bool->(List ByteArray)->Int->Int->(aA×(Option ap×Option ap)×Int)->bd->Option (ct×Bool×(aA×(Option ap×Option ap)×Int)×bd)
 |0,_,_,_,_,_,_,_=>none
 |k+1,v0,v1,v2,v3,v4,v5,v6=>En v0 v1 v2 v3 v4 v5 v6 (fun a0 a1 a2 a3 a4 a5 a6=>HB k a0 a1 a2 a3 a4 a5 a6) (fun a0 a1 a2 a3=>some (a0,a1,a2,a3))
def Gk(a:(aA×(Option ap×Option ap)×Int))(b:bd):Option (ct×(aA×(Option ap×Option ap)×Int)):=
 X8 a b (fun a0 a1=>some (a0,a1)) (fun a0 a1 a2 a3 a4 a5 a6=>(HB ag a0 a1 a2 a3 a4 a5 a6).bind fun e=>RC e.1 e.2.1 e.2.2.1 e.2.2.2 (fun a0 a1=>some (a0,a1)))
def Yb{R:Type}(a:(aA×(Option ap×Option ap)×Int))(b:ak)(c:ct->ak->Int->Int->(aA×(Option ap×Option ap)×Int)->Option R):Option R:=
 c [] b ((List.length b):Int) 0 a
def Eo{R:Type}(a:ct)(b:ak)(c d:Int)(e:(aA×(Option ap×Option ap)×Int))(f:ct->ak->Int->Int->(aA×(Option ap×Option ap)×Int)->Option R)(g:ct->(aA×(Option ap×Option ap)×Int)->Option R):Option R:=
 bif d<c then zd d (List.length b) ((Gk e (List.getD b d.toNat (0,bs [],()))).bind fun r1=>bif(List.length a+List.length r1.1)*40<=140737488355328 then f (a++r1.1) b c (zW zI (d+1)) r1.2 else none) else g a e
def Ep{R:Type}(a:ct)(b:(aA×(Option ap×Option ap)×Int))(c:ct->(aA×(Option ap×Option ap)×Int)->Option R):Option R:=
 c a b
def RD:Nat->ct->ak->Int->Int->(aA×(Option ap×Option ap)×Int)->Option (ct×(aA×(Option ap×Option ap)×Int))
 |0,_,_,_,_,_=>none
 |k+1,v0,v1,v2,v3,v4=>Eo v0 v1 v2 v3 v4 (fun a0 a1 a2 a3 a4=>RD k a0 a1 a2 a3 a4) (fun a0 a1=>some (a0,a1))
def yC(a:(aA×(Option ap×Option ap)×Int))(b:ak):Option (ct×(aA×(Option ap×Option ap)×Int)):=
 Yb a b (fun a0 a1 a2 a3 a4=>(RD ag a0 a1 a2 a3 a4).bind fun e=>Ep e.1 e.2 (fun a0 a1=>some (a0,a1)))
def Em{R:Type}(a:(aA×(Option ap×Option ap)×Int))(b:Int->(aA×(Option ap×Option ap)×Int)->Option R):Option R:=
 b a.2.2 a
def R7(a:(aA×(Option ap×Option ap)×Int)):Option (Int×(aA×(Option ap×Option ap)×Int)):=
 Em a (fun a0 a1=>some (a0,a1))
def Ek{R:Type}(a:(aA×(Option ap×Option ap)×Int))(b:Int)(c:Bool->(aA×(Option ap×Option ap)×Int)->Option R):Option R:=
 (BW b).bind fun r1=>bif r1 then zd b 2 ((getM b.toNat a.2.1).bind fun m2=>(Y3 m2).bind fun r3=>c r3.1 (a.1,(fN b.toNat (some r3.2) a.2.1,a.2.2))) else c false a
def Gj(a:(aA×(Option ap×Option ap)×Int))(b:Int):Option (Bool×(aA×(Option ap×Option ap)×Int)):=
 Ek a b (fun a0 a1=>some (a0,a1))
def X9{R:Type}(a:(aA×(Option ap×Option ap)×Int))(b:Int)(c:Int->(aA×(Option ap×Option ap)×Int)->Option R):Option R:=
 (BW b).bind fun r1=>bif !r1 then c 0 a else zd b 2 ((getM b.toNat a.2.1).bind fun m2=>(Y4 m2).bind fun r3=>c r3.1 (a.1,(fN b.toNat (some r3.2) a.2.1,a.2.2)))
def vl(a:(aA×(Option ap×Option ap)×Int))(b:Int):Option (Int×(aA×(Option ap×Option ap)×Int)):=
 X9 a b (fun a0 a1=>some (a0,a1))
def ES{R:Type}(a:(List Int)->Option R):Option R:=
 a ([2,3,4,7,11,12,14,23,32,35,37,38,41,42,49,52,55,64,70,102,128]:List Int)
def Y8:Option (List Int):=
 ES (fun a0=>some a0)
def EW{R:Type}(a:xe->Option R):Option R:=
 a ([([2,1,2,12,19,1,2,12,19]:List Int),([3,1,1,6,6,1,1,6,6]:List Int),([4,1,1,12,12,1,1,12,12]:List Int),([7,1,1,10,10,1,1,10,10]:List Int),([11,1,1,6,6,1,1,6,6]:List Int),([12,1,1,6,6,1,1,12,12]:List Int),([13,1,1,4,4,0,0,0,0]:List Int),([14,1,1,4,4,1,1,4,4]:List Int),([18,1,1,4,4,0,0,0,0]:List Int),([22,1,1,3,3,3,1,12,12]:List Int),([23,1,1,3,3,1,1,3,3]:List Int),([26,0,0,0,0,1,1,4,4]:List Int),([32,1,2,1,11,1,2,1,11]:List Int),([35,4,2,1,37,4,2,1,37]:List Int),([37,3,1,12,12,3,1,12,12]:List Int),([38,3,1,6,6,3,1,6,6]:List Int),([39,3,1,2,2,1,1,3,3]:List Int),([41,4,1,8,8,4,1,8,8]:List Int),([42,4,1,15,15,4,1,15,15]:List Int),([43,4,1,40,40,4,2,1,99]:List Int),([48,4,3,1,999,4,3,1,999]:List Int),([49,1,1,3,3,1,1,3,3]:List Int),([52,5,1,8,8,5,1,8,8]:List Int),([55,6,3,1,255,6,3,1,255]:List Int),([64,5,1,8,8,5,1,8,8]:List Int),([70,1,1,3,3,1,1,3,3]:List Int),([90,1,1,42,42,0,0,0,0]:List Int),([102,4,2,1,28,4,2,1,28]:List Int),([128,5,1,8,8,5,1,8,8]:List Int)]:List (List Int))
def Y9:Option xe:=
 EW (fun a0=>some a0)
def ET{R:Type}(a:Int)(b:Int->xe->Int->af->af->Option R):Option R:=
 Y9.bind fun r1=>b a r1 0 (0,0,[],()) (zW zI (a+1),a,[],())
def EU{R:Type}(a:Int)(b:xe)(c:Int)(d e:af)(f:Int->xe->Int->af->af->Option R)(g:af->af->Option R):Option R:=
 bif c<((List.length b):Int) then zd c (List.length b) (bif 0<=zW zI (5+zW zI (4*a)) then bif zW zI (5+zW zI (4*a))<=(((List.length (List.getD b c.toNat ([]:List Int))):Nat):Int) then bif 0<=zW zI (1+zW zI (4*a)) then bif zW zI (1+zW zI (4*a))<=(((zW zI (5+zW zI (4*a))).toNat:Nat):Int) then zd 0 (List.length (List.drop (zW zI ((1:Int)+zW zI ((4:Int)*a))).toNat (List.take (zW zI ((5:Int)+zW zI ((4:Int)*a))).toNat (List.getD b c.toNat ([]:List Int))))) (bif 0<List.getD (List.drop (zW zI (1+zW zI (4*a))).toNat (List.take (zW zI (5+zW zI (4*a))).toNat (List.getD b c.toNat []))) ((0:Int)).toNat 0 then zd c (List.length b) (zd 0 (List.length (List.getD b c.toNat ([]:List Int))) (zd 0 (List.length (List.drop (zW zI ((1:Int)+zW zI ((4:Int)*a))).toNat (List.take (zW zI ((5:Int)+zW zI ((4:Int)*a))).toNat (List.getD b c.toNat ([]:List Int))))) (zd 1 (List.length (List.drop (zW zI ((1:Int)+zW zI ((4:Int)*a))).toNat (List.take (zW zI ((5:Int)+zW zI ((4:Int)*a))).toNat (List.getD b c.toNat ([]:List Int))))) (zd 2 (List.length (List.drop (zW zI ((1:Int)+zW zI ((4:Int)*a))).toNat (List.take (zW zI ((5:Int)+zW zI ((4:Int)*a))).toNat (List.getD b c.toNat ([]:List Int))))) (zd 3 (List.length (List.drop (zW zI ((1:Int)+zW zI ((4:Int)*a))).toNat (List.take (zW zI ((5:Int)+zW zI ((4:Int)*a))).toNat (List.getD b c.toNat ([]:List Int))))) (bif(List.length e.2.2.1+List.length ([(List.getD (List.getD b c.toNat ([]:List Int)) ((0:Int)).toNat (0:Int),List.getD (List.drop (zW zI ((1:Int)+zW zI ((4:Int)*a))).toNat (List.take (zW zI ((5:Int)+zW zI ((4:Int)*a))).toNat (List.getD b c.toNat ([]:List Int)))) ((0:Int)).toNat (0:Int),List.getD (List.drop (zW zI ((1:Int)+zW zI ((4:Int)*a))).toNat (List.take (zW zI ((5:Int)+zW zI ((4:Int)*a))).toNat (List.getD b c.toNat ([]:List Int)))) ((1:Int)).toNat (0:Int),List.getD (List.drop (zW zI ((1:Int)+zW zI ((4:Int)*a))).toNat (List.take (zW zI ((5:Int)+zW zI ((4:Int)*a))).toNat (List.getD b c.toNat ([]:List Int)))) ((2:Int)).toNat (0:Int),List.getD (List.drop (zW zI ((1:Int)+zW zI ((4:Int)*a))).toNat (List.take (zW zI ((5:Int)+zW zI ((4:Int)*a))).toNat (List.getD b c.toNat ([]:List Int)))) ((3:Int)).toNat (0:Int),())]:List aS))*40<=140737488355328 then f a b (zW zI (c+1)) d (e.1,e.2.1,e.2.2.1++([(List.getD (List.getD b c.toNat []) ((0:Int)).toNat 0,List.getD (List.drop (zW zI (1+zW zI (4*a))).toNat (List.take (zW zI (5+zW zI (4*a))).toNat (List.getD b c.toNat []))) ((0:Int)).toNat 0,List.getD (List.drop (zW zI (1+zW zI (4*a))).toNat (List.take (zW zI (5+zW zI (4*a))).toNat (List.getD b c.toNat []))) ((1:Int)).toNat 0,List.getD (List.drop (zW zI (1+zW zI (4*a))).toNat (List.take (zW zI (5+zW zI (4*a))).toNat (List.getD b c.toNat []))) ((2:Int)).toNat 0,List.getD (List.drop (zW zI (1+zW zI (4*a))).toNat (List.take (zW zI (5+zW zI (4*a))).toNat (List.getD b c.toNat []))) ((3:Int)).toNat 0,())]:List aS),()) else none)))))) else f a b (zW zI (c+1)) d e) else none else none else none else none) else g d e
def EV{R:Type}(a b:af)(c:af->Option R):Option R:=
 c b
def YM:Nat->Int->xe->Int->af->af->Option (af×af)
 |0,_,_,_,_,_=>none
 |k+1,v0,v1,v2,v3,v4=>EU v0 v1 v2 v3 v4 (fun a0 a1 a2 a3 a4=>YM k a0 a1 a2 a3 a4) (fun a0 a1=>some (a0,a1))
def R8(a:Int):Option af:=
 ET a (fun a0 a1 a2 a3 a4=>(YM ag a0 a1 a2 a3 a4).bind fun e=>EV e.1 e.2 (fun a0=>some a0))
def Yo{R:Type}(a:Int)(b:Bool->Option R):Option R:=
 bif 48<=a then b (decide (a<=57)) else b false
def II(a:Int):Option Bool:=
 Yo a (fun a0=>some a0)
def Ym{R:Type}(a:ByteArray)(b:ByteArray->Int->Option R):Option R:=
 b a 0
def Yn{R:Type}(a:ByteArray)(b:Int)(c:Bool->Option R)(d:ByteArray->Int->Option R)(e:Option R):Option R:=
 bif b<(a.size:Int) then zd b a.size ((II (ze a b.toNat)).bind fun r1=>bif !r1 then c false else d a (zW zI (b+1))) else e
def Eu{R:Type}(a:Bool)(b:Bool->Option R):Option R:=
 b a
def z162{R:Type}(a:Bool->Option R):Option R:=
 a true
def HD:Nat->ByteArray->Int->Option (Sum Bool Unit)
 |0,_,_=>none
 |k+1,v0,v1=>Yn v0 v1 (fun a0=>some (.inl a0)) (fun a0 a1=>HD k a0 a1) (some (.inr ()))
def Gm(a:ByteArray):Option Bool:=
 Ym a (fun a0 a1=>(HD ag a0 a1).bind fun e=>Sum.elim (fun(we:Bool)=>Eu we (fun a0=>some a0)) (fun(we:Unit)=>z162 (fun a0=>some a0)) e)
def Yq{R:Type}(a:ByteArray)(b:Int->Bool->Option R)(c:ByteArray->Int->Int->Option R):Option R:=
 bif(a.size:Int)<1 then b 0 false else bif 18<(a.size:Int) then b 0 false else(Gm a).bind fun r1=>bif !r1 then b 0 false else c a 0 0
def Yr{R:Type}(a:ByteArray)(b c:Int)(d:ByteArray->Int->Int->Option R)(e:Int->Option R):Option R:=
 bif c<(a.size:Int) then zd c a.size (d a (zW zI (zW zI (zW zI (10*b)+zW zI (ze a c.toNat))-48)) (zW zI (c+1))) else e b
def Ew{R:Type}(a:Int)(b:Int->Bool->Option R):Option R:=
 b a true
def HE:Nat->ByteArray->Int->Int->Option Int
 |0,_,_,_=>none
 |k+1,v0,v1,v2=>Yr v0 v1 v2 (fun a0 a1 a2=>HE k a0 a1 a2) (fun a0=>some a0)
def IK(a:ByteArray):Option (Int×Bool):=
 Yq a (fun a0 a1=>some (a0,a1)) (fun a0 a1 a2=>(HE ag a0 a1 a2).bind fun e=>Ew e (fun a0 a1=>some (a0,a1)))
def Yz{R:Type}(a:(List Int))(b:Int)(c:(List Int)->Int->Int->Option R):Option R:=
 c a b 0
def RG{R:Type}(a:(List Int))(b c:Int)(d:Bool->Option R)(e:(List Int)->Int->Int->Option R)(f:Option R):Option R:=
 bif c<((List.length a):Int) then zd c (List.length a) (bif List.getD a c.toNat 0=b then d true else e a b (zW zI (c+1))) else f
def EE{R:Type}(a:Bool)(b:Bool->Option R):Option R:=
 b a
def EF{R:Type}(a:Bool->Option R):Option R:=
 a false
def Ga:Nat->(List Int)->Int->Int->Option (Sum Bool Unit)
 |0,_,_,_=>none
 |k+1,v0,v1,v2=>RG v0 v1 v2 (fun a0=>some (.inl a0)) (fun a0 a1 a2=>Ga k a0 a1 a2) (some (.inr ()))
def IP(a:(List Int))(b:Int):Option Bool:=
 Yz a b (fun a0 a1 a2=>(Ga ag a0 a1 a2).bind fun e=>Sum.elim (fun(we:Bool)=>EE we (fun a0=>some a0)) (fun(we:Unit)=>EF (fun a0=>some a0)) e)
def Yu{R:Type}(a b:Int)(c:Bool->Option R):Option R:=
 bif 48<=b then bif 65<=b then bif b<=90 then bif a=1 then c (decide (b<=57)) else bif a=2 then c true else bif a=3 then bif b<=57 then c true else c true else bif a=4 then bif 32<=b then c (decide (b<=126)) else c false else bif a=5 then c true else c (decide (a=6)) else bif 97<=b then bif a=1 then c (decide (b<=57)) else bif a=2 then c (decide (b<=122)) else bif a=3 then bif b<=57 then c true else c (decide (b<=122)) else bif a=4 then bif 32<=b then c (decide (b<=126)) else c false else bif a=5 then c true else c (decide (a=6)) else bif a=1 then c (decide (b<=57)) else bif a=2 then c false else bif a=3 then bif b<=57 then c true else c false else bif a=4 then bif 32<=b then c (decide (b<=126)) else c false else bif a=5 then c true else c (decide (a=6)) else bif 97<=b then bif a=1 then c (decide (b<=57)) else bif a=2 then c (decide (b<=122)) else bif a=3 then bif b<=57 then c true else c (decide (b<=122)) else bif a=4 then bif 32<=b then c (decide (b<=126)) else c false else bif a=5 then c true else c (decide (a=6)) else bif a=1 then c (decide (b<=57)) else bif a=2 then c false else bif a=3 then bif b<=57 then c true else c false else bif a=4 then bif 32<=b then c (decide (b<=126)) else c false else bif a=5 then c true else c (decide (a=6)) else bif 65<=b then bif b<=90 then bif a=1 then c false else bif a=2 then c true else bif a=3 then c true else bif a=4 then bif 32<=b then c (decide (b<=126)) else c false else bif a=5 then c true else c (decide (a=6)) else bif 97<=b then bif a=1 then c false else bif a=2 then c (decide (b<=122)) else bif a=3 then c (decide (b<=122)) else bif a=4 then bif 32<=b then c (decide (b<=126)) else c false else bif a=5 then c true else c (decide (a=6)) else bif a=1 then c false else bif a=2 then c false else bif a=3 then c false else bif a=4 then bif 32<=b then c (decide (b<=126)) else c false else bif a=5 then c true else c (decide (a=6)) else bif 97<=b then bif a=1 then c false else bif a=2 then c (decide (b<=122)) else bif a=3 then c (decide (b<=122)) else bif a=4 then bif 32<=b then c (decide (b<=126)) else c false else bif a=5 then c true else c (decide (a=6)) else bif a=1 then c false else bif a=2 then c false else bif a=3 then c false else bif a=4 then bif 32<=b then c (decide (b<=126)) else c false else bif a=5 then c true else c (decide (a=6))
def yF(a b:Int):Option Bool:=
 Yu a b (fun a0=>some a0)
def Yt{R:Type}(a:Int)(b:ByteArray)(c:Int->ByteArray->Int->Option R):Option R:=
 c a b 0
def RF{R:Type}(a:Int)(b:ByteArray)(c:Int)(d:Int->Option R)(e:Int->ByteArray->Int->Option R)(f:Option R):Option R:=
 bif c<(b.size:Int) then zd c b.size ((yF a (ze b c.toNat)).bind fun r1=>bif !r1 then d c else e a b (zW zI (c+1))) else f
def Ez{R:Type}(a:Int)(b:Int->Option R):Option R:=
 b a
def z167{R:Type}(a:Int->Option R):Option R:=
 a (-1:Int)
def F9:Nat->Int->ByteArray->Int->Option (Sum Int Unit)
 |0,_,_,_=>none
 |k+1,v0,v1,v2=>RF v0 v1 v2 (fun a0=>some (.inl a0)) (fun a0 a1 a2=>F9 k a0 a1 a2) (some (.inr ()))
def IL(a:Int)(b:ByteArray):Option Int:=
 Yt a b (fun a0 a1 a2=>(F9 ag a0 a1 a2).bind fun e=>Sum.elim (fun(we:Int)=>Ez we (fun a0=>some a0)) (fun(we:Unit)=>z167 (fun a0=>some a0)) e)
def Yx{R:Type}(a b:Int)(c:Bool->Option R)(d:Int->Int->Int->Option R):Option R:=
 bif a<1 then c false else bif 6<a then c false else bif b<1 then c false else bif 6<b then c false else d a b 0
def EA{R:Type}(a b c:Int)(d:Bool->Option R)(e:Int->Int->Int->Option R)(f:Option R):Option R:=
 bif c<256 then(yF b (zW zU c)).bind fun r1=>bif r1 then(yF a (zW zU c)).bind fun r2=>bif !r2 then d false else e a b (zW zI (c+1)) else e a b (zW zI (c+1)) else f
def EB{R:Type}(a:Bool)(b:Bool->Option R):Option R:=
 b a
def EC{R:Type}(a:Bool->Option R):Option R:=
 a true
def Yw:Nat->Int->Int->Int->Option (Sum Bool Unit)
 |0,_,_,_=>none
 |k+1,v0,v1,v2=>EA v0 v1 v2 (fun a0=>some (.inl a0)) (fun a0 a1 a2=>Yw k a0 a1 a2) (some (.inr ()))
def Gn(a b:Int):Option Bool:=
 Yx a b (fun a0=>some a0) (fun a0 a1 a2=>(Yw ag a0 a1 a2).bind fun e=>Sum.elim (fun(we:Bool)=>EB we (fun a0=>some a0)) (fun(we:Unit)=>EC (fun a0=>some a0)) e)
def EG{R:Type}(a:Int)(b:Int->Option R):Option R:=
 bif a=0 then b 0 else bif Int.tmod (zW zU (Int.tdiv a 32)) 2=1 then b 0 else bif Int.tmod a 32=31 then b 2 else b 1
def yH(a:Int):Option Int:=
 EG a (fun a0=>some a0)
def RH{R:Type}(a:ByteArray)(b:Int)(c:Int->Int->Int->Option R):Option R:=
 bif b<0 then c 0 0 1 else bif(a.size:Int)<b then c 0 0 1 else bif b=(a.size:Int) then c 0 0 2 else zd b a.size ((yH (ze a b.toNat)).bind fun r1=>bif r1=0 then c 0 0 13 else bif r1=1 then zd b a.size (c (zW zI (ze a b.toNat)) (zW zI (b+1)) 0) else bif zW zI ((a.size:Int)-b)<2 then c 0 0 2 else zd (zW zI (b+1)) a.size (bif ze a (zW zI (b+(1:Int))).toNat=0 then c 0 0 13 else zd (zW zI (b+1)) a.size (bif 127<ze a (zW zI (b+(1:Int))).toNat then c 0 0 13 else zd b a.size (zd (zW zI (b+1)) a.size (c (zW zI (zW zI (256*zW zI (ze a b.toNat))+zW zI (ze a (zW zI (b+(1:Int))).toNat))) (zW zI (b+2)) 0)))))
def yI(a:ByteArray)(b:Int):Option jw:=
 RH a b (fun a0 a1 a2=>some (a0,a1,a2))
def RI{R:Type}(a:ByteArray)(b:Int)(c:Int->Int->Int->Option R):Option R:=
 bif b<0 then c 0 0 1 else bif(a.size:Int)<b then c 0 0 1 else bif b=(a.size:Int) then c 0 0 2 else zd b a.size (bif zW zI (ze a b.toNat)<128 then c (zW zI (ze a b.toNat)) (zW zI (b+1)) 0 else bif !decide (zW zI (ze a b.toNat)=129) then bif !decide (zW zI (ze a b.toNat)=130) then c 0 0 14 else bif zW zI ((a.size:Int)-b)<zW zI (zW zI (ze a b.toNat)-127) then c 0 0 2 else bif zW zI (ze a b.toNat)=129 then zd (zW zI (b+1)) a.size (bif ze a (zW zI (b+(1:Int))).toNat<128 then c 0 0 14 else zd (zW zI (b+1)) a.size (c (zW zI (ze a (zW zI (b+(1:Int))).toNat)) (zW zI (b+2)) 0)) else zd (zW zI (b+1)) a.size (bif ze a (zW zI (b+(1:Int))).toNat=0 then c 0 0 14 else zd (zW zI (b+1)) a.size (zd (zW zI (b+2)) a.size (c (zW zI (zW zI (256*zW zI (ze a (zW zI (b+(1:Int))).toNat))+zW zI (ze a (zW zI (b+(2:Int))).toNat))) (zW zI (b+3)) 0))) else bif zW zI ((a.size:Int)-b)<zW zI (zW zI (ze a b.toNat)-127) then c 0 0 2 else bif zW zI (ze a b.toNat)=129 then zd (zW zI (b+1)) a.size (bif ze a (zW zI (b+(1:Int))).toNat<128 then c 0 0 14 else zd (zW zI (b+1)) a.size (c (zW zI (ze a (zW zI (b+(1:Int))).toNat)) (zW zI (b+2)) 0)) else zd (zW zI (b+1)) a.size (bif ze a (zW zI (b+(1:Int))).toNat=0 then c 0 0 14 else zd (zW zI (b+1)) a.size (zd (zW zI (b+2)) a.size (c (zW zI (zW zI (256*zW zI (ze a (zW zI (b+(1:Int))).toNat))+zW zI (ze a (zW zI (b+(2:Int))).toNat))) (zW zI (b+3)) 0))))
def yJ(a:ByteArray)(b:Int):Option jw:=
 RI a b (fun a0 a1 a2=>some (a0,a1,a2))
def YC{R:Type}(a:ak)(b c:Int)(d:ak->Int->Int->Int->Option R):Option R:=
 d a b c 0
def RL{R:Type}(a:ak)(b c d:Int)(e:Bool->Option R)(f:ak->Int->Int->Int->Option R)(g:Option R):Option R:=
 bif d<b then zd d (List.length a) (bif(List.getD a d.toNat (0,bs [],())).1=c then e true else f a b c (zW zI (d+1))) else g
def EL{R:Type}(a:Bool)(b:Bool->Option R):Option R:=
 b a
def EM{R:Type}(a:Bool->Option R):Option R:=
 a false
def Gb:Nat->ak->Int->Int->Int->Option (Sum Bool Unit)
 |0,_,_,_,_=>none
 |k+1,v0,v1,v2,v3=>RL v0 v1 v2 v3 (fun a0=>some (.inl a0)) (fun a0 a1 a2 a3=>Gb k a0 a1 a2 a3) (some (.inr ()))
def IX(a:ak)(b c:Int):Option Bool:=
 YC a b c (fun a0 a1 a2 a3=>(Gb ag a0 a1 a2 a3).bind fun e=>Sum.elim (fun(we:Bool)=>EL we (fun a0=>some a0)) (fun(we:Unit)=>EM (fun a0=>some a0)) e)
def RJ{R:Type}(a:ByteArray)(b:ByteArray->ak->Int->Option R):Option R:=
 b a [] 0
def RK{R:Type}(a:ByteArray)(b:ak)(c:Int)(d:ak->Int->Int->ak->Option R)(e:ByteArray->ak->Int->Option R)(f:ak->Option R):Option R:=
 bif c<(a.size:Int) then(yI a c).bind fun r1=>bif !decide (r1.2.2=0) then d [] r1.2.2 c b else(yJ a r1.2.1).bind fun r2=>bif !decide (r2.2.2=0) then d [] r2.2.2 r1.2.1 b else bif zW zI ((a.size:Int)-r2.2.1)<r2.1 then d [] 2 (a.size:Int) b else(IX b ((List.length b):Int) r1.1).bind fun r3=>bif r3 then d [] 10 c b else bif 0<=zW zI (r2.2.1+r2.1) then bif zW zI (r2.2.1+r2.1)<=(a.size:Int) then bif 0<=r2.2.1 then bif r2.2.1<=(((zW zI (r2.2.1+r2.1)).toNat:Nat):Int) then bif(List.length b+List.length ([(r1.1,a.extract r2.2.1.toNat (zW zI (r2.2.1+r2.1)).toNat,())]:List bd))*24<=140737488355328 then e a (b++([(r1.1,a.extract r2.2.1.toNat (zW zI (r2.2.1+r2.1)).toNat,())]:List bd)) (zW zI (r2.2.1+r2.1)) else none else none else none else none else none else f b
def EI{R:Type}(a:ak)(b c:Int)(d:ak)(e:ak->Int->Int->Option R):Option R:=
 e a b c
def EJ{R:Type}(a:ak)(b:ak->Int->Int->Option R):Option R:=
 b a 0 0
def BH:Nat->ByteArray->ak->Int->Option (Sum rj ak)
 |0,_,_,_=>none
 |k+1,v0,v1,v2=>RK v0 v1 v2 (fun a0 a1 a2 a3=>some (.inl (a0,a1,a2,a3))) (fun a0 a1 a2=>BH k a0 a1 a2) (fun a0=>some (.inr a0))
def yK(a:ByteArray):Option (Sum jx jx):=
 RJ a (fun a0 a1 a2=>(BH ag a0 a1 a2).bind fun e=>Sum.elim (fun(we:rj)=>EI we.1 we.2.1 we.2.2.1 we.2.2.2 (fun a0 a1 a2=>some (.inl (a0,a1,a2)))) (fun(we:ak)=>EJ we (fun a0 a1 a2=>some (.inr (a0,a1,a2)))) e)
def YD{R:Type}(a:aS)(b:Int->Option R):Option R:=
 bif a.1<2 then b 1 else bif 128<a.1 then b 1 else bif a.2.1<1 then b 6 else bif 6<a.2.1 then b 6 else bif a.2.2.1<1 then b 3 else bif 3<a.2.2.1 then b 3 else bif a.2.2.1=2 then bif a.2.2.2.1<1 then b 5 else bif a.2.2.2.2.1<a.2.2.2.1 then b 5 else bif 99<a.2.2.2.2.1 then b 5 else bif a.2.2.1=1 then bif !decide (a.2.2.2.1=a.2.2.2.2.1) then b 5 else bif a.2.2.1=1 then bif a.2.1=6 then b 13 else b 0 else b 0 else bif a.2.2.1=1 then bif a.2.1=6 then b 13 else b 0 else b 0 else bif a.2.2.2.1<1 then b 5 else bif a.2.2.2.2.1<a.2.2.2.1 then b 5 else bif 999<a.2.2.2.2.1 then b 5 else bif a.2.2.1=1 then bif !decide (a.2.2.2.1=a.2.2.2.2.1) then b 5 else bif a.2.2.1=1 then bif a.2.1=6 then b 13 else b 0 else b 0 else bif a.2.2.1=1 then bif a.2.1=6 then b 13 else b 0 else b 0
def yL(a:aS):Option Int:=
 YD a (fun a0=>some a0)
def HF{R:Type}(a:aS)(b:ByteArray)(c:Int->Option R):Option R:=
 (yL a).bind fun r1=>bif !decide (r1=0) then c 1 else bif(b.size:Int)<a.2.2.2.1 then c 5 else bif a.2.2.2.2.1<(b.size:Int) then c 5 else(IL a.2.1 b).bind fun r2=>bif 0<=r2 then c 6 else bif a.2.1=6 then(yK b).bind fun r3=>Sum.elim (fun(sB:jx)=>bif !decide (sB.2.1=0) then c 13 else c 0) (fun(sB:jx)=>bif !decide (sB.2.1=0) then c 13 else c 0) r3 else c 0
def mO(a:aS)(b:ByteArray):Option Int:=
 HF a b (fun a0=>some a0)
def HG{R:Type}(a b:aS)(c:Bool->Option R):Option R:=
 (yL a).bind fun r1=>bif !decide (r1=0) then c false else(yL b).bind fun r2=>bif !decide (r2=0) then c false else bif b.2.2.2.1<a.2.2.2.1 then c false else bif a.2.2.2.2.1<b.2.2.2.2.1 then c false else bif a.2.1=5 then c true else bif a.2.1=6 then c (decide (a.2.1=b.2.1)) else bif b.2.1=6 then c (decide (a.2.1=b.2.1)) else(Gn a.2.1 b.2.1).bind fun r3=>c r3
def vm(a b:aS):Option Bool:=
 HG a b (fun a0=>some a0)
def YH{R:Type}(a:af)(b:af->Option R):Option R:=
 bif(List.length ([]:List aS)+List.length a.2.2.1)*40<=140737488355328 then b (a.1,a.2.1,[]++a.2.2.1,()) else none
def I3(a:af):Option af:=
 YH a (fun a0=>some a0)
def HH{R:Type}(a:af)(b:Int->Int->Option R)(c:Int->Int->af->Option R):Option R:=
 bif !decide (a.1=1) then bif !decide (a.1=2) then b 1 (-1:Int) else bif a.2.1<0 then b 7 (-1:Int) else bif 9<a.2.1 then b 7 (-1:Int) else c 0 0 a else bif a.2.1<0 then b 7 (-1:Int) else bif 9<a.2.1 then b 7 (-1:Int) else c 0 0 a
theorem acx{R S:Type}(F:R->Option S)(a)(b)(c):(HH a b c).bind F=HH a (fun a0 a1=>(b a0 a1).bind F) (fun a0 a1 a2=>(c a0 a1 a2).bind F):=by
 simp only[HH,aD]
def RM{R:Type}(a b:Int)(c:af)(d:Int->Int->Option R)(e:Int->Int->af->Option R)(f:Option R):Option R:=
 bif b<((List.length c.2.2.1):Int) then zd b (List.length c.2.2.1) ((yL (List.getD c.2.2.1 b.toNat (0,0,0,0,0,()))).bind fun r1=>bif !decide (r1=0) then d r1 b else zd b (List.length c.2.2.1) (bif(List.getD c.2.2.1 b.toNat (0,0,0,0,0,())).1<=a then d 11 b else zd b (List.length c.2.2.1) (e (List.getD c.2.2.1 b.toNat (0,0,0,0,0,())).1 (zW zI (b+1)) c))) else f
def YF{R:Type}(a b:Int)(c:Int->Int->Option R):Option R:=
 c a b
def YG{R:Type}(a:Int->Int->Option R):Option R:=
 a 0 0
def yi:Nat->Int->Int->af->Option (Sum (Int×Int) Unit)
 |0,_,_,_=>none
 |k+1,v0,v1,v2=>RM v0 v1 v2 (fun a0 a1=>some (.inl (a0,a1))) (fun a0 a1 a2=>yi k a0 a1 a2) (some (.inr ()))
def I2(a:af):Option (Int×Int):=
 HH a (fun a0 a1=>some (a0,a1)) (fun a0 a1 a2=>(yi ag a0 a1 a2).bind fun e=>Sum.elim (fun(we:(Int×Int))=>YF we.1 we.2 (fun a0 a1=>some (a0,a1))) (fun(we:Unit)=>YG (fun a0 a1=>some (a0,a1))) e)
def YK{R:Type}(a:af)(b:Bool->Option R):Option R:=
 (I2 a).bind fun r1=>b (decide (r1.1=0))
def BX(a:af):Option Bool:=
 YK a (fun a0=>some a0)
def YJ{R:Type}(a:af)(b:Int)(c:Int->Int->af->Option R):Option R:=
 c b 0 a
def EP{R:Type}(a b:Int)(c:af)(d:Int->Option R)(e:Int->Int->af->Option R)(f:Option R):Option R:=
 bif b<((List.length c.2.2.1):Int) then zd b (List.length c.2.2.1) (bif(List.getD c.2.2.1 b.toNat (0,0,0,0,0,())).1=a then d b else e a (zW zI (b+1)) c) else f
def EQ{R:Type}(a:Int)(b:Int->Option R):Option R:=
 b a
def ER{R:Type}(a:Int->Option R):Option R:=
 a (-1:Int)
def RN:Nat->Int->Int->af->Option (Sum Int Unit)
 |0,_,_,_=>none
 |k+1,v0,v1,v2=>EP v0 v1 v2 (fun a0=>some (.inl a0)) (fun a0 a1 a2=>RN k a0 a1 a2) (some (.inr ()))
def yN(a:af)(b:Int):Option Int:=
 YJ a b (fun a0 a1 a2=>(RN ag a0 a1 a2).bind fun e=>Sum.elim (fun(we:Int)=>EQ we (fun a0=>some a0)) (fun(we:Unit)=>ER (fun a0=>some a0)) e)
def TI{R:Type}(a:ByteArray)(b:Bool->Option R):Option R:=
 bif(a.size:Int)=4 then(Gm a).bind fun r1=>b r1 else b false
def sM(a:ByteArray):Option Bool:=
 TI a (fun a0=>some a0)
def YN{R:Type}(a:ByteArray)(b:Bool->Option R):Option R:=
 (IK a).bind fun r1=>bif r1.2 then bif(a.size:Int)=4 then bif Int.tmod (zW zI (Int.tdiv r1.1 10)) 10=0 then b true else b (decide (Int.tmod (zW zI (Int.tdiv r1.1 10)) 10=2)) else b false else b false
def Gp(a:ByteArray):Option Bool:=
 YN a (fun a0=>some a0)
def zwq{R:Type}(a:aO)(b:aO->aO->Int->Option R):Option R:=
 b a [] 0
def zwr{R:Type}(a b:aO)(c:Int)(d:aO->aO->Int->Option R)(e:aO->Option R):Option R:=
 bif c<((List.length a):Int) then zd c (List.length a) (zd c (List.length a) (bif(List.length b+List.length ([((List.getD a c.toNat (bs [],bs [],())).2.1,(List.getD a c.toNat (bs [],bs [],())).1,())]:List dF))*32<=140737488355328 then d a (b++([((List.getD a c.toNat (bs [],bs [],())).2.1,(List.getD a c.toNat (bs [],bs [],())).1,())]:List dF)) (zW zI (c+1)) else none)) else e b
def zws{R:Type}(a:aO)(b:aO->Option R):Option R:=
 b a
def TO:Nat->aO->aO->Int->Option aO
 |0,_,_,_=>none
 |k+1,v0,v1,v2=>zwr v0 v1 v2 (fun a0 a1 a2=>TO k a0 a1 a2) (fun a0=>some a0)
def sP(a:aO):Option aO:=
 zwq a (fun a0 a1 a2=>(TO ag a0 a1 a2).bind fun e=>zws e (fun a0=>some a0))
def TM{R:Type}(a:aO)(b:aO->Option R):Option R:=
 bif(List.length ([]:List dF)+List.length a)*32<=140737488355328 then b ([]++a) else none
def qP(a:aO):Option aO:=
 TM a (fun a0=>some a0)
def TQ{R:Type}(a:aO)(b:Int)(c:ByteArray)(d:aO->Int->ByteArray->Int->Option R):Option R:=
 d a b c 0
def Qp{R:Type}(a:aO)(b:Int)(c:ByteArray)(d:Int)(e:Int->Option R)(f:aO->Int->ByteArray->Int->Option R)(g:Option R):Option R:=
 bif d<b then zd d (List.length a) (bif(List.getD a d.toNat (bs [],bs [],())).1=c then e d else f a b c (zW zI (d+1))) else g
def zwu{R:Type}(a:Int)(b:Int->Option R):Option R:=
 b a
def zwv{R:Type}(a:Int->Option R):Option R:=
 a (-1:Int)
def Fz:Nat->aO->Int->ByteArray->Int->Option (Sum Int Unit)
 |0,_,_,_,_=>none
 |k+1,v0,v1,v2,v3=>Qp v0 v1 v2 v3 (fun a0=>some (.inl a0)) (fun a0 a1 a2 a3=>Fz k a0 a1 a2 a3) (some (.inr ()))
def qQ(a:aO)(b:Int)(c:ByteArray):Option Int:=
 TQ a b c (fun a0 a1 a2 a3=>(Fz ag a0 a1 a2 a3).bind fun e=>Sum.elim (fun(we:Int)=>zwu we (fun a0=>some a0)) (fun(we:Unit)=>zwv (fun a0=>some a0)) e)
def TJ{R:Type}(a:aO)(b:ByteArray)(c:ByteArray->Bool->Option R):Option R:=
 (qQ a ((List.length a):Int) b).bind fun r1=>bif r1<0 then c (bs []) false else zd r1 (List.length a) (c (List.getD a r1.toNat (bs [],bs [],())).2.1 true)
def sN(a:aO)(b:ByteArray):Option jK:=
 TJ a b (fun a0 a1=>some (a0,a1))
def TL{R:Type}(a:aO)(b:Int->Int->Option R)(c:aO->Int->Option R):Option R:=
 bif 256<((List.length a):Int) then b 5 256 else c a 0
def Qo{R:Type}(a:aO)(b:Int)(c:Int->Int->Option R)(d:aO->Int->Option R)(e:Option R):Option R:=
 bif b<((List.length a):Int) then zd b (List.length a) ((qQ a b (List.getD a b.toNat (bs [],bs [],())).1).bind fun r1=>bif 0<=r1 then c 10 b else d a (zW zI (b+1))) else e
def zwo{R:Type}(a b:Int)(c:Int->Int->Option R):Option R:=
 c a b
def zwp{R:Type}(a:Int->Int->Option R):Option R:=
 a 0 0
def Fy:Nat->aO->Int->Option (Sum (Int×Int) Unit)
 |0,_,_=>none
 |k+1,v0,v1=>Qo v0 v1 (fun a0 a1=>some (.inl (a0,a1))) (fun a0 a1=>Fy k a0 a1) (some (.inr ()))
def sO(a:aO):Option (Int×Int):=
 TL a (fun a0 a1=>some (a0,a1)) (fun a0 a1=>(Fy ag a0 a1).bind fun e=>Sum.elim (fun(we:(Int×Int))=>zwo we.1 we.2 (fun a0 a1=>some (a0,a1))) (fun(we:Unit)=>zwp (fun a0 a1=>some (a0,a1))) e)
def TX{R:Type}(a:aF)(b:Bool->Option R)(c:Int->aF->Option R):Option R:=
 bif 1200<(a.2.2.2.1.size:Int) then b true else bif 300<((List.length a.2.2.2.2.1):Int) then b true else c 0 a
def Qs{R:Type}(a:Int)(b:aF)(c:Bool->Option R)(d:Int->aF->Option R)(e:Option R):Option R:=
 bif a<((List.length b.2.2.2.2.1):Int) then zd a (List.length b.2.2.2.2.1) (bif 1200<(((List.getD b.2.2.2.2.1 a.toNat (bs [],bs [],())).1).size:Int) then c true else zd a (List.length b.2.2.2.2.1) (bif 1200<(((List.getD b.2.2.2.2.1 a.toNat (bs [],bs [],())).2.1).size:Int) then c true else d (zW zI (a+1)) b)) else e
def zx7{R:Type}(a:Bool)(b:Bool->Option R):Option R:=
 b a
def zx8{R:Type}(a:Bool->Option R):Option R:=
 a false
def yc:Nat->Int->aF->Option (Sum Bool Unit)
 |0,_,_=>none
 |k+1,v0,v1=>Qs v0 v1 (fun a0=>some (.inl a0)) (fun a0 a1=>yc k a0 a1) (some (.inr ()))
def nX(a:aF):Option Bool:=
 TX a (fun a0=>some a0) (fun a0 a1=>(yc ag a0 a1).bind fun e=>Sum.elim (fun(we:Bool)=>zx7 we (fun a0=>some a0)) (fun(we:Unit)=>zx8 (fun a0=>some a0)) e)
def TV{R:Type}(a:aF)(b:aF->Option R):Option R:=
 (qP a.2.2.2.2.1).bind fun r1=>b (a.1,a.2.1,a.2.2.1,a.2.2.2.1,r1,())
def nW(a:aF):Option aF:=
 TV a (fun a0=>some a0)
def Hc{R:Type}(a:aF)(b c:af)(d:Bool->aF->af->af->Option R):Option R:=
 bif a.1<1 then d true a b c else d (decide (5<a.1)) a b c
theorem ab2{R S:Type}(F:R->Option S)(a)(b)(c)(d):(Hc a b c d).bind F=Hc a b c (fun a0 a1 a2 a3=>(d a0 a1 a2 a3).bind F):=by
 simp only[Hc,aD]
def zx1{R:Type}(a:Bool)(b:aF)(c d:af)(e:Int->Option R)(f:aF->af->af->Option R):Option R:=
 bif a then e 1 else f b c d
def Hd{R:Type}(a:aF)(b c:af)(d:Int->Int->Bool->aF->af->af->Option R):Option R:=
 (yN b a.2.1).bind fun r1=>(yN c a.2.2.1).bind fun r2=>bif a.1=3 then bif !decide (a.2.1=0) then d r1 r2 true a b c else bif !decide (a.1=3) then d r1 r2 (decide (r1<0)) a b c else d r1 r2 false a b c else bif !decide (a.1=3) then d r1 r2 (decide (r1<0)) a b c else d r1 r2 false a b c
theorem z152{R S:Type}(F:R->Option S)(a)(b)(c)(d):(Hd a b c d).bind F=Hd a b c (fun a0 a1 a2 a3 a4 a5=>(d a0 a1 a2 a3 a4 a5).bind F):=by
 simp only[Hd,aD]
def zx2{R:Type}(a b:Int)(c:Bool)(d:aF)(e f:af)(g:Int->Option R)(h:Int->Int->aF->af->af->Option R):Option R:=
 bif c then g 9 else h a b d e f
def He{R:Type}(a b:Int)(c:aF)(d e:af)(f:Int->Int->Bool->aF->af->af->Option R):Option R:=
 bif c.1=2 then bif !decide (c.2.2.1=0) then f a b true c d e else bif !decide (c.1=2) then f a b (decide (b<0)) c d e else f a b false c d e else bif !decide (c.1=2) then f a b (decide (b<0)) c d e else f a b false c d e
theorem ab3{R S:Type}(F:R->Option S)(a)(b)(c)(d)(e)(f):(He a b c d e f).bind F=He a b c d e (fun a0 a1 a2 a3 a4 a5=>(f a0 a1 a2 a3 a4 a5).bind F):=by
 simp only[He,aD]
def zx3{R:Type}(a b:Int)(c:Bool)(d:aF)(e f:af)(g:Int->Option R)(h:Int->Int->aF->af->af->Option R):Option R:=
 bif c then g 9 else h a b d e f
def Hf{R:Type}(a b:Int)(c:aF)(d e:af)(f:Int->Int->Bool->aF->af->af->Option R):Option R:=
 bif !decide (c.2.2.2.1=bs []) then bif !decide (c.1=3) then f a b true c d e else bif 0<((List.length c.2.2.2.2.1):Int) then f a b (!decide (c.1=5)) c d e else f a b false c d e else bif 0<((List.length c.2.2.2.2.1):Int) then f a b (!decide (c.1=5)) c d e else f a b false c d e
theorem z154{R S:Type}(F:R->Option S)(a)(b)(c)(d)(e)(f):(Hf a b c d e f).bind F=Hf a b c d e (fun a0 a1 a2 a3 a4 a5=>(f a0 a1 a2 a3 a4 a5).bind F):=by
 simp only[Hf,aD]
def zx4{R:Type}(a b:Int)(c:Bool)(d:aF)(e f:af)(g:Int->Option R)(h:Int->Int->aF->af->af->Option R):Option R:=
 bif c then g 3 else h a b d e f
def Hg{R:Type}(a b:Int)(c:aF)(d e:af)(f:Int->Option R)(g:Option R)(h:Bool->Option R)(i:Int->Int->Bool->aF->af->af->Option R):Option R:=
 bif c.1=1 then zd b (List.length e.2.2.1) (zd a (List.length d.2.2.1) ((vm (List.getD e.2.2.1 b.toNat (0,0,0,0,0,())) (List.getD d.2.2.1 a.toNat (0,0,0,0,0,()))).bind fun r3=>bif !r3 then f 6 else g)) else bif c.1=3 then zd b (List.length e.2.2.1) ((mO (List.getD e.2.2.1 b.toNat (0,0,0,0,0,())) c.2.2.2.1).bind fun r4=>f r4) else bif c.1=4 then zd a (List.length d.2.2.1) (zd b (List.length e.2.2.1) (bif !decide ((List.getD d.2.2.1 a.toNat (0,0,0,0,0,())).2.1=1) then h true else bif !decide ((List.getD d.2.2.1 a.toNat (0,0,0,0,0,())).2.2.1=1) then h true else bif !decide ((List.getD e.2.2.1 b.toNat (0,0,0,0,0,())).2.1=1) then h true else h (!decide ((List.getD e.2.2.1 b.toNat (0,0,0,0,0,())).2.2.1=1)))) else bif c.1=5 then(sO c.2.2.2.2.1).bind fun r5=>bif !decide (r5.1=0) then i a b true c d e else i a b (decide (((List.length c.2.2.2.2.1):Int)=0)) c d e else g
theorem ab4{R S:Type}(F:R->Option S)(a)(b)(c)(d)(e)(f)(g)(h)(i):(Hg a b c d e f g h i).bind F=Hg a b c d e (fun a0=>(f a0).bind F) ((g).bind F) (fun a0=>(h a0).bind F) (fun a0 a1 a2 a3 a4 a5=>(i a0 a1 a2 a3 a4 a5).bind F):=by
 simp only[Hg,aD]
def zx5{R:Type}(a:Int->Option R):Option R:=
 a 0
def zpg{R:Type}(a:Bool)(b:Int->Option R)(c:Option R):Option R:=
 bif a then b 6 else c
def zph{R:Type}(a b:Int)(c:Bool)(d:aF)(e f:af)(g:Int->Option R)(h:Int->Int->aF->af->af->Option R):Option R:=
 bif c then g 15 else h a b d e f
def Tt{R:Type}(a b:Int)(c:aF)(d e:af)(f:Int->Int->Int->aF->af->af->Option R):Option R:=
 f a b 0 c d e
def Qd{R:Type}(a b c:Int)(d:aF)(e f:af)(g:Int->Int->Int->aF->af->af->Option R)(h:Option R):Option R:=
 bif c<((List.length d.2.2.2.2.1):Int) then g a b c d e f else h
def Tu{R:Type}(a b c:Int)(d:aF)(e f:af)(g:Int->Option R)(h:Int->Int->Int->aF->af->af->Option R):Option R:=
 zd a (List.length e.2.2.1) (zd c (List.length d.2.2.2.2.1) ((mO (List.getD e.2.2.1 a.toNat (0,0,0,0,0,())) (List.getD d.2.2.2.2.1 c.toNat (bs [],bs [],())).1).bind fun r6=>bif !decide (r6=0) then g r6 else h a b c d e f))
def zpi{R:Type}(a:Option R):Option R:=
 a
def zpj{R:Type}(a:Int)(b:Int->Option R):Option R:=
 b a
def Tv{R:Type}(a b c:Int)(d:aF)(e f:af)(g:Int->Option R)(h:Int->Int->Int->aF->af->af->Option R):Option R:=
 zd b (List.length f.2.2.1) (zd c (List.length d.2.2.2.2.1) ((mO (List.getD f.2.2.1 b.toNat (0,0,0,0,0,())) (List.getD d.2.2.2.2.1 c.toNat (bs [],bs [],())).2.1).bind fun r7=>bif !decide (r7=0) then g r7 else h a b c d e f))
def Tw{R:Type}(a b c:Int)(d:aF)(e f:af)(g:Int->Int->Int->aF->af->af->Option R):Option R:=
 g a b (zW zI (c+1)) d e f
def vM:Nat->Int->Int->Int->aF->af->af->Option (Sum Unit Int)
 |0,_,_,_,_,_,_=>none
 |k+1,v0,v1,v2,v3,v4,v5=>Qd v0 v1 v2 v3 v4 v5 (fun a0 a1 a2 a3 a4 a5=>Tu a0 a1 a2 a3 a4 a5 (fun a0=>some (.inr a0)) (fun a0 a1 a2 a3 a4 a5=>Tv a0 a1 a2 a3 a4 a5 (fun a0=>some (.inr a0)) (fun a0 a1 a2 a3 a4 a5=>Tw a0 a1 a2 a3 a4 a5 (fun a0 a1 a2 a3 a4 a5=>vM k a0 a1 a2 a3 a4 a5)))) (some (.inl ()))
def TU:Option Int:=
 zx5 (fun a0=>some a0)
def zx0(a:Bool):Option Int:=
 zpg a (fun a0=>some a0) TU
def Qc(a b:Int)(c:aF)(d f:af):Option Int:=
 Tt a b c d f (fun a0 a1 a2 a3 a4 a5=>(vM ag a0 a1 a2 a3 a4 a5).bind fun e=>Sum.elim (fun(we:Unit)=>zpi TU) (fun(we:Int)=>zpj we (fun a0=>some a0)) e)
def zpf(a b:Int)(c:Bool)(d:aF)(e f:af):Option Int:=
 zph a b c d e f (fun a0=>some a0) (fun a0 a1 a2 a3 a4=>Qc a0 a1 a2 a3 a4)
def Qr(a b:Int)(c:aF)(d e:af):Option Int:=
 Hg a b c d e (fun a0=>some a0) TU (fun a0=>zx0 a0) (fun a0 a1 a2 a3 a4 a5=>zpf a0 a1 a2 a3 a4 a5)
def zwz(a b:Int)(c:Bool)(d:aF)(e f:af):Option Int:=
 zx4 a b c d e f (fun a0=>some a0) (fun a0 a1 a2 a3 a4=>Qr a0 a1 a2 a3 a4)
def FA(a b:Int)(c:aF)(d e:af):Option Int:=
 Hf a b c d e (fun a0 a1 a2 a3 a4 a5=>zwz a0 a1 a2 a3 a4 a5)
def zwy(a b:Int)(c:Bool)(d:aF)(e f:af):Option Int:=
 zx3 a b c d e f (fun a0=>some a0) (fun a0 a1 a2 a3 a4=>FA a0 a1 a2 a3 a4)
def Qq(a b:Int)(c:aF)(d e:af):Option Int:=
 He a b c d e (fun a0 a1 a2 a3 a4 a5=>zwy a0 a1 a2 a3 a4 a5)
def Bw(a b:Int)(c:Bool)(d:aF)(e f:af):Option Int:=
 zx2 a b c d e f (fun a0=>some a0) (fun a0 a1 a2 a3 a4=>Qq a0 a1 a2 a3 a4)
def TT(a:aF)(b c:af):Option Int:=
 Hd a b c (fun a0 a1 a2 a3 a4 a5=>Bw a0 a1 a2 a3 a4 a5)
def zwx(a:Bool)(b:aF)(c d:af):Option Int:=
 zx1 a b c d (fun a0=>some a0) (fun a0 a1 a2=>TT a0 a1 a2)
def sQ(a:aF)(b c:af):Option Int:=
 Hc a b c (fun a0 a1 a2 a3=>zwx a0 a1 a2 a3)
def Ua{R:Type}(a:ax)(b:Bool->Option R)(c:Int->ax->Option R):Option R:=
 bif 300<((List.length a.1):Int) then b true else bif 300<((List.length a.2.1):Int) then b true else c 0 a
def Qy{R:Type}(a:Int)(b:ax)(c:Bool->ax->Option R)(d:Int->ax->Option R)(e:ax->Option R):Option R:=
 bif a<((List.length b.1):Int) then zd a (List.length b.1) (bif 100<(((List.getD b.1 a.toNat (bs [],bs [],())).1).size:Int) then c true b else zd a (List.length b.1) (bif 100<(((List.getD b.1 a.toNat (bs [],bs [],())).2.1).size:Int) then c true b else d (zW zI (a+1)) b)) else e b
def zxk{R:Type}(a:Bool)(b:ax)(c:Bool->Option R):Option R:=
 c a
def Ub{R:Type}(a:ax)(b:Int->ax->Option R):Option R:=
 b 0 a
def zxl{R:Type}(a:Int)(b:ax)(c:Bool->Option R)(d:Int->ax->Option R)(e:Option R):Option R:=
 bif a<((List.length b.2.1):Int) then zd a (List.length b.2.1) ((nX (List.getD b.2.1 a.toNat (0,0,0,bs [],[],()))).bind fun r1=>bif r1 then c true else d (zW zI (a+1)) b) else e
def zxm{R:Type}(a:Bool)(b:Bool->Option R):Option R:=
 b a
def zxn{R:Type}(a:Bool->Option R):Option R:=
 a false
def yd:Nat->Int->ax->Option (Sum (Bool×ax) ax)
 |0,_,_=>none
 |k+1,v0,v1=>Qy v0 v1 (fun a0 a1=>some (.inl (a0,a1))) (fun a0 a1=>yd k a0 a1) (fun a0=>some (.inr a0))
def Qx:Nat->Int->ax->Option (Sum Bool Unit)
 |0,_,_=>none
 |k+1,v0,v1=>zxl v0 v1 (fun a0=>some (.inl a0)) (fun a0 a1=>Qx k a0 a1) (some (.inr ()))
def lO(a:ax):Option Bool:=
 Ua a (fun a0=>some a0) (fun a0 a1=>(yd ag a0 a1).bind fun e=>Sum.elim (fun(we:(Bool×ax))=>zxk we.1 we.2 (fun a0=>some a0)) (fun(we:ax)=>Ub we (fun a0 a1=>(Qx ag a0 a1).bind fun e=>Sum.elim (fun(we:Bool)=>zxm we (fun a0=>some a0)) (fun(we:Unit)=>zxn (fun a0=>some a0)) e)) e)
def T7{R:Type}(a:ax)(b:Int->ax->ax->ax->Option R):Option R:=
 (qP a.1).bind fun r1=>b 0 a ([],[],()) (r1,[],())
def zxg{R:Type}(a:Int)(b c d:ax)(e:Int->ax->ax->ax->Option R)(f:ax->ax->Option R):Option R:=
 bif a<((List.length b.2.1):Int) then zd a (List.length b.2.1) ((nW (List.getD b.2.1 a.toNat (0,0,0,bs [],[],()))).bind fun r2=>bif(List.length d.2.1+List.length ([r2]:List aF))*64<=140737488355328 then e (zW zI (a+1)) b c (d.1,d.2.1++([r2]:List aF),()) else none) else f c d
def zxh{R:Type}(a b:ax)(c:ax->Option R):Option R:=
 c b
def Qw:Nat->Int->ax->ax->ax->Option (ax×ax)
 |0,_,_,_,_=>none
 |k+1,v0,v1,v2,v3=>zxg v0 v1 v2 v3 (fun a0 a1 a2 a3=>Qw k a0 a1 a2 a3) (fun a0 a1=>some (a0,a1))
def sS(a:ax):Option ax:=
 T7 a (fun a0 a1 a2 a3=>(Qw ag a0 a1 a2 a3).bind fun e=>zxh e.1 e.2 (fun a0=>some a0))
def Ud{R:Type}(a:ByteArray)(b:Int)(c:Bool->Option R):Option R:=
 (sM a).bind fun r1=>bif r1 then zd 0 a.size (c (decide (zW zI (zW zI (ze a ((0:Int)).toNat)-48)=b))) else c false
def qR(a:ByteArray)(b:Int):Option Bool:=
 Ud a b (fun a0=>some a0)
def Uc{R:Type}(a b:aF)(c:Bool->Option R):Option R:=
 bif !decide (a.2.1=0) then bif a.2.1=b.2.1 then c true else bif !decide (a.2.2.1=0) then c (decide (a.2.2.1=b.2.2.1)) else c false else bif !decide (a.2.2.1=0) then c (decide (a.2.2.1=b.2.2.1)) else c false
def sT(a b:aF):Option Bool:=
 Uc a b (fun a0=>some a0)
def T3{R:Type}(a:ax)(b c:af)(d:Int->Int->Int->Option R)(e:Int->ax->af->af->Option R):Option R:=
 (BX b).bind fun r1=>bif !r1 then d 1 1 0 else(BX c).bind fun r2=>bif !r2 then d 1 1 1 else bif 256<((List.length a.1):Int) then d 5 2 256 else e 0 a b c
def Qt{R:Type}(a:Int)(b:ax)(c d:af)(e:Int->Int->Int->ax->af->af->Option R)(f:Int->ax->af->af->Option R)(g:ax->af->af->Option R):Option R:=
 bif a<((List.length b.1):Int) then zd a (List.length b.1) ((qR (List.getD b.1 a.toNat (bs [],bs [],())).1 c.2.1).bind fun r3=>bif !r3 then e 7 2 a b c d else(qR (List.getD b.1 a.toNat (bs [],bs [],())).2.1 d.2.1).bind fun r4=>bif !r4 then e 7 2 a b c d else(Gp (List.getD b.1 a.toNat (bs [],bs [],())).1).bind fun r5=>(Gp (List.getD b.1 a.toNat (bs [],bs [],())).2.1).bind fun r6=>bif !(r5==r6) then e 7 2 a b c d else bif 0<=a then bif a<=(((List.length b.1):Nat):Int) then(sN (List.drop 0 (List.take a.toNat b.1)) (List.getD b.1 a.toNat (bs [],bs [],())).1).bind fun r7=>bif r7.2 then e 10 2 a b c d else f (zW zI (a+1)) b c d else none else none) else g b c d
def zxc{R:Type}(a b c:Int)(d:ax)(e f:af)(g:Int->Int->Int->Option R):Option R:=
 g a b c
def T4{R:Type}(a:ax)(b c:af)(d:Int->Int->Int->Option R)(e:Int->ax->af->af->Option R):Option R:=
 bif 256<((List.length a.2.1):Int) then d 5 3 256 else e 0 a b c
def Qu{R:Type}(a:Int)(b:ax)(c d:af)(e:Int->Int->Int->Option R)(f:Int->Int->ax->af->af->Option R)(g:Option R):Option R:=
 bif a<((List.length b.2.1):Int) then zd a (List.length b.2.1) ((sQ (List.getD b.2.1 a.toNat (0,0,0,bs [],[],())) c d).bind fun r8=>bif !decide (r8=0) then e r8 3 a else f a 0 b c d) else g
def zxd{R:Type}(a b c:Int)(d:Int->Int->Int->Option R):Option R:=
 d a b c
def zxe{R:Type}(a:Int->Int->Int->Option R):Option R:=
 a 0 0 0
def Qv{R:Type}(a b:Int)(c:ax)(d e:af)(f:Int->Int->Int->Int->ax->af->af->Option R)(g:Int->Int->ax->af->af->Option R)(h:Int->ax->af->af->Option R):Option R:=
 bif b<a then zd b (List.length c.2.1) (zd a (List.length c.2.1) ((sT (List.getD c.2.1 b.toNat (0,0,0,bs [],[],())) (List.getD c.2.1 a.toNat (0,0,0,bs [],[],()))).bind fun r9=>bif r9 then f 10 3 a a c d e else g a (zW zI (b+1)) c d e)) else h a c d e
def zxf{R:Type}(a b c d:Int)(e:ax)(f g:af)(h:Int->Int->Int->Option R):Option R:=
 h a b c
def T5{R:Type}(a:Int)(b:ax)(c d:af)(e:Int->ax->af->af->Option R):Option R:=
 e (zW zI (a+1)) b c d
def FB:Nat->Int->ax->af->af->Option (Sum lX lW)
 |0,_,_,_,_=>none
 |k+1,v0,v1,v2,v3=>Qt v0 v1 v2 v3 (fun a0 a1 a2 a3 a4 a5=>some (.inl (a0,a1,a2,a3,a4,a5))) (fun a0 a1 a2 a3=>FB k a0 a1 a2 a3) (fun a0 a1 a2=>some (.inr (a0,a1,a2)))
def FD:Nat->Int->Int->ax->af->af->Option (Sum (Int×Int×Int×Int×ax×af×af) (Int×ax×af×af))
 |0,_,_,_,_,_=>none
 |k+1,v0,v1,v2,v3,v4=>Qv v0 v1 v2 v3 v4 (fun a0 a1 a2 a3 a4 a5 a6=>some (.inl (a0,a1,a2,a3,a4,a5,a6))) (fun a0 a1 a2 a3 a4=>FD k a0 a1 a2 a3 a4) (fun a0 a1 a2 a3=>some (.inr (a0,a1,a2,a3)))
def FC:Nat->Int->ax->af->af->Option (Sum jw Unit)
 |0,_,_,_,_=>none
 |k+1,v0,v1,v2,v3=>Qu v0 v1 v2 v3 (fun a0 a1 a2=>some (.inl (a0,a1,a2))) (fun a0 a1 a2 a3 a4=>(FD ag a0 a1 a2 a3 a4).bind fun e=>Sum.elim (fun(we:(Int×Int×Int×Int×ax×af×af))=>zxf we.1 we.2.1 we.2.2.1 we.2.2.2.1 we.2.2.2.2.1 we.2.2.2.2.2.1 we.2.2.2.2.2.2 (fun a0 a1 a2=>some (.inl (a0,a1,a2)))) (fun(we:(Int×ax×af×af))=>T5 we.1 we.2.1 we.2.2.1 we.2.2.2 (fun a0 a1 a2 a3=>FC k a0 a1 a2 a3)) e) (some (.inr ()))
def sR(a:ax)(b c:af):Option jw:=
 T3 a b c (fun a0 a1 a2=>some (a0,a1,a2)) (fun a0 a1 a2 a3=>(FB ag a0 a1 a2 a3).bind fun e=>Sum.elim (fun(we:lX)=>zxc we.1 we.2.1 we.2.2.1 we.2.2.2.1 we.2.2.2.2.1 we.2.2.2.2.2 (fun a0 a1 a2=>some (a0,a1,a2))) (fun(we:lW)=>T4 we.1 we.2.1 we.2.2 (fun a0 a1 a2=>some (a0,a1,a2)) (fun a0 a1 a2 a3=>(FC ag a0 a1 a2 a3).bind fun e=>Sum.elim (fun(we:jw)=>zxd we.1 we.2.1 we.2.2 (fun a0 a1 a2=>some (a0,a1,a2))) (fun(we:Unit)=>zxe (fun a0 a1 a2=>some (a0,a1,a2))) e)) e)
def Ul{R:Type}(a:ar)(b:Bool->Option R)(c:Int->ar->Option R):Option R:=
 bif 200<((List.length a.1.2.2.1):Int) then b true else bif 300<((List.length a.2.2.1):Int) then b true else bif 300<((List.length a.2.2.2.1):Int) then b true else c 0 a
def zxt{R:Type}(a:Int)(b:ar)(c:Bool->Option R)(d:Int->ar->Option R)(e:Option R):Option R:=
 bif a<((List.length b.2.2.2.1):Int) then zd a (List.length b.2.2.2.1) (bif 1200<(((List.getD b.2.2.2.1 a.toNat (0,bs [],())).2.1).size:Int) then c true else d (zW zI (a+1)) b) else e
def zxu{R:Type}(a:Bool)(b:Bool->Option R):Option R:=
 b a
def zxv{R:Type}(a:Bool->Option R):Option R:=
 a false
def QB:Nat->Int->ar->Option (Sum Bool Unit)
 |0,_,_=>none
 |k+1,v0,v1=>zxt v0 v1 (fun a0=>some (.inl a0)) (fun a0 a1=>QB k a0 a1) (some (.inr ()))
def mH(a:ar):Option Bool:=
 Ul a (fun a0=>some a0) (fun a0 a1=>(QB ag a0 a1).bind fun e=>Sum.elim (fun(we:Bool)=>zxu we (fun a0=>some a0)) (fun(we:Unit)=>zxv (fun a0=>some a0)) e)
def Uj{R:Type}(a:ar)(b:ar->Option R):Option R:=
 (I3 a.1).bind fun r1=>bif(List.length ([]:List Int)+List.length a.2.2.1)*8<=140737488355328 then bif(List.length ([]:List bd)+List.length a.2.2.2.1)*24<=140737488355328 then b (r1,a.2.1,[]++a.2.2.1,[]++a.2.2.2.1,()) else none else none
def sV(a:ar):Option ar:=
 Uj a (fun a0=>some a0)
def Un{R:Type}(a:ak)(b c:Int)(d:ak->Int->Int->Int->Option R):Option R:=
 d a b c 0
def QC{R:Type}(a:ak)(b c d:Int)(e:Int->Option R)(f:ak->Int->Int->Int->Option R)(g:Option R):Option R:=
 bif d<b then zd d (List.length a) (bif(List.getD a d.toNat (0,bs [],())).1=c then e d else f a b c (zW zI (d+1))) else g
def zxx{R:Type}(a:Int)(b:Int->Option R):Option R:=
 b a
def zxy{R:Type}(a:Int->Option R):Option R:=
 a (-1:Int)
def FG:Nat->ak->Int->Int->Int->Option (Sum Int Unit)
 |0,_,_,_,_=>none
 |k+1,v0,v1,v2,v3=>QC v0 v1 v2 v3 (fun a0=>some (.inl a0)) (fun a0 a1 a2 a3=>FG k a0 a1 a2 a3) (some (.inr ()))
def qS(a:ak)(b c:Int):Option Int:=
 Un a b c (fun a0 a1 a2 a3=>(FG ag a0 a1 a2 a3).bind fun e=>Sum.elim (fun(we:Int)=>zxx we (fun a0=>some a0)) (fun(we:Unit)=>zxy (fun a0=>some a0)) e)
def Ug{R:Type}(a:ar)(b:Int->Int->Int->Option R)(c:Int->Int->ar->Option R):Option R:=
 (BX a.1).bind fun r1=>bif !r1 then b 1 1 0 else(yN a.1 (39:Int)).bind fun r2=>bif r2<0 then b 9 1 1 else c r2 0 a
def Qz{R:Type}(a b:Int)(c:ar)(d:Int->Int->Int->Int->ar->Option R)(e:Int->Int->ar->Option R)(f:Int->ar->Option R):Option R:=
 bif b<((List.length c.2.2.1):Int) then zd b (List.length c.2.2.1) ((yN c.1 (List.getD c.2.2.1 b.toNat (0:Int))).bind fun r3=>bif r3<0 then d 9 2 b a c else zd b (List.length c.2.2.1) (bif List.getD c.2.2.1 b.toNat 0=39 then d 1 2 b a c else bif 0<=b then bif b<=(((List.length c.2.2.1):Nat):Int) then zd b (List.length c.2.2.1) ((IP (List.drop 0 (List.take b.toNat c.2.2.1)) (List.getD c.2.2.1 b.toNat (0:Int))).bind fun r4=>bif r4 then d 10 2 b a c else e a (zW zI (b+1)) c) else none else none)) else f a c
def zxq{R:Type}(a b c d:Int)(e:ar)(f:Int->Int->Int->Option R):Option R:=
 f a b c
def Uh{R:Type}(a:Int)(b:ar)(c:Int->Int->ar->Option R):Option R:=
 c a 0 b
def QA{R:Type}(a b:Int)(c:ar)(d:Int->Int->Int->ar->Option R)(e:Int->Int->ar->Option R)(f:ar->Option R):Option R:=
 bif b<((List.length c.2.2.2.1):Int) then zd b (List.length c.2.2.2.1) (bif(List.getD c.2.2.2.1 b.toNat (0,bs [],())).1<0 then d 1 3 b c else zd b (List.length c.2.2.2.1) (bif 16<(List.getD c.2.2.2.1 b.toNat (0,bs [],())).1 then d 1 3 b c else zd b (List.length c.2.2.2.1) ((qS c.2.2.2.1 b (List.getD c.2.2.2.1 b.toNat (0,bs [],())).1).bind fun r5=>bif 0<=r5 then d 10 3 b c else zd a (List.length c.1.2.2.1) (zd b (List.length c.2.2.2.1) ((mO (List.getD c.1.2.2.1 a.toNat (0,0,0,0,0,())) (List.getD c.2.2.2.1 b.toNat (0,bs [],())).2.1).bind fun r6=>bif !decide (r6=0) then d r6 3 b c else e a (zW zI (b+1)) c))))) else f c
def zxr{R:Type}(a b c:Int)(d:ar)(e:Int->Int->Int->Option R):Option R:=
 e a b c
def Ui{R:Type}(a:ar)(b:Int->Int->Int->Option R):Option R:=
 (qS a.2.2.2.1 ((List.length a.2.2.2.1):Int) (0:Int)).bind fun r7=>bif r7<0 then b 15 3 ((List.length a.2.2.2.1):Int) else b 0 0 0
def FE:Nat->Int->Int->ar->Option (Sum (Int×Int×Int×Int×ar) (Int×ar))
 |0,_,_,_=>none
 |k+1,v0,v1,v2=>Qz v0 v1 v2 (fun a0 a1 a2 a3 a4=>some (.inl (a0,a1,a2,a3,a4))) (fun a0 a1 a2=>FE k a0 a1 a2) (fun a0 a1=>some (.inr (a0,a1)))
def FF:Nat->Int->Int->ar->Option (Sum (Int×Int×Int×ar) ar)
 |0,_,_,_=>none
 |k+1,v0,v1,v2=>QA v0 v1 v2 (fun a0 a1 a2 a3=>some (.inl (a0,a1,a2,a3))) (fun a0 a1 a2=>FF k a0 a1 a2) (fun a0=>some (.inr a0))
def sU(a:ar):Option jw:=
 Ug a (fun a0 a1 a2=>some (a0,a1,a2)) (fun a0 a1 a2=>(FE ag a0 a1 a2).bind fun e=>Sum.elim (fun(we:(Int×Int×Int×Int×ar))=>zxq we.1 we.2.1 we.2.2.1 we.2.2.2.1 we.2.2.2.2 (fun a0 a1 a2=>some (a0,a1,a2))) (fun(we:(Int×ar))=>Uh we.1 we.2 (fun a0 a1 a2=>(FF ag a0 a1 a2).bind fun e=>Sum.elim (fun(we:(Int×Int×Int×ar))=>zxr we.1 we.2.1 we.2.2.1 we.2.2.2 (fun a0 a1 a2=>some (a0,a1,a2))) (fun(we:ar)=>Ui we (fun a0 a1 a2=>some (a0,a1,a2))) e)) e)
def zy8{R:Type}(a:(List ByteArray))(b:(List ByteArray)->aO->Int->Option R):Option R:=
 b a [] 0
def zy9{R:Type}(a:(List ByteArray))(b:aO)(c:Int)(d:(List ByteArray)->aO->Int->Option R)(e:aO->Option R):Option R:=
 bif c<((List.length a):Int) then zd c (List.length a) (zd (zW zI (c+1)) (List.length a) (bif(List.length b+List.length ([(List.getD a c.toNat (bs []),List.getD a (zW zI (c+(1:Int))).toNat (bs []),())]:List dF))*32<=140737488355328 then d a (b++([(List.getD a c.toNat (bs []),List.getD a (zW zI (c+(1:Int))).toNat (bs []),())]:List dF)) (zW zI (c+2)) else none)) else e b
def zya{R:Type}(a:aO)(b:aO->Option R):Option R:=
 b a
def Ux:Nat->(List ByteArray)->aO->Int->Option aO
 |0,_,_,_=>none
 |k+1,v0,v1,v2=>zy9 v0 v1 v2 (fun a0 a1 a2=>Ux k a0 a1 a2) (fun a0=>some a0)
def sZ(a:(List ByteArray)):Option aO:=
 zy8 a (fun a0 a1 a2=>(Ux ag a0 a1 a2).bind fun e=>zya e (fun a0=>some a0))
def zy5{R:Type}(a:bR->(List Int)->Int->Option R):Option R:=
 Y8.bind fun r1=>a [] r1 0
def zy6{R:Type}(a:bR)(b:(List Int))(c:Int)(d:bR->(List Int)->Int->Option R)(e:bR->Option R):Option R:=
 bif c<((List.length b):Int) then zd c (List.length b) (bif List.getD b c.toNat 0=12 then zd c (List.length b) (zd c (List.length b) (bif(List.length a+List.length ([((4:Int),List.getD b c.toNat (0:Int),List.getD b c.toNat (0:Int),bs [],([]:List dF),())]:List aF))*64<=140737488355328 then d (a++([(4,List.getD b c.toNat 0,List.getD b c.toNat 0,bs [],[],())]:List aF)) b (zW zI (c+1)) else none)) else zd c (List.length b) (zd c (List.length b) (bif(List.length a+List.length ([((1:Int),List.getD b c.toNat (0:Int),List.getD b c.toNat (0:Int),bs [],([]:List dF),())]:List aF))*64<=140737488355328 then d (a++([(1,List.getD b c.toNat 0,List.getD b c.toNat 0,bs [],[],())]:List aF)) b (zW zI (c+1)) else none))) else e a
def zy7{R:Type}(a:bR)(b:bR->Option R):Option R:=
 b a
def Uv:Nat->bR->(List Int)->Int->Option bR
 |0,_,_,_=>none
 |k+1,v0,v1,v2=>zy6 v0 v1 v2 (fun a0 a1 a2=>Uv k a0 a1 a2) (fun a0=>some a0)
def vW:Option bR:=
 zy5 (fun a0 a1 a2=>(Uv ag a0 a1 a2).bind fun e=>zy7 e (fun a0=>some a0))
def zy4{R:Type}(a b c:ByteArray)(d:ak->Option R):Option R:=
 d ([(0,a,()),(2,b,()),(3,b,()),(12,b,()),(9,b,()),(15,c,())]:List bd)
def vV(a b c:ByteArray):Option ak:=
 zy4 a b c (fun a0=>some a0)
def zxz{R:Type}(a:aA->Option R):Option R:=
 (sZ ([(bs [48,49,48,48]),bs [49,49,48,48],bs [48,49,49,48],bs [49,49,49,48],bs [48,50,48,48],bs [49,50,48,48],bs [48,50,49,48],bs [49,50,49,48],bs [48,50,50,48],bs [49,50,50,48],bs [48,50,51,48],bs [49,50,51,48],bs [48,52,48,48],bs [49,52,48,48],bs [48,52,49,48],bs [49,52,49,48],bs [48,52,50,48],bs [49,52,50,48],bs [48,52,51,48],bs [49,52,51,48],bs [48,56,48,48],bs [49,56,48,52],bs [48,56,49,48],(bs [49,56,49,52])]:List ByteArray)).bind fun r1=>(sZ ([(bs [48,53,49]),bs [53,49,48,49,48,49,53,49,49,51,52,52],bs [48,50,49],bs [50,49,48,49,48,49,50,49,49,51,52,52],bs [48,49,50],(bs [49,48,48,49,52,48,49,48,48,49,49,48])]:List ByteArray)).bind fun r2=>(sZ ([(bs [48,48]),bs [48,48,48],bs [48,53],bs [49,48,48],bs [49,52],bs [49,49,49],bs [53,49],bs [49,49,54],bs [53,52],bs [49,48,49],bs [57,49],bs [57,48,55],bs [57,54],(bs [57,48,57])]:List ByteArray)).bind fun r3=>vW.bind fun r4=>bif(List.length r4+List.length ([((2:Int),(13:Int),(0:Int),bs [],([]:List dF),()),((2:Int),(18:Int),(0:Int),bs [],([]:List dF),()),((2:Int),(90:Int),(0:Int),bs [],([]:List dF),()),((5:Int),(22:Int),(22:Int),bs [],r2,()),((5:Int),(39:Int),(39:Int),bs [],r3,()),((1:Int),(43:Int),(43:Int),bs [],([]:List dF),()),((1:Int),(48:Int),(48:Int),bs [],([]:List dF),()),((3:Int),(0:Int),(26:Int),bs [53,57,57,57],([]:List dF),())]:List aF))*64<=140737488355328 then vW.bind fun r5=>(sP r2).bind fun r6=>(sP r3).bind fun r7=>bif(List.length r5+List.length ([((2:Int),(26:Int),(0:Int),bs [],([]:List dF),()),((2:Int),(43:Int),(0:Int),bs [],([]:List dF),()),((5:Int),(22:Int),(22:Int),bs [],r6,()),((5:Int),(39:Int),(39:Int),bs [],r7,()),((1:Int),(48:Int),(48:Int),bs [],([]:List dF),())]:List aF))*64<=140737488355328 then(R8 (0:Int)).bind fun r8=>(vV (bs [57,54]) (bs [51,48]) (bs [49,50])).bind fun r9=>zd 0 2 ((R8 (1:Int)).bind fun kS=>(sP r1).bind fun lE=>bif(List.length ([]:List Int)+List.length ([(2:Int),(3:Int),(4:Int),(7:Int),(11:Int),(12:Int),(32:Int),(37:Int),(41:Int),(42:Int),(70:Int)]:List Int))*8<=140737488355328 then(vV (bs [57,48,57]) (bs [57,48,52]) (bs [57,48,50])).bind fun nK=>zd 1 2 (a (List.set (List.set (List.replicate 2 ((0,0,[],()),([],[],()),[],[],())) ((0:Int)).toNat (r8,(r1,r4++([(2,13,0,bs [],[],()),(2,18,0,bs [],[],()),(2,90,0,bs [],[],()),(5,22,22,bs [],r2,()),(5,39,39,bs [],r3,()),(1,43,43,bs [],[],()),(1,48,48,bs [],[],()),(3,0,26,bs [53,57,57,57],[],())]:List aF),()),([2,3,4,7,11,12,32,37,41,42,70]:List Int),r9,())) ((1:Int)).toNat (kS,(lE,r5++([(2,26,0,bs [],[],()),(2,43,0,bs [],[],()),(5,22,22,bs [],r6,()),(5,39,39,bs [],r7,()),(1,48,48,bs [],[],())]:List aF),()),[]++([2,3,4,7,11,12,32,37,41,42,70]:List Int),nK,()),4096,())) else none) else none else none
def BQ:Option aA:=
 zxz (fun a0=>some a0)
def Us{R:Type}(a:aA)(b:Bool->Option R):Option R:=
 zd 0 2 ((mH (List.getD a.1 ((0:Int)).toNat ((0,0,[],()),([],[],()),[],[],()))).bind fun r1=>bif r1 then b true else zd 1 2 ((mH (List.getD a.1 ((1:Int)).toNat ((0,0,[],()),([],[],()),[],[],()))).bind fun r2=>bif r2 then b true else zd 0 2 ((lO (List.getD a.1 ((0:Int)).toNat ((0,0,[],()),([],[],()),[],[],())).2.1).bind fun r3=>bif r3 then b true else zd 1 2 ((lO (List.getD a.1 ((1:Int)).toNat ((0,0,[],()),([],[],()),[],[],())).2.1).bind fun r4=>b r4))))
def mI(a:aA):Option Bool:=
 Us a (fun a0=>some a0)
def Ur{R:Type}(a:aA)(b:Int->aA->aA->Option R):Option R:=
 b 0 a (List.replicate 2 ((0,0,[],()),([],[],()),[],[],()),0,())
def Hi{R:Type}(a:Int)(b c:aA)(d:Int->aA->aA->Option R)(e:aA->aA->Option R):Option R:=
 bif a<2 then zd a 2 ((sS (List.getD b.1 a.toNat ((0,0,[],()),([],[],()),[],[],())).2.1).bind fun r1=>zd a 2 ((sV (List.getD b.1 a.toNat ((0,0,[],()),([],[],()),[],[],()))).bind fun r2=>zd a 2 (zd a 2 (d (zW zI (a+1)) (List.set (List.set b.1 a.toNat r2) a.toNat ((List.getD (List.set b.1 a.toNat r2) a.toNat ((0,0,[],()),([],[],()),[],[],())).1,r1,(List.getD (List.set b.1 a.toNat r2) a.toNat ((0,0,[],()),([],[],()),[],[],())).2.2.1,(List.getD (List.set b.1 a.toNat r2) a.toNat ((0,0,[],()),([],[],()),[],[],())).2.2.2.1,()),b.2.1,()) c)))) else e b c
def zy3{R:Type}(a b:aA)(c:aA->Option R):Option R:=
 c a
def FI:Nat->Int->aA->aA->Option (aA×aA)
 |0,_,_,_=>none
 |k+1,v0,v1,v2=>Hi v0 v1 v2 (fun a0 a1 a2=>FI k a0 a1 a2) (fun a0 a1=>some (a0,a1))
def sX(a:aA):Option aA:=
 Ur a (fun a0 a1 a2=>(FI ag a0 a1 a2).bind fun e=>zy3 e.1 e.2 (fun a0=>some a0))
def Up{R:Type}(a:aA)(b:Int->Int->Int->Option R)(c:Int->aA->Option R):Option R:=
 bif a.2.1<1 then b 5 2 0 else bif 65535<a.2.1 then b 5 2 0 else c 0 a
def Hh{R:Type}(a:Int)(b:aA)(c:Int->Int->Int->Option R)(d:Int->aA->Option R)(e:Option R):Option R:=
 bif a<2 then zd a 2 ((sU (List.getD b.1 a.toNat ((0,0,[],()),([],[],()),[],[],()))).bind fun r1=>bif !decide (r1.1=0) then c r1.1 a 1 else zd a 2 (zd a 2 (zd (zW zI (1-a)) 2 ((sR (List.getD b.1 a.toNat ((0,0,[],()),([],[],()),[],[],())).2.1 (List.getD b.1 a.toNat ((0,0,[],()),([],[],()),[],[],())).1 (List.getD b.1 (zW zI (1-a)).toNat ((0,0,[],()),([],[],()),[],[],())).1).bind fun r2=>bif !decide (r2.1=0) then c r2.1 a 2 else d (zW zI (a+1)) b)))) else e
def zy1{R:Type}(a b c:Int)(d:Int->Int->Int->Option R):Option R:=
 d a b c
def zy2{R:Type}(a:Int->Int->Int->Option R):Option R:=
 a 0 0 0
def FH:Nat->Int->aA->Option (Sum jw Unit)
 |0,_,_=>none
 |k+1,v0,v1=>Hh v0 v1 (fun a0 a1 a2=>some (.inl (a0,a1,a2))) (fun a0 a1=>FH k a0 a1) (some (.inr ()))
def sW(a:aA):Option jw:=
 Up a (fun a0 a1 a2=>some (a0,a1,a2)) (fun a0 a1=>(FH ag a0 a1).bind fun e=>Sum.elim (fun(we:jw)=>zy1 we.1 we.2.1 we.2.2 (fun a0 a1 a2=>some (a0,a1,a2))) (fun(we:Unit)=>zy2 (fun a0 a1 a2=>some (a0,a1,a2))) e)
def Ut{R:Type}(a:aA)(b:Bool->Option R):Option R:=
 (sW a).bind fun r1=>b (decide (r1.1=0))
def sY(a:aA):Option Bool:=
 Ut a (fun a0=>some a0)
def Uz{R:Type}(a:Int)(b:ByteArray)(c:Int->ByteArray->(List ByteArray)->(List Int)->Int->Option R):Option R:=
 c a b [] [] 0
def UA{R:Type}(a:Int)(b:ByteArray)(c:(List ByteArray))(d:(List Int))(e:Int)(f:ByteArray->(List ByteArray)->Int->(List Int)->Int->(List ByteArray)->(List Int)->Int->Option R)(g:Int->ByteArray->(List ByteArray)->(List Int)->Int->Option R)(h:ByteArray->(List ByteArray)->(List Int)->Int->Option R):Option R:=
 bif 2<=zW zI ((b.size:Int)-e) then zd e b.size (zd (zW zI (e+1)) b.size (bif zW zI (zW zI (zW zI (ze b e.toNat)*256)+zW zI (ze b (zW zI (e+(1:Int))).toNat))=0 then f b c 0 d (zW zI (e+2)) c d e else bif a<zW zI (zW zI (zW zI (ze b e.toNat)*256)+zW zI (ze b (zW zI (e+(1:Int))).toNat)) then f b c 0 d (zW zI (e+2)) c d e else bif zW zI (zW zI ((b.size:Int)-e)-2)<zW zI (zW zI (zW zI (ze b e.toNat)*256)+zW zI (ze b (zW zI (e+(1:Int))).toNat)) then f b c (zW zI ((b.size:Int)-e)) d (-1:Int) c d e else bif 0<=zW zI (zW zI (e+2)+zW zI (zW zI (zW zI (ze b e.toNat)*256)+zW zI (ze b (zW zI (e+(1:Int))).toNat))) then bif zW zI (zW zI (e+2)+zW zI (zW zI (zW zI (ze b e.toNat)*256)+zW zI (ze b (zW zI (e+(1:Int))).toNat)))<=(b.size:Int) then bif 0<=zW zI (e+2) then bif zW zI (e+2)<=(((zW zI (zW zI (e+2)+zW zI (zW zI (zW zI (ze b e.toNat)*256)+zW zI (ze b (zW zI (e+(1:Int))).toNat)))).toNat:Nat):Int) then bif(List.length c+List.length ([(b.extract (zW zI (e+(2:Int))).toNat (zW zI (zW zI (e+(2:Int))+zW zI (zW zI (zW zI (ze b e.toNat)*(256:Int))+zW zI (ze b (zW zI (e+(1:Int))).toNat)))).toNat)]:List ByteArray))*16<=140737488355328 then bif(List.length d+List.length ([(zW zI (zW zI (e+(2:Int))+zW zI (zW zI (zW zI (ze b e.toNat)*(256:Int))+zW zI (ze b (zW zI (e+(1:Int))).toNat))))]:List Int))*8<=140737488355328 then g a b (c++([(b.extract (zW zI (e+(2:Int))).toNat (zW zI (zW zI (e+2)+zW zI (zW zI (zW zI (ze b e.toNat)*256)+zW zI (ze b (zW zI (e+(1:Int))).toNat)))).toNat)]:List ByteArray)) (d++([(zW zI (zW zI (e+2)+zW zI (zW zI (zW zI (ze b e.toNat)*256)+zW zI (ze b (zW zI (e+(1:Int))).toNat))))]:List Int)) (zW zI (zW zI (e+2)+zW zI (zW zI (zW zI (ze b e.toNat)*256)+zW zI (ze b (zW zI (e+(1:Int))).toNat)))) else none else none else none else none else none else none)) else h b c d e
def zyc{R:Type}(a:ByteArray)(b:(List ByteArray))(c:Int)(d:(List Int))(e:Int)(f:(List ByteArray))(g:(List Int))(h:Int)(i:(List ByteArray)->Int->(List Int)->Int->Option R):Option R:=
 i b c d e
def zyd{R:Type}(a:ByteArray)(b:(List ByteArray))(c:(List Int))(d:Int)(e:(List ByteArray)->Int->(List Int)->Int->Option R):Option R:=
 e b (zW zI ((a.size:Int)-d)) c (-1:Int)
def Hj:Nat->Int->ByteArray->(List ByteArray)->(List Int)->Int->Option (Sum (ByteArray×(List ByteArray)×Int×(List Int)×Int×(List ByteArray)×(List Int)×Int) (ByteArray×(List ByteArray)×(List Int)×Int))
 |0,_,_,_,_,_=>none
 |k+1,v0,v1,v2,v3,v4=>UA v0 v1 v2 v3 v4 (fun a0 a1 a2 a3 a4 a5 a6 a7=>some (.inl (a0,a1,a2,a3,a4,a5,a6,a7))) (fun a0 a1 a2 a3 a4=>Hj k a0 a1 a2 a3 a4) (fun a0 a1 a2 a3=>some (.inr (a0,a1,a2,a3)))
def s4(a:Int)(b:ByteArray):Option ((List ByteArray)×Int×(List Int)×Int):=
 Uz a b (fun a0 a1 a2 a3 a4=>(Hj ag a0 a1 a2 a3 a4).bind fun e=>Sum.elim (fun(we:(ByteArray×(List ByteArray)×Int×(List Int)×Int×(List ByteArray)×(List Int)×Int))=>zyc we.1 we.2.1 we.2.2.1 we.2.2.2.1 we.2.2.2.2.1 we.2.2.2.2.2.1 we.2.2.2.2.2.2.1 we.2.2.2.2.2.2.2 (fun a0 a1 a2 a3=>some (a0,a1,a2,a3))) (fun(we:(ByteArray×(List ByteArray)×(List Int)×Int))=>zyd we.1 we.2.1 we.2.2.1 we.2.2.2 (fun a0 a1 a2 a3=>some (a0,a1,a2,a3))) e)
def UI{R:Type}(a b:ct)(c:Bool->Option R)(d:ct->ct->Int->Option R):Option R:=
 bif !decide (((List.length a):Int)=((List.length b):Int)) then c false else d a b 0
def zyi{R:Type}(a b:ct)(c:Int)(d:Bool->Option R)(e:ct->ct->Int->Option R)(f:Option R):Option R:=
 bif c<((List.length a):Int) then zd c (List.length a) (zd c (List.length b) (bif !(decide ((List.getD a c.toNat (0,0,bs [],0,())).1=(List.getD b c.toNat (0,0,bs [],0,())).1)&&(decide ((List.getD a c.toNat (0,0,bs [],0,())).2.1=(List.getD b c.toNat (0,0,bs [],0,())).2.1)&&(decide ((List.getD a c.toNat (0,0,bs [],0,())).2.2.1=(List.getD b c.toNat (0,0,bs [],0,())).2.2.1)&&(decide ((List.getD a c.toNat (0,0,bs [],0,())).2.2.2.1=(List.getD b c.toNat (0,0,bs [],0,())).2.2.2.1)&&true)))) then d false else e a b (zW zI (c+1)))) else f
def UJ{R:Type}(a:Bool)(b:Bool->Option R):Option R:=
 b a
def UK{R:Type}(a:Bool->Option R):Option R:=
 a true
def QG:Nat->ct->ct->Int->Option (Sum Bool Unit)
 |0,_,_,_=>none
 |k+1,v0,v1,v2=>zyi v0 v1 v2 (fun a0=>some (.inl a0)) (fun a0 a1 a2=>QG k a0 a1 a2) (some (.inr ()))
def nY(a b:ct):Option Bool:=
 UI a b (fun a0=>some a0) (fun a0 a1 a2=>(QG ag a0 a1 a2).bind fun e=>Sum.elim (fun(we:Bool)=>UJ we (fun a0=>some a0)) (fun(we:Unit)=>UK (fun a0=>some a0)) e)
def QE{R:Type}(a:ak)(b:Int)(c:ak->Int->Int->Int->Option R):Option R:=
 c a b ((List.length a):Int) 0
def FJ{R:Type}(a:ak)(b c d:Int)(e:Int->Bool->Int->Option R)(f:ak->Int->Int->Int->Option R)(g:Int->Int->Option R):Option R:=
 bif d<((List.length a):Int) then bif b<c then e b true c else zd d (List.length a) (bif b<(((List.getD a d.toNat (0,bs [],())).2.1).size:Int) then e b true c else zd d (List.length a) (f a b (zW zI (c+(((List.getD a d.toNat (0,bs [],())).2.1).size:Int))) (zW zI (d+1)))) else g b c
def zyf{R:Type}(a:Int)(b:Bool)(c:Int)(d:Bool->Option R):Option R:=
 d b
def zyg{R:Type}(a b:Int)(c:Bool->Option R):Option R:=
 c (decide (a<b))
def QD:Nat->ak->Int->Int->Int->Option (Sum J1 (Int×Int))
 |0,_,_,_,_=>none
 |k+1,v0,v1,v2,v3=>FJ v0 v1 v2 v3 (fun a0 a1 a2=>some (.inl (a0,a1,a2))) (fun a0 a1 a2 a3=>QD k a0 a1 a2 a3) (fun a0 a1=>some (.inr (a0,a1)))
def lP(a:ak)(b:Int):Option Bool:=
 QE a b (fun a0 a1 a2 a3=>(QD ag a0 a1 a2 a3).bind fun e=>Sum.elim (fun(we:J1)=>zyf we.1 we.2.1 we.2.2 (fun a0=>some a0)) (fun(we:(Int×Int))=>zyg we.1 we.2 (fun a0=>some a0)) e)
def UM{R:Type}(a:ak)(b:Int)(c:ak->Int->ByteArray->Int->Option R):Option R:=
 c a b (bs []) 0
def FK{R:Type}(a:ak)(b:Int)(c:ByteArray)(d:Int)(e:ak->Int->ByteArray->Int->Option R)(f:ByteArray->Option R):Option R:=
 bif d<((List.length a):Int) then zd d (List.length a) (bif(List.getD a d.toNat (0,bs [],())).1=b then zd d (List.length a) (bif c.size+((List.getD a d.toNat (0,bs [],())).2.1).size<=9223372036854775807 then e a b (c++(List.getD a d.toNat (0,bs [],())).2.1) (zW zI (d+1)) else none) else e a b c (zW zI (d+1))) else f c
def zyj{R:Type}(a:ByteArray)(b:ByteArray->Option R):Option R:=
 b a
def QH:Nat->ak->Int->ByteArray->Int->Option ByteArray
 |0,_,_,_,_=>none
 |k+1,v0,v1,v2,v3=>FK v0 v1 v2 v3 (fun a0 a1 a2 a3=>QH k a0 a1 a2 a3) (fun a0=>some a0)
def qT(a:ak)(b:Int):Option ByteArray:=
 UM a b (fun a0 a1 a2 a3=>(QH ag a0 a1 a2 a3).bind fun e=>zyj e (fun a0=>some a0))
def UB{R:Type}(a:Int)(b:ByteArray)(c:(List Int)->Option R):Option R:=
 (s4 a b).bind fun r1=>bif 0<=r1.2.2.2 then bif(List.length r1.2.2.1+List.length ([r1.2.2.2]:List Int))*8<=140737488355328 then c (r1.2.2.1++([r1.2.2.2]:List Int)) else none else c r1.2.2.1
def s6(a:Int)(b:ByteArray):Option (List Int):=
 UB a b (fun a0=>some a0)
def UE{R:Type}(a:Int)(b:ak)(c:Int->ak->ak->Int->(List Int)->(List Int)->(List Int)->(List ByteArray)->Option R):Option R:=
 (qT b (0:Int)).bind fun r1=>(qT b (1:Int)).bind fun r2=>c a b [] 0 ([0,0]:List Int) ([0,0]:List Int) ([0,0]:List Int) ([r1,r2]:List ByteArray)
def Hk{R:Type}(a:Int)(b c:ak)(d:Int)(e f g:(List Int))(h:(List ByteArray))(i:Int->ak->ak->Int->(List Int)->(List Int)->(List Int)->(List ByteArray)->Option R)(j:Int->ak->ak->Int->Int->(List Int)->(List Int)->(List Int)->(List Int)->(List ByteArray)->Option R)(l:ak->(List Int)->(List ByteArray)->Option R):Option R:=
 bif d<((List.length b):Int) then zd d (List.length b) (bif(List.getD b d.toNat (0,bs [],())).1<0 then i a b c (zW zI (d+1)) e f g h else bif 1<(List.getD b d.toNat (0,bs [],())).1 then i a b c (zW zI (d+1)) e f g h else zd (List.getD b d.toNat (0,bs [],())).1 2 (zd d (List.length b) (zd (List.getD b d.toNat (0,bs [],())).1 2 (zd (List.getD b d.toNat (0,bs [],())).1 2 ((s6 a (List.getD h ((List.getD b d.toNat (0,bs [],())).1).toNat (bs []))).bind fun r3=>j a b c d (List.getD b d.toNat (0,bs [],())).1 r3 (List.set e ((List.getD b d.toNat (0,bs [],())).1).toNat (zW zI (List.getD e ((List.getD b d.toNat (0,bs [],())).1).toNat 0+(((List.getD b d.toNat (0,bs [],())).2.1).size:Int)))) f g h))))) else l c g h
def UF{R:Type}(a:ak)(b:(List Int))(c:(List ByteArray))(d:ak->Option R):Option R:=
 zd 0 2 (zd 0 2 (bif 0<=List.getD b ((0:Int)).toNat 0 then bif List.getD b ((0:Int)).toNat 0<=(((List.getD c ((0:Int)).toNat (bs [])).size:Nat):Int) then zd 1 2 (zd 1 2 (bif 0<=List.getD b ((1:Int)).toNat 0 then bif List.getD b ((1:Int)).toNat 0<=(((List.getD c ((1:Int)).toNat (bs [])).size:Nat):Int) then bif(List.length a+List.length ([((0:Int),(List.getD c ((0:Int)).toNat (bs [])).extract (List.getD b ((0:Int)).toNat (0:Int)).toNat (List.getD c ((0:Int)).toNat (bs [])).size,()),((1:Int),(List.getD c ((1:Int)).toNat (bs [])).extract (List.getD b ((1:Int)).toNat (0:Int)).toNat (List.getD c ((1:Int)).toNat (bs [])).size,())]:List bd))*24<=140737488355328 then d (a++([(0,(List.getD c ((0:Int)).toNat (bs [])).extract (List.getD b ((0:Int)).toNat (0:Int)).toNat (List.getD c ((0:Int)).toNat (bs [])).size,()),(1,(List.getD c ((1:Int)).toNat (bs [])).extract (List.getD b ((1:Int)).toNat (0:Int)).toNat (List.getD c ((1:Int)).toNat (bs [])).size,())]:List bd)) else none else none else none)) else none else none))
def Hl{R:Type}(a:Int)(b c:ak)(d e:Int)(f g h i:(List Int))(j:(List ByteArray))(l:Int->ak->ak->Int->Int->(List Int)->(List Int)->(List Int)->(List Int)->(List ByteArray)->Option R)(m:Int->ak->ak->Int->(List Int)->(List Int)->(List Int)->(List ByteArray)->Option R):Option R:=
 zd e 2 (bif List.getD h e.toNat 0<((List.length f):Int) then zd e 2 (zd (List.getD h e.toNat 0) (List.length f) (zd e 2 (bif List.getD f (List.getD h e.toNat (0:Int)).toNat 0<=List.getD g e.toNat 0 then zd e 2 (zd e 2 (zd e 2 (zd (List.getD h e.toNat 0) (List.length f) (bif 0<=List.getD f (List.getD h e.toNat (0:Int)).toNat 0 then bif List.getD f (List.getD h e.toNat (0:Int)).toNat 0<=(((List.getD j e.toNat (bs [])).size:Nat):Int) then bif 0<=List.getD i e.toNat 0 then bif List.getD i e.toNat 0<=(((List.getD f (List.getD h e.toNat (0:Int)).toNat (0:Int)).toNat:Nat):Int) then bif(List.length c+List.length ([(e,(List.getD j e.toNat (bs [])).extract (List.getD i e.toNat (0:Int)).toNat (List.getD f (List.getD h e.toNat (0:Int)).toNat (0:Int)).toNat,())]:List bd))*24<=140737488355328 then zd e 2 (zd (List.getD h e.toNat 0) (List.length f) (zd e 2 (zd e 2 (zd e 2 (l a b (c++([(e,(List.getD j e.toNat (bs [])).extract (List.getD i e.toNat (0:Int)).toNat (List.getD f (List.getD h e.toNat (0:Int)).toNat (0:Int)).toNat,())]:List bd)) d e f g (List.set h e.toNat (zW zI (List.getD h e.toNat 0+1))) (List.set i e.toNat (List.getD f (List.getD h e.toNat (0:Int)).toNat 0)) j))))) else none else none else none else none else none)))) else m a b c d g h i j))) else m a b c d g h i j)
def UG{R:Type}(a:Int)(b c:ak)(d:Int)(e f g:(List Int))(h:(List ByteArray))(i:Int->ak->ak->Int->(List Int)->(List Int)->(List Int)->(List ByteArray)->Option R):Option R:=
 i a b c (zW zI (d+1)) e f g h
def Bz:Nat->Int->ak->ak->Int->Int->(List Int)->(List Int)->(List Int)->(List Int)->(List ByteArray)->Option (Int×ak×ak×Int×(List Int)×(List Int)×(List Int)×(List ByteArray))
 |0,_,_,_,_,_,_,_,_,_,_=>none
 |k+1,v0,v1,v2,v3,v4,v5,v6,v7,v8,v9=>Hl v0 v1 v2 v3 v4 v5 v6 v7 v8 v9 (fun a0 a1 a2 a3 a4 a5 a6 a7 a8 a9=>Bz k a0 a1 a2 a3 a4 a5 a6 a7 a8 a9) (fun a0 a1 a2 a3 a4 a5 a6 a7=>some (a0,a1,a2,a3,a4,a5,a6,a7))
def vf:Nat->Int->ak->ak->Int->(List Int)->(List Int)->(List Int)->(List ByteArray)->Option (ak×(List Int)×(List ByteArray))
 |0,_,_,_,_,_,_,_,_=>none
 |k+1,v0,v1,v2,v3,v4,v5,v6,v7=>Hk v0 v1 v2 v3 v4 v5 v6 v7 (fun a0 a1 a2 a3 a4 a5 a6 a7=>vf k a0 a1 a2 a3 a4 a5 a6 a7) (fun a0 a1 a2 a3 a4 a5 a6 a7 a8 a9=>(Bz ag a0 a1 a2 a3 a4 a5 a6 a7 a8 a9).bind fun e=>UG e.1 e.2.1 e.2.2.1 e.2.2.2.1 e.2.2.2.2.1 e.2.2.2.2.2.1 e.2.2.2.2.2.2.1 e.2.2.2.2.2.2.2 (fun a0 a1 a2 a3 a4 a5 a6 a7=>vf k a0 a1 a2 a3 a4 a5 a6 a7)) (fun a0 a1 a2=>some (a0,a1,a2))
def s7(a:Int)(b:ak):Option ak:=
 UE a b (fun a0 a1 a2 a3 a4 a5 a6 a7=>(vf ag a0 a1 a2 a3 a4 a5 a6 a7).bind fun e=>UF e.1 e.2.1 e.2.2 (fun a0=>some a0))
end bm

