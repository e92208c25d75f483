/- No condition. -/
import Derived.Test.YtpjkbbihjoflnaaGreatDoorK1
import Derived.OpenShut
import Derived.Deep.Slices
import Derived.Shelf.Strings.Repeat
set_option linter.unusedVariables false
set_option linter.unusedSimpArgs false
set_option maxRecDepth 100000
namespace Go.Ref
open Go
variable {P:Program} {E:Env} {X:ax} {s:State} {a:Act}
def fA(X Y:ax):Prop:=Y.w=X.w/\∀g j p n,X.ow g= .row (.r j p) n->Y.ow g= .row (.r j p) n
theorem fA.refl(X:ax):fA X X:=⟨rfl,fun _ _ _ _ h=>h⟩
theorem fA.trans{X Y Z:ax}(h:fA X Y)(k:fA Y Z):fA X Z:=⟨k.1.trans h.1,fun g j p n e=>k.2 g j p n (h.2 g j p n e)⟩
theorem aA.Bw{X Y:ax}(h:fA X Y)(hx:Ext X Y)(hβ:Y.β=X.β){j:Nat}{sv:SV}{v:Value}(hn:sv.bM=false)(hr:aA X (.r j) sv v):aA Y (.r j) sv v:=by
 cases sv with
 |undef=>trivial
 |skip=>exact hr
 |cJ=>exact hr
 |eh=>exact hr
 |over=>exact hr
 |aj t x own=>
  obtain⟨cs,h1,h2,h3⟩:=hr
  refine⟨cs,h1.mono hx,h2,fun p hp=> ?_⟩
  obtain⟨e,t',xs,v,g0,g1,g2,g3⟩:=h3 p hp
  refine⟨e,t',xs,v,g0,g1,g2,?_⟩
  rcases g3 with ho|⟨g,cap,cur,k1,k2,k3,k4,k5,k6⟩
  ·exact .inl ho
  ·exact .inr ⟨g,cap,cur,k1,by rw[h.1];exact k2,k3,k4,k5,h.2 _ _ _ _ k6⟩
 |ptr id t p=>obtain⟨r,h1,h2⟩:=hr;exact⟨r,by rw[hβ];exact h1,h2⟩
 |view t x=>
  obtain⟨ad,cs,h1,h2,h3,h4⟩:=hr
  exact⟨ad,cs,h1,h2,h3.mono hx,fun i u hi=>hx.ay _ _ (h4 i u hi)⟩
 |cap f t x u y=>exact sG hx.ay hr
 |bA id a b k=>cases hn
theorem aeF{X:ax}{i j:Nat}{q:List Nat->Place}:fA X (X.turn i j q):=⟨rfl,fun g j p n h=>by simp only[ax.turn,h]⟩
theorem adC{X:ax}{id:Nat}{p:List Nat}{q:List Nat->Place}:fA X (X.ij id p q):=⟨rfl,fun g j p n h=>by simp only[ax.ij,h]⟩
theorem ES(hE:ak P E):∀(rs:List ResultVar) (X:ax) (s s':State) (l:List SV) (j0:Nat),Rel X s a->ic E s rs=some (l,s')->
 ∃Y vs,Y.w=X.w/\Ext X Y/\fA X Y/\Y.β=X.β/\Rel Y s' a/\vs.length=l.length/\(∀(j:Nat) sv v,l[j]? =some sv->vs[j]? =some v->aA Y (.r (j0+j)) sv v)/\l.any SV.bM=false/\
  (rs.mapM (m:=Sem) fun x=>match x with
    | .tmp t=>pure (a.tmps.getD t Go.undef)
    | .cell ad t=>do loadVar t (<-asAddr (a.tmps.getD ad Go.undef))).run P X.w= .ok vs X.w
 | [],X,s,s',l,j0,hr,h=>by
   simp only[ic,Option.some.injEq,Prod.mk.injEq] at h
   obtain⟨rfl,rfl⟩:=h
   exact⟨X,[],rfl,Ext.refl X,fA.refl X,rfl,hr,rfl,(fun j sv v hl=>by simp at hl),rfl,by simp⟩
 | .tmp t::r,X,s,s',l,j0,hr,h=>by
   simp only[ic] at h
   split at h
   case isTrue=>cases h
   rename_i eA
   have eA:(one (s.slot t)).bM=false:=by simpa using eA
   split at h
   case h_2=>cases h
   rename_i l1 s1 h1
   cases h
   have key:∃Y,Y.w=X.w/\Ext X Y/\fA X Y/\Y.β=X.β/\Rel Y (s.close [(t,0)]) a/\aA Y (.r j0) (one (s.slot t)) (a.tmps.getD t Go.undef):=by
    have cH:=hr.aG (.tmp t)
    cases hs:one (s.slot t) with
    |aj ty x w=>
     have cH:aA X (.c t 0) (one (s.slot t)) (a.tmps.getD t Go.undef):=cH
     rw[hs] at cH
     obtain⟨cs,g1,g2,g3⟩:=cH
     have hT:eD (s.close [(t,0)]) X (X.turn t 0 (.r j0)):=z156 fun p=>dc.close
     exact⟨X.turn t 0 (.r j0),rfl,hT.ext,aeF,rfl,(hr.close _).mod hT.mod,cs,g1.ai (fun _ _=>hT.ay.1),g2,g3.mR⟩
    |bA id c b n=>rw[hs] at eA;cases eA
    |_=>
     refine⟨X,rfl,Ext.refl X,fA.refl X,rfl,hr.close _,?_⟩
     have cH:aA X (.c t 0) (one (s.slot t)) (a.tmps.getD t Go.undef):=cH
     rw[hs] at cH
     exact cH
   obtain⟨Y,hw,aY,bQ,hβ,bz,aM⟩:=key
   obtain⟨Z,vs,vT,cf,ve,hβ2,dg,hlen,nK,uV,aX⟩:=ES hE r Y _ s' l1 (j0+1) bz h1
   refine⟨Z,a.tmps.getD t Go.undef::vs,vT.trans hw,aY.trans cf,bQ.trans ve,hβ2.trans hβ,dg,by simp [hlen],fun j sv v hl hv=> ?_,?_,?_⟩
   ·cases j with
    |zero=>
     simp only[List.getElem?_cons_zero,Option.some.injEq] at hl hv
     subst hl hv
     exact aM.Bw ve cf hβ2 eA
    |succ j=>
     simp only[List.getElem?_cons_succ] at hl hv
     rw[show j0+(j+1)=j0+1+j by omega]
     exact nK j sv v hl hv
   ·simp only[List.any_cons,eA,uV,Bool.or_self]
   ·rw[hw] at aX
    simp only[List.mapM_cons,Sem.run_bind,Sem.run_pure,Result.andThen_ok,aX]
 | .cell p T::r,X,s,s',l,j0,hr,h=>by
   simp only[ic] at h
   split at h
   case h_2=>cases h
   rename_i id tt t jc hT
   split at h
   case h_2=>cases h
   rename_i B hB
   split at h
   case isFalse=>cases h
   rename_i heq
   rw[Bool.and_eq_true] at heq
   have eI:tt.bH=false:=by simpa using heq.2
   have hte:=Ty.aI heq.1
   have hnB:B.t.bH=false:=hte▸hE.jA hT
   split at h
   case h_2=>cases h
   rename_i l1 s1 h1
   cases h
   have hb:=rh hB
   obtain⟨r0,hβ,uH⟩:=hr.boxes id B hb
   obtain⟨cs,T',aE,aM,how,bT⟩:=uH.cells hnB
   have eL:=hr.slot p
   rw[jc] at eL
   obtain⟨r1,hβ1,hvp⟩:aA X (.c p 0) (.ptr id tt []) (a.tmps.getD p Go.undef):=eL
   obtain⟨hv,_⟩:=(rf eI).1 hvp
   rw[hβ] at hβ1
   cases hβ1
   have ea:Rel X (s.aB (some (id,{B with own:=[]}))) a:=hr.mQ hb hβ ⟨how,dK.of hnB aE aM m7⟩ (.inl (Se hnB))
   have HD:∀q,¬dc (s.aB (some (id,{B with own:=[]}))) (.b id ([]++q)):=by
    rintro q ⟨B2,c8,hp⟩
    rw[TQ hb] at c8
    cases c8
    cases hp
   have mY:=zwx (X:=X) (q:= .r j0) HD
   have LB:aA (X.ij id [] (.r j0)) (.r j0) (.aj B.t B.x B.own) (eb B.t cs.toList):=by
    refine⟨cs.toList,aM.ai (fun _ _=>mY.ay.1),rfl,fun q hq=> ?_⟩
    obtain⟨e,t',xs,v,g0,g1,g2,g3⟩:=bT q hq
    exact⟨e,t',xs,v,g0,g1,g2,bu.qZ (p:=[]) g3⟩
   obtain⟨Z,vs,vT,cf,ve,hβ2,dg,hlen,nK,uV,aX⟩:=ES hE r (X.ij id [] (.r j0)) _ s' l1 (j0+1) (ea.mod mY.mod) h1
   refine⟨Z,eb B.t cs.toList::vs,vT,mY.ext.trans cf,adC.trans ve,hβ2,dg,by simp [hlen],fun j sv v hl hv=> ?_,?_,?_⟩
   ·cases j with
    |zero=>
     simp only[List.getElem?_cons_zero,Option.some.injEq] at hl hv
     subst hl hv
     exact LB.Bw ve cf hβ2 rfl
    |succ j=>
     simp only[List.getElem?_cons_succ] at hl hv
     rw[show j0+(j+1)=j0+1+j by omega]
     exact nK j sv v hl hv
   ·simpa [SV.bM] using uV
   ·have hl:=BG (P:=P) hE (hte▸hT:E.ty T=some B.t) aM (ad:=⟨r0,0,none⟩) (w:=X.w) (fun i v hi=>by
     rw[jq,Nat.zero_add]
     simp only[World.cell?,aE]
     simpa using hi)
    have hw3:(X.ij id [] (.r j0)).w=X.w:=rfl
    rw[hw3] at aX
    have jK:a.tmps.getD p Go.undef= .pointer (some ⟨r0,0,none⟩):=by simpa [Ty.off] using hv
    have ha:(asAddr (.pointer (some ⟨r0,0,none⟩))).run P X.w= .ok ⟨r0,0,none⟩ X.w:=by simp [asAddr]
    simp only[List.mapM_cons,Sem.run_bind,Sem.run_pure,Result.andThen_ok,aX,jK,ha,hl]
def ax.zero(X:ax)(id:Nat):ax:=
 {X with ow:=fun g=>match X.ow g with
  | .box bc=>if bc=id then .box 0 else .box bc
  | .row (.b bc p) n=>if bc=id then .row (.b 0 p) n else .row (.b bc p) n
  |w=>w}
theorem HW{id:Nat}{ad:Addr}{v:Value}(h:X.ay ad v):(X.zero id).ay ad v:=by
 refine⟨h.1,h.2.1,?_⟩
 have:=h.2.2
 simp only[ax.zero]
 cases hx:X.ow ad.block with
 |box i=>rw[hx] at this;exact this.elim
 |row pl n=>
  rw[hx] at this
  cases pl with
  |b i p=>simp only;split<;>exact this
  |_=>exact this
 |_=>rw[hx] at this;exact this
theorem alY{id:Nat}:Ext X (X.zero id) where
 ay:=fun _ _=>HW
 size:=Nat.le_refl _
 os:=rfl
 tape:=rfl
 output:=rfl
 β0:=rfl
 still:=fun g _ bQ=>by
  refine⟨?_,rfl⟩
  simp only[ax.zero]
  cases hx:X.ow g with
  |box i=>rw[hx] at bQ;exact bQ.elim
  |row pl n=>rw[hx] at bQ;exact bQ.elim
  |_=>rfl
theorem bE.zero{id r:Nat}{B:bD}(h:bE X id r B):bE (X.zero id) 0 r B:=by
 obtain⟨h3,h1⟩:=h
 refine⟨by simp [ax.zero,h3],h1.move (fun _ _=>HW) rfl (fun cs h4 p hp=> ?_) fun _ _ g o _ ho hw=>⟨ho,by simp [ax.zero,hw]⟩⟩
 obtain⟨e,t',xs,v,g0,g1,g2,g3⟩:=h4 p hp
 refine⟨e,t',xs,v,g0,g1,g2,?_⟩
 rcases g3 with ho|⟨g,cap,cur,k1,k2,k3,k4,k5,k6⟩
 ·exact .inl ho
 ·exact .inr ⟨g,cap,cur,k1,k2,k3,k4,k5,by simp [ax.zero,k6]⟩
theorem aA.zero{id j r0:Nat}{sv:SV}{v:Value}(hp:∀bc t p,sv= .ptr bc t p->X.β bc=some r0)(hn:sv.bM=false)(h:aA X (.r j) sv v):aA {X.zero id with β:=fun _=>some r0} (.r j) (sv.gO 0) v:=by
 cases sv with
 |undef=>trivial
 |skip=>exact h
 |cJ=>exact h
 |eh=>exact h
 |over=>exact h
 |aj t x own=>
  obtain⟨cs,h1,h2,h3⟩:=h
  refine⟨cs,bh.ai (Y:={X.zero id with β:=fun _=>some r0}) (fun ad v hs=>(HW hs:(X.zero id).ay ad v)) h1,h2,fun p hp=> ?_⟩
  obtain⟨e,t',xs,v,g0,g1,g2,g3⟩:=h3 p hp
  refine⟨e,t',xs,v,g0,g1,g2,?_⟩
  rcases g3 with ho|⟨g,cap,cur,k1,k2,k3,k4,k5,k6⟩
  ·exact .inl ho
  ·exact .inr ⟨g,cap,cur,k1,k2,k3,k4,k5,by simp [ax.zero,k6]⟩
 |ptr bc t p=>
  obtain⟨r,h1,h2⟩:=h
  have:=hp bc t p rfl
  rw[h1] at this
  cases this
  exact⟨r0,rfl,h2⟩
 |view t x=>
  obtain⟨ad,cs,h1,h2,h3,h4⟩:=h
  exact⟨ad,cs,h1,h2,bh.ai (Y:={X.zero id with β:=fun _=>some r0}) (fun ad v hs=>(HW hs:(X.zero id).ay ad v)) h3,fun i u hi=>(HW (h4 i u hi):(X.zero id).ay _ _)⟩
 |cap f t x u y=>exact sG (Y:={X.zero id with β:=fun _=>some r0}) (fun ad v hs=>(HW hs:(X.zero id).ay ad v)) h
 |bA bc a b k=>cases hn
theorem aA.anyβ{j r0:Nat}{sv:SV}{v:Value}(hp:∀bc t p,sv≠ .ptr bc t p)(hn:sv.bM=false)(h:aA X (.r j) sv v):aA {X with β:=fun _=>some r0} (.r j) sv v:=by
 cases sv with
 |undef=>trivial
 |skip=>exact h
 |cJ=>exact h
 |eh=>exact h
 |over=>exact h
 |aj t x own=>
  obtain⟨cs,h1,h2,h3⟩:=h
  exact⟨cs,bh.ai (X:=X) (Y:={X with β:=fun _=>some r0}) (fun ad v (hs:X.ay ad v)=>(hs:({X with β:=fun _=>some r0}:ax).ay ad v)) h1,h2,h3⟩
 |ptr bc t p=>exact absurd rfl (hp bc t p)
 |view t x=>
  obtain⟨ad,cs,h1,h2,h3,h4⟩:=h
  exact⟨ad,cs,h1,h2,bh.ai (X:=X) (Y:={X with β:=fun _=>some r0}) (fun ad v (hs:X.ay ad v)=>(hs:({X with β:=fun _=>some r0}:ax).ay ad v)) h3,h4⟩
 |cap f t x u y=>exact sG (X:=X) (Y:={X with β:=fun _=>some r0}) (fun ad v (hs:X.ay ad v)=>(hs:({X with β:=fun _=>some r0}:ax).ay ad v)) h
 |bA bc a b k=>cases hn
theorem Ut:∀{l:List SV} {id:Nat} {t:Ty} {p:List Nat},SV.ptr id t p∈l->id∈B6 l
 |v::r,id,t,p,h=>by
  rcases List.mem_cons.1 h with e|h
  ·subst e;simp [B6]
  ·have:=Ut h
   cases v<;>simp [B6,this]
theorem ER{l:List SV}{vs:List Value}(hlen:vs.length=l.length)(h:∀(j:Nat) sv v,l[j]? =some sv->vs[j]? =some v->aA X (.r j) sv v):cS X .r l (if h:vs.toArray.size=1 then vs.toArray[0] else .tuple vs.toArray):=by
 match l,vs,hlen with
 | [sv],[v],_=>exact h 0 sv v rfl rfl
 | [],[],_=>exact⟨#[],rfl,rfl,fun j s u hs=>by simp at hs⟩
 |x::y::r,u::v::w,hlen=>
  refine⟨(u::v::w).toArray,by simp,by simpa using hlen,fun j s z hs hz=>h j s z hs (by simpa using hz)⟩
theorem acM{Z:ax}{s':State}{b:Option bD}{l' r:List SV}{b':Option bD}{vs:List Value}(hX:Ext X Z)(dg:Rel Z s' a)(hlen:vs.length=l'.length)(jv:∀(j:Nat) sv v,l'[j]? =some sv->vs[j]? =some v->aA Z (.r j) sv v)
 (eA:l'.any SV.bM=false) (fp:ID s' b l' (fun r b=>some (r,b))=some (r,b')):∃Y',Y'.w=Z.w/\Ext X Y'/\yQ X Y' b r b' (if h:vs.toArray.size=1 then vs.toArray[0] else .tuple vs.toArray):=by
 unfold ID at fp
 cases b with
 |some B=>
  cases hp:B6 l' with
  |cons _ _=>rw[hp] at fp;cases fp
  |nil=>
   rw[hp] at fp
   have og:∀id t p,SV.ptr id t p∉l':=fun id t p hm=>by
    have:=Ut hm
    rw[hp] at this;cases this
   cases eQ:s'.box 0 with
   |none=>simp only[eQ] at fp;cases fp
   |some B'=>
    simp only[eQ] at fp
    cases fp
    obtain⟨r0,h3,h4⟩:=dg.boxes 0 B' (rh eQ)
    refine⟨Z,rfl,hX,r0,ER hlen fun j sv v h1 h2=>(jv j sv v h1 h2).anyβ (fun id t p e=>og id t p (e▸List.mem_of_getElem? h1)) (by simpa using List.any_eq_false.1 eA sv (List.mem_of_getElem? h1)),fun B2 c8=> ?_,fun _=>og,eA⟩
    cases c8
    exact⟨h4,fun _=>by rw[<-hX.β0];exact h3⟩
 |none=>
  cases hp:B6 l' with
  |nil=>
   rw[hp] at fp
   have og:∀id t p,SV.ptr id t p∉l':=fun id t p hm=>by
    have:=Ut hm
    rw[hp] at this;cases this
   cases fp
   exact⟨Z,rfl,hX,0,ER hlen fun j sv v h1 h2=>(jv j sv v h1 h2).anyβ (fun id t p e=>og id t p (e▸List.mem_of_getElem? h1)) (by simpa using List.any_eq_false.1 eA sv (List.mem_of_getElem? h1)),(fun B2 c8=>by cases c8),fun _=>og,eA⟩
  |cons id rest=>
   rw[hp] at fp
   cases rest with
   |cons _ _=>cases fp
   |nil=>
    cases hB:s'.box id with
    |none=>simp only[hB] at fp;cases fp
    |some B=>
     simp only[hB] at fp
     cases fp
     obtain⟨r0,h3,h4⟩:=dg.boxes id B (rh hB)
     refine⟨Z.zero id,rfl,hX.trans alY,r0,?_,fun B2 c8=> ?_,fun hh=> ?_,Nu eA⟩
     ·refine ER (by simpa using hlen) fun j sv v h1 h2=> ?_
      rw[List.getElem?_map] at h1
      obtain⟨s0,fF,rfl⟩:=Option.map_eq_some_iff.1 h1
      refine(jv j s0 v fF h2).zero (fun bc t p e=> ?_) (by simpa using List.any_eq_false.1 eA s0 (List.mem_of_getElem? fF))
      have:=Ut (e▸List.mem_of_getElem? fF)
      rw[hp] at this
      simp only[List.mem_singleton] at this
      subst this
      exact h3
     ·cases c8
      exact⟨h4.zero,fun hh=>by cases hh⟩
     ·rcases hh with hh|hh<;>cases hh
theorem Ub:∀(ts:List Ty) (l:List SV),(aN ts l).length=l.length
 | [],l=>by simp [aN]
 |t::r,[]=>by simp [aN]
 |t::r,v::q=>by
  cases t<;>cases v<;>simp [aN,Ub r q]
theorem Nh{X:ax}:∀(ts:List Ty) (l:List SV) (i:Nat) (sv:SV) (v:Value),(aN ts l)[i]? =some sv->(∀sv,l[i]? =some sv->∃pl,aA X pl sv v)->∀q,(∃yl,l[i]? =some yl/\(sv=yl\/sv=yl.shut\/yl= .cJ))/\((∀yl,l[i]? =some yl->aA X q yl v)->aA X q sv v)
 | [],l,i,sv,v,h,_,q=>by
   have h:l[i]? =some sv:=by simpa [aN] using h
   exact⟨⟨sv,h,.inl rfl⟩,fun hh=>hh sv h⟩
 |t::r,[],i,sv,v,h,_,q=>by simp [aN] at h
 |t::r,x::y,i,sv,v,h,hx,q=>by
  cases i with
  |zero=>
   have key:(aN (t::r) (x::y))[0]? =some sv->(sv=x.shut)\/(x= .cJ/\∃e u,sv= .aj (.sl e u) ([]:List (El u)) []):=by
    intro h
    cases t<;>cases x<;>simp only[aN,List.getElem?_cons_zero,Option.some.injEq] at h<;>first|exact .inl h.symm|exact .inr ⟨rfl,_,_,h.symm⟩
   rcases key h with rfl|⟨rfl,e,u,rfl⟩
   ·exact⟨⟨x,rfl,.inr (.inl rfl)⟩,fun hh=>(hh x rfl).shut⟩
   ·refine⟨⟨_,rfl,.inr (.inr rfl)⟩,fun hh=> ?_⟩
    have:=hh _ rfl
    exact⟨[.slice none 0 0],⟨none,0,rfl,Nat.le_refl _,fun j x hj=>by simp at hj⟩,this,m7⟩
  |succ i=>
   have h':(aN r y)[i]? =some sv:=by
    cases t<;>cases x<;>simpa [aN] using h
   have:=Nh r y i sv v h' (fun sv hs=>hx sv (by simpa using hs)) q
   simpa using this
theorem ahN{ts:List Ty}{l:List SV}{id:Nat}{t:Ty}{p:List Nat}(h:SV.ptr id t p∈aN ts l):SV.ptr id t p∈l:=by
 induction ts generalizing l with
 |nil=>simpa [aN] using h
 |cons u r ih=>
  cases l with
  |nil=>simp [aN] at h
  |cons v q=>
   have key:SV.ptr id t p=v.shut\/SV.ptr id t p∈aN r q:=by
    cases u<;>cases v<;>simp [aN,SV.shut] at h⊢ <;>first|exact h|exact .inr h|skip
   rcases key with e|hm
   ·rw[Uu e.symm];simp
   ·exact List.mem_cons_of_mem _ (ih hm)
theorem ahM{ts:List Ty}{l:List SV}{id j:Nat}{c d:Ty}(h:SV.bA id c d j∈aN ts l):SV.bA id c d j∈l:=by
 induction ts generalizing l with
 |nil=>simpa [aN] using h
 |cons u r ih=>
  cases l with
  |nil=>simp [aN] at h
  |cons v q=>
   have key:SV.bA id c d j=v.shut\/SV.bA id c d j∈aN r q:=by
    cases u<;>cases v<;>simp [aN,SV.shut] at h⊢ <;>first|exact h|exact .inr h|skip
   rcases key with e|hm
   ·have:=zrm v
    rw[<-e] at this
    cases this
   ·exact List.mem_cons_of_mem _ (ih hm)
theorem anS(hE:ak P E)(hm:P.follows .mixedOrders=true){C C0:ag}(hC0:C0.Nat)(hf0:∀f,de P C0 f){f:FuncId}{fn:Func}{code:Code}(jn:P.funcs[f]? =some fn)(uT:(fn.name== "runtime.NumGoroutine")=false)(qV:fn.body=some code)
 (hC:∀(l:List SV) (b:Option bD) (r:List SV) (b':Option bD),C (List SV×Option bD) f l b (fun r b=>some (r,b))=some (r,b')->∃k,jY E (C0 (List SV×Option bD)) k fn code l b (fun r b=>some (r,b))=some (r,b')):de P C f:=by
 intro l b r b' h
 refine⟨⟨fn,code,jn,uT,qV⟩,fun X args iN=> ?_⟩
 obtain⟨k,h⟩:=hC l b r b' h
 unfold jY at h
 cases hg:(E.sp.isSome&&b.isSome) with
 |true=>rw[hg] at h;cases h
 |false=>
 rw[hg,cond_false] at h
 have hF:Fr E X:=fun bK=>iN.rows (by
  cases hE2:E.sp with
  |none=>exact absurd hE2 bK
  |some z=>
   cases b with
   |none=>rfl
   |some B=>rw[hE2] at hg;cases hg)
 simp only at h
 obtain⟨⟨e,s⟩,h1,h2⟩:=kf (wA hC0 code _ (fun e s=>some (e,s)) (K:=fun z=>match z.1 with
  | .exit _=>none
  |_=>match ic E z.2 fn.results.toList with
   |some (l,s')=>ID s' b (ib E l) (fun r b=>some (r,b))
   |none=>none) (fun e s=>by cases e<;>rfl) _) h
 refine calls_of_wp jn qV ?_
 have c9:=iN.size
 refine Gf hE hm hC0 hf0 k code X X _ _ e s hF (Ext.refl X) (?_:Rel X _ _) h1 _ fun Y a' aY bz=> ?_
 ·have eA:=Ub E.ps l
  refine⟨by simp [c9,eA],by simp [eA],fun i sl v hs hv=> ?_,fun id B hB=> ?_,fun i sl id t p hs hm=> ?_,rfl,fun i sl id c d n hs hm=> ?_⟩
  ·by_cases hi:i<l.length
   ·rw[List.getElem?_append_left (by simpa [eA] using hi),List.getElem?_map] at hs
    obtain⟨sv,kc,rfl⟩:=Option.map_eq_some_iff.1 hs
    rw[Array.getElem?_append_left (by omega)] at hv
    exact(Nh E.ps l i sv v kc (fun sv h0=>⟨_,iN.rep i sv v h0 hv⟩) (.c i 0)).2 fun yl h0=>iN.rep i yl v h0 hv
   ·rw[List.getElem?_append_right (by simp [eA];omega),List.getElem?_replicate] at hs
    split at hs
    ·cases hs;trivial
    ·cases hs
  ·cases id with
   |zero=>
    simp only[List.getElem?_cons_zero,Option.some.injEq] at hB
    exact iN.box B hB
   |succ id=>
    simp only[List.getElem?_cons_succ,List.getElem?_replicate] at hB
    split at hB<;>cases hB
  ·by_cases hi:i<l.length
   ·rw[List.getElem?_append_left (by simpa [eA] using hi),List.getElem?_map] at hs
    obtain⟨sv,kc,rfl⟩:=Option.map_eq_some_iff.1 hs
    simp only[List.mem_singleton] at hm
    subst hm
    obtain⟨rfl,hb⟩:=iN.ptr id t p (ahN (List.mem_of_getElem? kc))
    cases b with
    |none=>cases hb
    |some B=>exact⟨B,rfl⟩
   ·rw[List.getElem?_append_right (by simp [eA];omega),List.getElem?_replicate] at hs
    split at hs
    ·cases hs;simp at hm
    ·cases hs
  ·exfalso
   by_cases hi:i<l.length
   ·rw[List.getElem?_append_left (by simpa [eA] using hi),List.getElem?_map] at hs
    obtain⟨sv,kc,rfl⟩:=Option.map_eq_some_iff.1 hs
    simp only[List.mem_singleton] at hm
    subst hm
    exact ZP iN.pj (ahM (List.mem_of_getElem? kc))
   ·rw[List.getElem?_append_right (by simp [eA];omega),List.getElem?_replicate] at hs
    split at hs
    ·cases hs;simp at hm
    ·cases hs
 ·
  have aay:∃l s',ic E s fn.results.toList=some (l,s')/\ID s' b (ib E l) (fun r b=>some (r,b))=some (r,b')/\(e= .normal\/e= .ret):=by
   cases e with
   |exit id=>cases h2
   |normal=>
    simp only at h2
    split at h2
    ·exact⟨_,_,by assumption,h2,.inl rfl⟩
    ·cases h2
   |ret=>
    simp only at h2
    split at h2
    ·exact⟨_,_,by assumption,h2,.inr rfl⟩
    ·cases h2
  obtain⟨l',s',ea,fp,he⟩:=aay
  obtain⟨Z,vs,hw,cf,bQ,hβ,dg,hlen,nK,aap,aX⟩:=ES hE fn.results.toList Y s s' l' 0 bz ea
  have Bb:(results fn a'.tmps).run P Y.w= .ok (if h:vs.toArray.size=1 then vs.toArray[0] else .tuple vs.toArray) Y.w:=by
   unfold results
   simp only[Array.mapM_eq_mapM_toList,Sem.run_bind,Sem.run_map,Sem.run_pure,Result.andThen_ok]
   exact congrArg (fun r:Result (List Value)=>(r.andThen fun a w'=>Result.ok a.toArray w').andThen fun a w'=>Result.ok (if h:a.size=1 then a[0] else Value.tuple a) w') aX
  have hX:Ext X Z:=aY.trans cf
  have jv:∀(j:Nat) sv v,l'[j]? =some sv->vs[j]? =some v->aA Z (.r j) sv v:=fun j sv v h1 h2=>by
   have:=nK j sv v h1 h2
   rwa [Nat.zero_add] at this
  have Lm:vs.length=(ib E l').length:=by
   unfold ib
   cases E.ro<;>simpa using hlen
  have CY:∀(j:Nat) sv v,(ib E l')[j]? =some sv->vs[j]? =some v->aA Z (.r j) sv v:=fun j sv v h1 h2=>by
   unfold ib at h1
   cases hro:E.ro with
   |false=>rw[hro] at h1;exact jv j sv v h1 h2
   |true=>
    rw[hro,cond_true,List.getElem?_map] at h1
    obtain⟨s0,fF,rfl⟩:=Option.map_eq_some_iff.1 h1
    exact aA.gb (jv j s0 v fF h2)
  have uV:(ib E l').any SV.bM=false:=by
   unfold ib
   cases E.ro with
   |false=>exact aap
   |true=>exact zj1 l'
  have fin:=acM (b:=b) hX dg Lm CY uV fp
  obtain⟨Y',Tn,hX',hL⟩:=fin
  have Tn:=Tn.trans hw
  rcases he with rfl|rfl
  ·exact⟨bz.defers,_,Bb,Y',Tn,hX',hL⟩
  ·exact⟨bz.defers,_,Bb,Y',Tn,hX',hL⟩
end Go.Ref

namespace Go.Ref
open Go
variable {P:Program} {E:Env}
def Wf:(t:Ty)->El t->Prop
 | .bool,_=>True
 | .int k,n=>(Lit.int k n).wf=true
 | .str,s=>s.size<=maxLen
 | .sl _ t,xs=>List.length xs<=maxLen/\∀x∈(xs:List (El t)),Wf t x
 | .arr n t,xs=>List.length xs=n/\∀x∈(xs:List (El t)),Wf t x
 | .unit,_=>True
 | .pair a b,x=>Wf a x.1/\Wf b x.2
 | .aF _ _ _,_=>False
theorem HP(hE:ak P E){T:TypeId}{t:Ty}(ht:E.ty T=some t):P.cellsOf T=t.cells:=by
 obtain⟨i,h1,h2,_⟩:=(hE.ty T t ht).info
 simp [Program.cellsOf,h1,h2]
def Ty.gP:Ty->Bool
 | .sl _ t=> !(Nat.beq t.cells 0)&&t.gP
 | .arr _ t=>t.gP
 | .pair a b=>a.gP&&b.gP
 |_=>true
def vI(w:World)(β:Nat->Option Nat):ax:=⟨w,fun _=> .all,β⟩
theorem ahP{w:World}{β:Nat->Option Nat}{a:Addr}{v:Value}(h:w.cell? a=some v):(vI w β).ay a v:=⟨World.cell?_spot h,h,trivial⟩
theorem zom{α:Type}{n:Nat}{p:Nat->α->Prop}(h:∀i,i<n->∃x,p i x):∃xs:List α,xs.length=n/\∀(i:Nat) x,xs[i]? =some x->p i x:=by
 induction n with
 |zero=>exact⟨[],rfl,fun i x hi=>by simp at hi⟩
 |succ n ih=>
  obtain⟨xs,h1,h2⟩:=ih fun i hi=>h i (by omega)
  obtain⟨y,hy⟩:=h n (by omega)
  refine⟨xs++ [y],by simp [h1],fun i x hi=> ?_⟩
  rw[List.getElem?_append] at hi
  split at hi
  ·exact h2 i x hi
  ·rename_i al
   have CR:i-xs.length=0:=by
    have:=(List.getElem?_eq_some_iff.1 hi).1
    simp at this
    omega
   rw[CR] at hi
   simp only[List.getElem?_cons_zero,Option.some.injEq] at hi
   subst hi
   have:i=n:=by omega
   subst this
   exact hy
section
variable {H:Type} {enc:TypeId×Value->H} {w:World} {base:Nat} {spare:Nat->Bool} {held:Bool} {β:Nat->Option Nat}
theorem an2(hE:ak P E):∀t:Ty,
 (∀(T:TypeId) (cr:Nat) (cs:List Value) (x:DataW H×List MemPlace),E.ty T=some t->t.gP=true->DataW.trod enc P w base spare held cr T cs=some x->∃y:El t,bh (vI w β) t y cs/\Wf t y)/\
 (∀(fl:List Field) (off cr:Nat) (cs:List Value),jS E fl t off->t.gP=true->off+t.cells<=cs.length->(∀f∈fl,∃x,DataW.trod enc P w base spare held cr f.type ((cs.drop f.offset).take (P.cellsOf f.type))=some x)->
   ∃y:El t,bh (vI w β) t y ((cs.drop off).take t.cells)/\Wf t y):=by
 intro t
 have lZ:∀{t:Ty},t.dx=false->t≠ .unit->∀(fl:List Field) (off:Nat),¬jS E fl t off:=by
  intro t h1 h2 fl off h
  cases t<;>cases fl<;>simp_all [jS,Ty.dx]
 induction t with
 |aF k a b _ _=>exact⟨fun T cr cs x hT gI h=>absurd (hE.jA hT) (by simp [Ty.bH]),fun fl off cr cs hf=>absurd hf (lZ rfl (by simp) fl off)⟩
 |bool=>
  refine⟨fun T cr cs x hT gI h=> ?_,fun fl off cr cs hf=>absurd hf (lZ rfl (by simp) fl off)⟩
  have hu:=(hE.ty T _ hT).dC
  cases cr with
  |zero=>simp [DataW.trod] at h
  |succ m=>
   unfold DataW.trod at h
   rw[hu] at h
   split at h<;>try(first|cases h;done|(simp_all;done))
   rename_i b _
   exact⟨b,rfl,trivial⟩
 |int k=>
  refine⟨fun T cr cs x hT gI h=> ?_,fun fl off cr cs hf=>absurd hf (lZ rfl (by simp) fl off)⟩
  have hu:=(hE.ty T _ hT).dC
  cases cr with
  |zero=>simp [DataW.trod] at h
  |succ m=>
   unfold DataW.trod at h
   rw[hu] at h
   split at h<;>simp_all
   rename_i k1 k2 n hk
   subst hk
   exact⟨n,rfl,h.1.2⟩
 |str=>
  refine⟨fun T cr cs x hT gI h=> ?_,fun fl off cr cs hf=>absurd hf (lZ rfl (by simp) fl off)⟩
  have hu:=(hE.ty T _ hT).dC
  cases cr with
  |zero=>simp [DataW.trod] at h
  |succ m=>
   unfold DataW.trod at h
   rw[hu] at h
   split at h<;>simp_all
   rename_i s
   exact⟨s,rfl,h.1⟩
 |sl e t ih=>
  refine⟨fun T cr cs x hT gI h=> ?_,fun fl off cr cs hf=>absurd hf (lZ rfl (by simp) fl off)⟩
  obtain⟨hu,he⟩:=(hE.ty T _ hT).dC
  have hc:=HP hE he
  rcases Go.Deep.open_slice hu h with⟨rfl,_⟩|⟨a,len,cap,m,n,D,Pl,rfl,hb,hl,hm,HC,_,fX⟩
  ·exact⟨[],⟨none,0,rfl,Nat.le_refl _,fun j x hj=>by simp at hj⟩,by simp [maxLen],fun x hx=>by cases hx⟩
  ·have hlm:len<=m:=by rw[HC];split<;>omega
   have hk:0<t.cells/\t.gP=true:=by
    simp only[Ty.gP,Bool.and_eq_true,Bool.not_eq_true'] at gI
    refine⟨?_,gI.2⟩
    rcases Nat.eq_zero_or_pos t.cells with h0|h0
    ·rw[h0] at gI;simp at gI
    ·exact h0
   obtain⟨ys,h1,h2⟩:=zom (n:=len) (p:=fun i (y:El t)=>∃eZ,w.cells? base (a.add (i*t.cells)) t.cells=some eZ/\bh (vI w β) t y eZ/\Wf t y) (fun i hi=>by
    obtain⟨eZ,g1,g2⟩:=fX i (by omega)
    rw[hc] at g1
    obtain⟨y,k1,k2⟩:=ih.1 e n eZ _ he hk.2 g2
    exact⟨y,eZ,g1,k1,k2⟩)
   refine⟨ys,bh.yk h1 hl (fun j y hj=> ?_),by show ys.length<=_;omega,fun y hy=> ?_⟩
   ·obtain⟨eZ,g1,g2,g3⟩:=h2 j y hj
    obtain⟨_,hlen,dU⟩:=World.cells?_some g1
    have hj0:=(List.getElem?_eq_some_iff.1 hj).1
    obtain⟨c0,e1,_⟩:=h2 0 _ (List.getElem?_eq_getElem (by omega))
    obtain⟨_,apW,CH⟩:=World.cells?_some e1
    have Bd:a.spot=none:=by
     have:=CH 0 (by omega)
     rw[List.getElem?_eq_getElem (by omega)] at this
     have h3:=World.cell?_spot this
     simpa [Addr.add] using h3
    refine⟨a,eZ,rfl,Bd,g2,fun i v hi=>ahP ?_⟩
    have hil:=(List.getElem?_eq_some_iff.1 hi).1
    have:=dU i (by omega)
    rw[R4 a Bd,hi] at this
    exact this
   ·obtain⟨i,hi⟩:=List.mem_iff_getElem?.1 hy
    obtain⟨eZ,_,_,g3⟩:=h2 i y hi
    exact g3
 |arr n t ih=>
  refine⟨fun T cr cs x hT gI h=> ?_,fun fl off cr cs hf=>absurd hf (lZ rfl (by simp) fl off)⟩
  obtain⟨e,hu,he,_⟩:=(hE.ty T _ hT).dC
  have hc:=HP hE he
  have K8:=HP hE hT
  obtain⟨xs,m,rfl,_,hl,Bi,fX⟩:=DataW.trod_array hu h
  obtain⟨ys,h1,h2⟩:=zom (n:=n) (p:=fun i (y:El t)=>bh (vI w β) t y ((cs.drop (i*t.cells)).take t.cells)/\Wf t y) (fun i hi=>by
   have g:=fX i hi
   rw[hc,List.getElem?_eq_getElem (by omega)] at g
   exact ih.1 e m _ _ he gI g)
  refine⟨ys,⟨h1,by rw[hl,K8];rfl,fun j y hj=>(h2 j y hj).1⟩,h1,fun y hy=> ?_⟩
  obtain⟨i,hi⟩:=List.mem_iff_getElem?.1 hy
  exact(h2 i y hi).2
 |unit=>
  refine⟨fun T cr cs x hT gI h=> ?_,fun fl off cr cs hf gI hle cW=>⟨(),by simp [Ty.cells,bh],trivial⟩⟩
  obtain⟨fs,hu,du,_⟩:=(hE.ty T _ hT).dC
  have K8:=HP hE hT
  obtain⟨xs,m,rfl,_,hl,_⟩:=DataW.trod_struct hu h
  rw[K8] at hl
  refine⟨(),?_,trivial⟩
  exact List.eq_nil_of_length_eq_zero hl
 |pair ta tb mK mL=>
  have step:∀(fl:List Field) (off cr:Nat) (cs:List Value),jS E fl (.pair ta tb) off->(Ty.pair ta tb).gP=true->off+(Ty.pair ta tb).cells<=cs.length->(∀f∈fl,∃x,DataW.trod enc P w base spare held cr f.type ((cs.drop f.offset).take (P.cellsOf f.type))=some x)->
   ∃y:El (.pair ta tb),bh (vI w β) (.pair ta tb) y ((cs.drop off).take (Ty.pair ta tb).cells)/\Wf (.pair ta tb) y:=by
   intro fl off cr cs hf gI hle cW
   cases fl with
   |nil=>simp [jS] at hf
   |cons f fl=>
    obtain⟨f1,f2,f3,f4⟩:=hf
    simp only[Ty.gP,Bool.and_eq_true] at gI
    simp only[Ty.cells] at hle
    obtain⟨x,hx⟩:=cW f (by simp)
    rw[HP hE f2,f1] at hx
    obtain⟨y1,r1,w1⟩:=mK.1 f.type cr _ x f2 gI.1 hx
    obtain⟨y2,r2,w2⟩:=mL.2 fl (off+ta.cells) cr cs f4 gI.2 (by omega) (fun g hg=>cW g (List.mem_cons_of_mem _ hg))
    refine⟨(y1,y2),⟨_,_,?_,r1,r2⟩,w1,w2⟩
    simp only[Ty.cells]
    rw[<-List.drop_drop]
    exact List.take_add
  refine⟨fun T cr cs x hT gI h=> ?_,step⟩
  obtain⟨fs,hu,du,_⟩:=(hE.ty T _ hT).dC
  have K8:=HP hE hT
  obtain⟨xs,m,rfl,_,hl,Bi,fX⟩:=DataW.trod_struct hu h
  rw[K8] at hl
  obtain⟨y,r,wf⟩:=step fs.toList 0 m cs du gI (by omega) (fun f hf=>by
   obtain⟨i,hi⟩:=List.mem_iff_getElem?.1 hf
   have xR:fs[i]? =some f:=by simpa using hi
   have:=fX i f xR
   have al:=(List.getElem?_eq_some_iff.1 hi).1
   rw[List.getElem?_eq_getElem (by simp at al;omega)] at this
   exact⟨_,this⟩)
  refine⟨y,?_,wf⟩
  rw[List.drop_zero,<-hl,List.take_length] at r
  exact r
end
end Go.Ref

namespace Go.Ref
open Go
variable {P:Program} {E:Env}
def F3:Value->Value->Bool
 | .bool a,.bool b=>a==b
 | .int k a,.int j b=>decide (k=j)&&decide (a=b)
 | .string a,.string b=>Nat.beq a.size 0&&Nat.beq b.size 0
 | .slice none 0 0,.slice none 0 0=>true
 |_,_=>false
theorem zoq{a:ByteArray}(h:a.size=0):a=⟨#[]⟩:=by
 cases a with
 |mk d=>
  have:d.size=0:=h
  have:=Array.eq_empty_of_size_eq_zero this
  rw[this]
theorem agT{a b:Value}(h:F3 a b=true):a=b:=by
 unfold F3 at h
 split at h
 ·simp at h;rw[h]
 ·simp at h;rw[h.1,h.2]
 ·simp only[Bool.and_eq_true] at h
  rw[zoq (Nat.eq_of_beq_eq_true h.1),zoq (Nat.eq_of_beq_eq_true h.2)]
 ·rfl
 ·cases h
def Ij:List Value->List Value->Bool
 | [],[]=>true
 |a::r,b::q=>F3 a b&&Ij r q
 |_,_=>false
theorem z87:∀{a b:List Value},Ij a b=true->a=b
 | [],[],_=>rfl
 |a::r,b::q,h=>by
  simp only[Ij,Bool.and_eq_true] at h
  rw[agT h.1,z87 h.2]
def F9(t:Ty)(v:Value):Bool:=
 match v with
 | .agg cs=>t.agg&&Ij cs.toList (zp t)
 |v=> !t.agg&&Ij [v] (zp t)
theorem aiw{t:Ty}{v:Value}(h:F9 t v=true):v=eb t (zp t):=by
 unfold F9 at h
 split at h
 ·simp only[Bool.and_eq_true] at h
  rw[j9 h.1,<-z87 h.2]
 ·simp only[Bool.and_eq_true,Bool.not_eq_true'] at h
  rw[<-z87 h.2,Sd h.1]
def sd(E:Env):List Field->Ty->Nat->Bool
 | [],.unit,_=>true
 |f::r,.pair a b,off=>Nat.beq f.offset off&&((match E.ty f.type with
  |some t=>t.cq a
  |none=>false)&&(!(f.name== "_")&&sd E r b (off+a.cells)))
 |_,_,_=>false
theorem zr9:∀{fl:List Field} {t:Ty} {off:Nat},sd E fl t off=true->jS E fl t off
 | [],t,off,h=>by cases t<;>simp_all [sd,jS]
 |f::r,t,off,h=>by
  cases t<;>simp only[sd,Bool.and_eq_true] at h<;>try(cases h;done)
  obtain⟨h1,h2,h3,h4⟩:=h
  refine⟨Nat.eq_of_beq_eq_true h1,?_,?_,zr9 h4⟩
  ·cases hf:E.ty f.type with
   |none=>rw[hf] at h2;cases h2
   |some u=>rw[hf] at h2;rw[Ty.aI h2]
  ·simpa using h3
def vB(E:Env)(T:TypeId)(t:Ty):Bool:=
 match E.ty T with
 |some u=>u.cq t
 |none=>false
theorem EX{T:TypeId}{t:Ty}(h:vB E T t=true):E.ty T=some t:=by
 unfold vB at h
 split at h
 ·rename_i u hu;rw[hu,Ty.aI h]
 ·cases h
def Ds(P:Program)(E:Env)(T:TypeId)(t:Ty):Bool:=
 match P.underlying T,t with
 |some .bool,.bool=>true
 |some (.int k),.int j=>decide (k=j)
 |some .string,.str=>true
 |some (.slice e),.sl e' u=>Nat.beq e e'&&vB E e u
 |some (.array n e),.arr m u=>Nat.beq n m&&(vB E e u&& !P.eqGuardType P.depth T)
 |some (.struct fs),.unit=>sd E fs.toList .unit 0&&(!P.stoodInHeld T&& !P.eqGuardType P.depth T)
 |some (.struct fs),.pair a b=>sd E fs.toList (.pair a b) 0&&(!P.stoodInHeld T&& !P.eqGuardType P.depth T)
 |_,_=>false
theorem alT{T:TypeId}{t:Ty}(h:Ds P E T t=true):Qk P E T t:=by
 unfold Ds at h
 split at h
 ·assumption
 ·rename_i k j hu;rw[<-of_decide_eq_true h];exact hu
 ·assumption
 ·rename_i e e' u hu
  simp only[Bool.and_eq_true] at h
  have:=Nat.eq_of_beq_eq_true h.1
  subst this
  exact⟨hu,EX h.2⟩
 ·rename_i n e m u hu
  simp only[Bool.and_eq_true] at h
  have:=Nat.eq_of_beq_eq_true h.1
  subst this
  exact⟨e,hu,EX h.2.1,by simpa using h.2.2⟩
 ·rename_i fs hu
  simp only[Bool.and_eq_true,Bool.not_eq_true'] at h
  exact⟨fs,hu,zr9 h.1,h.2.1,h.2.2⟩
 ·rename_i fs a b hu
  simp only[Bool.and_eq_true,Bool.not_eq_true'] at h
  exact⟨fs,hu,zr9 h.1,h.2.1,h.2.2⟩
 ·cases h
def Bk(P:Program)(E:Env)(T:TypeId)(t:Ty):Bool:=
 match P.info? T with
 |some i=>Nat.beq i.size t.cells&&(Nat.beq i.bytes (E.bytes T)&&match i.zero with
  |some v=>F9 t v
  |none=>false)
 |none=>false
def CA(P:Program)(E:Env)(T:TypeId):Bool:=
 match E.ty T with
 |some t=>Bk P E T t&&Ds P E T t
 |none=>true
theorem akT{T:TypeId}{t:Ty}(h:CA P E T=true)(ht:E.ty T=some t):mm P E T t:=by
 unfold CA at h
 rw[ht] at h
 simp only[Bool.and_eq_true] at h
 refine⟨?_,alT h.2⟩
 have h1:=h.1
 unfold Bk at h1
 split at h1
 ·rename_i i hi
  simp only[Bool.and_eq_true] at h1
  obtain⟨g1,g2,g3⟩:=h1
  split at g3
  ·rename_i v hv
   exact⟨i,hi,Nat.eq_of_beq_eq_true g1,Nat.eq_of_beq_eq_true g2,by rw[hv,aiw g3]⟩
  ·cases g3
 ·cases h1
def Tu(P:Program)(T:TypeId):Bool:=
 match P.underlying T,P.info? T with
 |some (.pointer _),some i=>Nat.beq i.size 1
 |_,_=>false
structure sR where
 HK:List (Option Ty)
 bts:List Nat
 Bu:List Bool
 Ts:List (TypeId×TypeId×TypeId):=[]
def yd:List (TypeId×TypeId×TypeId)->TypeId->Option (TypeId×TypeId)
 | [],_=>none
 |q::r,T=>bif Nat.beq q.1 T then some q.2 else yd r T
def mpB(P:Program)(q:TypeId×TypeId×TypeId):Bool:=
 match P.underlying q.1 with
 |some (.map k e)=>Nat.beq k q.2.1&&Nat.beq e q.2.2
 |_=>false
theorem PN{P:Program}:∀{l:List (TypeId×TypeId×TypeId)},l.all (mpB P)=true->∀{T k e:TypeId},yd l T=some (k,e)->P.underlying T=some (.map k e)
 |q::r,hl,T,k,e,h=>by
  simp only[List.all_cons,Bool.and_eq_true] at hl
  unfold yd at h
  cases hq:Nat.beq q.1 T with
  |false=>rw[hq] at h;exact PN hl.2 h
  |true=>
   rw[hq] at h
   have:=Nat.eq_of_beq_eq_true hq
   subst this
   have h1:=hl.1
   unfold mpB at h1
   split at h1
   ·rename_i k' e' hu
    simp only[Bool.and_eq_true] at h1
    have a1:=Nat.eq_of_beq_eq_true h1.1
    have a2:=Nat.eq_of_beq_eq_true h1.2
    rw[hu,a1,a2]
    have h:some q.2=some (k,e):=h
    injection h with h
    rw[h]
   ·cases h1
def sR.env(t:sR)(dF lU:Nat->List Nat)(outs:List Nat)(ps:List Ty):Env:=⟨fun T=>t.HK.getD T none,fun T=>t.bts.getD T 0,fun T=>t.Bu.getD T false,dF,lU,outs,ps,yd t.Ts,fun _=>none,fun _=>none,fun _=>[],[],false,[],fun _=>[],fun _=>none,fun _=>none,fun _=>false,none,none⟩
def sR.Cx(t:sR):Env:=t.env (fun _=>[]) (fun _=>[]) [] []
def sR.ok(P:Program)(t:sR):Bool:=(List.range t.HK.length).all (CA P t.Cx)&&((List.range t.Bu.length).all (fun T=> !t.Bu.getD T false||Tu P T)&&t.Ts.all (mpB P))
theorem s9{E':Env}(h1:E.ty=E'.ty)(h2:E.bytes=E'.bytes){T:TypeId}{t:Ty}(h:mm P E T t):mm P E' T t:=by
 have du:∀(fl:List Field) (t:Ty) (off:Nat),jS E fl t off->jS E' fl t off:=by
  intro fl
  induction fl with
  |nil=>intro t off h;cases t<;>simp_all [jS]
  |cons f r ih=>
   intro t off h
   cases t<;>simp only[jS] at h⊢ <;>try exact h
   exact⟨h.1,by rw[<-h1];exact h.2.1,h.2.2.1,ih _ _ h.2.2.2⟩
 refine⟨by rw[<-h2];exact h.info,?_⟩
 have hu:=h.dC
 cases t with
 |bool=>exact hu
 |int k=>exact hu
 |str=>exact hu
 |sl e u=>exact⟨hu.1,by rw[<-h1];exact hu.2⟩
 |arr n u=>obtain⟨e,g1,g2⟩:=hu;exact⟨e,g1,by rw[<-h1];exact g2⟩
 |unit=>obtain⟨fs,g1,g2,g3⟩:=hu;exact⟨fs,g1,du _ _ _ g2,g3⟩
 |pair a b=>obtain⟨fs,g1,g2,g3⟩:=hu;exact⟨fs,g1,du _ _ _ g2,g3⟩
 |aF k a b=>exact hu.elim
theorem ak.join(h:ak P E)(j:Nat->Option (List Nat)):ak P {E with join:=j}:=
 ⟨fun T u hT=>s9 (E:=E) (E':={E with join:=j}) rfl rfl (h.ty T u hT),h.pt,h.p1,h.mp,h.bl,h.gr,h.gz,h.g3,h.ga⟩
theorem ak.fz(h:ak P E)(j:Nat->Option (Nat×TypeId)):ak P {E with fz:=j}:=
 ⟨fun T u hT=>s9 (E:=E) (E':={E with fz:=j}) rfl rfl (h.ty T u hT),h.pt,h.p1,h.mp,h.bl,h.gr,h.gz,h.g3,h.ga⟩
theorem ak.dr(h:ak P E)(j:Nat->List Nat):ak P {E with dr:=j}:=
 ⟨fun T u hT=>s9 (E:=E) (E':={E with dr:=j}) rfl rfl (h.ty T u hT),h.pt,h.p1,h.mp,h.bl,h.gr,h.gz,h.g3,h.ga⟩
theorem ak.sh(h:ak P E)(j:List Nat):ak P {E with sh:=j}:=
 ⟨fun T u hT=>s9 (E:=E) (E':={E with sh:=j}) rfl rfl (h.ty T u hT),h.pt,h.p1,h.mp,h.bl,h.gr,h.gz,h.g3,h.ga⟩
theorem ak.mv(h:ak P E)(j:List Nat):ak P {E with mv:=j}:=
 ⟨fun T u hT=>s9 (E:=E) (E':={E with mv:=j}) rfl rfl (h.ty T u hT),h.pt,h.p1,h.mp,h.bl,h.gr,h.gz,h.g3,h.ga⟩
theorem ak.fr(h:ak P E)(j:Nat->List Nat):ak P {E with fr:=j}:=
 ⟨fun T u hT=>s9 (E:=E) (E':={E with fr:=j}) rfl rfl (h.ty T u hT),h.pt,h.p1,h.mp,h.bl,h.gr,h.gz,h.g3,h.ga⟩
def blB(P:Program)(T:TypeId):Bool:=
 match P.info? T with
 |some i=>match i.zero with
  |some (.agg a)=>match a.toList with
   | [.pointer none,.slice none 0 0]=>true
   |_=>false
  |_=>false
 |none=>false
theorem ak.gY(h:ak P E)(T e:TypeId)(hT:blB P T=true):ak P {E with bl:=fun t=>bif Nat.beq t T then some e else none}:=
 ⟨fun T' u hT=>s9 (E:=E) (E':={E with bl:=fun t=>bif Nat.beq t T then some e else none}) rfl rfl (h.ty T' u hT),h.pt,h.p1,h.mp,fun T' e' he=>by
   have he:(bif Nat.beq T' T then some e else none)=some e':=he
   cases hb:Nat.beq T' T with
   |false=>rw[hb] at he;cases he
   |true=>
    have:=Nat.eq_of_beq_eq_true hb
    subst this
    unfold blB at hT
    split at hT
    case h_2=>cases hT
    rename_i i hi
    split at hT
    case h_2=>cases hT
    rename_i a ha
    split at hT
    case h_2=>cases hT
    rename_i hl
    exact⟨i,hi,by rw[ha];congr 1;congr 1;apply Array.ext';rw[hl]⟩,h.gr,h.gz,h.g3,h.ga⟩
def grB(P:Program)(T:TypeId)(a:Ty):Bool:=
 match P.underlying T with
 |some (.struct fs)=>[0,1,2].all fun j=>match fs[j]? with
  |some f=>Nat.beq f.offset (nB a [j])&&match P.info? f.type with
   |some i=> !(Nat.beq i.size 0)
   |none=>false
  |none=>false
 |_=>false
def gaB(P:Program)(T:TypeId):Bool:=
 match P.underlying T with
 |some (.array 2 e)=>match P.info? e with
  |some i=>Nat.beq i.size 1
  |none=>false
 |_=>false
theorem apG{T:TypeId}{a:Ty}(h:grB P T a=true):∃fs,P.underlying T=some (.struct fs)/\∀j,j<=2->∃f i,fs[j]? =some f/\f.offset=nB a [j]/\P.info? f.type=some i/\i.size≠0:=by
 unfold grB at h
 split at h
 case h_2=>cases h
 rename_i fs hu
 refine⟨fs,hu,fun j hj=> ?_⟩
 have:=List.all_eq_true.1 h j (by match j,hj with|0,_=>simp|1,_=>simp|2,_=>simp)
 split at this
 case h_2=>cases this
 rename_i f hf
 rw[Bool.and_eq_true] at this
 obtain⟨h1,h2⟩:=this
 split at h2
 case h_2=>cases h2
 rename_i i hi
 exact⟨f,i,hf,Nat.eq_of_beq_eq_true h1,hi,fun e=>by rw[e] at h2;simp at h2⟩
theorem apF{T:TypeId}(h:gaB P T=true):∃e i,P.underlying T=some (.array 2 e)/\P.info? e=some i/\i.size=1:=by
 unfold gaB at h
 split at h
 case h_2=>cases h
 rename_i e hu
 split at h
 case h_2=>cases h
 rename_i i hi
 exact⟨e,i,hu,hi,Nat.eq_of_beq_eq_true h⟩
def gzB(P:Program)(T:TypeId)(a:Ty):Bool:=
 match P.info? T with
 |some i=>match i.zero with
  |some (.agg cs)=>Ij (cs.toList.take a.cells) (zp a)&&(match cs.toList.drop a.cells with
   | [.pointer none,.pointer none,.int .i64 n]=>decide (n=0)
   |_=>false)
  |_=>false
 |none=>false
theorem apH{T:TypeId}{a:Ty}(h:gzB P T a=true):∃i,P.info? T=some i/\i.zero=some (.agg (zp a++ [Value.pointer none,Value.pointer none,Value.int .i64 0]).toArray):=by
 unfold gzB at h
 split at h
 case h_2=>cases h
 rename_i i hi
 split at h
 case h_2=>cases h
 rename_i cs eU
 rw[Bool.and_eq_true] at h
 obtain⟨h1,h2⟩:=h
 split at h2
 case h_2=>cases h2
 rename_i n hd
 have:=of_decide_eq_true h2
 subst this
 refine⟨i,hi,?_⟩
 rw[eU,<-z87 h1,<-hd,List.take_append_drop]
def g3B(P:Program)(E:Env)(T:TypeId)(a:Ty):Bool:=
 match P.underlying T with
 |some (.struct fs)=>(match fs.toList with
  |f::_=>Nat.beq f.offset 0&&vB E f.type a
  | []=>false)&&fs.toList.all fun f=>(P.info? f.type).isSome
 |_=>false
theorem apE{T:TypeId}{a:Ty}(h:g3B P E T a=true):∃fs f,P.underlying T=some (.struct fs)/\fs[0]? =some f/\f.offset=0/\E.ty f.type=some a/\∀f∈fs.toList,∃i,P.info? f.type=some i:=by
 unfold g3B at h
 split at h
 case h_2=>cases h
 rename_i fs hu
 rw[Bool.and_eq_true] at h
 obtain⟨h1,h2⟩:=h
 split at h1
 case h_2=>cases h1
 rename_i f r hl
 rw[Bool.and_eq_true] at h1
 refine⟨fs,f,hu,by rw[<-Array.getElem?_toList,hl];rfl,Nat.eq_of_beq_eq_true h1.1,EX h1.2,fun g hg=> ?_⟩
 exact Option.isSome_iff_exists.1 (List.all_eq_true.1 h2 g hg)
theorem ak.bC(h:ak P E)(T A:TypeId)(a b:Ty)(hT:grB P T a=true)(hZ:gzB P T a=true)(h3:g3B P E T a=true)(hA:gaB P A=true):ak P {E with gr:=fun t=>bif Nat.beq t T then some (a,b) else none,ga:=fun t=>Nat.beq t A}:=
 ⟨fun T' u vQ=>s9 (E:=E) (E':={E with gr:=fun t=>bif Nat.beq t T then some (a,b) else none,ga:=fun t=>Nat.beq t A}) rfl rfl (h.ty T' u vQ),h.pt,h.p1,h.mp,h.bl,fun T' a' b' he=>by
   have he:(bif Nat.beq T' T then some (a,b) else none)=some (a',b'):=he
   cases hb:Nat.beq T' T with
   |false=>rw[hb] at he;cases he
   |true=>
    have:=Nat.eq_of_beq_eq_true hb
    subst this
    rw[hb] at he
    cases he
    exact apG hT,fun T' a' b' he=>by
   have he:(bif Nat.beq T' T then some (a,b) else none)=some (a',b'):=he
   cases hb:Nat.beq T' T with
   |false=>rw[hb] at he;cases he
   |true=>
    have:=Nat.eq_of_beq_eq_true hb
    subst this
    rw[hb] at he
    cases he
    exact apH hZ,fun T' a' b' he=>by
   have he:(bif Nat.beq T' T then some (a,b) else none)=some (a',b'):=he
   cases hb:Nat.beq T' T with
   |false=>rw[hb] at he;cases he
   |true=>
    have:=Nat.eq_of_beq_eq_true hb
    subst this
    rw[hb] at he
    cases he
    exact apE (E:=E) h3,fun T' he=>by
   have:=Nat.eq_of_beq_eq_true (show Nat.beq T' A=true from he)
   subst this
   exact apF hA⟩
theorem ak.sg(h:ak P E)(j:Option (Nat×Nat×Nat)):ak P {E with sg:=j}:=
 ⟨fun T u hT=>s9 (E:=E) (E':={E with sg:=j}) rfl rfl (h.ty T u hT),h.pt,h.p1,h.mp,h.bl,h.gr,h.gz,h.g3,h.ga⟩
theorem ak.sp(h:ak P E)(j:Option (Nat×Nat×Nat×Nat)):ak P {E with sp:=j}:=
 ⟨fun T u hT=>s9 (E:=E) (E':={E with sp:=j}) rfl rfl (h.ty T u hT),h.pt,h.p1,h.mp,h.bl,h.gr,h.gz,h.g3,h.ga⟩
theorem ak.ro(h:ak P E)(j:Bool):ak P {E with ro:=j}:=
 ⟨fun T u hT=>s9 (E:=E) (E':={E with ro:=j}) rfl rfl (h.ty T u hT),h.pt,h.p1,h.mp,h.bl,h.gr,h.gz,h.g3,h.ga⟩
theorem sR.uD{t:sR}(h:t.ok P=true)(dF lU:Nat->List Nat)(outs:List Nat)(ps:List Ty):ak P (t.env dF lU outs ps):=by
 unfold sR.ok at h
 simp only[Bool.and_eq_true] at h
 have lf:∀T,t.Bu.getD T false=true->Tu P T=true:=fun T vQ=>by
  have al:T<t.Bu.length:=by
   rcases Nat.lt_or_ge T t.Bu.length with h1|h1
   ·exact h1
   ·rw[List.getD_eq_getElem?_getD,List.getElem?_eq_none h1] at vQ;cases vQ
  have:=List.all_eq_true.1 h.2.1 T (List.mem_range.2 al)
  rw[vQ] at this
  simpa using this
 refine⟨fun T u hT=> ?_,fun T hT=> ?_,fun T hT=> ?_,fun T k e hT=>PN h.2.2 hT,fun T e hT=>(by cases hT),fun T a b hT=>(by cases hT),fun T a b hT=>(by cases hT),fun T a b hT=>(by cases hT),fun T hT=>by cases hT⟩
 ·refine s9 (E:=t.Cx) (E':=t.env dF lU outs ps) rfl rfl (akT ?_ hT)
  refine List.all_eq_true.1 h.1 T (List.mem_range.2 ?_)
  have vQ:t.HK.getD T none=some u:=hT
  rcases Nat.lt_or_ge T t.HK.length with h1|h1
  ·exact h1
  ·rw[List.getD_eq_getElem?_getD,List.getElem?_eq_none h1] at vQ;cases vQ
 ·have:=lf T hT
  unfold Tu at this
  split at this
  ·rename_i e i he _;exact⟨e,he⟩
  ·cases this
 ·have:=lf T hT
  unfold Tu at this
  split at this
  ·rename_i e i _ hi;exact⟨i,hi,Nat.eq_of_beq_eq_true this⟩
  ·cases this
end Go.Ref

namespace Go.Ref
open Go
variable {P:Program} {E:Env}
abbrev Pure:=(R:Type)->List SV->Option bD->(List SV->Option bD->Option R)->Option R
def Pure.Nat(g:Pure):Prop:=∀(R S:Type) l b (F:List SV->Option bD->Option R) (G:List SV->Option bD->Option S) (K:S->Option R),(∀r b,F r b=(G r b).bind K)->g R l b F=(g S l b G).bind K
def ag.none:ag:=fun _ _ _ _ _=> .none
def ag.add(C:ag)(n:FuncId)(ps:List Ty)(g:Pure):ag:=fun R f l b K=>bif Nat.beq f n then g R (aN ps l) b K else C R f l b K
theorem alp:ag.none.Nat:=fun _ _ _ _ _ _ _ _ _=>rfl
theorem ahL(f:FuncId):de P ag.none f:=fun _ _ _ _ h=>by cases h
theorem Xm{C:ag}{n:FuncId}{ps:List Ty}{g:Pure}(hC:C.Nat)(hg:g.Nat):(C.add n ps g).Nat:=fun R S f l b F G K h=>by
 unfold ag.add
 cases Nat.beq f n with
 |false=>exact hC R S f l b F G K h
 |true=>exact hg R S _ b F G K h
theorem akn(hE:ak P E)(hm:P.follows .mixedOrders=true){C:ag}(hC:C.Nat)(h0:∀f,de P C f){n:FuncId}{ps:List Ty}{g:Pure}{fn:Func}{code:Code}(jn:P.funcs[n]? =some fn)(uT:(fn.name== "runtime.NumGoroutine")=false)(qV:fn.body=some code)
 (h:∀(l:List SV) (b:Option bD) (r:List SV) (b':Option bD),g (List SV×Option bD) (aN ps l) b (fun r b=>some (r,b))=some (r,b')->∃k,jY E (C (List SV×Option bD)) k fn code l b (fun r b=>some (r,b))=some (r,b')):∀f,de P (C.add n ps g) f:=by
 intro f
 by_cases e:f=n
 ·subst e
  refine anS hE hm hC h0 jn uT qV fun l b r b' hc=>h l b r b' ?_
  unfold ag.add at hc
  have:Nat.beq f f=true:=by simp
  rw[this] at hc
  exact hc
 ·intro l b r b' hc
  unfold ag.add at hc
  have:Nat.beq f n=false:=by
   cases hh:Nat.beq f n with
   |false=>rfl
   |true=>exact absurd (Nat.eq_of_beq_eq_true hh) e
  rw[this] at hc
  exact h0 f l b r b' hc
def sub:List Nat->Code->Code
 | [],c=>c
 |0::p,.seq a _=>sub p a
 |_::p,.seq _ b=>sub p b
 |0::p,.cond _ a _=>sub p a
 |_::p,.cond _ _ b=>sub p b
 |_::p,.block _ b=>sub p b
 |_::p,.loop b=>sub p b
 |_,c=>c
section
variable {R:Type}
def zk(id:Nat)(K:Ex->State->Option R):Ex->State->Option R:=fun e s=>match e with
 | .exit j=>bif Nat.beq j id then K .normal s else K (.exit j) s
 |e=>K e s
def aU(E:Env)(C:FuncId->bV R)(k:Nat)(b:Code)(K:Ex->State->Option R):Ex->State->Option R:=fun e s=>match e with
 | .normal=>nR E k (vD b) s fun s=>ev E C k b s K
 |e=>K e s
def aS(E:Env)(rs:List ResultVar)(bx:Option bD)(K:List SV->Option bD->Option R):Ex->State->Option R:=fun e s=>match e with
 | .exit _=>none
 |_=>match ic E s rs with
  |some (l,s')=>ID s' bx (ib E l) K
  |none=>none
end
section
variable {R:Type}
def gv(l:List SV)(K:Option R):Option R:=
 match l with
 | []=>K
 |_=>none
def gx(t:Ty)(l:List SV)(K:El t->Option R):Option R:=
 match l with
 | [a]=>a.el t K
 |_=>none
def fU(t u:Ty)(l:List SV)(K:El t->El u->Option R):Option R:=
 match l with
 | [a,b]=>a.el t fun x=>b.el u fun y=>K x y
 |_=>none
def lN(t u v:Ty)(l:List SV)(K:El t->El u->El v->Option R):Option R:=
 match l with
 | [a,b,c]=>a.el t fun x=>b.el u fun y=>c.el v fun z=>K x y z
 |_=>none
def lO(t u v w:Ty)(l:List SV)(K:El t->El u->El v->El w->Option R):Option R:=
 match l with
 | [a,b,c,d]=>a.el t fun x=>b.el u fun y=>c.el v fun z=>d.el w fun z'=>K x y z z'
 |_=>none
end
theorem anN{R:Type}{t:Ty}{v:SV}{r:List Ty}{q:List SV}{K:El t->Option R}{z:R}{v':SV}{q':List SV}(hn:aN (t::r) (v::q)=v'::q')(h:v'.el t K=some z):∃y,v'= .aj t y []/\q'=aN r q/\K y=some z:=by
 have key:v'=v.shut/\q'=aN r q\/(∃e u,t= .sl e u/\v'= .aj (.sl e u) ([]:List (El u)) []/\q'=aN r q):=by
  cases t<;>cases v<;>simp only[aN,List.cons.injEq] at hn<;>first|exact .inl ⟨hn.1.symm,hn.2.symm⟩|exact .inr ⟨_,_,rfl,hn.1.symm,hn.2.symm⟩
 rcases key with⟨rfl,rfl⟩|⟨e,u,rfl,rfl,rfl⟩
 ·cases v with
  |aj t' x own=>
   simp only[SV.shut,SV.el] at h
   split at h
   ·rename_i heq
    have:=Ty.aI heq
    subst this
    exact⟨x,rfl,rfl,h⟩
   ·cases h
  |cJ=>cases t<;>first|(simp [SV.shut,SV.el] at h;done)|(simp [aN,SV.shut] at hn;done)
  |_=>simp [SV.shut,SV.el] at h
 ·simp only[SV.el,Ty.cm,dite_true] at h
  exact⟨[],rfl,rfl,h⟩
theorem alu(hE:ak P E){H:Type}{enc:TypeId×Value->H}{w:World}{spare:Nat->Bool}{held:Bool}{β:Nat->Option Nat}{base b:Nat}{T:TypeId}{t:Ty}{v:Value}{d:DataW H}{ps:List MemPlace}(hT:E.ty T=some t)(gI:t.gP=true)
 (hv:Value.okWide P w .any b T v) (hd:DataW.Trod enc P w base spare held T v d ps):∃y:El t,Wf t y/\∀q,aA (vI w β) q (.aj t y []) v:=by
 obtain⟨cr,hd⟩:=hd
 obtain⟨y,r,wf⟩:=(an2 (β:=β) hE t).1 T cr _ _ hT gI hd
 refine⟨y,wf,fun q=>⟨_,r,?_,m7⟩⟩
 have hu:=(hE.ty T t hT).dC
 have hl:=r.len
 cases ht:t.agg with
 |true=>
  rw[j9 ht]
  have:∃cs,v= .agg cs:=by
   unfold Value.okWide at hv
   cases t with
   |arr n t=>obtain⟨e,h1,_⟩:=hu;rw[h1] at hv;obtain⟨cs,h,_⟩:=hv;exact⟨cs,h⟩
   |unit=>obtain⟨fs,h1,_⟩:=hu;rw[h1] at hv;obtain⟨cs,h,_⟩:=hv;exact⟨cs,h⟩
   |pair a b=>obtain⟨fs,h1,_⟩:=hu;rw[h1] at hv;obtain⟨cs,h,_⟩:=hv;exact⟨cs,h⟩
   |aF k a b=>exact absurd (hE.jA hT) (by simp [Ty.bH])
   |_=>simp [Ty.agg] at ht
  obtain⟨cs,rfl⟩:=this
  rfl
 |false=>
  have aar:∀cs,v≠ .agg cs:=by
   rintro cs rfl
   unfold Value.okWide at hv
   cases t with
   |bool=>have hu:P.underlying T=some .bool:=hu;rw[hu] at hv;unfold Cell.okWide at hv;rw[hu] at hv;unfold Cell.ok at hv;rw[hu] at hv;exact hv
   |int k=>have hu:P.underlying T=some (.int k):=hu;rw[hu] at hv;unfold Cell.okWide at hv;rw[hu] at hv;unfold Cell.ok at hv;rw[hu] at hv;exact hv
   |str=>have hu:P.underlying T=some .string:=hu;rw[hu] at hv;unfold Cell.okWide at hv;rw[hu] at hv;unfold Cell.ok at hv;rw[hu] at hv;exact hv
   |sl e t=>have hu:P.underlying T=some (.slice e):=hu.1;rw[hu] at hv;unfold Cell.okWide at hv;rw[hu] at hv;unfold Cell.ok at hv;rw[hu] at hv;exact hv
   |_=>simp [Ty.agg] at ht
  have hc:v.cells.toList=[v]:=by
   cases v<;>first|rfl|exact absurd rfl (aar _)
  rw[hc,Sd ht]
theorem aeD{w:World}{β:Nat->Option Nat}{Y:ax}(h:Ext (vI w β) Y):∀g,g<w.heap.size->Y.w.heap[g]? =w.heap[g]? :=fun g hg=>(h.still g hg trivial).2
end Go.Ref

namespace Go.Ref
open Go
theorem F8{x:Int}(h1: -9223372036854775808<=x)(h2:x<=9223372036854775807):IntKind.i64.wrap x=x:=by
 simp [IntKind.wrap,IntKind.signed,IntKind.bits]
 omega
theorem aiu{R:Type}{j n:Nat}{x:Option R}(h:j<n):zd (j:Int) n x=x:=by
 unfold zd
 rw[decide_eq_true (by omega:(0:Int)<=j),decide_eq_true (by omega:(j:Int)<n)]
 rfl
variable {P:Program} {E:Env}
def Sh(X:ax):List SV->List Value->Prop
 | [],[]=>True
 |s::l,v::vs=>(∀q,aA X q s v)/\(∀id t p,s≠ .ptr id t p)/\Sh X l vs
 |_,_=>False
theorem zvq{X:ax}:∀{l:List SV} {vs:List Value},Sh X l vs->vs.length=l.length/\∀(i:Nat) s v,l[i]? =some s->vs[i]? =some v->(∀q,aA X q s v)/\∀id t p,s≠ .ptr id t p
 | [],[],_=>⟨rfl,fun i s v h=>by simp at h⟩
 |s::l,v::vs,h=>by
  obtain⟨h1,h2,h3⟩:=h
  obtain⟨g1,g2⟩:=zvq h3
  refine⟨by simp [g1],fun i s' v' hs hv=> ?_⟩
  cases i with
  |zero=>
   simp only[List.getElem?_cons_zero,Option.some.injEq] at hs hv
   subst hs hv
   exact⟨h1,h2⟩
  |succ i=>
   simp only[List.getElem?_cons_succ] at hs hv
   exact g2 i s' v' hs hv
theorem akQ{X:ax}{l:List SV}{args:Array Value}(h:Sh X l args.toList)(hX:∀g pl n,X.ow g≠ .row pl n)(hβ:∀id,X.β id=none):kh X l none args:=by
 obtain⟨h1,h2⟩:=zvq h
 refine⟨by simpa using h1,fun i sv v hs hv=>(h2 i sv v hs (by simpa using hv)).1 _,fun id t p hm=> ?_,fun B hB=>(by cases hB),fun _=>hX,List.any_eq_false.2 fun v hm=> ?_⟩
 ·obtain⟨i,hi⟩:=List.mem_iff_getElem?.1 hm
  have al:=(List.getElem?_eq_some_iff.1 hi).1
  have gG:i<args.toList.length:=by omega
  exact absurd rfl ((h2 i _ _ hi (List.getElem?_eq_getElem gG)).2 id t p)
 ·obtain⟨i,hi⟩:=List.mem_iff_getElem?.1 hm
  have al:=(List.getElem?_eq_some_iff.1 hi).1
  have gG:i<args.toList.length:=by omega
  have hv:=(h2 i _ _ hi (List.getElem?_eq_getElem gG)).1 (fun _=> .r 0 [])
  cases v with
  |bA id c d j=>
   obtain⟨r,e,_⟩:=hv
   rw[hβ id] at e
   cases e
  |_=>simp [SV.bM]
theorem ah3{C:ag}{f:FuncId}(ho:de P C f){l:List SV}{args:Array Value}{W:World}{b:Bool}(hc:C (List SV×Option bD) f l none (fun r b=>some (r,b))=some ([.aj .bool b []],none))(iN:Sh (vI W fun _=>none) l args.toList):
 Calls P f args W fun e w'=>e= .returned (.bool b)/\RowKit.Below W.heap.size W w':=by
 refine((ho l none _ _ hc).2 (vI W fun _=>none) args (akQ iN (fun g pl n e=>by cases e) fun _=>rfl)).mono fun e w' he=> ?_
 cases e with
 |returned v=>
  obtain⟨Y,rfl,aY,r0,aM,_,_,_⟩:=he
  have aM:aA {Y with β:=fun _=>some r0} (.r 0) (.aj .bool b []) v:=aM
  refine⟨by rw[QI aM],aY.os,aY.tape,aY.output,aY.size,fun k hk=>aeD aY k hk⟩
 |panicked c=>exact he.elim
 |outgrown=>exact he.elim
end Go.Ref

namespace Go.Ref
open Go
variable {P:Program} {E:Env}
def bs(l:List Nat):ByteArray:=⟨(l.map UInt8.ofNat).toArray⟩
@[irreducible] def af:Nat:=18446744073709551616
theorem aeo{R:Type}(f:Unit->Option R):cL af f=f ():=by
 have:af=18446744073709551615+1:=by unfold af;rfl
 rw[this];rfl
section
variable {R S:Type}
def nO(body:State->(Ex->State->Option R)->Option R)(l lx:List Nat)(k:Nat)(K:Ex->State->Option R):Ex->State->Option R:=fun e s=>match e with
 | .normal=>sM l s fun s=>az body l lx k s K
 |e=>sM lx s fun s=>K e s
def kr(t:Ty)(own:List (List Nat))(l:List SV)(b:Option bD)(K:El t->List SV->Option R):Option R:=
 match l,b with
 | .ptr 0 u []::r,some B=>if h:B.t.cq t=true then if(u.cq t&&B.own==own)=true then K (Ty.cast h B.x) r else none else none
 |_,_=>none
def lM(t pt bt:Ty)(own:List (List Nat))(l:List SV)(b:Option bD)(K:El t->El bt->Option R):Option R:=
 match l,b with
 | [a,.ptr 0 u []],some B=>if h:B.t.cq bt=true then if(u.cq pt&&B.own==own)=true then a.el t fun y=>K y (Ty.cast h B.x) else none else none
 |_,_=>none
def IB(t u v w:Ty)(l:List SV)(K:El t->El u->El v->El w->Option R):Option R:=
 match l with
 | [a,b,.view v' x,.view w' y]=>if h:v'.cq v=true then if h2:w'.cq w=true then a.el t fun p=>b.el u fun q=>K p q (Ty.cast h x) (Ty.cast h2 y) else none else none
 |_=>none
def gL(b:Option bD)(K:Option R):Option R:=
 match b with
 |none=>K
 |some _=>none
theorem Gj{b:Option bD}{F:Option R}{G:Option S}{K:S->Option R}(h:F=G.bind K):gL b F=(gL b G).bind K:=by
 cases b
 ·exact h
 ·rfl
theorem Ge{b:Option bD}{F:Option R}{z:R}(h:gL b F=some z):b=none/\F=some z:=by
 cases b
 ·exact⟨rfl,h⟩
 ·cases h
theorem zi2(c:Bool)(x y:Option S)(F:S->Option R):(bif c then x else y).bind F=bif c then x.bind F else y.bind F:=by cases c<;>rfl
theorem adD(i:Int)(n:Nat)(x:Option S)(F:S->Option R):(zd i n x).bind F=zd i n (x.bind F):=by
 unfold zd;rw[zi2,zi2];rfl
theorem ahK(F:S->Option R):(none:Option S).bind F=none:=Eq.trans rfl rfl
theorem zc(x:S)(F:S->Option R):(some x).bind F=F x:=Eq.trans rfl rfl
theorem alM{α β:Type}(f:α->Option S)(g:β->Option S)(e:α⊕β)(F:S->Option R):(Sum.elim f g e).bind F=Sum.elim (fun x=>(f x).bind F) (fun x=>(g x).bind F) e:=by cases e<;>rfl
theorem agI{α:Type}(x:Option α)(f:α->Option S)(F:S->Option R):(x.bind f).bind F=x.bind fun y=>(f y).bind F:=by cases x<;>rfl
theorem zhn{l:List SV}{F:Option R}{G:Option S}{K:S->Option R}(h:F=G.bind K):gv l F=(gv l G).bind K:=by
 unfold gv;split
 ·exact h
 ·rfl
theorem zho{t:Ty}{l:List SV}{F:El t->Option R}{G:El t->Option S}{K:S->Option R}(h:∀x,F x=(G x).bind K):gx t l F=(gx t l G).bind K:=by
 unfold gx;split
 ·exact zt h
 ·rfl
theorem zhp{t u:Ty}{l:List SV}{F:El t->El u->Option R}{G:El t->El u->Option S}{K:S->Option R}(h:∀x y,F x y=(G x y).bind K):fU t u l F=(fU t u l G).bind K:=by
 unfold fU;split
 ·exact zt fun x=>zt fun y=>h x y
 ·rfl
theorem agD{t u v:Ty}{l:List SV}{F:El t->El u->El v->Option R}{G:El t->El u->El v->Option S}{K:S->Option R}(h:∀x y z,F x y z=(G x y z).bind K):lN t u v l F=(lN t u v l G).bind K:=by
 unfold lN;split
 ·exact zt fun x=>zt fun y=>zt fun z=>h x y z
 ·rfl
theorem agE{t u v w:Ty}{l:List SV}{F:El t->El u->El v->El w->Option R}{G:El t->El u->El v->El w->Option S}{K:S->Option R}(h:∀x y z a,F x y z a=(G x y z a).bind K):lO t u v w l F=(lO t u v w l G).bind K:=by
 unfold lO;split
 ·exact zt fun x=>zt fun y=>zt fun z=>zt fun a=>h x y z a
 ·rfl
theorem Ri{t:Ty}{own:List (List Nat)}{l:List SV}{b:Option bD}{F:El t->List SV->Option R}{G:El t->List SV->Option S}{K:S->Option R}(h:∀x r,F x r=(G x r).bind K):kr t own l b F=(kr t own l b G).bind K:=by
 unfold kr;split
 ·split
  ·split
   ·exact h _ _
   ·rfl
  ·rfl
 ·rfl
theorem agC{t pt bt:Ty}{own:List (List Nat)}{l:List SV}{b:Option bD}{F:El t->El bt->Option R}{G:El t->El bt->Option S}{K:S->Option R}(h:∀x y,F x y=(G x y).bind K):lM t pt bt own l b F=(lM t pt bt own l b G).bind K:=by
 unfold lM;split
 ·split
  ·split
   ·exact zt fun y=>h _ _
   ·rfl
  ·rfl
 ·rfl
theorem adT{t u v w:Ty}{l:List SV}{F:El t->El u->El v->El w->Option R}{G:El t->El u->El v->El w->Option S}{K:S->Option R}(h:∀x y z a,F x y z a=(G x y z a).bind K):IB t u v w l F=(IB t u v w l G).bind K:=by
 unfold IB;split
 ·split
  ·split
   ·exact zt fun x=>zt fun y=>h x y _ _
   ·rfl
  ·rfl
 ·rfl
theorem sE{α:Type}{m:Option α}{F:α->Option R}{G:α->Option S}{K:S->Option R}(h:∀r,F r=(G r).bind K):m.bind F=(m.bind G).bind K:=by
 cases m with
 |none=>rfl
 |some x=>exact h x
theorem Sf{α β:Type}{f:α->Option R}{g:β->Option R}{f':α->Option S}{g':β->Option S}{K:S->Option R}{e:α⊕β}(h1:∀x,f x=(f' x).bind K)(h2:∀x,g x=(g' x).bind K):Sum.elim f g e=(Sum.elim f' g' e).bind K:=by
 cases e with
 |inl x=>exact h1 x
 |inr x=>exact h2 x
end
section
variable {R:Type}
theorem ahi{C:FuncId->bV R}{k:Nat}{fn:Func}{code:Code}{l q:List SV}{b:Option bD}{K:List SV->Option bD->Option R}(h:aN E.ps l=q)(hq:aN E.ps q=q)(hl:q.length=l.length):jY E C k fn code l b K=jY E C k fn code q b K:=by
 unfold jY
 simp only[h,hq,hl]
theorem Nj:∀{ts:List Ty} {q:List SV},(∀s∈q,s.shut=s/\s≠ .cJ)->aN ts q=q
 |ts,[],_=>by cases ts<;>simp [aN]
 | [],q,_=>by simp [aN]
 |t::r,v::q,h=>by
  have h1:=h v (by simp)
  have h2:=Nj (ts:=r) (q:=q) (fun s hs=>h s (by simp [hs]))
  cases t<;>cases v<;>simp [aN,h2]<;>first|exact h1.1|exact absurd rfl h1.2
theorem alq{ts:List Ty}{l:List SV}(h:aN ts l=[]):l=[]:=by
 have:=Ub ts l
 rw[h] at this
 exact List.length_eq_zero_iff.1 this.symm
theorem Ni{t:Ty}{r:List Ty}{l:List SV}{v':SV}{q':List SV}(h:aN (t::r) l=v'::q'):∃v q,l=v::q:=by
 cases l with
 |nil=>simp [aN] at h
 |cons v q=>exact⟨v,q,rfl⟩
theorem oj{t:Ty}{r:List Ty}{l:List SV}{a:SV}{q':List SV}{K:El t->Option R}{z:R}(hn:aN (t::r) l=a::q')(h:a.el t K=some z):∃y v q,a= .aj t y []/\l=v::q/\aN r q=q'/\K y=some z:=by
 obtain⟨v,q,rfl⟩:=Ni hn
 obtain⟨y,h1,h2,h3⟩:=anN hn h
 exact⟨y,v,q,h1,rfl,h2.symm,h3⟩
theorem Gl{l q:List SV}(hn:aN E.ps l=q)(hd:∀s∈q,s.shut=s/\s≠ .cJ){C:FuncId->bV R}{k:Nat}{fn:Func}{code:Code}{b:Option bD}{K:List SV->Option bD->Option R}:jY E C k fn code l b K=jY E C k fn code q b K:=
 ahi hn (Nj hd) (by rw[<-hn,Ub])
theorem yK{t:Ty}{x:El t}:(SV.aj t x []).shut=SV.aj t x []/\SV.aj t x []≠ .cJ:=⟨rfl,by simp⟩
def iq(E:Env)(l q:List SV):Prop:=∀{R:Type} (C:FuncId->bV R) (k:Nat) (fn:Func) (code:Code) (b:Option bD) (K:List SV->Option bD->Option R),jY E C k fn code l b K=jY E C k fn code q b K
theorem yg{l:List SV}{F:Option R}{z:R}(jo:E.ps=[])(h:gv (aN [] l) F=some z):F=some z/\iq E l []:=by
 unfold gv at h
 split at h
 ·rename_i hn
  have:=alq hn
  subst this
  exact⟨h,fun C k fn code b K=>rfl⟩
 ·cases h
theorem L0{t:Ty}{l:List SV}{F:El t->Option R}{z:R}(jo:E.ps=[t])(h:gx t (aN [t] l) F=some z):∃x,F x=some z/\iq E l [.aj t x []]:=by
 unfold gx at h
 split at h
 ·rename_i a hn
  obtain⟨x,v,q,rfl,rfl,h1,h⟩:=oj hn h
  refine⟨x,h,fun C k fn code b K=>Gl (by rw[jo];exact hn) ?_⟩
  intro s hs
  simp only[List.mem_cons,List.not_mem_nil,or_false] at hs
  subst hs;exact yK
 ·cases h
theorem kQ{t u:Ty}{l:List SV}{F:El t->El u->Option R}{z:R}(jo:E.ps=[t,u])(h:fU t u (aN [t,u] l) F=some z):∃x y,F x y=some z/\iq E l [.aj t x [],.aj u y []]:=by
 unfold fU at h
 split at h
 ·rename_i a b hn
  obtain⟨x,v,q,rfl,rfl,h1,h⟩:=oj hn h
  obtain⟨y,v',q',rfl,rfl,h2,h⟩:=oj h1 h
  refine⟨x,y,h,fun C k fn code b K=>Gl (by rw[jo];exact hn) ?_⟩
  intro s hs
  simp only[List.mem_cons,List.not_mem_nil,or_false] at hs
  rcases hs with rfl|rfl<;>exact yK
 ·cases h
theorem ab2{t u v:Ty}{l:List SV}{F:El t->El u->El v->Option R}{z:R}(jo:E.ps=[t,u,v])(h:lN t u v (aN [t,u,v] l) F=some z):∃x y a,F x y a=some z/\iq E l [.aj t x [],.aj u y [],.aj v a []]:=by
 unfold lN at h
 split at h
 ·rename_i a b c hn
  obtain⟨x,v,q,rfl,rfl,h1,h⟩:=oj hn h
  obtain⟨y,v',q',rfl,rfl,h2,h⟩:=oj h1 h
  obtain⟨w,v',q',rfl,rfl,h3,h⟩:=oj h2 h
  refine⟨x,y,w,h,fun C k fn code b K=>Gl (by rw[jo];exact hn) ?_⟩
  intro s hs
  simp only[List.mem_cons,List.not_mem_nil,or_false] at hs
  rcases hs with rfl|rfl|rfl<;>exact yK
 ·cases h
theorem ab3{t u v w:Ty}{l:List SV}{F:El t->El u->El v->El w->Option R}{z:R}(jo:E.ps=[t,u,v,w])(h:lO t u v w (aN [t,u,v,w] l) F=some z):∃x y a b,F x y a b=some z/\iq E l [.aj t x [],.aj u y [],.aj v a [],.aj w b []]:=by
 unfold lO at h
 split at h
 ·rename_i a b c d hn
  obtain⟨x,v,q,rfl,rfl,h1,h⟩:=oj hn h
  obtain⟨y,v',q',rfl,rfl,h2,h⟩:=oj h1 h
  obtain⟨w,v',q',rfl,rfl,h3,h⟩:=oj h2 h
  obtain⟨w',v',q',rfl,rfl,h4,h⟩:=oj h3 h
  refine⟨x,y,w,w',h,fun C k fn code b K=>Gl (by rw[jo];exact hn) ?_⟩
  intro s hs
  simp only[List.mem_cons,List.not_mem_nil,or_false] at hs
  rcases hs with rfl|rfl|rfl|rfl<;>exact yK
 ·cases h
theorem zhm{t:Ty}{own:List (List Nat)}{l:List SV}{b:Option bD}{F:El t->List SV->Option R}{z:R}(h:kr t own l b F=some z):∃x r,l= .ptr 0 t []::r/\b=some ⟨t,x,own⟩/\F x r=some z:=by
 unfold kr at h
 split at h
 ·rename_i u r B
  split at h
  ·rename_i hB
   split at h
   ·rename_i hu
    simp only[Bool.and_eq_true,beq_iff_eq] at hu
    obtain⟨h1,h2⟩:=hu
    obtain⟨Bt,Bx,Bo⟩:=B
    have:=Ty.aI hB
    have h3:=Ty.aI h1
    subst this
    subst h3
    subst h2
    exact⟨Bx,r,rfl,rfl,h⟩
   ·cases h
  ·cases h
 ·cases h
theorem alE{ts:List Ty}{l:List SV}{t:Ty}{r:List SV}(h:aN (.unit::ts) l= .ptr 0 t []::r):∃q,l= .ptr 0 t []::q/\aN ts q=r:=by
 obtain⟨v,q,rfl⟩:=Ni h
 cases v<;>simp [aN,SV.shut] at h
 obtain⟨⟨rfl,rfl,rfl⟩,h2⟩:=h
 exact⟨q,rfl,h2⟩
theorem QF{t:Ty}:(SV.ptr 0 t []).shut=SV.ptr 0 t []/\SV.ptr 0 t []≠ .cJ:=⟨rfl,by simp⟩
theorem Dd{t:Ty}{own:List (List Nat)}{ts:List Ty}{l:List SV}{b:Option bD}{F:El t->List SV->Option R}{z:R}(h:kr t own (aN (.unit::ts) l) b F=some z):∃x q,l= .ptr 0 t []::q/\b=some ⟨t,x,own⟩/\F x (aN ts q)=some z:=by
 obtain⟨x,r,h1,h2,h3⟩:=zhm h
 obtain⟨q,rfl,hq⟩:=alE h1
 exact⟨x,q,rfl,h2,by rw[hq];exact h3⟩
theorem iq.ptr{t:Ty}{ts:List Ty}{q q':List SV}(jo:E.ps= .unit::ts)(hn:aN ts q=q')(hd:∀s∈q',s.shut=s/\s≠ .cJ):iq E (.ptr 0 t []::q) (.ptr 0 t []::q'):=fun C k fn code b K=>
 Gl (by rw[jo];simp [aN,SV.shut,hn]) (fun s hs=>by
  rcases List.mem_cons.1 hs with rfl|hs
  ·exact QF
  ·exact hd s hs)
theorem L1{t:Ty}{q:List SV}{F:Option R}{z:R}(jo:E.ps=[.unit])(h:gv (aN [] q) F=some z):F=some z/\iq E (.ptr 0 t []::q) [.ptr 0 t []]:=by
 unfold gv at h
 split at h
 ·rename_i hn
  exact⟨h,iq.ptr jo hn (by simp)⟩
 ·cases h
theorem L2{t u:Ty}{q:List SV}{F:El u->Option R}{z:R}(jo:E.ps=[.unit,u])(h:gx u (aN [u] q) F=some z):∃x,F x=some z/\iq E (.ptr 0 t []::q) [.ptr 0 t [],.aj u x []]:=by
 unfold gx at h
 split at h
 ·rename_i a hn
  obtain⟨x,v,q,rfl,rfl,h1,h⟩:=oj hn h
  refine⟨x,h,iq.ptr jo hn ?_⟩
  intro s hs
  simp only[List.mem_cons,List.not_mem_nil,or_false] at hs
  subst hs;exact yK
 ·cases h
theorem L3{t u v:Ty}{q:List SV}{F:El u->El v->Option R}{z:R}(jo:E.ps=[.unit,u,v])(h:fU u v (aN [u,v] q) F=some z):∃x y,F x y=some z/\iq E (.ptr 0 t []::q) [.ptr 0 t [],.aj u x [],.aj v y []]:=by
 unfold fU at h
 split at h
 ·rename_i a b hn
  obtain⟨x,v,q,rfl,rfl,h1,h⟩:=oj hn h
  obtain⟨y,v',q',rfl,rfl,h2,h⟩:=oj h1 h
  refine⟨x,y,h,iq.ptr jo hn ?_⟩
  intro s hs
  simp only[List.mem_cons,List.not_mem_nil,or_false] at hs
  rcases hs with rfl|rfl<;>exact yK
 ·cases h
theorem L5{t pt bt:Ty}{own:List (List Nat)}{l:List SV}{b:Option bD}{F:El t->El bt->Option R}{z:R}(jo:E.ps=[t,.unit])(h:lM t pt bt own (aN [t,.unit] l) b F=some z):
 ∃x y,b=some ⟨bt,y,own⟩/\F x y=some z/\iq E l [.aj t x [],.ptr 0 pt []]:=by
 unfold lM at h
 split at h
 ·rename_i a u B hn
  split at h
  ·rename_i hB
   split at h
   ·rename_i hu
    simp only[Bool.and_eq_true,beq_iff_eq] at hu
    obtain⟨h1,h2⟩:=hu
    obtain⟨Bt,Bx,Bo⟩:=B
    have:=Ty.aI hB
    have h3:=Ty.aI h1
    subst this
    subst h3
    subst h2
    obtain⟨y,v,q,rfl,rfl,h4,h⟩:=oj hn h
    refine⟨y,Bx,rfl,h,fun C k fn code b K=>Gl (by rw[jo];exact hn) ?_⟩
    intro s hs
    simp only[List.mem_cons,List.not_mem_nil,or_false] at hs
    rcases hs with rfl|rfl
    ·exact yK
    ·exact QF
   ·cases h
  ·cases h
 ·cases h
theorem P6{t:Ty}{x:El t}:(SV.view t x).shut=SV.view t x/\SV.view t x≠ .cJ:=⟨rfl,by simp⟩
theorem L4{t u v w:Ty}{l:List SV}{F:El t->El u->El v->El w->Option R}{z:R}(jo:E.ps=[t,u,.unit,.unit])(h:IB t u v w (aN [t,u,.unit,.unit] l) F=some z):
 ∃p q x y,F p q x y=some z/\iq E l [.aj t p [],.aj u q [],.view v x,.view w y]:=by
 unfold IB at h
 split at h
 ·rename_i a b v' x w' y hn
  split at h
  ·rename_i hv
   split at h
   ·rename_i hw
    have:=Ty.aI hv
    have h3:=Ty.aI hw
    subst this
    subst h3
    obtain⟨p,v1,q1,rfl,rfl,h4,h⟩:=oj hn h
    obtain⟨q,v2,q2,rfl,rfl,h5,h⟩:=oj h4 h
    refine⟨p,q,x,y,h,fun C k fn code b K=>Gl (by rw[jo];exact hn) ?_⟩
    intro s hs
    simp only[List.mem_cons,List.not_mem_nil,or_false] at hs
    rcases hs with rfl|rfl|rfl|rfl
    ·exact yK
    ·exact yK
    ·exact P6
    ·exact P6
   ·cases h
  ·cases h
 ·cases h
end
end Go.Ref

namespace Go.Ref
open Go
variable {P:Program} {E:Env}
def ax.after(X:ax)(w:World):ax:=⟨w,fun g=>if g<X.w.heap.size then X.ow g else .ro 0,X.β⟩
theorem zvc{X:ax}{w:World}(h:RowKit.Below X.w.heap.size X.w w){a:Addr}{v:Value}(hs:X.ay a v):(X.after w).ay a v:=by
 have al:=ax.jk hs
 refine⟨hs.1,?_,?_⟩
 ·have:=hs.2.1
  simp only[World.cell?] at this⊢
  rw[show(X.after w).w=w from rfl,h.block _ al];exact this
 ·simp only[ax.after];rw[if_pos al];exact hs.2.2
theorem agz{X:ax}{w:World}(h:RowKit.Below X.w.heap.size X.w w):Ext X (X.after w) where
 ay:=fun _ _=>zvc h
 size:=h.size
 os:=h.os
 tape:=h.tape
 output:=h.output
 β0:=rfl
 still:=fun g hg _=>⟨by simp only[ax.after];rw[if_pos hg],h.block g hg⟩
theorem ala{C:ag}(h0:∀f,de P C f){n:FuncId}{g:Pure}(eV:sP P n)
 (h:∀(l:List SV) (b:Option bD) (r:List SV) (b':Option bD),g (List SV×Option bD) l b (fun r b=>some (r,b))=some (r,b')->b'=none/\(∀id t p,SV.ptr id t p∉r)/\r.any SV.bM=false/\
   ∀(X:ax) (args:Array Value),kh X l b args->Calls P n args X.w fun e w'=>∃v,e= .returned v/\RowKit.Below X.w.heap.size X.w w'/\∀Y:ax,Y.w=w'->(∀a v,X.ay a v->Y.ay a v)->cS Y .r r v):∀f,de P (C.add n [] g) f:=by
 intro f
 by_cases e:f=n
 ·subst e
  intro l b r b' hc
  unfold ag.add at hc
  have hb:Nat.beq f f=true:=by simp
  rw[hb] at hc
  have hc:g (List SV×Option bD) (aN [] l) b (fun r b=>some (r,b))=some (r,b'):=hc
  have hl:aN [] l=l:=by cases l<;>rfl
  rw[hl] at hc
  obtain⟨rfl,hp,eA,CG⟩:=h l b r b' hc
  refine⟨eV,fun X args iN=>(CG X args iN).mono fun e w' he=> ?_⟩
  obtain⟨v,rfl,hB,aM⟩:=he
  refine⟨X.after w',rfl,agz hB,0,aM {X.after w' with β:=fun _=>some 0} rfl (fun a v hs=>(zvc hB hs:(X.after w').ay a v)),fun B' eQ=>(by cases eQ),fun _=>hp,eA⟩
 ·intro l b r b' hc
  unfold ag.add at hc
  have:Nat.beq f n=false:=by
   cases hh:Nat.beq f n with
   |false=>rfl
   |true=>exact absurd (Nat.eq_of_beq_eq_true hh) e
  rw[this] at hc
  exact h0 f l b r b' hc
theorem MQ{X:ax}{l:List SV}{b:Option bD}{args:Array Value}(h:kh X l b args){i:Nat}{sv:SV}(hs:l[i]? =some sv){x:ByteArray}(hx:∀(X:ax) (pl:List Nat->Place) (v:Value),aA X pl sv v->∃cs,bh X .str x cs/\v=eb .str cs):args[i]? =some (.string x):=by
 have al:i<args.size:=by rw[h.size];exact(List.getElem?_eq_some_iff.1 hs).1
 rw[Array.getElem?_eq_getElem al]
 obtain⟨cs,h1,h2⟩:=hx X _ _ (h.rep i sv _ hs (Array.getElem?_eq_getElem al))
 rw[h2,n6 h1]
theorem ahg{X:ax}{l:List SV}{b:Option bD}{args:Array Value}(h:kh X l b args){i:Nat}{sv:SV}(hs:l[i]? =some sv){k:IntKind}{n:Int}(hx:∀(X:ax) (pl:List Nat->Place) (v:Value),aA X pl sv v->∃cs,bh X (.int k) n cs/\v=eb (.int k) cs):args[i]? =some (.int k n):=by
 have al:i<args.size:=by rw[h.size];exact(List.getElem?_eq_some_iff.1 hs).1
 rw[Array.getElem?_eq_getElem al]
 obtain⟨cs,h1,h2⟩:=hx X _ _ (h.rep i sv _ hs (Array.getElem?_eq_getElem al))
 rw[h2,me h1]
theorem akr{args:Array Value}{v:Value}(hs:args.size=1)(h:args[0]? =some v):args= #[v]:=by
 apply Array.ext'
 match hl:args.toList,(show args.toList.length=1 by simpa using hs) with
 | [x],_=>
   have:args.toList[0]? =some v:=by simpa using h
   rw[hl] at this
   simpa using this
theorem NS{args:Array Value}{u v:Value}(hs:args.size=2)(h:args[0]? =some u)(h1:args[1]? =some v):args= #[u,v]:=by
 apply Array.ext'
 match hl:args.toList,(show args.toList.length=2 by simpa using hs) with
 | [x,y],_=>
   have a:args.toList[0]? =some u:=by simpa using h
   have b:args.toList[1]? =some v:=by simpa using h1
   rw[hl] at a b
   simp at a b
   rw[a,b]
theorem alb{C:ag}(h0:∀f,de P C f){n:FuncId}(eV:sP P n)(F:ByteArray->Int->Option ByteArray)
 (h:∀(s:ByteArray) (k:Int) (r:ByteArray),F s k=some r->∀w:World,Calls P n #[.string s,.int .i64 k] w fun e w'=>e= .returned (.string r)/\RowKit.Below w.heap.size w w'):
 ∀f,de P (C.add n [] fun R l b K=>gL b (fU .str (.int .i64) l fun x0 x1=>(F x0 x1).bind fun r=>K [.aj .str r []] none)) f:=by
 refine ala h0 eV fun l b r b' hc=> ?_
 obtain⟨hb,hc2⟩:=Ge hc
 clear hc
 subst hb
 have hc:=hc2
 clear hc2
 unfold fU at hc
 split at hc
 case h_2=>cases hc
 rename_i sa sb
 obtain⟨s,hc,hs⟩:=zz hc
 obtain⟨k,hc,hk⟩:=zz hc
 have hc:((F s k).bind fun r=>some (([SV.aj .str r []]:List SV),(none:Option bD)))=some (r,b'):=hc
 cases hF:F s k with
 |none=>rw[hF] at hc;cases hc
 |some x=>
  rw[hF] at hc
  cases hc
  refine⟨rfl,(fun id t p hm=>by simp at hm),rfl,fun X args iN=> ?_⟩
  have e:=NS iN.size (MQ iN rfl hs) (ahg iN rfl hk)
  rw[e]
  exact(h s k x hF X.w).mono fun e w' ⟨he,hB⟩=>⟨_,he,hB,fun Y _ _=>BO⟩
end Go.Ref
namespace bj
open Go Go.Ref
def strings_Repeat(s:ByteArray)(k:Int):Option ByteArray:=
 bif decide (0<=k) then bif decide (k<=9223372036854775807) then bif decide ((s.size:Int)*k<=140737488355328) then some ⟨(Go.Lib.repeatL s.data.toList k.toNat).toArray⟩ else none else none else none
theorem ze2{P:Program}{ρ:Go.Shelf.Ren}(L:Go.Proofs.Lays.n105 P ρ)(B:Go.Proofs.Builder.Extra P ρ){n:FuncId}(hn:ρ.f 105=n)(s:ByteArray)(k:Int)(r:ByteArray)(h:strings_Repeat s k=some r)(w:World):
 Calls P n #[.string s,.int .i64 k] w fun e w'=>e= .returned (.string r)/\RowKit.Below w.heap.size w w':=by
 subst hn
 unfold strings_Repeat at h
 by_cases h0:0<=k
 ·by_cases h1:k<=9223372036854775807
  ·by_cases h2:(s.size:Int)*k<=140737488355328
   ·rw[decide_eq_true h0,decide_eq_true h1,decide_eq_true h2] at h
    cases h
    obtain⟨c,rfl⟩:∃c:Nat,k=(c:Int):=⟨k.toNat,by omega⟩
    exact Go.Proofs.Any.strings_Repeat L B s c w (by omega) (by rw[<-Int.natCast_mul] at h2;omega)
   ·rw[decide_eq_true h0,decide_eq_true h1,decide_eq_false h2] at h;cases h
  ·rw[decide_eq_true h0,decide_eq_false h1] at h;cases h
 ·rw[decide_eq_false h0] at h;cases h
end bj

namespace Go.Ref
open Go Go.Shelf Go.RowKit Go.Proofs
variable {P:Program} {E:Env} {ρ:Ren}
abbrev ym(T e:TypeId):Ty:= .aF (.gY T e) .unit .unit
def z24(x s:ByteArray):Option (Int×ByteArray):=bif decide (x.size+s.size<=140737488355328) then some ((s.size:Int),x++s) else none
def z5k(x:ByteArray):Option (ByteArray×ByteArray):=some (x,x)
def SH(T e:TypeId):Pure:=fun R l b K=>kr (ym T e) [[]] l b fun x0 l=>gx .str l fun x1=>(z24 x0 x1).bind fun r=>K [.aj (.int .i64) r.1 [],.undef] (some ⟨ym T e,r.2,[[]]⟩)
def SG(T e:TypeId):Pure:=fun R l b K=>kr (ym T e) [[]] l b fun x0 l=>gv l ((z5k x0).bind fun r=>K [.aj .str r.1 []] (some ⟨ym T e,r.2,[]⟩))
theorem apB(T e:TypeId):(SH T e).Nat:=fun R S l b F G K h=>Ri fun _ _=>zho fun _=>sE fun _=>h _ _
theorem apA(T e:TypeId):(SG T e).Nat:=fun R S l b F G K h=>Ri fun _ _=>zhn (sE fun _=>h _ _)
theorem ac0(x s:ByteArray):Lib.strCells (x++s)=Lib.strCells x++Lib.strCells s:=by
 simp [Lib.strCells,ByteArray.data_append]
def ax.gY(X:ax)(w:World)(r:Nat)(g:Option Nat):ax:=⟨w,fun k=>if k=r then .box 0 else if g=some k then .row (.b 0 []) 0 else if k<X.w.heap.size then X.ow k else .ro 0,X.β⟩
theorem Pw{X:ax}{w:World}{r:Nat}{g0 g:Option Nat}(how:X.ow r= .box 0)(h0:∀k,g0=some k->X.ow k= .row (.b 0 []) 0)(h:gU r g0 X.w w)(hg:∀k,g=some k->g0=some k\/X.w.heap.size<=k):Ext X (X.gY w r g):=by
 have dF:∀k,k<X.w.heap.size->X.ow k≠ .box 0->X.ow k≠ .row (.b 0 []) 0->(X.gY w r g).ow k=X.ow k/\w.heap[k]? =X.w.heap[k]? :=fun k hk h1 h2=>by
  have hr:k≠r:=fun e=>h1 (by rw[e];exact how)
  have hg1:g≠some k:=fun e=>by
   rcases hg k e with e2|e2
   ·exact h2 (h0 k e2)
   ·omega
  have hg2:some k≠g0:=fun e=>h2 (h0 k e.symm)
  refine⟨?_,h.block k hk hr hg2⟩
  simp only[ax.gY]
  rw[if_neg hr,if_neg hg1,if_pos hk]
 refine⟨fun a v hs=> ?_,h.size,h.os,h.tape,h.output,rfl,fun k hk bQ=> ?_⟩
 ·have al:=ax.jk hs
  have hu:=hs.2.2
  obtain⟨k1,k2⟩:=dF a.block al (fun e=>by rw[e] at hu;exact hu) (fun e=>by rw[e] at hu;exact Nat.not_lt_zero _ hu)
  refine⟨hs.1,?_,by rw[k1];exact hu⟩
  have:=hs.2.1
  simp only[World.cell?] at this⊢
  rw[show(X.gY w r g).w.heap=w.heap from rfl,k2];exact this
 ·exact dF k hk (fun e=>by rw[e] at bQ;exact bQ) (fun e=>by rw[e] at bQ;exact bQ)
theorem NY(n:Nat):Nat.beq n n=true:=by simp
theorem Qp{f n:Nat}(e:f≠n):Nat.beq f n=false:=by
 cases hh:Nat.beq f n with
 |false=>rfl
 |true=>exact absurd (Nat.eq_of_beq_eq_true hh) e
theorem agK{C:ag}(h0:∀f,de P C f){n T e:TypeId}(eV:sP P n)(L:Lays.n166 P ρ)(X0:Builder.Extra P ρ)(hn:ρ.f 166=n)(hT:ρ.t 72=T)(he:ρ.t 5=e):∀f,de P (C.add n [] (SH T e)) f:=by
 subst hT he
 intro f
 by_cases ef:f=n
 ·subst ef
  intro l b r b' hc
  unfold ag.add at hc
  rw[NY] at hc
  have hc:SH (ρ.t 72) (ρ.t 5) (List SV×Option bD) (aN [] l) b (fun r b=>some (r,b))=some (r,b'):=hc
  have hl:aN [] l=l:=by cases l<;>rfl
  rw[hl] at hc
  unfold SH at hc
  obtain⟨x,q,rfl,rfl,K7⟩:=zhm hc
  clear hc
  have hc:=K7
  clear K7
  unfold gx at hc
  split at hc
  case h_2=>cases hc
  rename_i a
  obtain⟨s,hc,hs⟩:=zz hc
  unfold z24 at hc
  cases hd:decide (ByteArray.size x+s.size<=140737488355328) with
  |false=>rw[hd] at hc;cases hc
  |true=>
   rw[hd] at hc
   cases hc
   have hlen:=of_decide_eq_true hd
   refine⟨eV,fun X args iN=> ?_⟩
   obtain⟨r0,hβ,how,⟨o,ho⟩,hb⟩:=iN.box _ rfl
   obtain⟨v,hB,hv⟩:=hb (by simp)
   have c9:args.size=2:=by rw[iN.size];rfl
   have a0:args[0]? =some (.pointer (some ⟨r0,0,none⟩)):=by
    rw[Array.getElem?_eq_getElem (by omega)]
    obtain⟨r1,g1,g2⟩:=iN.rep 0 _ _ rfl (Array.getElem?_eq_getElem (by omega))
    rw[hβ] at g1
    cases g1
    rw[((Rp rfl).1 g2).1];rfl
   have a1:args[1]? =some (.string s):=MQ iN (i:=1) rfl hs
   rw[NS c9 a0 a1,<-hn]
   refine(agM L X0 r0 v (Lib.strCells x) s X.w hB (by rw[Lib.strCells_length];exact hlen)).mono ?_
   rintro e w' ⟨rfl,v',eQ,xK,iE⟩
   have hY:(X.gY w' r0 v'.ownBlock).ow r0= .box 0:=by simp [ax.gY]
   refine⟨X.gY w' r0 v'.ownBlock,rfl,Pw how hv xK iE,r0,⟨_,rfl,rfl,fun j sv u hj hu=> ?_⟩,fun B' c8=> ?_,(fun _ id t p hm=>by simp at hm),rfl⟩
   ·match j with
    |0=>cases hj;cases hu;exact jR
    |1=>cases hj;trivial
    |j+2=>simp at hj
   ·cases c8
    refine⟨⟨hY,?_,fun _=>⟨v',by rw[ac0];exact eQ,fun g hg=> ?_⟩⟩,fun _=>hβ⟩
    ·rcases eQ.nx with h|h<;>exact⟨_,h⟩
    ·simp only[ax.gY]
     rw[if_neg (fun e=>eQ.ne (by rw[hg,e])),if_pos hg]
 ·intro l b r b' hc
  unfold ag.add at hc
  rw[Qp ef] at hc
  exact h0 f l b r b' hc
theorem agJ{C:ag}(h0:∀f,de P C f){n T e:TypeId}(eV:sP P n)(L:Lays.n169 P ρ)(X0:Builder.Extra P ρ)(hn:ρ.f 169=n)(hT:ρ.t 72=T)(he:ρ.t 5=e):∀f,de P (C.add n [] (SG T e)) f:=by
 subst hT he
 intro f
 by_cases ef:f=n
 ·subst ef
  intro l b r b' hc
  unfold ag.add at hc
  rw[NY] at hc
  have hc:SG (ρ.t 72) (ρ.t 5) (List SV×Option bD) (aN [] l) b (fun r b=>some (r,b))=some (r,b'):=hc
  have hl:aN [] l=l:=by cases l<;>rfl
  rw[hl] at hc
  unfold SG at hc
  obtain⟨x,q,rfl,rfl,K7⟩:=zhm hc
  clear hc
  have hc:=K7
  clear K7
  unfold gv at hc
  split at hc
  case h_2=>cases hc
  cases hc
  refine⟨eV,fun X args iN=> ?_⟩
  obtain⟨r0,hβ,how,⟨o,ho⟩,hb⟩:=iN.box _ rfl
  obtain⟨v,hB,hv⟩:=hb (by simp)
  have c9:args.size=1:=by rw[iN.size];rfl
  have a0:args[0]? =some (.pointer (some ⟨r0,0,none⟩)):=by
   rw[Array.getElem?_eq_getElem (by omega)]
   obtain⟨r1,g1,g2⟩:=iN.rep 0 _ _ rfl (Array.getElem?_eq_getElem (by omega))
   rw[hβ] at g1
   cases g1
   rw[((Rp rfl).1 g2).1];rfl
  rw[akr c9 a0,<-hn]
  refine(akw L X0 r0 v (x:ByteArray).data.toList X.w hB).mono ?_
  rintro e w' ⟨rfl,xK⟩
  have hY:(X.gY w' r0 none).ow r0= .box 0:=by simp [ax.gY]
  refine⟨X.gY w' r0 none,rfl,Pw how hv xK (fun k hk=>by cases hk),r0,?_,fun B' c8=> ?_,(fun _ id t p hm=>by simp at hm),rfl⟩
  ·exact BO
  ·cases c8
   refine⟨⟨hY,⟨_,Array.getElem?_eq_getElem (Nat.lt_of_lt_of_le hB.lt xK.size)⟩,fun hm=>by cases hm⟩,fun _=>hβ⟩
 ·intro l b r b' hc
  unfold ag.add at hc
  rw[Qp ef] at hc
  exact h0 f l b r b' hc
end Go.Ref

namespace Go.Ref
open Go
variable {P:Program} {R S:Type}
structure aP(P:Program)(T:ag):Prop where
 mix:P.follows .mixedOrders=true
 nat:T.Nat
 vn:∀f,de P T f
noncomputable abbrev cd (fn:Func):Code:=fn.body.getD .skip
noncomputable abbrev vP (E:Env) (T:ag) (R:Type) (k:Nat) (fn:Func) (l:List SV) (b:Option bD) (K:List SV->Option bD->Option R):Option R:=jY E (T R) k fn (cd fn) l b K
abbrev KF(R:Type):Type:=List SV->Option bD->Option R
abbrev KX(R:Type):Type:=Ex->State->Option R
abbrev ld(β:Type):Type 1:=(R:Type)->β->KF R->Option R
def ld.Nat{β:Type}(o:ld β):Prop:=∀(R S:Type) r (F:KF R) (G:KF S) (K:S->Option R),(∀r b,F r b=(G r b).bind K)->o R r F=(o S r G).bind K
def uB(fn:Func):Bool:= !(fn.name== "runtime.NumGoroutine")&&fn.body.isSome
def tI(x:Int):SV:= .aj (.int .i64) x []
def tU(x:Int):SV:= .aj (.int .u8) x []
def tB(x:Bool):SV:= .aj .bool x []
def tS(x:ByteArray):SV:= .aj .str x []
theorem Qv{kk:Nat}(hF:kk=af){R:Type}(f:Unit->Option R):cL kk f=f ():=by rw[hF];exact aeo f
theorem aC:(∀{R S:Type} (c:Bool) (x y:Option S) (F:S->Option R),(bif c then x else y).bind F=bif c then x.bind F else y.bind F)/\(∀{R S:Type} (i:Int) (n:Nat) (x:Option S) (F:S->Option R),(zd i n x).bind F=zd i n (x.bind F))/\
 (∀{R S:Type} (F:S->Option R),(.none:Option S).bind F= .none)/\(∀{R S:Type} (x:S) (F:S->Option R),(some x).bind F=F x)/\(∀{R S α β:Type} (f:α->Option S) (g:β->Option S) (e:α⊕β) (F:S->Option R),(Sum.elim f g e).bind F=Sum.elim (fun x=>(f x).bind F) (fun x=>(g x).bind F) e)/\
 (∀{R S α:Type} (x:Option α) (f:α->Option S) (F:S->Option R),(x.bind f).bind F=x.bind fun y=>(f y).bind F)/\(∀{α β γ:Type} (f:α->γ) (g:β->γ) (x:α),Sum.elim f g (.inl x)=f x)/\(∀{α β γ:Type} (f:α->γ) (g:β->γ) (x:β),Sum.elim f g (.inr x)=g x):=
 ⟨zi2,adD,ahK,zc,alM,agI,fun _ _ _=>rfl,fun _ _ _=>rfl⟩
theorem aP.none(hm:P.follows .mixedOrders=true):aP P ag.none:=⟨hm,alp,ahL⟩
theorem aP.add{E:Env}{T:ag}(h:aP P T)(hE:ak P E){n:FuncId}{ps:List Ty}{g:Pure}{fn:Func}(jn:P.funcs[n]? =some fn)(hc:uB fn=true)(hg:g.Nat)
 (h1:∀(l:List SV) (b:Option bD) (r:List SV) (b':Option bD),g (List SV×Option bD) (aN ps l) b (fun r b=>some (r,b))=some (r,b')->∃k,jY E (T (List SV×Option bD)) k fn (cd fn) l b (fun r b=>some (r,b))=some (r,b')):aP P (T.add n ps g):=by
 obtain⟨h2,h3⟩:=Bool.and_eq_true_iff.1 hc
 refine⟨h.mix,Xm h.nat hg,akn hE h.mix h.nat h.vn jn (by simpa using h2) ?_ h1⟩
 cases e:fn.body with
 |none=>rw[e] at h3;cases h3
 |some c=>simp [cd,e]
def Dh{β:Type}(f:Option β)(o:ld β):Pure:=fun R l b K=>gL b (gv l (f.bind fun r=>o R r K))
theorem HJ(E:Env){T:ag}{n:FuncId}(fn:Func){β:Type}{f:Option β}{o:ld β}(m:(R:Type)->Nat->KF R->Option R)(h0:aP P T)(hE:ak P E)(jn:P.funcs[n]? =some fn)(hc:uB fn=true)(hp:E.ps=[])(ho:o.Nat)
 (h1:∀(R:Type) k (K:KF R),vP E T R k fn [] .none K=m R k K) (h2:∀(R:Type) kk (e:kk=af) (K:KF R),m R kk K=f.bind fun r=>o R r K):aP P (T.add n [] (Dh f o)):=
 h0.add hE jn hc (fun R S l b F G K h=>Gj (zhn (sE fun _=>ho _ _ _ _ _ _ h))) fun l b r b' h=>by
  obtain⟨rfl,h5⟩:=Ge h
  obtain⟨h3,h4⟩:=yg hp h5
  exact⟨af,(h4 _ _ _ _ _ _).trans (((h1 _ _ _).trans (h2 _ _ rfl _)).trans h3)⟩
def cN(t:Ty){β:Type}(f:El t->Option β)(o:ld β):Pure:=fun R l b K=>gL b (gx t l (fun x=>(f x).bind fun r=>o R r K))
theorem cP(E:Env){T:ag}{n:FuncId}(fn:Func){t:Ty}{β:Type}{f:El t->Option β}{o:ld β}(m:(R:Type)->Nat->El t->KF R->Option R)(h0:aP P T)(hE:ak P E)(jn:P.funcs[n]? =some fn)(hc:uB fn=true)(hp:E.ps=[t])(ho:o.Nat)
 (h1:∀(R:Type) k x (K:KF R),vP E T R k fn [.aj t x []] .none K=m R k x K) (h2:∀(R:Type) kk (e:kk=af) x (K:KF R),m R kk x K=(f x).bind fun r=>o R r K):aP P (T.add n [t] (cN t f o)):=
 h0.add hE jn hc (fun R S l b F G K h=>Gj (zho fun _=>sE fun _=>ho _ _ _ _ _ _ h)) fun l b r b' h=>by
  obtain⟨rfl,h5⟩:=Ge h
  obtain⟨x,h3,h4⟩:=L0 hp h5
  exact⟨af,(h4 _ _ _ _ _ _).trans (((h1 _ _ x _).trans (h2 _ _ rfl x _)).trans h3)⟩
def dJ(t u:Ty){β:Type}(f:El t->El u->Option β)(o:ld β):Pure:=fun R l b K=>gL b (fU t u l (fun x y=>(f x y).bind fun r=>o R r K))
theorem dN(E:Env){T:ag}{n:FuncId}(fn:Func){t u:Ty}{β:Type}{f:El t->El u->Option β}{o:ld β}(m:(R:Type)->Nat->El t->El u->KF R->Option R)(h0:aP P T)(hE:ak P E)(jn:P.funcs[n]? =some fn)(hc:uB fn=true)(hp:E.ps=[t,u])(ho:o.Nat)
 (h1:∀(R:Type) k x y (K:KF R),vP E T R k fn [.aj t x [],.aj u y []] .none K=m R k x y K) (h2:∀(R:Type) kk (e:kk=af) x y (K:KF R),m R kk x y K=(f x y).bind fun r=>o R r K):aP P (T.add n [t,u] (dJ t u f o)):=
 h0.add hE jn hc (fun R S l b F G K h=>Gj (zhp fun _ _=>sE fun _=>ho _ _ _ _ _ _ h)) fun l b r b' h=>by
  obtain⟨rfl,h5⟩:=Ge h
  obtain⟨x,y,h3,h4⟩:=kQ hp h5
  exact⟨af,(h4 _ _ _ _ _ _).trans (((h1 _ _ x y _).trans (h2 _ _ rfl x y _)).trans h3)⟩
def lh(t u v:Ty){β:Type}(f:El t->El u->El v->Option β)(o:ld β):Pure:=fun R l b K=>gL b (lN t u v l (fun x y a=>(f x y a).bind fun r=>o R r K))
theorem lA(E:Env){T:ag}{n:FuncId}(fn:Func){t u v:Ty}{β:Type}{f:El t->El u->El v->Option β}{o:ld β}(m:(R:Type)->Nat->El t->El u->El v->KF R->Option R)(h0:aP P T)(hE:ak P E)(jn:P.funcs[n]? =some fn)(hc:uB fn=true)(hp:E.ps=[t,u,v])(ho:o.Nat)
 (h1:∀(R:Type) k x y a (K:KF R),vP E T R k fn [.aj t x [],.aj u y [],.aj v a []] .none K=m R k x y a K) (h2:∀(R:Type) kk (e:kk=af) x y a (K:KF R),m R kk x y a K=(f x y a).bind fun r=>o R r K):aP P (T.add n [t,u,v] (lh t u v f o)):=
 h0.add hE jn hc (fun R S l b F G K h=>Gj (agD fun _ _ _=>sE fun _=>ho _ _ _ _ _ _ h)) fun l b r b' h=>by
  obtain⟨rfl,h5⟩:=Ge h
  obtain⟨x,y,a,h3,h4⟩:=ab2 hp h5
  exact⟨af,(h4 _ _ _ _ _ _).trans (((h1 _ _ x y a _).trans (h2 _ _ rfl x y a _)).trans h3)⟩
def Tv(t u v w:Ty){β:Type}(f:El t->El u->El v->El w->Option β)(o:ld β):Pure:=fun R l b K=>gL b (lO t u v w l (fun x y a b=>(f x y a b).bind fun r=>o R r K))
theorem st4(E:Env){T:ag}{n:FuncId}(fn:Func){t u v w:Ty}{β:Type}{f:El t->El u->El v->El w->Option β}{o:ld β}(m:(R:Type)->Nat->El t->El u->El v->El w->KF R->Option R)(h0:aP P T)(hE:ak P E)(jn:P.funcs[n]? =some fn)(hc:uB fn=true)(hp:E.ps=[t,u,v,w])(ho:o.Nat)
 (h1:∀(R:Type) k x y a b (K:KF R),vP E T R k fn [.aj t x [],.aj u y [],.aj v a [],.aj w b []] .none K=m R k x y a b K) (h2:∀(R:Type) kk (e:kk=af) x y a b (K:KF R),m R kk x y a b K=(f x y a b).bind fun r=>o R r K):aP P (T.add n [t,u,v,w] (Tv t u v w f o)):=
 h0.add hE jn hc (fun R S l b F G K h=>Gj (agE fun _ _ _ _=>sE fun _=>ho _ _ _ _ _ _ h)) fun l b r b' h=>by
  obtain⟨rfl,h5⟩:=Ge h
  obtain⟨x,y,a,b,h3,h4⟩:=ab3 hp h5
  exact⟨af,(h4 _ _ _ _ _ _).trans (((h1 _ _ x y a b _).trans (h2 _ _ rfl x y a b _)).trans h3)⟩
def HI(T0:Ty)(wn:List (List Nat)){β:Type}(f:El T0->Option β)(o:ld β):Pure:=fun R l b K=>kr T0 wn l b fun z l=>gv l ((f z).bind fun r=>o R r K)
theorem TB(E:Env){T:ag}{n:FuncId}(fn:Func){T0:Ty}{wn:List (List Nat)}{β:Type}{f:El T0->Option β}{o:ld β}(m:(R:Type)->Nat->El T0->KF R->Option R)(h0:aP P T)(hE:ak P E)(jn:P.funcs[n]? =some fn)(hc:uB fn=true)(hp:E.ps=[.unit])(ho:o.Nat)
 (h1:∀(R:Type) k z (K:KF R),vP E T R k fn [.ptr 0 T0 []] (some ⟨T0,z,wn⟩) K=m R k z K) (h2:∀(R:Type) kk (e:kk=af) z (K:KF R),m R kk z K=(f z).bind fun r=>o R r K):aP P (T.add n [.unit] (HI T0 wn f o)):=
 h0.add hE jn hc (fun R S l b F G K h=>Ri fun _ _=>zhn (sE fun _=>ho _ _ _ _ _ _ h)) fun l b r b' h=>by
  unfold HI at h
  obtain⟨z,q,rfl,rfl,h5⟩:=Dd h
  obtain⟨h3,h4⟩:=L1 hp h5
  exact⟨af,(h4 _ _ _ _ _ _).trans (((h1 _ _ z _).trans (h2 _ _ rfl z _)).trans h3)⟩
def Dg(T0:Ty)(wn:List (List Nat))(t:Ty){β:Type}(f:El T0->El t->Option β)(o:ld β):Pure:=fun R l b K=>kr T0 wn l b fun z l=>gx t l (fun x=>(f z x).bind fun r=>o R r K)
theorem Mc(E:Env){T:ag}{n:FuncId}(fn:Func){T0:Ty}{wn:List (List Nat)}{t:Ty}{β:Type}{f:El T0->El t->Option β}{o:ld β}(m:(R:Type)->Nat->El T0->El t->KF R->Option R)(h0:aP P T)(hE:ak P E)(jn:P.funcs[n]? =some fn)(hc:uB fn=true)(hp:E.ps=[.unit,t])(ho:o.Nat)
 (h1:∀(R:Type) k z x (K:KF R),vP E T R k fn [.ptr 0 T0 [],.aj t x []] (some ⟨T0,z,wn⟩) K=m R k z x K) (h2:∀(R:Type) kk (e:kk=af) z x (K:KF R),m R kk z x K=(f z x).bind fun r=>o R r K):aP P (T.add n [.unit,t] (Dg T0 wn t f o)):=
 h0.add hE jn hc (fun R S l b F G K h=>Ri fun _ _=>zho fun _=>sE fun _=>ho _ _ _ _ _ _ h) fun l b r b' h=>by
  unfold Dg at h
  obtain⟨z,q,rfl,rfl,h5⟩:=Dd h
  obtain⟨x,h3,h4⟩:=L2 hp h5
  exact⟨af,(h4 _ _ _ _ _ _).trans (((h1 _ _ z x _).trans (h2 _ _ rfl z x _)).trans h3)⟩
def pb2(T0:Ty)(wn:List (List Nat))(t u:Ty){β:Type}(f:El T0->El t->El u->Option β)(o:ld β):Pure:=fun R l b K=>kr T0 wn l b fun z l=>fU t u l (fun x y=>(f z x y).bind fun r=>o R r K)
theorem sb2(E:Env){T:ag}{n:FuncId}(fn:Func){T0:Ty}{wn:List (List Nat)}{t u:Ty}{β:Type}{f:El T0->El t->El u->Option β}{o:ld β}(m:(R:Type)->Nat->El T0->El t->El u->KF R->Option R)(h0:aP P T)(hE:ak P E)(jn:P.funcs[n]? =some fn)(hc:uB fn=true)(hp:E.ps=[.unit,t,u])(ho:o.Nat)
 (h1:∀(R:Type) k z x y (K:KF R),vP E T R k fn [.ptr 0 T0 [],.aj t x [],.aj u y []] (some ⟨T0,z,wn⟩) K=m R k z x y K) (h2:∀(R:Type) kk (e:kk=af) z x y (K:KF R),m R kk z x y K=(f z x y).bind fun r=>o R r K):aP P (T.add n [.unit,t,u] (pb2 T0 wn t u f o)):=
 h0.add hE jn hc (fun R S l b F G K h=>Ri fun _ _=>zhp fun _ _=>sE fun _=>ho _ _ _ _ _ _ h) fun l b r b' h=>by
  unfold pb2 at h
  obtain⟨z,q,rfl,rfl,h5⟩:=Dd h
  obtain⟨x,y,h3,h4⟩:=L3 hp h5
  exact⟨af,(h4 _ _ _ _ _ _).trans (((h1 _ _ z x y _).trans (h2 _ _ rfl z x y _)).trans h3)⟩
def pz(t pt bt:Ty)(wn:List (List Nat)){β:Type}(f:El t->El bt->Option β)(o:ld β):Pure:=fun R l b K=>lM t pt bt wn l b fun x y=>(f x y).bind fun r=>o R r K
theorem sz(E:Env){T:ag}{n:FuncId}(fn:Func){t pt bt:Ty}{wn:List (List Nat)}{β:Type}{f:El t->El bt->Option β}{o:ld β}(m:(R:Type)->Nat->El t->El bt->KF R->Option R)(h0:aP P T)(hE:ak P E)(jn:P.funcs[n]? =some fn)(hc:uB fn=true)(hp:E.ps=[t,.unit])(ho:o.Nat)
 (h1:∀(R:Type) k x y (K:KF R),vP E T R k fn [.aj t x [],.ptr 0 pt []] (some ⟨bt,y,wn⟩) K=m R k x y K) (h2:∀(R:Type) kk (e:kk=af) x y (K:KF R),m R kk x y K=(f x y).bind fun r=>o R r K):aP P (T.add n [t,.unit] (pz t pt bt wn f o)):=
 h0.add hE jn hc (fun R S l b F G K h=>agC fun _ _=>sE fun _=>ho _ _ _ _ _ _ h) fun l b r b' h=>by
  obtain⟨x,y,rfl,h3,h4⟩:=L5 hp h
  exact⟨af,(h4 _ _ _ _ _ _).trans (((h1 _ _ x y _).trans (h2 _ _ rfl x y _)).trans h3)⟩
def pv(t u v w:Ty){β:Type}(f:El t->El u->El v->El w->Option β)(o:ld β):Pure:=fun R l b K=>gL b (IB t u v w l (fun x y a b=>(f x y a b).bind fun r=>o R r K))
theorem sv(E:Env){T:ag}{n:FuncId}(fn:Func){t u v w:Ty}{β:Type}{f:El t->El u->El v->El w->Option β}{o:ld β}(m:(R:Type)->Nat->El t->El u->El v->El w->KF R->Option R)(h0:aP P T)(hE:ak P E)(jn:P.funcs[n]? =some fn)(hc:uB fn=true)(hp:E.ps=[t,u,.unit,.unit])(ho:o.Nat)
 (h1:∀(R:Type) k x y a b (K:KF R),vP E T R k fn [.aj t x [],.aj u y [],.view v a,.view w b] .none K=m R k x y a b K) (h2:∀(R:Type) kk (e:kk=af) x y a b (K:KF R),m R kk x y a b K=(f x y a b).bind fun r=>o R r K):aP P (T.add n [t,u,.unit,.unit] (pv t u v w f o)):=
 h0.add hE jn hc (fun R S l b F G K h=>Gj (adT fun _ _ _ _=>sE fun _=>ho _ _ _ _ _ _ h)) fun l b r b' h=>by
  unfold pv at h
  obtain⟨rfl,h5⟩:=Ge h
  obtain⟨x,y,a,b,h3,h4⟩:=L4 hp h5
  exact⟨af,(h4 _ _ _ _ _ _).trans (((h1 _ _ x y a b _).trans (h2 _ _ rfl x y a b _)).trans h3)⟩
end Go.Ref

namespace bj
open Go.IntKind renaming wrap->zW,i64->zI,u8->zU
open Go Go.Ref
abbrev nu:Type:=(ByteArray×Nat)
abbrev jW:Type:=(Int×Int×Int)
abbrev S7:Type:=(ByteArray×Int)
abbrev Zt3:Type:=(Int×ByteArray)
abbrev xF:Type:=(List (List Int))
abbrev kb:Type:=(ByteArray×Bool)
abbrev aT:Type:=(Int×Int×Unit)
abbrev Hp:Type:=(Int×Bool×Int)
abbrev Cj:Type:=(List (Int×Bool))
abbrev KQ:Type:=(ByteArray×Int×Int)
abbrev bd:Type:=(Int×ByteArray×Unit)
abbrev iV:Type:=(List kb)
abbrev dp:Type:=(ByteArray×ByteArray×Unit)
abbrev ap:Type:=(List bd)
abbrev ah:Type:=(Int×Bool×(List Int)×Unit)
abbrev aW:Type:=(Int×Int×Int×Int×Int×Unit)
abbrev mo:Type:=(Int×Int×ByteArray×Int×Unit)
abbrev aQ:Type:=(List dp)
abbrev ux:Type:=(Int×ah)
abbrev iu:Type:=(List aW)
abbrev bY:Type:=(List mo)
abbrev jX:Type:=(ap×Int×Int)
abbrev aw:Type:=(ByteArray×ap×Unit)
abbrev ae:Type:=(Int×Int×iu×Unit)
abbrev oT:Type:=(List ae)
abbrev aD:Type:=(Int×Int×Int×ByteArray×aQ×Unit)
abbrev rT:Type:=(ap×Int×Int×ap)
abbrev bS:Type:=(List aD)
abbrev rU:Type:=(aw×aT×aw)
abbrev aq:Type:=(aQ×bS×Unit)
abbrev rV:Type:=(ByteArray×Int×aw×aT×aw)
abbrev au:Type:=(ae×aq×(List Int)×ap×Unit)
abbrev nv:Type:=(List au)
abbrev mr:Type:=(aq×ae×ae)
abbrev ar:Type:=(nv×Int×Unit)
abbrev mu:Type:=(Int×Int×Int×aq×ae×ae)
def WS{R:Type}(a:ByteArray)(b:Int)(c:ByteArray->Int->Option R):Option R:=
 c a b
def WT{R:Type}(a:ByteArray)(b:Int)(c:ByteArray->Int->Option R)(d:ByteArray->Option R):Option R:=
 bif 0<(a.size:Int) then zd (zW zI ((a.size:Int)-1)) a.size (bif ze a (zW zI ((a.size:Int)-(1:Int))).toNat=b then bif 0<=zW zI ((a.size:Int)-1) then bif zW zI ((a.size:Int)-1)<=(a.size:Int) then c (a.extract 0 (zW zI ((a.size:Int)-(1:Int))).toNat) b else none else none else d a) else d a
def WU{R:Type}(a:ByteArray)(b:ByteArray->Option R):Option R:=
 b a
def Ie:Nat->ByteArray->Int->Option ByteArray
 |0,_,_=>none
 |k+1,v0,v1=>WT v0 v1 (fun a0 a1=>Ie k a0 a1) (fun a0=>some a0)
def wR(a:ByteArray)(b:Int):Option ByteArray:=
 WS a b (fun a0 a1=>(Ie af a0 a1).bind fun e=>WU e (fun a0=>some a0))
def WN{R:Type}(a:ByteArray)(b:Int)(c:ByteArray->Int->Option R):Option R:=
 c a b
def WO{R:Type}(a:ByteArray)(b:Int)(c:ByteArray->Int->Option R)(d:ByteArray->Option R):Option R:=
 bif 0<(a.size:Int) then zd 0 a.size (bif ze a ((0:Int)).toNat=b then bif 1<=(a.size:Int) then c (a.extract ((1:Int)).toNat a.size) b else none else d a) else d a
def WQ{R:Type}(a:ByteArray)(b:ByteArray->Option R):Option R:=
 b a
def Ic:Nat->ByteArray->Int->Option ByteArray
 |0,_,_=>none
 |k+1,v0,v1=>WO v0 v1 (fun a0 a1=>Ic k a0 a1) (fun a0=>some a0)
def wQ(a:ByteArray)(b:Int):Option ByteArray:=
 WN a b (fun a0 a1=>(Ic af a0 a1).bind fun e=>WQ e (fun a0=>some a0))
def WL{R:Type}(a b:ByteArray)(c:ByteArray->Option R):Option R:=
 bif a=bs [] then c a else bif b=bs [] then c a else bif(b.size:Int)=1 then zd 0 b.size (bif ze b ((0:Int)).toNat<128 then zd 0 b.size ((wR a (ze b ((0:Int)).toNat)).bind fun r1=>zd 0 b.size ((wQ r1 (ze b ((0:Int)).toNat)).bind fun r2=>c r2)) else none) else none
def uh(a b:ByteArray):Option ByteArray:=
 WL a b (fun a0=>some a0)
def YA{R:Type}(a:ByteArray)(b:nu->Option R):Option R:=
 b (a,0)
def YB{R:Type}(a:nu)(b:Bool->Option R)(c:nu->Option R)(d:Option R):Option R:=
 bif a.2<a.1.size then bif(((Utf8.decode a.1 a.2).1:Nat):Int)<48 then b false else bif 57<(((Utf8.decode a.1 a.2).1:Nat):Int) then b false else c (a.1,a.2+(Utf8.decode a.1 a.2).2) else d
def Fa{R:Type}(a:Bool)(b:Bool->Option R):Option R:=
 b a
def Fb{R:Type}(a:Bool->Option R):Option R:=
 a true
def Ir:Nat->nu->Option (Sum Bool Unit)
 |0,_=>none
 |k+1,v0=>YB v0 (fun a0=>some (.inl a0)) (fun a0=>Ir k a0) (some (.inr ()))
def yU(a:ByteArray):Option Bool:=
 YA a (fun a0=>(Ir af a0).bind fun e=>Sum.elim (fun(we:Bool)=>Fa we (fun a0=>some a0)) (fun(we:Unit)=>Fb (fun a0=>some a0)) e)
def YD{R:Type}(a:ByteArray)(b:Int->Bool->Option R)(c:Int->nu->Option R):Option R:=
 bif a=bs [] then b 0 false else bif 18<(a.size:Int) then b 0 false else(yU a).bind fun r1=>bif !r1 then b 0 false else c 0 (a,0)
def YE{R:Type}(a:Int)(b:nu)(c:Int->nu->Option R)(d:Int->Option R):Option R:=
 bif b.2<b.1.size then c (zW zI (zW zI (10*a)+zW zI (IntKind.i32.wrap ((((Utf8.decode b.1 b.2).1:Nat):Int)-48)))) (b.1,b.2+(Utf8.decode b.1 b.2).2) else d a
def Fc{R:Type}(a:Int)(b:Int->Bool->Option R):Option R:=
 b a true
def Is:Nat->Int->nu->Option Int
 |0,_,_=>none
 |k+1,v0,v1=>YE v0 v1 (fun a0 a1=>Is k a0 a1) (fun a0=>some a0)
def yV(a:ByteArray):Option (Int×Bool):=
 YD a (fun a0 a1=>some (a0,a1)) (fun a0 a1=>(Is af a0 a1).bind fun e=>Fc e (fun a0 a1=>some (a0,a1)))
def YH{R:Type}(a b:Int)(c:ByteArray->Bool->Option R)(d:Int->Nat->Int->Nat->(List Int)->Option R):Option R:=
 bif a<0 then c (bs []) false else bif b<1 then c (bs []) false else bif 18<b then c (bs []) false else bif b=b then bif 0<=b then bif b*1<=140737488355328 then d a b.toNat (zW zI (b-1)) b.toNat (List.replicate b.toNat 0) else none else none else none
def Sm{R:Type}(a:Int)(b:Nat)(c:Int)(d:Nat)(e:(List Int))(f:Int->Nat->Int->Nat->(List Int)->Option R)(g:Int->Nat->Nat->(List Int)->Option R):Option R:=
 bif 0<=c then zd c b (bif Nat.ble (c.toNat+1) (List.length e) then f (zW zI (Int.tdiv a 10)) b (zW zI (c-1)) d (List.set e c.toNat (zW zU (zW zI (48+Int.tmod a 10)))) else none) else g a b d e
def YI{R:Type}(a:Int)(b c:Nat)(d:(List Int))(e:ByteArray->Bool->Option R):Option R:=
 bif 0<a then e (bs []) false else bif Nat.beq b (List.length d) then e (strOf d) true else none
def G7:Nat->Int->Nat->Int->Nat->(List Int)->Option (Int×Nat×Nat×(List Int))
 |0,_,_,_,_,_=>none
 |k+1,v0,v1,v2,v3,v4=>Sm v0 v1 v2 v3 v4 (fun a0 a1 a2 a3 a4=>G7 k a0 a1 a2 a3 a4) (fun a0 a1 a2 a3=>some (a0,a1,a2,a3))
def I8(a b:Int):Option kb:=
 YH a b (fun a0 a1=>some (a0,a1)) (fun a0 a1 a2 a3 a4=>(G7 af a0 a1 a2 a3 a4).bind fun e=>YI e.1 e.2.1 e.2.2.1 e.2.2.2 (fun a0 a1=>some (a0,a1)))
def YF{R:Type}(a:ByteArray)(b:Int)(c:ByteArray->Bool->Option R):Option R:=
 bif a=bs [] then c (bs []) false else bif 999<(a.size:Int) then c (bs []) false else(yU a).bind fun r1=>bif !r1 then c (bs []) false else bif b<1 then c (bs []) false else bif 999<b then c (bs []) false else bif(a.size:Int)<=b then(strings_Repeat (bs [48]) (zW zI (b-(a.size:Int)))).bind fun r2=>bif r2.size+a.size<=9223372036854775807 then c (r2++a) true else none else bif 0<=zW zI ((a.size:Int)-b) then bif zW zI ((a.size:Int)-b)<=(a.size:Int) then(uh (a.extract 0 (zW zI ((a.size:Int)-b)).toNat) (bs [48])).bind fun r3=>bif !decide (r3=bs []) then c (bs []) false else bif 0<=zW zI ((a.size:Int)-b) then bif zW zI ((a.size:Int)-b)<=(a.size:Int) then c (a.extract (zW zI ((a.size:Int)-b)).toNat a.size) true else none else none else none else none
def I6(a:ByteArray)(b:Int):Option kb:=
 YF a b (fun a0 a1=>some (a0,a1))
def pN{R:Type}(a:Int)(b:Int->Option R):Option R:=
 bif a<1 then b 0 else b (zW zI (zW zI (Int.tdiv a 2)+Int.tmod a 2))
def Q2(a:Int):Option Int:=
 pN a (fun a0=>some a0)
def pD{R:Type}(a:ByteArray)(b:Int)(c:ByteArray->Int->Int->Option R)(d:ByteArray->Int->(List Int)->Int->Int->Option R):Option R:=
 bif b<0 then c (bs []) 1 0 else bif 999<b then c (bs []) 1 0 else(Q2 b).bind fun r1=>bif(a.size:Int)<r1 then c (bs []) 2 (a.size:Int) else bif 0<=zW zI (b+1) then bif zW zI (b+1)*1<=140737488355328 then(Q2 b).bind fun r2=>d a b [] r2 0 else none else none
def ng{R:Type}(a:ByteArray)(b:Int)(c:(List Int))(d e:Int)(f:Int->ByteArray->Int->Int->(List Int)->Option R)(g:ByteArray->Int->(List Int)->Int->Int->Option R)(h:Int->(List Int)->Option R):Option R:=
 bif e<d then zd e a.size (zd e a.size (bif e=0 then bif !decide (Int.tmod b 2=0) then bif !decide (Int.fdiv (ze a e.toNat) (2^min ((4:Int)).toNat 8)=0) then f b (bs []) 4 0 c else bif 9<Int.fdiv (ze a e.toNat) (2^min ((4:Int)).toNat 8) then f b (bs []) 3 e c else bif 9<aR .and .u8 (ze a e.toNat) 15 then f b (bs []) 3 e c else bif(List.length c+List.length ([(zW zU ((48:Int)+Int.fdiv (ze a e.toNat) (2^min ((4:Int)).toNat 8))),(zW zU ((48:Int)+aR .and .u8 (ze a e.toNat) (15:Int)))]:List Int))*1<=140737488355328 then g a b (c++([(zW zU (48+Int.fdiv (ze a e.toNat) (2^min ((4:Int)).toNat 8))),(zW zU (48+aR .and .u8 (ze a e.toNat) 15))]:List Int)) d (zW zI (e+1)) else none else bif 9<Int.fdiv (ze a e.toNat) (2^min ((4:Int)).toNat 8) then f b (bs []) 3 e c else bif 9<aR .and .u8 (ze a e.toNat) 15 then f b (bs []) 3 e c else bif(List.length c+List.length ([(zW zU ((48:Int)+Int.fdiv (ze a e.toNat) (2^min ((4:Int)).toNat 8))),(zW zU ((48:Int)+aR .and .u8 (ze a e.toNat) (15:Int)))]:List Int))*1<=140737488355328 then g a b (c++([(zW zU (48+Int.fdiv (ze a e.toNat) (2^min ((4:Int)).toNat 8))),(zW zU (48+aR .and .u8 (ze a e.toNat) 15))]:List Int)) d (zW zI (e+1)) else none else bif 9<Int.fdiv (ze a e.toNat) (2^min ((4:Int)).toNat 8) then f b (bs []) 3 e c else bif 9<aR .and .u8 (ze a e.toNat) 15 then f b (bs []) 3 e c else bif(List.length c+List.length ([(zW zU ((48:Int)+Int.fdiv (ze a e.toNat) (2^min ((4:Int)).toNat 8))),(zW zU ((48:Int)+aR .and .u8 (ze a e.toNat) (15:Int)))]:List Int))*1<=140737488355328 then g a b (c++([(zW zU (48+Int.fdiv (ze a e.toNat) (2^min ((4:Int)).toNat 8))),(zW zU (48+aR .and .u8 (ze a e.toNat) 15))]:List Int)) d (zW zI (e+1)) else none)) else h b c
def tk{R:Type}(a:Int)(b:ByteArray)(c d:Int)(e:(List Int))(f:ByteArray->Int->Int->Option R):Option R:=
 f b c d
def pE{R:Type}(a:Int)(b:(List Int))(c:ByteArray->Int->Int->Option R):Option R:=
 bif 0<=Int.tmod a 2 then bif Int.tmod a 2<=(((List.length b):Nat):Int) then c (strOf (List.drop (Int.tmod a (2:Int)).toNat (List.take (List.length b) b))) 0 0 else none else none
def jF:Nat->ByteArray->Int->(List Int)->Int->Int->Option (Sum (Int×ByteArray×Int×Int×(List Int)) (Int×(List Int)))
 |0,_,_,_,_,_=>none
 |k+1,v0,v1,v2,v3,v4=>ng v0 v1 v2 v3 v4 (fun a0 a1 a2 a3 a4=>some (.inl (a0,a1,a2,a3,a4))) (fun a0 a1 a2 a3 a4=>jF k a0 a1 a2 a3 a4) (fun a0 a1=>some (.inr (a0,a1)))
def Q0(a:ByteArray)(b:Int):Option KQ:=
 pD a b (fun a0 a1 a2=>some (a0,a1,a2)) (fun a0 a1 a2 a3 a4=>(jF af a0 a1 a2 a3 a4).bind fun e=>Sum.elim (fun(we:(Int×ByteArray×Int×Int×(List Int)))=>tk we.1 we.2.1 we.2.2.1 we.2.2.2.1 we.2.2.2.2 (fun a0 a1 a2=>some (a0,a1,a2))) (fun(we:(Int×(List Int)))=>pE we.1 we.2 (fun a0 a1 a2=>some (a0,a1,a2))) e)
def lE{R:Type}(a:ByteArray)(b:ByteArray->Bool->Option R)(c:ByteArray->(List Int)->Int->Option R):Option R:=
 bif 999<(a.size:Int) then b (bs []) false else(yU a).bind fun r1=>bif !r1 then b (bs []) false else bif !decide (Int.tmod (a.size:Int) 2=0) then bif(bs [48]).size+a.size<=9223372036854775807 then bif 0<=zW zI (Int.tdiv ((bs [48]++a).size:Int) 2) then bif zW zI (Int.tdiv ((bs [48]++a).size:Int) 2)*1<=140737488355328 then c (bs [48]++a) [] 0 else none else none else none else bif 0<=zW zI (Int.tdiv (a.size:Int) 2) then bif zW zI (Int.tdiv (a.size:Int) 2)*1<=140737488355328 then c a [] 0 else none else none
theorem adM{R S:Type}(F:R->Option S)(a)(b)(c):(lE a b c).bind F=lE a (fun a0 a1=>(b a0 a1).bind F) (fun a0 a1 a2=>(c a0 a1 a2).bind F):=by
 simp only[lE,aC]
def nk{R:Type}(a:ByteArray)(b:(List Int))(c:Int)(d:ByteArray->(List Int)->Int->Option R)(e:(List Int)->Option R):Option R:=
 bif c<(a.size:Int) then zd c a.size (zd (zW zI (c+1)) a.size (bif(List.length b+List.length ([(aR .or .u8 (zW zU (zW zU (ze a c.toNat-(48:Int))*2^min ((4:Int)).toNat 8)) (zW zU (ze a (zW zI (c+(1:Int))).toNat-(48:Int))))]:List Int))*1<=140737488355328 then d a (b++([(aR .or .u8 (zW zU (zW zU (ze a c.toNat-48)*2^min ((4:Int)).toNat 8)) (zW zU (ze a (zW zI (c+(1:Int))).toNat-48)))]:List Int)) (zW zI (c+2)) else none)) else e b
def ue{R:Type}(a:(List Int))(b:ByteArray->Bool->Option R):Option R:=
 b (strOf a) true
def km:Nat->ByteArray->(List Int)->Int->Option (List Int)
 |0,_,_,_=>none
 |k+1,v0,v1,v2=>nk v0 v1 v2 (fun a0 a1 a2=>km k a0 a1 a2) (fun a0=>some a0)
def Q1(a:ByteArray):Option kb:=
 lE a (fun a0 a1=>some (a0,a1)) (fun a0 a1 a2=>(km af a0 a1 a2).bind fun e=>ue e (fun a0 a1=>some (a0,a1)))
def pU{R:Type}(a:Int)(b:Int->Option R):Option R:=
 bif a<0 then b 0 else bif 65535<a then b 0 else bif 255<a then b (zW zI (zW zI (zW zI (0+1)+1)+1)) else bif 127<a then b (zW zI (zW zI (0+1)+1)) else b (zW zI (0+1))
def Q4(a:Int):Option Int:=
 pU a (fun a0=>some a0)
def lF{R:Type}(a:ByteArray)(b:Int)(c:Int->Int->Int->Option R)(d:ByteArray->Int->Int->Int->Int->Int->Option R):Option R:=
 bif b<0 then c 0 0 1 else bif(a.size:Int)<b then c 0 0 1 else bif b=(a.size:Int) then c 0 0 2 else zd b a.size (bif 127<zW zI (ze a b.toNat) then bif zW zI (ze a b.toNat)=128 then c 0 0 14 else bif 130<zW zI (ze a b.toNat) then c 0 0 14 else bif zW zI ((a.size:Int)-zW zI (b+1))<zW zI (zW zI (ze a b.toNat)-128) then c 0 0 2 else d a (zW zI (b+1)) 0 (zW zI (zW zI (ze a b.toNat)-128)) (zW zI (zW zI (ze a b.toNat)-128)) 0 else bif zW zI ((a.size:Int)-zW zI (b+1))<0 then c 0 0 2 else d a (zW zI (b+1)) (zW zI (ze a b.toNat)) 0 0 0)
theorem adN{R S:Type}(F:R->Option S)(a)(b)(c)(d):(lF a b c d).bind F=lF a b (fun a0 a1 a2=>(c a0 a1 a2).bind F) (fun a0 a1 a2 a3 a4 a5=>(d a0 a1 a2 a3 a4 a5).bind F):=by
 simp only[lF,aC]
def lG{R:Type}(a:ByteArray)(b c d e f:Int)(g:ByteArray->Int->Int->Int->Int->Int->Option R)(h:Int->Int->Int->Option R):Option R:=
 bif f<e then zd (zW zI (b+f)) a.size (g a b (aR .or .i64 (zW zI (c*2^min ((8:Int)).toNat 64)) (zW zI (ze a (zW zI (b+f)).toNat))) d e (zW zI (f+1))) else h b c d
def lH{R:Type}(a b c:Int)(d:Int->Int->Int->Option R):Option R:=
 (Q4 b).bind fun r1=>bif !decide (r1=zW zI (c+1)) then d 0 0 14 else d b (zW zI (a+c)) 0
def fy:Nat->ByteArray->Int->Int->Int->Int->Int->Option jW
 |0,_,_,_,_,_,_=>none
 |k+1,v0,v1,v2,v3,v4,v5=>lG v0 v1 v2 v3 v4 v5 (fun a0 a1 a2 a3 a4 a5=>fy k a0 a1 a2 a3 a4 a5) (fun a0 a1 a2=>some (a0,a1,a2))
def Q3(a:ByteArray)(b:Int):Option jW:=
 lF a b (fun a0 a1 a2=>some (a0,a1,a2)) (fun a0 a1 a2 a3 a4 a5=>(fy af a0 a1 a2 a3 a4 a5).bind fun e=>lH e.1 e.2.1 e.2.2 (fun a0 a1 a2=>some (a0,a1,a2)))
def zzl{R:Type}(a:Int)(b:Int->Option R):Option R:=
 bif 4294967296<=a then bif 65536<=Int.fdiv a (2^min ((32:Int)).toNat 64) then bif 256<=Int.fdiv (Int.fdiv a (2^min ((32:Int)).toNat 64)) (2^min ((16:Int)).toNat 64) then zd (zW zU (Int.fdiv (Int.fdiv (Int.fdiv a (2^min ((32:Int)).toNat 64)) (2^min ((16:Int)).toNat 64)) (2^min ((8:Int)).toNat 64))) (bs [0,1,2,2,3,3,3,3,4,4,4,4,4,4,4,4,5,5,5,5,5,5,5,5,5,5,5,5,5,5,5,5,6,6,6,6,6,6,6,6,6,6,6,6,6,6,6,6,6,6,6,6,6,6,6,6,6,6,6,6,6,6,6,6,7,7,7,7,7,7,7,7,7,7,7,7,7,7,7,7,7,7,7,7,7,7,7,7,7,7,7,7,7,7,7,7,7,7,7,7,7,7,7,7,7,7,7,7,7,7,7,7,7,7,7,7,7,7,7,7,7,7,7,7,7,7,7,7,8,8,8,8,8,8,8,8,8,8,8,8,8,8,8,8,8,8,8,8,8,8,8,8,8,8,8,8,8,8,8,8,8,8,8,8,8,8,8,8,8,8,8,8,8,8,8,8,8,8,8,8,8,8,8,8,8,8,8,8,8,8,8,8,8,8,8,8,8,8,8,8,8,8,8,8,8,8,8,8,8,8,8,8,8,8,8,8,8,8,8,8,8,8,8,8,8,8,8,8,8,8,8,8,8,8,8,8,8,8,8,8,8,8,8,8,8,8,8,8,8,8,8,8,8,8,8,8]).size (b (zW zI (zW zI (zW zI (32+16)+8)+zW zI (ze (bs [0,1,2,2,3,3,3,3,4,4,4,4,4,4,4,4,5,5,5,5,5,5,5,5,5,5,5,5,5,5,5,5,6,6,6,6,6,6,6,6,6,6,6,6,6,6,6,6,6,6,6,6,6,6,6,6,6,6,6,6,6,6,6,6,7,7,7,7,7,7,7,7,7,7,7,7,7,7,7,7,7,7,7,7,7,7,7,7,7,7,7,7,7,7,7,7,7,7,7,7,7,7,7,7,7,7,7,7,7,7,7,7,7,7,7,7,7,7,7,7,7,7,7,7,7,7,7,7,8,8,8,8,8,8,8,8,8,8,8,8,8,8,8,8,8,8,8,8,8,8,8,8,8,8,8,8,8,8,8,8,8,8,8,8,8,8,8,8,8,8,8,8,8,8,8,8,8,8,8,8,8,8,8,8,8,8,8,8,8,8,8,8,8,8,8,8,8,8,8,8,8,8,8,8,8,8,8,8,8,8,8,8,8,8,8,8,8,8,8,8,8,8,8,8,8,8,8,8,8,8,8,8,8,8,8,8,8,8,8,8,8,8,8,8,8,8,8,8,8,8,8,8,8,8,8,8]) (zW zU (Int.fdiv (Int.fdiv (Int.fdiv a (2^min ((32:Int)).toNat 64)) (2^min ((16:Int)).toNat 64)) (2^min ((8:Int)).toNat 64))).toNat)))) else zd (zW zU (Int.fdiv (Int.fdiv a (2^min ((32:Int)).toNat 64)) (2^min ((16:Int)).toNat 64))) (bs [0,1,2,2,3,3,3,3,4,4,4,4,4,4,4,4,5,5,5,5,5,5,5,5,5,5,5,5,5,5,5,5,6,6,6,6,6,6,6,6,6,6,6,6,6,6,6,6,6,6,6,6,6,6,6,6,6,6,6,6,6,6,6,6,7,7,7,7,7,7,7,7,7,7,7,7,7,7,7,7,7,7,7,7,7,7,7,7,7,7,7,7,7,7,7,7,7,7,7,7,7,7,7,7,7,7,7,7,7,7,7,7,7,7,7,7,7,7,7,7,7,7,7,7,7,7,7,7,8,8,8,8,8,8,8,8,8,8,8,8,8,8,8,8,8,8,8,8,8,8,8,8,8,8,8,8,8,8,8,8,8,8,8,8,8,8,8,8,8,8,8,8,8,8,8,8,8,8,8,8,8,8,8,8,8,8,8,8,8,8,8,8,8,8,8,8,8,8,8,8,8,8,8,8,8,8,8,8,8,8,8,8,8,8,8,8,8,8,8,8,8,8,8,8,8,8,8,8,8,8,8,8,8,8,8,8,8,8,8,8,8,8,8,8,8,8,8,8,8,8,8,8,8,8,8,8]).size (b (zW zI (zW zI (32+16)+zW zI (ze (bs [0,1,2,2,3,3,3,3,4,4,4,4,4,4,4,4,5,5,5,5,5,5,5,5,5,5,5,5,5,5,5,5,6,6,6,6,6,6,6,6,6,6,6,6,6,6,6,6,6,6,6,6,6,6,6,6,6,6,6,6,6,6,6,6,7,7,7,7,7,7,7,7,7,7,7,7,7,7,7,7,7,7,7,7,7,7,7,7,7,7,7,7,7,7,7,7,7,7,7,7,7,7,7,7,7,7,7,7,7,7,7,7,7,7,7,7,7,7,7,7,7,7,7,7,7,7,7,7,8,8,8,8,8,8,8,8,8,8,8,8,8,8,8,8,8,8,8,8,8,8,8,8,8,8,8,8,8,8,8,8,8,8,8,8,8,8,8,8,8,8,8,8,8,8,8,8,8,8,8,8,8,8,8,8,8,8,8,8,8,8,8,8,8,8,8,8,8,8,8,8,8,8,8,8,8,8,8,8,8,8,8,8,8,8,8,8,8,8,8,8,8,8,8,8,8,8,8,8,8,8,8,8,8,8,8,8,8,8,8,8,8,8,8,8,8,8,8,8,8,8,8,8,8,8,8,8]) (zW zU (Int.fdiv (Int.fdiv a (2^min ((32:Int)).toNat 64)) (2^min ((16:Int)).toNat 64))).toNat)))) else bif 256<=Int.fdiv a (2^min ((32:Int)).toNat 64) then zd (zW zU (Int.fdiv (Int.fdiv a (2^min ((32:Int)).toNat 64)) (2^min ((8:Int)).toNat 64))) (bs [0,1,2,2,3,3,3,3,4,4,4,4,4,4,4,4,5,5,5,5,5,5,5,5,5,5,5,5,5,5,5,5,6,6,6,6,6,6,6,6,6,6,6,6,6,6,6,6,6,6,6,6,6,6,6,6,6,6,6,6,6,6,6,6,7,7,7,7,7,7,7,7,7,7,7,7,7,7,7,7,7,7,7,7,7,7,7,7,7,7,7,7,7,7,7,7,7,7,7,7,7,7,7,7,7,7,7,7,7,7,7,7,7,7,7,7,7,7,7,7,7,7,7,7,7,7,7,7,8,8,8,8,8,8,8,8,8,8,8,8,8,8,8,8,8,8,8,8,8,8,8,8,8,8,8,8,8,8,8,8,8,8,8,8,8,8,8,8,8,8,8,8,8,8,8,8,8,8,8,8,8,8,8,8,8,8,8,8,8,8,8,8,8,8,8,8,8,8,8,8,8,8,8,8,8,8,8,8,8,8,8,8,8,8,8,8,8,8,8,8,8,8,8,8,8,8,8,8,8,8,8,8,8,8,8,8,8,8,8,8,8,8,8,8,8,8,8,8,8,8,8,8,8,8,8,8]).size (b (zW zI (zW zI (32+8)+zW zI (ze (bs [0,1,2,2,3,3,3,3,4,4,4,4,4,4,4,4,5,5,5,5,5,5,5,5,5,5,5,5,5,5,5,5,6,6,6,6,6,6,6,6,6,6,6,6,6,6,6,6,6,6,6,6,6,6,6,6,6,6,6,6,6,6,6,6,7,7,7,7,7,7,7,7,7,7,7,7,7,7,7,7,7,7,7,7,7,7,7,7,7,7,7,7,7,7,7,7,7,7,7,7,7,7,7,7,7,7,7,7,7,7,7,7,7,7,7,7,7,7,7,7,7,7,7,7,7,7,7,7,8,8,8,8,8,8,8,8,8,8,8,8,8,8,8,8,8,8,8,8,8,8,8,8,8,8,8,8,8,8,8,8,8,8,8,8,8,8,8,8,8,8,8,8,8,8,8,8,8,8,8,8,8,8,8,8,8,8,8,8,8,8,8,8,8,8,8,8,8,8,8,8,8,8,8,8,8,8,8,8,8,8,8,8,8,8,8,8,8,8,8,8,8,8,8,8,8,8,8,8,8,8,8,8,8,8,8,8,8,8,8,8,8,8,8,8,8,8,8,8,8,8,8,8,8,8,8,8]) (zW zU (Int.fdiv (Int.fdiv a (2^min ((32:Int)).toNat 64)) (2^min ((8:Int)).toNat 64))).toNat)))) else zd (zW zU (Int.fdiv a (2^min ((32:Int)).toNat 64))) (bs [0,1,2,2,3,3,3,3,4,4,4,4,4,4,4,4,5,5,5,5,5,5,5,5,5,5,5,5,5,5,5,5,6,6,6,6,6,6,6,6,6,6,6,6,6,6,6,6,6,6,6,6,6,6,6,6,6,6,6,6,6,6,6,6,7,7,7,7,7,7,7,7,7,7,7,7,7,7,7,7,7,7,7,7,7,7,7,7,7,7,7,7,7,7,7,7,7,7,7,7,7,7,7,7,7,7,7,7,7,7,7,7,7,7,7,7,7,7,7,7,7,7,7,7,7,7,7,7,8,8,8,8,8,8,8,8,8,8,8,8,8,8,8,8,8,8,8,8,8,8,8,8,8,8,8,8,8,8,8,8,8,8,8,8,8,8,8,8,8,8,8,8,8,8,8,8,8,8,8,8,8,8,8,8,8,8,8,8,8,8,8,8,8,8,8,8,8,8,8,8,8,8,8,8,8,8,8,8,8,8,8,8,8,8,8,8,8,8,8,8,8,8,8,8,8,8,8,8,8,8,8,8,8,8,8,8,8,8,8,8,8,8,8,8,8,8,8,8,8,8,8,8,8,8,8,8]).size (b (zW zI (32+zW zI (ze (bs [0,1,2,2,3,3,3,3,4,4,4,4,4,4,4,4,5,5,5,5,5,5,5,5,5,5,5,5,5,5,5,5,6,6,6,6,6,6,6,6,6,6,6,6,6,6,6,6,6,6,6,6,6,6,6,6,6,6,6,6,6,6,6,6,7,7,7,7,7,7,7,7,7,7,7,7,7,7,7,7,7,7,7,7,7,7,7,7,7,7,7,7,7,7,7,7,7,7,7,7,7,7,7,7,7,7,7,7,7,7,7,7,7,7,7,7,7,7,7,7,7,7,7,7,7,7,7,7,8,8,8,8,8,8,8,8,8,8,8,8,8,8,8,8,8,8,8,8,8,8,8,8,8,8,8,8,8,8,8,8,8,8,8,8,8,8,8,8,8,8,8,8,8,8,8,8,8,8,8,8,8,8,8,8,8,8,8,8,8,8,8,8,8,8,8,8,8,8,8,8,8,8,8,8,8,8,8,8,8,8,8,8,8,8,8,8,8,8,8,8,8,8,8,8,8,8,8,8,8,8,8,8,8,8,8,8,8,8,8,8,8,8,8,8,8,8,8,8,8,8,8,8,8,8,8,8]) (zW zU (Int.fdiv a (2^min ((32:Int)).toNat 64))).toNat)))) else bif 65536<=a then bif 256<=Int.fdiv a (2^min ((16:Int)).toNat 64) then zd (zW zU (Int.fdiv (Int.fdiv a (2^min ((16:Int)).toNat 64)) (2^min ((8:Int)).toNat 64))) (bs [0,1,2,2,3,3,3,3,4,4,4,4,4,4,4,4,5,5,5,5,5,5,5,5,5,5,5,5,5,5,5,5,6,6,6,6,6,6,6,6,6,6,6,6,6,6,6,6,6,6,6,6,6,6,6,6,6,6,6,6,6,6,6,6,7,7,7,7,7,7,7,7,7,7,7,7,7,7,7,7,7,7,7,7,7,7,7,7,7,7,7,7,7,7,7,7,7,7,7,7,7,7,7,7,7,7,7,7,7,7,7,7,7,7,7,7,7,7,7,7,7,7,7,7,7,7,7,7,8,8,8,8,8,8,8,8,8,8,8,8,8,8,8,8,8,8,8,8,8,8,8,8,8,8,8,8,8,8,8,8,8,8,8,8,8,8,8,8,8,8,8,8,8,8,8,8,8,8,8,8,8,8,8,8,8,8,8,8,8,8,8,8,8,8,8,8,8,8,8,8,8,8,8,8,8,8,8,8,8,8,8,8,8,8,8,8,8,8,8,8,8,8,8,8,8,8,8,8,8,8,8,8,8,8,8,8,8,8,8,8,8,8,8,8,8,8,8,8,8,8,8,8,8,8,8,8]).size (b (zW zI (zW zI (zW zI (0+16)+8)+zW zI (ze (bs [0,1,2,2,3,3,3,3,4,4,4,4,4,4,4,4,5,5,5,5,5,5,5,5,5,5,5,5,5,5,5,5,6,6,6,6,6,6,6,6,6,6,6,6,6,6,6,6,6,6,6,6,6,6,6,6,6,6,6,6,6,6,6,6,7,7,7,7,7,7,7,7,7,7,7,7,7,7,7,7,7,7,7,7,7,7,7,7,7,7,7,7,7,7,7,7,7,7,7,7,7,7,7,7,7,7,7,7,7,7,7,7,7,7,7,7,7,7,7,7,7,7,7,7,7,7,7,7,8,8,8,8,8,8,8,8,8,8,8,8,8,8,8,8,8,8,8,8,8,8,8,8,8,8,8,8,8,8,8,8,8,8,8,8,8,8,8,8,8,8,8,8,8,8,8,8,8,8,8,8,8,8,8,8,8,8,8,8,8,8,8,8,8,8,8,8,8,8,8,8,8,8,8,8,8,8,8,8,8,8,8,8,8,8,8,8,8,8,8,8,8,8,8,8,8,8,8,8,8,8,8,8,8,8,8,8,8,8,8,8,8,8,8,8,8,8,8,8,8,8,8,8,8,8,8,8]) (zW zU (Int.fdiv (Int.fdiv a (2^min ((16:Int)).toNat 64)) (2^min ((8:Int)).toNat 64))).toNat)))) else zd (zW zU (Int.fdiv a (2^min ((16:Int)).toNat 64))) (bs [0,1,2,2,3,3,3,3,4,4,4,4,4,4,4,4,5,5,5,5,5,5,5,5,5,5,5,5,5,5,5,5,6,6,6,6,6,6,6,6,6,6,6,6,6,6,6,6,6,6,6,6,6,6,6,6,6,6,6,6,6,6,6,6,7,7,7,7,7,7,7,7,7,7,7,7,7,7,7,7,7,7,7,7,7,7,7,7,7,7,7,7,7,7,7,7,7,7,7,7,7,7,7,7,7,7,7,7,7,7,7,7,7,7,7,7,7,7,7,7,7,7,7,7,7,7,7,7,8,8,8,8,8,8,8,8,8,8,8,8,8,8,8,8,8,8,8,8,8,8,8,8,8,8,8,8,8,8,8,8,8,8,8,8,8,8,8,8,8,8,8,8,8,8,8,8,8,8,8,8,8,8,8,8,8,8,8,8,8,8,8,8,8,8,8,8,8,8,8,8,8,8,8,8,8,8,8,8,8,8,8,8,8,8,8,8,8,8,8,8,8,8,8,8,8,8,8,8,8,8,8,8,8,8,8,8,8,8,8,8,8,8,8,8,8,8,8,8,8,8,8,8,8,8,8,8]).size (b (zW zI (zW zI (0+16)+zW zI (ze (bs [0,1,2,2,3,3,3,3,4,4,4,4,4,4,4,4,5,5,5,5,5,5,5,5,5,5,5,5,5,5,5,5,6,6,6,6,6,6,6,6,6,6,6,6,6,6,6,6,6,6,6,6,6,6,6,6,6,6,6,6,6,6,6,6,7,7,7,7,7,7,7,7,7,7,7,7,7,7,7,7,7,7,7,7,7,7,7,7,7,7,7,7,7,7,7,7,7,7,7,7,7,7,7,7,7,7,7,7,7,7,7,7,7,7,7,7,7,7,7,7,7,7,7,7,7,7,7,7,8,8,8,8,8,8,8,8,8,8,8,8,8,8,8,8,8,8,8,8,8,8,8,8,8,8,8,8,8,8,8,8,8,8,8,8,8,8,8,8,8,8,8,8,8,8,8,8,8,8,8,8,8,8,8,8,8,8,8,8,8,8,8,8,8,8,8,8,8,8,8,8,8,8,8,8,8,8,8,8,8,8,8,8,8,8,8,8,8,8,8,8,8,8,8,8,8,8,8,8,8,8,8,8,8,8,8,8,8,8,8,8,8,8,8,8,8,8,8,8,8,8,8,8,8,8,8,8]) (zW zU (Int.fdiv a (2^min ((16:Int)).toNat 64))).toNat)))) else bif 256<=a then zd (zW zU (Int.fdiv a (2^min ((8:Int)).toNat 64))) (bs [0,1,2,2,3,3,3,3,4,4,4,4,4,4,4,4,5,5,5,5,5,5,5,5,5,5,5,5,5,5,5,5,6,6,6,6,6,6,6,6,6,6,6,6,6,6,6,6,6,6,6,6,6,6,6,6,6,6,6,6,6,6,6,6,7,7,7,7,7,7,7,7,7,7,7,7,7,7,7,7,7,7,7,7,7,7,7,7,7,7,7,7,7,7,7,7,7,7,7,7,7,7,7,7,7,7,7,7,7,7,7,7,7,7,7,7,7,7,7,7,7,7,7,7,7,7,7,7,8,8,8,8,8,8,8,8,8,8,8,8,8,8,8,8,8,8,8,8,8,8,8,8,8,8,8,8,8,8,8,8,8,8,8,8,8,8,8,8,8,8,8,8,8,8,8,8,8,8,8,8,8,8,8,8,8,8,8,8,8,8,8,8,8,8,8,8,8,8,8,8,8,8,8,8,8,8,8,8,8,8,8,8,8,8,8,8,8,8,8,8,8,8,8,8,8,8,8,8,8,8,8,8,8,8,8,8,8,8,8,8,8,8,8,8,8,8,8,8,8,8,8,8,8,8,8,8]).size (b (zW zI (zW zI (0+8)+zW zI (ze (bs [0,1,2,2,3,3,3,3,4,4,4,4,4,4,4,4,5,5,5,5,5,5,5,5,5,5,5,5,5,5,5,5,6,6,6,6,6,6,6,6,6,6,6,6,6,6,6,6,6,6,6,6,6,6,6,6,6,6,6,6,6,6,6,6,7,7,7,7,7,7,7,7,7,7,7,7,7,7,7,7,7,7,7,7,7,7,7,7,7,7,7,7,7,7,7,7,7,7,7,7,7,7,7,7,7,7,7,7,7,7,7,7,7,7,7,7,7,7,7,7,7,7,7,7,7,7,7,7,8,8,8,8,8,8,8,8,8,8,8,8,8,8,8,8,8,8,8,8,8,8,8,8,8,8,8,8,8,8,8,8,8,8,8,8,8,8,8,8,8,8,8,8,8,8,8,8,8,8,8,8,8,8,8,8,8,8,8,8,8,8,8,8,8,8,8,8,8,8,8,8,8,8,8,8,8,8,8,8,8,8,8,8,8,8,8,8,8,8,8,8,8,8,8,8,8,8,8,8,8,8,8,8,8,8,8,8,8,8,8,8,8,8,8,8,8,8,8,8,8,8,8,8,8,8,8,8]) (zW zU (Int.fdiv a (2^min ((8:Int)).toNat 64))).toNat)))) else zd (zW zU a) (bs [0,1,2,2,3,3,3,3,4,4,4,4,4,4,4,4,5,5,5,5,5,5,5,5,5,5,5,5,5,5,5,5,6,6,6,6,6,6,6,6,6,6,6,6,6,6,6,6,6,6,6,6,6,6,6,6,6,6,6,6,6,6,6,6,7,7,7,7,7,7,7,7,7,7,7,7,7,7,7,7,7,7,7,7,7,7,7,7,7,7,7,7,7,7,7,7,7,7,7,7,7,7,7,7,7,7,7,7,7,7,7,7,7,7,7,7,7,7,7,7,7,7,7,7,7,7,7,7,8,8,8,8,8,8,8,8,8,8,8,8,8,8,8,8,8,8,8,8,8,8,8,8,8,8,8,8,8,8,8,8,8,8,8,8,8,8,8,8,8,8,8,8,8,8,8,8,8,8,8,8,8,8,8,8,8,8,8,8,8,8,8,8,8,8,8,8,8,8,8,8,8,8,8,8,8,8,8,8,8,8,8,8,8,8,8,8,8,8,8,8,8,8,8,8,8,8,8,8,8,8,8,8,8,8,8,8,8,8,8,8,8,8,8,8,8,8,8,8,8,8,8,8,8,8,8,8]).size (b (zW zI (0+zW zI (ze (bs [0,1,2,2,3,3,3,3,4,4,4,4,4,4,4,4,5,5,5,5,5,5,5,5,5,5,5,5,5,5,5,5,6,6,6,6,6,6,6,6,6,6,6,6,6,6,6,6,6,6,6,6,6,6,6,6,6,6,6,6,6,6,6,6,7,7,7,7,7,7,7,7,7,7,7,7,7,7,7,7,7,7,7,7,7,7,7,7,7,7,7,7,7,7,7,7,7,7,7,7,7,7,7,7,7,7,7,7,7,7,7,7,7,7,7,7,7,7,7,7,7,7,7,7,7,7,7,7,8,8,8,8,8,8,8,8,8,8,8,8,8,8,8,8,8,8,8,8,8,8,8,8,8,8,8,8,8,8,8,8,8,8,8,8,8,8,8,8,8,8,8,8,8,8,8,8,8,8,8,8,8,8,8,8,8,8,8,8,8,8,8,8,8,8,8,8,8,8,8,8,8,8,8,8,8,8,8,8,8,8,8,8,8,8,8,8,8,8,8,8,8,8,8,8,8,8,8,8,8,8,8,8,8,8,8,8,8,8,8,8,8,8,8,8,8,8,8,8,8,8,8,8,8,8,8,8]) (zW zU a).toNat))))
def tN(a:Int):Option Int:=
 zzl a (fun a0=>some a0)
def VI{R:Type}(a:Int)(b:Int->Option R):Option R:=
 (tN a).bind fun r1=>b (zW zI (64-r1))
def nh(a:Int):Option Int:=
 VI a (fun a0=>some a0)
def YQ{R:Type}(a:Int)(b:aT->Option R):Option R:=
 bif a<1 then b (0,0,()) else bif 128<a then b (0,0,()) else bif a<=64 then bif zW zI (64-a)<0 then none else b (IntKind.u64.wrap (1*2^min (zW zI (64-a)).toNat 64),0,()) else bif zW zI (128-a)<0 then none else b (0,IntKind.u64.wrap (1*2^min (zW zI (128-a)).toNat 64),())
def Hh(a:Int):Option aT:=
 YQ a (fun a0=>some a0)
def YM{R:Type}(a b:aT)(c:aT->Option R):Option R:=
 c (aR .or .u64 a.1 b.1,aR .or .u64 a.2.1 b.2.1,())
def ur(a b:aT):Option aT:=
 YM a b (fun a0=>some a0)
def YP{R:Type}(a:aT)(b:Int)(c:aT->Option R):Option R:=
 (Hh b).bind fun r1=>(ur a r1).bind fun r2=>c r2
def yW(a:aT)(b:Int):Option aT:=
 YP a b (fun a0=>some a0)
def YK{R:Type}(a:(List Int))(b:(List Int)->Int->Int->aT->aT->Option R):Option R:=
 b a ((List.length a):Int) 0 (0,0,()) (0,0,())
def Sn{R:Type}(a:(List Int))(b c:Int)(d e:aT)(f:(List Int)->Int->Int->aT->aT->Option R)(g:aT->aT->Option R):Option R:=
 bif c<b then zd c (List.length a) ((yW e (List.getD a c.toNat (0:Int))).bind fun r1=>f a b (zW zI (c+1)) d r1) else g d e
def YL{R:Type}(a b:aT)(c:aT->Option R):Option R:=
 c b
def BX:Nat->(List Int)->Int->Int->aT->aT->Option (aT×aT)
 |0,_,_,_,_,_=>none
 |k+1,v0,v1,v2,v3,v4=>Sn v0 v1 v2 v3 v4 (fun a0 a1 a2 a3 a4=>BX k a0 a1 a2 a3 a4) (fun a0 a1=>some (a0,a1))
def vL(a:(List Int)):Option aT:=
 YK a (fun a0 a1 a2 a3 a4=>(BX af a0 a1 a2 a3 a4).bind fun e=>YL e.1 e.2 (fun a0=>some a0))
def Sp{R:Type}(a b:aT)(c:aT->Option R):Option R:=
 c (aR .and .u64 a.1 b.1,aR .and .u64 a.2.1 b.2.1,())
def sQ(a b:aT):Option aT:=
 Sp a b (fun a0=>some a0)
def Fe{R:Type}(a b:Int)(c:aT->Option R):Option R:=
 c (a,b,())
def SX(a b:Int):Option aT:=
 Fe a b (fun a0=>some a0)
def YO{R:Type}(a:aT)(b:Int)(c:Int->Option R):Option R:=
 bif(if b<0 then 0 else b)<64 then bif(if b<0 then 0 else b)<0 then none else bif !decide (IntKind.u64.wrap (a.1*2^min (if b<0 then 0 else b).toNat 64)=0) then(nh (IntKind.u64.wrap (a.1*2^min (if b<0 then 0 else b).toNat 64))).bind fun r1=>c (zW zI (zW zI ((if b<0 then 0 else b)+r1)+1)) else bif(if 64<zW zI (64-64) then 64 else zW zI (64-64))<0 then none else bif !decide (IntKind.u64.wrap (a.2.1*2^min (if 64<zW zI (64-64) then 64 else zW zI (64-(64:Int))).toNat 64)=0) then(nh (IntKind.u64.wrap (a.2.1*2^min (if 64<zW zI (64-64) then 64 else zW zI (64-(64:Int))).toNat 64))).bind fun r2=>c (zW zI (zW zI (64+r2)+1)) else c 0 else bif(if 64<zW zI ((if b<0 then 0 else b)-64) then 64 else zW zI ((if b<0 then 0 else b)-64))<0 then none else bif !decide (IntKind.u64.wrap (a.2.1*2^min (if 64<zW zI ((if b<0 then 0 else b)-64) then 64 else zW zI ((if b<0 then 0 else b)-(64:Int))).toNat 64)=0) then(nh (IntKind.u64.wrap (a.2.1*2^min (if 64<zW zI ((if b<0 then 0 else b)-64) then 64 else zW zI ((if b<0 then 0 else b)-(64:Int))).toNat 64))).bind fun r3=>c (zW zI (zW zI ((if b<0 then 0 else b)+r3)+1)) else c 0
def Hg(a:aT)(b:Int):Option Int:=
 YO a b (fun a0=>some a0)
def YN{R:Type}(a:aT)(b:Int)(c:Bool->Option R):Option R:=
 (Hh b).bind fun r1=>(sQ a r1).bind fun r2=>c (!(decide (r2.1=0)&&(decide (r2.2.1=0)&&true)))
def Jd(a:aT)(b:Int):Option Bool:=
 YN a b (fun a0=>some a0)
def Ff{R:Type}(a:aT)(b:Int->Int->Option R):Option R:=
 b a.1 a.2.1
def SY(a:aT):Option (Int×Int):=
 Ff a (fun a0 a1=>some (a0,a1))
def zzh{R:Type}(a:Int)(b:Int->Bool->Option R):Option R:=
 bif 48<=a then bif a<=57 then b (zW zI (zW zU (a-48))) true else bif 65<=a then bif a<=70 then b (zW zI (zW zI (zW zU (a-65))+10)) true else b 0 false else b 0 false else bif 65<=a then bif a<=70 then b (zW zI (zW zI (zW zU (a-65))+10)) true else b 0 false else b 0 false
def tM(a:Int):Option (Int×Bool):=
 zzh a (fun a0 a1=>some (a0,a1))
def VE{R:Type}(a:ByteArray)(b:ByteArray->(List Int)->Int->Int->Option R):Option R:=
 bif 0<=zW zI (Int.tdiv (a.size:Int) 2) then bif zW zI (Int.tdiv (a.size:Int) 2)*1<=140737488355328 then b a [] 0 0 else none else none
def RD{R:Type}(a:ByteArray)(b:(List Int))(c d:Int)(e:ByteArray->ByteArray->Int->Bool->(List Int)->Option R)(f:ByteArray->(List Int)->Int->Int->Option R)(g:ByteArray->(List Int)->Option R):Option R:=
 bif d<(a.size:Int) then zd d a.size ((tM (ze a d.toNat)).bind fun r1=>bif !r1.2 then e a (bs []) d false b else bif Int.tmod d 2=0 then f a b r1.1 (zW zI (d+1)) else bif(List.length b+List.length ([(zW zU (aR .or .i64 (zW zI (c*2^min ((4:Int)).toNat 64)) r1.1))]:List Int))*1<=140737488355328 then f a (b++([(zW zU (aR .or .i64 (zW zI (c*2^min ((4:Int)).toNat 64)) r1.1))]:List Int)) c (zW zI (d+1)) else none) else g a b
def zzj{R:Type}(a b:ByteArray)(c:Int)(d:Bool)(e:(List Int))(f:ByteArray->Int->Bool->Option R):Option R:=
 f b c d
def VF{R:Type}(a:ByteArray)(b:(List Int))(c:ByteArray->Int->Bool->Option R):Option R:=
 bif !decide (Int.tmod (a.size:Int) 2=0) then c (bs []) (a.size:Int) false else c (strOf b) 0 true
def GK:Nat->ByteArray->(List Int)->Int->Int->Option (Sum (ByteArray×ByteArray×Int×Bool×(List Int)) (ByteArray×(List Int)))
 |0,_,_,_,_=>none
 |k+1,v0,v1,v2,v3=>RD v0 v1 v2 v3 (fun a0 a1 a2 a3 a4=>some (.inl (a0,a1,a2,a3,a4))) (fun a0 a1 a2 a3=>GK k a0 a1 a2 a3) (fun a0 a1=>some (.inr (a0,a1)))
def im(a:ByteArray):Option (ByteArray×Int×Bool):=
 VE a (fun a0 a1 a2 a3=>(GK af a0 a1 a2 a3).bind fun e=>Sum.elim (fun(we:(ByteArray×ByteArray×Int×Bool×(List Int)))=>zzj we.1 we.2.1 we.2.2.1 we.2.2.2.1 we.2.2.2.2 (fun a0 a1 a2=>some (a0,a1,a2))) (fun(we:(ByteArray×(List Int)))=>VF we.1 we.2 (fun a0 a1 a2=>some (a0,a1,a2))) e)
def VH{R:Type}(a:ByteArray)(b:ByteArray->(List Int)->Int->Option R):Option R:=
 bif 0<=zW zI (2*(a.size:Int)) then bif zW zI (2*(a.size:Int))*1<=140737488355328 then b a [] 0 else none else none
def RE{R:Type}(a:ByteArray)(b:(List Int))(c:Int)(d:ByteArray->(List Int)->Int->Option R)(e:(List Int)->Option R):Option R:=
 bif c<(a.size:Int) then zd c a.size (zd (Int.fdiv (ze a c.toNat) (2^min ((4:Int)).toNat 8)) (bs [48,49,50,51,52,53,54,55,56,57,65,66,67,68,69,70]).size (zd c a.size (zd (aR .and .u8 (ze a c.toNat) 15) (bs [48,49,50,51,52,53,54,55,56,57,65,66,67,68,69,70]).size (bif(List.length b+List.length ([(ze (bs [48,49,50,51,52,53,54,55,56,57,65,66,67,68,69,70]) (Int.fdiv (ze a c.toNat) (2^min ((4:Int)).toNat 8)).toNat),(ze (bs [48,49,50,51,52,53,54,55,56,57,65,66,67,68,69,70]) (aR .and .u8 (ze a c.toNat) (15:Int)).toNat)]:List Int))*1<=140737488355328 then d a (b++([(ze (bs [48,49,50,51,52,53,54,55,56,57,65,66,67,68,69,70]) (Int.fdiv (ze a c.toNat) (2^min ((4:Int)).toNat 8)).toNat),(ze (bs [48,49,50,51,52,53,54,55,56,57,65,66,67,68,69,70]) (aR .and .u8 (ze a c.toNat) (15:Int)).toNat)]:List Int)) (zW zI (c+1)) else none)))) else e b
def zzk{R:Type}(a:(List Int))(b:ByteArray->Option R):Option R:=
 b (strOf a)
def GL:Nat->ByteArray->(List Int)->Int->Option (List Int)
 |0,_,_,_=>none
 |k+1,v0,v1,v2=>RE v0 v1 v2 (fun a0 a1 a2=>GL k a0 a1 a2) (fun a0=>some a0)
def kj(a:ByteArray):Option ByteArray:=
 VH a (fun a0 a1 a2=>(GL af a0 a1 a2).bind fun e=>zzk e (fun a0=>some a0))
def nr{R:Type}(a:Int)(b:Bool->Option R):Option R:=
 bif a=1 then b true else b (decide (a=2))
def Q9(a:Int):Option Bool:=
 nr a (fun a0=>some a0)
def XG{R:Type}(a:Int)(b:ByteArray)(c:Int)(d:(List Int)->Int->Int->Option R):Option R:=
 bif a=1 then bif zW zI ((b.size:Int)-c)<zW zI (8*2) then d (List.replicate 8 0) 0 2 else bif 0<=zW zI (c+zW zI (8*2)) then bif zW zI (c+zW zI (8*2))<=(b.size:Int) then bif 0<=c then bif c<=(((zW zI (c+zW zI (8*(2:Int)))).toNat:Nat):Int) then bif a=1 then(im (b.extract c.toNat (zW zI (c+zW zI (8*(2:Int)))).toNat)).bind fun r1=>bif !r1.2.2 then d (List.replicate 8 0) 0 3 else bif Nat.beq 8 (List.length (List.replicate 8 (0:Int))) then bif Nat.beq 8 (List.length (bZ (List.replicate 8 (0:Int)) (List.take 8 (z31 r1.1)) 0)) then d (bZ (List.replicate 8 0) (List.take 8 (z31 r1.1)) 0) (zW zI (c+zW zI (8*2))) 0 else none else none else bif Nat.beq 8 (List.length (List.replicate 8 (0:Int))) then bif Nat.beq 8 (List.length (bZ (List.replicate 8 (0:Int)) (List.take 8 (z31 (b.extract c.toNat (zW zI (c+zW zI ((8:Int)*(2:Int)))).toNat))) 0)) then d (bZ (List.replicate 8 0) (List.take 8 (z31 (b.extract c.toNat (zW zI (c+zW zI (8*(2:Int)))).toNat))) 0) (zW zI (c+zW zI (8*2))) 0 else none else none else none else none else none else none else bif zW zI ((b.size:Int)-c)<8 then d (List.replicate 8 0) 0 2 else bif 0<=zW zI (c+8) then bif zW zI (c+8)<=(b.size:Int) then bif 0<=c then bif c<=(((zW zI (c+(8:Int))).toNat:Nat):Int) then bif a=1 then(im (b.extract c.toNat (zW zI (c+(8:Int))).toNat)).bind fun r2=>bif !r2.2.2 then d (List.replicate 8 0) 0 3 else bif Nat.beq 8 (List.length (List.replicate 8 (0:Int))) then bif Nat.beq 8 (List.length (bZ (List.replicate 8 (0:Int)) (List.take 8 (z31 r2.1)) 0)) then d (bZ (List.replicate 8 0) (List.take 8 (z31 r2.1)) 0) (zW zI (c+8)) 0 else none else none else bif Nat.beq 8 (List.length (List.replicate 8 (0:Int))) then bif Nat.beq 8 (List.length (bZ (List.replicate 8 (0:Int)) (List.take 8 (z31 (b.extract c.toNat (zW zI (c+(8:Int))).toNat))) 0)) then d (bZ (List.replicate 8 0) (List.take 8 (z31 (b.extract c.toNat (zW zI (c+(8:Int))).toNat))) 0) (zW zI (c+8)) 0 else none else none else none else none else none else none
def Hf(a:Int)(b:ByteArray)(c:Int):Option ((List Int)×Int×Int):=
 XG a b c (fun a0 a1 a2=>some (a0,a1,a2))
def qa{R:Type}(a:(List Int))(b:Int->(List Int)->Int->Option R):Option R:=
 b 0 a 0
def nm{R:Type}(a:Int)(b:(List Int))(c:Int)(d:Int->(List Int)->Int->Option R)(e:Int->Option R):Option R:=
 bif c<8 then zd c 8 (d (aR .or .u64 (IntKind.u64.wrap (a*2^min ((8:Int)).toNat 64)) (IntKind.u64.wrap (List.getD b c.toNat 0))) b (zW zI (c+1))) else e a
def uu{R:Type}(a:Int)(b:Int->Option R):Option R:=
 b a
def kq:Nat->Int->(List Int)->Int->Option Int
 |0,_,_,_=>none
 |k+1,v0,v1,v2=>nm v0 v1 v2 (fun a0 a1 a2=>kq k a0 a1 a2) (fun a0=>some a0)
def Q7(a:(List Int)):Option Int:=
 qa a (fun a0 a1 a2=>(kq af a0 a1 a2).bind fun e=>uu e (fun a0=>some a0))
def pW{R:Type}(a:Int)(b:ByteArray)(c:Int)(d:aT->Int->Int->Option R):Option R:=
 (Q9 a).bind fun r1=>bif !r1 then d (0,0,()) 0 1 else bif c<0 then d (0,0,()) 0 1 else bif(b.size:Int)<c then d (0,0,()) 0 1 else(Hf a b c).bind fun r2=>bif !decide (r2.2.2=0) then d (0,0,()) 0 r2.2.2 else(Q7 r2.1).bind fun r3=>bif aR .and .u64 r3 9223372036854775808=0 then(SX r3 (0:Int)).bind fun r4=>d r4 r2.2.1 0 else(Hf a b r2.2.1).bind fun r5=>bif !decide (r5.2.2=0) then d (0,0,()) 0 r5.2.2 else bif r5.1=([0,0,0,0,0,0,0,0]:List Int) then d (0,0,()) 0 8 else(Q7 r5.1).bind fun r6=>(SX (aR .andNot .u64 r3 9223372036854775808) r6).bind fun r7=>d r7 r5.2.1 0
def Q5(a:Int)(b:ByteArray)(c:Int):Option (aT×Int×Int):=
 pW a b c (fun a0 a1 a2=>some (a0,a1,a2))
def qg{R:Type}(a:Int)(b:Int->Int->(List Int)->(List Int)->Option R):Option R:=
 b a 0 (List.replicate 8 0) (List.replicate 8 0)
def nq{R:Type}(a b:Int)(c d:(List Int))(e:Int->Int->(List Int)->(List Int)->Option R)(f:(List Int)->(List Int)->Option R):Option R:=
 bif b<8 then bif zW zI (8*zW zI (7-b))<0 then none else zd b 8 (e a (zW zI (b+1)) c (List.set d b.toNat (zW zU (Int.fdiv a (2^min (zW zI (8*zW zI (7-b))).toNat 64))))) else f c d
def qh{R:Type}(a b:(List Int))(c:(List Int)->Option R):Option R:=
 c b
def iT:Nat->Int->Int->(List Int)->(List Int)->Option ((List Int)×(List Int))
 |0,_,_,_,_=>none
 |k+1,v0,v1,v2,v3=>nq v0 v1 v2 v3 (fun a0 a1 a2 a3=>iT k a0 a1 a2 a3) (fun a0 a1=>some (a0,a1))
def Q8(a:Int):Option (List Int):=
 qg a (fun a0 a1 a2 a3=>(iT af a0 a1 a2 a3).bind fun e=>qh e.1 e.2 (fun a0=>some a0))
def pY{R:Type}(a:Int)(b:aT)(c:ByteArray->Int->Option R):Option R:=
 (Q9 a).bind fun r1=>bif !r1 then c (bs []) 1 else(Jd b (1:Int)).bind fun r2=>bif r2 then c (bs []) 1 else(SY b).bind fun r3=>(Q8 r3.2).bind fun r4=>bif !decide (r4=([0,0,0,0,0,0,0,0]:List Int)) then bif Nat.beq 8 (List.length r4) then(Q8 (aR .or .u64 r3.1 (9223372036854775808:Int))).bind fun r5=>bif Nat.beq 8 (List.length r5) then bif(strOf r5).size+(strOf r4).size<=9223372036854775807 then bif a=1 then(kj (strOf r5++strOf r4)).bind fun r6=>c r6 0 else c (strOf r5++strOf r4) 0 else none else none else none else(Q8 r3.1).bind fun r7=>bif Nat.beq 8 (List.length r7) then bif(strOf r7).size+(bs []).size<=9223372036854775807 then bif a=1 then(kj (strOf r7++bs [])).bind fun r8=>c r8 0 else c (strOf r7++bs []) 0 else none else none
def Q6(a:Int)(b:aT):Option S7:=
 pY a b (fun a0 a1=>some (a0,a1))
def RK{R:Type}(a:Int)(b:Int->Option R):Option R:=
 bif a=2 then b 2 else bif a=3 then b 3 else b 0
def kl(a:Int):Option Int:=
 RK a (fun a0=>some a0)
def zzz{R:Type}(a:Int)(b:Int->Int->Int->Option R):Option R:=
 (kl a).bind fun r1=>b 0 r1 0
def Du{R:Type}(a b c:Int)(d:Int->Int->Int->Option R)(e:Int->Option R):Option R:=
 bif c<b then d (zW zI (zW zI (10*a)+9)) b (zW zI (c+1)) else e a
def Dv{R:Type}(a:Int)(b:Int->Option R):Option R:=
 b a
def VY:Nat->Int->Int->Int->Option Int
 |0,_,_,_=>none
 |k+1,v0,v1,v2=>Du v0 v1 v2 (fun a0 a1 a2=>VY k a0 a1 a2) (fun a0=>some a0)
def rK(a:Int):Option Int:=
 zzz a (fun a0 a1 a2=>(VY af a0 a1 a2).bind fun e=>Dv e (fun a0=>some a0))
def RJ{R:Type}(a b:Int)(c:Bool->Option R):Option R:=
 bif a=1 then(kl b).bind fun r1=>c (decide (0<r1)) else bif a=2 then(kl b).bind fun r2=>c (decide (0<r2)) else c false
def rM(a b:Int):Option Bool:=
 RJ a b (fun a0=>some a0)
def VW{R:Type}(a b:Int)(c:ByteArray)(d:Int)(e:Int->Int->Int->Option R):Option R:=
 (rM a b).bind fun r1=>bif !r1 then e 0 0 1 else bif d<0 then e 0 0 1 else bif(c.size:Int)<d then e 0 0 1 else(kl b).bind fun r2=>bif a=2 then(Q2 r2).bind fun r3=>bif zW zI ((c.size:Int)-d)<r3 then e 0 0 2 else bif 0<=zW zI (d+r3) then bif zW zI (d+r3)<=(c.size:Int) then bif 0<=d then bif d<=(((zW zI (d+r3)).toNat:Nat):Int) then bif a=2 then(kl b).bind fun r4=>(Q0 (c.extract d.toNat (zW zI (d+r3)).toNat) r4).bind fun r5=>bif !decide (r5.2.1=0) then e 0 0 3 else(yV r5.1).bind fun r6=>bif !r6.2 then e 0 0 3 else e r6.1 (zW zI (d+r3)) 0 else(yV (c.extract d.toNat (zW zI (d+r3)).toNat)).bind fun r7=>bif !r7.2 then e 0 0 3 else e r7.1 (zW zI (d+r3)) 0 else none else none else none else none else bif zW zI ((c.size:Int)-d)<r2 then e 0 0 2 else bif 0<=zW zI (d+r2) then bif zW zI (d+r2)<=(c.size:Int) then bif 0<=d then bif d<=(((zW zI (d+r2)).toNat:Nat):Int) then bif a=2 then(kl b).bind fun r8=>(Q0 (c.extract d.toNat (zW zI (d+r2)).toNat) r8).bind fun r9=>bif !decide (r9.2.1=0) then e 0 0 3 else(yV r9.1).bind fun kR=>bif !kR.2 then e 0 0 3 else e kR.1 (zW zI (d+r2)) 0 else(yV (c.extract d.toNat (zW zI (d+r2)).toNat)).bind fun lz=>bif !lz.2 then e 0 0 3 else e lz.1 (zW zI (d+r2)) 0 else none else none else none else none
def tT(a b:Int)(c:ByteArray)(d:Int):Option jW:=
 VW a b c d (fun a0 a1 a2=>some (a0,a1,a2))
def VZ{R:Type}(a b c:Int)(d:ByteArray->Int->Option R):Option R:=
 (rM a b).bind fun r1=>bif !r1 then d (bs []) 1 else(kl b).bind fun r2=>(I8 c r2).bind fun r3=>bif !r3.2 then d (bs []) 5 else bif a=2 then(Q1 r3.1).bind fun r4=>d r4.1 0 else d r3.1 0
def rL(a b c:Int):Option S7:=
 VZ a b c (fun a0 a1=>some (a0,a1))
def Yk{R:Type}(a:Int)(b:Int->Option R):Option R:=
 bif a=1 then b 1 else bif a=2 then b 2 else bif a=3 then b 3 else bif a=4 then b 7 else bif a=5 then b 15 else bif a=6 then b 15 else b 0
def yS(a:Int):Option Int:=
 Yk a (fun a0=>some a0)
def Yb{R:Type}(a:Int)(b:Bool->Option R):Option R:=
 (yS a).bind fun r1=>b (!decide (r1=0))
def Cc(a:Int):Option Bool:=
 Yb a (fun a0=>some a0)
def z168{R:Type}(a:Int)(b:Int->Option R):Option R:=
 bif 48<=a then bif a<=57 then b 1 else bif 65<=a then bif a<=90 then b 2 else bif 97<=a then bif a<=122 then b 2 else bif 32<=a then bif a<=126 then b 4 else b 8 else b 8 else bif 32<=a then bif a<=126 then b 4 else b 8 else b 8 else bif 97<=a then bif a<=122 then b 2 else bif 32<=a then bif a<=126 then b 4 else b 8 else b 8 else bif 32<=a then bif a<=126 then b 4 else b 8 else b 8 else bif 65<=a then bif a<=90 then b 2 else bif 97<=a then bif a<=122 then b 2 else bif 32<=a then bif a<=126 then b 4 else b 8 else b 8 else bif 32<=a then bif a<=126 then b 4 else b 8 else b 8 else bif 97<=a then bif a<=122 then b 2 else bif 32<=a then bif a<=126 then b 4 else b 8 else b 8 else bif 32<=a then bif a<=126 then b 4 else b 8 else b 8
def Cd(a:Int):Option Int:=
 z168 a (fun a0=>some a0)
def X7{R:Type}(a:Int)(b:ByteArray)(c:ByteArray->Int->Int->Option R):Option R:=
 (yS a).bind fun r1=>c b r1 0
def Sj{R:Type}(a:ByteArray)(b c:Int)(d:Int->Option R)(e:ByteArray->Int->Int->Option R)(f:Option R):Option R:=
 bif c<(a.size:Int) then zd c a.size ((Cd (ze a c.toNat)).bind fun r2=>bif aR .and .i64 b r2=0 then d c else e a b (zW zI (c+1))) else f
def E0{R:Type}(a:Int)(b:Int->Option R):Option R:=
 b a
def z167{R:Type}(a:Int->Option R):Option R:=
 a (-1:Int)
def G3:Nat->ByteArray->Int->Int->Option (Sum Int Unit)
 |0,_,_,_=>none
 |k+1,v0,v1,v2=>Sj v0 v1 v2 (fun a0=>some (.inl a0)) (fun a0 a1 a2=>G3 k a0 a1 a2) (some (.inr ()))
def IX(a:Int)(b:ByteArray):Option Int:=
 X7 a b (fun a0 a1 a2=>(G3 af a0 a1 a2).bind fun e=>Sum.elim (fun(we:Int)=>E0 we (fun a0=>some a0)) (fun(we:Unit)=>z167 (fun a0=>some a0)) e)
def Ye{R:Type}(a b:Int)(c:Bool->Option R):Option R:=
 (Cc a).bind fun r1=>bif r1 then(Cc b).bind fun r2=>bif r2 then(yS b).bind fun r3=>(yS a).bind fun r4=>c (decide (aR .andNot .i64 r3 r4=0)) else c false else c false
def IZ(a b:Int):Option Bool:=
 Ye a b (fun a0=>some a0)
def z116{R:Type}(a:Int)(b:Bool->Option R):Option R:=
 bif 0<a then bif a<=255 then b (decide (aR .and .i64 a 32=0)) else b false else b false
def oL(a:Int):Option Bool:=
 z116 a (fun a0=>some a0)
def WW{R:Type}(a:Int)(b:Bool->Option R):Option R:=
 bif a<=255 then(oL a).bind fun r1=>bif r1 then b (!decide (aR .and .i64 a 31=31)) else b false else bif a<=65535 then(oL (Int.fdiv a (2^min ((8:Int)).toNat 64))).bind fun r2=>bif r2 then bif aR .and .i64 (Int.fdiv a (2^min ((8:Int)).toNat 64)) 31=31 then bif 1<=aR .and .i64 a 255 then b (decide (aR .and .i64 a 255<=127)) else b false else b false else b false else b false
def uk(a:Int):Option Bool:=
 WW a (fun a0=>some a0)
def WV{R:Type}(a:ByteArray)(b:Int)(c:Int->Int->Int->Option R):Option R:=
 bif b<0 then c 0 0 1 else bif(a.size:Int)<b then c 0 0 1 else bif b=(a.size:Int) then c 0 0 2 else zd b a.size ((oL (zW zI (ze a b.toNat))).bind fun r1=>bif !r1 then c 0 0 13 else bif !decide (aR .and .i64 (zW zI (ze a b.toNat)) 31=31) then c (zW zI (ze a b.toNat)) (zW zI (b+1)) 0 else bif zW zI (b+1)=(a.size:Int) then c 0 0 2 else zd (zW zI (b+1)) a.size ((uk (aR .or .i64 (zW zI (zW zI (ze a b.toNat)*2^min ((8:Int)).toNat 64)) (zW zI (ze a (zW zI (b+(1:Int))).toNat)))).bind fun r2=>bif !r2 then c 0 0 13 else c (aR .or .i64 (zW zI (zW zI (ze a b.toNat)*2^min ((8:Int)).toNat 64)) (zW zI (ze a (zW zI (b+(1:Int))).toNat))) (zW zI (b+2)) 0))
def ui(a:ByteArray)(b:Int):Option jW:=
 WV a b (fun a0 a1 a2=>some (a0,a1,a2))
def WY{R:Type}(a:ByteArray)(b:ByteArray->ap->Int->Cj->Option R):Option R:=
 b a [] 0 []
def WZ{R:Type}(a:ByteArray)(b:ap)(c:Int)(d:Cj)(e:ap->Int->Int->ap->Option R)(f:ByteArray->ap->Int->Cj->Option R)(g:ap->Option R):Option R:=
 bif c<(a.size:Int) then(ui a c).bind fun r1=>bif !decide (r1.2.2=(0:Int)) then e ([]:List bd) r1.2.2 c b else(Q3 a r1.2.1).bind fun r2=>bif !decide (r2.2.2=(0:Int)) then e ([]:List bd) r2.2.2 r1.2.1 b else bif zW zI ((a.size:Int)-r2.2.1)<r2.1 then e ([]:List bd) (2:Int) (a.size:Int) b else bif fH (gD (.int .i64)) false d r1.1 then e ([]:List bd) (10:Int) c b else bif fI (gD (.int .i64)) d r1.1 then none else bif(0:Int)<=zW zI (r2.2.1+r2.1) then bif zW zI (r2.2.1+r2.1)<=((a.size:Nat):Int) then bif(0:Int)<=r2.2.1 then bif r2.2.1<=(((zW zI (r2.2.1+r2.1)).toNat:Nat):Int) then bif(List.length b+List.length ([(r1.1,a.extract r2.2.1.toNat (zW zI (r2.2.1+r2.1)).toNat,())]:List bd))*24<=140737488355328 then f a (b++([(r1.1,a.extract r2.2.1.toNat (zW zI (r2.2.1+r2.1)).toNat,())]:List bd)) (zW zI (r2.2.1+r2.1)) (d++ [(r1.1,true)]) else none else none else none else none else none else g b
def D8{R:Type}(a:ap)(b c:Int)(d:ap)(e:ap->Int->Int->Option R):Option R:=
 e a b c
def z119{R:Type}(a:ap)(b:ap->Int->Int->Option R):Option R:=
 b a 0 0
def Ig:Nat->ByteArray->ap->Int->Cj->Option (Sum rT ap)
 |0,_,_,_,_=>none
 |k+1,v0,v1,v2,v3=>WZ v0 v1 v2 v3 (fun a0 a1 a2 a3=>some (.inl (a0,a1,a2,a3))) (fun a0 a1 a2 a3=>Ig k a0 a1 a2 a3) (fun a0=>some (.inr a0))
def um(a:ByteArray):Option (Sum jX jX):=
 WY a (fun a0 a1 a2 a3=>(Ig af a0 a1 a2 a3).bind fun e=>Sum.elim (fun(we:rT)=>D8 we.1 we.2.1 we.2.2.1 we.2.2.2 (fun a0 a1 a2=>some (.inl (a0,a1,a2)))) (fun(we:ap)=>z119 we (fun a0 a1 a2=>some (.inr (a0,a1,a2)))) e)
def WD{R:Type}(a:aW)(b:Int->Option R):Option R:=
 bif a.1<2 then b 1 else bif 128<a.1 then b 1 else(Cc a.2.1).bind fun r1=>bif !r1 then b 6 else bif a.2.2.1<1 then b 3 else bif 3<a.2.2.1 then b 3 else bif a.2.2.2.1<1 then b 5 else bif a.2.2.2.2.1<a.2.2.2.1 then b 5 else bif 999<a.2.2.2.2.1 then b 5 else bif a.2.2.1=1 then bif !decide (a.2.2.2.1=a.2.2.2.2.1) then b 5 else bif !decide (a.2.2.1=1) then(rK a.2.2.1).bind fun r2=>bif r2<a.2.2.2.2.1 then b 5 else bif a.2.2.1=1 then bif a.2.1=6 then b 13 else b 0 else b 0 else bif a.2.2.1=1 then bif a.2.1=6 then b 13 else b 0 else b 0 else bif !decide (a.2.2.1=1) then(rK a.2.2.1).bind fun r3=>bif r3<a.2.2.2.2.1 then b 5 else bif a.2.2.1=1 then bif a.2.1=6 then b 13 else b 0 else b 0 else bif a.2.2.1=1 then bif a.2.1=6 then b 13 else b 0 else b 0
def mi(a:aW):Option Int:=
 WD a (fun a0=>some a0)
def WE{R:Type}(a:aW)(b:ByteArray)(c:Int->Option R):Option R:=
 (mi a).bind fun r1=>bif !decide (r1=0) then c 1 else bif(b.size:Int)<a.2.2.2.1 then c 5 else bif a.2.2.2.2.1<(b.size:Int) then c 5 else(IX a.2.1 b).bind fun r2=>bif 0<=r2 then c 6 else bif a.2.1=6 then(um b).bind fun r3=>Sum.elim (fun(s4:jX)=>bif !decide (s4.2.1=0) then c 13 else c 0) (fun(s4:jX)=>bif !decide (s4.2.1=0) then c 13 else c 0) r3 else c 0
def bX(a:aW)(b:ByteArray):Option Int:=
 WE a b (fun a0=>some a0)
def WH{R:Type}(a b:Int)(c:Bool->Option R):Option R:=
 bif a=5 then c true else bif a=6 then c (decide (a=b)) else bif b=6 then c (decide (a=b)) else(IZ a b).bind fun r1=>c r1
def wP(a b:Int):Option Bool:=
 WH a b (fun a0=>some a0)
def WG{R:Type}(a b:aW)(c:Bool->Option R):Option R:=
 (mi a).bind fun r1=>bif r1=0 then(mi b).bind fun r2=>bif r2=0 then bif a.2.2.2.1<=b.2.2.2.1 then bif b.2.2.2.2.1<=a.2.2.2.2.1 then(wP a.2.1 b.2.1).bind fun r3=>c r3 else c false else c false else c false else c false
def mj(a b:aW):Option Bool:=
 WG a b (fun a0=>some a0)
def Si{R:Type}(a:Int)(b:Bool->Option R):Option R:=
 bif a=1 then b true else b (decide (a=2))
def Cb(a:Int):Option Bool:=
 Si a (fun a0=>some a0)
def XU{R:Type}(a b:Int)(c:Int->Option R):Option R:=
 bif a=2 then bif b=1 then c 1 else bif a=1 then bif b=5 then c 2 else bif b=6 then c 2 else c 0 else c 0 else bif a=1 then bif b=5 then c 2 else bif b=6 then c 2 else c 0 else c 0
def lD(a b:Int):Option Int:=
 XU a b (fun a0=>some a0)
def XL{R:Type}(a:Int)(b:aW)(c:ByteArray)(d:Int)(e:ByteArray->Int->Int->Option R):Option R:=
 (Cb a).bind fun r1=>bif !r1 then e (bs []) 0 1 else(mi b).bind fun r2=>bif !decide (r2=0) then e (bs []) 0 1 else bif d<0 then e (bs []) 0 1 else bif(c.size:Int)<d then e (bs []) 0 1 else bif !decide (b.2.2.1=1) then(tT a b.2.2.1 c d).bind fun r3=>bif !decide (r3.2.2=0) then e (bs []) 0 r3.2.2 else bif r3.1<b.2.2.2.1 then e (bs []) 0 5 else bif b.2.2.2.2.1<r3.1 then e (bs []) 0 5 else(lD a b.2.1).bind fun r4=>bif r4=1 then(Q2 r3.1).bind fun r5=>bif zW zI ((c.size:Int)-r3.2.1)<r5 then e (bs []) 0 2 else bif 0<=zW zI (r3.2.1+r5) then bif zW zI (r3.2.1+r5)<=(c.size:Int) then bif 0<=r3.2.1 then bif r3.2.1<=(((zW zI (r3.2.1+r5)).toNat:Nat):Int) then(lD a b.2.1).bind fun r6=>bif r6=1 then(Q0 (c.extract r3.2.1.toNat (zW zI (r3.2.1+r5)).toNat) r3.1).bind fun r7=>bif !decide (r7.2.1=0) then e (bs []) 0 r7.2.1 else(bX b r7.1).bind fun r8=>bif !decide (r8=0) then e (bs []) 0 r8 else e r7.1 (zW zI (r3.2.1+r5)) 0 else bif r6=2 then(im (c.extract r3.2.1.toNat (zW zI (r3.2.1+r5)).toNat)).bind fun r9=>bif !r9.2.2 then e (bs []) 0 3 else(bX b r9.1).bind fun kR=>bif !decide (kR=0) then e (bs []) 0 kR else e r9.1 (zW zI (r3.2.1+r5)) 0 else(bX b (c.extract r3.2.1.toNat (zW zI (r3.2.1+r5)).toNat)).bind fun lz=>bif !decide (lz=0) then e (bs []) 0 lz else e (c.extract r3.2.1.toNat (zW zI (r3.2.1+r5)).toNat) (zW zI (r3.2.1+r5)) 0 else none else none else none else none else bif r4=2 then bif zW zI ((c.size:Int)-r3.2.1)<zW zI (2*r3.1) then e (bs []) 0 2 else bif 0<=zW zI (r3.2.1+zW zI (2*r3.1)) then bif zW zI (r3.2.1+zW zI (2*r3.1))<=(c.size:Int) then bif 0<=r3.2.1 then bif r3.2.1<=(((zW zI (r3.2.1+zW zI (2*r3.1))).toNat:Nat):Int) then(lD a b.2.1).bind fun lj=>bif lj=1 then(Q0 (c.extract r3.2.1.toNat (zW zI (r3.2.1+zW zI (2*r3.1))).toNat) r3.1).bind fun mP=>bif !decide (mP.2.1=0) then e (bs []) 0 mP.2.1 else(bX b mP.1).bind fun vU=>bif !decide (vU=0) then e (bs []) 0 vU else e mP.1 (zW zI (r3.2.1+zW zI (2*r3.1))) 0 else bif lj=2 then(im (c.extract r3.2.1.toNat (zW zI (r3.2.1+zW zI (2*r3.1))).toNat)).bind fun sZ=>bif !sZ.2.2 then e (bs []) 0 3 else(bX b sZ.1).bind fun yi=>bif !decide (yi=0) then e (bs []) 0 yi else e sZ.1 (zW zI (r3.2.1+zW zI (2*r3.1))) 0 else(bX b (c.extract r3.2.1.toNat (zW zI (r3.2.1+zW zI (2*r3.1))).toNat)).bind fun Dk=>bif !decide (Dk=0) then e (bs []) 0 Dk else e (c.extract r3.2.1.toNat (zW zI (r3.2.1+zW zI (2*r3.1))).toNat) (zW zI (r3.2.1+zW zI (2*r3.1))) 0 else none else none else none else none else bif zW zI ((c.size:Int)-r3.2.1)<r3.1 then e (bs []) 0 2 else bif 0<=zW zI (r3.2.1+r3.1) then bif zW zI (r3.2.1+r3.1)<=(c.size:Int) then bif 0<=r3.2.1 then bif r3.2.1<=(((zW zI (r3.2.1+r3.1)).toNat:Nat):Int) then(lD a b.2.1).bind fun Dl=>bif Dl=1 then(Q0 (c.extract r3.2.1.toNat (zW zI (r3.2.1+r3.1)).toNat) r3.1).bind fun vq=>bif !decide (vq.2.1=0) then e (bs []) 0 vq.2.1 else(bX b vq.1).bind fun Dm=>bif !decide (Dm=0) then e (bs []) 0 Dm else e vq.1 (zW zI (r3.2.1+r3.1)) 0 else bif Dl=2 then(im (c.extract r3.2.1.toNat (zW zI (r3.2.1+r3.1)).toNat)).bind fun yj=>bif !yj.2.2 then e (bs []) 0 3 else(bX b yj.1).bind fun L7=>bif !decide (L7=0) then e (bs []) 0 L7 else e yj.1 (zW zI (r3.2.1+r3.1)) 0 else(bX b (c.extract r3.2.1.toNat (zW zI (r3.2.1+r3.1)).toNat)).bind fun L8=>bif !decide (L8=0) then e (bs []) 0 L8 else e (c.extract r3.2.1.toNat (zW zI (r3.2.1+r3.1)).toNat) (zW zI (r3.2.1+r3.1)) 0 else none else none else none else none else(lD a b.2.1).bind fun r24=>bif r24=1 then(Q2 b.2.2.2.1).bind fun vr=>bif zW zI ((c.size:Int)-d)<vr then e (bs []) 0 2 else bif 0<=zW zI (d+vr) then bif zW zI (d+vr)<=(c.size:Int) then bif 0<=d then bif d<=(((zW zI (d+vr)).toNat:Nat):Int) then(lD a b.2.1).bind fun r26=>bif r26=1 then(Q0 (c.extract d.toNat (zW zI (d+vr)).toNat) b.2.2.2.1).bind fun Tw=>bif !decide (Tw.2.1=0) then e (bs []) 0 Tw.2.1 else(bX b Tw.1).bind fun r28=>bif !decide (r28=0) then e (bs []) 0 r28 else e Tw.1 (zW zI (d+vr)) 0 else bif r26=2 then(im (c.extract d.toNat (zW zI (d+vr)).toNat)).bind fun r29=>bif !r29.2.2 then e (bs []) 0 3 else(bX b r29.1).bind fun r30=>bif !decide (r30=0) then e (bs []) 0 r30 else e r29.1 (zW zI (d+vr)) 0 else(bX b (c.extract d.toNat (zW zI (d+vr)).toNat)).bind fun r31=>bif !decide (r31=0) then e (bs []) 0 r31 else e (c.extract d.toNat (zW zI (d+vr)).toNat) (zW zI (d+vr)) 0 else none else none else none else none else bif r24=2 then bif zW zI ((c.size:Int)-d)<zW zI (2*b.2.2.2.1) then e (bs []) 0 2 else bif 0<=zW zI (d+zW zI (2*b.2.2.2.1)) then bif zW zI (d+zW zI (2*b.2.2.2.1))<=(c.size:Int) then bif 0<=d then bif d<=(((zW zI (d+zW zI (2*b.2.2.2.1))).toNat:Nat):Int) then(lD a b.2.1).bind fun r32=>bif r32=1 then(Q0 (c.extract d.toNat (zW zI (d+zW zI (2*b.2.2.2.1))).toNat) b.2.2.2.1).bind fun Tx=>bif !decide (Tx.2.1=0) then e (bs []) 0 Tx.2.1 else(bX b Tx.1).bind fun r34=>bif !decide (r34=0) then e (bs []) 0 r34 else e Tx.1 (zW zI (d+zW zI (2*b.2.2.2.1))) 0 else bif r32=2 then(im (c.extract d.toNat (zW zI (d+zW zI (2*b.2.2.2.1))).toNat)).bind fun r35=>bif !r35.2.2 then e (bs []) 0 3 else(bX b r35.1).bind fun r36=>bif !decide (r36=0) then e (bs []) 0 r36 else e r35.1 (zW zI (d+zW zI (2*b.2.2.2.1))) 0 else(bX b (c.extract d.toNat (zW zI (d+zW zI (2*b.2.2.2.1))).toNat)).bind fun r37=>bif !decide (r37=0) then e (bs []) 0 r37 else e (c.extract d.toNat (zW zI (d+zW zI (2*b.2.2.2.1))).toNat) (zW zI (d+zW zI (2*b.2.2.2.1))) 0 else none else none else none else none else bif zW zI ((c.size:Int)-d)<b.2.2.2.1 then e (bs []) 0 2 else bif 0<=zW zI (d+b.2.2.2.1) then bif zW zI (d+b.2.2.2.1)<=(c.size:Int) then bif 0<=d then bif d<=(((zW zI (d+b.2.2.2.1)).toNat:Nat):Int) then(lD a b.2.1).bind fun r38=>bif r38=1 then(Q0 (c.extract d.toNat (zW zI (d+b.2.2.2.1)).toNat) b.2.2.2.1).bind fun Tz=>bif !decide (Tz.2.1=0) then e (bs []) 0 Tz.2.1 else(bX b Tz.1).bind fun r40=>bif !decide (r40=0) then e (bs []) 0 r40 else e Tz.1 (zW zI (d+b.2.2.2.1)) 0 else bif r38=2 then(im (c.extract d.toNat (zW zI (d+b.2.2.2.1)).toNat)).bind fun r41=>bif !r41.2.2 then e (bs []) 0 3 else(bX b r41.1).bind fun r42=>bif !decide (r42=0) then e (bs []) 0 r42 else e r41.1 (zW zI (d+b.2.2.2.1)) 0 else(bX b (c.extract d.toNat (zW zI (d+b.2.2.2.1)).toNat)).bind fun r43=>bif !decide (r43=0) then e (bs []) 0 r43 else e (c.extract d.toNat (zW zI (d+b.2.2.2.1)).toNat) (zW zI (d+b.2.2.2.1)) 0 else none else none else none else none
def IP(a:Int)(b:aW)(c:ByteArray)(d:Int):Option KQ:=
 XL a b c d (fun a0 a1 a2=>some (a0,a1,a2))
def XP{R:Type}(a:Int)(b:aW)(c:ByteArray)(d:ByteArray->Int->Option R):Option R:=
 (Cb a).bind fun r1=>bif !r1 then d (bs []) 1 else(bX b c).bind fun r2=>bif !decide (r2=0) then d (bs []) r2 else bif !decide (b.2.2.1=1) then(rL a b.2.2.1 (c.size:Int)).bind fun r3=>(lD a b.2.1).bind fun r4=>bif r4=1 then(Q1 c).bind fun r5=>bif r3.1.size+r5.1.size<=9223372036854775807 then d (r3.1++r5.1) 0 else none else bif r4=2 then(kj c).bind fun r6=>bif r3.1.size+r6.size<=9223372036854775807 then d (r3.1++r6) 0 else none else bif r3.1.size+c.size<=9223372036854775807 then d (r3.1++c) 0 else none else(lD a b.2.1).bind fun r7=>bif r7=1 then(Q1 c).bind fun r8=>bif(bs []).size+r8.1.size<=9223372036854775807 then d (bs []++r8.1) 0 else none else bif r7=2 then(kj c).bind fun r9=>bif(bs []).size+r9.size<=9223372036854775807 then d (bs []++r9) 0 else none else bif(bs []).size+c.size<=9223372036854775807 then d (bs []++c) 0 else none
def B9(a:Int)(b:aW)(c:ByteArray):Option S7:=
 XP a b c (fun a0 a1=>some (a0,a1))
def Yv{R:Type}(a:aQ)(b:Int->Int->Option R)(c:aQ->Int->Int->iV->Option R):Option R:=
 bif 256<((List.length a):Int) then b 5 256 else c a ((List.length a):Int) 0 []
def E6{R:Type}(a:aQ)(b c:Int)(d:iV)(e:Int->Int->Option R)(f:aQ->Int->Int->iV->Option R)(g:Option R):Option R:=
 bif c<b then zd c (List.length a) (bif fH (gD .str) false d (List.getD a c.toNat (bs [],bs [],())).1 then e (10:Int) c else bif fI (gD .str) d (List.getD a c.toNat (bs [],bs [],())).1 then none else f a b (zW zI (c+(1:Int))) (d++ [((List.getD a c.toNat (bs [],bs [],())).1,true)])) else g
def E7{R:Type}(a b:Int)(c:Int->Int->Option R):Option R:=
 c a b
def E8{R:Type}(a:Int->Int->Option R):Option R:=
 a 0 0
def Sl:Nat->aQ->Int->Int->iV->Option (Sum (Int×Int) Unit)
 |0,_,_,_,_=>none
 |k+1,v0,v1,v2,v3=>E6 v0 v1 v2 v3 (fun a0 a1=>some (.inl (a0,a1))) (fun a0 a1 a2 a3=>Sl k a0 a1 a2 a3) (some (.inr ()))
def I5(a:aQ):Option (Int×Int):=
 Yv a (fun a0 a1=>some (a0,a1)) (fun a0 a1 a2 a3=>(Sl af a0 a1 a2 a3).bind fun e=>Sum.elim (fun(we:(Int×Int))=>E7 we.1 we.2 (fun a0 a1=>some (a0,a1))) (fun(we:Unit)=>E8 (fun a0 a1=>some (a0,a1))) e)
def Yq{R:Type}(a:aQ)(b:ByteArray)(c:ByteArray->aQ->Int->Int->Option R):Option R:=
 c b a ((List.length a):Int) 0
def E2{R:Type}(a:ByteArray)(b:aQ)(c d:Int)(e:ByteArray->Bool->Option R)(f:ByteArray->aQ->Int->Int->Option R)(g:Option R):Option R:=
 bif d<c then zd d (List.length b) (bif(List.getD b d.toNat (bs [],bs [],())).1=a then e (List.getD b d.toNat (bs [],bs [],())).2.1 true else f a b c (zW zI (d+1))) else g
def E3{R:Type}(a:ByteArray)(b:Bool)(c:ByteArray->Bool->Option R):Option R:=
 c a b
def E4{R:Type}(a:ByteArray->Bool->Option R):Option R:=
 a (bs []) false
def Sk:Nat->ByteArray->aQ->Int->Int->Option (Sum kb Unit)
 |0,_,_,_,_=>none
 |k+1,v0,v1,v2,v3=>E2 v0 v1 v2 v3 (fun a0 a1=>some (.inl (a0,a1))) (fun a0 a1 a2 a3=>Sk k a0 a1 a2 a3) (some (.inr ()))
def I4(a:aQ)(b:ByteArray):Option kb:=
 Yq a b (fun a0 a1 a2 a3=>(Sk af a0 a1 a2 a3).bind fun e=>Sum.elim (fun(we:kb)=>E3 we.1 we.2 (fun a0 a1=>some (a0,a1))) (fun(we:Unit)=>E4 (fun a0 a1=>some (a0,a1))) e)
def YW{R:Type}(a:Int)(b:Int->Option R)(c:Int->ah->Option R):Option R:=
 bif a<1 then b 5 else bif 65535<a then b 5 else c 0 (a,false,[],())
def Jm(a:Int):Option (Sum Int ux):=
 YW a (fun a0=>some (.inl a0)) (fun a0 a1=>some (.inr (a0,a1)))
def YV{R:Type}(a:ah)(b:Int->ah->Option R):Option R:=
 bif((List.length a.2.2.1):Int)<2 then b 0 a else zd 0 (List.length a.2.2.1) (zd 1 (List.length a.2.2.1) (b (aR .or .i64 (zW zI (zW zI (List.getD a.2.2.1 ((0:Int)).toNat 0)*2^min ((8:Int)).toNat 64)) (zW zI (List.getD a.2.2.1 ((1:Int)).toNat 0))) a))
def Jk(a:ah):Option ux:=
 YV a (fun a0 a1=>some (a0,a1))
def YS{R:Type}(a:ah)(b:ByteArray)(c:ByteArray->(List ByteArray)->Int->ah->Option R):Option R:=
 c b [] 0 a
def Sq{R:Type}(a:ByteArray)(b:(List ByteArray))(c:Int)(d:ah)(e:(List ByteArray)->Bool->(List ByteArray)->ah->Option R)(f:ByteArray->(List ByteArray)->Int->ah->Option R)(g:(List ByteArray)->ah->Option R):Option R:=
 bif c<(a.size:Int) then bif !d.2.1 then zd c a.size (bif(List.length d.2.2.1+List.length ([(ze a c.toNat)]:List Int))*1<=140737488355328 then(Jk (d.1,d.2.1,d.2.2.1++([(ze a c.toNat)]:List Int),())).bind fun r1=>bif((List.length r1.2.2.2.1):Int)=2 then bif r1.1=0 then e b true b (r1.2.1,true,[],()) else bif r1.2.1<r1.1 then e b true b (r1.2.1,true,[],()) else bif((List.length r1.2.2.2.1):Int)=zW zI (2+r1.1) then bif 0<r1.1 then bif 2<=(((List.length r1.2.2.2.1):Nat):Int) then bif(List.length b+List.length ([(strOf (List.drop ((2:Int)).toNat (List.take (List.length r1.2.2.2.1) r1.2.2.2.1)))]:List ByteArray))*16<=140737488355328 then f a (b++([(strOf (List.drop ((2:Int)).toNat (List.take (List.length r1.2.2.2.1) r1.2.2.2.1)))]:List ByteArray)) (zW zI (c+1)) (r1.2.1,r1.2.2.1,[],()) else none else none else f a b (zW zI (c+1)) r1.2 else f a b (zW zI (c+1)) r1.2 else bif((List.length r1.2.2.2.1):Int)=zW zI (2+r1.1) then bif 0<r1.1 then bif 2<=(((List.length r1.2.2.2.1):Nat):Int) then bif(List.length b+List.length ([(strOf (List.drop ((2:Int)).toNat (List.take (List.length r1.2.2.2.1) r1.2.2.2.1)))]:List ByteArray))*16<=140737488355328 then f a (b++([(strOf (List.drop ((2:Int)).toNat (List.take (List.length r1.2.2.2.1) r1.2.2.2.1)))]:List ByteArray)) (zW zI (c+1)) (r1.2.1,r1.2.2.1,[],()) else none else none else f a b (zW zI (c+1)) r1.2 else f a b (zW zI (c+1)) r1.2 else none) else g b d else g b d
def YT{R:Type}(a:(List ByteArray))(b:Bool)(c:(List ByteArray))(d:ah)(e:(List ByteArray)->Bool->ah->Option R):Option R:=
 e a b d
def YU{R:Type}(a:(List ByteArray))(b:ah)(c:(List ByteArray)->Bool->ah->Option R):Option R:=
 c a false b
def G8:Nat->ByteArray->(List ByteArray)->Int->ah->Option (Sum ((List ByteArray)×Bool×(List ByteArray)×ah) ((List ByteArray)×ah))
 |0,_,_,_,_=>none
 |k+1,v0,v1,v2,v3=>Sq v0 v1 v2 v3 (fun a0 a1 a2 a3=>some (.inl (a0,a1,a2,a3))) (fun a0 a1 a2 a3=>G8 k a0 a1 a2 a3) (fun a0 a1=>some (.inr (a0,a1)))
def Ce(a:ah)(b:ByteArray):Option ((List ByteArray)×Bool×ah):=
 YS a b (fun a0 a1 a2 a3=>(G8 af a0 a1 a2 a3).bind fun e=>Sum.elim (fun(we:((List ByteArray)×Bool×(List ByteArray)×ah))=>YT we.1 we.2.1 we.2.2.1 we.2.2.2 (fun a0 a1 a2=>some (a0,a1,a2))) (fun(we:((List ByteArray)×ah))=>YU we.1 we.2 (fun a0 a1 a2=>some (a0,a1,a2))) e)
def YX{R:Type}(a:ByteArray)(b:ByteArray->Int->Option R):Option R:=
 bif(a.size:Int)<1 then b (bs []) 5 else bif 65535<(a.size:Int) then b (bs []) 5 else bif(strOf ([(zW zU (Int.fdiv (a.size:Int) (2^min ((8:Int)).toNat 64))),(zW zU (a.size:Int))]:List Int)).size+a.size<=9223372036854775807 then b (strOf ([(zW zU (Int.fdiv (a.size:Int) (2^min ((8:Int)).toNat 64))),(zW zU (a.size:Int))]:List Int)++a) 0 else none
def Cf(a:ByteArray):Option S7:=
 YX a (fun a0 a1=>some (a0,a1))
def Fg{R:Type}(a:ah)(b:Bool->ah->Option R):Option R:=
 b a.2.1 a
def ZY(a:ah):Option (Bool×ah):=
 Fg a (fun a0 a1=>some (a0,a1))
def Fi{R:Type}(a:ah)(b:Int->ah->Option R):Option R:=
 b ((List.length a.2.2.1):Int) a
def ZZ(a:ah):Option ux:=
 Fi a (fun a0 a1=>some (a0,a1))
def VU{R:Type}(a:ByteArray)(b:Bool->Option R):Option R:=
 bif(a.size:Int)=4 then(yU a).bind fun r1=>b r1 else b false
def oI(a:ByteArray):Option Bool:=
 VU a (fun a0=>some a0)
def VV{R:Type}(a:ByteArray)(b:Int->Bool->Option R):Option R:=
 (oI a).bind fun r1=>bif !r1 then b 0 false else zd 0 a.size (b (zW zI (zW zU (ze a ((0:Int)).toNat-48))) true)
def jU(a:ByteArray):Option (Int×Bool):=
 VV a (fun a0 a1=>some (a0,a1))
def VS{R:Type}(a:ByteArray)(b:Bool->Option R):Option R:=
 (oI a).bind fun r1=>bif r1 then zd 2 a.size (bif ze a ((2:Int)).toNat=48 then b true else zd 2 a.size (b (decide (ze a ((2:Int)).toNat=50)))) else b false
def oH(a:ByteArray):Option Bool:=
 VS a (fun a0=>some a0)
def VT{R:Type}(a:ByteArray)(b:ByteArray->Bool->Option R):Option R:=
 (oH a).bind fun r1=>bif !r1 then b (bs []) false else bif 2<=(a.size:Int) then zd 2 a.size (bif(a.extract 0 ((2:Int)).toNat).size+(strOf ([(zW zU (ze a ((2:Int)).toNat+1))]:List Int)).size<=9223372036854775807 then bif 3<=(a.size:Int) then bif(a.extract 0 ((2:Int)).toNat++strOf ([(zW zU (ze a ((2:Int)).toNat+1))]:List Int)).size+(a.extract ((3:Int)).toNat a.size).size<=9223372036854775807 then b ((a.extract 0 ((2:Int)).toNat++strOf ([(zW zU (ze a ((2:Int)).toNat+1))]:List Int))++a.extract ((3:Int)).toNat a.size) true else none else none else none) else none
def tR(a:ByteArray):Option kb:=
 VT a (fun a0 a1=>some (a0,a1))
def Ib{R:Type}(a:ae)(b:Int->Int->Option R)(c:iu->Int->Int->ae->Option R):Option R:=
 bif !decide (a.1=1) then bif !decide (a.1=2) then b 1 (-1:Int) else bif a.2.1<0 then b 7 (-1:Int) else bif 9<a.2.1 then b 7 (-1:Int) else c a.2.2.1 ((List.length a.2.2.1):Int) 0 a else bif a.2.1<0 then b 7 (-1:Int) else bif 9<a.2.1 then b 7 (-1:Int) else c a.2.2.1 ((List.length a.2.2.1):Int) 0 a
theorem acz{R S:Type}(F:R->Option S)(a)(b)(c):(Ib a b c).bind F=Ib a (fun a0 a1=>(b a0 a1).bind F) (fun a0 a1 a2 a3=>(c a0 a1 a2 a3).bind F):=by
 simp only[Ib,aC]
def RQ{R:Type}(a:iu)(b c:Int)(d:ae)(e:Int->Int->Option R)(f:iu->Int->Int->ae->Option R)(g:Option R):Option R:=
 bif c<b then zd c (List.length a) ((mi (List.getD a c.toNat (0,0,0,0,0,()))).bind fun r1=>bif !decide (r1=0) then e r1 c else bif 0<c then zd (zW zI (c-1)) (List.length d.2.2.1) (bif(List.getD a c.toNat (0,0,0,0,0,())).1<=(List.getD d.2.2.1 (zW zI (c-(1:Int))).toNat (0,0,0,0,0,())).1 then e 11 c else f a b (zW zI (c+1)) d) else f a b (zW zI (c+1)) d) else g
def Wr{R:Type}(a b:Int)(c:Int->Int->Option R):Option R:=
 c a b
def Ws{R:Type}(a:Int->Int->Option R):Option R:=
 a 0 0
def BT:Nat->iu->Int->Int->ae->Option (Sum (Int×Int) Unit)
 |0,_,_,_,_=>none
 |k+1,v0,v1,v2,v3=>RQ v0 v1 v2 v3 (fun a0 a1=>some (.inl (a0,a1))) (fun a0 a1 a2 a3=>BT k a0 a1 a2 a3) (some (.inr ()))
def nj(a:ae):Option (Int×Int):=
 Ib a (fun a0 a1=>some (a0,a1)) (fun a0 a1 a2 a3=>(BT af a0 a1 a2 a3).bind fun e=>Sum.elim (fun(we:(Int×Int))=>Wr we.1 we.2 (fun a0 a1=>some (a0,a1))) (fun(we:Unit)=>Ws (fun a0 a1=>some (a0,a1))) e)
def Wu{R:Type}(a:ae)(b:Int)(c:Int->iu->Int->Int->aW->Option R):Option R:=
 c b a.2.2.1 ((List.length a.2.2.1):Int) 0 (0,0,0,0,0,())
def DP{R:Type}(a:Int)(b:iu)(c d:Int)(e:aW)(f:Bool->aW->Option R)(g:Int->iu->Int->Int->aW->Option R)(h:aW->Option R):Option R:=
 bif d<c then zd d (List.length b) (bif(List.getD b d.toNat (0,0,0,0,0,())).1=a then f true (List.getD b d.toNat (0,0,0,0,0,())) else g a b c (zW zI (d+1)) e) else h e
def DQ{R:Type}(a:Bool)(b:aW)(c:aW->Bool->Option R):Option R:=
 c b a
def DR{R:Type}(a:aW)(b:aW->Bool->Option R):Option R:=
 b (0,0,0,0,0,()) false
def RR:Nat->Int->iu->Int->Int->aW->Option (Sum (Bool×aW) aW)
 |0,_,_,_,_,_=>none
 |k+1,v0,v1,v2,v3,v4=>DP v0 v1 v2 v3 v4 (fun a0 a1=>some (.inl (a0,a1))) (fun a0 a1 a2 a3 a4=>RR k a0 a1 a2 a3 a4) (fun a0=>some (.inr a0))
def gn(a:ae)(b:Int):Option (aW×Bool):=
 Wu a b (fun a0 a1 a2 a3 a4=>(RR af a0 a1 a2 a3 a4).bind fun e=>Sum.elim (fun(we:(Bool×aW))=>DQ we.1 we.2 (fun a0 a1=>some (a0,a1))) (fun(we:aW)=>DR we (fun a0 a1=>some (a0,a1))) e)
def VM{R:Type}(a:aw)(b:Int)(c:Int->ap->Int->Int->Option R):Option R:=
 c b a.2.1 ((List.length a.2.1):Int) 0
def zzr{R:Type}(a:Int)(b:ap)(c d:Int)(e:ByteArray->Bool->Option R)(f:Int->ap->Int->Int->Option R)(g:Option R):Option R:=
 bif d<c then zd d (List.length b) (bif(List.getD b d.toNat (0,bs [],())).1=a then e (List.getD b d.toNat (0,bs [],())).2.1 true else f a b c (zW zI (d+1))) else g
def zzs{R:Type}(a:ByteArray)(b:Bool)(c:ByteArray->Bool->Option R):Option R:=
 c a b
def zzt{R:Type}(a:ByteArray->Bool->Option R):Option R:=
 a (bs []) false
def RG:Nat->Int->ap->Int->Int->Option (Sum kb Unit)
 |0,_,_,_,_=>none
 |k+1,v0,v1,v2,v3=>zzr v0 v1 v2 v3 (fun a0 a1=>some (.inl (a0,a1))) (fun a0 a1 a2 a3=>RG k a0 a1 a2 a3) (some (.inr ()))
def oG(a:aw)(b:Int):Option kb:=
 VM a b (fun a0 a1 a2 a3=>(RG af a0 a1 a2 a3).bind fun e=>Sum.elim (fun(we:kb)=>zzs we.1 we.2 (fun a0 a1=>some (a0,a1))) (fun(we:Unit)=>zzt (fun a0 a1=>some (a0,a1))) e)
def VR{R:Type}(a:aw)(b:Int)(c:Int->ap->Int->Int->aw->aw->Option R):Option R:=
 c b a.2.1 ((List.length a.2.1):Int) 0 (bs [],[],()) (a.1,[],())
def zzx{R:Type}(a:Int)(b:ap)(c d:Int)(e f:aw)(g:Int->ap->Int->Int->aw->aw->Option R)(h:aw->aw->Option R):Option R:=
 bif d<c then zd d (List.length b) (bif !decide ((List.getD b d.toNat (0,bs [],())).1=a) then bif(List.length f.2.1+List.length ([(List.getD b d.toNat ((0:Int),bs [],()))]:List bd))*24<=140737488355328 then g a b c (zW zI (d+1)) e (f.1,f.2.1++([(List.getD b d.toNat (0,bs [],()))]:List bd),()) else none else g a b c (zW zI (d+1)) e f) else h e f
def zzy{R:Type}(a b:aw)(c:aw->Option R):Option R:=
 c b
def RI:Nat->Int->ap->Int->Int->aw->aw->Option (aw×aw)
 |0,_,_,_,_,_,_=>none
 |k+1,v0,v1,v2,v3,v4,v5=>zzx v0 v1 v2 v3 v4 v5 (fun a0 a1 a2 a3 a4 a5=>RI k a0 a1 a2 a3 a4 a5) (fun a0 a1=>some (a0,a1))
def tQ(a:aw)(b:Int):Option aw:=
 VR a b (fun a0 a1 a2 a3 a4 a5=>(RI af a0 a1 a2 a3 a4 a5).bind fun e=>zzy e.1 e.2 (fun a0=>some a0))
def zzw{R:Type}(a:bd)(b:Int)(c:Bool->Int->Option R):Option R:=
 c (decide (b<a.1)) b
def tP(a:bd)(b:Int):Option (Bool×Int):=
 zzw a b (fun a0 a1=>some (a0,a1))
def WA{R:Type}(a:ap)(b:Int)(c:ap->Int->Int->Int->Option R):Option R:=
 c a ((List.length a):Int) 0 b
def DY{R:Type}(a:ap)(b c d:Int)(e:Int->Int->Option R)(f:ap->Int->Int->Int->Option R)(g:Int->Option R):Option R:=
 bif c<b then zd c (List.length a) ((tP (List.getD a c.toNat (0,bs [],())) d).bind fun r1=>bif r1.1 then e c r1.2 else f a b (zW zI (c+1)) r1.2) else g d
def DZ{R:Type}(a b:Int)(c:Int->Int->Option R):Option R:=
 c a b
def D0{R:Type}(a:Int)(b:Int->Int->Option R):Option R:=
 b (-1:Int) a
def RT:Nat->ap->Int->Int->Int->Option (Sum (Int×Int) Int)
 |0,_,_,_,_=>none
 |k+1,v0,v1,v2,v3=>DY v0 v1 v2 v3 (fun a0 a1=>some (.inl (a0,a1))) (fun a0 a1 a2 a3=>RT k a0 a1 a2 a3) (fun a0=>some (.inr a0))
def uf(a:ap)(b:Int):Option (Int×Int):=
 WA a b (fun a0 a1 a2 a3=>(RT af a0 a1 a2 a3).bind fun e=>Sum.elim (fun(we:(Int×Int))=>DZ we.1 we.2 (fun a0 a1=>some (a0,a1))) (fun(we:Int)=>D0 we (fun a0 a1=>some (a0,a1))) e)
def VP{R:Type}(a:aw)(b:Int)(c:ByteArray)(d:aw->Option R):Option R:=
 (tQ a b).bind fun r1=>(uf r1.2.1 b).bind fun r2=>bif r2.1<0 then bif zW zI (((List.length r1.2.1):Int)+1)=zW zI (((List.length r1.2.1):Int)+1) then bif 0<=zW zI (((List.length r1.2.1):Int)+1) then bif zW zI (((List.length r1.2.1):Int)+1)*24<=140737488355328 then bif 0<=((List.length r1.2.1):Int) then bif((List.length r1.2.1):Int)<=(((List.length r1.2.1):Nat):Int) then bif Nat.beq (zW zI (((List.length r1.2.1):Int)+(1:Int))).toNat (List.length (List.replicate (zW zI (((List.length r1.2.1):Int)+(1:Int))).toNat ((0:Int),bs [],()))) then zd ((List.length r1.2.1):Int) (zW zI (((List.length r1.2.1):Int)+(1:Int))).toNat (bif Nat.ble ((((List.length r1.2.1):Int)).toNat+1) (List.length (bZ (List.replicate (zW zI (((List.length r1.2.1):Int)+(1:Int))).toNat ((0:Int),bs [],())) (List.take (zW zI (((List.length r1.2.1):Int)+(1:Int))).toNat (List.drop 0 (List.take (((List.length r1.2.1):Int)).toNat r1.2.1))) 0)) then bif 0<=zW zI (((List.length r1.2.1):Int)+1) then bif zW zI (((List.length r1.2.1):Int)+1)<=(((zW zI (((List.length r1.2.1):Int)+(1:Int))).toNat:Nat):Int) then bif 0<=((List.length r1.2.1):Int) then bif((List.length r1.2.1):Int)<=(((List.length r1.2.1):Nat):Int) then bif Nat.beq (zW zI (((List.length r1.2.1):Int)+(1:Int))).toNat (List.length (List.set (bZ (List.replicate (zW zI (((List.length r1.2.1):Int)+(1:Int))).toNat ((0:Int),bs [],())) (List.take (zW zI (((List.length r1.2.1):Int)+(1:Int))).toNat (List.drop 0 (List.take (((List.length r1.2.1):Int)).toNat r1.2.1))) 0) (((List.length r1.2.1):Int)).toNat (r2.2,c,()))) then bif Nat.ble (zW zI (((List.length r1.2.1):Int)+(1:Int))).toNat (zW zI (((List.length r1.2.1):Int)+(1:Int))).toNat then bif Nat.beq (zW zI (((List.length r1.2.1):Int)+(1:Int))).toNat (List.length (bZ (List.set (bZ (List.replicate (zW zI (((List.length r1.2.1):Int)+(1:Int))).toNat ((0:Int),bs [],())) (List.take (zW zI (((List.length r1.2.1):Int)+(1:Int))).toNat (List.drop 0 (List.take (((List.length r1.2.1):Int)).toNat r1.2.1))) 0) (((List.length r1.2.1):Int)).toNat (r2.2,c,())) (List.take ((zW zI (((List.length r1.2.1):Int)+(1:Int))).toNat-(zW zI (((List.length r1.2.1):Int)+(1:Int))).toNat) (List.drop (((List.length r1.2.1):Int)).toNat (List.take (List.length r1.2.1) r1.2.1))) (zW zI (((List.length r1.2.1):Int)+(1:Int))).toNat)) then d (a.1,bZ (List.set (bZ (List.replicate (zW zI (((List.length r1.2.1):Int)+(1:Int))).toNat (0,bs [],())) (List.take (zW zI (((List.length r1.2.1):Int)+(1:Int))).toNat (List.drop 0 (List.take (((List.length r1.2.1):Int)).toNat r1.2.1))) 0) (((List.length r1.2.1):Int)).toNat (r2.2,c,())) (List.take ((zW zI (((List.length r1.2.1):Int)+(1:Int))).toNat-(zW zI (((List.length r1.2.1):Int)+(1:Int))).toNat) (List.drop (((List.length r1.2.1):Int)).toNat (List.take (List.length r1.2.1) r1.2.1))) (zW zI (((List.length r1.2.1):Int)+(1:Int))).toNat,()) else none else none else none else none else none else none else none else none) else none else none else none else none else none else none else bif zW zI (((List.length r1.2.1):Int)+1)=zW zI (((List.length r1.2.1):Int)+1) then bif 0<=zW zI (((List.length r1.2.1):Int)+1) then bif zW zI (((List.length r1.2.1):Int)+1)*24<=140737488355328 then bif 0<=r2.1 then bif r2.1<=(((List.length r1.2.1):Nat):Int) then bif Nat.beq (zW zI (((List.length r1.2.1):Int)+(1:Int))).toNat (List.length (List.replicate (zW zI (((List.length r1.2.1):Int)+(1:Int))).toNat ((0:Int),bs [],()))) then zd r2.1 (zW zI (((List.length r1.2.1):Int)+(1:Int))).toNat (bif Nat.ble (r2.1.toNat+1) (List.length (bZ (List.replicate (zW zI (((List.length r1.2.1):Int)+(1:Int))).toNat ((0:Int),bs [],())) (List.take (zW zI (((List.length r1.2.1):Int)+(1:Int))).toNat (List.drop 0 (List.take r2.1.toNat r1.2.1))) 0)) then bif 0<=zW zI (r2.1+1) then bif zW zI (r2.1+1)<=(((zW zI (((List.length r1.2.1):Int)+(1:Int))).toNat:Nat):Int) then bif 0<=r2.1 then bif r2.1<=(((List.length r1.2.1):Nat):Int) then bif Nat.beq (zW zI (((List.length r1.2.1):Int)+(1:Int))).toNat (List.length (List.set (bZ (List.replicate (zW zI (((List.length r1.2.1):Int)+(1:Int))).toNat ((0:Int),bs [],())) (List.take (zW zI (((List.length r1.2.1):Int)+(1:Int))).toNat (List.drop 0 (List.take r2.1.toNat r1.2.1))) 0) r2.1.toNat (r2.2,c,()))) then bif Nat.ble (zW zI (r2.1+(1:Int))).toNat (zW zI (((List.length r1.2.1):Int)+(1:Int))).toNat then bif Nat.beq (zW zI (((List.length r1.2.1):Int)+(1:Int))).toNat (List.length (bZ (List.set (bZ (List.replicate (zW zI (((List.length r1.2.1):Int)+(1:Int))).toNat ((0:Int),bs [],())) (List.take (zW zI (((List.length r1.2.1):Int)+(1:Int))).toNat (List.drop 0 (List.take r2.1.toNat r1.2.1))) 0) r2.1.toNat (r2.2,c,())) (List.take ((zW zI (((List.length r1.2.1):Int)+(1:Int))).toNat-(zW zI (r2.1+(1:Int))).toNat) (List.drop r2.1.toNat (List.take (List.length r1.2.1) r1.2.1))) (zW zI (r2.1+(1:Int))).toNat)) then d (a.1,bZ (List.set (bZ (List.replicate (zW zI (((List.length r1.2.1):Int)+(1:Int))).toNat (0,bs [],())) (List.take (zW zI (((List.length r1.2.1):Int)+(1:Int))).toNat (List.drop 0 (List.take r2.1.toNat r1.2.1))) 0) r2.1.toNat (r2.2,c,())) (List.take ((zW zI (((List.length r1.2.1):Int)+(1:Int))).toNat-(zW zI (r2.1+(1:Int))).toNat) (List.drop r2.1.toNat (List.take (List.length r1.2.1) r1.2.1))) (zW zI (r2.1+(1:Int))).toNat,()) else none else none else none else none else none else none else none else none) else none else none else none else none else none else none
def iS(a:aw)(b:Int)(c:ByteArray):Option aw:=
 VP a b c (fun a0=>some a0)
def VK{R:Type}(a:ae)(b:aw)(c:aT->Option R)(d:Int->ap->Int->Int->ae->aT->Option R):Option R:=
 (nj a).bind fun r1=>bif !decide (r1.1=0) then c (1,(-1:Int),()) else(jU b.1).bind fun r2=>bif !r2.2 then c (7,0,()) else bif !decide (r2.1=a.2.1) then c (7,0,()) else d 0 b.2.1 ((List.length b.2.1):Int) 0 a (0,0,())
def zzn{R:Type}(a:Int)(b:ap)(c d:Int)(e:ae)(f:aT)(g:aT->Option R)(h:Int->ap->Int->Int->ae->aT->Option R)(i:aT->Option R):Option R:=
 bif d<c then zd d (List.length b) (bif(List.getD b d.toNat (0,bs [],())).1<=a then g (11,(List.getD b d.toNat (0,bs [],())).1,()) else(gn e (List.getD b d.toNat (0,bs [],())).1).bind fun r3=>bif !r3.2 then g (9,(List.getD b d.toNat (0,bs [],())).1,()) else(bX r3.1 (List.getD b d.toNat (0,bs [],())).2.1).bind fun r4=>bif !decide (r4=0) then g (r4,(List.getD b d.toNat (0,bs [],())).1,()) else h (List.getD b d.toNat (0,bs [],())).1 b c (zW zI (d+1)) e f) else i f
def zzo{R:Type}(a:aT)(b:aT->Option R):Option R:=
 b a
def zzp{R:Type}(a:aT)(b:aT->Option R):Option R:=
 b (0,0,())
def RF:Nat->Int->ap->Int->Int->ae->aT->Option (Sum aT aT)
 |0,_,_,_,_,_,_=>none
 |k+1,v0,v1,v2,v3,v4,v5=>zzn v0 v1 v2 v3 v4 v5 (fun a0=>some (.inl a0)) (fun a0 a1 a2 a3 a4 a5=>RF k a0 a1 a2 a3 a4 a5) (fun a0=>some (.inr a0))
def rJ(a:ae)(b:aw):Option aT:=
 VK a b (fun a0=>some a0) (fun a0 a1 a2 a3 a4 a5=>(RF af a0 a1 a2 a3 a4 a5).bind fun e=>Sum.elim (fun(we:aT)=>zzo we (fun a0=>some a0)) (fun(we:aT)=>zzp we (fun a0=>some a0)) e)
def VO{R:Type}(a:aw)(b:ap->Int->Int->aT->aT->Option R):Option R:=
 b a.2.1 ((List.length a.2.1):Int) 0 (0,0,()) (0,0,())
def zzu{R:Type}(a:ap)(b c:Int)(d e:aT)(f:ap->Int->Int->aT->aT->Option R)(g:aT->aT->Option R):Option R:=
 bif c<b then zd c (List.length a) ((yW e (List.getD a c.toNat (0,bs [],())).1).bind fun r1=>f a b (zW zI (c+1)) d r1) else g d e
def zzv{R:Type}(a b:aT)(c:aT->Option R):Option R:=
 c b
def RH:Nat->ap->Int->Int->aT->aT->Option (aT×aT)
 |0,_,_,_,_,_=>none
 |k+1,v0,v1,v2,v3,v4=>zzu v0 v1 v2 v3 v4 (fun a0 a1 a2 a3 a4=>RH k a0 a1 a2 a3 a4) (fun a0 a1=>some (a0,a1))
def tO(a:aw):Option aT:=
 VO a (fun a0 a1 a2 a3 a4=>(RH af a0 a1 a2 a3 a4).bind fun e=>zzv e.1 e.2 (fun a0=>some a0))
def WC{R:Type}(a:(List Int))(b:Int)(c:(List Int)->Int->Int->Int->Option R):Option R:=
 c a b ((List.length a):Int) 0
def D2{R:Type}(a:(List Int))(b c d:Int)(e:Int->Option R)(f:(List Int)->Int->Int->Int->Option R)(g:Option R):Option R:=
 bif d<c then zd d (List.length a) (bif b=List.getD a d.toNat 0 then e d else f a b c (zW zI (d+1))) else g
def D3{R:Type}(a:Int)(b:Int->Option R):Option R:=
 b a
def D4{R:Type}(a:Int->Option R):Option R:=
 a (-1:Int)
def RU:Nat->(List Int)->Int->Int->Int->Option (Sum Int Unit)
 |0,_,_,_,_=>none
 |k+1,v0,v1,v2,v3=>D2 v0 v1 v2 v3 (fun a0=>some (.inl a0)) (fun a0 a1 a2 a3=>RU k a0 a1 a2 a3) (some (.inr ()))
def wO(a:(List Int))(b:Int):Option Int:=
 WC a b (fun a0 a1 a2 a3=>(RU af a0 a1 a2 a3).bind fun e=>Sum.elim (fun(we:Int)=>D3 we (fun a0=>some a0)) (fun(we:Unit)=>D4 (fun a0=>some a0)) e)
def Ww{R:Type}(a:(List Int))(b:Int)(c:Bool->Option R):Option R:=
 (wO a b).bind fun r1=>c (decide (0<=r1))
def ud(a:(List Int))(b:Int):Option Bool:=
 Ww a b (fun a0=>some a0)
def We{R:Type}(a:au)(b:Int)(c:Int->Option R):Option R:=
 zd b (List.length a.2.2.1) ((gn a.1 (List.getD a.2.2.1 b.toNat (0:Int))).bind fun r1=>bif !r1.2 then c 9 else bif List.getD a.2.2.1 b.toNat 0=39 then c 1 else bif 0<=b then bif b<=(((List.length a.2.2.1):Nat):Int) then(ud (List.drop 0 (List.take b.toNat a.2.2.1)) (List.getD a.2.2.1 b.toNat (0:Int))).bind fun r2=>bif r2 then c 10 else c 0 else none else none)
def tZ(a:au)(b:Int):Option Int:=
 We a b (fun a0=>some a0)
def Wd{R:Type}(a b:bd)(c:Bool->bd->Option R):Option R:=
 c (decide (a.1=b.1)) b
def rN(a b:bd):Option (Bool×bd):=
 Wd a b (fun a0 a1=>some (a0,a1))
def Wy{R:Type}(a:ap)(b:bd)(c:ap->Int->Int->bd->Option R):Option R:=
 c a ((List.length a):Int) 0 b
def DU{R:Type}(a:ap)(b c:Int)(d:bd)(e:Int->bd->Option R)(f:ap->Int->Int->bd->Option R)(g:bd->Option R):Option R:=
 bif c<b then zd c (List.length a) ((rN (List.getD a c.toNat (0,bs [],())) d).bind fun r1=>bif r1.1 then e c r1.2 else f a b (zW zI (c+1)) r1.2) else g d
def DV{R:Type}(a:Int)(b:bd)(c:Int->bd->Option R):Option R:=
 c a b
def DW{R:Type}(a:bd)(b:Int->bd->Option R):Option R:=
 b (-1:Int) a
def RS:Nat->ap->Int->Int->bd->Option (Sum (Int×bd) bd)
 |0,_,_,_,_=>none
 |k+1,v0,v1,v2,v3=>DU v0 v1 v2 v3 (fun a0 a1=>some (.inl (a0,a1))) (fun a0 a1 a2 a3=>RS k a0 a1 a2 a3) (fun a0=>some (.inr a0))
def wN(a:ap)(b:bd):Option (Int×bd):=
 Wy a b (fun a0 a1 a2 a3=>(RS af a0 a1 a2 a3).bind fun e=>Sum.elim (fun(we:(Int×bd))=>DV we.1 we.2 (fun a0 a1=>some (a0,a1))) (fun(we:bd)=>DW we (fun a0 a1=>some (a0,a1))) e)
def Wv{R:Type}(a:ap)(b:bd)(c:Bool->bd->Option R):Option R:=
 (wN a b).bind fun r1=>c (decide (0<=r1.1)) r1.2
def uc(a:ap)(b:bd):Option (Bool×bd):=
 Wv a b (fun a0 a1=>some (a0,a1))
def Wc{R:Type}(a:au)(b:Int)(c:aW)(d:Int->Option R):Option R:=
 zd b (List.length a.2.2.2.1) (bif(List.getD a.2.2.2.1 b.toNat (0,bs [],())).1<0 then d 1 else bif 16<(List.getD a.2.2.2.1 b.toNat (0,bs [],())).1 then d 1 else bif 0<=b then bif b<=(((List.length a.2.2.2.1):Nat):Int) then(uc (List.drop 0 (List.take b.toNat a.2.2.2.1)) (List.getD a.2.2.2.1 b.toNat (0,bs [],()))).bind fun r1=>bif r1.1 then d 10 else(bX c r1.2.2.1).bind fun r2=>d r2 else none else none)
def tY(a:au)(b:Int)(c:aW):Option Int:=
 Wc a b c (fun a0=>some a0)
def V5{R:Type}(a:au)(b:Int->Int->Int->Option R)(c:Int->Int->au->aW->Option R):Option R:=
 (nj a.1).bind fun r1=>bif !decide (r1.1=0) then b 1 1 0 else(gn a.1 (39:Int)).bind fun r2=>bif !r2.2 then b 9 1 1 else c ((List.length a.2.2.1):Int) 0 a r2.1
def RM{R:Type}(a b:Int)(c:au)(d:aW)(e:Int->Int->Int->au->aW->Option R)(f:Int->Int->au->aW->Option R)(g:au->aW->Option R):Option R:=
 bif b<a then(tZ c b).bind fun r3=>bif !decide (r3=0) then e r3 2 b c d else f a (zW zI (b+1)) c d else g c d
def z105{R:Type}(a b c:Int)(d:au)(e:aW)(f:Int->Int->Int->Option R):Option R:=
 f a b c
def V6{R:Type}(a:au)(b:aW)(c:Bool->ap->Int->Int->au->aW->Option R):Option R:=
 c false a.2.2.2.1 ((List.length a.2.2.2.1):Int) 0 a b
def RN{R:Type}(a:Bool)(b:ap)(c d:Int)(e:au)(f:aW)(g:Int->Int->Int->Bool->au->Option R)(h:Bool->ap->Int->Int->au->aW->Option R)(i:Bool->au->Option R):Option R:=
 bif d<c then zd d (List.length b) ((tY e d f).bind fun r4=>bif !decide (r4=0) then g r4 3 d a e else bif a then h true b c (zW zI (d+1)) e f else h (decide ((List.getD b d.toNat (0,bs [],())).1=0)) b c (zW zI (d+1)) e f) else i a e
def Dz{R:Type}(a b c:Int)(d:Bool)(e:au)(f:Int->Int->Int->Option R):Option R:=
 f a b c
def V7{R:Type}(a:Bool)(b:au)(c:Int->Int->Int->Option R):Option R:=
 bif !a then c 15 3 ((List.length b.2.2.2.1):Int) else c 0 0 0
def GM:Nat->Int->Int->au->aW->Option (Sum (Int×Int×Int×au×aW) (au×aW))
 |0,_,_,_,_=>none
 |k+1,v0,v1,v2,v3=>RM v0 v1 v2 v3 (fun a0 a1 a2 a3 a4=>some (.inl (a0,a1,a2,a3,a4))) (fun a0 a1 a2 a3=>GM k a0 a1 a2 a3) (fun a0 a1=>some (.inr (a0,a1)))
def GN:Nat->Bool->ap->Int->Int->au->aW->Option (Sum (Int×Int×Int×Bool×au) (Bool×au))
 |0,_,_,_,_,_,_=>none
 |k+1,v0,v1,v2,v3,v4,v5=>RN v0 v1 v2 v3 v4 v5 (fun a0 a1 a2 a3 a4=>some (.inl (a0,a1,a2,a3,a4))) (fun a0 a1 a2 a3 a4 a5=>GN k a0 a1 a2 a3 a4 a5) (fun a0 a1=>some (.inr (a0,a1)))
def tW(a:au):Option jW:=
 V5 a (fun a0 a1 a2=>some (a0,a1,a2)) (fun a0 a1 a2 a3=>(GM af a0 a1 a2 a3).bind fun e=>Sum.elim (fun(we:(Int×Int×Int×au×aW))=>z105 we.1 we.2.1 we.2.2.1 we.2.2.2.1 we.2.2.2.2 (fun a0 a1 a2=>some (a0,a1,a2))) (fun(we:(au×aW))=>V6 we.1 we.2 (fun a0 a1 a2 a3 a4 a5=>(GN af a0 a1 a2 a3 a4 a5).bind fun e=>Sum.elim (fun(we:(Int×Int×Int×Bool×au))=>Dz we.1 we.2.1 we.2.2.1 we.2.2.2.1 we.2.2.2.2 (fun a0 a1 a2=>some (a0,a1,a2))) (fun(we:(Bool×au))=>V7 we.1 we.2 (fun a0 a1 a2=>some (a0,a1,a2))) e)) e)
def Wa{R:Type}(a:au)(b:Int)(c:(List Int)->Int->Int->au->Option R):Option R:=
 c ([b,0]:List Int) ((List.length ([b,(0:Int)]:List Int)):Int) 0 a
def RO{R:Type}(a:(List Int))(b c:Int)(d:au)(e:Int->(List Int)->Int->Int->ap->Int->Int->au->Option R)(f:Option R):Option R:=
 bif c<b then zd c (List.length a) (e (List.getD a c.toNat 0) a b c d.2.2.2.1 ((List.length d.2.2.2.1):Int) 0 d) else f
def DB{R:Type}(a:ByteArray->Option R):Option R:=
 a (bs [])
def DC{R:Type}(a:Int)(b:(List Int))(c d:Int)(e:ap)(f g:Int)(h:au)(i:ByteArray->(List Int)->Int->Int->au->Option R)(j:Int->(List Int)->Int->Int->ap->Int->Int->au->Option R)(l:(List Int)->Int->Int->au->Option R):Option R:=
 bif g<f then zd g (List.length e) (bif(List.getD e g.toNat (0,bs [],())).1=a then i (List.getD e g.toNat (0,bs [],())).2.1 b c d h else j a b c d e f (zW zI (g+1)) h) else l b c d h
def DE{R:Type}(a:ByteArray)(b:(List Int))(c d:Int)(e:au)(f:ByteArray->Option R):Option R:=
 f a
def Wb{R:Type}(a:(List Int))(b c:Int)(d:au)(e:(List Int)->Int->Int->au->Option R):Option R:=
 e a b (zW zI (c+1)) d
def DF{R:Type}(a:ByteArray)(b:ByteArray->Option R):Option R:=
 b a
def H9:Nat->Int->(List Int)->Int->Int->ap->Int->Int->au->Option (Sum (ByteArray×(List Int)×Int×Int×au) ((List Int)×Int×Int×au))
 |0,_,_,_,_,_,_,_,_=>none
 |k+1,v0,v1,v2,v3,v4,v5,v6,v7=>DC v0 v1 v2 v3 v4 v5 v6 v7 (fun a0 a1 a2 a3 a4=>some (.inl (a0,a1,a2,a3,a4))) (fun a0 a1 a2 a3 a4 a5 a6 a7=>H9 k a0 a1 a2 a3 a4 a5 a6 a7) (fun a0 a1 a2 a3=>some (.inr (a0,a1,a2,a3)))
def BS:Nat->(List Int)->Int->Int->au->Option (Sum Unit ByteArray)
 |0,_,_,_,_=>none
 |k+1,v0,v1,v2,v3=>RO v0 v1 v2 v3 (fun a0 a1 a2 a3 a4 a5 a6 a7=>(H9 af a0 a1 a2 a3 a4 a5 a6 a7).bind fun e=>Sum.elim (fun(we:(ByteArray×(List Int)×Int×Int×au))=>DE we.1 we.2.1 we.2.2.1 we.2.2.2.1 we.2.2.2.2 (fun a0=>some (.inr a0))) (fun(we:((List Int)×Int×Int×au))=>Wb we.1 we.2.1 we.2.2.1 we.2.2.2 (fun a0 a1 a2 a3=>BS k a0 a1 a2 a3)) e) (some (.inl ()))
def tX(a:au)(b:Int):Option ByteArray:=
 Wa a b (fun a0 a1 a2 a3=>(BS af a0 a1 a2 a3).bind fun e=>Sum.elim (fun(we:Unit)=>DB (fun a0=>some a0)) (fun(we:ByteArray)=>DF we (fun a0=>some a0)) e)
def V1{R:Type}(a:au)(b:aw)(c:aT)(d:aw->Bool->Option R)(e:(List Int)->Int->Int->au->aw->aT->aw->aw->Option R):Option R:=
 (tR b.1).bind fun r1=>bif !r1.2 then d (bs [],[],()) false else e a.2.2.1 ((List.length a.2.2.1):Int) 0 a b c (bs [],[],()) (r1.1,[],())
def Dw{R:Type}(a:(List Int))(b c:Int)(d:au)(e:aw)(f:aT)(g h:aw)(i:(List Int)->Int->Int->au->aw->aT->aw->aw->Option R)(j:au->aT->aw->aw->Option R):Option R:=
 bif c<b then zd c (List.length a) ((oG e (List.getD a c.toNat (0:Int))).bind fun r2=>bif r2.2 then(iS h (List.getD a c.toNat 0) r2.1).bind fun r3=>i a b (zW zI (c+1)) d e f g r3 else i a b (zW zI (c+1)) d e f g h) else j d f g h
def V2{R:Type}(a:au)(b:aT)(c d:aw)(e:aw->Bool->Option R):Option R:=
 (tX a b.1).bind fun r4=>(iS d 39 r4).bind fun r5=>e r5 true
def RL:Nat->(List Int)->Int->Int->au->aw->aT->aw->aw->Option (au×aT×aw×aw)
 |0,_,_,_,_,_,_,_,_=>none
 |k+1,v0,v1,v2,v3,v4,v5,v6,v7=>Dw v0 v1 v2 v3 v4 v5 v6 v7 (fun a0 a1 a2 a3 a4 a5 a6 a7=>RL k a0 a1 a2 a3 a4 a5 a6 a7) (fun a0 a1 a2 a3=>some (a0,a1,a2,a3))
def tV(a:au)(b:aw)(c:aT):Option (aw×Bool):=
 V1 a b c (fun a0 a1=>some (a0,a1)) (fun a0 a1 a2 a3 a4 a5 a6 a7=>(RL af a0 a1 a2 a3 a4 a5 a6 a7).bind fun e=>V2 e.1 e.2.1 e.2.2.1 e.2.2.2 (fun a0 a1=>some (a0,a1)))
def WK{R:Type}(a:ae)(b:ByteArray)(c:ByteArray->Int->Int->Option R):Option R:=
 bif a.1=2 then(Q2 (4:Int)).bind fun r1=>bif(b.size:Int)<r1 then c (bs []) 0 2 else bif 0<=r1 then bif r1<=(b.size:Int) then bif a.1=2 then(Q0 (b.extract 0 r1.toNat) (4:Int)).bind fun r2=>(jU r2.1).bind fun r3=>bif !r3.2 then c (bs []) 0 7 else bif !decide (r3.1=a.2.1) then c (bs []) 0 7 else c r2.1 r1 0 else(jU (b.extract 0 r1.toNat)).bind fun r4=>bif !r4.2 then c (bs []) 0 7 else bif !decide (r4.1=a.2.1) then c (bs []) 0 7 else c (b.extract 0 r1.toNat) r1 0 else none else none else bif(b.size:Int)<4 then c (bs []) 0 2 else bif 4<=(b.size:Int) then bif a.1=2 then(Q0 (b.extract 0 ((4:Int)).toNat) (4:Int)).bind fun r5=>(jU r5.1).bind fun r6=>bif !r6.2 then c (bs []) 0 7 else bif !decide (r6.1=a.2.1) then c (bs []) 0 7 else c r5.1 4 0 else(jU (b.extract 0 ((4:Int)).toNat)).bind fun r7=>bif !r7.2 then c (bs []) 0 7 else bif !decide (r7.1=a.2.1) then c (bs []) 0 7 else c (b.extract 0 ((4:Int)).toNat) 4 0 else none
def ug(a:ae)(b:ByteArray):Option KQ:=
 WK a b (fun a0 a1 a2=>some (a0,a1,a2))
def WJ{R:Type}(a:ae)(b:ByteArray)(c:aw->aT->Option R)(d:ByteArray->Int->Int->ae->aw->aT->aw->aT->Option R):Option R:=
 (nj a).bind fun r1=>bif !decide (r1.1=0) then c (bs [],[],()) (1,(-1:Int),()) else(ug a b).bind fun r2=>bif !decide (r2.2.2=0) then c (bs [],[],()) (r2.2.2,0,()) else(Q5 a.1 b r2.2.1).bind fun r3=>bif !decide (r3.2.2=0) then c (r2.1,[],()) (r3.2.2,1,()) else(Hg r3.1 (0:Int)).bind fun r4=>d b r3.2.1 r4 a (bs [],[],()) (0,0,()) (r2.1,[],()) r3.1
def RV{R:Type}(a:ByteArray)(b c:Int)(d:ae)(e:aw)(f:aT)(g:aw)(h:aT)(i:ByteArray->Int->aw->aT->aw->Option R)(j:ByteArray->Int->Int->ae->aw->aT->aw->aT->Option R)(l:ByteArray->Int->aw->aT->aw->Option R):Option R:=
 bif !decide (c=0) then(gn d c).bind fun r5=>bif !r5.2 then i a b g (9,c,()) g else(IP d.1 r5.1 a b).bind fun r6=>bif !decide (r6.2.2=0) then i a b g (r6.2.2,c,()) g else bif(List.length g.2.1+List.length ([(c,r6.1,())]:List bd))*24<=140737488355328 then(Hg h c).bind fun r7=>j a r6.2.1 r7 d e f (g.1,g.2.1++([(c,r6.1,())]:List bd),()) h else none else l a b e f g
def D6{R:Type}(a:ByteArray)(b:Int)(c:aw)(d:aT)(e:aw)(f:aw->aT->Option R):Option R:=
 f c d
def D7{R:Type}(a:ByteArray)(b:Int)(c:aw)(d:aT)(e:aw)(f:aw->aT->Option R):Option R:=
 bif b<(a.size:Int) then f e (12,129,()) else f e (0,0,())
def GQ:Nat->ByteArray->Int->Int->ae->aw->aT->aw->aT->Option (Sum rV rV)
 |0,_,_,_,_,_,_,_,_=>none
 |k+1,v0,v1,v2,v3,v4,v5,v6,v7=>RV v0 v1 v2 v3 v4 v5 v6 v7 (fun a0 a1 a2 a3 a4=>some (.inl (a0,a1,a2,a3,a4))) (fun a0 a1 a2 a3 a4 a5 a6 a7=>GQ k a0 a1 a2 a3 a4 a5 a6 a7) (fun a0 a1 a2 a3 a4=>some (.inr (a0,a1,a2,a3,a4)))
def rP(a:ae)(b:ByteArray):Option (aw×aT):=
 WJ a b (fun a0 a1=>some (a0,a1)) (fun a0 a1 a2 a3 a4 a5 a6 a7=>(GQ af a0 a1 a2 a3 a4 a5 a6 a7).bind fun e=>Sum.elim (fun(we:rV)=>D6 we.1 we.2.1 we.2.2.1 we.2.2.2.1 we.2.2.2.2 (fun a0 a1=>some (a0,a1))) (fun(we:rV)=>D7 we.1 we.2.1 we.2.2.1 we.2.2.2.1 we.2.2.2.2 (fun a0 a1=>some (a0,a1))) e)
def W5{R:Type}(a:Int)(b:ByteArray)(c:ByteArray->Bool->Option R):Option R:=
 (oI b).bind fun r1=>bif !r1 then c (bs []) false else bif a=1 then c b true else bif a=2 then(Q1 b).bind fun r2=>c r2.1 r2.2 else c (bs []) false
def uo(a:Int)(b:ByteArray):Option kb:=
 W5 a b (fun a0 a1=>some (a0,a1))
def W4{R:Type}(a b:ByteArray)(c:ByteArray->Option R):Option R:=
 (z24 b a).bind fun r1=>c r1.2
def ko(a b:ByteArray):Option ByteArray:=
 W4 a b (fun a0=>some a0)
def W3{R:Type}(a:ae)(b:aw)(c:ByteArray->aT->Option R)(d:ap->Int->Int->ae->aT->ByteArray->Option R):Option R:=
 (rJ a b).bind fun r1=>bif !decide (r1.1=0) then c (bs []) r1 else(uo a.1 b.1).bind fun r2=>(ko r2.1 (bs [])).bind fun r3=>(tO b).bind fun r4=>(Q6 a.1 r4).bind fun r5=>(ko r5.1 r3).bind fun r6=>d b.2.1 ((List.length b.2.1):Int) 0 a (0,0,()) r6
def D9{R:Type}(a:ap)(b c:Int)(d:ae)(e:aT)(f:ByteArray)(g:ap->Int->Int->ae->aT->ByteArray->Option R)(h:aT->ByteArray->Option R):Option R:=
 bif c<b then zd c (List.length a) ((gn d (List.getD a c.toNat (0,bs [],())).1).bind fun r7=>(B9 d.1 r7.1 (List.getD a c.toNat (0,bs [],())).2.1).bind fun r8=>(ko r8.1 f).bind fun r9=>g a b (zW zI (c+1)) d e r9) else h e f
def Ea{R:Type}(a:aT)(b:ByteArray)(c:ByteArray->aT->Option R):Option R:=
 (z5k b).bind fun kR=>c kR.1 (0,0,())
def RW:Nat->ap->Int->Int->ae->aT->ByteArray->Option (aT×ByteArray)
 |0,_,_,_,_,_,_=>none
 |k+1,v0,v1,v2,v3,v4,v5=>D9 v0 v1 v2 v3 v4 v5 (fun a0 a1 a2 a3 a4 a5=>RW k a0 a1 a2 a3 a4 a5) (fun a0 a1=>some (a0,a1))
def oM(a:ae)(b:aw):Option (ByteArray×aT):=
 W3 a b (fun a0 a1=>some (a0,a1)) (fun a0 a1 a2 a3 a4 a5=>(RW af a0 a1 a2 a3 a4 a5).bind fun e=>Ea e.1 e.2 (fun a0 a1=>some (a0,a1)))
def Wm{R:Type}(a:aD)(b c:ae)(d:aW->aW->Int->Option R):Option R:=
 (gn b a.2.1).bind fun r1=>(gn c a.2.2.1).bind fun r2=>bif a.1=3 then bif a.1=2 then bif !decide (a.2.1=0) then d r1.1 r2.1 9 else bif !decide (a.2.2.1=0) then d r1.1 r2.1 9 else d r1.1 r2.1 0 else bif !decide (a.2.1=0) then d r1.1 r2.1 9 else bif !r2.2 then d r1.1 r2.1 9 else d r1.1 r2.1 0 else bif a.1=2 then bif !r1.2 then d r1.1 r2.1 9 else bif !decide (a.2.2.1=0) then d r1.1 r2.1 9 else d r1.1 r2.1 0 else bif !r1.2 then d r1.1 r2.1 9 else bif !r2.2 then d r1.1 r2.1 9 else d r1.1 r2.1 0
def ub(a:aD)(b c:ae):Option (aW×aW×Int):=
 Wm a b c (fun a0 a1 a2=>some (a0,a1,a2))
def Wn{R:Type}(a:aW)(b:Bool->Option R):Option R:=
 bif a.2.1=1 then b (decide (a.2.2.1=1)) else b false
def jV(a:aW):Option Bool:=
 Wn a (fun a0=>some a0)
def Wp{R:Type}(a:aQ)(b c:aW)(d:Int->Option R)(e:aQ->Int->Int->aW->aW->Option R):Option R:=
 (I5 a).bind fun r1=>bif !decide (r1.1=0) then d 15 else bif((List.length a):Int)=0 then d 15 else e a ((List.length a):Int) 0 b c
def DK{R:Type}(a:aQ)(b c:Int)(d e:aW)(f:Int->Option R)(g:aQ->Int->Int->aW->aW->Option R)(h:Option R):Option R:=
 bif c<b then zd c (List.length a) ((bX d (List.getD a c.toNat (bs [],bs [],())).1).bind fun r2=>bif !decide (r2=0) then f r2 else(bX e (List.getD a c.toNat (bs [],bs [],())).2.1).bind fun r3=>bif !decide (r3=0) then f r3 else g a b (zW zI (c+1)) d e) else h
def DL{R:Type}(a:Int)(b:Int->Option R):Option R:=
 b a
def DM{R:Type}(a:Int->Option R):Option R:=
 a 0
def RP:Nat->aQ->Int->Int->aW->aW->Option (Sum Int Unit)
 |0,_,_,_,_,_=>none
 |k+1,v0,v1,v2,v3,v4=>DK v0 v1 v2 v3 v4 (fun a0=>some (.inl a0)) (fun a0 a1 a2 a3 a4=>RP k a0 a1 a2 a3 a4) (some (.inr ()))
def ni(a:aQ)(b c:aW):Option Int:=
 Wp a b c (fun a0=>some a0) (fun a0 a1 a2 a3 a4=>(RP af a0 a1 a2 a3 a4).bind fun e=>Sum.elim (fun(we:Int)=>DL we (fun a0=>some a0)) (fun(we:Unit)=>DM (fun a0=>some a0)) e)
def Wl{R:Type}(a:aD)(b c:ae)(d:Int->Option R):Option R:=
 bif a.1<1 then d 1 else bif 5<a.1 then d 1 else(ub a b c).bind fun r1=>bif !decide (r1.2.2=0) then d r1.2.2 else bif !decide (a.2.2.2.1=bs []) then bif !decide (a.1=3) then d 3 else bif 0<((List.length a.2.2.2.2.1):Int) then bif !decide (a.1=5) then d 3 else bif a.1=1 then(mj r1.2.1 r1.1).bind fun r2=>bif !r2 then d 6 else d 0 else bif a.1=3 then(bX r1.2.1 a.2.2.2.1).bind fun r3=>d r3 else bif a.1=4 then(jV r1.1).bind fun r4=>bif !r4 then d 6 else(jV r1.2.1).bind fun r5=>bif !r5 then d 6 else d 0 else bif a.1=5 then(ni a.2.2.2.2.1 r1.1 r1.2.1).bind fun r6=>d r6 else d 0 else bif a.1=1 then(mj r1.2.1 r1.1).bind fun r7=>bif !r7 then d 6 else d 0 else bif a.1=3 then(bX r1.2.1 a.2.2.2.1).bind fun r8=>d r8 else bif a.1=4 then(jV r1.1).bind fun r9=>bif !r9 then d 6 else(jV r1.2.1).bind fun kR=>bif !kR then d 6 else d 0 else bif a.1=5 then(ni a.2.2.2.2.1 r1.1 r1.2.1).bind fun lz=>d lz else d 0 else bif 0<((List.length a.2.2.2.2.1):Int) then bif !decide (a.1=5) then d 3 else bif a.1=1 then(mj r1.2.1 r1.1).bind fun lj=>bif !lj then d 6 else d 0 else bif a.1=3 then(bX r1.2.1 a.2.2.2.1).bind fun mP=>d mP else bif a.1=4 then(jV r1.1).bind fun vU=>bif !vU then d 6 else(jV r1.2.1).bind fun sZ=>bif !sZ then d 6 else d 0 else bif a.1=5 then(ni a.2.2.2.2.1 r1.1 r1.2.1).bind fun yi=>d yi else d 0 else bif a.1=1 then(mj r1.2.1 r1.1).bind fun Dk=>bif !Dk then d 6 else d 0 else bif a.1=3 then(bX r1.2.1 a.2.2.2.1).bind fun Dl=>d Dl else bif a.1=4 then(jV r1.1).bind fun vq=>bif !vq then d 6 else(jV r1.2.1).bind fun Dm=>bif !Dm then d 6 else d 0 else bif a.1=5 then(ni a.2.2.2.2.1 r1.1 r1.2.1).bind fun yj=>d yj else d 0
def oK(a:aD)(b c:ae):Option Int:=
 Wl a b c (fun a0=>some a0)
def Wk{R:Type}(a:aD)(b:ae)(c:ByteArray)(d:bd->Int->Option R):Option R:=
 bif a.1=1 then d (a.2.2.1,c,()) 0 else bif a.1=2 then d (0,bs [],()) 0 else bif a.1=3 then d (a.2.2.1,a.2.2.2.1,()) 0 else bif a.1=4 then(gn b a.2.2.1).bind fun r1=>bif !r1.2 then d (0,bs [],()) 9 else(I6 c r1.1.2.2.2.1).bind fun r2=>bif !r2.2 then d (0,bs [],()) 5 else d (a.2.2.1,r2.1,()) 0 else bif a.1=5 then(I4 a.2.2.2.2.1 c).bind fun r3=>bif !r3.2 then d (0,bs [],()) 15 else d (a.2.2.1,r3.1,()) 0 else d (0,bs [],()) 1
def oJ(a:aD)(b:ae)(c:ByteArray):Option (bd×Int):=
 Wk a b c (fun a0 a1=>some (a0,a1))
def Xl{R:Type}(a:dp)(b c:ae)(d:Bool->Option R):Option R:=
 (jU a.1).bind fun r1=>(jU a.2.1).bind fun r2=>bif r1.2 then bif r2.2 then bif r1.1=b.2.1 then bif r2.1=c.2.1 then(oH a.1).bind fun r3=>(oH a.2.1).bind fun r4=>d (r3==r4) else d false else d false else d false else d false
def oO(a:dp)(b c:ae):Option Bool:=
 Xl a b c (fun a0=>some a0)
def W9{R:Type}(a:aq)(b c:ae)(d:oT->Int->Int->aq->ae->ae->Option R):Option R:=
 d ([b,c]:List ae) ((List.length ([b,c]:List ae)):Int) 0 a b c
def Xa{R:Type}(a:oT)(b c:Int)(d:aq)(e f:ae)(g:Int->Int->Int->aq->ae->ae->Option R)(h:oT->Int->Int->aq->ae->ae->Option R)(i:aq->ae->ae->Option R):Option R:=
 bif c<b then zd c (List.length a) ((nj (List.getD a c.toNat (0,0,[],()))).bind fun r1=>bif !decide (r1.1=0) then g 1 1 c d e f else h a b (zW zI (c+1)) d e f) else i d e f
def Ee{R:Type}(a b c:Int)(d:aq)(e f:ae)(g:Int->Int->Int->Option R):Option R:=
 g a b c
def Xb{R:Type}(a:aq)(b c:ae)(d:Int->Int->Int->Option R)(e:aQ->Int->Int->aq->ae->ae->iV->Option R):Option R:=
 bif 256<((List.length a.1):Int) then d 5 2 256 else e a.1 ((List.length a.1):Int) 0 a b c []
def Ef{R:Type}(a:aQ)(b c:Int)(d:aq)(e f:ae)(g:iV)(h:Int->Int->Int->aq->ae->ae->Option R)(i:aQ->Int->Int->aq->ae->ae->iV->Option R)(j:aq->ae->ae->Option R):Option R:=
 bif c<b then zd c (List.length a) ((oO (List.getD a c.toNat (bs [],bs [],())) e f).bind fun r2=>bif !r2 then h (7:Int) (2:Int) c d e f else bif fH (gD .str) false g (List.getD a c.toNat (bs [],bs [],())).1 then h (10:Int) (2:Int) c d e f else bif fI (gD .str) g (List.getD a c.toNat (bs [],bs [],())).1 then none else i a b (zW zI (c+(1:Int))) d e f (g++ [((List.getD a c.toNat (bs [],bs [],())).1,true)])) else j d e f
def Eg{R:Type}(a b c:Int)(d:aq)(e f:ae)(g:Int->Int->Int->Option R):Option R:=
 g a b c
def Xc{R:Type}(a:aq)(b c:ae)(d:Int->Int->Int->Option R)(e:bS->Int->Int->ae->ae->aT->aT->Option R):Option R:=
 bif 256<((List.length a.2.1):Int) then d 5 3 256 else e a.2.1 ((List.length a.2.1):Int) 0 b c (0,0,()) (0,0,())
def Eh{R:Type}(a:bS)(b c:Int)(d e:ae)(f g:aT)(h:Int->Int->Int->Option R)(i:bS->Int->Int->ae->ae->aT->aT->Option R)(j:Option R):Option R:=
 bif c<b then zd c (List.length a) ((oK (List.getD a c.toNat (0,0,0,bs [],[],())) d e).bind fun r3=>bif !decide (r3=0) then h r3 3 c else(vL ([(List.getD a c.toNat (0,0,0,bs [],[],())).2.1]:List Int)).bind fun r4=>(vL ([(List.getD a c.toNat (0,0,0,bs [],[],())).2.2.1]:List Int)).bind fun r5=>(sQ f r4).bind fun r6=>bif !(decide (r6.1=0)&&(decide (r6.2.1=0)&&true)) then h 10 3 c else(sQ g r5).bind fun r7=>bif !(decide (r7.1=0)&&(decide (r7.2.1=0)&&true)) then h 10 3 c else(ur f r4).bind fun r8=>(ur g r5).bind fun r9=>i a b (zW zI (c+1)) d e r8 r9) else j
def Ei{R:Type}(a b c:Int)(d:Int->Int->Int->Option R):Option R:=
 d a b c
def Ej{R:Type}(a:Int->Int->Int->Option R):Option R:=
 a 0 0 0
def Ih:Nat->oT->Int->Int->aq->ae->ae->Option (Sum mu mr)
 |0,_,_,_,_,_,_=>none
 |k+1,v0,v1,v2,v3,v4,v5=>Xa v0 v1 v2 v3 v4 v5 (fun a0 a1 a2 a3 a4 a5=>some (.inl (a0,a1,a2,a3,a4,a5))) (fun a0 a1 a2 a3 a4 a5=>Ih k a0 a1 a2 a3 a4 a5) (fun a0 a1 a2=>some (.inr (a0,a1,a2)))
def Ii:Nat->aQ->Int->Int->aq->ae->ae->iV->Option (Sum mu mr)
 |0,_,_,_,_,_,_,_=>none
 |k+1,v0,v1,v2,v3,v4,v5,v6=>Ef v0 v1 v2 v3 v4 v5 v6 (fun a0 a1 a2 a3 a4 a5=>some (.inl (a0,a1,a2,a3,a4,a5))) (fun a0 a1 a2 a3 a4 a5 a6=>Ii k a0 a1 a2 a3 a4 a5 a6) (fun a0 a1 a2=>some (.inr (a0,a1,a2)))
def RX:Nat->bS->Int->Int->ae->ae->aT->aT->Option (Sum jW Unit)
 |0,_,_,_,_,_,_,_=>none
 |k+1,v0,v1,v2,v3,v4,v5,v6=>Eh v0 v1 v2 v3 v4 v5 v6 (fun a0 a1 a2=>some (.inl (a0,a1,a2))) (fun a0 a1 a2 a3 a4 a5 a6=>RX k a0 a1 a2 a3 a4 a5 a6) (some (.inr ()))
def rQ(a:aq)(b c:ae):Option jW:=
 W9 a b c (fun a0 a1 a2 a3 a4 a5=>(Ih af a0 a1 a2 a3 a4 a5).bind fun e=>Sum.elim (fun(we:mu)=>Ee we.1 we.2.1 we.2.2.1 we.2.2.2.1 we.2.2.2.2.1 we.2.2.2.2.2 (fun a0 a1 a2=>some (a0,a1,a2))) (fun(we:mr)=>Xb we.1 we.2.1 we.2.2 (fun a0 a1 a2=>some (a0,a1,a2)) (fun a0 a1 a2 a3 a4 a5 a6=>(Ii af a0 a1 a2 a3 a4 a5 a6).bind fun e=>Sum.elim (fun(we:mu)=>Eg we.1 we.2.1 we.2.2.1 we.2.2.2.1 we.2.2.2.2.1 we.2.2.2.2.2 (fun a0 a1 a2=>some (a0,a1,a2))) (fun(we:mr)=>Xc we.1 we.2.1 we.2.2 (fun a0 a1 a2=>some (a0,a1,a2)) (fun a0 a1 a2 a3 a4 a5 a6=>(RX af a0 a1 a2 a3 a4 a5 a6).bind fun e=>Sum.elim (fun(we:jW)=>Ei we.1 we.2.1 we.2.2 (fun a0 a1 a2=>some (a0,a1,a2))) (fun(we:Unit)=>Ej (fun a0 a1 a2=>some (a0,a1,a2))) e)) e)) e)
def Xk{R:Type}(a:aq)(b:ByteArray)(c:ByteArray->aQ->Int->Int->Option R):Option R:=
 c b a.1 ((List.length a.1):Int) 0
def Ey{R:Type}(a:ByteArray)(b:aQ)(c d:Int)(e:ByteArray->Bool->Option R)(f:ByteArray->aQ->Int->Int->Option R)(g:Option R):Option R:=
 bif d<c then zd d (List.length b) (bif(List.getD b d.toNat (bs [],bs [],())).1=a then e (List.getD b d.toNat (bs [],bs [],())).2.1 true else f a b c (zW zI (d+1))) else g
def Ez{R:Type}(a:ByteArray)(b:Bool)(c:ByteArray->Bool->Option R):Option R:=
 c a b
def EA{R:Type}(a:ByteArray->Bool->Option R):Option R:=
 a (bs []) false
def R3:Nat->ByteArray->aQ->Int->Int->Option (Sum kb Unit)
 |0,_,_,_,_=>none
 |k+1,v0,v1,v2,v3=>Ey v0 v1 v2 v3 (fun a0 a1=>some (.inl (a0,a1))) (fun a0 a1 a2 a3=>R3 k a0 a1 a2 a3) (some (.inr ()))
def uq(a:aq)(b:ByteArray):Option kb:=
 Xk a b (fun a0 a1 a2 a3=>(R3 af a0 a1 a2 a3).bind fun e=>Sum.elim (fun(we:kb)=>Ez we.1 we.2 (fun a0 a1=>some (a0,a1))) (fun(we:Unit)=>EA (fun a0 a1=>some (a0,a1))) e)
def Xi{R:Type}(a:aq)(b:Int)(c:Int->bS->Int->Int->aD->Option R):Option R:=
 c b a.2.1 ((List.length a.2.1):Int) 0 (0,0,0,bs [],[],())
def Es{R:Type}(a:Int)(b:bS)(c d:Int)(e:aD)(f:Bool->aD->Option R)(g:Int->bS->Int->Int->aD->Option R)(h:aD->Option R):Option R:=
 bif d<c then zd d (List.length b) (bif(List.getD b d.toNat (0,0,0,bs [],[],())).2.1=a then f true (List.getD b d.toNat (0,0,0,bs [],[],())) else g a b c (zW zI (d+1)) e) else h e
def Et{R:Type}(a:Bool)(b:aD)(c:aD->Bool->Option R):Option R:=
 c b a
def Eu{R:Type}(a:aD)(b:aD->Bool->Option R):Option R:=
 b (0,0,0,bs [],[],()) false
def R0:Nat->Int->bS->Int->Int->aD->Option (Sum (Bool×aD) aD)
 |0,_,_,_,_,_=>none
 |k+1,v0,v1,v2,v3,v4=>Es v0 v1 v2 v3 v4 (fun a0 a1=>some (.inl (a0,a1))) (fun a0 a1 a2 a3 a4=>R0 k a0 a1 a2 a3 a4) (fun a0=>some (.inr a0))
def oN(a:aq)(b:Int):Option (aD×Bool):=
 Xi a b (fun a0 a1 a2 a3 a4=>(R0 af a0 a1 a2 a3 a4).bind fun e=>Sum.elim (fun(we:(Bool×aD))=>Et we.1 we.2 (fun a0 a1=>some (a0,a1))) (fun(we:aD)=>Eu we (fun a0 a1=>some (a0,a1))) e)
def Xf{R:Type}(a:aq)(b c:ae)(d:aw)(e:aw->aT->Option R)(f:bS->Int->Int->aq->ae->aw->aw->aT->aw->Option R):Option R:=
 (rQ a b c).bind fun r1=>bif !decide (r1.1=0) then e (bs [],[],()) (1,(-1:Int),()) else(rJ b d).bind fun r2=>bif !decide (r2.1=0) then e (bs [],[],()) r2 else(uq a d.1).bind fun r3=>bif !r3.2 then e (bs [],[],()) (7,0,()) else f a.2.1 ((List.length a.2.1):Int) 0 a c d (bs [],[],()) (0,0,()) (r3.1,[],())
def Em{R:Type}(a:bS)(b c:Int)(d:aq)(e:ae)(f g:aw)(h:aT)(i:aw)(j:bS->Int->Int->aq->ae->aw->aw->aT->aw->Option R)(l:aq->ae->aw->aw->aT->aw->Option R):Option R:=
 bif c<b then zd c (List.length a) (bif(List.getD a c.toNat (0,0,0,bs [],[],())).1=3 then(iS i (List.getD a c.toNat (0,0,0,bs [],[],())).2.2.1 (List.getD a c.toNat (0,0,0,bs [],[],())).2.2.2.1).bind fun r4=>j a b (zW zI (c+1)) d e f g h r4 else j a b (zW zI (c+1)) d e f g h i) else l d e f g h i
def Xg{R:Type}(a:aq)(b:ae)(c d:aw)(e:aT)(f:aw)(g:ap->Int->Int->aq->ae->aw->aT->aw->Option R):Option R:=
 g c.2.1 ((List.length c.2.1):Int) 0 a b d e f
def En{R:Type}(a:ap)(b c:Int)(d:aq)(e:ae)(f:aw)(g:aT)(h:aw)(i:aw->aT->aw->Option R)(j:ap->Int->Int->aq->ae->aw->aT->aw->Option R)(l:aw->aT->aw->Option R):Option R:=
 bif c<b then zd c (List.length a) ((oN d (List.getD a c.toNat (0,bs [],())).1).bind fun r5=>bif !r5.2 then i (bs [],[],()) (9,(List.getD a c.toNat (0,bs [],())).1,()) h else(oJ r5.1 e (List.getD a c.toNat (0,bs [],())).2.1).bind fun r6=>bif !decide (r6.2=0) then i (bs [],[],()) (r6.2,(List.getD a c.toNat (0,bs [],())).1,()) h else bif !decide (r6.1.1=0) then(iS h r6.1.1 r6.1.2.1).bind fun r7=>j a b (zW zI (c+1)) d e f g r7 else j a b (zW zI (c+1)) d e f g h) else l f g h
def Eo{R:Type}(a:aw)(b:aT)(c:aw)(d:aw->aT->Option R):Option R:=
 d a b
def Ep{R:Type}(a:aw)(b:aT)(c:aw)(d:aw->aT->Option R):Option R:=
 d c (0,0,())
def RY:Nat->bS->Int->Int->aq->ae->aw->aw->aT->aw->Option (aq×ae×aw×aw×aT×aw)
 |0,_,_,_,_,_,_,_,_,_=>none
 |k+1,v0,v1,v2,v3,v4,v5,v6,v7,v8=>Em v0 v1 v2 v3 v4 v5 v6 v7 v8 (fun a0 a1 a2 a3 a4 a5 a6 a7 a8=>RY k a0 a1 a2 a3 a4 a5 a6 a7 a8) (fun a0 a1 a2 a3 a4 a5=>some (a0,a1,a2,a3,a4,a5))
def RZ:Nat->ap->Int->Int->aq->ae->aw->aT->aw->Option (Sum rU rU)
 |0,_,_,_,_,_,_,_,_=>none
 |k+1,v0,v1,v2,v3,v4,v5,v6,v7=>En v0 v1 v2 v3 v4 v5 v6 v7 (fun a0 a1 a2=>some (.inl (a0,a1,a2))) (fun a0 a1 a2 a3 a4 a5 a6 a7=>RZ k a0 a1 a2 a3 a4 a5 a6 a7) (fun a0 a1 a2=>some (.inr (a0,a1,a2)))
def rR(a:aq)(b c:ae)(d:aw):Option (aw×aT):=
 Xf a b c d (fun a0 a1=>some (a0,a1)) (fun a0 a1 a2 a3 a4 a5 a6 a7 a8=>(RY af a0 a1 a2 a3 a4 a5 a6 a7 a8).bind fun e=>Xg e.1 e.2.1 e.2.2.1 e.2.2.2.1 e.2.2.2.2.1 e.2.2.2.2.2 (fun a0 a1 a2 a3 a4 a5 a6 a7=>(RZ af a0 a1 a2 a3 a4 a5 a6 a7).bind fun e=>Sum.elim (fun(we:rU)=>Eo we.1 we.2.1 we.2.2 (fun a0 a1=>some (a0,a1))) (fun(we:rU)=>Ep we.1 we.2.1 we.2.2 (fun a0 a1=>some (a0,a1))) e))
def Wh{R:Type}(a:ar)(b:Int->Int->Int->Option R)(c:nv->Int->ar->Option R):Option R:=
 bif a.2.1<1 then b 5 2 0 else bif 65535<a.2.1 then b 5 2 0 else c a.1 0 a
def Ia{R:Type}(a:nv)(b:Int)(c:ar)(d:Int->Int->Int->Option R)(e:nv->Int->ar->Option R)(f:Option R):Option R:=
 bif b<2 then zd b 2 ((tW (List.getD a b.toNat ((0,0,[],()),([],[],()),[],[],()))).bind fun r1=>bif !decide (r1.1=0) then d r1.1 b 1 else zd (zW zI (1-b)) 2 ((rQ (List.getD a b.toNat ((0,0,[],()),([],[],()),[],[],())).2.1 (List.getD a b.toNat ((0,0,[],()),([],[],()),[],[],())).1 (List.getD c.1 (zW zI (1-b)).toNat ((0,0,[],()),([],[],()),[],[],())).1).bind fun r2=>bif !decide (r2.1=0) then d r2.1 b 2 else e a (zW zI (b+1)) c)) else f
def DH{R:Type}(a b c:Int)(d:Int->Int->Int->Option R):Option R:=
 d a b c
def DI{R:Type}(a:Int->Int->Int->Option R):Option R:=
 a 0 0 0
def GO:Nat->nv->Int->ar->Option (Sum jW Unit)
 |0,_,_,_=>none
 |k+1,v0,v1,v2=>Ia v0 v1 v2 (fun a0 a1 a2=>some (.inl (a0,a1,a2))) (fun a0 a1 a2=>GO k a0 a1 a2) (some (.inr ()))
def rO(a:ar):Option jW:=
 Wh a (fun a0 a1 a2=>some (a0,a1,a2)) (fun a0 a1 a2=>(GO af a0 a1 a2).bind fun e=>Sum.elim (fun(we:jW)=>DH we.1 we.2.1 we.2.2 (fun a0 a1 a2=>some (a0,a1,a2))) (fun(we:Unit)=>DI (fun a0 a1 a2=>some (a0,a1,a2))) e)
def Wj{R:Type}(a:aw)(b:aT)(c:au)(d:ar)(e:Int->ByteArray->Option R):Option R:=
 (tV c a b).bind fun r1=>bif !r1.2 then e 3 (bs []) else(oM c.1 r1.1).bind fun r2=>bif r2.1=bs [] then e 3 (bs []) else bif d.2.1<(r2.1.size:Int) then e 3 (bs []) else e 2 r2.1
def lp(a:aw)(b:aT)(c:au)(d:ar):Option Zt3:=
 Wj a b c d (fun a0 a1=>some (a0,a1))
def Wi{R:Type}(a:ar)(b:Int)(c:ByteArray)(d:Int->ByteArray->Option R):Option R:=
 (rO a).bind fun r1=>bif !decide (r1.1=0) then d 0 (bs []) else bif b<0 then d 0 (bs []) else bif 1<b then d 0 (bs []) else zd b 2 (zd (zW zI (1-b)) 2 ((rP (List.getD a.1 b.toNat ((0,0,[],()),([],[],()),[],[],())).1 c).bind fun r2=>bif !decide (r2.2.1=0) then(lp r2.1 r2.2 (List.getD a.1 b.toNat ((0,0,[],()),([],[],()),[],[],())) a).bind fun r3=>d r3.1 r3.2 else(rR (List.getD a.1 b.toNat ((0,0,[],()),([],[],()),[],[],())).2.1 (List.getD a.1 b.toNat ((0,0,[],()),([],[],()),[],[],())).1 (List.getD a.1 (zW zI (1-b)).toNat ((0,0,[],()),([],[],()),[],[],())).1 r2.1).bind fun r4=>bif !decide (r4.2.1=0) then(lp r2.1 r4.2 (List.getD a.1 b.toNat ((0,0,[],()),([],[],()),[],[],())) a).bind fun r5=>d r5.1 r5.2 else(oM (List.getD a.1 (zW zI (1-b)).toNat ((0,0,[],()),([],[],()),[],[],())).1 r4.1).bind fun r6=>bif a.2.1<(r6.1.size:Int) then(lp r2.1 (5,129,()) (List.getD a.1 b.toNat ((0,0,[],()),([],[],()),[],[],())) a).bind fun r7=>d r7.1 r7.2 else d 1 r6.1))
def ua(a:ar)(b:Int)(c:ByteArray):Option Zt3:=
 Wi a b c (fun a0 a1=>some (a0,a1))
def Y7{R:Type}(a:au)(b:bS->bS->Int->Int->au->au->Option R):Option R:=
 bif List.length a.1.2.2.1*40<=140737488355328 then bif List.length a.2.1.1*32<=140737488355328 then bif 0<=((List.length a.2.1.2.1):Int) then bif((List.length a.2.1.2.1):Int)*64<=140737488355328 then b [] a.2.1.2.1 ((List.length a.2.1.2.1):Int) 0 ((a.1.1,a.1.2.1,a.1.2.2.1,()),(a.2.1.1,a.2.1.2.1,()),a.2.2.1,a.2.2.2.1,()) ((0,0,[],()),([],[],()),[],[],()) else none else none else none else none
def Fs{R:Type}(a b:bS)(c d:Int)(e f:au)(g:bS->bS->Int->Int->au->au->Option R)(h:bS->au->au->Option R):Option R:=
 bif d<c then zd d (List.length b) (bif List.length (List.getD b d.toNat ((0:Int),(0:Int),(0:Int),bs [],([]:List dp),())).2.2.2.2.1*32<=140737488355328 then bif(List.length a+List.length ([((List.getD b d.toNat ((0:Int),(0:Int),(0:Int),bs [],([]:List dp),())).1,(List.getD b d.toNat ((0:Int),(0:Int),(0:Int),bs [],([]:List dp),())).2.1,(List.getD b d.toNat ((0:Int),(0:Int),(0:Int),bs [],([]:List dp),())).2.2.1,(List.getD b d.toNat ((0:Int),(0:Int),(0:Int),bs [],([]:List dp),())).2.2.2.1,(List.getD b d.toNat ((0:Int),(0:Int),(0:Int),bs [],([]:List dp),())).2.2.2.2.1,())]:List aD))*64<=140737488355328 then g (a++([((List.getD b d.toNat (0,0,0,bs [],[],())).1,(List.getD b d.toNat (0,0,0,bs [],[],())).2.1,(List.getD b d.toNat (0,0,0,bs [],[],())).2.2.1,(List.getD b d.toNat (0,0,0,bs [],[],())).2.2.2.1,(List.getD b d.toNat (0,0,0,bs [],[],())).2.2.2.2.1,())]:List aD)) b c (zW zI (d+1)) e f else none else none) else h a e f
def Y8{R:Type}(a:bS)(b c:au)(d:au->Option R):Option R:=
 bif List.length b.2.2.1*8<=140737488355328 then bif List.length b.2.2.2.1*24<=140737488355328 then d (b.1,(b.2.1.1,a,()),b.2.2.1,b.2.2.2.1,()) else none else none
def St:Nat->bS->bS->Int->Int->au->au->Option (bS×au×au)
 |0,_,_,_,_,_,_=>none
 |k+1,v0,v1,v2,v3,v4,v5=>Fs v0 v1 v2 v3 v4 v5 (fun a0 a1 a2 a3 a4 a5=>St k a0 a1 a2 a3 a4 a5) (fun a0 a1 a2=>some (a0,a1,a2))
def Jv(a:au):Option au:=
 Y7 a (fun a0 a1 a2 a3 a4 a5=>(St af a0 a1 a2 a3 a4 a5).bind fun e=>Y8 e.1 e.2.1 e.2.2 (fun a0=>some a0))
def Y4{R:Type}(a:ar)(b:Int->Option R)(c:Int->ar->(ar×(Option ah×Option ah)×Int)->Option R):Option R:=
 (rO a).bind fun r1=>bif !decide (r1.1=0) then b 1 else c 0 a (a,((none,none),0))
def Iv{R:Type}(a:Int)(b:ar)(c:(ar×(Option ah×Option ah)×Int))(d:Int->ar->(ar×(Option ah×Option ah)×Int)->Option R)(e:(ar×(Option ah×Option ah)×Int)->Option R):Option R:=
 bif a<2 then zd a 2 ((Jv (List.getD b.1 a.toNat ((0,0,[],()),([],[],()),[],[],()))).bind fun r2=>zd a 2 ((Jm b.2.1).bind fun r3=>Sum.elim (fun(s4:Int)=>zd a 2 (d (zW zI (a+1)) b ((List.set c.1.1 a.toNat r2,c.1.2.1,()),(gj a.toNat none c.2.1,c.2.2)))) (fun(s4:ux)=>zd a 2 (d (zW zI (a+1)) b ((List.set c.1.1 a.toNat r2,c.1.2.1,()),(gj a.toNat (some s4.2) c.2.1,c.2.2)))) r3)) else e c
def Fq{R:Type}(a:(ar×(Option ah×Option ah)×Int))(b:Int->(ar×(Option ah×Option ah)×Int)->Option R):Option R:=
 b 0 a
def G9:Nat->Int->ar->(ar×(Option ah×Option ah)×Int)->Option (ar×(Option ah×Option ah)×Int)
 |0,_,_,_=>none
 |k+1,v0,v1,v2=>Iv v0 v1 v2 (fun a0 a1 a2=>G9 k a0 a1 a2) (fun a0=>some a0)
def yZ(a:ar):Option (Sum Int (Int×(ar×(Option ah×Option ah)×Int))):=
 Y4 a (fun a0=>some (.inl a0)) (fun a0 a1 a2=>(G9 af a0 a1 a2).bind fun e=>Fq e (fun a0 a1=>some (.inr (a0,a1))))
def Y5{R:Type}(a:Int)(b:Bool->Option R):Option R:=
 bif a=0 then b true else b (decide (a=1))
def Cg(a:Int):Option Bool:=
 Y5 a (fun a0=>some a0)
def Y2{R:Type}(a:(ar×(Option ah×Option ah)×Int))(b:Int)(c:ByteArray)(d:mo->(ar×(Option ah×Option ah)×Int)->Option R):Option R:=
 (ua a.1 b c).bind fun r1=>bif r1.1=3 then d (b,r1.1,bs [],zW zI (a.2.2+1),()) (a.1,(a.2.1,zW zI (a.2.2+1))) else bif r1.1=1 then(Cf r1.2).bind fun r2=>d (zW zI (1-b),r1.1,r2.1,a.2.2,()) a else(Cf r1.2).bind fun r3=>d (b,r1.1,r3.1,a.2.2,()) a
def Hk(a:(ar×(Option ah×Option ah)×Int))(b:Int)(c:ByteArray):Option (mo×(ar×(Option ah×Option ah)×Int)):=
 Y2 a b c (fun a0 a1=>some (a0,a1))
def YZ{R:Type}(a:(ar×(Option ah×Option ah)×Int))(b:bd)(c:bY->(ar×(Option ah×Option ah)×Int)->Option R)(d:bY->Bool->(List ByteArray)->Int->Int->(ar×(Option ah×Option ah)×Int)->bd->Option R):Option R:=
 (Cg b.1).bind fun r1=>bif !r1 then c [] a else zd b.1 2 ((getM b.1.toNat a.2.1).bind fun m2=>(Ce m2 b.2.1).bind fun r3=>d [] r3.2.1 r3.1 ((List.length r3.1):Int) 0 (a.1,(gj b.1.toNat (some r3.2.2) a.2.1,a.2.2)) b)
def Fl{R:Type}(a:bY)(b:Bool)(c:(List ByteArray))(d e:Int)(f:(ar×(Option ah×Option ah)×Int))(g:bd)(h:bY->Bool->(List ByteArray)->Int->Int->(ar×(Option ah×Option ah)×Int)->bd->Option R)(i:bY->Bool->(ar×(Option ah×Option ah)×Int)->bd->Option R):Option R:=
 bif e<d then zd e (List.length c) ((Hk f g.1 (List.getD c e.toNat (bs []))).bind fun r4=>bif(List.length a+List.length ([r4.1]:List mo))*40<=140737488355328 then h (a++([r4.1]:List mo)) b c d (zW zI (e+1)) r4.2 g else none) else i a b f g
def Sr{R:Type}(a:bY)(b:Bool)(c:(ar×(Option ah×Option ah)×Int))(d:bd)(e:bY->(ar×(Option ah×Option ah)×Int)->Option R):Option R:=
 bif b then bif(List.length a+List.length ([(d.1,(4:Int),bs [],c.2.2,())]:List mo))*40<=140737488355328 then e (a++([(d.1,4,bs [],c.2.2,())]:List mo)) c else none else e a c
def Iu:Nat->bY->Bool->(List ByteArray)->Int->Int->(ar×(Option ah×Option ah)×Int)->bd->Option (bY×Bool×(ar×(Option ah×Option ah)×Int)×bd)
 |0,_,_,_,_,_,_,_=>none
 |k+1,v0,v1,v2,v3,v4,v5,v6=>Fl v0 v1 v2 v3 v4 v5 v6 (fun a0 a1 a2 a3 a4 a5 a6=>Iu k a0 a1 a2 a3 a4 a5 a6) (fun a0 a1 a2 a3=>some (a0,a1,a2,a3))
def Hj(a:(ar×(Option ah×Option ah)×Int))(b:bd):Option (bY×(ar×(Option ah×Option ah)×Int)):=
 YZ a b (fun a0 a1=>some (a0,a1)) (fun a0 a1 a2 a3 a4 a5 a6=>(Iu af a0 a1 a2 a3 a4 a5 a6).bind fun e=>Sr e.1 e.2.1 e.2.2.1 e.2.2.2 (fun a0 a1=>some (a0,a1)))
def Y1{R:Type}(a:(ar×(Option ah×Option ah)×Int))(b:ap)(c:bY->ap->Int->Int->(ar×(Option ah×Option ah)×Int)->Option R):Option R:=
 c [] b ((List.length b):Int) 0 a
def Fo{R:Type}(a:bY)(b:ap)(c d:Int)(e:(ar×(Option ah×Option ah)×Int))(f:bY->ap->Int->Int->(ar×(Option ah×Option ah)×Int)->Option R)(g:bY->(ar×(Option ah×Option ah)×Int)->Option R):Option R:=
 bif d<c then zd d (List.length b) ((Hj e (List.getD b d.toNat (0,bs [],()))).bind fun r1=>bif(List.length a+List.length r1.1)*40<=140737488355328 then f (a++r1.1) b c (zW zI (d+1)) r1.2 else none) else g a e
def Fp{R:Type}(a:bY)(b:(ar×(Option ah×Option ah)×Int))(c:bY->(ar×(Option ah×Option ah)×Int)->Option R):Option R:=
 c a b
def Ss:Nat->bY->ap->Int->Int->(ar×(Option ah×Option ah)×Int)->Option (bY×(ar×(Option ah×Option ah)×Int))
 |0,_,_,_,_,_=>none
 |k+1,v0,v1,v2,v3,v4=>Fo v0 v1 v2 v3 v4 (fun a0 a1 a2 a3 a4=>Ss k a0 a1 a2 a3 a4) (fun a0 a1=>some (a0,a1))
def yY(a:(ar×(Option ah×Option ah)×Int))(b:ap):Option (bY×(ar×(Option ah×Option ah)×Int)):=
 Y1 a b (fun a0 a1 a2 a3 a4=>(Ss af a0 a1 a2 a3 a4).bind fun e=>Fp e.1 e.2 (fun a0 a1=>some (a0,a1)))
def Fk{R:Type}(a:(ar×(Option ah×Option ah)×Int))(b:Int->(ar×(Option ah×Option ah)×Int)->Option R):Option R:=
 b a.2.2 a
def SZ(a:(ar×(Option ah×Option ah)×Int)):Option (Int×(ar×(Option ah×Option ah)×Int)):=
 Fk a (fun a0 a1=>some (a0,a1))
def Fj{R:Type}(a:(ar×(Option ah×Option ah)×Int))(b:Int)(c:Bool->(ar×(Option ah×Option ah)×Int)->Option R):Option R:=
 (Cg b).bind fun r1=>bif r1 then zd b 2 ((getM b.toNat a.2.1).bind fun m2=>(ZY m2).bind fun r3=>c r3.1 (a.1,(gj b.toNat (some r3.2) a.2.1,a.2.2))) else c false a
def Hi(a:(ar×(Option ah×Option ah)×Int))(b:Int):Option (Bool×(ar×(Option ah×Option ah)×Int)):=
 Fj a b (fun a0 a1=>some (a0,a1))
def Fm{R:Type}(a:(ar×(Option ah×Option ah)×Int))(b:Int)(c:Int->(ar×(Option ah×Option ah)×Int)->Option R):Option R:=
 (Cg b).bind fun r1=>bif !r1 then c 0 a else zd b 2 ((getM b.toNat a.2.1).bind fun m2=>(ZZ m2).bind fun r3=>c r3.1 (a.1,(gj b.toNat (some r3.2) a.2.1,a.2.2)))
def S0(a:(ar×(Option ah×Option ah)×Int))(b:Int):Option (Int×(ar×(Option ah×Option ah)×Int)):=
 Fm a b (fun a0 a1=>some (a0,a1))
def FW{R:Type}(a:(List Int)->Option R):Option R:=
 a ([2,3,4,7,11,12,14,23,32,35,37,38,41,42,49,52,55,64,70,102,128]:List Int)
def Z3:Option (List Int):=
 FW (fun a0=>some a0)
def F0{R:Type}(a:xF->Option R):Option R:=
 a ([([2,1,2,12,19,1,2,12,19]:List Int),([3,1,1,6,6,1,1,6,6]:List Int),([4,1,1,12,12,1,1,12,12]:List Int),([7,1,1,10,10,1,1,10,10]:List Int),([11,1,1,6,6,1,1,6,6]:List Int),([12,1,1,6,6,1,1,12,12]:List Int),([13,1,1,4,4,0,0,0,0]:List Int),([14,1,1,4,4,1,1,4,4]:List Int),([18,1,1,4,4,0,0,0,0]:List Int),([22,1,1,3,3,3,1,12,12]:List Int),([23,1,1,3,3,1,1,3,3]:List Int),([26,0,0,0,0,1,1,4,4]:List Int),([32,1,2,1,11,1,2,1,11]:List Int),([35,4,2,1,37,4,2,1,37]:List Int),([37,3,1,12,12,3,1,12,12]:List Int),([38,3,1,6,6,3,1,6,6]:List Int),([39,3,1,2,2,1,1,3,3]:List Int),([41,4,1,8,8,4,1,8,8]:List Int),([42,4,1,15,15,4,1,15,15]:List Int),([43,4,1,40,40,4,2,1,99]:List Int),([48,4,3,1,999,4,3,1,999]:List Int),([49,1,1,3,3,1,1,3,3]:List Int),([52,5,1,8,8,5,1,8,8]:List Int),([55,6,3,1,255,6,3,1,255]:List Int),([64,5,1,8,8,5,1,8,8]:List Int),([70,1,1,3,3,1,1,3,3]:List Int),([90,1,1,42,42,0,0,0,0]:List Int),([102,4,2,1,28,4,2,1,28]:List Int),([128,5,1,8,8,5,1,8,8]:List Int)]:List (List Int))
def Z4:Option xF:=
 F0 (fun a0=>some a0)
def FX{R:Type}(a:Int)(b:Int->xF->Int->ae->ae->Option R):Option R:=
 Z4.bind fun r1=>b a r1 0 (0,0,[],()) (zW zI (a+1),a,[],())
def FY{R:Type}(a:Int)(b:xF)(c:Int)(d e:ae)(f:Int->xF->Int->ae->ae->Option R)(g:ae->ae->Option R):Option R:=
 bif c<((List.length b):Int) then zd c (List.length b) (bif 0<=zW zI (5+zW zI (4*a)) then bif zW zI (5+zW zI (4*a))<=(((List.length (List.getD b c.toNat ([]:List Int))):Nat):Int) then bif 0<=zW zI (1+zW zI (4*a)) then bif zW zI (1+zW zI (4*a))<=(((zW zI (5+zW zI (4*a))).toNat:Nat):Int) then zd 0 (List.length (List.drop (zW zI ((1:Int)+zW zI ((4:Int)*a))).toNat (List.take (zW zI ((5:Int)+zW zI ((4:Int)*a))).toNat (List.getD b c.toNat ([]:List Int))))) (bif 0<List.getD (List.drop (zW zI (1+zW zI (4*a))).toNat (List.take (zW zI (5+zW zI (4*a))).toNat (List.getD b c.toNat []))) ((0:Int)).toNat 0 then zd c (List.length b) (zd 0 (List.length (List.getD b c.toNat ([]:List Int))) (zd 0 (List.length (List.drop (zW zI ((1:Int)+zW zI ((4:Int)*a))).toNat (List.take (zW zI ((5:Int)+zW zI ((4:Int)*a))).toNat (List.getD b c.toNat ([]:List Int))))) (zd 1 (List.length (List.drop (zW zI ((1:Int)+zW zI ((4:Int)*a))).toNat (List.take (zW zI ((5:Int)+zW zI ((4:Int)*a))).toNat (List.getD b c.toNat ([]:List Int))))) (zd 2 (List.length (List.drop (zW zI ((1:Int)+zW zI ((4:Int)*a))).toNat (List.take (zW zI ((5:Int)+zW zI ((4:Int)*a))).toNat (List.getD b c.toNat ([]:List Int))))) (zd 3 (List.length (List.drop (zW zI ((1:Int)+zW zI ((4:Int)*a))).toNat (List.take (zW zI ((5:Int)+zW zI ((4:Int)*a))).toNat (List.getD b c.toNat ([]:List Int))))) (bif(List.length e.2.2.1+List.length ([(List.getD (List.getD b c.toNat ([]:List Int)) ((0:Int)).toNat (0:Int),List.getD (List.drop (zW zI ((1:Int)+zW zI ((4:Int)*a))).toNat (List.take (zW zI ((5:Int)+zW zI ((4:Int)*a))).toNat (List.getD b c.toNat ([]:List Int)))) ((0:Int)).toNat (0:Int),List.getD (List.drop (zW zI ((1:Int)+zW zI ((4:Int)*a))).toNat (List.take (zW zI ((5:Int)+zW zI ((4:Int)*a))).toNat (List.getD b c.toNat ([]:List Int)))) ((1:Int)).toNat (0:Int),List.getD (List.drop (zW zI ((1:Int)+zW zI ((4:Int)*a))).toNat (List.take (zW zI ((5:Int)+zW zI ((4:Int)*a))).toNat (List.getD b c.toNat ([]:List Int)))) ((2:Int)).toNat (0:Int),List.getD (List.drop (zW zI ((1:Int)+zW zI ((4:Int)*a))).toNat (List.take (zW zI ((5:Int)+zW zI ((4:Int)*a))).toNat (List.getD b c.toNat ([]:List Int)))) ((3:Int)).toNat (0:Int),())]:List aW))*40<=140737488355328 then f a b (zW zI (c+1)) d (e.1,e.2.1,e.2.2.1++([(List.getD (List.getD b c.toNat []) ((0:Int)).toNat 0,List.getD (List.drop (zW zI (1+zW zI (4*a))).toNat (List.take (zW zI (5+zW zI (4*a))).toNat (List.getD b c.toNat []))) ((0:Int)).toNat 0,List.getD (List.drop (zW zI (1+zW zI (4*a))).toNat (List.take (zW zI (5+zW zI (4*a))).toNat (List.getD b c.toNat []))) ((1:Int)).toNat 0,List.getD (List.drop (zW zI (1+zW zI (4*a))).toNat (List.take (zW zI (5+zW zI (4*a))).toNat (List.getD b c.toNat []))) ((2:Int)).toNat 0,List.getD (List.drop (zW zI (1+zW zI (4*a))).toNat (List.take (zW zI (5+zW zI (4*a))).toNat (List.getD b c.toNat []))) ((3:Int)).toNat 0,())]:List aW),()) else none)))))) else f a b (zW zI (c+1)) d e) else none else none else none else none) else g d e
def FZ{R:Type}(a b:ae)(c:ae->Option R):Option R:=
 c b
def ZF:Nat->Int->xF->Int->ae->ae->Option (ae×ae)
 |0,_,_,_,_,_=>none
 |k+1,v0,v1,v2,v3,v4=>FY v0 v1 v2 v3 v4 (fun a0 a1 a2 a3 a4=>ZF k a0 a1 a2 a3 a4) (fun a0 a1=>some (a0,a1))
def S1(a:Int):Option ae:=
 FX a (fun a0 a1 a2 a3 a4=>(ZF af a0 a1 a2 a3 a4).bind fun e=>FZ e.1 e.2 (fun a0=>some a0))
def Zh{R:Type}(a:Int)(b:Bool->Option R):Option R:=
 bif 48<=a then b (decide (a<=57)) else b false
def Jz(a:Int):Option Bool:=
 Zh a (fun a0=>some a0)
def Zf{R:Type}(a:ByteArray)(b:ByteArray->Int->Option R):Option R:=
 b a 0
def Zg{R:Type}(a:ByteArray)(b:Int)(c:Bool->Option R)(d:ByteArray->Int->Option R)(e:Option R):Option R:=
 bif b<(a.size:Int) then zd b a.size ((Jz (ze a b.toNat)).bind fun r1=>bif !r1 then c false else d a (zW zI (b+1))) else e
def z175{R:Type}(a:Bool)(b:Bool->Option R):Option R:=
 b a
def Fx{R:Type}(a:Bool->Option R):Option R:=
 a true
def Iw:Nat->ByteArray->Int->Option (Sum Bool Unit)
 |0,_,_=>none
 |k+1,v0,v1=>Zg v0 v1 (fun a0=>some (.inl a0)) (fun a0 a1=>Iw k a0 a1) (some (.inr ()))
def Hm(a:ByteArray):Option Bool:=
 Zf a (fun a0 a1=>(Iw af a0 a1).bind fun e=>Sum.elim (fun(we:Bool)=>z175 we (fun a0=>some a0)) (fun(we:Unit)=>Fx (fun a0=>some a0)) e)
def Zj{R:Type}(a:ByteArray)(b:Int->Bool->Option R)(c:ByteArray->Int->Int->Option R):Option R:=
 bif(a.size:Int)<1 then b 0 false else bif 18<(a.size:Int) then b 0 false else(Hm a).bind fun r1=>bif !r1 then b 0 false else c a 0 0
def Zk{R:Type}(a:ByteArray)(b c:Int)(d:ByteArray->Int->Int->Option R)(e:Int->Option R):Option R:=
 bif c<(a.size:Int) then zd c a.size (d a (zW zI (zW zI (zW zI (10*b)+zW zI (ze a c.toNat))-48)) (zW zI (c+1))) else e b
def Fy{R:Type}(a:Int)(b:Int->Bool->Option R):Option R:=
 b a true
def Ix:Nat->ByteArray->Int->Int->Option Int
 |0,_,_,_=>none
 |k+1,v0,v1,v2=>Zk v0 v1 v2 (fun a0 a1 a2=>Ix k a0 a1 a2) (fun a0=>some a0)
def JB(a:ByteArray):Option (Int×Bool):=
 Zj a (fun a0 a1=>some (a0,a1)) (fun a0 a1 a2=>(Ix af a0 a1 a2).bind fun e=>Fy e (fun a0 a1=>some (a0,a1)))
def Zs{R:Type}(a:(List Int))(b:Int)(c:(List Int)->Int->Int->Option R):Option R:=
 c a b 0
def Sx{R:Type}(a:(List Int))(b c:Int)(d:Bool->Option R)(e:(List Int)->Int->Int->Option R)(f:Option R):Option R:=
 bif c<((List.length a):Int) then zd c (List.length a) (bif List.getD a c.toNat 0=b then d true else e a b (zW zI (c+1))) else f
def FH{R:Type}(a:Bool)(b:Bool->Option R):Option R:=
 b a
def FI{R:Type}(a:Bool->Option R):Option R:=
 a false
def Hb:Nat->(List Int)->Int->Int->Option (Sum Bool Unit)
 |0,_,_,_=>none
 |k+1,v0,v1,v2=>Sx v0 v1 v2 (fun a0=>some (.inl a0)) (fun a0 a1 a2=>Hb k a0 a1 a2) (some (.inr ()))
def JE(a:(List Int))(b:Int):Option Bool:=
 Zs a b (fun a0 a1 a2=>(Hb af a0 a1 a2).bind fun e=>Sum.elim (fun(we:Bool)=>FH we (fun a0=>some a0)) (fun(we:Unit)=>FI (fun a0=>some a0)) e)
def Zn{R:Type}(a b:Int)(c:Bool->Option R):Option R:=
 bif 48<=b then bif 65<=b then bif b<=90 then bif a=1 then c (decide (b<=57)) else bif a=2 then c true else bif a=3 then bif b<=57 then c true else c true else bif a=4 then bif 32<=b then c (decide (b<=126)) else c false else bif a=5 then c true else c (decide (a=6)) else bif 97<=b then bif a=1 then c (decide (b<=57)) else bif a=2 then c (decide (b<=122)) else bif a=3 then bif b<=57 then c true else c (decide (b<=122)) else bif a=4 then bif 32<=b then c (decide (b<=126)) else c false else bif a=5 then c true else c (decide (a=6)) else bif a=1 then c (decide (b<=57)) else bif a=2 then c false else bif a=3 then bif b<=57 then c true else c false else bif a=4 then bif 32<=b then c (decide (b<=126)) else c false else bif a=5 then c true else c (decide (a=6)) else bif 97<=b then bif a=1 then c (decide (b<=57)) else bif a=2 then c (decide (b<=122)) else bif a=3 then bif b<=57 then c true else c (decide (b<=122)) else bif a=4 then bif 32<=b then c (decide (b<=126)) else c false else bif a=5 then c true else c (decide (a=6)) else bif a=1 then c (decide (b<=57)) else bif a=2 then c false else bif a=3 then bif b<=57 then c true else c false else bif a=4 then bif 32<=b then c (decide (b<=126)) else c false else bif a=5 then c true else c (decide (a=6)) else bif 65<=b then bif b<=90 then bif a=1 then c false else bif a=2 then c true else bif a=3 then c true else bif a=4 then bif 32<=b then c (decide (b<=126)) else c false else bif a=5 then c true else c (decide (a=6)) else bif 97<=b then bif a=1 then c false else bif a=2 then c (decide (b<=122)) else bif a=3 then c (decide (b<=122)) else bif a=4 then bif 32<=b then c (decide (b<=126)) else c false else bif a=5 then c true else c (decide (a=6)) else bif a=1 then c false else bif a=2 then c false else bif a=3 then c false else bif a=4 then bif 32<=b then c (decide (b<=126)) else c false else bif a=5 then c true else c (decide (a=6)) else bif 97<=b then bif a=1 then c false else bif a=2 then c (decide (b<=122)) else bif a=3 then c (decide (b<=122)) else bif a=4 then bif 32<=b then c (decide (b<=126)) else c false else bif a=5 then c true else c (decide (a=6)) else bif a=1 then c false else bif a=2 then c false else bif a=3 then c false else bif a=4 then bif 32<=b then c (decide (b<=126)) else c false else bif a=5 then c true else c (decide (a=6))
def zA(a b:Int):Option Bool:=
 Zn a b (fun a0=>some a0)
def Zm{R:Type}(a:Int)(b:ByteArray)(c:Int->ByteArray->Int->Option R):Option R:=
 c a b 0
def Sw{R:Type}(a:Int)(b:ByteArray)(c:Int)(d:Int->Option R)(e:Int->ByteArray->Int->Option R)(f:Option R):Option R:=
 bif c<(b.size:Int) then zd c b.size ((zA a (ze b c.toNat)).bind fun r1=>bif !r1 then d c else e a b (zW zI (c+1))) else f
def FA{R:Type}(a:Int)(b:Int->Option R):Option R:=
 b a
def FB{R:Type}(a:Int->Option R):Option R:=
 a (-1:Int)
def Ha:Nat->Int->ByteArray->Int->Option (Sum Int Unit)
 |0,_,_,_=>none
 |k+1,v0,v1,v2=>Sw v0 v1 v2 (fun a0=>some (.inl a0)) (fun a0 a1 a2=>Ha k a0 a1 a2) (some (.inr ()))
def JC(a:Int)(b:ByteArray):Option Int:=
 Zm a b (fun a0 a1 a2=>(Ha af a0 a1 a2).bind fun e=>Sum.elim (fun(we:Int)=>FA we (fun a0=>some a0)) (fun(we:Unit)=>FB (fun a0=>some a0)) e)
def Zq{R:Type}(a b:Int)(c:Bool->Option R)(d:Int->Int->Int->Option R):Option R:=
 bif a<1 then c false else bif 6<a then c false else bif b<1 then c false else bif 6<b then c false else d a b 0
def FD{R:Type}(a b c:Int)(d:Bool->Option R)(e:Int->Int->Int->Option R)(f:Option R):Option R:=
 bif c<256 then(zA b (zW zU c)).bind fun r1=>bif r1 then(zA a (zW zU c)).bind fun r2=>bif !r2 then d false else e a b (zW zI (c+1)) else e a b (zW zI (c+1)) else f
def FE{R:Type}(a:Bool)(b:Bool->Option R):Option R:=
 b a
def FF{R:Type}(a:Bool->Option R):Option R:=
 a true
def Zp:Nat->Int->Int->Int->Option (Sum Bool Unit)
 |0,_,_,_=>none
 |k+1,v0,v1,v2=>FD v0 v1 v2 (fun a0=>some (.inl a0)) (fun a0 a1 a2=>Zp k a0 a1 a2) (some (.inr ()))
def Hn(a b:Int):Option Bool:=
 Zq a b (fun a0=>some a0) (fun a0 a1 a2=>(Zp af a0 a1 a2).bind fun e=>Sum.elim (fun(we:Bool)=>FE we (fun a0=>some a0)) (fun(we:Unit)=>FF (fun a0=>some a0)) e)
def FJ{R:Type}(a:Int)(b:Int->Option R):Option R:=
 bif a=0 then b 0 else bif Int.tmod (zW zU (Int.tdiv a 32)) 2=1 then b 0 else bif Int.tmod a 32=31 then b 2 else b 1
def zE(a:Int):Option Int:=
 FJ a (fun a0=>some a0)
def Sy{R:Type}(a:ByteArray)(b:Int)(c:Int->Int->Int->Option R):Option R:=
 bif b<0 then c 0 0 1 else bif(a.size:Int)<b then c 0 0 1 else bif b=(a.size:Int) then c 0 0 2 else zd b a.size ((zE (ze a b.toNat)).bind fun r1=>bif r1=0 then c 0 0 13 else bif r1=1 then zd b a.size (c (zW zI (ze a b.toNat)) (zW zI (b+1)) 0) else bif zW zI ((a.size:Int)-b)<2 then c 0 0 2 else zd (zW zI (b+1)) a.size (bif ze a (zW zI (b+(1:Int))).toNat=0 then c 0 0 13 else zd (zW zI (b+1)) a.size (bif 127<ze a (zW zI (b+(1:Int))).toNat then c 0 0 13 else zd b a.size (zd (zW zI (b+1)) a.size (c (zW zI (zW zI (256*zW zI (ze a b.toNat))+zW zI (ze a (zW zI (b+(1:Int))).toNat))) (zW zI (b+2)) 0)))))
def zG(a:ByteArray)(b:Int):Option jW:=
 Sy a b (fun a0 a1 a2=>some (a0,a1,a2))
def Sz{R:Type}(a:ByteArray)(b:Int)(c:Int->Int->Int->Option R):Option R:=
 bif b<0 then c 0 0 1 else bif(a.size:Int)<b then c 0 0 1 else bif b=(a.size:Int) then c 0 0 2 else zd b a.size (bif zW zI (ze a b.toNat)<128 then c (zW zI (ze a b.toNat)) (zW zI (b+1)) 0 else bif !decide (zW zI (ze a b.toNat)=129) then bif !decide (zW zI (ze a b.toNat)=130) then c 0 0 14 else bif zW zI ((a.size:Int)-b)<zW zI (zW zI (ze a b.toNat)-127) then c 0 0 2 else bif zW zI (ze a b.toNat)=129 then zd (zW zI (b+1)) a.size (bif ze a (zW zI (b+(1:Int))).toNat<128 then c 0 0 14 else zd (zW zI (b+1)) a.size (c (zW zI (ze a (zW zI (b+(1:Int))).toNat)) (zW zI (b+2)) 0)) else zd (zW zI (b+1)) a.size (bif ze a (zW zI (b+(1:Int))).toNat=0 then c 0 0 14 else zd (zW zI (b+1)) a.size (zd (zW zI (b+2)) a.size (c (zW zI (zW zI (256*zW zI (ze a (zW zI (b+(1:Int))).toNat))+zW zI (ze a (zW zI (b+(2:Int))).toNat))) (zW zI (b+3)) 0))) else bif zW zI ((a.size:Int)-b)<zW zI (zW zI (ze a b.toNat)-127) then c 0 0 2 else bif zW zI (ze a b.toNat)=129 then zd (zW zI (b+1)) a.size (bif ze a (zW zI (b+(1:Int))).toNat<128 then c 0 0 14 else zd (zW zI (b+1)) a.size (c (zW zI (ze a (zW zI (b+(1:Int))).toNat)) (zW zI (b+2)) 0)) else zd (zW zI (b+1)) a.size (bif ze a (zW zI (b+(1:Int))).toNat=0 then c 0 0 14 else zd (zW zI (b+1)) a.size (zd (zW zI (b+2)) a.size (c (zW zI (zW zI (256*zW zI (ze a (zW zI (b+(1:Int))).toNat))+zW zI (ze a (zW zI (b+(2:Int))).toNat))) (zW zI (b+3)) 0))))
def zH(a:ByteArray)(b:Int):Option jW:=
 Sz a b (fun a0 a1 a2=>some (a0,a1,a2))
def Zv{R:Type}(a:ap)(b c:Int)(d:ap->Int->Int->Int->Option R):Option R:=
 d a b c 0
def SC{R:Type}(a:ap)(b c d:Int)(e:Bool->Option R)(f:ap->Int->Int->Int->Option R)(g:Option R):Option R:=
 bif d<b then zd d (List.length a) (bif(List.getD a d.toNat (0,bs [],())).1=c then e true else f a b c (zW zI (d+1))) else g
def FO{R:Type}(a:Bool)(b:Bool->Option R):Option R:=
 b a
def FP{R:Type}(a:Bool->Option R):Option R:=
 a false
def Hc:Nat->ap->Int->Int->Int->Option (Sum Bool Unit)
 |0,_,_,_,_=>none
 |k+1,v0,v1,v2,v3=>SC v0 v1 v2 v3 (fun a0=>some (.inl a0)) (fun a0 a1 a2 a3=>Hc k a0 a1 a2 a3) (some (.inr ()))
def JJ(a:ap)(b c:Int):Option Bool:=
 Zv a b c (fun a0 a1 a2 a3=>(Hc af a0 a1 a2 a3).bind fun e=>Sum.elim (fun(we:Bool)=>FO we (fun a0=>some a0)) (fun(we:Unit)=>FP (fun a0=>some a0)) e)
def SA{R:Type}(a:ByteArray)(b:ByteArray->ap->Int->Option R):Option R:=
 b a [] 0
def SB{R:Type}(a:ByteArray)(b:ap)(c:Int)(d:ap->Int->Int->ap->Option R)(e:ByteArray->ap->Int->Option R)(f:ap->Option R):Option R:=
 bif c<(a.size:Int) then(zG a c).bind fun r1=>bif !decide (r1.2.2=0) then d [] r1.2.2 c b else(zH a r1.2.1).bind fun r2=>bif !decide (r2.2.2=0) then d [] r2.2.2 r1.2.1 b else bif zW zI ((a.size:Int)-r2.2.1)<r2.1 then d [] 2 (a.size:Int) b else(JJ b ((List.length b):Int) r1.1).bind fun r3=>bif r3 then d [] 10 c b else bif 0<=zW zI (r2.2.1+r2.1) then bif zW zI (r2.2.1+r2.1)<=(a.size:Int) then bif 0<=r2.2.1 then bif r2.2.1<=(((zW zI (r2.2.1+r2.1)).toNat:Nat):Int) then bif(List.length b+List.length ([(r1.1,a.extract r2.2.1.toNat (zW zI (r2.2.1+r2.1)).toNat,())]:List bd))*24<=140737488355328 then e a (b++([(r1.1,a.extract r2.2.1.toNat (zW zI (r2.2.1+r2.1)).toNat,())]:List bd)) (zW zI (r2.2.1+r2.1)) else none else none else none else none else none else f b
def FL{R:Type}(a:ap)(b c:Int)(d:ap)(e:ap->Int->Int->Option R):Option R:=
 e a b c
def FM{R:Type}(a:ap)(b:ap->Int->Int->Option R):Option R:=
 b a 0 0
def B3:Nat->ByteArray->ap->Int->Option (Sum rT ap)
 |0,_,_,_=>none
 |k+1,v0,v1,v2=>SB v0 v1 v2 (fun a0 a1 a2 a3=>some (.inl (a0,a1,a2,a3))) (fun a0 a1 a2=>B3 k a0 a1 a2) (fun a0=>some (.inr a0))
def zJ(a:ByteArray):Option (Sum jX jX):=
 SA a (fun a0 a1 a2=>(B3 af a0 a1 a2).bind fun e=>Sum.elim (fun(we:rT)=>FL we.1 we.2.1 we.2.2.1 we.2.2.2 (fun a0 a1 a2=>some (.inl (a0,a1,a2)))) (fun(we:ap)=>FM we (fun a0 a1 a2=>some (.inr (a0,a1,a2)))) e)
def Zw{R:Type}(a:aW)(b:Int->Option R):Option R:=
 bif a.1<2 then b 1 else bif 128<a.1 then b 1 else bif a.2.1<1 then b 6 else bif 6<a.2.1 then b 6 else bif a.2.2.1<1 then b 3 else bif 3<a.2.2.1 then b 3 else bif a.2.2.1=2 then bif a.2.2.2.1<1 then b 5 else bif a.2.2.2.2.1<a.2.2.2.1 then b 5 else bif 99<a.2.2.2.2.1 then b 5 else bif a.2.2.1=1 then bif !decide (a.2.2.2.1=a.2.2.2.2.1) then b 5 else bif a.2.2.1=1 then bif a.2.1=6 then b 13 else b 0 else b 0 else bif a.2.2.1=1 then bif a.2.1=6 then b 13 else b 0 else b 0 else bif a.2.2.2.1<1 then b 5 else bif a.2.2.2.2.1<a.2.2.2.1 then b 5 else bif 999<a.2.2.2.2.1 then b 5 else bif a.2.2.1=1 then bif !decide (a.2.2.2.1=a.2.2.2.2.1) then b 5 else bif a.2.2.1=1 then bif a.2.1=6 then b 13 else b 0 else b 0 else bif a.2.2.1=1 then bif a.2.1=6 then b 13 else b 0 else b 0
def zK(a:aW):Option Int:=
 Zw a (fun a0=>some a0)
def Iy{R:Type}(a:aW)(b:ByteArray)(c:Int->Option R):Option R:=
 (zK a).bind fun r1=>bif !decide (r1=0) then c 1 else bif(b.size:Int)<a.2.2.2.1 then c 5 else bif a.2.2.2.2.1<(b.size:Int) then c 5 else(JC a.2.1 b).bind fun r2=>bif 0<=r2 then c 6 else bif a.2.1=6 then(zJ b).bind fun r3=>Sum.elim (fun(s4:jX)=>bif !decide (s4.2.1=0) then c 13 else c 0) (fun(s4:jX)=>bif !decide (s4.2.1=0) then c 13 else c 0) r3 else c 0
def np(a:aW)(b:ByteArray):Option Int:=
 Iy a b (fun a0=>some a0)
def Iz{R:Type}(a b:aW)(c:Bool->Option R):Option R:=
 (zK a).bind fun r1=>bif !decide (r1=0) then c false else(zK b).bind fun r2=>bif !decide (r2=0) then c false else bif b.2.2.2.1<a.2.2.2.1 then c false else bif a.2.2.2.2.1<b.2.2.2.2.1 then c false else bif a.2.1=5 then c true else bif a.2.1=6 then c (decide (a.2.1=b.2.1)) else bif b.2.1=6 then c (decide (a.2.1=b.2.1)) else(Hn a.2.1 b.2.1).bind fun r3=>c r3
def vM(a b:aW):Option Bool:=
 Iz a b (fun a0=>some a0)
def ZA{R:Type}(a:ae)(b:ae->Option R):Option R:=
 bif(List.length ([]:List aW)+List.length a.2.2.1)*40<=140737488355328 then b (a.1,a.2.1,[]++a.2.2.1,()) else none
def JP(a:ae):Option ae:=
 ZA a (fun a0=>some a0)
def IA{R:Type}(a:ae)(b:Int->Int->Option R)(c:Int->Int->ae->Option R):Option R:=
 bif !decide (a.1=1) then bif !decide (a.1=2) then b 1 (-1:Int) else bif a.2.1<0 then b 7 (-1:Int) else bif 9<a.2.1 then b 7 (-1:Int) else c 0 0 a else bif a.2.1<0 then b 7 (-1:Int) else bif 9<a.2.1 then b 7 (-1:Int) else c 0 0 a
theorem ac4{R S:Type}(F:R->Option S)(a)(b)(c):(IA a b c).bind F=IA a (fun a0 a1=>(b a0 a1).bind F) (fun a0 a1 a2=>(c a0 a1 a2).bind F):=by
 simp only[IA,aC]
def SD{R:Type}(a b:Int)(c:ae)(d:Int->Int->Option R)(e:Int->Int->ae->Option R)(f:Option R):Option R:=
 bif b<((List.length c.2.2.1):Int) then zd b (List.length c.2.2.1) ((zK (List.getD c.2.2.1 b.toNat (0,0,0,0,0,()))).bind fun r1=>bif !decide (r1=0) then d r1 b else zd b (List.length c.2.2.1) (bif(List.getD c.2.2.1 b.toNat (0,0,0,0,0,())).1<=a then d 11 b else zd b (List.length c.2.2.1) (e (List.getD c.2.2.1 b.toNat (0,0,0,0,0,())).1 (zW zI (b+1)) c))) else f
def Zy{R:Type}(a b:Int)(c:Int->Int->Option R):Option R:=
 c a b
def Zz{R:Type}(a:Int->Int->Option R):Option R:=
 a 0 0
def yI:Nat->Int->Int->ae->Option (Sum (Int×Int) Unit)
 |0,_,_,_=>none
 |k+1,v0,v1,v2=>SD v0 v1 v2 (fun a0 a1=>some (.inl (a0,a1))) (fun a0 a1 a2=>yI k a0 a1 a2) (some (.inr ()))
def JO(a:ae):Option (Int×Int):=
 IA a (fun a0 a1=>some (a0,a1)) (fun a0 a1 a2=>(yI af a0 a1 a2).bind fun e=>Sum.elim (fun(we:(Int×Int))=>Zy we.1 we.2 (fun a0 a1=>some (a0,a1))) (fun(we:Unit)=>Zz (fun a0 a1=>some (a0,a1))) e)
def ZD{R:Type}(a:ae)(b:Bool->Option R):Option R:=
 (JO a).bind fun r1=>b (decide (r1.1=0))
def Ci(a:ae):Option Bool:=
 ZD a (fun a0=>some a0)
def ZC{R:Type}(a:ae)(b:Int)(c:Int->Int->ae->Option R):Option R:=
 c b 0 a
def FT{R:Type}(a b:Int)(c:ae)(d:Int->Option R)(e:Int->Int->ae->Option R)(f:Option R):Option R:=
 bif b<((List.length c.2.2.1):Int) then zd b (List.length c.2.2.1) (bif(List.getD c.2.2.1 b.toNat (0,0,0,0,0,())).1=a then d b else e a (zW zI (b+1)) c) else f
def FU{R:Type}(a:Int)(b:Int->Option R):Option R:=
 b a
def FV{R:Type}(a:Int->Option R):Option R:=
 a (-1:Int)
def SE:Nat->Int->Int->ae->Option (Sum Int Unit)
 |0,_,_,_=>none
 |k+1,v0,v1,v2=>FT v0 v1 v2 (fun a0=>some (.inl a0)) (fun a0 a1 a2=>SE k a0 a1 a2) (some (.inr ()))
def zM(a:ae)(b:Int):Option Int:=
 ZC a b (fun a0 a1 a2=>(SE af a0 a1 a2).bind fun e=>Sum.elim (fun(we:Int)=>FU we (fun a0=>some a0)) (fun(we:Unit)=>FV (fun a0=>some a0)) e)
def Uy{R:Type}(a:ByteArray)(b:Bool->Option R):Option R:=
 bif(a.size:Int)=4 then(Hm a).bind fun r1=>b r1 else b false
def tm(a:ByteArray):Option Bool:=
 Uy a (fun a0=>some a0)
def ZG{R:Type}(a:ByteArray)(b:Bool->Option R):Option R:=
 (JB a).bind fun r1=>bif r1.2 then bif(a.size:Int)=4 then bif Int.tmod (zW zI (Int.tdiv r1.1 10)) 10=0 then b true else b (decide (Int.tmod (zW zI (Int.tdiv r1.1 10)) 10=2)) else b false else b false
def Ho(a:ByteArray):Option Bool:=
 ZG a (fun a0=>some a0)
def zx7{R:Type}(a:aQ)(b:aQ->aQ->Int->Option R):Option R:=
 b a [] 0
def zx8{R:Type}(a b:aQ)(c:Int)(d:aQ->aQ->Int->Option R)(e:aQ->Option R):Option R:=
 bif c<((List.length a):Int) then zd c (List.length a) (zd c (List.length a) (bif(List.length b+List.length ([((List.getD a c.toNat (bs [],bs [],())).2.1,(List.getD a c.toNat (bs [],bs [],())).1,())]:List dp))*32<=140737488355328 then d a (b++([((List.getD a c.toNat (bs [],bs [],())).2.1,(List.getD a c.toNat (bs [],bs [],())).1,())]:List dp)) (zW zI (c+1)) else none)) else e b
def zx9{R:Type}(a:aQ)(b:aQ->Option R):Option R:=
 b a
def UE:Nat->aQ->aQ->Int->Option aQ
 |0,_,_,_=>none
 |k+1,v0,v1,v2=>zx8 v0 v1 v2 (fun a0 a1 a2=>UE k a0 a1 a2) (fun a0=>some a0)
def oC(a:aQ):Option aQ:=
 zx7 a (fun a0 a1 a2=>(UE af a0 a1 a2).bind fun e=>zx9 e (fun a0=>some a0))
def UC{R:Type}(a:aQ)(b:aQ->Option R):Option R:=
 bif(List.length ([]:List dp)+List.length a)*32<=140737488355328 then b ([]++a) else none
def rC(a:aQ):Option aQ:=
 UC a (fun a0=>some a0)
def UG{R:Type}(a:aQ)(b:Int)(c:ByteArray)(d:aQ->Int->ByteArray->Int->Option R):Option R:=
 d a b c 0
def Rr{R:Type}(a:aQ)(b:Int)(c:ByteArray)(d:Int)(e:Int->Option R)(f:aQ->Int->ByteArray->Int->Option R)(g:Option R):Option R:=
 bif d<b then zd d (List.length a) (bif(List.getD a d.toNat (bs [],bs [],())).1=c then e d else f a b c (zW zI (d+1))) else g
def zxb{R:Type}(a:Int)(b:Int->Option R):Option R:=
 b a
def zxc{R:Type}(a:Int->Option R):Option R:=
 a (-1:Int)
def Gu:Nat->aQ->Int->ByteArray->Int->Option (Sum Int Unit)
 |0,_,_,_,_=>none
 |k+1,v0,v1,v2,v3=>Rr v0 v1 v2 v3 (fun a0=>some (.inl a0)) (fun a0 a1 a2 a3=>Gu k a0 a1 a2 a3) (some (.inr ()))
def rD(a:aQ)(b:Int)(c:ByteArray):Option Int:=
 UG a b c (fun a0 a1 a2 a3=>(Gu af a0 a1 a2 a3).bind fun e=>Sum.elim (fun(we:Int)=>zxb we (fun a0=>some a0)) (fun(we:Unit)=>zxc (fun a0=>some a0)) e)
def Uz{R:Type}(a:aQ)(b:ByteArray)(c:ByteArray->Bool->Option R):Option R:=
 (rD a ((List.length a):Int) b).bind fun r1=>bif r1<0 then c (bs []) false else zd r1 (List.length a) (c (List.getD a r1.toNat (bs [],bs [],())).2.1 true)
def tn(a:aQ)(b:ByteArray):Option kb:=
 Uz a b (fun a0 a1=>some (a0,a1))
def UB{R:Type}(a:aQ)(b:Int->Int->Option R)(c:aQ->Int->Option R):Option R:=
 bif 256<((List.length a):Int) then b 5 256 else c a 0
def Rq{R:Type}(a:aQ)(b:Int)(c:Int->Int->Option R)(d:aQ->Int->Option R)(e:Option R):Option R:=
 bif b<((List.length a):Int) then zd b (List.length a) ((rD a b (List.getD a b.toNat (bs [],bs [],())).1).bind fun r1=>bif 0<=r1 then c 10 b else d a (zW zI (b+1))) else e
def zx5{R:Type}(a b:Int)(c:Int->Int->Option R):Option R:=
 c a b
def zx6{R:Type}(a:Int->Int->Option R):Option R:=
 a 0 0
def Gt:Nat->aQ->Int->Option (Sum (Int×Int) Unit)
 |0,_,_=>none
 |k+1,v0,v1=>Rq v0 v1 (fun a0 a1=>some (.inl (a0,a1))) (fun a0 a1=>Gt k a0 a1) (some (.inr ()))
def tu(a:aQ):Option (Int×Int):=
 UB a (fun a0 a1=>some (a0,a1)) (fun a0 a1=>(Gt af a0 a1).bind fun e=>Sum.elim (fun(we:(Int×Int))=>zx5 we.1 we.2 (fun a0 a1=>some (a0,a1))) (fun(we:Unit)=>zx6 (fun a0 a1=>some (a0,a1))) e)
def zxo{R:Type}(a:aD)(b:Bool->Option R)(c:Int->aD->Option R):Option R:=
 bif 1200<(a.2.2.2.1.size:Int) then b true else bif 300<((List.length a.2.2.2.2.1):Int) then b true else c 0 a
def zxp{R:Type}(a:Int)(b:aD)(c:Bool->Option R)(d:Int->aD->Option R)(e:Option R):Option R:=
 bif a<((List.length b.2.2.2.2.1):Int) then zd a (List.length b.2.2.2.2.1) (bif 1200<(((List.getD b.2.2.2.2.1 a.toNat (bs [],bs [],())).1).size:Int) then c true else zd a (List.length b.2.2.2.2.1) (bif 1200<(((List.getD b.2.2.2.2.1 a.toNat (bs [],bs [],())).2.1).size:Int) then c true else d (zW zI (a+1)) b)) else e
def zxq{R:Type}(a:Bool)(b:Bool->Option R):Option R:=
 b a
def zxr{R:Type}(a:Bool->Option R):Option R:=
 a false
def UN:Nat->Int->aD->Option (Sum Bool Unit)
 |0,_,_=>none
 |k+1,v0,v1=>zxp v0 v1 (fun a0=>some (.inl a0)) (fun a0 a1=>UN k a0 a1) (some (.inr ()))
def B8(a:aD):Option Bool:=
 zxo a (fun a0=>some a0) (fun a0 a1=>(UN af a0 a1).bind fun e=>Sum.elim (fun(we:Bool)=>zxq we (fun a0=>some a0)) (fun(we:Unit)=>zxr (fun a0=>some a0)) e)
def UL{R:Type}(a:aD)(b:aD->Option R):Option R:=
 (rC a.2.2.2.2.1).bind fun r1=>b (a.1,a.2.1,a.2.2.1,a.2.2.2.1,r1,())
def oE(a:aD):Option aD:=
 UL a (fun a0=>some a0)
def H0{R:Type}(a:aD)(b c:ae)(d:Bool->aD->ae->ae->Option R):Option R:=
 bif a.1<1 then d true a b c else d (decide (5<a.1)) a b c
theorem acw{R S:Type}(F:R->Option S)(a)(b)(c)(d):(H0 a b c d).bind F=H0 a b c (fun a0 a1 a2 a3=>(d a0 a1 a2 a3).bind F):=by
 simp only[H0,aC]
def zxi{R:Type}(a:Bool)(b:aD)(c d:ae)(e:Int->Option R)(f:aD->ae->ae->Option R):Option R:=
 bif a then e 1 else f b c d
def H2{R:Type}(a:aD)(b c:ae)(d:Int->Int->Bool->aD->ae->ae->Option R):Option R:=
 (zM b a.2.1).bind fun r1=>(zM c a.2.2.1).bind fun r2=>bif a.1=3 then bif !decide (a.2.1=0) then d r1 r2 true a b c else bif !decide (a.1=3) then d r1 r2 (decide (r1<0)) a b c else d r1 r2 false a b c else bif !decide (a.1=3) then d r1 r2 (decide (r1<0)) a b c else d r1 r2 false a b c
theorem z160{R S:Type}(F:R->Option S)(a)(b)(c)(d):(H2 a b c d).bind F=H2 a b c (fun a0 a1 a2 a3 a4 a5=>(d a0 a1 a2 a3 a4 a5).bind F):=by
 simp only[H2,aC]
def zxj{R:Type}(a b:Int)(c:Bool)(d:aD)(e f:ae)(g:Int->Option R)(h:Int->Int->aD->ae->ae->Option R):Option R:=
 bif c then g 9 else h a b d e f
def H3{R:Type}(a b:Int)(c:aD)(d e:ae)(f:Int->Int->Bool->aD->ae->ae->Option R):Option R:=
 bif c.1=2 then bif !decide (c.2.2.1=0) then f a b true c d e else bif !decide (c.1=2) then f a b (decide (b<0)) c d e else f a b false c d e else bif !decide (c.1=2) then f a b (decide (b<0)) c d e else f a b false c d e
theorem acx{R S:Type}(F:R->Option S)(a)(b)(c)(d)(e)(f):(H3 a b c d e f).bind F=H3 a b c d e (fun a0 a1 a2 a3 a4 a5=>(f a0 a1 a2 a3 a4 a5).bind F):=by
 simp only[H3,aC]
def zxk{R:Type}(a b:Int)(c:Bool)(d:aD)(e f:ae)(g:Int->Option R)(h:Int->Int->aD->ae->ae->Option R):Option R:=
 bif c then g 9 else h a b d e f
def H4{R:Type}(a b:Int)(c:aD)(d e:ae)(f:Int->Int->Bool->aD->ae->ae->Option R):Option R:=
 bif !decide (c.2.2.2.1=bs []) then bif !decide (c.1=3) then f a b true c d e else bif 0<((List.length c.2.2.2.2.1):Int) then f a b (!decide (c.1=5)) c d e else f a b false c d e else bif 0<((List.length c.2.2.2.2.1):Int) then f a b (!decide (c.1=5)) c d e else f a b false c d e
theorem z162{R S:Type}(F:R->Option S)(a)(b)(c)(d)(e)(f):(H4 a b c d e f).bind F=H4 a b c d e (fun a0 a1 a2 a3 a4 a5=>(f a0 a1 a2 a3 a4 a5).bind F):=by
 simp only[H4,aC]
def zxl{R:Type}(a b:Int)(c:Bool)(d:aD)(e f:ae)(g:Int->Option R)(h:Int->Int->aD->ae->ae->Option R):Option R:=
 bif c then g 3 else h a b d e f
def H5{R:Type}(a b:Int)(c:aD)(d e:ae)(f:Int->Option R)(g:Option R)(h:Bool->Option R)(i:Int->Int->Bool->aD->ae->ae->Option R):Option R:=
 bif c.1=1 then zd b (List.length e.2.2.1) (zd a (List.length d.2.2.1) ((vM (List.getD e.2.2.1 b.toNat (0,0,0,0,0,())) (List.getD d.2.2.1 a.toNat (0,0,0,0,0,()))).bind fun r3=>bif !r3 then f 6 else g)) else bif c.1=3 then zd b (List.length e.2.2.1) ((np (List.getD e.2.2.1 b.toNat (0,0,0,0,0,())) c.2.2.2.1).bind fun r4=>f r4) else bif c.1=4 then zd a (List.length d.2.2.1) (zd b (List.length e.2.2.1) (bif !decide ((List.getD d.2.2.1 a.toNat (0,0,0,0,0,())).2.1=1) then h true else bif !decide ((List.getD d.2.2.1 a.toNat (0,0,0,0,0,())).2.2.1=1) then h true else bif !decide ((List.getD e.2.2.1 b.toNat (0,0,0,0,0,())).2.1=1) then h true else h (!decide ((List.getD e.2.2.1 b.toNat (0,0,0,0,0,())).2.2.1=1)))) else bif c.1=5 then(tu c.2.2.2.2.1).bind fun r5=>bif !decide (r5.1=0) then i a b true c d e else i a b (decide (((List.length c.2.2.2.2.1):Int)=0)) c d e else g
theorem acy{R S:Type}(F:R->Option S)(a)(b)(c)(d)(e)(f)(g)(h)(i):(H5 a b c d e f g h i).bind F=H5 a b c d e (fun a0=>(f a0).bind F) ((g).bind F) (fun a0=>(h a0).bind F) (fun a0 a1 a2 a3 a4 a5=>(i a0 a1 a2 a3 a4 a5).bind F):=by
 simp only[H5,aC]
def zxm{R:Type}(a:Int->Option R):Option R:=
 a 0
def zpi{R:Type}(a:Bool)(b:Int->Option R)(c:Option R):Option R:=
 bif a then b 6 else c
def zpj{R:Type}(a b:Int)(c:Bool)(d:aD)(e f:ae)(g:Int->Option R)(h:Int->Int->aD->ae->ae->Option R):Option R:=
 bif c then g 15 else h a b d e f
def Uh{R:Type}(a b:Int)(c:aD)(d e:ae)(f:Int->Int->Int->aD->ae->ae->Option R):Option R:=
 f a b 0 c d e
def Rg{R:Type}(a b c:Int)(d:aD)(e f:ae)(g:Int->Int->Int->aD->ae->ae->Option R)(h:Option R):Option R:=
 bif c<((List.length d.2.2.2.2.1):Int) then g a b c d e f else h
def Ui{R:Type}(a b c:Int)(d:aD)(e f:ae)(g:Int->Option R)(h:Int->Int->Int->aD->ae->ae->Option R):Option R:=
 zd a (List.length e.2.2.1) (zd c (List.length d.2.2.2.2.1) ((np (List.getD e.2.2.1 a.toNat (0,0,0,0,0,())) (List.getD d.2.2.2.2.1 c.toNat (bs [],bs [],())).1).bind fun r6=>bif !decide (r6=0) then g r6 else h a b c d e f))
def zpk{R:Type}(a:Option R):Option R:=
 a
def zpl{R:Type}(a:Int)(b:Int->Option R):Option R:=
 b a
def Uj{R:Type}(a b c:Int)(d:aD)(e f:ae)(g:Int->Option R)(h:Int->Int->Int->aD->ae->ae->Option R):Option R:=
 zd b (List.length f.2.2.1) (zd c (List.length d.2.2.2.2.1) ((np (List.getD f.2.2.1 b.toNat (0,0,0,0,0,())) (List.getD d.2.2.2.2.1 c.toNat (bs [],bs [],())).2.1).bind fun r7=>bif !decide (r7=0) then g r7 else h a b c d e f))
def Uk{R:Type}(a b c:Int)(d:aD)(e f:ae)(g:Int->Int->Int->aD->ae->ae->Option R):Option R:=
 g a b (zW zI (c+1)) d e f
def wo:Nat->Int->Int->Int->aD->ae->ae->Option (Sum Unit Int)
 |0,_,_,_,_,_,_=>none
 |k+1,v0,v1,v2,v3,v4,v5=>Rg v0 v1 v2 v3 v4 v5 (fun a0 a1 a2 a3 a4 a5=>Ui a0 a1 a2 a3 a4 a5 (fun a0=>some (.inr a0)) (fun a0 a1 a2 a3 a4 a5=>Uj a0 a1 a2 a3 a4 a5 (fun a0=>some (.inr a0)) (fun a0 a1 a2 a3 a4 a5=>Uk a0 a1 a2 a3 a4 a5 (fun a0 a1 a2 a3 a4 a5=>wo k a0 a1 a2 a3 a4 a5)))) (some (.inl ()))
def UK:Option Int:=
 zxm (fun a0=>some a0)
def zxh(a:Bool):Option Int:=
 zpi a (fun a0=>some a0) UK
def Rf(a b:Int)(c:aD)(d f:ae):Option Int:=
 Uh a b c d f (fun a0 a1 a2 a3 a4 a5=>(wo af a0 a1 a2 a3 a4 a5).bind fun e=>Sum.elim (fun(we:Unit)=>zpk UK) (fun(we:Int)=>zpl we (fun a0=>some a0)) e)
def zph(a b:Int)(c:Bool)(d:aD)(e f:ae):Option Int:=
 zpj a b c d e f (fun a0=>some a0) (fun a0 a1 a2 a3 a4=>Rf a0 a1 a2 a3 a4)
def Rt(a b:Int)(c:aD)(d e:ae):Option Int:=
 H5 a b c d e (fun a0=>some a0) UK (fun a0=>zxh a0) (fun a0 a1 a2 a3 a4 a5=>zph a0 a1 a2 a3 a4 a5)
def zxg(a b:Int)(c:Bool)(d:aD)(e f:ae):Option Int:=
 zxl a b c d e f (fun a0=>some a0) (fun a0 a1 a2 a3 a4=>Rt a0 a1 a2 a3 a4)
def Gv(a b:Int)(c:aD)(d e:ae):Option Int:=
 H4 a b c d e (fun a0 a1 a2 a3 a4 a5=>zxg a0 a1 a2 a3 a4 a5)
def zxf(a b:Int)(c:Bool)(d:aD)(e f:ae):Option Int:=
 zxk a b c d e f (fun a0=>some a0) (fun a0 a1 a2 a3 a4=>Gv a0 a1 a2 a3 a4)
def Rs(a b:Int)(c:aD)(d e:ae):Option Int:=
 H3 a b c d e (fun a0 a1 a2 a3 a4 a5=>zxf a0 a1 a2 a3 a4 a5)
def BR(a b:Int)(c:Bool)(d:aD)(e f:ae):Option Int:=
 zxj a b c d e f (fun a0=>some a0) (fun a0 a1 a2 a3 a4=>Rs a0 a1 a2 a3 a4)
def UJ(a:aD)(b c:ae):Option Int:=
 H2 a b c (fun a0 a1 a2 a3 a4 a5=>BR a0 a1 a2 a3 a4 a5)
def zxe(a:Bool)(b:aD)(c d:ae):Option Int:=
 zxi a b c d (fun a0=>some a0) (fun a0 a1 a2=>UJ a0 a1 a2)
def tv(a:aD)(b c:ae):Option Int:=
 H0 a b c (fun a0 a1 a2 a3=>zxe a0 a1 a2 a3)
def zy3{R:Type}(a:aq)(b:Bool->Option R)(c:Int->aq->Option R):Option R:=
 bif 300<((List.length a.1):Int) then b true else bif 300<((List.length a.2.1):Int) then b true else c 0 a
def zy4{R:Type}(a:Int)(b:aq)(c:Bool->aq->Option R)(d:Int->aq->Option R)(e:aq->Option R):Option R:=
 bif a<((List.length b.1):Int) then zd a (List.length b.1) (bif 100<(((List.getD b.1 a.toNat (bs [],bs [],())).1).size:Int) then c true b else zd a (List.length b.1) (bif 100<(((List.getD b.1 a.toNat (bs [],bs [],())).2.1).size:Int) then c true b else d (zW zI (a+1)) b)) else e b
def zy5{R:Type}(a:Bool)(b:aq)(c:Bool->Option R):Option R:=
 c a
def zy6{R:Type}(a:aq)(b:Int->aq->Option R):Option R:=
 b 0 a
def zy7{R:Type}(a:Int)(b:aq)(c:Bool->Option R)(d:Int->aq->Option R)(e:Option R):Option R:=
 bif a<((List.length b.2.1):Int) then zd a (List.length b.2.1) ((B8 (List.getD b.2.1 a.toNat (0,0,0,bs [],[],()))).bind fun r1=>bif r1 then c true else d (zW zI (a+1)) b) else e
def zy8{R:Type}(a:Bool)(b:Bool->Option R):Option R:=
 b a
def zy9{R:Type}(a:Bool->Option R):Option R:=
 a false
def UZ:Nat->Int->aq->Option (Sum (Bool×aq) aq)
 |0,_,_=>none
 |k+1,v0,v1=>zy4 v0 v1 (fun a0 a1=>some (.inl (a0,a1))) (fun a0 a1=>UZ k a0 a1) (fun a0=>some (.inr a0))
def U0:Nat->Int->aq->Option (Sum Bool Unit)
 |0,_,_=>none
 |k+1,v0,v1=>zy7 v0 v1 (fun a0=>some (.inl a0)) (fun a0 a1=>U0 k a0 a1) (some (.inr ()))
def wG(a:aq):Option Bool:=
 zy3 a (fun a0=>some a0) (fun a0 a1=>(UZ af a0 a1).bind fun e=>Sum.elim (fun(we:(Bool×aq))=>zy5 we.1 we.2 (fun a0=>some a0)) (fun(we:aq)=>zy6 we (fun a0 a1=>(U0 af a0 a1).bind fun e=>Sum.elim (fun(we:Bool)=>zy8 we (fun a0=>some a0)) (fun(we:Unit)=>zy9 (fun a0=>some a0)) e)) e)
def UW{R:Type}(a:aq)(b:Int->aq->aq->aq->Option R):Option R:=
 (rC a.1).bind fun r1=>b 0 a ([],[],()) (r1,[],())
def zxz{R:Type}(a:Int)(b c d:aq)(e:Int->aq->aq->aq->Option R)(f:aq->aq->Option R):Option R:=
 bif a<((List.length b.2.1):Int) then zd a (List.length b.2.1) ((oE (List.getD b.2.1 a.toNat (0,0,0,bs [],[],()))).bind fun r2=>bif(List.length d.2.1+List.length ([r2]:List aD))*64<=140737488355328 then e (zW zI (a+1)) b c (d.1,d.2.1++([r2]:List aD),()) else none) else f c d
def zy0{R:Type}(a b:aq)(c:aq->Option R):Option R:=
 c b
def Rx:Nat->Int->aq->aq->aq->Option (aq×aq)
 |0,_,_,_,_=>none
 |k+1,v0,v1,v2,v3=>zxz v0 v1 v2 v3 (fun a0 a1 a2 a3=>Rx k a0 a1 a2 a3) (fun a0 a1=>some (a0,a1))
def tz(a:aq):Option aq:=
 UW a (fun a0 a1 a2 a3=>(Rx af a0 a1 a2 a3).bind fun e=>zy0 e.1 e.2 (fun a0=>some a0))
def U2{R:Type}(a:ByteArray)(b:Int)(c:Bool->Option R):Option R:=
 (tm a).bind fun r1=>bif r1 then zd 0 a.size (c (decide (zW zI (zW zI (ze a ((0:Int)).toNat)-48)=b))) else c false
def rE(a:ByteArray)(b:Int):Option Bool:=
 U2 a b (fun a0=>some a0)
def U1{R:Type}(a b:aD)(c:Bool->Option R):Option R:=
 bif !decide (a.2.1=0) then bif a.2.1=b.2.1 then c true else bif !decide (a.2.2.1=0) then c (decide (a.2.2.1=b.2.2.1)) else c false else bif !decide (a.2.2.1=0) then c (decide (a.2.2.1=b.2.2.1)) else c false
def tA(a b:aD):Option Bool:=
 U1 a b (fun a0=>some a0)
def UR{R:Type}(a:aq)(b c:ae)(d:Int->Int->Int->Option R)(e:Int->aq->ae->ae->Option R):Option R:=
 (Ci b).bind fun r1=>bif !r1 then d 1 1 0 else(Ci c).bind fun r2=>bif !r2 then d 1 1 1 else bif 256<((List.length a.1):Int) then d 5 2 256 else e 0 a b c
def Ru{R:Type}(a:Int)(b:aq)(c d:ae)(e:Int->Int->Int->aq->ae->ae->Option R)(f:Int->aq->ae->ae->Option R)(g:aq->ae->ae->Option R):Option R:=
 bif a<((List.length b.1):Int) then zd a (List.length b.1) ((rE (List.getD b.1 a.toNat (bs [],bs [],())).1 c.2.1).bind fun r3=>bif !r3 then e 7 2 a b c d else(rE (List.getD b.1 a.toNat (bs [],bs [],())).2.1 d.2.1).bind fun r4=>bif !r4 then e 7 2 a b c d else(Ho (List.getD b.1 a.toNat (bs [],bs [],())).1).bind fun r5=>(Ho (List.getD b.1 a.toNat (bs [],bs [],())).2.1).bind fun r6=>bif !(r5==r6) then e 7 2 a b c d else bif 0<=a then bif a<=(((List.length b.1):Nat):Int) then(tn (List.drop 0 (List.take a.toNat b.1)) (List.getD b.1 a.toNat (bs [],bs [],())).1).bind fun r7=>bif r7.2 then e 10 2 a b c d else f (zW zI (a+1)) b c d else none else none) else g b c d
def zxv{R:Type}(a b c:Int)(d:aq)(e f:ae)(g:Int->Int->Int->Option R):Option R:=
 g a b c
def US{R:Type}(a:aq)(b c:ae)(d:Int->Int->Int->Option R)(e:Int->aq->ae->ae->Option R):Option R:=
 bif 256<((List.length a.2.1):Int) then d 5 3 256 else e 0 a b c
def Rv{R:Type}(a:Int)(b:aq)(c d:ae)(e:Int->Int->Int->Option R)(f:Int->Int->aq->ae->ae->Option R)(g:Option R):Option R:=
 bif a<((List.length b.2.1):Int) then zd a (List.length b.2.1) ((tv (List.getD b.2.1 a.toNat (0,0,0,bs [],[],())) c d).bind fun r8=>bif !decide (r8=0) then e r8 3 a else f a 0 b c d) else g
def zxw{R:Type}(a b c:Int)(d:Int->Int->Int->Option R):Option R:=
 d a b c
def zxx{R:Type}(a:Int->Int->Int->Option R):Option R:=
 a 0 0 0
def Rw{R:Type}(a b:Int)(c:aq)(d e:ae)(f:Int->Int->Int->Int->aq->ae->ae->Option R)(g:Int->Int->aq->ae->ae->Option R)(h:Int->aq->ae->ae->Option R):Option R:=
 bif b<a then zd b (List.length c.2.1) (zd a (List.length c.2.1) ((tA (List.getD c.2.1 b.toNat (0,0,0,bs [],[],())) (List.getD c.2.1 a.toNat (0,0,0,bs [],[],()))).bind fun r9=>bif r9 then f 10 3 a a c d e else g a (zW zI (b+1)) c d e)) else h a c d e
def zxy{R:Type}(a b c d:Int)(e:aq)(f g:ae)(h:Int->Int->Int->Option R):Option R:=
 h a b c
def UT{R:Type}(a:Int)(b:aq)(c d:ae)(e:Int->aq->ae->ae->Option R):Option R:=
 e (zW zI (a+1)) b c d
def Gx:Nat->Int->aq->ae->ae->Option (Sum mu mr)
 |0,_,_,_,_=>none
 |k+1,v0,v1,v2,v3=>Ru v0 v1 v2 v3 (fun a0 a1 a2 a3 a4 a5=>some (.inl (a0,a1,a2,a3,a4,a5))) (fun a0 a1 a2 a3=>Gx k a0 a1 a2 a3) (fun a0 a1 a2=>some (.inr (a0,a1,a2)))
def Gz:Nat->Int->Int->aq->ae->ae->Option (Sum (Int×Int×Int×Int×aq×ae×ae) (Int×aq×ae×ae))
 |0,_,_,_,_,_=>none
 |k+1,v0,v1,v2,v3,v4=>Rw v0 v1 v2 v3 v4 (fun a0 a1 a2 a3 a4 a5 a6=>some (.inl (a0,a1,a2,a3,a4,a5,a6))) (fun a0 a1 a2 a3 a4=>Gz k a0 a1 a2 a3 a4) (fun a0 a1 a2 a3=>some (.inr (a0,a1,a2,a3)))
def Gy:Nat->Int->aq->ae->ae->Option (Sum jW Unit)
 |0,_,_,_,_=>none
 |k+1,v0,v1,v2,v3=>Rv v0 v1 v2 v3 (fun a0 a1 a2=>some (.inl (a0,a1,a2))) (fun a0 a1 a2 a3 a4=>(Gz af a0 a1 a2 a3 a4).bind fun e=>Sum.elim (fun(we:(Int×Int×Int×Int×aq×ae×ae))=>zxy we.1 we.2.1 we.2.2.1 we.2.2.2.1 we.2.2.2.2.1 we.2.2.2.2.2.1 we.2.2.2.2.2.2 (fun a0 a1 a2=>some (.inl (a0,a1,a2)))) (fun(we:(Int×aq×ae×ae))=>UT we.1 we.2.1 we.2.2.1 we.2.2.2 (fun a0 a1 a2 a3=>Gy k a0 a1 a2 a3)) e) (some (.inr ()))
def tw(a:aq)(b c:ae):Option jW:=
 UR a b c (fun a0 a1 a2=>some (a0,a1,a2)) (fun a0 a1 a2 a3=>(Gx af a0 a1 a2 a3).bind fun e=>Sum.elim (fun(we:mu)=>zxv we.1 we.2.1 we.2.2.1 we.2.2.2.1 we.2.2.2.2.1 we.2.2.2.2.2 (fun a0 a1 a2=>some (a0,a1,a2))) (fun(we:mr)=>US we.1 we.2.1 we.2.2 (fun a0 a1 a2=>some (a0,a1,a2)) (fun a0 a1 a2 a3=>(Gy af a0 a1 a2 a3).bind fun e=>Sum.elim (fun(we:jW)=>zxw we.1 we.2.1 we.2.2 (fun a0 a1 a2=>some (a0,a1,a2))) (fun(we:Unit)=>zxx (fun a0 a1 a2=>some (a0,a1,a2))) e)) e)
def zya{R:Type}(a:aq)(b:Int->aq->aq->aq->Option R):Option R:=
 (oC a.1).bind fun r1=>b 0 a ([],[],()) (r1,[],())
def zyb{R:Type}(a:Int)(b c d:aq)(e:Int->aq->aq->aq->Option R)(f:aq->aq->Option R):Option R:=
 bif a<((List.length b.2.1):Int) then zd a (List.length b.2.1) ((oC (List.getD b.2.1 a.toNat (0,0,0,bs [],[],())).2.2.2.2.1).bind fun r2=>bif(List.length d.2.1+List.length ([((List.getD b.2.1 a.toNat ((0:Int),(0:Int),(0:Int),bs [],([]:List dp),())).1,(List.getD b.2.1 a.toNat ((0:Int),(0:Int),(0:Int),bs [],([]:List dp),())).2.2.1,(List.getD b.2.1 a.toNat ((0:Int),(0:Int),(0:Int),bs [],([]:List dp),())).2.1,(List.getD b.2.1 a.toNat ((0:Int),(0:Int),(0:Int),bs [],([]:List dp),())).2.2.2.1,r2,())]:List aD))*64<=140737488355328 then e (zW zI (a+1)) b c (d.1,d.2.1++([((List.getD b.2.1 a.toNat (0,0,0,bs [],[],())).1,(List.getD b.2.1 a.toNat (0,0,0,bs [],[],())).2.2.1,(List.getD b.2.1 a.toNat (0,0,0,bs [],[],())).2.1,(List.getD b.2.1 a.toNat (0,0,0,bs [],[],())).2.2.2.1,r2,())]:List aD),()) else none) else f c d
def zyc{R:Type}(a b:aq)(c:aq->Option R):Option R:=
 c b
def U4:Nat->Int->aq->aq->aq->Option (aq×aq)
 |0,_,_,_,_=>none
 |k+1,v0,v1,v2,v3=>zyb v0 v1 v2 v3 (fun a0 a1 a2 a3=>U4 k a0 a1 a2 a3) (fun a0 a1=>some (a0,a1))
def Ca(a:aq):Option aq:=
 zya a (fun a0 a1 a2 a3=>(U4 af a0 a1 a2 a3).bind fun e=>zyc e.1 e.2 (fun a0=>some a0))
def zyi{R:Type}(a:au)(b:Bool->Option R)(c:Int->au->Option R):Option R:=
 bif 200<((List.length a.1.2.2.1):Int) then b true else bif 300<((List.length a.2.2.1):Int) then b true else bif 300<((List.length a.2.2.2.1):Int) then b true else c 0 a
def zyj{R:Type}(a:Int)(b:au)(c:Bool->Option R)(d:Int->au->Option R)(e:Option R):Option R:=
 bif a<((List.length b.2.2.2.1):Int) then zd a (List.length b.2.2.2.1) (bif 1200<(((List.getD b.2.2.2.1 a.toNat (0,bs [],())).2.1).size:Int) then c true else d (zW zI (a+1)) b) else e
def zyk{R:Type}(a:Bool)(b:Bool->Option R):Option R:=
 b a
def zyl{R:Type}(a:Bool->Option R):Option R:=
 a false
def Vc:Nat->Int->au->Option (Sum Bool Unit)
 |0,_,_=>none
 |k+1,v0,v1=>zyj v0 v1 (fun a0=>some (.inl a0)) (fun a0 a1=>Vc k a0 a1) (some (.inr ()))
def wH(a:au):Option Bool:=
 zyi a (fun a0=>some a0) (fun a0 a1=>(Vc af a0 a1).bind fun e=>Sum.elim (fun(we:Bool)=>zyk we (fun a0=>some a0)) (fun(we:Unit)=>zyl (fun a0=>some a0)) e)
def Va{R:Type}(a:au)(b:au->Option R):Option R:=
 (JP a.1).bind fun r1=>bif(List.length ([]:List Int)+List.length a.2.2.1)*8<=140737488355328 then bif(List.length ([]:List bd)+List.length a.2.2.2.1)*24<=140737488355328 then b (r1,a.2.1,[]++a.2.2.1,[]++a.2.2.2.1,()) else none else none
def tD(a:au):Option au:=
 Va a (fun a0=>some a0)
def Ve{R:Type}(a:ap)(b c:Int)(d:ap->Int->Int->Int->Option R):Option R:=
 d a b c 0
def RA{R:Type}(a:ap)(b c d:Int)(e:Int->Option R)(f:ap->Int->Int->Int->Option R)(g:Option R):Option R:=
 bif d<b then zd d (List.length a) (bif(List.getD a d.toNat (0,bs [],())).1=c then e d else f a b c (zW zI (d+1))) else g
def zyn{R:Type}(a:Int)(b:Int->Option R):Option R:=
 b a
def zyo{R:Type}(a:Int->Option R):Option R:=
 a (-1:Int)
def GF:Nat->ap->Int->Int->Int->Option (Sum Int Unit)
 |0,_,_,_,_=>none
 |k+1,v0,v1,v2,v3=>RA v0 v1 v2 v3 (fun a0=>some (.inl a0)) (fun a0 a1 a2 a3=>GF k a0 a1 a2 a3) (some (.inr ()))
def rF(a:ap)(b c:Int):Option Int:=
 Ve a b c (fun a0 a1 a2 a3=>(GF af a0 a1 a2 a3).bind fun e=>Sum.elim (fun(we:Int)=>zyn we (fun a0=>some a0)) (fun(we:Unit)=>zyo (fun a0=>some a0)) e)
def U7{R:Type}(a:au)(b:Int->Int->Int->Option R)(c:Int->Int->au->Option R):Option R:=
 (Ci a.1).bind fun r1=>bif !r1 then b 1 1 0 else(zM a.1 (39:Int)).bind fun r2=>bif r2<0 then b 9 1 1 else c r2 0 a
def Ry{R:Type}(a b:Int)(c:au)(d:Int->Int->Int->Int->au->Option R)(e:Int->Int->au->Option R)(f:Int->au->Option R):Option R:=
 bif b<((List.length c.2.2.1):Int) then zd b (List.length c.2.2.1) ((zM c.1 (List.getD c.2.2.1 b.toNat (0:Int))).bind fun r3=>bif r3<0 then d 9 2 b a c else zd b (List.length c.2.2.1) (bif List.getD c.2.2.1 b.toNat 0=39 then d 1 2 b a c else bif 0<=b then bif b<=(((List.length c.2.2.1):Nat):Int) then zd b (List.length c.2.2.1) ((JE (List.drop 0 (List.take b.toNat c.2.2.1)) (List.getD c.2.2.1 b.toNat (0:Int))).bind fun r4=>bif r4 then d 10 2 b a c else e a (zW zI (b+1)) c) else none else none)) else f a c
def zyf{R:Type}(a b c d:Int)(e:au)(f:Int->Int->Int->Option R):Option R:=
 f a b c
def U8{R:Type}(a:Int)(b:au)(c:Int->Int->au->Option R):Option R:=
 c a 0 b
def Rz{R:Type}(a b:Int)(c:au)(d:Int->Int->Int->au->Option R)(e:Int->Int->au->Option R)(f:au->Option R):Option R:=
 bif b<((List.length c.2.2.2.1):Int) then zd b (List.length c.2.2.2.1) (bif(List.getD c.2.2.2.1 b.toNat (0,bs [],())).1<0 then d 1 3 b c else zd b (List.length c.2.2.2.1) (bif 16<(List.getD c.2.2.2.1 b.toNat (0,bs [],())).1 then d 1 3 b c else zd b (List.length c.2.2.2.1) ((rF c.2.2.2.1 b (List.getD c.2.2.2.1 b.toNat (0,bs [],())).1).bind fun r5=>bif 0<=r5 then d 10 3 b c else zd a (List.length c.1.2.2.1) (zd b (List.length c.2.2.2.1) ((np (List.getD c.1.2.2.1 a.toNat (0,0,0,0,0,())) (List.getD c.2.2.2.1 b.toNat (0,bs [],())).2.1).bind fun r6=>bif !decide (r6=0) then d r6 3 b c else e a (zW zI (b+1)) c))))) else f c
def zyg{R:Type}(a b c:Int)(d:au)(e:Int->Int->Int->Option R):Option R:=
 e a b c
def U9{R:Type}(a:au)(b:Int->Int->Int->Option R):Option R:=
 (rF a.2.2.2.1 ((List.length a.2.2.2.1):Int) (0:Int)).bind fun r7=>bif r7<0 then b 15 3 ((List.length a.2.2.2.1):Int) else b 0 0 0
def GC:Nat->Int->Int->au->Option (Sum (Int×Int×Int×Int×au) (Int×au))
 |0,_,_,_=>none
 |k+1,v0,v1,v2=>Ry v0 v1 v2 (fun a0 a1 a2 a3 a4=>some (.inl (a0,a1,a2,a3,a4))) (fun a0 a1 a2=>GC k a0 a1 a2) (fun a0 a1=>some (.inr (a0,a1)))
def GD:Nat->Int->Int->au->Option (Sum (Int×Int×Int×au) au)
 |0,_,_,_=>none
 |k+1,v0,v1,v2=>Rz v0 v1 v2 (fun a0 a1 a2 a3=>some (.inl (a0,a1,a2,a3))) (fun a0 a1 a2=>GD k a0 a1 a2) (fun a0=>some (.inr a0))
def tC(a:au):Option jW:=
 U7 a (fun a0 a1 a2=>some (a0,a1,a2)) (fun a0 a1 a2=>(GC af a0 a1 a2).bind fun e=>Sum.elim (fun(we:(Int×Int×Int×Int×au))=>zyf we.1 we.2.1 we.2.2.1 we.2.2.2.1 we.2.2.2.2 (fun a0 a1 a2=>some (a0,a1,a2))) (fun(we:(Int×au))=>U8 we.1 we.2 (fun a0 a1 a2=>(GD af a0 a1 a2).bind fun e=>Sum.elim (fun(we:(Int×Int×Int×au))=>zyg we.1 we.2.1 we.2.2.1 we.2.2.2 (fun a0 a1 a2=>some (a0,a1,a2))) (fun(we:au)=>U9 we (fun a0 a1 a2=>some (a0,a1,a2))) e)) e)
def zz0{R:Type}(a:(List ByteArray))(b:(List ByteArray)->aQ->Int->Option R):Option R:=
 b a [] 0
def zz1{R:Type}(a:(List ByteArray))(b:aQ)(c:Int)(d:(List ByteArray)->aQ->Int->Option R)(e:aQ->Option R):Option R:=
 bif c<((List.length a):Int) then zd c (List.length a) (zd (zW zI (c+1)) (List.length a) (bif(List.length b+List.length ([(List.getD a c.toNat (bs []),List.getD a (zW zI (c+(1:Int))).toNat (bs []),())]:List dp))*32<=140737488355328 then d a (b++([(List.getD a c.toNat (bs []),List.getD a (zW zI (c+(1:Int))).toNat (bs []),())]:List dp)) (zW zI (c+2)) else none)) else e b
def zz2{R:Type}(a:aQ)(b:aQ->Option R):Option R:=
 b a
def Vn:Nat->(List ByteArray)->aQ->Int->Option aQ
 |0,_,_,_=>none
 |k+1,v0,v1,v2=>zz1 v0 v1 v2 (fun a0 a1 a2=>Vn k a0 a1 a2) (fun a0=>some a0)
def tJ(a:(List ByteArray)):Option aQ:=
 zz0 a (fun a0 a1 a2=>(Vn af a0 a1 a2).bind fun e=>zz2 e (fun a0=>some a0))
def zyx{R:Type}(a:bS->(List Int)->Int->Option R):Option R:=
 Z3.bind fun r1=>a [] r1 0
def zyy{R:Type}(a:bS)(b:(List Int))(c:Int)(d:bS->(List Int)->Int->Option R)(e:bS->Option R):Option R:=
 bif c<((List.length b):Int) then zd c (List.length b) (bif List.getD b c.toNat 0=12 then zd c (List.length b) (zd c (List.length b) (bif(List.length a+List.length ([((4:Int),List.getD b c.toNat (0:Int),List.getD b c.toNat (0:Int),bs [],([]:List dp),())]:List aD))*64<=140737488355328 then d (a++([(4,List.getD b c.toNat 0,List.getD b c.toNat 0,bs [],[],())]:List aD)) b (zW zI (c+1)) else none)) else zd c (List.length b) (zd c (List.length b) (bif(List.length a+List.length ([((1:Int),List.getD b c.toNat (0:Int),List.getD b c.toNat (0:Int),bs [],([]:List dp),())]:List aD))*64<=140737488355328 then d (a++([(1,List.getD b c.toNat 0,List.getD b c.toNat 0,bs [],[],())]:List aD)) b (zW zI (c+1)) else none))) else e a
def zyz{R:Type}(a:bS)(b:bS->Option R):Option R:=
 b a
def Vl:Nat->bS->(List Int)->Int->Option bS
 |0,_,_,_=>none
 |k+1,v0,v1,v2=>zyy v0 v1 v2 (fun a0 a1 a2=>Vl k a0 a1 a2) (fun a0=>some a0)
def tH:Option bS:=
 zyx (fun a0 a1 a2=>(Vl af a0 a1 a2).bind fun e=>zyz e (fun a0=>some a0))
def zyw{R:Type}(a b c:ByteArray)(d:ap->Option R):Option R:=
 d ([(0,a,()),(2,b,()),(3,b,()),(12,b,()),(9,b,()),(15,c,())]:List bd)
def wJ(a b c:ByteArray):Option ap:=
 zyw a b c (fun a0=>some a0)
def zyp{R:Type}(a:ar->Option R):Option R:=
 (tJ ([(bs [48,49,48,48]),bs [49,49,48,48],bs [48,49,49,48],bs [49,49,49,48],bs [48,50,48,48],bs [49,50,48,48],bs [48,50,49,48],bs [49,50,49,48],bs [48,50,50,48],bs [49,50,50,48],bs [48,50,51,48],bs [49,50,51,48],bs [48,52,48,48],bs [49,52,48,48],bs [48,52,49,48],bs [49,52,49,48],bs [48,52,50,48],bs [49,52,50,48],bs [48,52,51,48],bs [49,52,51,48],bs [48,56,48,48],bs [49,56,48,52],bs [48,56,49,48],(bs [49,56,49,52])]:List ByteArray)).bind fun r1=>(tJ ([(bs [48,53,49]),bs [53,49,48,49,48,49,53,49,49,51,52,52],bs [48,50,49],bs [50,49,48,49,48,49,50,49,49,51,52,52],bs [48,49,50],(bs [49,48,48,49,52,48,49,48,48,49,49,48])]:List ByteArray)).bind fun r2=>(tJ ([(bs [48,48]),bs [48,48,48],bs [48,53],bs [49,48,48],bs [49,52],bs [49,49,49],bs [53,49],bs [49,49,54],bs [53,52],bs [49,48,49],bs [57,49],bs [57,48,55],bs [57,54],(bs [57,48,57])]:List ByteArray)).bind fun r3=>tH.bind fun r4=>bif(List.length r4+List.length ([((2:Int),(13:Int),(0:Int),bs [],([]:List dp),()),((2:Int),(18:Int),(0:Int),bs [],([]:List dp),()),((2:Int),(90:Int),(0:Int),bs [],([]:List dp),()),((5:Int),(22:Int),(22:Int),bs [],r2,()),((5:Int),(39:Int),(39:Int),bs [],r3,()),((1:Int),(43:Int),(43:Int),bs [],([]:List dp),()),((1:Int),(48:Int),(48:Int),bs [],([]:List dp),()),((3:Int),(0:Int),(26:Int),bs [53,57,57,57],([]:List dp),())]:List aD))*64<=140737488355328 then tH.bind fun r5=>(oC r2).bind fun r6=>(oC r3).bind fun r7=>bif(List.length r5+List.length ([((2:Int),(26:Int),(0:Int),bs [],([]:List dp),()),((2:Int),(43:Int),(0:Int),bs [],([]:List dp),()),((5:Int),(22:Int),(22:Int),bs [],r6,()),((5:Int),(39:Int),(39:Int),bs [],r7,()),((1:Int),(48:Int),(48:Int),bs [],([]:List dp),())]:List aD))*64<=140737488355328 then(S1 (0:Int)).bind fun r8=>(wJ (bs [57,54]) (bs [51,48]) (bs [49,50])).bind fun r9=>zd 0 2 ((S1 (1:Int)).bind fun kR=>(oC r1).bind fun lz=>bif(List.length ([]:List Int)+List.length ([(2:Int),(3:Int),(4:Int),(7:Int),(11:Int),(12:Int),(32:Int),(37:Int),(41:Int),(42:Int),(70:Int)]:List Int))*8<=140737488355328 then(wJ (bs [57,48,57]) (bs [57,48,52]) (bs [57,48,50])).bind fun lj=>zd 1 2 (a (List.set (List.set (List.replicate 2 ((0,0,[],()),([],[],()),[],[],())) ((0:Int)).toNat (r8,(r1,r4++([(2,13,0,bs [],[],()),(2,18,0,bs [],[],()),(2,90,0,bs [],[],()),(5,22,22,bs [],r2,()),(5,39,39,bs [],r3,()),(1,43,43,bs [],[],()),(1,48,48,bs [],[],()),(3,0,26,bs [53,57,57,57],[],())]:List aD),()),([2,3,4,7,11,12,32,37,41,42,70]:List Int),r9,())) ((1:Int)).toNat (kR,(lz,r5++([(2,26,0,bs [],[],()),(2,43,0,bs [],[],()),(5,22,22,bs [],r6,()),(5,39,39,bs [],r7,()),(1,48,48,bs [],[],())]:List aD),()),[]++([2,3,4,7,11,12,32,37,41,42,70]:List Int),lj,()),4096,())) else none) else none else none
def wI:Option ar:=
 zyp (fun a0=>some a0)
def zyu{R:Type}(a:ar)(b:Bool->Option R):Option R:=
 zd 0 2 ((wH (List.getD a.1 ((0:Int)).toNat ((0,0,[],()),([],[],()),[],[],()))).bind fun r1=>bif r1 then b true else zd 1 2 ((wH (List.getD a.1 ((1:Int)).toNat ((0,0,[],()),([],[],()),[],[],()))).bind fun r2=>bif r2 then b true else zd 0 2 ((wG (List.getD a.1 ((0:Int)).toNat ((0,0,[],()),([],[],()),[],[],())).2.1).bind fun r3=>bif r3 then b true else zd 1 2 ((wG (List.getD a.1 ((1:Int)).toNat ((0,0,[],()),([],[],()),[],[],())).2.1).bind fun r4=>b r4))))
def rG(a:ar):Option Bool:=
 zyu a (fun a0=>some a0)
def Vi{R:Type}(a:ar)(b:Int->ar->ar->Option R):Option R:=
 b 0 a (List.replicate 2 ((0,0,[],()),([],[],()),[],[],()),0,())
def H7{R:Type}(a:Int)(b c:ar)(d:Int->ar->ar->Option R)(e:ar->ar->Option R):Option R:=
 bif a<2 then zd a 2 ((tz (List.getD b.1 a.toNat ((0,0,[],()),([],[],()),[],[],())).2.1).bind fun r1=>zd a 2 ((tD (List.getD b.1 a.toNat ((0,0,[],()),([],[],()),[],[],()))).bind fun r2=>zd a 2 (zd a 2 (d (zW zI (a+1)) (List.set (List.set b.1 a.toNat r2) a.toNat ((List.getD (List.set b.1 a.toNat r2) a.toNat ((0,0,[],()),([],[],()),[],[],())).1,r1,(List.getD (List.set b.1 a.toNat r2) a.toNat ((0,0,[],()),([],[],()),[],[],())).2.2.1,(List.getD (List.set b.1 a.toNat r2) a.toNat ((0,0,[],()),([],[],()),[],[],())).2.2.2.1,()),b.2.1,()) c)))) else e b c
def zyt{R:Type}(a b:ar)(c:ar->Option R):Option R:=
 c a
def GH:Nat->Int->ar->ar->Option (ar×ar)
 |0,_,_,_=>none
 |k+1,v0,v1,v2=>H7 v0 v1 v2 (fun a0 a1 a2=>GH k a0 a1 a2) (fun a0 a1=>some (a0,a1))
def tF(a:ar):Option ar:=
 Vi a (fun a0 a1 a2=>(GH af a0 a1 a2).bind fun e=>zyt e.1 e.2 (fun a0=>some a0))
def Vg{R:Type}(a:ar)(b:Int->Int->Int->Option R)(c:Int->ar->Option R):Option R:=
 bif a.2.1<1 then b 5 2 0 else bif 65535<a.2.1 then b 5 2 0 else c 0 a
def H6{R:Type}(a:Int)(b:ar)(c:Int->Int->Int->Option R)(d:Int->ar->Option R)(e:Option R):Option R:=
 bif a<2 then zd a 2 ((tC (List.getD b.1 a.toNat ((0,0,[],()),([],[],()),[],[],()))).bind fun r1=>bif !decide (r1.1=0) then c r1.1 a 1 else zd a 2 (zd a 2 (zd (zW zI (1-a)) 2 ((tw (List.getD b.1 a.toNat ((0,0,[],()),([],[],()),[],[],())).2.1 (List.getD b.1 a.toNat ((0,0,[],()),([],[],()),[],[],())).1 (List.getD b.1 (zW zI (1-a)).toNat ((0,0,[],()),([],[],()),[],[],())).1).bind fun r2=>bif !decide (r2.1=0) then c r2.1 a 2 else d (zW zI (a+1)) b)))) else e
def zyr{R:Type}(a b c:Int)(d:Int->Int->Int->Option R):Option R:=
 d a b c
def zys{R:Type}(a:Int->Int->Int->Option R):Option R:=
 a 0 0 0
def GG:Nat->Int->ar->Option (Sum jW Unit)
 |0,_,_=>none
 |k+1,v0,v1=>H6 v0 v1 (fun a0 a1 a2=>some (.inl (a0,a1,a2))) (fun a0 a1=>GG k a0 a1) (some (.inr ()))
def tE(a:ar):Option jW:=
 Vg a (fun a0 a1 a2=>some (a0,a1,a2)) (fun a0 a1=>(GG af a0 a1).bind fun e=>Sum.elim (fun(we:jW)=>zyr we.1 we.2.1 we.2.2 (fun a0 a1 a2=>some (a0,a1,a2))) (fun(we:Unit)=>zys (fun a0 a1 a2=>some (a0,a1,a2))) e)
def Vj{R:Type}(a:ar)(b:Bool->Option R):Option R:=
 (tE a).bind fun r1=>b (decide (r1.1=0))
def oF(a:ar):Option Bool:=
 Vj a (fun a0=>some a0)
def zyv{R:Type}(a:ar->Option R):Option R:=
 wI.bind fun r1=>tH.bind fun r2=>zd 0 2 (zd 0 2 ((Ca (List.getD (List.set r1.1 ((0:Int)).toNat ((List.getD r1.1 ((0:Int)).toNat ((0,0,[],()),([],[],()),[],[],())).1,((List.getD r1.1 ((0:Int)).toNat ((0,0,[],()),([],[],()),[],[],())).2.1.1,r2,()),(List.getD r1.1 ((0:Int)).toNat ((0,0,[],()),([],[],()),[],[],())).2.2.1,(List.getD r1.1 ((0:Int)).toNat ((0,0,[],()),([],[],()),[],[],())).2.2.2.1,())) ((0:Int)).toNat ((0,0,[],()),([],[],()),[],[],())).2.1).bind fun r3=>zd 1 2 (a (List.set (List.set r1.1 ((0:Int)).toNat ((List.getD r1.1 ((0:Int)).toNat ((0,0,[],()),([],[],()),[],[],())).1,((List.getD r1.1 ((0:Int)).toNat ((0,0,[],()),([],[],()),[],[],())).2.1.1,r2,()),(List.getD r1.1 ((0:Int)).toNat ((0,0,[],()),([],[],()),[],[],())).2.2.1,(List.getD r1.1 ((0:Int)).toNat ((0,0,[],()),([],[],()),[],[],())).2.2.2.1,())) ((1:Int)).toNat ((List.getD (List.set r1.1 ((0:Int)).toNat ((List.getD r1.1 ((0:Int)).toNat ((0,0,[],()),([],[],()),[],[],())).1,((List.getD r1.1 ((0:Int)).toNat ((0,0,[],()),([],[],()),[],[],())).2.1.1,r2,()),(List.getD r1.1 ((0:Int)).toNat ((0,0,[],()),([],[],()),[],[],())).2.2.1,(List.getD r1.1 ((0:Int)).toNat ((0,0,[],()),([],[],()),[],[],())).2.2.2.1,())) ((1:Int)).toNat ((0,0,[],()),([],[],()),[],[],())).1,r3,(List.getD (List.set r1.1 ((0:Int)).toNat ((List.getD r1.1 ((0:Int)).toNat ((0,0,[],()),([],[],()),[],[],())).1,((List.getD r1.1 ((0:Int)).toNat ((0,0,[],()),([],[],()),[],[],())).2.1.1,r2,()),(List.getD r1.1 ((0:Int)).toNat ((0,0,[],()),([],[],()),[],[],())).2.2.1,(List.getD r1.1 ((0:Int)).toNat ((0,0,[],()),([],[],()),[],[],())).2.2.2.1,())) ((1:Int)).toNat ((0,0,[],()),([],[],()),[],[],())).2.2.1,(List.getD (List.set r1.1 ((0:Int)).toNat ((List.getD r1.1 ((0:Int)).toNat ((0,0,[],()),([],[],()),[],[],())).1,((List.getD r1.1 ((0:Int)).toNat ((0,0,[],()),([],[],()),[],[],())).2.1.1,r2,()),(List.getD r1.1 ((0:Int)).toNat ((0,0,[],()),([],[],()),[],[],())).2.2.1,(List.getD r1.1 ((0:Int)).toNat ((0,0,[],()),([],[],()),[],[],())).2.2.2.1,())) ((1:Int)).toNat ((0,0,[],()),([],[],()),[],[],())).2.2.2.1,()),r1.2.1,()))))
def tG:Option ar:=
 zyv (fun a0=>some a0)
def Vw{R:Type}(a:Int)(b:ByteArray)(c:Int->ByteArray->(List ByteArray)->(List Int)->Int->Option R):Option R:=
 c a b [] [] 0
def Vx{R:Type}(a:Int)(b:ByteArray)(c:(List ByteArray))(d:(List Int))(e:Int)(f:ByteArray->(List ByteArray)->Int->(List Int)->Int->(List ByteArray)->(List Int)->Int->Option R)(g:Int->ByteArray->(List ByteArray)->(List Int)->Int->Option R)(h:ByteArray->(List ByteArray)->(List Int)->Int->Option R):Option R:=
 bif 2<=zW zI ((b.size:Int)-e) then zd e b.size (zd (zW zI (e+1)) b.size (bif zW zI (zW zI (zW zI (ze b e.toNat)*256)+zW zI (ze b (zW zI (e+(1:Int))).toNat))=0 then f b c 0 d (zW zI (e+2)) c d e else bif a<zW zI (zW zI (zW zI (ze b e.toNat)*256)+zW zI (ze b (zW zI (e+(1:Int))).toNat)) then f b c 0 d (zW zI (e+2)) c d e else bif zW zI (zW zI ((b.size:Int)-e)-2)<zW zI (zW zI (zW zI (ze b e.toNat)*256)+zW zI (ze b (zW zI (e+(1:Int))).toNat)) then f b c (zW zI ((b.size:Int)-e)) d (-1:Int) c d e else bif 0<=zW zI (zW zI (e+2)+zW zI (zW zI (zW zI (ze b e.toNat)*256)+zW zI (ze b (zW zI (e+(1:Int))).toNat))) then bif zW zI (zW zI (e+2)+zW zI (zW zI (zW zI (ze b e.toNat)*256)+zW zI (ze b (zW zI (e+(1:Int))).toNat)))<=(b.size:Int) then bif 0<=zW zI (e+2) then bif zW zI (e+2)<=(((zW zI (zW zI (e+2)+zW zI (zW zI (zW zI (ze b e.toNat)*256)+zW zI (ze b (zW zI (e+(1:Int))).toNat)))).toNat:Nat):Int) then bif(List.length c+List.length ([(b.extract (zW zI (e+(2:Int))).toNat (zW zI (zW zI (e+(2:Int))+zW zI (zW zI (zW zI (ze b e.toNat)*(256:Int))+zW zI (ze b (zW zI (e+(1:Int))).toNat)))).toNat)]:List ByteArray))*16<=140737488355328 then bif(List.length d+List.length ([(zW zI (zW zI (e+(2:Int))+zW zI (zW zI (zW zI (ze b e.toNat)*(256:Int))+zW zI (ze b (zW zI (e+(1:Int))).toNat))))]:List Int))*8<=140737488355328 then g a b (c++([(b.extract (zW zI (e+(2:Int))).toNat (zW zI (zW zI (e+2)+zW zI (zW zI (zW zI (ze b e.toNat)*256)+zW zI (ze b (zW zI (e+(1:Int))).toNat)))).toNat)]:List ByteArray)) (d++([(zW zI (zW zI (e+2)+zW zI (zW zI (zW zI (ze b e.toNat)*256)+zW zI (ze b (zW zI (e+(1:Int))).toNat))))]:List Int)) (zW zI (zW zI (e+2)+zW zI (zW zI (zW zI (ze b e.toNat)*256)+zW zI (ze b (zW zI (e+(1:Int))).toNat)))) else none else none else none else none else none else none)) else h b c d e
def zz6{R:Type}(a:ByteArray)(b:(List ByteArray))(c:Int)(d:(List Int))(e:Int)(f:(List ByteArray))(g:(List Int))(h:Int)(i:(List ByteArray)->Int->(List Int)->Int->Option R):Option R:=
 i b c d e
def zz7{R:Type}(a:ByteArray)(b:(List ByteArray))(c:(List Int))(d:Int)(e:(List ByteArray)->Int->(List Int)->Int->Option R):Option R:=
 e b (zW zI ((a.size:Int)-d)) c (-1:Int)
def H8:Nat->Int->ByteArray->(List ByteArray)->(List Int)->Int->Option (Sum (ByteArray×(List ByteArray)×Int×(List Int)×Int×(List ByteArray)×(List Int)×Int) (ByteArray×(List ByteArray)×(List Int)×Int))
 |0,_,_,_,_,_=>none
 |k+1,v0,v1,v2,v3,v4=>Vx v0 v1 v2 v3 v4 (fun a0 a1 a2 a3 a4 a5 a6 a7=>some (.inl (a0,a1,a2,a3,a4,a5,a6,a7))) (fun a0 a1 a2 a3 a4=>H8 k a0 a1 a2 a3 a4) (fun a0 a1 a2 a3=>some (.inr (a0,a1,a2,a3)))
def tL(a:Int)(b:ByteArray):Option ((List ByteArray)×Int×(List Int)×Int):=
 Vw a b (fun a0 a1 a2 a3 a4=>(H8 af a0 a1 a2 a3 a4).bind fun e=>Sum.elim (fun(we:(ByteArray×(List ByteArray)×Int×(List Int)×Int×(List ByteArray)×(List Int)×Int))=>zz6 we.1 we.2.1 we.2.2.1 we.2.2.2.1 we.2.2.2.2.1 we.2.2.2.2.2.1 we.2.2.2.2.2.2.1 we.2.2.2.2.2.2.2 (fun a0 a1 a2 a3=>some (a0,a1,a2,a3))) (fun(we:(ByteArray×(List ByteArray)×(List Int)×Int))=>zz7 we.1 we.2.1 we.2.2.1 we.2.2.2 (fun a0 a1 a2 a3=>some (a0,a1,a2,a3))) e)
def Vu{R:Type}(a:ByteArray)(b:ByteArray->Option R):Option R:=
 bif(a.size:Int)=0 then b (bs []) else bif 65535<(a.size:Int) then b (bs []) else bif(strOf ([(zW zU (zW zI (Int.tdiv (a.size:Int) 256))),(zW zU (Int.tmod (a.size:Int) 256))]:List Int)).size+a.size<=9223372036854775807 then b (strOf ([(zW zU (zW zI (Int.tdiv (a.size:Int) 256))),(zW zU (Int.tmod (a.size:Int) 256))]:List Int)++a) else none
def rH(a:ByteArray):Option ByteArray:=
 Vu a (fun a0=>some a0)
def zz4{R:Type}(a:(List ByteArray))(b:Int)(c:(List ByteArray)->Int->Int->Int->Option R):Option R:=
 c a b ((List.length a):Int) 0
def RB{R:Type}(a:(List ByteArray))(b c d:Int)(e:Int->Bool->Int->Option R)(f:(List ByteArray)->Int->Int->Int->Option R)(g:Int->Int->Option R):Option R:=
 bif d<((List.length a):Int) then bif b<c then e b true c else zd d (List.length a) (bif b<((List.getD a d.toNat (bs [])).size:Int) then e b true c else zd d (List.length a) (f a b (zW zI (c+((List.getD a d.toNat (bs [])).size:Int))) (zW zI (d+1)))) else g b c
def Vp{R:Type}(a:Int)(b:Bool)(c:Int)(d:Bool->Option R):Option R:=
 d b
def Vq{R:Type}(a b:Int)(c:Bool->Option R):Option R:=
 c (decide (a<b))
def GI:Nat->(List ByteArray)->Int->Int->Int->Option (Sum Hp (Int×Int))
 |0,_,_,_,_=>none
 |k+1,v0,v1,v2,v3=>RB v0 v1 v2 v3 (fun a0 a1 a2=>some (.inl (a0,a1,a2))) (fun a0 a1 a2 a3=>GI k a0 a1 a2 a3) (fun a0 a1=>some (.inr (a0,a1)))
def wK(a:(List ByteArray))(b:Int):Option Bool:=
 zz4 a b (fun a0 a1 a2 a3=>(GI af a0 a1 a2 a3).bind fun e=>Sum.elim (fun(we:Hp)=>Vp we.1 we.2.1 we.2.2 (fun a0=>some a0)) (fun(we:(Int×Int))=>Vq we.1 we.2 (fun a0=>some a0)) e)
def Vs{R:Type}(a:(List ByteArray))(b:(List ByteArray)->ByteArray->Int->Option R):Option R:=
 b a (bs []) 0
def RC{R:Type}(a:(List ByteArray))(b:ByteArray)(c:Int)(d:(List ByteArray)->ByteArray->Int->Option R)(e:ByteArray->Option R):Option R:=
 bif c<((List.length a):Int) then zd c (List.length a) (bif b.size+(List.getD a c.toNat (bs [])).size<=9223372036854775807 then d a (b++List.getD a c.toNat (bs [])) (zW zI (c+1)) else none) else e b
def Vt{R:Type}(a:ByteArray)(b:ByteArray->Option R):Option R:=
 b a
def GJ:Nat->(List ByteArray)->ByteArray->Int->Option ByteArray
 |0,_,_,_=>none
 |k+1,v0,v1,v2=>RC v0 v1 v2 (fun a0 a1 a2=>GJ k a0 a1 a2) (fun a0=>some a0)
def tK(a:(List ByteArray)):Option ByteArray:=
 Vs a (fun a0 a1 a2=>(GJ af a0 a1 a2).bind fun e=>Vt e (fun a0=>some a0))
def zzd{R:Type}(a b:bY)(c:Bool->Option R)(d:bY->bY->Int->Option R):Option R:=
 bif !decide (((List.length a):Int)=((List.length b):Int)) then c false else d a b 0
def zze{R:Type}(a b:bY)(c:Int)(d:Bool->Option R)(e:bY->bY->Int->Option R)(f:Option R):Option R:=
 bif c<((List.length a):Int) then zd c (List.length a) (zd c (List.length b) (bif !(decide ((List.getD a c.toNat (0,0,bs [],0,())).1=(List.getD b c.toNat (0,0,bs [],0,())).1)&&(decide ((List.getD a c.toNat (0,0,bs [],0,())).2.1=(List.getD b c.toNat (0,0,bs [],0,())).2.1)&&(decide ((List.getD a c.toNat (0,0,bs [],0,())).2.2.1=(List.getD b c.toNat (0,0,bs [],0,())).2.2.1)&&(decide ((List.getD a c.toNat (0,0,bs [],0,())).2.2.2.1=(List.getD b c.toNat (0,0,bs [],0,())).2.2.2.1)&&true)))) then d false else e a b (zW zI (c+1)))) else f
def zzf{R:Type}(a:Bool)(b:Bool->Option R):Option R:=
 b a
def zzg{R:Type}(a:Bool->Option R):Option R:=
 a true
def VC:Nat->bY->bY->Int->Option (Sum Bool Unit)
 |0,_,_,_=>none
 |k+1,v0,v1,v2=>zze v0 v1 v2 (fun a0=>some (.inl a0)) (fun a0 a1 a2=>VC k a0 a1 a2) (some (.inr ()))
def wL(a b:bY):Option Bool:=
 zzd a b (fun a0=>some a0) (fun a0 a1 a2=>(VC af a0 a1 a2).bind fun e=>Sum.elim (fun(we:Bool)=>zzf we (fun a0=>some a0)) (fun(we:Unit)=>zzg (fun a0=>some a0)) e)
def VA{R:Type}(a:ap)(b:Int)(c:ap->Int->Int->Int->Option R):Option R:=
 c a b ((List.length a):Int) 0
def zz9{R:Type}(a:ap)(b c d:Int)(e:Int->Bool->Int->Option R)(f:ap->Int->Int->Int->Option R)(g:Int->Int->Option R):Option R:=
 bif d<((List.length a):Int) then bif b<c then e b true c else zd d (List.length a) (bif b<(((List.getD a d.toNat (0,bs [],())).2.1).size:Int) then e b true c else zd d (List.length a) (f a b (zW zI (c+(((List.getD a d.toNat (0,bs [],())).2.1).size:Int))) (zW zI (d+1)))) else g b c
def zza{R:Type}(a:Int)(b:Bool)(c:Int)(d:Bool->Option R):Option R:=
 d b
def zzb{R:Type}(a b:Int)(c:Bool->Option R):Option R:=
 c (decide (a<b))
def Vz:Nat->ap->Int->Int->Int->Option (Sum Hp (Int×Int))
 |0,_,_,_,_=>none
 |k+1,v0,v1,v2,v3=>zz9 v0 v1 v2 v3 (fun a0 a1 a2=>some (.inl (a0,a1,a2))) (fun a0 a1 a2 a3=>Vz k a0 a1 a2 a3) (fun a0 a1=>some (.inr (a0,a1)))
def rI(a:ap)(b:Int):Option Bool:=
 VA a b (fun a0 a1 a2 a3=>(Vz af a0 a1 a2 a3).bind fun e=>Sum.elim (fun(we:Hp)=>zza we.1 we.2.1 we.2.2 (fun a0=>some a0)) (fun(we:(Int×Int))=>zzb we.1 we.2 (fun a0=>some a0)) e)
end bj

