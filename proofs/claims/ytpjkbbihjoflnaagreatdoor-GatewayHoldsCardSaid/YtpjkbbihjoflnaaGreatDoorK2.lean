/- No condition. -/
import Derived.Test.YtpjkbbihjoflnaaGreatDoorK1
import Derived.OpenShut
import Derived.Deep.Slices
import Derived.Shelf.Strings.Repeat
set_option linter.unusedVariables false
set_option linter.unusedSimpArgs false
set_option maxRecDepth 100000
namespace Go.Ref
open Go
variable {P:Program} {E:Env} {X:ax} {s:State} {a:Act}
def eL(X Y:ax):Prop:=Y.w=X.w/\∀g j p n,X.ow g= .row (.r j p) n->Y.ow g= .row (.r j p) n
theorem eL.refl(X:ax):eL X X:=⟨rfl,fun _ _ _ _ h=>h⟩
theorem eL.trans{X Y Z:ax}(h:eL X Y)(k:eL Y Z):eL X Z:=⟨k.1.trans h.1,fun g j p n e=>k.2 g j p n (h.2 g j p n e)⟩
theorem aA.Aw{X Y:ax}(h:eL X Y)(hx:Ext X Y)(hβ:Y.β=X.β){j:Nat}{sv:SV}{v:Value}(hn:sv.bM=false)(hr:aA X (.r j) sv v):aA Y (.r j) sv v:=by
 cases sv with
 |undef=>trivial
 |skip=>exact hr
 |cD=>exact hr
 |dK=>exact hr
 |over=>exact hr
 |ak t x own=>
  obtain⟨cs,h1,h2,h3⟩:=hr
  refine⟨cs,h1.mono hx,h2,fun p hp=> ?_⟩
  obtain⟨e,t',xs,v,g0,g1,g2,g3⟩:=h3 p hp
  refine⟨e,t',xs,v,g0,g1,g2,?_⟩
  rcases g3 with ho|⟨g,cap,cur,k1,k2,k3,k4,k5,k6⟩
  ·exact .inl ho
  ·exact .inr ⟨g,cap,cur,k1,by rw[h.1];exact k2,k3,k4,k5,h.2 _ _ _ _ k6⟩
 |ptr id t p=>obtain⟨r,h1,h2⟩:=hr;exact⟨r,by rw[hβ];exact h1,h2⟩
 |view t x=>
  obtain⟨ad,cs,h1,h2,h3,h4⟩:=hr
  exact⟨ad,cs,h1,h2,h3.mono hx,fun i u hi=>hx.az _ _ (h4 i u hi)⟩
 |cap f t x u y=>exact rh hx.az hr
 |bA id a b k=>cases hn
theorem acq{X:ax}{i j:Nat}{q:List Nat->Place}:eL X (X.turn i j q):=⟨rfl,fun g j p n h=>by simp only[ax.turn,h]⟩
theorem abm{X:ax}{id:Nat}{p:List Nat}{q:List Nat->Place}:eL X (X.gy id p q):=⟨rfl,fun g j p n h=>by simp only[ax.gy,h]⟩
theorem Cw(hE:aq P E):∀(rs:List ResultVar) (X:ax) (s s':State) (l:List SV) (j0:Nat),Rel X s a->gv E s rs=some (l,s')->
 ∃Y vs,Y.w=X.w/\Ext X Y/\eL X Y/\Y.β=X.β/\Rel Y s' a/\vs.length=l.length/\(∀(j:Nat) sv v,l[j]? =some sv->vs[j]? =some v->aA Y (.r (j0+j)) sv v)/\l.any SV.bM=false/\
  (rs.mapM (m:=Sem) fun x=>match x with
    | .tmp t=>pure (a.tmps.getD t Go.undef)
    | .cell ad t=>do loadVar t (<-asAddr (a.tmps.getD ad Go.undef))).run P X.w= .ok vs X.w
 | [],X,s,s',l,j0,hr,h=>by
   simp only[gv,Option.some.injEq,Prod.mk.injEq] at h
   obtain⟨rfl,rfl⟩:=h
   exact⟨X,[],rfl,Ext.refl X,eL.refl X,rfl,hr,rfl,(fun j sv v hl=>by simp at hl),rfl,by simp⟩
 | .tmp t::r,X,s,s',l,j0,hr,h=>by
   simp only[gv] at h
   split at h
   case isTrue=>cases h
   rename_i dM
   have dM:(one (s.slot t)).bM=false:=by simpa using dM
   split at h
   case h_2=>cases h
   rename_i l1 s1 h1
   cases h
   have key:∃Y,Y.w=X.w/\Ext X Y/\eL X Y/\Y.β=X.β/\Rel Y (s.close [(t,0)]) a/\aA Y (.r j0) (one (s.slot t)) (a.tmps.getD t Go.undef):=by
    have cA:=hr.aH (.tmp t)
    cases hs:one (s.slot t) with
    |ak ty x w=>
     have cA:aA X (.c t 0) (one (s.slot t)) (a.tmps.getD t Go.undef):=cA
     rw[hs] at cA
     obtain⟨cs,g1,g2,g3⟩:=cA
     have hT:dP (s.close [(t,0)]) X (X.turn t 0 (.r j0)):=Ld fun p=>cS.close
     exact⟨X.turn t 0 (.r j0),rfl,hT.ext,acq,rfl,(hr.close _).mod hT.mod,cs,g1.aj (fun _ _=>hT.az.1),g2,g3.lZ⟩
    |bA id c b n=>rw[hs] at dM;cases dM
    |_=>
     refine⟨X,rfl,Ext.refl X,eL.refl X,rfl,hr.close _,?_⟩
     have cA:aA X (.c t 0) (one (s.slot t)) (a.tmps.getD t Go.undef):=cA
     rw[hs] at cA
     exact cA
   obtain⟨Y,hw,aZ,bS,hβ,bq,aL⟩:=key
   obtain⟨Z,vs,uP,b7,tR,hβ2,cX,hlen,mW,tJ,aW⟩:=Cw hE r Y _ s' l1 (j0+1) bq h1
   refine⟨Z,a.tmps.getD t Go.undef::vs,uP.trans hw,aZ.trans b7,bS.trans tR,hβ2.trans hβ,cX,by simp [hlen],fun j sv v hl hv=> ?_,?_,?_⟩
   ·cases j with
    |zero=>
     simp only[List.getElem?_cons_zero,Option.some.injEq] at hl hv
     subst hl hv
     exact aL.Aw tR b7 hβ2 dM
    |succ j=>
     simp only[List.getElem?_cons_succ] at hl hv
     rw[show j0+(j+1)=j0+1+j by omega]
     exact mW j sv v hl hv
   ·simp only[List.any_cons,dM,tJ,Bool.or_self]
   ·rw[hw] at aW
    simp only[List.mapM_cons,Sem.run_bind,Sem.run_pure,Result.andThen_ok,aW]
 | .cell p T::r,X,s,s',l,j0,hr,h=>by
   simp only[gv] at h
   split at h
   case h_2=>cases h
   rename_i id tt t hI hT
   split at h
   case h_2=>cases h
   rename_i B hB
   split at h
   case isFalse=>cases h
   rename_i heq
   rw[Bool.and_eq_true] at heq
   have dU:tt.bH=false:=by simpa using heq.2
   have hte:=Ty.aJ heq.1
   have XP:B.t.bH=false:=hte▸hE.iE hT
   split at h
   case h_2=>cases h
   rename_i l1 s1 h1
   cases h
   have hb:=qd hB
   obtain⟨r0,hβ,tk⟩:=hr.boxes id B hb
   obtain⟨cs,T',aD,aL,how,bR⟩:=tk.cells XP
   have dX:=hr.slot p
   rw[hI] at dX
   obtain⟨r1,hβ1,hvp⟩:aA X (.c p 0) (.ptr id tt []) (a.tmps.getD p Go.undef):=dX
   obtain⟨hv,_⟩:=(qc dU).1 hvp
   rw[hβ] at hβ1
   cases hβ1
   have eH:Rel X (s.aC (some (id,{B with own:=[]}))) a:=hr.lY hb hβ ⟨how,dm.of XP aD aL mg⟩ (.inl (Po XP))
   have E7:∀q,¬cS (s.aC (some (id,{B with own:=[]}))) (.b id ([]++q)):=by
    rintro q ⟨B2,cR,hp⟩
    rw[QV hb] at cR
    cases cR
    cases hp
   have l8:=zva (X:=X) (q:= .r j0) E7
   have Ja:aA (X.gy id [] (.r j0)) (.r j0) (.ak B.t B.x B.own) (dJ B.t cs.toList):=by
    refine⟨cs.toList,aL.aj (fun _ _=>l8.az.1),rfl,fun q hq=> ?_⟩
    obtain⟨e,t',xs,v,g0,g1,g2,g3⟩:=bR q hq
    exact⟨e,t',xs,v,g0,g1,g2,bn.qa (p:=[]) g3⟩
   obtain⟨Z,vs,uP,b7,tR,hβ2,cX,hlen,mW,tJ,aW⟩:=Cw hE r (X.gy id [] (.r j0)) _ s' l1 (j0+1) (eH.mod l8.mod) h1
   refine⟨Z,dJ B.t cs.toList::vs,uP,l8.ext.trans b7,abm.trans tR,hβ2,cX,by simp [hlen],fun j sv v hl hv=> ?_,?_,?_⟩
   ·cases j with
    |zero=>
     simp only[List.getElem?_cons_zero,Option.some.injEq] at hl hv
     subst hl hv
     exact Ja.Aw tR b7 hβ2 rfl
    |succ j=>
     simp only[List.getElem?_cons_succ] at hl hv
     rw[show j0+(j+1)=j0+1+j by omega]
     exact mW j sv v hl hv
   ·simpa [SV.bM] using tJ
   ·have hl:=AD (P:=P) hE (hte▸hT:E.ty T=some B.t) aL (ad:=⟨r0,0,none⟩) (w:=X.w) (fun i v hi=>by
     rw[iq,Nat.zero_add]
     simp only[World.cell?,aD]
     simpa using hi)
    have hw3:(X.gy id [] (.r j0)).w=X.w:=rfl
    rw[hw3] at aW
    have iQ:a.tmps.getD p Go.undef= .pointer (some ⟨r0,0,none⟩):=by simpa [Ty.off] using hv
    have ha:(asAddr (.pointer (some ⟨r0,0,none⟩))).run P X.w= .ok ⟨r0,0,none⟩ X.w:=by simp [asAddr]
    simp only[List.mapM_cons,Sem.run_bind,Sem.run_pure,Result.andThen_ok,aW,iQ,ha,hl]
def ax.zero(X:ax)(id:Nat):ax:=
 {X with ow:=fun g=>match X.ow g with
  | .box bc=>if bc=id then .box 0 else .box bc
  | .row (.b bc p) n=>if bc=id then .row (.b 0 p) n else .row (.b bc p) n
  |w=>w}
theorem Fs{id:Nat}{ad:Addr}{v:Value}(h:X.az ad v):(X.zero id).az ad v:=by
 refine⟨h.1,h.2.1,?_⟩
 have:=h.2.2
 simp only[ax.zero]
 cases hx:X.ow ad.block with
 |box i=>rw[hx] at this;exact this.elim
 |row pl n=>
  rw[hx] at this
  cases pl with
  |b i p=>simp only;split<;>exact this
  |_=>exact this
 |_=>rw[hx] at this;exact this
theorem ajh{id:Nat}:Ext X (X.zero id) where
 az:=fun _ _=>Fs
 size:=Nat.le_refl _
 os:=rfl
 tape:=rfl
 output:=rfl
 β0:=rfl
 still:=fun g _ bS=>by
  refine⟨?_,rfl⟩
  simp only[ax.zero]
  cases hx:X.ow g with
  |box i=>rw[hx] at bS;exact bS.elim
  |row pl n=>rw[hx] at bS;exact bS.elim
  |_=>rfl
theorem bD.zero{id r:Nat}{B:bC}(h:bD X id r B):bD (X.zero id) 0 r B:=by
 obtain⟨h3,h1⟩:=h
 refine⟨by simp [ax.zero,h3],h1.move (fun _ _=>Fs) rfl (fun cs h4 p hp=> ?_) fun _ _ g o _ ho hw=>⟨ho,by simp [ax.zero,hw]⟩⟩
 obtain⟨e,t',xs,v,g0,g1,g2,g3⟩:=h4 p hp
 refine⟨e,t',xs,v,g0,g1,g2,?_⟩
 rcases g3 with ho|⟨g,cap,cur,k1,k2,k3,k4,k5,k6⟩
 ·exact .inl ho
 ·exact .inr ⟨g,cap,cur,k1,k2,k3,k4,k5,by simp [ax.zero,k6]⟩
theorem aA.zero{id j r0:Nat}{sv:SV}{v:Value}(hp:∀bc t p,sv= .ptr bc t p->X.β bc=some r0)(hn:sv.bM=false)(h:aA X (.r j) sv v):aA {X.zero id with β:=fun _=>some r0} (.r j) (sv.fY 0) v:=by
 cases sv with
 |undef=>trivial
 |skip=>exact h
 |cD=>exact h
 |dK=>exact h
 |over=>exact h
 |ak t x own=>
  obtain⟨cs,h1,h2,h3⟩:=h
  refine⟨cs,bf.aj (Y:={X.zero id with β:=fun _=>some r0}) (fun ad v hs=>(Fs hs:(X.zero id).az ad v)) h1,h2,fun p hp=> ?_⟩
  obtain⟨e,t',xs,v,g0,g1,g2,g3⟩:=h3 p hp
  refine⟨e,t',xs,v,g0,g1,g2,?_⟩
  rcases g3 with ho|⟨g,cap,cur,k1,k2,k3,k4,k5,k6⟩
  ·exact .inl ho
  ·exact .inr ⟨g,cap,cur,k1,k2,k3,k4,k5,by simp [ax.zero,k6]⟩
 |ptr bc t p=>
  obtain⟨r,h1,h2⟩:=h
  have:=hp bc t p rfl
  rw[h1] at this
  cases this
  exact⟨r0,rfl,h2⟩
 |view t x=>
  obtain⟨ad,cs,h1,h2,h3,h4⟩:=h
  exact⟨ad,cs,h1,h2,bf.aj (Y:={X.zero id with β:=fun _=>some r0}) (fun ad v hs=>(Fs hs:(X.zero id).az ad v)) h3,fun i u hi=>(Fs (h4 i u hi):(X.zero id).az _ _)⟩
 |cap f t x u y=>exact rh (Y:={X.zero id with β:=fun _=>some r0}) (fun ad v hs=>(Fs hs:(X.zero id).az ad v)) h
 |bA bc a b k=>cases hn
theorem aA.anyβ{j r0:Nat}{sv:SV}{v:Value}(hp:∀bc t p,sv≠ .ptr bc t p)(hn:sv.bM=false)(h:aA X (.r j) sv v):aA {X with β:=fun _=>some r0} (.r j) sv v:=by
 cases sv with
 |undef=>trivial
 |skip=>exact h
 |cD=>exact h
 |dK=>exact h
 |over=>exact h
 |ak t x own=>
  obtain⟨cs,h1,h2,h3⟩:=h
  exact⟨cs,bf.aj (X:=X) (Y:={X with β:=fun _=>some r0}) (fun ad v (hs:X.az ad v)=>(hs:({X with β:=fun _=>some r0}:ax).az ad v)) h1,h2,h3⟩
 |ptr bc t p=>exact absurd rfl (hp bc t p)
 |view t x=>
  obtain⟨ad,cs,h1,h2,h3,h4⟩:=h
  exact⟨ad,cs,h1,h2,bf.aj (X:=X) (Y:={X with β:=fun _=>some r0}) (fun ad v (hs:X.az ad v)=>(hs:({X with β:=fun _=>some r0}:ax).az ad v)) h3,h4⟩
 |cap f t x u y=>exact rh (X:=X) (Y:={X with β:=fun _=>some r0}) (fun ad v (hs:X.az ad v)=>(hs:({X with β:=fun _=>some r0}:ax).az ad v)) h
 |bA bc a b k=>cases hn
theorem RD:∀{l:List SV} {id:Nat} {t:Ty} {p:List Nat},SV.ptr id t p∈l->id∈A0 l
 |v::r,id,t,p,h=>by
  rcases List.mem_cons.1 h with e|h
  ·subst e;simp [A0]
  ·have:=RD h
   cases v<;>simp [A0,this]
theorem Cv{l:List SV}{vs:List Value}(hlen:vs.length=l.length)(h:∀(j:Nat) sv v,l[j]? =some sv->vs[j]? =some v->aA X (.r j) sv v):cI X .r l (if h:vs.toArray.size=1 then vs.toArray[0] else .tuple vs.toArray):=by
 match l,vs,hlen with
 | [sv],[v],_=>exact h 0 sv v rfl rfl
 | [],[],_=>exact⟨#[],rfl,rfl,fun j s u hs=>by simp at hs⟩
 |x::y::r,u::v::w,hlen=>
  refine⟨(u::v::w).toArray,by simp,by simpa using hlen,fun j s z hs hz=>h j s z hs (by simpa using hz)⟩
theorem aaF{Z:ax}{s':State}{b:Option bC}{l' r:List SV}{b':Option bC}{vs:List Value}(hX:Ext X Z)(cX:Rel Z s' a)(hlen:vs.length=l'.length)(iA:∀(j:Nat) sv v,l'[j]? =some sv->vs[j]? =some v->aA Z (.r j) sv v)
 (dM:l'.any SV.bM=false) (eR:F4 s' b l' (fun r b=>some (r,b))=some (r,b')):∃Y',Y'.w=Z.w/\Ext X Y'/\xV X Y' b r b' (if h:vs.toArray.size=1 then vs.toArray[0] else .tuple vs.toArray):=by
 unfold F4 at eR
 cases b with
 |some B=>
  cases hp:A0 l' with
  |cons _ _=>rw[hp] at eR;cases eR
  |nil=>
   rw[hp] at eR
   have nv:∀id t p,SV.ptr id t p∉l':=fun id t p hm=>by
    have:=RD hm
    rw[hp] at this;cases this
   cases eb:s'.box 0 with
   |none=>simp only[eb] at eR;cases eR
   |some B'=>
    simp only[eb] at eR
    cases eR
    obtain⟨r0,h3,h4⟩:=cX.boxes 0 B' (qd eb)
    refine⟨Z,rfl,hX,r0,Cv hlen fun j sv v h1 h2=>(iA j sv v h1 h2).anyβ (fun id t p e=>nv id t p (e▸List.mem_of_getElem? h1)) (by simpa using List.any_eq_false.1 dM sv (List.mem_of_getElem? h1)),fun B2 cR=> ?_,fun _=>nv,dM⟩
    cases cR
    exact⟨h4,fun _=>by rw[<-hX.β0];exact h3⟩
 |none=>
  cases hp:A0 l' with
  |nil=>
   rw[hp] at eR
   have nv:∀id t p,SV.ptr id t p∉l':=fun id t p hm=>by
    have:=RD hm
    rw[hp] at this;cases this
   cases eR
   exact⟨Z,rfl,hX,0,Cv hlen fun j sv v h1 h2=>(iA j sv v h1 h2).anyβ (fun id t p e=>nv id t p (e▸List.mem_of_getElem? h1)) (by simpa using List.any_eq_false.1 dM sv (List.mem_of_getElem? h1)),(fun B2 cR=>by cases cR),fun _=>nv,dM⟩
  |cons id rest=>
   rw[hp] at eR
   cases rest with
   |cons _ _=>cases eR
   |nil=>
    cases hB:s'.box id with
    |none=>simp only[hB] at eR;cases eR
    |some B=>
     simp only[hB] at eR
     cases eR
     obtain⟨r0,h3,h4⟩:=cX.boxes id B (qd hB)
     refine⟨Z.zero id,rfl,hX.trans ajh,r0,?_,fun B2 cR=> ?_,fun hh=> ?_,K1 dM⟩
     ·refine Cv (by simpa using hlen) fun j sv v h1 h2=> ?_
      rw[List.getElem?_map] at h1
      obtain⟨s0,eS,rfl⟩:=Option.map_eq_some_iff.1 h1
      refine(iA j s0 v eS h2).zero (fun bc t p e=> ?_) (by simpa using List.any_eq_false.1 dM s0 (List.mem_of_getElem? eS))
      have:=RD (e▸List.mem_of_getElem? eS)
      rw[hp] at this
      simp only[List.mem_singleton] at this
      subst this
      exact h3
     ·cases cR
      exact⟨h4.zero,fun hh=>by cases hh⟩
     ·rcases hh with hh|hh<;>cases hh
theorem Rm:∀(ts:List Ty) (l:List SV),(aM ts l).length=l.length
 | [],l=>by simp [aM]
 |t::r,[]=>by simp [aM]
 |t::r,v::q=>by
  cases t<;>cases v<;>simp [aM,Rm r q]
theorem z124{X:ax}:∀(ts:List Ty) (l:List SV) (i:Nat) (sv:SV) (v:Value),(aM ts l)[i]? =some sv->(∀sv,l[i]? =some sv->∃pl,aA X pl sv v)->∀q,(∃xk,l[i]? =some xk/\(sv=xk\/sv=xk.shut\/xk= .cD))/\((∀xk,l[i]? =some xk->aA X q xk v)->aA X q sv v)
 | [],l,i,sv,v,h,_,q=>by
   have h:l[i]? =some sv:=by simpa [aM] using h
   exact⟨⟨sv,h,.inl rfl⟩,fun hh=>hh sv h⟩
 |t::r,[],i,sv,v,h,_,q=>by simp [aM] at h
 |t::r,x::y,i,sv,v,h,hx,q=>by
  cases i with
  |zero=>
   have key:(aM (t::r) (x::y))[0]? =some sv->(sv=x.shut)\/(x= .cD/\∃e u,sv= .ak (.sl e u) ([]:List (El u)) []):=by
    intro h
    cases t<;>cases x<;>simp only[aM,List.getElem?_cons_zero,Option.some.injEq] at h<;>first|exact .inl h.symm|exact .inr ⟨rfl,_,_,h.symm⟩
   rcases key h with rfl|⟨rfl,e,u,rfl⟩
   ·exact⟨⟨x,rfl,.inr (.inl rfl)⟩,fun hh=>(hh x rfl).shut⟩
   ·refine⟨⟨_,rfl,.inr (.inr rfl)⟩,fun hh=> ?_⟩
    have:=hh _ rfl
    exact⟨[.slice none 0 0],⟨none,0,rfl,Nat.le_refl _,fun j x hj=>by simp at hj⟩,this,mg⟩
  |succ i=>
   have h':(aM r y)[i]? =some sv:=by
    cases t<;>cases x<;>simpa [aM] using h
   have:=z124 r y i sv v h' (fun sv hs=>hx sv (by simpa using hs)) q
   simpa using this
theorem afh{ts:List Ty}{l:List SV}{id:Nat}{t:Ty}{p:List Nat}(h:SV.ptr id t p∈aM ts l):SV.ptr id t p∈l:=by
 induction ts generalizing l with
 |nil=>simpa [aM] using h
 |cons u r ih=>
  cases l with
  |nil=>simp [aM] at h
  |cons v q=>
   have key:SV.ptr id t p=v.shut\/SV.ptr id t p∈aM r q:=by
    cases u<;>cases v<;>simp [aM,SV.shut] at h⊢ <;>first|exact h|exact .inr h|skip
   rcases key with e|hm
   ·rw[RE e.symm];simp
   ·exact List.mem_cons_of_mem _ (ih hm)
theorem afg{ts:List Ty}{l:List SV}{id j:Nat}{c d:Ty}(h:SV.bA id c d j∈aM ts l):SV.bA id c d j∈l:=by
 induction ts generalizing l with
 |nil=>simpa [aM] using h
 |cons u r ih=>
  cases l with
  |nil=>simp [aM] at h
  |cons v q=>
   have key:SV.bA id c d j=v.shut\/SV.bA id c d j∈aM r q:=by
    cases u<;>cases v<;>simp [aM,SV.shut] at h⊢ <;>first|exact h|exact .inr h|skip
   rcases key with e|hm
   ·have:=zq6 v
    rw[<-e] at this
    cases this
   ·exact List.mem_cons_of_mem _ (ih hm)
theorem ak5(hE:aq P E)(hm:P.follows .mixedOrders=true){C C0:ah}(hC0:C0.Nat)(XE:∀f,cT P C0 f){f:FuncId}{fn:Func}{code:Code}(io:P.funcs[f]? =some fn)(tG:(fn.name== "runtime.NumGoroutine")=false)(pY:fn.body=some code)
 (hC:∀(l:List SV) (b:Option bC) (r:List SV) (b':Option bC),C (List SV×Option bC) f l b (fun r b=>some (r,b))=some (r,b')->∃k,jj E (C0 (List SV×Option bC)) k fn code l b (fun r b=>some (r,b))=some (r,b')):cT P C f:=by
 intro l b r b' h
 refine⟨⟨fn,code,io,tG,pY⟩,fun X args gN=> ?_⟩
 obtain⟨k,h⟩:=hC l b r b' h
 unfold jj at h
 cases hg:(E.sp.isSome&&b.isSome) with
 |true=>rw[hg] at h;cases h
 |false=>
 rw[hg,cond_false] at h
 have hF:Fr E X:=fun bK=>gN.rows (by
  cases hE2:E.sp with
  |none=>exact absurd hE2 bK
  |some z=>
   cases b with
   |none=>rfl
   |some B=>rw[hE2] at hg;cases hg)
 simp only at h
 obtain⟨⟨e,s⟩,h1,h2⟩:=jx (ve hC0 code _ (fun e s=>some (e,s)) (K:=fun z=>match z.1 with
  | .exit _=>none
  |_=>match gv E z.2 fn.results.toList with
   |some (l,s')=>F4 s' b (gu E l) (fun r b=>some (r,b))
   |none=>none) (fun e s=>by cases e<;>rfl) _) h
 refine calls_of_wp io pY ?_
 have du:=gN.size
 refine DQ hE hm hC0 XE k code X X _ _ e s hF (Ext.refl X) (?_:Rel X _ _) h1 _ fun Y a' aZ bq=> ?_
 ·have dM:=Rm E.ps l
  refine⟨by simp [du,dM],by simp [dM],fun i sl v hs hv=> ?_,fun id B hB=> ?_,fun i sl id t p hs hm=> ?_,rfl,fun i sl id c d n hs hm=> ?_⟩
  ·by_cases hi:i<l.length
   ·rw[List.getElem?_append_left (by simpa [dM] using hi),List.getElem?_map] at hs
    obtain⟨sv,jt,rfl⟩:=Option.map_eq_some_iff.1 hs
    rw[Array.getElem?_append_left (by omega)] at hv
    exact(z124 E.ps l i sv v jt (fun sv h0=>⟨_,gN.rep i sv v h0 hv⟩) (.c i 0)).2 fun xk h0=>gN.rep i xk v h0 hv
   ·rw[List.getElem?_append_right (by simp [dM];omega),List.getElem?_replicate] at hs
    split at hs
    ·cases hs;trivial
    ·cases hs
  ·cases id with
   |zero=>
    simp only[List.getElem?_cons_zero,Option.some.injEq] at hB
    exact gN.box B hB
   |succ id=>
    simp only[List.getElem?_cons_succ,List.getElem?_replicate] at hB
    split at hB<;>cases hB
  ·by_cases hi:i<l.length
   ·rw[List.getElem?_append_left (by simpa [dM] using hi),List.getElem?_map] at hs
    obtain⟨sv,jt,rfl⟩:=Option.map_eq_some_iff.1 hs
    simp only[List.mem_singleton] at hm
    subst hm
    obtain⟨rfl,hb⟩:=gN.ptr id t p (afh (List.mem_of_getElem? jt))
    cases b with
    |none=>cases hb
    |some B=>exact⟨B,rfl⟩
   ·rw[List.getElem?_append_right (by simp [dM];omega),List.getElem?_replicate] at hs
    split at hs
    ·cases hs;simp at hm
    ·cases hs
  ·exfalso
   by_cases hi:i<l.length
   ·rw[List.getElem?_append_left (by simpa [dM] using hi),List.getElem?_map] at hs
    obtain⟨sv,jt,rfl⟩:=Option.map_eq_some_iff.1 hs
    simp only[List.mem_singleton] at hm
    subst hm
    exact WM gN.od (afg (List.mem_of_getElem? jt))
   ·rw[List.getElem?_append_right (by simp [dM];omega),List.getElem?_replicate] at hs
    split at hs
    ·cases hs;simp at hm
    ·cases hs
 ·
  have X6:∃l s',gv E s fn.results.toList=some (l,s')/\F4 s' b (gu E l) (fun r b=>some (r,b))=some (r,b')/\(e= .normal\/e= .ret):=by
   cases e with
   |exit id=>cases h2
   |normal=>
    simp only at h2
    split at h2
    ·exact⟨_,_,by assumption,h2,.inl rfl⟩
    ·cases h2
   |ret=>
    simp only at h2
    split at h2
    ·exact⟨_,_,by assumption,h2,.inr rfl⟩
    ·cases h2
  obtain⟨l',s',eH,eR,he⟩:=X6
  obtain⟨Z,vs,hw,b7,bS,hβ,cX,hlen,mW,XQ,aW⟩:=Cw hE fn.results.toList Y s s' l' 0 bq eH
  have Ag:(results fn a'.tmps).run P Y.w= .ok (if h:vs.toArray.size=1 then vs.toArray[0] else .tuple vs.toArray) Y.w:=by
   unfold results
   simp only[Array.mapM_eq_mapM_toList,Sem.run_bind,Sem.run_map,Sem.run_pure,Result.andThen_ok]
   exact congrArg (fun r:Result (List Value)=>(r.andThen fun a w'=>Result.ok a.toArray w').andThen fun a w'=>Result.ok (if h:a.size=1 then a[0] else Value.tuple a) w') aW
  have hX:Ext X Z:=aZ.trans b7
  have iA:∀(j:Nat) sv v,l'[j]? =some sv->vs[j]? =some v->aA Z (.r j) sv v:=fun j sv v h1 h2=>by
   have:=mW j sv v h1 h2
   rwa [Nat.zero_add] at this
  have IW:vs.length=(gu E l').length:=by
   unfold gu
   cases E.ro<;>simpa using hlen
  have BV:∀(j:Nat) sv v,(gu E l')[j]? =some sv->vs[j]? =some v->aA Z (.r j) sv v:=fun j sv v h1 h2=>by
   unfold gu at h1
   cases hro:E.ro with
   |false=>rw[hro] at h1;exact iA j sv v h1 h2
   |true=>
    rw[hro,cond_true,List.getElem?_map] at h1
    obtain⟨s0,eS,rfl⟩:=Option.map_eq_some_iff.1 h1
    exact aA.fq (iA j s0 v eS h2)
  have tJ:(gu E l').any SV.bM=false:=by
   unfold gu
   cases E.ro with
   |false=>exact XQ
   |true=>exact zi4 l'
  have fin:=aaF (b:=b) hX cX IW BV tJ eR
  obtain⟨Y',Qu,hX',hL⟩:=fin
  have Qu:=Qu.trans hw
  rcases he with rfl|rfl
  ·exact⟨bq.defers,_,Ag,Y',Qu,hX',hL⟩
  ·exact⟨bq.defers,_,Ag,Y',Qu,hX',hL⟩
end Go.Ref

namespace Go.Ref
open Go
variable {P:Program} {E:Env}
def Wf:(t:Ty)->El t->Prop
 | .bool,_=>True
 | .int k,n=>(Lit.int k n).wf=true
 | .str,s=>s.size<=maxLen
 | .sl _ t,xs=>List.length xs<=maxLen/\∀x∈(xs:List (El t)),Wf t x
 | .arr n t,xs=>List.length xs=n/\∀x∈(xs:List (El t)),Wf t x
 | .unit,_=>True
 | .pair a b,x=>Wf a x.1/\Wf b x.2
 | .aG _ _ _,_=>False
theorem Fj(hE:aq P E){T:TypeId}{t:Ty}(ht:E.ty T=some t):P.cellsOf T=t.cells:=by
 obtain⟨i,h1,h2,_⟩:=(hE.ty T t ht).info
 simp [Program.cellsOf,h1,h2]
def Ty.fZ:Ty->Bool
 | .sl _ t=> !(Nat.beq t.cells 0)&&t.fZ
 | .arr _ t=>t.fZ
 | .pair a b=>a.fZ&&b.fZ
 |_=>true
def uC(w:World)(β:Nat->Option Nat):ax:=⟨w,fun _=> .all,β⟩
theorem afj{w:World}{β:Nat->Option Nat}{a:Addr}{v:Value}(h:w.cell? a=some v):(uC w β).az a v:=⟨World.cell?_spot h,h,trivial⟩
theorem znb{α:Type}{n:Nat}{p:Nat->α->Prop}(h:∀i,i<n->∃x,p i x):∃xs:List α,xs.length=n/\∀(i:Nat) x,xs[i]? =some x->p i x:=by
 induction n with
 |zero=>exact⟨[],rfl,fun i x hi=>by simp at hi⟩
 |succ n ih=>
  obtain⟨xs,h1,h2⟩:=ih fun i hi=>h i (by omega)
  obtain⟨y,hy⟩:=h n (by omega)
  refine⟨xs++ [y],by simp [h1],fun i x hi=> ?_⟩
  rw[List.getElem?_append] at hi
  split at hi
  ·exact h2 i x hi
  ·rename_i ar
   have tz:i-xs.length=0:=by
    have:=(List.getElem?_eq_some_iff.1 hi).1
    simp at this
    omega
   rw[tz] at hi
   simp only[List.getElem?_cons_zero,Option.some.injEq] at hi
   subst hi
   have:i=n:=by omega
   subst this
   exact hy
section
variable {H:Type} {enc:TypeId×Value->H} {w:World} {base:Nat} {spare:Nat->Bool} {held:Bool} {β:Nat->Option Nat}
theorem ali(hE:aq P E):∀t:Ty,
 (∀(T:TypeId) (cm:Nat) (cs:List Value) (x:DataW H×List MemPlace),E.ty T=some t->t.fZ=true->DataW.trod enc P w base spare held cm T cs=some x->∃y:El t,bf (uC w β) t y cs/\Wf t y)/\
 (∀(fl:List Field) (off cm:Nat) (cs:List Value),ja E fl t off->t.fZ=true->off+t.cells<=cs.length->(∀f∈fl,∃x,DataW.trod enc P w base spare held cm f.type ((cs.drop f.offset).take (P.cellsOf f.type))=some x)->
   ∃y:El t,bf (uC w β) t y ((cs.drop off).take t.cells)/\Wf t y):=by
 intro t
 have lh:∀{t:Ty},t.de=false->t≠ .unit->∀(fl:List Field) (off:Nat),¬ja E fl t off:=by
  intro t h1 h2 fl off h
  cases t<;>cases fl<;>simp_all [ja,Ty.de]
 induction t with
 |aG k a b _ _=>exact⟨fun T cm cs x hT hJ h=>absurd (hE.iE hT) (by simp [Ty.bH]),fun fl off cm cs hf=>absurd hf (lh rfl (by simp) fl off)⟩
 |bool=>
  refine⟨fun T cm cs x hT hJ h=> ?_,fun fl off cm cs hf=>absurd hf (lh rfl (by simp) fl off)⟩
  have hu:=(hE.ty T _ hT).di
  cases cm with
  |zero=>simp [DataW.trod] at h
  |succ m=>
   unfold DataW.trod at h
   rw[hu] at h
   split at h<;>try(first|cases h;done|(simp_all;done))
   rename_i b _
   exact⟨b,rfl,trivial⟩
 |int k=>
  refine⟨fun T cm cs x hT hJ h=> ?_,fun fl off cm cs hf=>absurd hf (lh rfl (by simp) fl off)⟩
  have hu:=(hE.ty T _ hT).di
  cases cm with
  |zero=>simp [DataW.trod] at h
  |succ m=>
   unfold DataW.trod at h
   rw[hu] at h
   split at h<;>simp_all
   rename_i k1 k2 n hk
   subst hk
   exact⟨n,rfl,h.1.2⟩
 |str=>
  refine⟨fun T cm cs x hT hJ h=> ?_,fun fl off cm cs hf=>absurd hf (lh rfl (by simp) fl off)⟩
  have hu:=(hE.ty T _ hT).di
  cases cm with
  |zero=>simp [DataW.trod] at h
  |succ m=>
   unfold DataW.trod at h
   rw[hu] at h
   split at h<;>simp_all
   rename_i s
   exact⟨s,rfl,h.1⟩
 |sl e t ih=>
  refine⟨fun T cm cs x hT hJ h=> ?_,fun fl off cm cs hf=>absurd hf (lh rfl (by simp) fl off)⟩
  obtain⟨hu,he⟩:=(hE.ty T _ hT).di
  have hc:=Fj hE he
  rcases Go.Deep.open_slice hu h with⟨rfl,_⟩|⟨a,len,cap,m,n,D,Pl,rfl,hb,hl,hm,E6,_,fC⟩
  ·exact⟨[],⟨none,0,rfl,Nat.le_refl _,fun j x hj=>by simp at hj⟩,by simp [maxLen],fun x hx=>by cases hx⟩
  ·have hlm:len<=m:=by rw[E6];split<;>omega
   have hk:0<t.cells/\t.fZ=true:=by
    simp only[Ty.fZ,Bool.and_eq_true,Bool.not_eq_true'] at hJ
    refine⟨?_,hJ.2⟩
    rcases Nat.eq_zero_or_pos t.cells with h0|h0
    ·rw[h0] at hJ;simp at hJ
    ·exact h0
   obtain⟨ys,h1,h2⟩:=znb (n:=len) (p:=fun i (y:El t)=>∃ey,w.cells? base (a.add (i*t.cells)) t.cells=some ey/\bf (uC w β) t y ey/\Wf t y) (fun i hi=>by
    obtain⟨ey,g1,g2⟩:=fC i (by omega)
    rw[hc] at g1
    obtain⟨y,k1,k2⟩:=ih.1 e n ey _ he hk.2 g2
    exact⟨y,ey,g1,k1,k2⟩)
   refine⟨ys,bf.xj h1 hl (fun j y hj=> ?_),by show ys.length<=_;omega,fun y hy=> ?_⟩
   ·obtain⟨ey,g1,g2,g3⟩:=h2 j y hj
    obtain⟨_,hlen,dG⟩:=World.cells?_some g1
    have hj0:=(List.getElem?_eq_some_iff.1 hj).1
    obtain⟨c0,e1,_⟩:=h2 0 _ (List.getElem?_eq_getElem (by omega))
    obtain⟨_,ana,BE⟩:=World.cells?_some e1
    have Ah:a.spot=none:=by
     have:=BE 0 (by omega)
     rw[List.getElem?_eq_getElem (by omega)] at this
     have h3:=World.cell?_spot this
     simpa [Addr.add] using h3
    refine⟨a,ey,rfl,Ah,g2,fun i v hi=>afj ?_⟩
    have hil:=(List.getElem?_eq_some_iff.1 hi).1
    have:=dG i (by omega)
    rw[Pe a Ah,hi] at this
    exact this
   ·obtain⟨i,hi⟩:=List.mem_iff_getElem?.1 hy
    obtain⟨ey,_,_,g3⟩:=h2 i y hi
    exact g3
 |arr n t ih=>
  refine⟨fun T cm cs x hT hJ h=> ?_,fun fl off cm cs hf=>absurd hf (lh rfl (by simp) fl off)⟩
  obtain⟨e,hu,he,_⟩:=(hE.ty T _ hT).di
  have hc:=Fj hE he
  have IC:=Fj hE hT
  obtain⟨xs,m,rfl,_,hl,Al,fC⟩:=DataW.trod_array hu h
  obtain⟨ys,h1,h2⟩:=znb (n:=n) (p:=fun i (y:El t)=>bf (uC w β) t y ((cs.drop (i*t.cells)).take t.cells)/\Wf t y) (fun i hi=>by
   have g:=fC i hi
   rw[hc,List.getElem?_eq_getElem (by omega)] at g
   exact ih.1 e m _ _ he hJ g)
  refine⟨ys,⟨h1,by rw[hl,IC];rfl,fun j y hj=>(h2 j y hj).1⟩,h1,fun y hy=> ?_⟩
  obtain⟨i,hi⟩:=List.mem_iff_getElem?.1 hy
  exact(h2 i y hi).2
 |unit=>
  refine⟨fun T cm cs x hT hJ h=> ?_,fun fl off cm cs hf hJ hle cO=>⟨(),by simp [Ty.cells,bf],trivial⟩⟩
  obtain⟨fs,hu,dc,_⟩:=(hE.ty T _ hT).di
  have IC:=Fj hE hT
  obtain⟨xs,m,rfl,_,hl,_⟩:=DataW.trod_struct hu h
  rw[IC] at hl
  refine⟨(),?_,trivial⟩
  exact List.eq_nil_of_length_eq_zero hl
 |pair ta tb lS lT=>
  have step:∀(fl:List Field) (off cm:Nat) (cs:List Value),ja E fl (.pair ta tb) off->(Ty.pair ta tb).fZ=true->off+(Ty.pair ta tb).cells<=cs.length->(∀f∈fl,∃x,DataW.trod enc P w base spare held cm f.type ((cs.drop f.offset).take (P.cellsOf f.type))=some x)->
   ∃y:El (.pair ta tb),bf (uC w β) (.pair ta tb) y ((cs.drop off).take (Ty.pair ta tb).cells)/\Wf (.pair ta tb) y:=by
   intro fl off cm cs hf hJ hle cO
   cases fl with
   |nil=>simp [ja] at hf
   |cons f fl=>
    obtain⟨f1,f2,f3,f4⟩:=hf
    simp only[Ty.fZ,Bool.and_eq_true] at hJ
    simp only[Ty.cells] at hle
    obtain⟨x,hx⟩:=cO f (by simp)
    rw[Fj hE f2,f1] at hx
    obtain⟨y1,r1,w1⟩:=lS.1 f.type cm _ x f2 hJ.1 hx
    obtain⟨y2,r2,w2⟩:=lT.2 fl (off+ta.cells) cm cs f4 hJ.2 (by omega) (fun g hg=>cO g (List.mem_cons_of_mem _ hg))
    refine⟨(y1,y2),⟨_,_,?_,r1,r2⟩,w1,w2⟩
    simp only[Ty.cells]
    rw[<-List.drop_drop]
    exact List.take_add
  refine⟨fun T cm cs x hT hJ h=> ?_,step⟩
  obtain⟨fs,hu,dc,_⟩:=(hE.ty T _ hT).di
  have IC:=Fj hE hT
  obtain⟨xs,m,rfl,_,hl,Al,fC⟩:=DataW.trod_struct hu h
  rw[IC] at hl
  obtain⟨y,r,wf⟩:=step fs.toList 0 m cs dc hJ (by omega) (fun f hf=>by
   obtain⟨i,hi⟩:=List.mem_iff_getElem?.1 hf
   have wN:fs[i]? =some f:=by simpa using hi
   have:=fC i f wN
   have ar:=(List.getElem?_eq_some_iff.1 hi).1
   rw[List.getElem?_eq_getElem (by simp at ar;omega)] at this
   exact⟨_,this⟩)
  refine⟨y,?_,wf⟩
  rw[List.drop_zero,<-hl,List.take_length] at r
  exact r
end
end Go.Ref

namespace Go.Ref
open Go
variable {P:Program} {E:Env}
def DB:Value->Value->Bool
 | .bool a,.bool b=>a==b
 | .int k a,.int j b=>decide (k=j)&&decide (a=b)
 | .string a,.string b=>Nat.beq a.size 0&&Nat.beq b.size 0
 | .slice none 0 0,.slice none 0 0=>true
 |_,_=>false
theorem znf{a:ByteArray}(h:a.size=0):a=⟨#[]⟩:=by
 cases a with
 |mk d=>
  have:d.size=0:=h
  have:=Array.eq_empty_of_size_eq_zero this
  rw[this]
theorem aez{a b:Value}(h:DB a b=true):a=b:=by
 unfold DB at h
 split at h
 ·simp at h;rw[h]
 ·simp at h;rw[h.1,h.2]
 ·simp only[Bool.and_eq_true] at h
  rw[znf (Nat.eq_of_beq_eq_true h.1),znf (Nat.eq_of_beq_eq_true h.2)]
 ·rfl
 ·cases h
def FK:List Value->List Value->Bool
 | [],[]=>true
 |a::r,b::q=>DB a b&&FK r q
 |_,_=>false
theorem QQ:∀{a b:List Value},FK a b=true->a=b
 | [],[],_=>rfl
 |a::r,b::q,h=>by
  simp only[FK,Bool.and_eq_true] at h
  rw[aez h.1,QQ h.2]
def DJ(t:Ty)(v:Value):Bool:=
 match v with
 | .agg cs=>t.agg&&FK cs.toList (zp t)
 |v=> !t.agg&&FK [v] (zp t)
theorem af1{t:Ty}{v:Value}(h:DJ t v=true):v=dJ t (zp t):=by
 unfold DJ at h
 split at h
 ·simp only[Bool.and_eq_true] at h
  rw[jr h.1,<-QQ h.2]
 ·simp only[Bool.and_eq_true,Bool.not_eq_true'] at h
  rw[<-QQ h.2,Pn h.1]
def qM(E:Env):List Field->Ty->Nat->Bool
 | [],.unit,_=>true
 |f::r,.pair a b,off=>Nat.beq f.offset off&&((match E.ty f.type with
  |some t=>t.cj a
  |none=>false)&&(!(f.name== "_")&&qM E r b (off+a.cells)))
 |_,_,_=>false
theorem zpu:∀{fl:List Field} {t:Ty} {off:Nat},qM E fl t off=true->ja E fl t off
 | [],t,off,h=>by cases t<;>simp_all [qM,ja]
 |f::r,t,off,h=>by
  cases t<;>simp only[qM,Bool.and_eq_true] at h<;>try(cases h;done)
  obtain⟨h1,h2,h3,h4⟩:=h
  refine⟨Nat.eq_of_beq_eq_true h1,?_,?_,zpu h4⟩
  ·cases hf:E.ty f.type with
   |none=>rw[hf] at h2;cases h2
   |some u=>rw[hf] at h2;rw[Ty.aJ h2]
  ·simpa using h3
def ur(E:Env)(T:TypeId)(t:Ty):Bool:=
 match E.ty T with
 |some u=>u.cj t
 |none=>false
theorem CA{T:TypeId}{t:Ty}(h:ur E T t=true):E.ty T=some t:=by
 unfold ur at h
 split at h
 ·rename_i u hu;rw[hu,Ty.aJ h]
 ·cases h
def Cn(P:Program)(E:Env)(T:TypeId)(t:Ty):Bool:=
 match P.underlying T,t with
 |some .bool,.bool=>true
 |some (.int k),.int j=>decide (k=j)
 |some .string,.str=>true
 |some (.slice e),.sl e' u=>Nat.beq e e'&&ur E e u
 |some (.array n e),.arr m u=>Nat.beq n m&&(ur E e u&& !P.eqGuardType P.depth T)
 |some (.struct fs),.unit=>qM E fs.toList .unit 0&&(!P.stoodInHeld T&& !P.eqGuardType P.depth T)
 |some (.struct fs),.pair a b=>qM E fs.toList (.pair a b) 0&&(!P.stoodInHeld T&& !P.eqGuardType P.depth T)
 |_,_=>false
theorem ajc{T:TypeId}{t:Ty}(h:Cn P E T t=true):NC P E T t:=by
 unfold Cn at h
 split at h
 ·assumption
 ·rename_i k j hu;rw[<-of_decide_eq_true h];exact hu
 ·assumption
 ·rename_i e e' u hu
  simp only[Bool.and_eq_true] at h
  have:=Nat.eq_of_beq_eq_true h.1
  subst this
  exact⟨hu,CA h.2⟩
 ·rename_i n e m u hu
  simp only[Bool.and_eq_true] at h
  have:=Nat.eq_of_beq_eq_true h.1
  subst this
  exact⟨e,hu,CA h.2.1,by simpa using h.2.2⟩
 ·rename_i fs hu
  simp only[Bool.and_eq_true,Bool.not_eq_true'] at h
  exact⟨fs,hu,zpu h.1,h.2.1,h.2.2⟩
 ·rename_i fs a b hu
  simp only[Bool.and_eq_true,Bool.not_eq_true'] at h
  exact⟨fs,hu,zpu h.1,h.2.1,h.2.2⟩
 ·cases h
def An(P:Program)(E:Env)(T:TypeId)(t:Ty):Bool:=
 match P.info? T with
 |some i=>Nat.beq i.size t.cells&&(Nat.beq i.bytes (E.bytes T)&&match i.zero with
  |some v=>DJ t v
  |none=>false)
 |none=>false
def Bw(P:Program)(E:Env)(T:TypeId):Bool:=
 match E.ty T with
 |some t=>An P E T t&&Cn P E T t
 |none=>true
theorem aip{T:TypeId}{t:Ty}(h:Bw P E T=true)(ht:E.ty T=some t):lD P E T t:=by
 unfold Bw at h
 rw[ht] at h
 simp only[Bool.and_eq_true] at h
 refine⟨?_,ajc h.2⟩
 have h1:=h.1
 unfold An at h1
 split at h1
 ·rename_i i hi
  simp only[Bool.and_eq_true] at h1
  obtain⟨g1,g2,g3⟩:=h1
  split at g3
  ·rename_i v hv
   exact⟨i,hi,Nat.eq_of_beq_eq_true g1,Nat.eq_of_beq_eq_true g2,by rw[hv,af1 g3]⟩
  ·cases g3
 ·cases h1
def Qz(P:Program)(T:TypeId):Bool:=
 match P.underlying T,P.info? T with
 |some (.pointer _),some i=>Nat.beq i.size 1
 |_,_=>false
structure pq where
 Ff:List (Option Ty)
 Xa:List Nat
 Au:List Bool
 Qy:List (TypeId×TypeId×TypeId):=[]
def xa:List (TypeId×TypeId×TypeId)->TypeId->Option (TypeId×TypeId)
 | [],_=>none
 |q::r,T=>bif Nat.beq q.1 T then some q.2 else xa r T
def YA(P:Program)(q:TypeId×TypeId×TypeId):Bool:=
 match P.underlying q.1 with
 |some (.map k e)=>Nat.beq k q.2.1&&Nat.beq e q.2.2
 |_=>false
theorem M7{P:Program}:∀{l:List (TypeId×TypeId×TypeId)},l.all (YA P)=true->∀{T k e:TypeId},xa l T=some (k,e)->P.underlying T=some (.map k e)
 |q::r,hl,T,k,e,h=>by
  simp only[List.all_cons,Bool.and_eq_true] at hl
  unfold xa at h
  cases hq:Nat.beq q.1 T with
  |false=>rw[hq] at h;exact M7 hl.2 h
  |true=>
   rw[hq] at h
   have:=Nat.eq_of_beq_eq_true hq
   subst this
   have h1:=hl.1
   unfold YA at h1
   split at h1
   ·rename_i k' e' hu
    simp only[Bool.and_eq_true] at h1
    have a1:=Nat.eq_of_beq_eq_true h1.1
    have a2:=Nat.eq_of_beq_eq_true h1.2
    rw[hu,a1,a2]
    have h:some q.2=some (k,e):=h
    injection h with h
    rw[h]
   ·cases h1
def pq.env(t:pq)(dj kY:Nat->List Nat)(outs:List Nat)(ps:List Ty):Env:=⟨fun T=>t.Ff.getD T none,fun T=>t.Xa.getD T 0,fun T=>t.Au.getD T false,dj,kY,outs,ps,xa t.Qy,fun _=>none,fun _=>none,fun _=>[],[],false,[],fun _=>[],fun _=>none,fun _=>none,fun _=>false,none,none⟩
def pq.tf(t:pq):Env:=t.env (fun _=>[]) (fun _=>[]) [] []
def pq.ok(P:Program)(t:pq):Bool:=(List.range t.Ff.length).all (Bw P t.tf)&&((List.range t.Au.length).all (fun T=> !t.Au.getD T false||Qz P T)&&t.Qy.all (YA P))
theorem rQ{E':Env}(h1:E.ty=E'.ty)(h2:E.bytes=E'.bytes){T:TypeId}{t:Ty}(h:lD P E T t):lD P E' T t:=by
 have dc:∀(fl:List Field) (t:Ty) (off:Nat),ja E fl t off->ja E' fl t off:=by
  intro fl
  induction fl with
  |nil=>intro t off h;cases t<;>simp_all [ja]
  |cons f r ih=>
   intro t off h
   cases t<;>simp only[ja] at h⊢ <;>try exact h
   exact⟨h.1,by rw[<-h1];exact h.2.1,h.2.2.1,ih _ _ h.2.2.2⟩
 refine⟨by rw[<-h2];exact h.info,?_⟩
 have hu:=h.di
 cases t with
 |bool=>exact hu
 |int k=>exact hu
 |str=>exact hu
 |sl e u=>exact⟨hu.1,by rw[<-h1];exact hu.2⟩
 |arr n u=>obtain⟨e,g1,g2⟩:=hu;exact⟨e,g1,by rw[<-h1];exact g2⟩
 |unit=>obtain⟨fs,g1,g2,g3⟩:=hu;exact⟨fs,g1,dc _ _ _ g2,g3⟩
 |pair a b=>obtain⟨fs,g1,g2,g3⟩:=hu;exact⟨fs,g1,dc _ _ _ g2,g3⟩
 |aG k a b=>exact hu.elim
theorem aq.join(h:aq P E)(j:Nat->Option (List Nat)):aq P {E with join:=j}:=
 ⟨fun T u hT=>rQ (E:=E) (E':={E with join:=j}) rfl rfl (h.ty T u hT),h.pt,h.p1,h.mp,h.bl,h.gr,h.gz,h.g3,h.ga⟩
theorem aq.fz(h:aq P E)(j:Nat->Option (Nat×TypeId)):aq P {E with fz:=j}:=
 ⟨fun T u hT=>rQ (E:=E) (E':={E with fz:=j}) rfl rfl (h.ty T u hT),h.pt,h.p1,h.mp,h.bl,h.gr,h.gz,h.g3,h.ga⟩
theorem aq.dr(h:aq P E)(j:Nat->List Nat):aq P {E with dr:=j}:=
 ⟨fun T u hT=>rQ (E:=E) (E':={E with dr:=j}) rfl rfl (h.ty T u hT),h.pt,h.p1,h.mp,h.bl,h.gr,h.gz,h.g3,h.ga⟩
theorem aq.sh(h:aq P E)(j:List Nat):aq P {E with sh:=j}:=
 ⟨fun T u hT=>rQ (E:=E) (E':={E with sh:=j}) rfl rfl (h.ty T u hT),h.pt,h.p1,h.mp,h.bl,h.gr,h.gz,h.g3,h.ga⟩
theorem aq.mv(h:aq P E)(j:List Nat):aq P {E with mv:=j}:=
 ⟨fun T u hT=>rQ (E:=E) (E':={E with mv:=j}) rfl rfl (h.ty T u hT),h.pt,h.p1,h.mp,h.bl,h.gr,h.gz,h.g3,h.ga⟩
theorem aq.fr(h:aq P E)(j:Nat->List Nat):aq P {E with fr:=j}:=
 ⟨fun T u hT=>rQ (E:=E) (E':={E with fr:=j}) rfl rfl (h.ty T u hT),h.pt,h.p1,h.mp,h.bl,h.gr,h.gz,h.g3,h.ga⟩
def blB(P:Program)(T:TypeId):Bool:=
 match P.info? T with
 |some i=>match i.zero with
  |some (.agg a)=>match a.toList with
   | [.pointer none,.slice none 0 0]=>true
   |_=>false
  |_=>false
 |none=>false
theorem aq.gi(h:aq P E)(T e:TypeId)(hT:blB P T=true):aq P {E with bl:=fun t=>bif Nat.beq t T then some e else none}:=
 ⟨fun T' u hT=>rQ (E:=E) (E':={E with bl:=fun t=>bif Nat.beq t T then some e else none}) rfl rfl (h.ty T' u hT),h.pt,h.p1,h.mp,fun T' e' he=>by
   have he:(bif Nat.beq T' T then some e else none)=some e':=he
   cases hb:Nat.beq T' T with
   |false=>rw[hb] at he;cases he
   |true=>
    have:=Nat.eq_of_beq_eq_true hb
    subst this
    unfold blB at hT
    split at hT
    case h_2=>cases hT
    rename_i i hi
    split at hT
    case h_2=>cases hT
    rename_i a ha
    split at hT
    case h_2=>cases hT
    rename_i hl
    exact⟨i,hi,by rw[ha];congr 1;congr 1;apply Array.ext';rw[hl]⟩,h.gr,h.gz,h.g3,h.ga⟩
def Xm(P:Program)(T:TypeId)(a:Ty):Bool:=
 match P.underlying T with
 |some (.struct fs)=>[0,1,2].all fun j=>match fs[j]? with
  |some f=>Nat.beq f.offset (mN a [j])&&match P.info? f.type with
   |some i=> !(Nat.beq i.size 0)
   |none=>false
  |none=>false
 |_=>false
def Xk(P:Program)(T:TypeId):Bool:=
 match P.underlying T with
 |some (.array 2 e)=>match P.info? e with
  |some i=>Nat.beq i.size 1
  |none=>false
 |_=>false
theorem amX{T:TypeId}{a:Ty}(h:Xm P T a=true):∃fs,P.underlying T=some (.struct fs)/\∀j,j<=2->∃f i,fs[j]? =some f/\f.offset=mN a [j]/\P.info? f.type=some i/\i.size≠0:=by
 unfold Xm at h
 split at h
 case h_2=>cases h
 rename_i fs hu
 refine⟨fs,hu,fun j hj=> ?_⟩
 have:=List.all_eq_true.1 h j (by match j,hj with|0,_=>simp|1,_=>simp|2,_=>simp)
 split at this
 case h_2=>cases this
 rename_i f hf
 rw[Bool.and_eq_true] at this
 obtain⟨h1,h2⟩:=this
 split at h2
 case h_2=>cases h2
 rename_i i hi
 exact⟨f,i,hf,Nat.eq_of_beq_eq_true h1,hi,fun e=>by rw[e] at h2;simp at h2⟩
theorem amW{T:TypeId}(h:Xk P T=true):∃e i,P.underlying T=some (.array 2 e)/\P.info? e=some i/\i.size=1:=by
 unfold Xk at h
 split at h
 case h_2=>cases h
 rename_i e hu
 split at h
 case h_2=>cases h
 rename_i i hi
 exact⟨e,i,hu,hi,Nat.eq_of_beq_eq_true h⟩
def Xn(P:Program)(T:TypeId)(a:Ty):Bool:=
 match P.info? T with
 |some i=>match i.zero with
  |some (.agg cs)=>FK (cs.toList.take a.cells) (zp a)&&(match cs.toList.drop a.cells with
   | [.pointer none,.pointer none,.int .i64 n]=>decide (n=0)
   |_=>false)
  |_=>false
 |none=>false
theorem amY{T:TypeId}{a:Ty}(h:Xn P T a=true):∃i,P.info? T=some i/\i.zero=some (.agg (zp a++ [Value.pointer none,Value.pointer none,Value.int .i64 0]).toArray):=by
 unfold Xn at h
 split at h
 case h_2=>cases h
 rename_i i hi
 split at h
 case h_2=>cases h
 rename_i cs eh
 rw[Bool.and_eq_true] at h
 obtain⟨h1,h2⟩:=h
 split at h2
 case h_2=>cases h2
 rename_i n hd
 have:=of_decide_eq_true h2
 subst this
 refine⟨i,hi,?_⟩
 rw[eh,<-QQ h1,<-hd,List.take_append_drop]
def Xj(P:Program)(E:Env)(T:TypeId)(a:Ty):Bool:=
 match P.underlying T with
 |some (.struct fs)=>(match fs.toList with
  |f::_=>Nat.beq f.offset 0&&ur E f.type a
  | []=>false)&&fs.toList.all fun f=>(P.info? f.type).isSome
 |_=>false
theorem amV{T:TypeId}{a:Ty}(h:Xj P E T a=true):∃fs f,P.underlying T=some (.struct fs)/\fs[0]? =some f/\f.offset=0/\E.ty f.type=some a/\∀f∈fs.toList,∃i,P.info? f.type=some i:=by
 unfold Xj at h
 split at h
 case h_2=>cases h
 rename_i fs hu
 rw[Bool.and_eq_true] at h
 obtain⟨h1,h2⟩:=h
 split at h1
 case h_2=>cases h1
 rename_i f r hl
 rw[Bool.and_eq_true] at h1
 refine⟨fs,f,hu,by rw[<-Array.getElem?_toList,hl];rfl,Nat.eq_of_beq_eq_true h1.1,CA h1.2,fun g hg=> ?_⟩
 exact Option.isSome_iff_exists.1 (List.all_eq_true.1 h2 g hg)
theorem aq.bz(h:aq P E)(T A:TypeId)(a b:Ty)(hT:Xm P T a=true)(hZ:Xn P T a=true)(h3:Xj P E T a=true)(hA:Xk P A=true):aq P {E with gr:=fun t=>bif Nat.beq t T then some (a,b) else none,ga:=fun t=>Nat.beq t A}:=
 ⟨fun T' u uM=>rQ (E:=E) (E':={E with gr:=fun t=>bif Nat.beq t T then some (a,b) else none,ga:=fun t=>Nat.beq t A}) rfl rfl (h.ty T' u uM),h.pt,h.p1,h.mp,h.bl,fun T' a' b' he=>by
   have he:(bif Nat.beq T' T then some (a,b) else none)=some (a',b'):=he
   cases hb:Nat.beq T' T with
   |false=>rw[hb] at he;cases he
   |true=>
    have:=Nat.eq_of_beq_eq_true hb
    subst this
    rw[hb] at he
    cases he
    exact amX hT,fun T' a' b' he=>by
   have he:(bif Nat.beq T' T then some (a,b) else none)=some (a',b'):=he
   cases hb:Nat.beq T' T with
   |false=>rw[hb] at he;cases he
   |true=>
    have:=Nat.eq_of_beq_eq_true hb
    subst this
    rw[hb] at he
    cases he
    exact amY hZ,fun T' a' b' he=>by
   have he:(bif Nat.beq T' T then some (a,b) else none)=some (a',b'):=he
   cases hb:Nat.beq T' T with
   |false=>rw[hb] at he;cases he
   |true=>
    have:=Nat.eq_of_beq_eq_true hb
    subst this
    rw[hb] at he
    cases he
    exact amV (E:=E) h3,fun T' he=>by
   have:=Nat.eq_of_beq_eq_true (show Nat.beq T' A=true from he)
   subst this
   exact amW hA⟩
theorem aq.sg(h:aq P E)(j:Option (Nat×Nat×Nat)):aq P {E with sg:=j}:=
 ⟨fun T u hT=>rQ (E:=E) (E':={E with sg:=j}) rfl rfl (h.ty T u hT),h.pt,h.p1,h.mp,h.bl,h.gr,h.gz,h.g3,h.ga⟩
theorem aq.sp(h:aq P E)(j:Option (Nat×Nat×Nat×Nat)):aq P {E with sp:=j}:=
 ⟨fun T u hT=>rQ (E:=E) (E':={E with sp:=j}) rfl rfl (h.ty T u hT),h.pt,h.p1,h.mp,h.bl,h.gr,h.gz,h.g3,h.ga⟩
theorem aq.ro(h:aq P E)(j:Bool):aq P {E with ro:=j}:=
 ⟨fun T u hT=>rQ (E:=E) (E':={E with ro:=j}) rfl rfl (h.ty T u hT),h.pt,h.p1,h.mp,h.bl,h.gr,h.gz,h.g3,h.ga⟩
theorem pq.lM{t:pq}(h:t.ok P=true)(dj kY:Nat->List Nat)(outs:List Nat)(ps:List Ty):aq P (t.env dj kY outs ps):=by
 unfold pq.ok at h
 simp only[Bool.and_eq_true] at h
 have kW:∀T,t.Au.getD T false=true->Qz P T=true:=fun T uM=>by
  have ar:T<t.Au.length:=by
   rcases Nat.lt_or_ge T t.Au.length with h1|h1
   ·exact h1
   ·rw[List.getD_eq_getElem?_getD,List.getElem?_eq_none h1] at uM;cases uM
  have:=List.all_eq_true.1 h.2.1 T (List.mem_range.2 ar)
  rw[uM] at this
  simpa using this
 refine⟨fun T u hT=> ?_,fun T hT=> ?_,fun T hT=> ?_,fun T k e hT=>M7 h.2.2 hT,fun T e hT=>(by cases hT),fun T a b hT=>(by cases hT),fun T a b hT=>(by cases hT),fun T a b hT=>(by cases hT),fun T hT=>by cases hT⟩
 ·refine rQ (E:=t.tf) (E':=t.env dj kY outs ps) rfl rfl (aip ?_ hT)
  refine List.all_eq_true.1 h.1 T (List.mem_range.2 ?_)
  have uM:t.Ff.getD T none=some u:=hT
  rcases Nat.lt_or_ge T t.Ff.length with h1|h1
  ·exact h1
  ·rw[List.getD_eq_getElem?_getD,List.getElem?_eq_none h1] at uM;cases uM
 ·have:=kW T hT
  unfold Qz at this
  split at this
  ·rename_i e i he _;exact⟨e,he⟩
  ·cases this
 ·have:=kW T hT
  unfold Qz at this
  split at this
  ·rename_i e i _ hi;exact⟨i,hi,Nat.eq_of_beq_eq_true this⟩
  ·cases this
end Go.Ref

namespace Go.Ref
open Go
variable {P:Program} {E:Env}
abbrev Pure:=(R:Type)->List SV->Option bC->(List SV->Option bC->Option R)->Option R
def Pure.Nat(g:Pure):Prop:=∀(R S:Type) l b (F:List SV->Option bC->Option R) (G:List SV->Option bC->Option S) (K:S->Option R),(∀r b,F r b=(G r b).bind K)->g R l b F=(g S l b G).bind K
def ah.none:ah:=fun _ _ _ _ _=> .none
def ah.add(C:ah)(n:FuncId)(ps:List Ty)(g:Pure):ah:=fun R f l b K=>bif Nat.beq f n then g R (aM ps l) b K else C R f l b K
theorem aiQ:ah.none.Nat:=fun _ _ _ _ _ _ _ _ _=>rfl
theorem aff(f:FuncId):cT P ah.none f:=fun _ _ _ _ h=>by cases h
theorem Um{C:ah}{n:FuncId}{ps:List Ty}{g:Pure}(hC:C.Nat)(hg:g.Nat):(C.add n ps g).Nat:=fun R S f l b F G K h=>by
 unfold ah.add
 cases Nat.beq f n with
 |false=>exact hC R S f l b F G K h
 |true=>exact hg R S _ b F G K h
theorem ahS(hE:aq P E)(hm:P.follows .mixedOrders=true){C:ah}(hC:C.Nat)(h0:∀f,cT P C f){n:FuncId}{ps:List Ty}{g:Pure}{fn:Func}{code:Code}(io:P.funcs[n]? =some fn)(tG:(fn.name== "runtime.NumGoroutine")=false)(pY:fn.body=some code)
 (h:∀(l:List SV) (b:Option bC) (r:List SV) (b':Option bC),g (List SV×Option bC) (aM ps l) b (fun r b=>some (r,b))=some (r,b')->∃k,jj E (C (List SV×Option bC)) k fn code l b (fun r b=>some (r,b))=some (r,b')):∀f,cT P (C.add n ps g) f:=by
 intro f
 by_cases e:f=n
 ·subst e
  refine ak5 hE hm hC h0 io tG pY fun l b r b' hc=>h l b r b' ?_
  unfold ah.add at hc
  have:Nat.beq f f=true:=by simp
  rw[this] at hc
  exact hc
 ·intro l b r b' hc
  unfold ah.add at hc
  have:Nat.beq f n=false:=by
   cases hh:Nat.beq f n with
   |false=>rfl
   |true=>exact absurd (Nat.eq_of_beq_eq_true hh) e
  rw[this] at hc
  exact h0 f l b r b' hc
def sub:List Nat->Code->Code
 | [],c=>c
 |0::p,.seq a _=>sub p a
 |_::p,.seq _ b=>sub p b
 |0::p,.cond _ a _=>sub p a
 |_::p,.cond _ _ b=>sub p b
 |_::p,.block _ b=>sub p b
 |_::p,.loop b=>sub p b
 |_,c=>c
section
variable {R:Type}
def zi(id:Nat)(K:Ex->State->Option R):Ex->State->Option R:=fun e s=>match e with
 | .exit j=>bif Nat.beq j id then K .normal s else K (.exit j) s
 |e=>K e s
def aU(E:Env)(C:FuncId->bU R)(k:Nat)(b:Code)(K:Ex->State->Option R):Ex->State->Option R:=fun e s=>match e with
 | .normal=>m7 E k (ux b) s fun s=>ev E C k b s K
 |e=>K e s
def aT(E:Env)(rs:List ResultVar)(bx:Option bC)(K:List SV->Option bC->Option R):Ex->State->Option R:=fun e s=>match e with
 | .exit _=>none
 |_=>match gv E s rs with
  |some (l,s')=>F4 s' bx (gu E l) K
  |none=>none
end
section
variable {R:Type}
def fH(l:List SV)(K:Option R):Option R:=
 match l with
 | []=>K
 |_=>none
def fI(t:Ty)(l:List SV)(K:El t->Option R):Option R:=
 match l with
 | [a]=>a.el t K
 |_=>none
def fj(t u:Ty)(l:List SV)(K:El t->El u->Option R):Option R:=
 match l with
 | [a,b]=>a.el t fun x=>b.el u fun y=>K x y
 |_=>none
def kP(t u v:Ty)(l:List SV)(K:El t->El u->El v->Option R):Option R:=
 match l with
 | [a,b,c]=>a.el t fun x=>b.el u fun y=>c.el v fun z=>K x y z
 |_=>none
def kQ(t u v w:Ty)(l:List SV)(K:El t->El u->El v->El w->Option R):Option R:=
 match l with
 | [a,b,c,d]=>a.el t fun x=>b.el u fun y=>c.el v fun z=>d.el w fun z'=>K x y z z'
 |_=>none
end
theorem akZ{R:Type}{t:Ty}{v:SV}{r:List Ty}{q:List SV}{K:El t->Option R}{z:R}{v':SV}{q':List SV}(hn:aM (t::r) (v::q)=v'::q')(h:v'.el t K=some z):∃y,v'= .ak t y []/\q'=aM r q/\K y=some z:=by
 have key:v'=v.shut/\q'=aM r q\/(∃e u,t= .sl e u/\v'= .ak (.sl e u) ([]:List (El u)) []/\q'=aM r q):=by
  cases t<;>cases v<;>simp only[aM,List.cons.injEq] at hn<;>first|exact .inl ⟨hn.1.symm,hn.2.symm⟩|exact .inr ⟨_,_,rfl,hn.1.symm,hn.2.symm⟩
 rcases key with⟨rfl,rfl⟩|⟨e,u,rfl,rfl,rfl⟩
 ·cases v with
  |ak t' x own=>
   simp only[SV.shut,SV.el] at h
   split at h
   ·rename_i heq
    have:=Ty.aJ heq
    subst this
    exact⟨x,rfl,rfl,h⟩
   ·cases h
  |cD=>cases t<;>first|(simp [SV.shut,SV.el] at h;done)|(simp [aM,SV.shut] at hn;done)
  |_=>simp [SV.shut,SV.el] at h
 ·simp only[SV.el,Ty.cf,dite_true] at h
  exact⟨[],rfl,rfl,h⟩
theorem zq0(hE:aq P E){H:Type}{enc:TypeId×Value->H}{w:World}{spare:Nat->Bool}{held:Bool}{β:Nat->Option Nat}{base b:Nat}{T:TypeId}{t:Ty}{v:Value}{d:DataW H}{ps:List MemPlace}(hT:E.ty T=some t)(hJ:t.fZ=true)
 (hv:Value.okWide P w .any b T v) (hd:DataW.Trod enc P w base spare held T v d ps):∃y:El t,Wf t y/\∀q,aA (uC w β) q (.ak t y []) v:=by
 obtain⟨cm,hd⟩:=hd
 obtain⟨y,r,wf⟩:=(ali (β:=β) hE t).1 T cm _ _ hT hJ hd
 refine⟨y,wf,fun q=>⟨_,r,?_,mg⟩⟩
 have hu:=(hE.ty T t hT).di
 have hl:=r.len
 cases ht:t.agg with
 |true=>
  rw[jr ht]
  have:∃cs,v= .agg cs:=by
   unfold Value.okWide at hv
   cases t with
   |arr n t=>obtain⟨e,h1,_⟩:=hu;rw[h1] at hv;obtain⟨cs,h,_⟩:=hv;exact⟨cs,h⟩
   |unit=>obtain⟨fs,h1,_⟩:=hu;rw[h1] at hv;obtain⟨cs,h,_⟩:=hv;exact⟨cs,h⟩
   |pair a b=>obtain⟨fs,h1,_⟩:=hu;rw[h1] at hv;obtain⟨cs,h,_⟩:=hv;exact⟨cs,h⟩
   |aG k a b=>exact absurd (hE.iE hT) (by simp [Ty.bH])
   |_=>simp [Ty.agg] at ht
  obtain⟨cs,rfl⟩:=this
  rfl
 |false=>
  have XS:∀cs,v≠ .agg cs:=by
   rintro cs rfl
   unfold Value.okWide at hv
   cases t with
   |bool=>have hu:P.underlying T=some .bool:=hu;rw[hu] at hv;unfold Cell.okWide at hv;rw[hu] at hv;unfold Cell.ok at hv;rw[hu] at hv;exact hv
   |int k=>have hu:P.underlying T=some (.int k):=hu;rw[hu] at hv;unfold Cell.okWide at hv;rw[hu] at hv;unfold Cell.ok at hv;rw[hu] at hv;exact hv
   |str=>have hu:P.underlying T=some .string:=hu;rw[hu] at hv;unfold Cell.okWide at hv;rw[hu] at hv;unfold Cell.ok at hv;rw[hu] at hv;exact hv
   |sl e t=>have hu:P.underlying T=some (.slice e):=hu.1;rw[hu] at hv;unfold Cell.okWide at hv;rw[hu] at hv;unfold Cell.ok at hv;rw[hu] at hv;exact hv
   |_=>simp [Ty.agg] at ht
  have hc:v.cells.toList=[v]:=by
   cases v<;>first|rfl|exact absurd rfl (XS _)
  rw[hc,Pn ht]
theorem aco{w:World}{β:Nat->Option Nat}{Y:ax}(h:Ext (uC w β) Y):∀g,g<w.heap.size->Y.w.heap[g]? =w.heap[g]? :=fun g hg=>(h.still g hg trivial).2
end Go.Ref

namespace Go.Ref
open Go
theorem DI{x:Int}(h1: -9223372036854775808<=x)(h2:x<=9223372036854775807):IntKind.i64.wrap x=x:=by
 simp [IntKind.wrap,IntKind.signed,IntKind.bits]
 omega
theorem afZ{R:Type}{j n:Nat}{x:Option R}(h:j<n):zd (j:Int) n x=x:=by
 unfold zd
 rw[decide_eq_true (by omega:(0:Int)<=j),decide_eq_true (by omega:(j:Int)<n)]
 rfl
variable {P:Program} {E:Env}
def Pr(X:ax):List SV->List Value->Prop
 | [],[]=>True
 |s::l,v::vs=>(∀q,aA X q s v)/\(∀id t p,s≠ .ptr id t p)/\Pr X l vs
 |_,_=>False
theorem zu5{X:ax}:∀{l:List SV} {vs:List Value},Pr X l vs->vs.length=l.length/\∀(i:Nat) s v,l[i]? =some s->vs[i]? =some v->(∀q,aA X q s v)/\∀id t p,s≠ .ptr id t p
 | [],[],_=>⟨rfl,fun i s v h=>by simp at h⟩
 |s::l,v::vs,h=>by
  obtain⟨h1,h2,h3⟩:=h
  obtain⟨g1,g2⟩:=zu5 h3
  refine⟨by simp [g1],fun i s' v' hs hv=> ?_⟩
  cases i with
  |zero=>
   simp only[List.getElem?_cons_zero,Option.some.injEq] at hs hv
   subst hs hv
   exact⟨h1,h2⟩
  |succ i=>
   simp only[List.getElem?_cons_succ] at hs hv
   exact g2 i s' v' hs hv
theorem aim{X:ax}{l:List SV}{args:Array Value}(h:Pr X l args.toList)(hX:∀g pl n,X.ow g≠ .row pl n)(hβ:∀id,X.β id=none):jA X l none args:=by
 obtain⟨h1,h2⟩:=zu5 h
 refine⟨by simpa using h1,fun i sv v hs hv=>(h2 i sv v hs (by simpa using hv)).1 _,fun id t p hm=> ?_,fun B hB=>(by cases hB),fun _=>hX,List.any_eq_false.2 fun v hm=> ?_⟩
 ·obtain⟨i,hi⟩:=List.mem_iff_getElem?.1 hm
  have ar:=(List.getElem?_eq_some_iff.1 hi).1
  have fR:i<args.toList.length:=by omega
  exact absurd rfl ((h2 i _ _ hi (List.getElem?_eq_getElem fR)).2 id t p)
 ·obtain⟨i,hi⟩:=List.mem_iff_getElem?.1 hm
  have ar:=(List.getElem?_eq_some_iff.1 hi).1
  have fR:i<args.toList.length:=by omega
  have hv:=(h2 i _ _ hi (List.getElem?_eq_getElem fR)).1 (fun _=> .r 0 [])
  cases v with
  |bA id c d j=>
   obtain⟨r,e,_⟩:=hv
   rw[hβ id] at e
   cases e
  |_=>simp [SV.bM]
theorem afx{C:ah}{f:FuncId}(ho:cT P C f){l:List SV}{args:Array Value}{W:World}{b:Bool}(hc:C (List SV×Option bC) f l none (fun r b=>some (r,b))=some ([.ak .bool b []],none))(gN:Pr (uC W fun _=>none) l args.toList):
 Calls P f args W fun e w'=>e= .returned (.bool b)/\RowKit.Below W.heap.size W w':=by
 refine((ho l none _ _ hc).2 (uC W fun _=>none) args (aim gN (fun g pl n e=>by cases e) fun _=>rfl)).mono fun e w' he=> ?_
 cases e with
 |returned v=>
  obtain⟨Y,rfl,aZ,r0,aL,_,_,_⟩:=he
  have aL:aA {Y with β:=fun _=>some r0} (.r 0) (.ak .bool b []) v:=aL
  refine⟨by rw[NZ aL],aZ.os,aZ.tape,aZ.output,aZ.size,fun k hk=>aco aZ k hk⟩
 |panicked c=>exact he.elim
 |outgrown=>exact he.elim
end Go.Ref

namespace Go.Ref
open Go
variable {P:Program} {E:Env}
def bs(l:List Nat):ByteArray:=⟨(l.map UInt8.ofNat).toArray⟩
@[irreducible] def ai:Nat:=18446744073709551616
theorem ab5{R:Type}(f:Unit->Option R):cF ai f=f ():=by
 have:ai=18446744073709551615+1:=by unfold ai;rfl
 rw[this];rfl
section
variable {R S:Type}
def kX(body:State->(Ex->State->Option R)->Option R)(l lx:List Nat)(k:Nat)(K:Ex->State->Option R):Ex->State->Option R:=fun e s=>match e with
 | .normal=>ru l s fun s=>aB body l lx k s K
 |e=>ru lx s fun s=>K e s
def jK(t:Ty)(own:List (List Nat))(l:List SV)(b:Option bC)(K:El t->List SV->Option R):Option R:=
 match l,b with
 | .ptr 0 u []::r,some B=>if h:B.t.cj t=true then if(u.cj t&&B.own==own)=true then K (Ty.cast h B.x) r else none else none
 |_,_=>none
def kO(t pt bt:Ty)(own:List (List Nat))(l:List SV)(b:Option bC)(K:El t->El bt->Option R):Option R:=
 match l,b with
 | [a,.ptr 0 u []],some B=>if h:B.t.cj bt=true then if(u.cj pt&&B.own==own)=true then a.el t fun y=>K y (Ty.cast h B.x) else none else none
 |_,_=>none
def F2(t u v w:Ty)(l:List SV)(K:El t->El u->El v->El w->Option R):Option R:=
 match l with
 | [a,b,.view v' x,.view w' y]=>if h:v'.cj v=true then if h2:w'.cj w=true then a.el t fun p=>b.el u fun q=>K p q (Ty.cast h x) (Ty.cast h2 y) else none else none
 |_=>none
def fV(b:Option bC)(K:Option R):Option R:=
 match b with
 |none=>K
 |some _=>none
theorem DS{b:Option bC}{F:Option R}{G:Option S}{K:S->Option R}(h:F=G.bind K):fV b F=(fV b G).bind K:=by
 cases b
 ·exact h
 ·rfl
theorem DP{b:Option bC}{F:Option R}{z:R}(h:fV b F=some z):b=none/\F=some z:=by
 cases b
 ·exact⟨rfl,h⟩
 ·cases h
theorem zh8(c:Bool)(x y:Option S)(F:S->Option R):(bif c then x else y).bind F=bif c then x.bind F else y.bind F:=by cases c<;>rfl
theorem abn(i:Int)(n:Nat)(x:Option S)(F:S->Option R):(zd i n x).bind F=zd i n (x.bind F):=by
 unfold zd;rw[zh8,zh8];rfl
theorem afe(F:S->Option R):(none:Option S).bind F=none:=Eq.trans rfl rfl
theorem zc(x:S)(F:S->Option R):(some x).bind F=F x:=Eq.trans rfl rfl
theorem ai5{α β:Type}(f:α->Option S)(g:β->Option S)(e:α⊕β)(F:S->Option R):(Sum.elim f g e).bind F=Sum.elim (fun x=>(f x).bind F) (fun x=>(g x).bind F) e:=by cases e<;>rfl
theorem aeo{α:Type}(x:Option α)(f:α->Option S)(F:S->Option R):(x.bind f).bind F=x.bind fun y=>(f y).bind F:=by cases x<;>rfl
theorem zgu{l:List SV}{F:Option R}{G:Option S}{K:S->Option R}(h:F=G.bind K):fH l F=(fH l G).bind K:=by
 unfold fH;split
 ·exact h
 ·rfl
theorem zgv{t:Ty}{l:List SV}{F:El t->Option R}{G:El t->Option S}{K:S->Option R}(h:∀x,F x=(G x).bind K):fI t l F=(fI t l G).bind K:=by
 unfold fI;split
 ·exact zq h
 ·rfl
theorem zgw{t u:Ty}{l:List SV}{F:El t->El u->Option R}{G:El t->El u->Option S}{K:S->Option R}(h:∀x y,F x y=(G x y).bind K):fj t u l F=(fj t u l G).bind K:=by
 unfold fj;split
 ·exact zq fun x=>zq fun y=>h x y
 ·rfl
theorem aej{t u v:Ty}{l:List SV}{F:El t->El u->El v->Option R}{G:El t->El u->El v->Option S}{K:S->Option R}(h:∀x y z,F x y z=(G x y z).bind K):kP t u v l F=(kP t u v l G).bind K:=by
 unfold kP;split
 ·exact zq fun x=>zq fun y=>zq fun z=>h x y z
 ·rfl
theorem aek{t u v w:Ty}{l:List SV}{F:El t->El u->El v->El w->Option R}{G:El t->El u->El v->El w->Option S}{K:S->Option R}(h:∀x y z a,F x y z a=(G x y z a).bind K):kQ t u v w l F=(kQ t u v w l G).bind K:=by
 unfold kQ;split
 ·exact zq fun x=>zq fun y=>zq fun z=>zq fun a=>h x y z a
 ·rfl
theorem On{t:Ty}{own:List (List Nat)}{l:List SV}{b:Option bC}{F:El t->List SV->Option R}{G:El t->List SV->Option S}{K:S->Option R}(h:∀x r,F x r=(G x r).bind K):jK t own l b F=(jK t own l b G).bind K:=by
 unfold jK;split
 ·split
  ·split
   ·exact h _ _
   ·rfl
  ·rfl
 ·rfl
theorem aei{t pt bt:Ty}{own:List (List Nat)}{l:List SV}{b:Option bC}{F:El t->El bt->Option R}{G:El t->El bt->Option S}{K:S->Option R}(h:∀x y,F x y=(G x y).bind K):kO t pt bt own l b F=(kO t pt bt own l b G).bind K:=by
 unfold kO;split
 ·split
  ·split
   ·exact zq fun y=>h _ _
   ·rfl
  ·rfl
 ·rfl
theorem abF{t u v w:Ty}{l:List SV}{F:El t->El u->El v->El w->Option R}{G:El t->El u->El v->El w->Option S}{K:S->Option R}(h:∀x y z a,F x y z a=(G x y z a).bind K):F2 t u v w l F=(F2 t u v w l G).bind K:=by
 unfold F2;split
 ·split
  ·split
   ·exact zq fun x=>zq fun y=>h x y _ _
   ·rfl
  ·rfl
 ·rfl
theorem re{α:Type}{m:Option α}{F:α->Option R}{G:α->Option S}{K:S->Option R}(h:∀r,F r=(G r).bind K):m.bind F=(m.bind G).bind K:=by
 cases m with
 |none=>rfl
 |some x=>exact h x
theorem Pp{α β:Type}{f:α->Option R}{g:β->Option R}{f':α->Option S}{g':β->Option S}{K:S->Option R}{e:α⊕β}(h1:∀x,f x=(f' x).bind K)(h2:∀x,g x=(g' x).bind K):Sum.elim f g e=(Sum.elim f' g' e).bind K:=by
 cases e with
 |inl x=>exact h1 x
 |inr x=>exact h2 x
end
section
variable {R:Type}
theorem aeT{C:FuncId->bU R}{k:Nat}{fn:Func}{code:Code}{l q:List SV}{b:Option bC}{K:List SV->Option bC->Option R}(h:aM E.ps l=q)(hq:aM E.ps q=q)(hl:q.length=l.length):jj E C k fn code l b K=jj E C k fn code q b K:=by
 unfold jj
 simp only[h,hq,hl]
theorem KS:∀{ts:List Ty} {q:List SV},(∀s∈q,s.shut=s/\s≠ .cD)->aM ts q=q
 |ts,[],_=>by cases ts<;>simp [aM]
 | [],q,_=>by simp [aM]
 |t::r,v::q,h=>by
  have h1:=h v (by simp)
  have h2:=KS (ts:=r) (q:=q) (fun s hs=>h s (by simp [hs]))
  cases t<;>cases v<;>simp [aM,h2]<;>first|exact h1.1|exact absurd rfl h1.2
theorem aiR{ts:List Ty}{l:List SV}(h:aM ts l=[]):l=[]:=by
 have:=Rm ts l
 rw[h] at this
 exact List.length_eq_zero_iff.1 this.symm
theorem KR{t:Ty}{r:List Ty}{l:List SV}{v':SV}{q':List SV}(h:aM (t::r) l=v'::q'):∃v q,l=v::q:=by
 cases l with
 |nil=>simp [aM] at h
 |cons v q=>exact⟨v,q,rfl⟩
theorem nx{t:Ty}{r:List Ty}{l:List SV}{a:SV}{q':List SV}{K:El t->Option R}{z:R}(hn:aM (t::r) l=a::q')(h:a.el t K=some z):∃y v q,a= .ak t y []/\l=v::q/\aM r q=q'/\K y=some z:=by
 obtain⟨v,q,rfl⟩:=KR hn
 obtain⟨y,h1,h2,h3⟩:=akZ hn h
 exact⟨y,v,q,h1,rfl,h2.symm,h3⟩
theorem DU{l q:List SV}(hn:aM E.ps l=q)(hd:∀s∈q,s.shut=s/\s≠ .cD){C:FuncId->bU R}{k:Nat}{fn:Func}{code:Code}{b:Option bC}{K:List SV->Option bC->Option R}:jj E C k fn code l b K=jj E C k fn code q b K:=
 aeT hn (KS hd) (by rw[<-hn,Rm])
theorem xO{t:Ty}{x:El t}:(SV.ak t x []).shut=SV.ak t x []/\SV.ak t x []≠ .cD:=⟨rfl,by simp⟩
def gB(E:Env)(l q:List SV):Prop:=∀{R:Type} (C:FuncId->bU R) (k:Nat) (fn:Func) (code:Code) (b:Option bC) (K:List SV->Option bC->Option R),jj E C k fn code l b K=jj E C k fn code q b K
theorem xd{l:List SV}{F:Option R}{z:R}(iO:E.ps=[])(h:fH (aM [] l) F=some z):F=some z/\gB E l []:=by
 unfold fH at h
 split at h
 ·rename_i hn
  have:=aiR hn
  subst this
  exact⟨h,fun C k fn code b K=>rfl⟩
 ·cases h
theorem Jx{t:Ty}{l:List SV}{F:El t->Option R}{z:R}(iO:E.ps=[t])(h:fI t (aM [t] l) F=some z):∃x,F x=some z/\gB E l [.ak t x []]:=by
 unfold fI at h
 split at h
 ·rename_i a hn
  obtain⟨x,v,q,rfl,rfl,h1,h⟩:=nx hn h
  refine⟨x,h,fun C k fn code b K=>DU (by rw[iO];exact hn) ?_⟩
  intro s hs
  simp only[List.mem_cons,List.not_mem_nil,or_false] at hs
  subst hs;exact xO
 ·cases h
theorem ka{t u:Ty}{l:List SV}{F:El t->El u->Option R}{z:R}(iO:E.ps=[t,u])(h:fj t u (aM [t,u] l) F=some z):∃x y,F x y=some z/\gB E l [.ak t x [],.ak u y []]:=by
 unfold fj at h
 split at h
 ·rename_i a b hn
  obtain⟨x,v,q,rfl,rfl,h1,h⟩:=nx hn h
  obtain⟨y,v',q',rfl,rfl,h2,h⟩:=nx h1 h
  refine⟨x,y,h,fun C k fn code b K=>DU (by rw[iO];exact hn) ?_⟩
  intro s hs
  simp only[List.mem_cons,List.not_mem_nil,or_false] at hs
  rcases hs with rfl|rfl<;>exact xO
 ·cases h
theorem ZN{t u v:Ty}{l:List SV}{F:El t->El u->El v->Option R}{z:R}(iO:E.ps=[t,u,v])(h:kP t u v (aM [t,u,v] l) F=some z):∃x y a,F x y a=some z/\gB E l [.ak t x [],.ak u y [],.ak v a []]:=by
 unfold kP at h
 split at h
 ·rename_i a b c hn
  obtain⟨x,v,q,rfl,rfl,h1,h⟩:=nx hn h
  obtain⟨y,v',q',rfl,rfl,h2,h⟩:=nx h1 h
  obtain⟨w,v',q',rfl,rfl,h3,h⟩:=nx h2 h
  refine⟨x,y,w,h,fun C k fn code b K=>DU (by rw[iO];exact hn) ?_⟩
  intro s hs
  simp only[List.mem_cons,List.not_mem_nil,or_false] at hs
  rcases hs with rfl|rfl|rfl<;>exact xO
 ·cases h
theorem ZO{t u v w:Ty}{l:List SV}{F:El t->El u->El v->El w->Option R}{z:R}(iO:E.ps=[t,u,v,w])(h:kQ t u v w (aM [t,u,v,w] l) F=some z):∃x y a b,F x y a b=some z/\gB E l [.ak t x [],.ak u y [],.ak v a [],.ak w b []]:=by
 unfold kQ at h
 split at h
 ·rename_i a b c d hn
  obtain⟨x,v,q,rfl,rfl,h1,h⟩:=nx hn h
  obtain⟨y,v',q',rfl,rfl,h2,h⟩:=nx h1 h
  obtain⟨w,v',q',rfl,rfl,h3,h⟩:=nx h2 h
  obtain⟨w',v',q',rfl,rfl,h4,h⟩:=nx h3 h
  refine⟨x,y,w,w',h,fun C k fn code b K=>DU (by rw[iO];exact hn) ?_⟩
  intro s hs
  simp only[List.mem_cons,List.not_mem_nil,or_false] at hs
  rcases hs with rfl|rfl|rfl|rfl<;>exact xO
 ·cases h
theorem zgt{t:Ty}{own:List (List Nat)}{l:List SV}{b:Option bC}{F:El t->List SV->Option R}{z:R}(h:jK t own l b F=some z):∃x r,l= .ptr 0 t []::r/\b=some ⟨t,x,own⟩/\F x r=some z:=by
 unfold jK at h
 split at h
 ·rename_i u r B
  split at h
  ·rename_i hB
   split at h
   ·rename_i hu
    simp only[Bool.and_eq_true,beq_iff_eq] at hu
    obtain⟨h1,h2⟩:=hu
    obtain⟨Bt,Bx,Bo⟩:=B
    have:=Ty.aJ hB
    have h3:=Ty.aJ h1
    subst this
    subst h3
    subst h2
    exact⟨Bx,r,rfl,rfl,h⟩
   ·cases h
  ·cases h
 ·cases h
theorem aiY{ts:List Ty}{l:List SV}{t:Ty}{r:List SV}(h:aM (.unit::ts) l= .ptr 0 t []::r):∃q,l= .ptr 0 t []::q/\aM ts q=r:=by
 obtain⟨v,q,rfl⟩:=KR h
 cases v<;>simp [aM,SV.shut] at h
 obtain⟨⟨rfl,rfl,rfl⟩,h2⟩:=h
 exact⟨q,rfl,h2⟩
theorem NW{t:Ty}:(SV.ptr 0 t []).shut=SV.ptr 0 t []/\SV.ptr 0 t []≠ .cD:=⟨rfl,by simp⟩
theorem Cc{t:Ty}{own:List (List Nat)}{ts:List Ty}{l:List SV}{b:Option bC}{F:El t->List SV->Option R}{z:R}(h:jK t own (aM (.unit::ts) l) b F=some z):∃x q,l= .ptr 0 t []::q/\b=some ⟨t,x,own⟩/\F x (aM ts q)=some z:=by
 obtain⟨x,r,h1,h2,h3⟩:=zgt h
 obtain⟨q,rfl,hq⟩:=aiY h1
 exact⟨x,q,rfl,h2,by rw[hq];exact h3⟩
theorem gB.ptr{t:Ty}{ts:List Ty}{q q':List SV}(iO:E.ps= .unit::ts)(hn:aM ts q=q')(hd:∀s∈q',s.shut=s/\s≠ .cD):gB E (.ptr 0 t []::q) (.ptr 0 t []::q'):=fun C k fn code b K=>
 DU (by rw[iO];simp [aM,SV.shut,hn]) (fun s hs=>by
  rcases List.mem_cons.1 hs with rfl|hs
  ·exact NW
  ·exact hd s hs)
theorem Jy{t:Ty}{q:List SV}{F:Option R}{z:R}(iO:E.ps=[.unit])(h:fH (aM [] q) F=some z):F=some z/\gB E (.ptr 0 t []::q) [.ptr 0 t []]:=by
 unfold fH at h
 split at h
 ·rename_i hn
  exact⟨h,gB.ptr iO hn (by simp)⟩
 ·cases h
theorem Jz{t u:Ty}{q:List SV}{F:El u->Option R}{z:R}(iO:E.ps=[.unit,u])(h:fI u (aM [u] q) F=some z):∃x,F x=some z/\gB E (.ptr 0 t []::q) [.ptr 0 t [],.ak u x []]:=by
 unfold fI at h
 split at h
 ·rename_i a hn
  obtain⟨x,v,q,rfl,rfl,h1,h⟩:=nx hn h
  refine⟨x,h,gB.ptr iO hn ?_⟩
  intro s hs
  simp only[List.mem_cons,List.not_mem_nil,or_false] at hs
  subst hs;exact xO
 ·cases h
theorem JA{t u v:Ty}{q:List SV}{F:El u->El v->Option R}{z:R}(iO:E.ps=[.unit,u,v])(h:fj u v (aM [u,v] q) F=some z):∃x y,F x y=some z/\gB E (.ptr 0 t []::q) [.ptr 0 t [],.ak u x [],.ak v y []]:=by
 unfold fj at h
 split at h
 ·rename_i a b hn
  obtain⟨x,v,q,rfl,rfl,h1,h⟩:=nx hn h
  obtain⟨y,v',q',rfl,rfl,h2,h⟩:=nx h1 h
  refine⟨x,y,h,gB.ptr iO hn ?_⟩
  intro s hs
  simp only[List.mem_cons,List.not_mem_nil,or_false] at hs
  rcases hs with rfl|rfl<;>exact xO
 ·cases h
theorem JC{t pt bt:Ty}{own:List (List Nat)}{l:List SV}{b:Option bC}{F:El t->El bt->Option R}{z:R}(iO:E.ps=[t,.unit])(h:kO t pt bt own (aM [t,.unit] l) b F=some z):
 ∃x y,b=some ⟨bt,y,own⟩/\F x y=some z/\gB E l [.ak t x [],.ptr 0 pt []]:=by
 unfold kO at h
 split at h
 ·rename_i a u B hn
  split at h
  ·rename_i hB
   split at h
   ·rename_i hu
    simp only[Bool.and_eq_true,beq_iff_eq] at hu
    obtain⟨h1,h2⟩:=hu
    obtain⟨Bt,Bx,Bo⟩:=B
    have:=Ty.aJ hB
    have h3:=Ty.aJ h1
    subst this
    subst h3
    subst h2
    obtain⟨y,v,q,rfl,rfl,h4,h⟩:=nx hn h
    refine⟨y,Bx,rfl,h,fun C k fn code b K=>DU (by rw[iO];exact hn) ?_⟩
    intro s hs
    simp only[List.mem_cons,List.not_mem_nil,or_false] at hs
    rcases hs with rfl|rfl
    ·exact xO
    ·exact NW
   ·cases h
  ·cases h
 ·cases h
theorem Np{t:Ty}{x:El t}:(SV.view t x).shut=SV.view t x/\SV.view t x≠ .cD:=⟨rfl,by simp⟩
theorem JB{t u v w:Ty}{l:List SV}{F:El t->El u->El v->El w->Option R}{z:R}(iO:E.ps=[t,u,.unit,.unit])(h:F2 t u v w (aM [t,u,.unit,.unit] l) F=some z):
 ∃p q x y,F p q x y=some z/\gB E l [.ak t p [],.ak u q [],.view v x,.view w y]:=by
 unfold F2 at h
 split at h
 ·rename_i a b v' x w' y hn
  split at h
  ·rename_i hv
   split at h
   ·rename_i hw
    have:=Ty.aJ hv
    have h3:=Ty.aJ hw
    subst this
    subst h3
    obtain⟨p,v1,q1,rfl,rfl,h4,h⟩:=nx hn h
    obtain⟨q,v2,q2,rfl,rfl,h5,h⟩:=nx h4 h
    refine⟨p,q,x,y,h,fun C k fn code b K=>DU (by rw[iO];exact hn) ?_⟩
    intro s hs
    simp only[List.mem_cons,List.not_mem_nil,or_false] at hs
    rcases hs with rfl|rfl|rfl|rfl
    ·exact xO
    ·exact xO
    ·exact Np
    ·exact Np
   ·cases h
  ·cases h
 ·cases h
end
end Go.Ref

namespace Go.Ref
open Go
variable {P:Program} {E:Env}
def ax.after(X:ax)(w:World):ax:=⟨w,fun g=>if g<X.w.heap.size then X.ow g else .ro 0,X.β⟩
theorem ztu{X:ax}{w:World}(h:RowKit.Below X.w.heap.size X.w w){a:Addr}{v:Value}(hs:X.az a v):(X.after w).az a v:=by
 have ar:=ax.ii hs
 refine⟨hs.1,?_,?_⟩
 ·have:=hs.2.1
  simp only[World.cell?] at this⊢
  rw[show(X.after w).w=w from rfl,h.block _ ar];exact this
 ·simp only[ax.after];rw[if_pos ar];exact hs.2.2
theorem aef{X:ax}{w:World}(h:RowKit.Below X.w.heap.size X.w w):Ext X (X.after w) where
 az:=fun _ _=>ztu h
 size:=h.size
 os:=h.os
 tape:=h.tape
 output:=h.output
 β0:=rfl
 still:=fun g hg _=>⟨by simp only[ax.after];rw[if_pos hg],h.block g hg⟩
theorem aiG{C:ah}(h0:∀f,cT P C f){n:FuncId}{g:Pure}(ej:rD P n)
 (h:∀(l:List SV) (b:Option bC) (r:List SV) (b':Option bC),g (List SV×Option bC) l b (fun r b=>some (r,b))=some (r,b')->b'=none/\(∀id t p,SV.ptr id t p∉r)/\r.any SV.bM=false/\
   ∀(X:ax) (args:Array Value),jA X l b args->Calls P n args X.w fun e w'=>∃v,e= .returned v/\RowKit.Below X.w.heap.size X.w w'/\∀Y:ax,Y.w=w'->(∀a v,X.az a v->Y.az a v)->cI Y .r r v):∀f,cT P (C.add n [] g) f:=by
 intro f
 by_cases e:f=n
 ·subst e
  intro l b r b' hc
  unfold ah.add at hc
  have hb:Nat.beq f f=true:=by simp
  rw[hb] at hc
  have hc:g (List SV×Option bC) (aM [] l) b (fun r b=>some (r,b))=some (r,b'):=hc
  have hl:aM [] l=l:=by cases l<;>rfl
  rw[hl] at hc
  obtain⟨rfl,hp,dM,BD⟩:=h l b r b' hc
  refine⟨ej,fun X args gN=>(BD X args gN).mono fun e w' he=> ?_⟩
  obtain⟨v,rfl,hB,aL⟩:=he
  refine⟨X.after w',rfl,aef hB,0,aL {X.after w' with β:=fun _=>some 0} rfl (fun a v hs=>(ztu hB hs:(X.after w').az a v)),fun B' eb=>(by cases eb),fun _=>hp,dM⟩
 ·intro l b r b' hc
  unfold ah.add at hc
  have:Nat.beq f n=false:=by
   cases hh:Nat.beq f n with
   |false=>rfl
   |true=>exact absurd (Nat.eq_of_beq_eq_true hh) e
  rw[this] at hc
  exact h0 f l b r b' hc
theorem Ko{X:ax}{l:List SV}{b:Option bC}{args:Array Value}(h:jA X l b args){i:Nat}{sv:SV}(hs:l[i]? =some sv){x:ByteArray}(hx:∀(X:ax) (pl:List Nat->Place) (v:Value),aA X pl sv v->∃cs,bf X .str x cs/\v=dJ .str cs):args[i]? =some (.string x):=by
 have ar:i<args.size:=by rw[h.size];exact(List.getElem?_eq_some_iff.1 hs).1
 rw[Array.getElem?_eq_getElem ar]
 obtain⟨cs,h1,h2⟩:=hx X _ _ (h.rep i sv _ hs (Array.getElem?_eq_getElem ar))
 rw[h2,nm h1]
theorem aeR{X:ax}{l:List SV}{b:Option bC}{args:Array Value}(h:jA X l b args){i:Nat}{sv:SV}(hs:l[i]? =some sv){k:IntKind}{n:Int}(hx:∀(X:ax) (pl:List Nat->Place) (v:Value),aA X pl sv v->∃cs,bf X (.int k) n cs/\v=dJ (.int k) cs):args[i]? =some (.int k n):=by
 have ar:i<args.size:=by rw[h.size];exact(List.getElem?_eq_some_iff.1 hs).1
 rw[Array.getElem?_eq_getElem ar]
 obtain⟨cs,h1,h2⟩:=hx X _ _ (h.rep i sv _ hs (Array.getElem?_eq_getElem ar))
 rw[h2,lr h1]
theorem ahU{args:Array Value}{v:Value}(hs:args.size=1)(h:args[0]? =some v):args= #[v]:=by
 apply Array.ext'
 match hl:args.toList,(show args.toList.length=1 by simpa using hs) with
 | [x],_=>
   have:args.toList[0]? =some v:=by simpa using h
   rw[hl] at this
   simpa using this
theorem Lq{args:Array Value}{u v:Value}(hs:args.size=2)(h:args[0]? =some u)(h1:args[1]? =some v):args= #[u,v]:=by
 apply Array.ext'
 match hl:args.toList,(show args.toList.length=2 by simpa using hs) with
 | [x,y],_=>
   have a:args.toList[0]? =some u:=by simpa using h
   have b:args.toList[1]? =some v:=by simpa using h1
   rw[hl] at a b
   simp at a b
   rw[a,b]
theorem aiH{C:ah}(h0:∀f,cT P C f){n:FuncId}(ej:rD P n)(F:ByteArray->Int->Option ByteArray)
 (h:∀(s:ByteArray) (k:Int) (r:ByteArray),F s k=some r->∀w:World,Calls P n #[.string s,.int .i64 k] w fun e w'=>e= .returned (.string r)/\RowKit.Below w.heap.size w w'):
 ∀f,cT P (C.add n [] fun R l b K=>fV b (fj .str (.int .i64) l fun x0 x1=>(F x0 x1).bind fun r=>K [.ak .str r []] none)) f:=by
 refine aiG h0 ej fun l b r b' hc=> ?_
 obtain⟨hb,hc2⟩:=DP hc
 clear hc
 subst hb
 have hc:=hc2
 clear hc2
 unfold fj at hc
 split at hc
 case h_2=>cases hc
 rename_i sa sb
 obtain⟨s,hc,hs⟩:=zy hc
 obtain⟨k,hc,hk⟩:=zy hc
 have hc:((F s k).bind fun r=>some (([SV.ak .str r []]:List SV),(none:Option bC)))=some (r,b'):=hc
 cases hF:F s k with
 |none=>rw[hF] at hc;cases hc
 |some x=>
  rw[hF] at hc
  cases hc
  refine⟨rfl,(fun id t p hm=>by simp at hm),rfl,fun X args gN=> ?_⟩
  have e:=Lq gN.size (Ko gN rfl hs) (aeR gN rfl hk)
  rw[e]
  exact(h s k x hF X.w).mono fun e w' ⟨he,hB⟩=>⟨_,he,hB,fun Y _ _=>AL⟩
end Go.Ref
namespace bE
open Go Go.Ref
def strings_Repeat(s:ByteArray)(k:Int):Option ByteArray:=
 bif decide (0<=k) then bif decide (k<=9223372036854775807) then bif decide ((s.size:Int)*k<=140737488355328) then some ⟨(Go.Lib.repeatL s.data.toList k.toNat).toArray⟩ else none else none else none
theorem zdg{P:Program}{ρ:Go.Shelf.Ren}(L:Go.Proofs.Lays.n105 P ρ)(B:Go.Proofs.Builder.Extra P ρ){n:FuncId}(hn:ρ.f 105=n)(s:ByteArray)(k:Int)(r:ByteArray)(h:strings_Repeat s k=some r)(w:World):
 Calls P n #[.string s,.int .i64 k] w fun e w'=>e= .returned (.string r)/\RowKit.Below w.heap.size w w':=by
 subst hn
 unfold strings_Repeat at h
 by_cases h0:0<=k
 ·by_cases h1:k<=9223372036854775807
  ·by_cases h2:(s.size:Int)*k<=140737488355328
   ·rw[decide_eq_true h0,decide_eq_true h1,decide_eq_true h2] at h
    cases h
    obtain⟨c,rfl⟩:∃c:Nat,k=(c:Int):=⟨k.toNat,by omega⟩
    exact Go.Proofs.Any.strings_Repeat L B s c w (by omega) (by rw[<-Int.natCast_mul] at h2;omega)
   ·rw[decide_eq_true h0,decide_eq_true h1,decide_eq_false h2] at h;cases h
  ·rw[decide_eq_true h0,decide_eq_false h1] at h;cases h
 ·rw[decide_eq_false h0] at h;cases h
end bE

namespace Go.Ref
open Go Go.Shelf Go.RowKit Go.Proofs
variable {P:Program} {E:Env} {ρ:Ren}
abbrev xl(T e:TypeId):Ty:= .aG (.gi T e) .unit .unit
def QI(x s:ByteArray):Option (Int×ByteArray):=bif decide (x.size+s.size<=140737488355328) then some ((s.size:Int),x++s) else none
def z4y(x:ByteArray):Option (ByteArray×ByteArray):=some (x,x)
def PQ(T e:TypeId):Pure:=fun R l b K=>jK (xl T e) [[]] l b fun x0 l=>fI .str l fun x1=>(QI x0 x1).bind fun r=>K [.ak (.int .i64) r.1 [],.undef] (some ⟨xl T e,r.2,[[]]⟩)
def PO(T e:TypeId):Pure:=fun R l b K=>jK (xl T e) [[]] l b fun x0 l=>fH l ((z4y x0).bind fun r=>K [.ak .str r.1 []] (some ⟨xl T e,r.2,[]⟩))
theorem amS(T e:TypeId):(PQ T e).Nat:=fun R S l b F G K h=>On fun _ _=>zgv fun _=>re fun _=>h _ _
theorem amR(T e:TypeId):(PO T e).Nat:=fun R S l b F G K h=>On fun _ _=>zgu (re fun _=>h _ _)
theorem aaP(x s:ByteArray):Lib.strCells (x++s)=Lib.strCells x++Lib.strCells s:=by
 simp [Lib.strCells,ByteArray.data_append]
def ax.gi(X:ax)(w:World)(r:Nat)(g:Option Nat):ax:=⟨w,fun k=>if k=r then .box 0 else if g=some k then .row (.b 0 []) 0 else if k<X.w.heap.size then X.ow k else .ro 0,X.β⟩
theorem MO{X:ax}{w:World}{r:Nat}{g0 g:Option Nat}(how:X.ow r= .box 0)(h0:∀k,g0=some k->X.ow k= .row (.b 0 []) 0)(h:gh r g0 X.w w)(hg:∀k,g=some k->g0=some k\/X.w.heap.size<=k):Ext X (X.gi w r g):=by
 have dj:∀k,k<X.w.heap.size->X.ow k≠ .box 0->X.ow k≠ .row (.b 0 []) 0->(X.gi w r g).ow k=X.ow k/\w.heap[k]? =X.w.heap[k]? :=fun k hk h1 h2=>by
  have hr:k≠r:=fun e=>h1 (by rw[e];exact how)
  have hg1:g≠some k:=fun e=>by
   rcases hg k e with e2|e2
   ·exact h2 (h0 k e2)
   ·omega
  have hg2:some k≠g0:=fun e=>h2 (h0 k e.symm)
  refine⟨?_,h.block k hk hr hg2⟩
  simp only[ax.gi]
  rw[if_neg hr,if_neg hg1,if_pos hk]
 refine⟨fun a v hs=> ?_,h.size,h.os,h.tape,h.output,rfl,fun k hk bS=> ?_⟩
 ·have ar:=ax.ii hs
  have hu:=hs.2.2
  obtain⟨k1,k2⟩:=dj a.block ar (fun e=>by rw[e] at hu;exact hu) (fun e=>by rw[e] at hu;exact Nat.not_lt_zero _ hu)
  refine⟨hs.1,?_,by rw[k1];exact hu⟩
  have:=hs.2.1
  simp only[World.cell?] at this⊢
  rw[show(X.gi w r g).w.heap=w.heap from rfl,k2];exact this
 ·exact dj k hk (fun e=>by rw[e] at bS;exact bS) (fun e=>by rw[e] at bS;exact bS)
theorem Lv(n:Nat):Nat.beq n n=true:=by simp
theorem NE{f n:Nat}(e:f≠n):Nat.beq f n=false:=by
 cases hh:Nat.beq f n with
 |false=>rfl
 |true=>exact absurd (Nat.eq_of_beq_eq_true hh) e
theorem aeq{C:ah}(h0:∀f,cT P C f){n T e:TypeId}(ej:rD P n)(L:Lays.n166 P ρ)(X0:Builder.Extra P ρ)(hn:ρ.f 166=n)(hT:ρ.t 72=T)(he:ρ.t 5=e):∀f,cT P (C.add n [] (PQ T e)) f:=by
 subst hT he
 intro f
 by_cases ef:f=n
 ·subst ef
  intro l b r b' hc
  unfold ah.add at hc
  rw[Lv] at hc
  have hc:PQ (ρ.t 72) (ρ.t 5) (List SV×Option bC) (aM [] l) b (fun r b=>some (r,b))=some (r,b'):=hc
  have hl:aM [] l=l:=by cases l<;>rfl
  rw[hl] at hc
  unfold PQ at hc
  obtain⟨x,q,rfl,rfl,IB⟩:=zgt hc
  clear hc
  have hc:=IB
  clear IB
  unfold fI at hc
  split at hc
  case h_2=>cases hc
  rename_i a
  obtain⟨s,hc,hs⟩:=zy hc
  unfold QI at hc
  cases hd:decide (ByteArray.size x+s.size<=140737488355328) with
  |false=>rw[hd] at hc;cases hc
  |true=>
   rw[hd] at hc
   cases hc
   have hlen:=of_decide_eq_true hd
   refine⟨ej,fun X args gN=> ?_⟩
   obtain⟨r0,hβ,how,⟨o,ho⟩,hb⟩:=gN.box _ rfl
   obtain⟨v,hB,hv⟩:=hb (by simp)
   have du:args.size=2:=by rw[gN.size];rfl
   have a0:args[0]? =some (.pointer (some ⟨r0,0,none⟩)):=by
    rw[Array.getElem?_eq_getElem (by omega)]
    obtain⟨r1,g1,g2⟩:=gN.rep 0 _ _ rfl (Array.getElem?_eq_getElem (by omega))
    rw[hβ] at g1
    cases g1
    rw[((Ov rfl).1 g2).1];rfl
   have a1:args[1]? =some (.string s):=Ko gN (i:=1) rfl hs
   rw[Lq du a0 a1,<-hn]
   refine(aes L X0 r0 v (Lib.strCells x) s X.w hB (by rw[Lib.strCells_length];exact hlen)).mono ?_
   rintro e w' ⟨rfl,v',eb,wH,gI⟩
   have hY:(X.gi w' r0 v'.ownBlock).ow r0= .box 0:=by simp [ax.gi]
   refine⟨X.gi w' r0 v'.ownBlock,rfl,MO how hv wH gI,r0,⟨_,rfl,rfl,fun j sv u hj hu=> ?_⟩,fun B' cR=> ?_,(fun _ id t p hm=>by simp at hm),rfl⟩
   ·match j with
    |0=>cases hj;cases hu;exact iZ
    |1=>cases hj;trivial
    |j+2=>simp at hj
   ·cases cR
    refine⟨⟨hY,?_,fun _=>⟨v',by rw[aaP];exact eb,fun g hg=> ?_⟩⟩,fun _=>hβ⟩
    ·rcases eb.mI with h|h<;>exact⟨_,h⟩
    ·simp only[ax.gi]
     rw[if_neg (fun e=>eb.ne (by rw[hg,e])),if_pos hg]
 ·intro l b r b' hc
  unfold ah.add at hc
  rw[NE ef] at hc
  exact h0 f l b r b' hc
theorem aep{C:ah}(h0:∀f,cT P C f){n T e:TypeId}(ej:rD P n)(L:Lays.n169 P ρ)(X0:Builder.Extra P ρ)(hn:ρ.f 169=n)(hT:ρ.t 72=T)(he:ρ.t 5=e):∀f,cT P (C.add n [] (PO T e)) f:=by
 subst hT he
 intro f
 by_cases ef:f=n
 ·subst ef
  intro l b r b' hc
  unfold ah.add at hc
  rw[Lv] at hc
  have hc:PO (ρ.t 72) (ρ.t 5) (List SV×Option bC) (aM [] l) b (fun r b=>some (r,b))=some (r,b'):=hc
  have hl:aM [] l=l:=by cases l<;>rfl
  rw[hl] at hc
  unfold PO at hc
  obtain⟨x,q,rfl,rfl,IB⟩:=zgt hc
  clear hc
  have hc:=IB
  clear IB
  unfold fH at hc
  split at hc
  case h_2=>cases hc
  cases hc
  refine⟨ej,fun X args gN=> ?_⟩
  obtain⟨r0,hβ,how,⟨o,ho⟩,hb⟩:=gN.box _ rfl
  obtain⟨v,hB,hv⟩:=hb (by simp)
  have du:args.size=1:=by rw[gN.size];rfl
  have a0:args[0]? =some (.pointer (some ⟨r0,0,none⟩)):=by
   rw[Array.getElem?_eq_getElem (by omega)]
   obtain⟨r1,g1,g2⟩:=gN.rep 0 _ _ rfl (Array.getElem?_eq_getElem (by omega))
   rw[hβ] at g1
   cases g1
   rw[((Ov rfl).1 g2).1];rfl
  rw[ahU du a0,<-hn]
  refine(ah0 L X0 r0 v (x:ByteArray).data.toList X.w hB).mono ?_
  rintro e w' ⟨rfl,wH⟩
  have hY:(X.gi w' r0 none).ow r0= .box 0:=by simp [ax.gi]
  refine⟨X.gi w' r0 none,rfl,MO how hv wH (fun k hk=>by cases hk),r0,?_,fun B' cR=> ?_,(fun _ id t p hm=>by simp at hm),rfl⟩
  ·exact AL
  ·cases cR
   refine⟨⟨hY,⟨_,Array.getElem?_eq_getElem (Nat.lt_of_lt_of_le hB.lt wH.size)⟩,fun hm=>by cases hm⟩,fun _=>hβ⟩
 ·intro l b r b' hc
  unfold ah.add at hc
  rw[NE ef] at hc
  exact h0 f l b r b' hc
end Go.Ref

namespace Go.Ref
open Go
variable {P:Program} {R S:Type}
structure aO(P:Program)(T:ah):Prop where
 mix:P.follows .mixedOrders=true
 nat:T.Nat
 ub:∀f,cT P T f
noncomputable abbrev cd (fn:Func):Code:=fn.body.getD .skip
noncomputable abbrev uL (E:Env) (T:ah) (R:Type) (k:Nat) (fn:Func) (l:List SV) (b:Option bC) (K:List SV->Option bC->Option R):Option R:=jj E (T R) k fn (cd fn) l b K
abbrev KF(R:Type):Type:=List SV->Option bC->Option R
abbrev KX(R:Type):Type:=Ex->State->Option R
abbrev ki(β:Type):Type 1:=(R:Type)->β->KF R->Option R
def ki.Nat{β:Type}(o:ki β):Prop:=∀(R S:Type) r (F:KF R) (G:KF S) (K:S->Option R),(∀r b,F r b=(G r b).bind K)->o R r F=(o S r G).bind K
def tc(fn:Func):Bool:= !(fn.name== "runtime.NumGoroutine")&&fn.body.isSome
def tI(x:Int):SV:= .ak (.int .i64) x []
def tU(x:Int):SV:= .ak (.int .u8) x []
def tB(x:Bool):SV:= .ak .bool x []
def tS(x:ByteArray):SV:= .ak .str x []
theorem NN{kk:Nat}(hF:kk=ai){R:Type}(f:Unit->Option R):cF kk f=f ():=by rw[hF];exact ab5 f
theorem aF:(∀{R S:Type} (c:Bool) (x y:Option S) (F:S->Option R),(bif c then x else y).bind F=bif c then x.bind F else y.bind F)/\(∀{R S:Type} (i:Int) (n:Nat) (x:Option S) (F:S->Option R),(zd i n x).bind F=zd i n (x.bind F))/\
 (∀{R S:Type} (F:S->Option R),(.none:Option S).bind F= .none)/\(∀{R S:Type} (x:S) (F:S->Option R),(some x).bind F=F x)/\(∀{R S α β:Type} (f:α->Option S) (g:β->Option S) (e:α⊕β) (F:S->Option R),(Sum.elim f g e).bind F=Sum.elim (fun x=>(f x).bind F) (fun x=>(g x).bind F) e)/\
 (∀{R S α:Type} (x:Option α) (f:α->Option S) (F:S->Option R),(x.bind f).bind F=x.bind fun y=>(f y).bind F)/\(∀{α β γ:Type} (f:α->γ) (g:β->γ) (x:α),Sum.elim f g (.inl x)=f x)/\(∀{α β γ:Type} (f:α->γ) (g:β->γ) (x:β),Sum.elim f g (.inr x)=g x):=
 ⟨zh8,abn,afe,zc,ai5,aeo,fun _ _ _=>rfl,fun _ _ _=>rfl⟩
theorem aO.none(hm:P.follows .mixedOrders=true):aO P ah.none:=⟨hm,aiQ,aff⟩
theorem aO.add{E:Env}{T:ah}(h:aO P T)(hE:aq P E){n:FuncId}{ps:List Ty}{g:Pure}{fn:Func}(io:P.funcs[n]? =some fn)(hc:tc fn=true)(hg:g.Nat)
 (h1:∀(l:List SV) (b:Option bC) (r:List SV) (b':Option bC),g (List SV×Option bC) (aM ps l) b (fun r b=>some (r,b))=some (r,b')->∃k,jj E (T (List SV×Option bC)) k fn (cd fn) l b (fun r b=>some (r,b))=some (r,b')):aO P (T.add n ps g):=by
 obtain⟨h2,h3⟩:=Bool.and_eq_true_iff.1 hc
 refine⟨h.mix,Um h.nat hg,ahS hE h.mix h.nat h.ub io (by simpa using h2) ?_ h1⟩
 cases e:fn.body with
 |none=>rw[e] at h3;cases h3
 |some c=>simp [cd,e]
def Fe{β:Type}(f:Option β)(o:ki β):Pure:=fun R l b K=>fV b (fH l (f.bind fun r=>o R r K))
theorem JL(E:Env){T:ah}{n:FuncId}(fn:Func){β:Type}{f:Option β}{o:ki β}(m:(R:Type)->Nat->KF R->Option R)(h0:aO P T)(hE:aq P E)(io:P.funcs[n]? =some fn)(hc:tc fn=true)(hp:E.ps=[])(ho:o.Nat)
 (h1:∀(R:Type) k (K:KF R),uL E T R k fn [] .none K=m R k K) (h2:∀(R:Type) kk (e:kk=ai) (K:KF R),m R kk K=f.bind fun r=>o R r K):aO P (T.add n [] (Fe f o)):=
 h0.add hE io hc (fun R S l b F G K h=>DS (zgu (re fun _=>ho _ _ _ _ _ _ h))) fun l b r b' h=>by
  obtain⟨rfl,h5⟩:=DP h
  obtain⟨h3,h4⟩:=xd hp h5
  exact⟨ai,(h4 _ _ _ _ _ _).trans (((h1 _ _ _).trans (h2 _ _ rfl _)).trans h3)⟩
def cK(t:Ty){β:Type}(f:El t->Option β)(o:ki β):Pure:=fun R l b K=>fV b (fI t l (fun x=>(f x).bind fun r=>o R r K))
theorem cM(E:Env){T:ah}{n:FuncId}(fn:Func){t:Ty}{β:Type}{f:El t->Option β}{o:ki β}(m:(R:Type)->Nat->El t->KF R->Option R)(h0:aO P T)(hE:aq P E)(io:P.funcs[n]? =some fn)(hc:tc fn=true)(hp:E.ps=[t])(ho:o.Nat)
 (h1:∀(R:Type) k x (K:KF R),uL E T R k fn [.ak t x []] .none K=m R k x K) (h2:∀(R:Type) kk (e:kk=ai) x (K:KF R),m R kk x K=(f x).bind fun r=>o R r K):aO P (T.add n [t] (cK t f o)):=
 h0.add hE io hc (fun R S l b F G K h=>DS (zgv fun _=>re fun _=>ho _ _ _ _ _ _ h)) fun l b r b' h=>by
  obtain⟨rfl,h5⟩:=DP h
  obtain⟨x,h3,h4⟩:=Jx hp h5
  exact⟨ai,(h4 _ _ _ _ _ _).trans (((h1 _ _ x _).trans (h2 _ _ rfl x _)).trans h3)⟩
def dw(t u:Ty){β:Type}(f:El t->El u->Option β)(o:ki β):Pure:=fun R l b K=>fV b (fj t u l (fun x y=>(f x y).bind fun r=>o R r K))
theorem dD(E:Env){T:ah}{n:FuncId}(fn:Func){t u:Ty}{β:Type}{f:El t->El u->Option β}{o:ki β}(m:(R:Type)->Nat->El t->El u->KF R->Option R)(h0:aO P T)(hE:aq P E)(io:P.funcs[n]? =some fn)(hc:tc fn=true)(hp:E.ps=[t,u])(ho:o.Nat)
 (h1:∀(R:Type) k x y (K:KF R),uL E T R k fn [.ak t x [],.ak u y []] .none K=m R k x y K) (h2:∀(R:Type) kk (e:kk=ai) x y (K:KF R),m R kk x y K=(f x y).bind fun r=>o R r K):aO P (T.add n [t,u] (dw t u f o)):=
 h0.add hE io hc (fun R S l b F G K h=>DS (zgw fun _ _=>re fun _=>ho _ _ _ _ _ _ h)) fun l b r b' h=>by
  obtain⟨rfl,h5⟩:=DP h
  obtain⟨x,y,h3,h4⟩:=ka hp h5
  exact⟨ai,(h4 _ _ _ _ _ _).trans (((h1 _ _ x y _).trans (h2 _ _ rfl x y _)).trans h3)⟩
def kb(t u v:Ty){β:Type}(f:El t->El u->El v->Option β)(o:ki β):Pure:=fun R l b K=>fV b (kP t u v l (fun x y a=>(f x y a).bind fun r=>o R r K))
theorem ko(E:Env){T:ah}{n:FuncId}(fn:Func){t u v:Ty}{β:Type}{f:El t->El u->El v->Option β}{o:ki β}(m:(R:Type)->Nat->El t->El u->El v->KF R->Option R)(h0:aO P T)(hE:aq P E)(io:P.funcs[n]? =some fn)(hc:tc fn=true)(hp:E.ps=[t,u,v])(ho:o.Nat)
 (h1:∀(R:Type) k x y a (K:KF R),uL E T R k fn [.ak t x [],.ak u y [],.ak v a []] .none K=m R k x y a K) (h2:∀(R:Type) kk (e:kk=ai) x y a (K:KF R),m R kk x y a K=(f x y a).bind fun r=>o R r K):aO P (T.add n [t,u,v] (kb t u v f o)):=
 h0.add hE io hc (fun R S l b F G K h=>DS (aej fun _ _ _=>re fun _=>ho _ _ _ _ _ _ h)) fun l b r b' h=>by
  obtain⟨rfl,h5⟩:=DP h
  obtain⟨x,y,a,h3,h4⟩:=ZN hp h5
  exact⟨ai,(h4 _ _ _ _ _ _).trans (((h1 _ _ x y a _).trans (h2 _ _ rfl x y a _)).trans h3)⟩
def QA(t u v w:Ty){β:Type}(f:El t->El u->El v->El w->Option β)(o:ki β):Pure:=fun R l b K=>fV b (kQ t u v w l (fun x y a b=>(f x y a b).bind fun r=>o R r K))
theorem Z2(E:Env){T:ah}{n:FuncId}(fn:Func){t u v w:Ty}{β:Type}{f:El t->El u->El v->El w->Option β}{o:ki β}(m:(R:Type)->Nat->El t->El u->El v->El w->KF R->Option R)(h0:aO P T)(hE:aq P E)(io:P.funcs[n]? =some fn)(hc:tc fn=true)(hp:E.ps=[t,u,v,w])(ho:o.Nat)
 (h1:∀(R:Type) k x y a b (K:KF R),uL E T R k fn [.ak t x [],.ak u y [],.ak v a [],.ak w b []] .none K=m R k x y a b K) (h2:∀(R:Type) kk (e:kk=ai) x y a b (K:KF R),m R kk x y a b K=(f x y a b).bind fun r=>o R r K):aO P (T.add n [t,u,v,w] (QA t u v w f o)):=
 h0.add hE io hc (fun R S l b F G K h=>DS (aek fun _ _ _ _=>re fun _=>ho _ _ _ _ _ _ h)) fun l b r b' h=>by
  obtain⟨rfl,h5⟩:=DP h
  obtain⟨x,y,a,b,h3,h4⟩:=ZO hp h5
  exact⟨ai,(h4 _ _ _ _ _ _).trans (((h1 _ _ x y a b _).trans (h2 _ _ rfl x y a b _)).trans h3)⟩
def Fc(T0:Ty)(wn:List (List Nat)){β:Type}(f:El T0->Option β)(o:ki β):Pure:=fun R l b K=>jK T0 wn l b fun z l=>fH l ((f z).bind fun r=>o R r K)
theorem QF(E:Env){T:ah}{n:FuncId}(fn:Func){T0:Ty}{wn:List (List Nat)}{β:Type}{f:El T0->Option β}{o:ki β}(m:(R:Type)->Nat->El T0->KF R->Option R)(h0:aO P T)(hE:aq P E)(io:P.funcs[n]? =some fn)(hc:tc fn=true)(hp:E.ps=[.unit])(ho:o.Nat)
 (h1:∀(R:Type) k z (K:KF R),uL E T R k fn [.ptr 0 T0 []] (some ⟨T0,z,wn⟩) K=m R k z K) (h2:∀(R:Type) kk (e:kk=ai) z (K:KF R),m R kk z K=(f z).bind fun r=>o R r K):aO P (T.add n [.unit] (Fc T0 wn f o)):=
 h0.add hE io hc (fun R S l b F G K h=>On fun _ _=>zgu (re fun _=>ho _ _ _ _ _ _ h)) fun l b r b' h=>by
  unfold Fc at h
  obtain⟨z,q,rfl,rfl,h5⟩:=Cc h
  obtain⟨h3,h4⟩:=Jy hp h5
  exact⟨ai,(h4 _ _ _ _ _ _).trans (((h1 _ _ z _).trans (h2 _ _ rfl z _)).trans h3)⟩
def Cf(T0:Ty)(wn:List (List Nat))(t:Ty){β:Type}(f:El T0->El t->Option β)(o:ki β):Pure:=fun R l b K=>jK T0 wn l b fun z l=>fI t l (fun x=>(f z x).bind fun r=>o R r K)
theorem JJ(E:Env){T:ah}{n:FuncId}(fn:Func){T0:Ty}{wn:List (List Nat)}{t:Ty}{β:Type}{f:El T0->El t->Option β}{o:ki β}(m:(R:Type)->Nat->El T0->El t->KF R->Option R)(h0:aO P T)(hE:aq P E)(io:P.funcs[n]? =some fn)(hc:tc fn=true)(hp:E.ps=[.unit,t])(ho:o.Nat)
 (h1:∀(R:Type) k z x (K:KF R),uL E T R k fn [.ptr 0 T0 [],.ak t x []] (some ⟨T0,z,wn⟩) K=m R k z x K) (h2:∀(R:Type) kk (e:kk=ai) z x (K:KF R),m R kk z x K=(f z x).bind fun r=>o R r K):aO P (T.add n [.unit,t] (Cf T0 wn t f o)):=
 h0.add hE io hc (fun R S l b F G K h=>On fun _ _=>zgv fun _=>re fun _=>ho _ _ _ _ _ _ h) fun l b r b' h=>by
  unfold Cf at h
  obtain⟨z,q,rfl,rfl,h5⟩:=Cc h
  obtain⟨x,h3,h4⟩:=Jz hp h5
  exact⟨ai,(h4 _ _ _ _ _ _).trans (((h1 _ _ z x _).trans (h2 _ _ rfl z x _)).trans h3)⟩
def ZP(T0:Ty)(wn:List (List Nat))(t u:Ty){β:Type}(f:El T0->El t->El u->Option β)(o:ki β):Pure:=fun R l b K=>jK T0 wn l b fun z l=>fj t u l (fun x y=>(f z x y).bind fun r=>o R r K)
theorem sb2(E:Env){T:ah}{n:FuncId}(fn:Func){T0:Ty}{wn:List (List Nat)}{t u:Ty}{β:Type}{f:El T0->El t->El u->Option β}{o:ki β}(m:(R:Type)->Nat->El T0->El t->El u->KF R->Option R)(h0:aO P T)(hE:aq P E)(io:P.funcs[n]? =some fn)(hc:tc fn=true)(hp:E.ps=[.unit,t,u])(ho:o.Nat)
 (h1:∀(R:Type) k z x y (K:KF R),uL E T R k fn [.ptr 0 T0 [],.ak t x [],.ak u y []] (some ⟨T0,z,wn⟩) K=m R k z x y K) (h2:∀(R:Type) kk (e:kk=ai) z x y (K:KF R),m R kk z x y K=(f z x y).bind fun r=>o R r K):aO P (T.add n [.unit,t,u] (ZP T0 wn t u f o)):=
 h0.add hE io hc (fun R S l b F G K h=>On fun _ _=>zgw fun _ _=>re fun _=>ho _ _ _ _ _ _ h) fun l b r b' h=>by
  unfold ZP at h
  obtain⟨z,q,rfl,rfl,h5⟩:=Cc h
  obtain⟨x,y,h3,h4⟩:=JA hp h5
  exact⟨ai,(h4 _ _ _ _ _ _).trans (((h1 _ _ z x y _).trans (h2 _ _ rfl z x y _)).trans h3)⟩
def pz(t pt bt:Ty)(wn:List (List Nat)){β:Type}(f:El t->El bt->Option β)(o:ki β):Pure:=fun R l b K=>kO t pt bt wn l b fun x y=>(f x y).bind fun r=>o R r K
theorem sz(E:Env){T:ah}{n:FuncId}(fn:Func){t pt bt:Ty}{wn:List (List Nat)}{β:Type}{f:El t->El bt->Option β}{o:ki β}(m:(R:Type)->Nat->El t->El bt->KF R->Option R)(h0:aO P T)(hE:aq P E)(io:P.funcs[n]? =some fn)(hc:tc fn=true)(hp:E.ps=[t,.unit])(ho:o.Nat)
 (h1:∀(R:Type) k x y (K:KF R),uL E T R k fn [.ak t x [],.ptr 0 pt []] (some ⟨bt,y,wn⟩) K=m R k x y K) (h2:∀(R:Type) kk (e:kk=ai) x y (K:KF R),m R kk x y K=(f x y).bind fun r=>o R r K):aO P (T.add n [t,.unit] (pz t pt bt wn f o)):=
 h0.add hE io hc (fun R S l b F G K h=>aei fun _ _=>re fun _=>ho _ _ _ _ _ _ h) fun l b r b' h=>by
  obtain⟨x,y,rfl,h3,h4⟩:=JC hp h
  exact⟨ai,(h4 _ _ _ _ _ _).trans (((h1 _ _ x y _).trans (h2 _ _ rfl x y _)).trans h3)⟩
def pv(t u v w:Ty){β:Type}(f:El t->El u->El v->El w->Option β)(o:ki β):Pure:=fun R l b K=>fV b (F2 t u v w l (fun x y a b=>(f x y a b).bind fun r=>o R r K))
theorem sv(E:Env){T:ah}{n:FuncId}(fn:Func){t u v w:Ty}{β:Type}{f:El t->El u->El v->El w->Option β}{o:ki β}(m:(R:Type)->Nat->El t->El u->El v->El w->KF R->Option R)(h0:aO P T)(hE:aq P E)(io:P.funcs[n]? =some fn)(hc:tc fn=true)(hp:E.ps=[t,u,.unit,.unit])(ho:o.Nat)
 (h1:∀(R:Type) k x y a b (K:KF R),uL E T R k fn [.ak t x [],.ak u y [],.view v a,.view w b] .none K=m R k x y a b K) (h2:∀(R:Type) kk (e:kk=ai) x y a b (K:KF R),m R kk x y a b K=(f x y a b).bind fun r=>o R r K):aO P (T.add n [t,u,.unit,.unit] (pv t u v w f o)):=
 h0.add hE io hc (fun R S l b F G K h=>DS (abF fun _ _ _ _=>re fun _=>ho _ _ _ _ _ _ h)) fun l b r b' h=>by
  unfold pv at h
  obtain⟨rfl,h5⟩:=DP h
  obtain⟨x,y,a,b,h3,h4⟩:=JB hp h5
  exact⟨ai,(h4 _ _ _ _ _ _).trans (((h1 _ _ x y a b _).trans (h2 _ _ rfl x y a b _)).trans h3)⟩
end Go.Ref

namespace bE
open Go.IntKind renaming wrap->zW,i64->zI,u8->zU
open Go Go.Ref
abbrev mF:Type:=(ByteArray×Nat)
abbrev je:Type:=(Int×Int×Int)
abbrev Qd:Type:=(ByteArray×Int)
abbrev Zt3:Type:=(Int×ByteArray)
abbrev wA:Type:=(List (List Int))
abbrev js:Type:=(ByteArray×Bool)
abbrev aQ:Type:=(Int×Int×Unit)
abbrev Ik:Type:=(Int×Bool×Int)
abbrev Bf:Type:=(List (Int×Bool))
abbrev Il:Type:=(ByteArray×Int×Int)
abbrev bh:Type:=(Int×ByteArray×Unit)
abbrev gV:Type:=(List js)
abbrev dx:Type:=(ByteArray×ByteArray×Unit)
abbrev ap:Type:=(List bh)
abbrev ag:Type:=(Int×Bool×(List Int)×Unit)
abbrev aS:Type:=(Int×Int×Int×Int×Int×Unit)
abbrev lE:Type:=(Int×Int×ByteArray×Int×Unit)
abbrev aN:Type:=(List dx)
abbrev s7:Type:=(Int×ag)
abbrev gC:Type:=(List aS)
abbrev cp:Type:=(List lE)
abbrev jf:Type:=(ap×Int×Int)
abbrev aw:Type:=(ByteArray×ap×Unit)
abbrev af:Type:=(Int×Int×gC×Unit)
abbrev nW:Type:=(List af)
abbrev aE:Type:=(Int×Int×Int×ByteArray×aN×Unit)
abbrev qE:Type:=(ap×Int×Int×ap)
abbrev bQ:Type:=(List aE)
abbrev qF:Type:=(aw×aQ×aw)
abbrev ay:Type:=(aN×bQ×Unit)
abbrev qG:Type:=(ByteArray×Int×aw×aQ×aw)
abbrev au:Type:=(af×ay×(List Int)×ap×Unit)
abbrev mG:Type:=(List au)
abbrev lF:Type:=(ay×af×af)
abbrev al:Type:=(mG×Int×Unit)
abbrev lG:Type:=(Int×Int×Int×ay×af×af)
def TS{R:Type}(a:ByteArray)(b:Int)(c:ByteArray->Int->Option R):Option R:=
 c a b
def TT{R:Type}(a:ByteArray)(b:Int)(c:ByteArray->Int->Option R)(d:ByteArray->Option R):Option R:=
 bif 0<(a.size:Int) then zd (zW zI ((a.size:Int)-1)) a.size (bif ze a (zW zI ((a.size:Int)-(1:Int))).toNat=b then bif 0<=zW zI ((a.size:Int)-1) then bif zW zI ((a.size:Int)-1)<=(a.size:Int) then c (a.extract 0 (zW zI ((a.size:Int)-(1:Int))).toNat) b else none else none else d a) else d a
def TU{R:Type}(a:ByteArray)(b:ByteArray->Option R):Option R:=
 b a
def FG:Nat->ByteArray->Int->Option ByteArray
 |0,_,_=>none
 |k+1,v0,v1=>TT v0 v1 (fun a0 a1=>FG k a0 a1) (fun a0=>some a0)
def vu(a:ByteArray)(b:Int):Option ByteArray:=
 TS a b (fun a0 a1=>(FG ai a0 a1).bind fun e=>TU e (fun a0=>some a0))
def TO{R:Type}(a:ByteArray)(b:Int)(c:ByteArray->Int->Option R):Option R:=
 c a b
def TP{R:Type}(a:ByteArray)(b:Int)(c:ByteArray->Int->Option R)(d:ByteArray->Option R):Option R:=
 bif 0<(a.size:Int) then zd 0 a.size (bif ze a ((0:Int)).toNat=b then bif 1<=(a.size:Int) then c (a.extract ((1:Int)).toNat a.size) b else none else d a) else d a
def TQ{R:Type}(a:ByteArray)(b:ByteArray->Option R):Option R:=
 b a
def FF:Nat->ByteArray->Int->Option ByteArray
 |0,_,_=>none
 |k+1,v0,v1=>TP v0 v1 (fun a0 a1=>FF k a0 a1) (fun a0=>some a0)
def vr(a:ByteArray)(b:Int):Option ByteArray:=
 TO a b (fun a0 a1=>(FF ai a0 a1).bind fun e=>TQ e (fun a0=>some a0))
def TM{R:Type}(a b:ByteArray)(c:ByteArray->Option R):Option R:=
 bif a=bs [] then c a else bif b=bs [] then c a else bif(b.size:Int)=1 then zd 0 b.size (bif ze b ((0:Int)).toNat<128 then zd 0 b.size ((vu a (ze b ((0:Int)).toNat)).bind fun r1=>zd 0 b.size ((vr r1 (ze b ((0:Int)).toNat)).bind fun r2=>c r2)) else none) else none
def sS(a b:ByteArray):Option ByteArray:=
 TM a b (fun a0=>some a0)
def Vt{R:Type}(a:ByteArray)(b:mF->Option R):Option R:=
 b (a,0)
def Vu{R:Type}(a:mF)(b:Bool->Option R)(c:mF->Option R)(d:Option R):Option R:=
 bif a.2<a.1.size then bif(((Utf8.decode a.1 a.2).1:Nat):Int)<48 then b false else bif 57<(((Utf8.decode a.1 a.2).1:Nat):Int) then b false else c (a.1,a.2+(Utf8.decode a.1 a.2).2) else d
def z141{R:Type}(a:Bool)(b:Bool->Option R):Option R:=
 b a
def CP{R:Type}(a:Bool->Option R):Option R:=
 a true
def FR:Nat->mF->Option (Sum Bool Unit)
 |0,_=>none
 |k+1,v0=>Vu v0 (fun a0=>some (.inl a0)) (fun a0=>FR k a0) (some (.inr ()))
def xZ(a:ByteArray):Option Bool:=
 Vt a (fun a0=>(FR ai a0).bind fun e=>Sum.elim (fun(we:Bool)=>z141 we (fun a0=>some a0)) (fun(we:Unit)=>CP (fun a0=>some a0)) e)
def Vw{R:Type}(a:ByteArray)(b:Int->Bool->Option R)(c:Int->mF->Option R):Option R:=
 bif a=bs [] then b 0 false else bif 18<(a.size:Int) then b 0 false else(xZ a).bind fun r1=>bif !r1 then b 0 false else c 0 (a,0)
def Vx{R:Type}(a:Int)(b:mF)(c:Int->mF->Option R)(d:Int->Option R):Option R:=
 bif b.2<b.1.size then c (zW zI (zW zI (10*a)+zW zI (IntKind.i32.wrap ((((Utf8.decode b.1 b.2).1:Nat):Int)-48)))) (b.1,b.2+(Utf8.decode b.1 b.2).2) else d a
def z143{R:Type}(a:Int)(b:Int->Bool->Option R):Option R:=
 b a true
def FT:Nat->Int->mF->Option Int
 |0,_,_=>none
 |k+1,v0,v1=>Vx v0 v1 (fun a0 a1=>FT k a0 a1) (fun a0=>some a0)
def x4(a:ByteArray):Option (Int×Bool):=
 Vw a (fun a0 a1=>some (a0,a1)) (fun a0 a1=>(FT ai a0 a1).bind fun e=>z143 e (fun a0 a1=>some (a0,a1)))
def VA{R:Type}(a b:Int)(c:ByteArray->Bool->Option R)(d:Int->Nat->Int->Nat->(List Int)->Option R):Option R:=
 bif a<0 then c (bs []) false else bif b<1 then c (bs []) false else bif 18<b then c (bs []) false else bif b=b then bif 0<=b then bif b*1<=140737488355328 then d a b.toNat (zW zI (b-1)) b.toNat (List.replicate b.toNat 0) else none else none else none
def Pw{R:Type}(a:Int)(b:Nat)(c:Int)(d:Nat)(e:(List Int))(f:Int->Nat->Int->Nat->(List Int)->Option R)(g:Int->Nat->Nat->(List Int)->Option R):Option R:=
 bif 0<=c then zd c b (bif Nat.ble (c.toNat+1) (List.length e) then f (zW zI (Int.tdiv a 10)) b (zW zI (c-1)) d (List.set e c.toNat (zW zU (zW zI (48+Int.tmod a 10)))) else none) else g a b d e
def VB{R:Type}(a:Int)(b c:Nat)(d:(List Int))(e:ByteArray->Bool->Option R):Option R:=
 bif 0<a then e (bs []) false else bif Nat.beq b (List.length d) then e (strOf d) true else none
def EA:Nat->Int->Nat->Int->Nat->(List Int)->Option (Int×Nat×Nat×(List Int))
 |0,_,_,_,_,_=>none
 |k+1,v0,v1,v2,v3,v4=>Pw v0 v1 v2 v3 v4 (fun a0 a1 a2 a3 a4=>EA k a0 a1 a2 a3 a4) (fun a0 a1 a2 a3=>some (a0,a1,a2,a3))
def Gu(a b:Int):Option js:=
 VA a b (fun a0 a1=>some (a0,a1)) (fun a0 a1 a2 a3 a4=>(EA ai a0 a1 a2 a3 a4).bind fun e=>VB e.1 e.2.1 e.2.2.1 e.2.2.2 (fun a0 a1=>some (a0,a1)))
def Vy{R:Type}(a:ByteArray)(b:Int)(c:ByteArray->Bool->Option R):Option R:=
 bif a=bs [] then c (bs []) false else bif 999<(a.size:Int) then c (bs []) false else(xZ a).bind fun r1=>bif !r1 then c (bs []) false else bif b<1 then c (bs []) false else bif 999<b then c (bs []) false else bif(a.size:Int)<=b then(strings_Repeat (bs [48]) (zW zI (b-(a.size:Int)))).bind fun r2=>bif r2.size+a.size<=9223372036854775807 then c (r2++a) true else none else bif 0<=zW zI ((a.size:Int)-b) then bif zW zI ((a.size:Int)-b)<=(a.size:Int) then(sS (a.extract 0 (zW zI ((a.size:Int)-b)).toNat) (bs [48])).bind fun r3=>bif !decide (r3=bs []) then c (bs []) false else bif 0<=zW zI ((a.size:Int)-b) then bif zW zI ((a.size:Int)-b)<=(a.size:Int) then c (a.extract (zW zI ((a.size:Int)-b)).toNat a.size) true else none else none else none else none
def Gs(a:ByteArray)(b:Int):Option js:=
 Vy a b (fun a0 a1=>some (a0,a1))
def oI{R:Type}(a:Int)(b:Int->Option R):Option R:=
 bif a<1 then b 0 else b (zW zI (zW zI (Int.tdiv a 2)+Int.tmod a 2))
def Q2(a:Int):Option Int:=
 oI a (fun a0=>some a0)
def oo{R:Type}(a:ByteArray)(b:Int)(c:ByteArray->Int->Int->Option R)(d:ByteArray->Int->(List Int)->Int->Int->Option R):Option R:=
 bif b<0 then c (bs []) 1 0 else bif 999<b then c (bs []) 1 0 else(Q2 b).bind fun r1=>bif(a.size:Int)<r1 then c (bs []) 2 (a.size:Int) else bif 0<=zW zI (b+1) then bif zW zI (b+1)*1<=140737488355328 then(Q2 b).bind fun r2=>d a b [] r2 0 else none else none
def mm{R:Type}(a:ByteArray)(b:Int)(c:(List Int))(d e:Int)(f:Int->ByteArray->Int->Int->(List Int)->Option R)(g:ByteArray->Int->(List Int)->Int->Int->Option R)(h:Int->(List Int)->Option R):Option R:=
 bif e<d then zd e a.size (zd e a.size (bif e=0 then bif !decide (Int.tmod b 2=0) then bif !decide (Int.fdiv (ze a e.toNat) (2^min ((4:Int)).toNat 8)=0) then f b (bs []) 4 0 c else bif 9<Int.fdiv (ze a e.toNat) (2^min ((4:Int)).toNat 8) then f b (bs []) 3 e c else bif 9<aP .and .u8 (ze a e.toNat) 15 then f b (bs []) 3 e c else bif(List.length c+List.length ([(zW zU ((48:Int)+Int.fdiv (ze a e.toNat) (2^min ((4:Int)).toNat 8))),(zW zU ((48:Int)+aP .and .u8 (ze a e.toNat) (15:Int)))]:List Int))*1<=140737488355328 then g a b (c++([(zW zU (48+Int.fdiv (ze a e.toNat) (2^min ((4:Int)).toNat 8))),(zW zU (48+aP .and .u8 (ze a e.toNat) 15))]:List Int)) d (zW zI (e+1)) else none else bif 9<Int.fdiv (ze a e.toNat) (2^min ((4:Int)).toNat 8) then f b (bs []) 3 e c else bif 9<aP .and .u8 (ze a e.toNat) 15 then f b (bs []) 3 e c else bif(List.length c+List.length ([(zW zU ((48:Int)+Int.fdiv (ze a e.toNat) (2^min ((4:Int)).toNat 8))),(zW zU ((48:Int)+aP .and .u8 (ze a e.toNat) (15:Int)))]:List Int))*1<=140737488355328 then g a b (c++([(zW zU (48+Int.fdiv (ze a e.toNat) (2^min ((4:Int)).toNat 8))),(zW zU (48+aP .and .u8 (ze a e.toNat) 15))]:List Int)) d (zW zI (e+1)) else none else bif 9<Int.fdiv (ze a e.toNat) (2^min ((4:Int)).toNat 8) then f b (bs []) 3 e c else bif 9<aP .and .u8 (ze a e.toNat) 15 then f b (bs []) 3 e c else bif(List.length c+List.length ([(zW zU ((48:Int)+Int.fdiv (ze a e.toNat) (2^min ((4:Int)).toNat 8))),(zW zU ((48:Int)+aP .and .u8 (ze a e.toNat) (15:Int)))]:List Int))*1<=140737488355328 then g a b (c++([(zW zU (48+Int.fdiv (ze a e.toNat) (2^min ((4:Int)).toNat 8))),(zW zU (48+aP .and .u8 (ze a e.toNat) 15))]:List Int)) d (zW zI (e+1)) else none)) else h b c
def rX{R:Type}(a:Int)(b:ByteArray)(c d:Int)(e:(List Int))(f:ByteArray->Int->Int->Option R):Option R:=
 f b c d
def oq{R:Type}(a:Int)(b:(List Int))(c:ByteArray->Int->Int->Option R):Option R:=
 bif 0<=Int.tmod a 2 then bif Int.tmod a 2<=(((List.length b):Nat):Int) then c (strOf (List.drop (Int.tmod a (2:Int)).toNat (List.take (List.length b) b))) 0 0 else none else none
def iK:Nat->ByteArray->Int->(List Int)->Int->Int->Option (Sum (Int×ByteArray×Int×Int×(List Int)) (Int×(List Int)))
 |0,_,_,_,_,_=>none
 |k+1,v0,v1,v2,v3,v4=>mm v0 v1 v2 v3 v4 (fun a0 a1 a2 a3 a4=>some (.inl (a0,a1,a2,a3,a4))) (fun a0 a1 a2 a3 a4=>iK k a0 a1 a2 a3 a4) (fun a0 a1=>some (.inr (a0,a1)))
def Q0(a:ByteArray)(b:Int):Option Il:=
 oo a b (fun a0 a1 a2=>some (a0,a1,a2)) (fun a0 a1 a2 a3 a4=>(iK ai a0 a1 a2 a3 a4).bind fun e=>Sum.elim (fun(we:(Int×ByteArray×Int×Int×(List Int)))=>rX we.1 we.2.1 we.2.2.1 we.2.2.2.1 we.2.2.2.2 (fun a0 a1 a2=>some (a0,a1,a2))) (fun(we:(Int×(List Int)))=>oq we.1 we.2 (fun a0 a1 a2=>some (a0,a1,a2))) e)
def kJ{R:Type}(a:ByteArray)(b:ByteArray->Bool->Option R)(c:ByteArray->(List Int)->Int->Option R):Option R:=
 bif 999<(a.size:Int) then b (bs []) false else(xZ a).bind fun r1=>bif !r1 then b (bs []) false else bif !decide (Int.tmod (a.size:Int) 2=0) then bif(bs [48]).size+a.size<=9223372036854775807 then bif 0<=zW zI (Int.tdiv ((bs [48]++a).size:Int) 2) then bif zW zI (Int.tdiv ((bs [48]++a).size:Int) 2)*1<=140737488355328 then c (bs [48]++a) [] 0 else none else none else none else bif 0<=zW zI (Int.tdiv (a.size:Int) 2) then bif zW zI (Int.tdiv (a.size:Int) 2)*1<=140737488355328 then c a [] 0 else none else none
theorem abz{R S:Type}(F:R->Option S)(a)(b)(c):(kJ a b c).bind F=kJ a (fun a0 a1=>(b a0 a1).bind F) (fun a0 a1 a2=>(c a0 a1 a2).bind F):=by
 simp only[kJ,aF]
def mz{R:Type}(a:ByteArray)(b:(List Int))(c:Int)(d:ByteArray->(List Int)->Int->Option R)(e:(List Int)->Option R):Option R:=
 bif c<(a.size:Int) then zd c a.size (zd (zW zI (c+1)) a.size (bif(List.length b+List.length ([(aP .or .u8 (zW zU (zW zU (ze a c.toNat-(48:Int))*2^min ((4:Int)).toNat 8)) (zW zU (ze a (zW zI (c+(1:Int))).toNat-(48:Int))))]:List Int))*1<=140737488355328 then d a (b++([(aP .or .u8 (zW zU (zW zU (ze a c.toNat-48)*2^min ((4:Int)).toNat 8)) (zW zU (ze a (zW zI (c+(1:Int))).toNat-48)))]:List Int)) (zW zI (c+2)) else none)) else e b
def sP{R:Type}(a:(List Int))(b:ByteArray->Bool->Option R):Option R:=
 b (strOf a) true
def jD:Nat->ByteArray->(List Int)->Int->Option (List Int)
 |0,_,_,_=>none
 |k+1,v0,v1,v2=>mz v0 v1 v2 (fun a0 a1 a2=>jD k a0 a1 a2) (fun a0=>some a0)
def Q1(a:ByteArray):Option js:=
 kJ a (fun a0 a1=>some (a0,a1)) (fun a0 a1 a2=>(jD ai a0 a1 a2).bind fun e=>sP e (fun a0 a1=>some (a0,a1)))
def oP{R:Type}(a:Int)(b:Int->Option R):Option R:=
 bif a<0 then b 0 else bif 65535<a then b 0 else bif 255<a then b (zW zI (zW zI (zW zI (0+1)+1)+1)) else bif 127<a then b (zW zI (zW zI (0+1)+1)) else b (zW zI (0+1))
def Q4(a:Int):Option Int:=
 oP a (fun a0=>some a0)
def kK{R:Type}(a:ByteArray)(b:Int)(c:Int->Int->Int->Option R)(d:ByteArray->Int->Int->Int->Int->Int->Option R):Option R:=
 bif b<0 then c 0 0 1 else bif(a.size:Int)<b then c 0 0 1 else bif b=(a.size:Int) then c 0 0 2 else zd b a.size (bif 127<zW zI (ze a b.toNat) then bif zW zI (ze a b.toNat)=128 then c 0 0 14 else bif 130<zW zI (ze a b.toNat) then c 0 0 14 else bif zW zI ((a.size:Int)-zW zI (b+1))<zW zI (zW zI (ze a b.toNat)-128) then c 0 0 2 else d a (zW zI (b+1)) 0 (zW zI (zW zI (ze a b.toNat)-128)) (zW zI (zW zI (ze a b.toNat)-128)) 0 else bif zW zI ((a.size:Int)-zW zI (b+1))<0 then c 0 0 2 else d a (zW zI (b+1)) (zW zI (ze a b.toNat)) 0 0 0)
theorem abA{R S:Type}(F:R->Option S)(a)(b)(c)(d):(kK a b c d).bind F=kK a b (fun a0 a1 a2=>(c a0 a1 a2).bind F) (fun a0 a1 a2 a3 a4 a5=>(d a0 a1 a2 a3 a4 a5).bind F):=by
 simp only[kK,aF]
def kL{R:Type}(a:ByteArray)(b c d e f:Int)(g:ByteArray->Int->Int->Int->Int->Int->Option R)(h:Int->Int->Int->Option R):Option R:=
 bif f<e then zd (zW zI (b+f)) a.size (g a b (aP .or .i64 (zW zI (c*2^min ((8:Int)).toNat 64)) (zW zI (ze a (zW zI (b+f)).toNat))) d e (zW zI (f+1))) else h b c d
def kM{R:Type}(a b c:Int)(d:Int->Int->Int->Option R):Option R:=
 (Q4 b).bind fun r1=>bif !decide (r1=zW zI (c+1)) then d 0 0 14 else d b (zW zI (a+c)) 0
def eK:Nat->ByteArray->Int->Int->Int->Int->Int->Option je
 |0,_,_,_,_,_,_=>none
 |k+1,v0,v1,v2,v3,v4,v5=>kL v0 v1 v2 v3 v4 v5 (fun a0 a1 a2 a3 a4 a5=>eK k a0 a1 a2 a3 a4 a5) (fun a0 a1 a2=>some (a0,a1,a2))
def Q3(a:ByteArray)(b:Int):Option je:=
 kK a b (fun a0 a1 a2=>some (a0,a1,a2)) (fun a0 a1 a2 a3 a4 a5=>(eK ai a0 a1 a2 a3 a4 a5).bind fun e=>kM e.1 e.2.1 e.2.2 (fun a0 a1 a2=>some (a0,a1,a2)))
def zxg{R:Type}(a:Int)(b:Int->Option R):Option R:=
 bif 4294967296<=a then bif 65536<=Int.fdiv a (2^min ((32:Int)).toNat 64) then bif 256<=Int.fdiv (Int.fdiv a (2^min ((32:Int)).toNat 64)) (2^min ((16:Int)).toNat 64) then zd (zW zU (Int.fdiv (Int.fdiv (Int.fdiv a (2^min ((32:Int)).toNat 64)) (2^min ((16:Int)).toNat 64)) (2^min ((8:Int)).toNat 64))) (bs [0,1,2,2,3,3,3,3,4,4,4,4,4,4,4,4,5,5,5,5,5,5,5,5,5,5,5,5,5,5,5,5,6,6,6,6,6,6,6,6,6,6,6,6,6,6,6,6,6,6,6,6,6,6,6,6,6,6,6,6,6,6,6,6,7,7,7,7,7,7,7,7,7,7,7,7,7,7,7,7,7,7,7,7,7,7,7,7,7,7,7,7,7,7,7,7,7,7,7,7,7,7,7,7,7,7,7,7,7,7,7,7,7,7,7,7,7,7,7,7,7,7,7,7,7,7,7,7,8,8,8,8,8,8,8,8,8,8,8,8,8,8,8,8,8,8,8,8,8,8,8,8,8,8,8,8,8,8,8,8,8,8,8,8,8,8,8,8,8,8,8,8,8,8,8,8,8,8,8,8,8,8,8,8,8,8,8,8,8,8,8,8,8,8,8,8,8,8,8,8,8,8,8,8,8,8,8,8,8,8,8,8,8,8,8,8,8,8,8,8,8,8,8,8,8,8,8,8,8,8,8,8,8,8,8,8,8,8,8,8,8,8,8,8,8,8,8,8,8,8,8,8,8,8,8,8]).size (b (zW zI (zW zI (zW zI (32+16)+8)+zW zI (ze (bs [0,1,2,2,3,3,3,3,4,4,4,4,4,4,4,4,5,5,5,5,5,5,5,5,5,5,5,5,5,5,5,5,6,6,6,6,6,6,6,6,6,6,6,6,6,6,6,6,6,6,6,6,6,6,6,6,6,6,6,6,6,6,6,6,7,7,7,7,7,7,7,7,7,7,7,7,7,7,7,7,7,7,7,7,7,7,7,7,7,7,7,7,7,7,7,7,7,7,7,7,7,7,7,7,7,7,7,7,7,7,7,7,7,7,7,7,7,7,7,7,7,7,7,7,7,7,7,7,8,8,8,8,8,8,8,8,8,8,8,8,8,8,8,8,8,8,8,8,8,8,8,8,8,8,8,8,8,8,8,8,8,8,8,8,8,8,8,8,8,8,8,8,8,8,8,8,8,8,8,8,8,8,8,8,8,8,8,8,8,8,8,8,8,8,8,8,8,8,8,8,8,8,8,8,8,8,8,8,8,8,8,8,8,8,8,8,8,8,8,8,8,8,8,8,8,8,8,8,8,8,8,8,8,8,8,8,8,8,8,8,8,8,8,8,8,8,8,8,8,8,8,8,8,8,8,8]) (zW zU (Int.fdiv (Int.fdiv (Int.fdiv a (2^min ((32:Int)).toNat 64)) (2^min ((16:Int)).toNat 64)) (2^min ((8:Int)).toNat 64))).toNat)))) else zd (zW zU (Int.fdiv (Int.fdiv a (2^min ((32:Int)).toNat 64)) (2^min ((16:Int)).toNat 64))) (bs [0,1,2,2,3,3,3,3,4,4,4,4,4,4,4,4,5,5,5,5,5,5,5,5,5,5,5,5,5,5,5,5,6,6,6,6,6,6,6,6,6,6,6,6,6,6,6,6,6,6,6,6,6,6,6,6,6,6,6,6,6,6,6,6,7,7,7,7,7,7,7,7,7,7,7,7,7,7,7,7,7,7,7,7,7,7,7,7,7,7,7,7,7,7,7,7,7,7,7,7,7,7,7,7,7,7,7,7,7,7,7,7,7,7,7,7,7,7,7,7,7,7,7,7,7,7,7,7,8,8,8,8,8,8,8,8,8,8,8,8,8,8,8,8,8,8,8,8,8,8,8,8,8,8,8,8,8,8,8,8,8,8,8,8,8,8,8,8,8,8,8,8,8,8,8,8,8,8,8,8,8,8,8,8,8,8,8,8,8,8,8,8,8,8,8,8,8,8,8,8,8,8,8,8,8,8,8,8,8,8,8,8,8,8,8,8,8,8,8,8,8,8,8,8,8,8,8,8,8,8,8,8,8,8,8,8,8,8,8,8,8,8,8,8,8,8,8,8,8,8,8,8,8,8,8,8]).size (b (zW zI (zW zI (32+16)+zW zI (ze (bs [0,1,2,2,3,3,3,3,4,4,4,4,4,4,4,4,5,5,5,5,5,5,5,5,5,5,5,5,5,5,5,5,6,6,6,6,6,6,6,6,6,6,6,6,6,6,6,6,6,6,6,6,6,6,6,6,6,6,6,6,6,6,6,6,7,7,7,7,7,7,7,7,7,7,7,7,7,7,7,7,7,7,7,7,7,7,7,7,7,7,7,7,7,7,7,7,7,7,7,7,7,7,7,7,7,7,7,7,7,7,7,7,7,7,7,7,7,7,7,7,7,7,7,7,7,7,7,7,8,8,8,8,8,8,8,8,8,8,8,8,8,8,8,8,8,8,8,8,8,8,8,8,8,8,8,8,8,8,8,8,8,8,8,8,8,8,8,8,8,8,8,8,8,8,8,8,8,8,8,8,8,8,8,8,8,8,8,8,8,8,8,8,8,8,8,8,8,8,8,8,8,8,8,8,8,8,8,8,8,8,8,8,8,8,8,8,8,8,8,8,8,8,8,8,8,8,8,8,8,8,8,8,8,8,8,8,8,8,8,8,8,8,8,8,8,8,8,8,8,8,8,8,8,8,8,8]) (zW zU (Int.fdiv (Int.fdiv a (2^min ((32:Int)).toNat 64)) (2^min ((16:Int)).toNat 64))).toNat)))) else bif 256<=Int.fdiv a (2^min ((32:Int)).toNat 64) then zd (zW zU (Int.fdiv (Int.fdiv a (2^min ((32:Int)).toNat 64)) (2^min ((8:Int)).toNat 64))) (bs [0,1,2,2,3,3,3,3,4,4,4,4,4,4,4,4,5,5,5,5,5,5,5,5,5,5,5,5,5,5,5,5,6,6,6,6,6,6,6,6,6,6,6,6,6,6,6,6,6,6,6,6,6,6,6,6,6,6,6,6,6,6,6,6,7,7,7,7,7,7,7,7,7,7,7,7,7,7,7,7,7,7,7,7,7,7,7,7,7,7,7,7,7,7,7,7,7,7,7,7,7,7,7,7,7,7,7,7,7,7,7,7,7,7,7,7,7,7,7,7,7,7,7,7,7,7,7,7,8,8,8,8,8,8,8,8,8,8,8,8,8,8,8,8,8,8,8,8,8,8,8,8,8,8,8,8,8,8,8,8,8,8,8,8,8,8,8,8,8,8,8,8,8,8,8,8,8,8,8,8,8,8,8,8,8,8,8,8,8,8,8,8,8,8,8,8,8,8,8,8,8,8,8,8,8,8,8,8,8,8,8,8,8,8,8,8,8,8,8,8,8,8,8,8,8,8,8,8,8,8,8,8,8,8,8,8,8,8,8,8,8,8,8,8,8,8,8,8,8,8,8,8,8,8,8,8]).size (b (zW zI (zW zI (32+8)+zW zI (ze (bs [0,1,2,2,3,3,3,3,4,4,4,4,4,4,4,4,5,5,5,5,5,5,5,5,5,5,5,5,5,5,5,5,6,6,6,6,6,6,6,6,6,6,6,6,6,6,6,6,6,6,6,6,6,6,6,6,6,6,6,6,6,6,6,6,7,7,7,7,7,7,7,7,7,7,7,7,7,7,7,7,7,7,7,7,7,7,7,7,7,7,7,7,7,7,7,7,7,7,7,7,7,7,7,7,7,7,7,7,7,7,7,7,7,7,7,7,7,7,7,7,7,7,7,7,7,7,7,7,8,8,8,8,8,8,8,8,8,8,8,8,8,8,8,8,8,8,8,8,8,8,8,8,8,8,8,8,8,8,8,8,8,8,8,8,8,8,8,8,8,8,8,8,8,8,8,8,8,8,8,8,8,8,8,8,8,8,8,8,8,8,8,8,8,8,8,8,8,8,8,8,8,8,8,8,8,8,8,8,8,8,8,8,8,8,8,8,8,8,8,8,8,8,8,8,8,8,8,8,8,8,8,8,8,8,8,8,8,8,8,8,8,8,8,8,8,8,8,8,8,8,8,8,8,8,8,8]) (zW zU (Int.fdiv (Int.fdiv a (2^min ((32:Int)).toNat 64)) (2^min ((8:Int)).toNat 64))).toNat)))) else zd (zW zU (Int.fdiv a (2^min ((32:Int)).toNat 64))) (bs [0,1,2,2,3,3,3,3,4,4,4,4,4,4,4,4,5,5,5,5,5,5,5,5,5,5,5,5,5,5,5,5,6,6,6,6,6,6,6,6,6,6,6,6,6,6,6,6,6,6,6,6,6,6,6,6,6,6,6,6,6,6,6,6,7,7,7,7,7,7,7,7,7,7,7,7,7,7,7,7,7,7,7,7,7,7,7,7,7,7,7,7,7,7,7,7,7,7,7,7,7,7,7,7,7,7,7,7,7,7,7,7,7,7,7,7,7,7,7,7,7,7,7,7,7,7,7,7,8,8,8,8,8,8,8,8,8,8,8,8,8,8,8,8,8,8,8,8,8,8,8,8,8,8,8,8,8,8,8,8,8,8,8,8,8,8,8,8,8,8,8,8,8,8,8,8,8,8,8,8,8,8,8,8,8,8,8,8,8,8,8,8,8,8,8,8,8,8,8,8,8,8,8,8,8,8,8,8,8,8,8,8,8,8,8,8,8,8,8,8,8,8,8,8,8,8,8,8,8,8,8,8,8,8,8,8,8,8,8,8,8,8,8,8,8,8,8,8,8,8,8,8,8,8,8,8]).size (b (zW zI (32+zW zI (ze (bs [0,1,2,2,3,3,3,3,4,4,4,4,4,4,4,4,5,5,5,5,5,5,5,5,5,5,5,5,5,5,5,5,6,6,6,6,6,6,6,6,6,6,6,6,6,6,6,6,6,6,6,6,6,6,6,6,6,6,6,6,6,6,6,6,7,7,7,7,7,7,7,7,7,7,7,7,7,7,7,7,7,7,7,7,7,7,7,7,7,7,7,7,7,7,7,7,7,7,7,7,7,7,7,7,7,7,7,7,7,7,7,7,7,7,7,7,7,7,7,7,7,7,7,7,7,7,7,7,8,8,8,8,8,8,8,8,8,8,8,8,8,8,8,8,8,8,8,8,8,8,8,8,8,8,8,8,8,8,8,8,8,8,8,8,8,8,8,8,8,8,8,8,8,8,8,8,8,8,8,8,8,8,8,8,8,8,8,8,8,8,8,8,8,8,8,8,8,8,8,8,8,8,8,8,8,8,8,8,8,8,8,8,8,8,8,8,8,8,8,8,8,8,8,8,8,8,8,8,8,8,8,8,8,8,8,8,8,8,8,8,8,8,8,8,8,8,8,8,8,8,8,8,8,8,8,8]) (zW zU (Int.fdiv a (2^min ((32:Int)).toNat 64))).toNat)))) else bif 65536<=a then bif 256<=Int.fdiv a (2^min ((16:Int)).toNat 64) then zd (zW zU (Int.fdiv (Int.fdiv a (2^min ((16:Int)).toNat 64)) (2^min ((8:Int)).toNat 64))) (bs [0,1,2,2,3,3,3,3,4,4,4,4,4,4,4,4,5,5,5,5,5,5,5,5,5,5,5,5,5,5,5,5,6,6,6,6,6,6,6,6,6,6,6,6,6,6,6,6,6,6,6,6,6,6,6,6,6,6,6,6,6,6,6,6,7,7,7,7,7,7,7,7,7,7,7,7,7,7,7,7,7,7,7,7,7,7,7,7,7,7,7,7,7,7,7,7,7,7,7,7,7,7,7,7,7,7,7,7,7,7,7,7,7,7,7,7,7,7,7,7,7,7,7,7,7,7,7,7,8,8,8,8,8,8,8,8,8,8,8,8,8,8,8,8,8,8,8,8,8,8,8,8,8,8,8,8,8,8,8,8,8,8,8,8,8,8,8,8,8,8,8,8,8,8,8,8,8,8,8,8,8,8,8,8,8,8,8,8,8,8,8,8,8,8,8,8,8,8,8,8,8,8,8,8,8,8,8,8,8,8,8,8,8,8,8,8,8,8,8,8,8,8,8,8,8,8,8,8,8,8,8,8,8,8,8,8,8,8,8,8,8,8,8,8,8,8,8,8,8,8,8,8,8,8,8,8]).size (b (zW zI (zW zI (zW zI (0+16)+8)+zW zI (ze (bs [0,1,2,2,3,3,3,3,4,4,4,4,4,4,4,4,5,5,5,5,5,5,5,5,5,5,5,5,5,5,5,5,6,6,6,6,6,6,6,6,6,6,6,6,6,6,6,6,6,6,6,6,6,6,6,6,6,6,6,6,6,6,6,6,7,7,7,7,7,7,7,7,7,7,7,7,7,7,7,7,7,7,7,7,7,7,7,7,7,7,7,7,7,7,7,7,7,7,7,7,7,7,7,7,7,7,7,7,7,7,7,7,7,7,7,7,7,7,7,7,7,7,7,7,7,7,7,7,8,8,8,8,8,8,8,8,8,8,8,8,8,8,8,8,8,8,8,8,8,8,8,8,8,8,8,8,8,8,8,8,8,8,8,8,8,8,8,8,8,8,8,8,8,8,8,8,8,8,8,8,8,8,8,8,8,8,8,8,8,8,8,8,8,8,8,8,8,8,8,8,8,8,8,8,8,8,8,8,8,8,8,8,8,8,8,8,8,8,8,8,8,8,8,8,8,8,8,8,8,8,8,8,8,8,8,8,8,8,8,8,8,8,8,8,8,8,8,8,8,8,8,8,8,8,8,8]) (zW zU (Int.fdiv (Int.fdiv a (2^min ((16:Int)).toNat 64)) (2^min ((8:Int)).toNat 64))).toNat)))) else zd (zW zU (Int.fdiv a (2^min ((16:Int)).toNat 64))) (bs [0,1,2,2,3,3,3,3,4,4,4,4,4,4,4,4,5,5,5,5,5,5,5,5,5,5,5,5,5,5,5,5,6,6,6,6,6,6,6,6,6,6,6,6,6,6,6,6,6,6,6,6,6,6,6,6,6,6,6,6,6,6,6,6,7,7,7,7,7,7,7,7,7,7,7,7,7,7,7,7,7,7,7,7,7,7,7,7,7,7,7,7,7,7,7,7,7,7,7,7,7,7,7,7,7,7,7,7,7,7,7,7,7,7,7,7,7,7,7,7,7,7,7,7,7,7,7,7,8,8,8,8,8,8,8,8,8,8,8,8,8,8,8,8,8,8,8,8,8,8,8,8,8,8,8,8,8,8,8,8,8,8,8,8,8,8,8,8,8,8,8,8,8,8,8,8,8,8,8,8,8,8,8,8,8,8,8,8,8,8,8,8,8,8,8,8,8,8,8,8,8,8,8,8,8,8,8,8,8,8,8,8,8,8,8,8,8,8,8,8,8,8,8,8,8,8,8,8,8,8,8,8,8,8,8,8,8,8,8,8,8,8,8,8,8,8,8,8,8,8,8,8,8,8,8,8]).size (b (zW zI (zW zI (0+16)+zW zI (ze (bs [0,1,2,2,3,3,3,3,4,4,4,4,4,4,4,4,5,5,5,5,5,5,5,5,5,5,5,5,5,5,5,5,6,6,6,6,6,6,6,6,6,6,6,6,6,6,6,6,6,6,6,6,6,6,6,6,6,6,6,6,6,6,6,6,7,7,7,7,7,7,7,7,7,7,7,7,7,7,7,7,7,7,7,7,7,7,7,7,7,7,7,7,7,7,7,7,7,7,7,7,7,7,7,7,7,7,7,7,7,7,7,7,7,7,7,7,7,7,7,7,7,7,7,7,7,7,7,7,8,8,8,8,8,8,8,8,8,8,8,8,8,8,8,8,8,8,8,8,8,8,8,8,8,8,8,8,8,8,8,8,8,8,8,8,8,8,8,8,8,8,8,8,8,8,8,8,8,8,8,8,8,8,8,8,8,8,8,8,8,8,8,8,8,8,8,8,8,8,8,8,8,8,8,8,8,8,8,8,8,8,8,8,8,8,8,8,8,8,8,8,8,8,8,8,8,8,8,8,8,8,8,8,8,8,8,8,8,8,8,8,8,8,8,8,8,8,8,8,8,8,8,8,8,8,8,8]) (zW zU (Int.fdiv a (2^min ((16:Int)).toNat 64))).toNat)))) else bif 256<=a then zd (zW zU (Int.fdiv a (2^min ((8:Int)).toNat 64))) (bs [0,1,2,2,3,3,3,3,4,4,4,4,4,4,4,4,5,5,5,5,5,5,5,5,5,5,5,5,5,5,5,5,6,6,6,6,6,6,6,6,6,6,6,6,6,6,6,6,6,6,6,6,6,6,6,6,6,6,6,6,6,6,6,6,7,7,7,7,7,7,7,7,7,7,7,7,7,7,7,7,7,7,7,7,7,7,7,7,7,7,7,7,7,7,7,7,7,7,7,7,7,7,7,7,7,7,7,7,7,7,7,7,7,7,7,7,7,7,7,7,7,7,7,7,7,7,7,7,8,8,8,8,8,8,8,8,8,8,8,8,8,8,8,8,8,8,8,8,8,8,8,8,8,8,8,8,8,8,8,8,8,8,8,8,8,8,8,8,8,8,8,8,8,8,8,8,8,8,8,8,8,8,8,8,8,8,8,8,8,8,8,8,8,8,8,8,8,8,8,8,8,8,8,8,8,8,8,8,8,8,8,8,8,8,8,8,8,8,8,8,8,8,8,8,8,8,8,8,8,8,8,8,8,8,8,8,8,8,8,8,8,8,8,8,8,8,8,8,8,8,8,8,8,8,8,8]).size (b (zW zI (zW zI (0+8)+zW zI (ze (bs [0,1,2,2,3,3,3,3,4,4,4,4,4,4,4,4,5,5,5,5,5,5,5,5,5,5,5,5,5,5,5,5,6,6,6,6,6,6,6,6,6,6,6,6,6,6,6,6,6,6,6,6,6,6,6,6,6,6,6,6,6,6,6,6,7,7,7,7,7,7,7,7,7,7,7,7,7,7,7,7,7,7,7,7,7,7,7,7,7,7,7,7,7,7,7,7,7,7,7,7,7,7,7,7,7,7,7,7,7,7,7,7,7,7,7,7,7,7,7,7,7,7,7,7,7,7,7,7,8,8,8,8,8,8,8,8,8,8,8,8,8,8,8,8,8,8,8,8,8,8,8,8,8,8,8,8,8,8,8,8,8,8,8,8,8,8,8,8,8,8,8,8,8,8,8,8,8,8,8,8,8,8,8,8,8,8,8,8,8,8,8,8,8,8,8,8,8,8,8,8,8,8,8,8,8,8,8,8,8,8,8,8,8,8,8,8,8,8,8,8,8,8,8,8,8,8,8,8,8,8,8,8,8,8,8,8,8,8,8,8,8,8,8,8,8,8,8,8,8,8,8,8,8,8,8,8]) (zW zU (Int.fdiv a (2^min ((8:Int)).toNat 64))).toNat)))) else zd (zW zU a) (bs [0,1,2,2,3,3,3,3,4,4,4,4,4,4,4,4,5,5,5,5,5,5,5,5,5,5,5,5,5,5,5,5,6,6,6,6,6,6,6,6,6,6,6,6,6,6,6,6,6,6,6,6,6,6,6,6,6,6,6,6,6,6,6,6,7,7,7,7,7,7,7,7,7,7,7,7,7,7,7,7,7,7,7,7,7,7,7,7,7,7,7,7,7,7,7,7,7,7,7,7,7,7,7,7,7,7,7,7,7,7,7,7,7,7,7,7,7,7,7,7,7,7,7,7,7,7,7,7,8,8,8,8,8,8,8,8,8,8,8,8,8,8,8,8,8,8,8,8,8,8,8,8,8,8,8,8,8,8,8,8,8,8,8,8,8,8,8,8,8,8,8,8,8,8,8,8,8,8,8,8,8,8,8,8,8,8,8,8,8,8,8,8,8,8,8,8,8,8,8,8,8,8,8,8,8,8,8,8,8,8,8,8,8,8,8,8,8,8,8,8,8,8,8,8,8,8,8,8,8,8,8,8,8,8,8,8,8,8,8,8,8,8,8,8,8,8,8,8,8,8,8,8,8,8,8,8]).size (b (zW zI (0+zW zI (ze (bs [0,1,2,2,3,3,3,3,4,4,4,4,4,4,4,4,5,5,5,5,5,5,5,5,5,5,5,5,5,5,5,5,6,6,6,6,6,6,6,6,6,6,6,6,6,6,6,6,6,6,6,6,6,6,6,6,6,6,6,6,6,6,6,6,7,7,7,7,7,7,7,7,7,7,7,7,7,7,7,7,7,7,7,7,7,7,7,7,7,7,7,7,7,7,7,7,7,7,7,7,7,7,7,7,7,7,7,7,7,7,7,7,7,7,7,7,7,7,7,7,7,7,7,7,7,7,7,7,8,8,8,8,8,8,8,8,8,8,8,8,8,8,8,8,8,8,8,8,8,8,8,8,8,8,8,8,8,8,8,8,8,8,8,8,8,8,8,8,8,8,8,8,8,8,8,8,8,8,8,8,8,8,8,8,8,8,8,8,8,8,8,8,8,8,8,8,8,8,8,8,8,8,8,8,8,8,8,8,8,8,8,8,8,8,8,8,8,8,8,8,8,8,8,8,8,8,8,8,8,8,8,8,8,8,8,8,8,8,8,8,8,8,8,8,8,8,8,8,8,8,8,8,8,8,8,8]) (zW zU a).toNat))))
def sA(a:Int):Option Int:=
 zxg a (fun a0=>some a0)
def SF{R:Type}(a:Int)(b:Int->Option R):Option R:=
 (sA a).bind fun r1=>b (zW zI (64-r1))
def mu(a:Int):Option Int:=
 SF a (fun a0=>some a0)
def VJ{R:Type}(a:Int)(b:aQ->Option R):Option R:=
 bif a<1 then b (0,0,()) else bif 128<a then b (0,0,()) else bif a<=64 then bif zW zI (64-a)<0 then none else b (IntKind.u64.wrap (1*2^min (zW zI (64-a)).toNat 64),0,()) else bif zW zI (128-a)<0 then none else b (0,IntKind.u64.wrap (1*2^min (zW zI (128-a)).toNat 64),())
def EO(a:Int):Option aQ:=
 VJ a (fun a0=>some a0)
def VF{R:Type}(a b:aQ)(c:aQ->Option R):Option R:=
 c (aP .or .u64 a.1 b.1,aP .or .u64 a.2.1 b.2.1,())
def sY(a b:aQ):Option aQ:=
 VF a b (fun a0=>some a0)
def VI{R:Type}(a:aQ)(b:Int)(c:aQ->Option R):Option R:=
 (EO b).bind fun r1=>(sY a r1).bind fun r2=>c r2
def x5(a:aQ)(b:Int):Option aQ:=
 VI a b (fun a0=>some a0)
def VD{R:Type}(a:(List Int))(b:(List Int)->Int->Int->aQ->aQ->Option R):Option R:=
 b a ((List.length a):Int) 0 (0,0,()) (0,0,())
def Px{R:Type}(a:(List Int))(b c:Int)(d e:aQ)(f:(List Int)->Int->Int->aQ->aQ->Option R)(g:aQ->aQ->Option R):Option R:=
 bif c<b then zd c (List.length a) ((x5 e (List.getD a c.toNat (0:Int))).bind fun r1=>f a b (zW zI (c+1)) d r1) else g d e
def VE{R:Type}(a b:aQ)(c:aQ->Option R):Option R:=
 c b
def AU:Nat->(List Int)->Int->Int->aQ->aQ->Option (aQ×aQ)
 |0,_,_,_,_,_=>none
 |k+1,v0,v1,v2,v3,v4=>Px v0 v1 v2 v3 v4 (fun a0 a1 a2 a3 a4=>AU k a0 a1 a2 a3 a4) (fun a0 a1=>some (a0,a1))
def uG(a:(List Int)):Option aQ:=
 VD a (fun a0 a1 a2 a3 a4=>(AU ai a0 a1 a2 a3 a4).bind fun e=>VE e.1 e.2 (fun a0=>some a0))
def Py{R:Type}(a b:aQ)(c:aQ->Option R):Option R:=
 c (aP .and .u64 a.1 b.1,aP .and .u64 a.2.1 b.2.1,())
def rE(a b:aQ):Option aQ:=
 Py a b (fun a0=>some a0)
def CQ{R:Type}(a b:Int)(c:aQ->Option R):Option R:=
 c (a,b,())
def P3(a b:Int):Option aQ:=
 CQ a b (fun a0=>some a0)
def VH{R:Type}(a:aQ)(b:Int)(c:Int->Option R):Option R:=
 bif(if b<0 then 0 else b)<64 then bif(if b<0 then 0 else b)<0 then none else bif !decide (IntKind.u64.wrap (a.1*2^min (if b<0 then 0 else b).toNat 64)=0) then(mu (IntKind.u64.wrap (a.1*2^min (if b<0 then 0 else b).toNat 64))).bind fun r1=>c (zW zI (zW zI ((if b<0 then 0 else b)+r1)+1)) else bif(if 64<zW zI (64-64) then 64 else zW zI (64-64))<0 then none else bif !decide (IntKind.u64.wrap (a.2.1*2^min (if 64<zW zI (64-64) then 64 else zW zI (64-(64:Int))).toNat 64)=0) then(mu (IntKind.u64.wrap (a.2.1*2^min (if 64<zW zI (64-64) then 64 else zW zI (64-(64:Int))).toNat 64))).bind fun r2=>c (zW zI (zW zI (64+r2)+1)) else c 0 else bif(if 64<zW zI ((if b<0 then 0 else b)-64) then 64 else zW zI ((if b<0 then 0 else b)-64))<0 then none else bif !decide (IntKind.u64.wrap (a.2.1*2^min (if 64<zW zI ((if b<0 then 0 else b)-64) then 64 else zW zI ((if b<0 then 0 else b)-(64:Int))).toNat 64)=0) then(mu (IntKind.u64.wrap (a.2.1*2^min (if 64<zW zI ((if b<0 then 0 else b)-64) then 64 else zW zI ((if b<0 then 0 else b)-(64:Int))).toNat 64))).bind fun r3=>c (zW zI (zW zI ((if b<0 then 0 else b)+r3)+1)) else c 0
def EN(a:aQ)(b:Int):Option Int:=
 VH a b (fun a0=>some a0)
def VG{R:Type}(a:aQ)(b:Int)(c:Bool->Option R):Option R:=
 (EO b).bind fun r1=>(rE a r1).bind fun r2=>c (!(decide (r2.1=0)&&(decide (r2.2.1=0)&&true)))
def GC(a:aQ)(b:Int):Option Bool:=
 VG a b (fun a0=>some a0)
def z145{R:Type}(a:aQ)(b:Int->Int->Option R):Option R:=
 b a.1 a.2.1
def P4(a:aQ):Option (Int×Int):=
 z145 a (fun a0 a1=>some (a0,a1))
def zxc{R:Type}(a:Int)(b:Int->Bool->Option R):Option R:=
 bif 48<=a then bif a<=57 then b (zW zI (zW zU (a-48))) true else bif 65<=a then bif a<=70 then b (zW zI (zW zI (zW zU (a-65))+10)) true else b 0 false else b 0 false else bif 65<=a then bif a<=70 then b (zW zI (zW zI (zW zU (a-65))+10)) true else b 0 false else b 0 false
def sw(a:Int):Option (Int×Bool):=
 zxc a (fun a0 a1=>some (a0,a1))
def SB{R:Type}(a:ByteArray)(b:ByteArray->(List Int)->Int->Int->Option R):Option R:=
 bif 0<=zW zI (Int.tdiv (a.size:Int) 2) then bif zW zI (Int.tdiv (a.size:Int) 2)*1<=140737488355328 then b a [] 0 0 else none else none
def OP{R:Type}(a:ByteArray)(b:(List Int))(c d:Int)(e:ByteArray->ByteArray->Int->Bool->(List Int)->Option R)(f:ByteArray->(List Int)->Int->Int->Option R)(g:ByteArray->(List Int)->Option R):Option R:=
 bif d<(a.size:Int) then zd d a.size ((sw (ze a d.toNat)).bind fun r1=>bif !r1.2 then e a (bs []) d false b else bif Int.tmod d 2=0 then f a b r1.1 (zW zI (d+1)) else bif(List.length b+List.length ([(zW zU (aP .or .i64 (zW zI (c*2^min ((4:Int)).toNat 64)) r1.1))]:List Int))*1<=140737488355328 then f a (b++([(zW zU (aP .or .i64 (zW zI (c*2^min ((4:Int)).toNat 64)) r1.1))]:List Int)) c (zW zI (d+1)) else none) else g a b
def zxe{R:Type}(a b:ByteArray)(c:Int)(d:Bool)(e:(List Int))(f:ByteArray->Int->Bool->Option R):Option R:=
 f b c d
def SC{R:Type}(a:ByteArray)(b:(List Int))(c:ByteArray->Int->Bool->Option R):Option R:=
 bif !decide (Int.tmod (a.size:Int) 2=0) then c (bs []) (a.size:Int) false else c (strOf b) 0 true
def Ee:Nat->ByteArray->(List Int)->Int->Int->Option (Sum (ByteArray×ByteArray×Int×Bool×(List Int)) (ByteArray×(List Int)))
 |0,_,_,_,_=>none
 |k+1,v0,v1,v2,v3=>OP v0 v1 v2 v3 (fun a0 a1 a2 a3 a4=>some (.inl (a0,a1,a2,a3,a4))) (fun a0 a1 a2 a3=>Ee k a0 a1 a2 a3) (fun a0 a1=>some (.inr (a0,a1)))
def gA(a:ByteArray):Option (ByteArray×Int×Bool):=
 SB a (fun a0 a1 a2 a3=>(Ee ai a0 a1 a2 a3).bind fun e=>Sum.elim (fun(we:(ByteArray×ByteArray×Int×Bool×(List Int)))=>zxe we.1 we.2.1 we.2.2.1 we.2.2.2.1 we.2.2.2.2 (fun a0 a1 a2=>some (a0,a1,a2))) (fun(we:(ByteArray×(List Int)))=>SC we.1 we.2 (fun a0 a1 a2=>some (a0,a1,a2))) e)
def SE{R:Type}(a:ByteArray)(b:ByteArray->(List Int)->Int->Option R):Option R:=
 bif 0<=zW zI (2*(a.size:Int)) then bif zW zI (2*(a.size:Int))*1<=140737488355328 then b a [] 0 else none else none
def OQ{R:Type}(a:ByteArray)(b:(List Int))(c:Int)(d:ByteArray->(List Int)->Int->Option R)(e:(List Int)->Option R):Option R:=
 bif c<(a.size:Int) then zd c a.size (zd (Int.fdiv (ze a c.toNat) (2^min ((4:Int)).toNat 8)) (bs [48,49,50,51,52,53,54,55,56,57,65,66,67,68,69,70]).size (zd c a.size (zd (aP .and .u8 (ze a c.toNat) 15) (bs [48,49,50,51,52,53,54,55,56,57,65,66,67,68,69,70]).size (bif(List.length b+List.length ([(ze (bs [48,49,50,51,52,53,54,55,56,57,65,66,67,68,69,70]) (Int.fdiv (ze a c.toNat) (2^min ((4:Int)).toNat 8)).toNat),(ze (bs [48,49,50,51,52,53,54,55,56,57,65,66,67,68,69,70]) (aP .and .u8 (ze a c.toNat) (15:Int)).toNat)]:List Int))*1<=140737488355328 then d a (b++([(ze (bs [48,49,50,51,52,53,54,55,56,57,65,66,67,68,69,70]) (Int.fdiv (ze a c.toNat) (2^min ((4:Int)).toNat 8)).toNat),(ze (bs [48,49,50,51,52,53,54,55,56,57,65,66,67,68,69,70]) (aP .and .u8 (ze a c.toNat) (15:Int)).toNat)]:List Int)) (zW zI (c+1)) else none)))) else e b
def zxf{R:Type}(a:(List Int))(b:ByteArray->Option R):Option R:=
 b (strOf a)
def Ef:Nat->ByteArray->(List Int)->Int->Option (List Int)
 |0,_,_,_=>none
 |k+1,v0,v1,v2=>OQ v0 v1 v2 (fun a0 a1 a2=>Ef k a0 a1 a2) (fun a0=>some a0)
def jB(a:ByteArray):Option ByteArray:=
 SE a (fun a0 a1 a2=>(Ef ai a0 a1 a2).bind fun e=>zxf e (fun a0=>some a0))
def mD{R:Type}(a:Int)(b:Bool->Option R):Option R:=
 bif a=1 then b true else b (decide (a=2))
def Q9(a:Int):Option Bool:=
 mD a (fun a0=>some a0)
def UF{R:Type}(a:Int)(b:ByteArray)(c:Int)(d:(List Int)->Int->Int->Option R):Option R:=
 bif a=1 then bif zW zI ((b.size:Int)-c)<zW zI (8*2) then d (List.replicate 8 0) 0 2 else bif 0<=zW zI (c+zW zI (8*2)) then bif zW zI (c+zW zI (8*2))<=(b.size:Int) then bif 0<=c then bif c<=(((zW zI (c+zW zI (8*(2:Int)))).toNat:Nat):Int) then bif a=1 then(gA (b.extract c.toNat (zW zI (c+zW zI (8*(2:Int)))).toNat)).bind fun r1=>bif !r1.2.2 then d (List.replicate 8 0) 0 3 else bif Nat.beq 8 (List.length (List.replicate 8 (0:Int))) then bif Nat.beq 8 (List.length (bX (List.replicate 8 (0:Int)) (List.take 8 (nA r1.1)) 0)) then d (bX (List.replicate 8 0) (List.take 8 (nA r1.1)) 0) (zW zI (c+zW zI (8*2))) 0 else none else none else bif Nat.beq 8 (List.length (List.replicate 8 (0:Int))) then bif Nat.beq 8 (List.length (bX (List.replicate 8 (0:Int)) (List.take 8 (nA (b.extract c.toNat (zW zI (c+zW zI ((8:Int)*(2:Int)))).toNat))) 0)) then d (bX (List.replicate 8 0) (List.take 8 (nA (b.extract c.toNat (zW zI (c+zW zI (8*(2:Int)))).toNat))) 0) (zW zI (c+zW zI (8*2))) 0 else none else none else none else none else none else none else bif zW zI ((b.size:Int)-c)<8 then d (List.replicate 8 0) 0 2 else bif 0<=zW zI (c+8) then bif zW zI (c+8)<=(b.size:Int) then bif 0<=c then bif c<=(((zW zI (c+(8:Int))).toNat:Nat):Int) then bif a=1 then(gA (b.extract c.toNat (zW zI (c+(8:Int))).toNat)).bind fun r2=>bif !r2.2.2 then d (List.replicate 8 0) 0 3 else bif Nat.beq 8 (List.length (List.replicate 8 (0:Int))) then bif Nat.beq 8 (List.length (bX (List.replicate 8 (0:Int)) (List.take 8 (nA r2.1)) 0)) then d (bX (List.replicate 8 0) (List.take 8 (nA r2.1)) 0) (zW zI (c+8)) 0 else none else none else bif Nat.beq 8 (List.length (List.replicate 8 (0:Int))) then bif Nat.beq 8 (List.length (bX (List.replicate 8 (0:Int)) (List.take 8 (nA (b.extract c.toNat (zW zI (c+(8:Int))).toNat))) 0)) then d (bX (List.replicate 8 0) (List.take 8 (nA (b.extract c.toNat (zW zI (c+(8:Int))).toNat))) 0) (zW zI (c+8)) 0 else none else none else none else none else none else none
def EM(a:Int)(b:ByteArray)(c:Int):Option ((List Int)×Int×Int):=
 UF a b c (fun a0 a1 a2=>some (a0,a1,a2))
def pa{R:Type}(a:(List Int))(b:Int->(List Int)->Int->Option R):Option R:=
 b 0 a 0
def mA{R:Type}(a:Int)(b:(List Int))(c:Int)(d:Int->(List Int)->Int->Option R)(e:Int->Option R):Option R:=
 bif c<8 then zd c 8 (d (aP .or .u64 (IntKind.u64.wrap (a*2^min ((8:Int)).toNat 64)) (IntKind.u64.wrap (List.getD b c.toNat 0))) b (zW zI (c+1))) else e a
def sZ{R:Type}(a:Int)(b:Int->Option R):Option R:=
 b a
def jG:Nat->Int->(List Int)->Int->Option Int
 |0,_,_,_=>none
 |k+1,v0,v1,v2=>mA v0 v1 v2 (fun a0 a1 a2=>jG k a0 a1 a2) (fun a0=>some a0)
def Q7(a:(List Int)):Option Int:=
 pa a (fun a0 a1 a2=>(jG ai a0 a1 a2).bind fun e=>sZ e (fun a0=>some a0))
def oR{R:Type}(a:Int)(b:ByteArray)(c:Int)(d:aQ->Int->Int->Option R):Option R:=
 (Q9 a).bind fun r1=>bif !r1 then d (0,0,()) 0 1 else bif c<0 then d (0,0,()) 0 1 else bif(b.size:Int)<c then d (0,0,()) 0 1 else(EM a b c).bind fun r2=>bif !decide (r2.2.2=0) then d (0,0,()) 0 r2.2.2 else(Q7 r2.1).bind fun r3=>bif aP .and .u64 r3 9223372036854775808=0 then(P3 r3 (0:Int)).bind fun r4=>d r4 r2.2.1 0 else(EM a b r2.2.1).bind fun r5=>bif !decide (r5.2.2=0) then d (0,0,()) 0 r5.2.2 else bif r5.1=([0,0,0,0,0,0,0,0]:List Int) then d (0,0,()) 0 8 else(Q7 r5.1).bind fun r6=>(P3 (aP .andNot .u64 r3 9223372036854775808) r6).bind fun r7=>d r7 r5.2.1 0
def Q5(a:Int)(b:ByteArray)(c:Int):Option (aQ×Int×Int):=
 oR a b c (fun a0 a1 a2=>some (a0,a1,a2))
def pg{R:Type}(a:Int)(b:Int->Int->(List Int)->(List Int)->Option R):Option R:=
 b a 0 (List.replicate 8 0) (List.replicate 8 0)
def mC{R:Type}(a b:Int)(c d:(List Int))(e:Int->Int->(List Int)->(List Int)->Option R)(f:(List Int)->(List Int)->Option R):Option R:=
 bif b<8 then bif zW zI (8*zW zI (7-b))<0 then none else zd b 8 (e a (zW zI (b+1)) c (List.set d b.toNat (zW zU (Int.fdiv a (2^min (zW zI (8*zW zI (7-b))).toNat 64))))) else f c d
def ph{R:Type}(a b:(List Int))(c:(List Int)->Option R):Option R:=
 c b
def gU:Nat->Int->Int->(List Int)->(List Int)->Option ((List Int)×(List Int))
 |0,_,_,_,_=>none
 |k+1,v0,v1,v2,v3=>mC v0 v1 v2 v3 (fun a0 a1 a2 a3=>gU k a0 a1 a2 a3) (fun a0 a1=>some (a0,a1))
def Q8(a:Int):Option (List Int):=
 pg a (fun a0 a1 a2 a3=>(gU ai a0 a1 a2 a3).bind fun e=>ph e.1 e.2 (fun a0=>some a0))
def oU{R:Type}(a:Int)(b:aQ)(c:ByteArray->Int->Option R):Option R:=
 (Q9 a).bind fun r1=>bif !r1 then c (bs []) 1 else(GC b (1:Int)).bind fun r2=>bif r2 then c (bs []) 1 else(P4 b).bind fun r3=>(Q8 r3.2).bind fun r4=>bif !decide (r4=([0,0,0,0,0,0,0,0]:List Int)) then bif Nat.beq 8 (List.length r4) then(Q8 (aP .or .u64 r3.1 (9223372036854775808:Int))).bind fun r5=>bif Nat.beq 8 (List.length r5) then bif(strOf r5).size+(strOf r4).size<=9223372036854775807 then bif a=1 then(jB (strOf r5++strOf r4)).bind fun r6=>c r6 0 else c (strOf r5++strOf r4) 0 else none else none else none else(Q8 r3.1).bind fun r7=>bif Nat.beq 8 (List.length r7) then bif(strOf r7).size+(bs []).size<=9223372036854775807 then bif a=1 then(jB (strOf r7++bs [])).bind fun r8=>c r8 0 else c (strOf r7++bs []) 0 else none else none
def Q6(a:Int)(b:aQ):Option Qd:=
 oU a b (fun a0 a1=>some (a0,a1))
def OW{R:Type}(a:Int)(b:Int->Option R):Option R:=
 bif a=2 then b 2 else bif a=3 then b 3 else b 0
def jC(a:Int):Option Int:=
 OW a (fun a0=>some a0)
def zxu{R:Type}(a:Int)(b:Int->Int->Int->Option R):Option R:=
 (jC a).bind fun r1=>b 0 r1 0
def zxv{R:Type}(a b c:Int)(d:Int->Int->Int->Option R)(e:Int->Option R):Option R:=
 bif c<b then d (zW zI (zW zI (10*a)+9)) b (zW zI (c+1)) else e a
def zxw{R:Type}(a:Int)(b:Int->Option R):Option R:=
 b a
def SX:Nat->Int->Int->Int->Option Int
 |0,_,_,_=>none
 |k+1,v0,v1,v2=>zxv v0 v1 v2 (fun a0 a1 a2=>SX k a0 a1 a2) (fun a0=>some a0)
def qu(a:Int):Option Int:=
 zxu a (fun a0 a1 a2=>(SX ai a0 a1 a2).bind fun e=>zxw e (fun a0=>some a0))
def OV{R:Type}(a b:Int)(c:Bool->Option R):Option R:=
 bif a=1 then(jC b).bind fun r1=>c (decide (0<r1)) else bif a=2 then(jC b).bind fun r2=>c (decide (0<r2)) else c false
def qw(a b:Int):Option Bool:=
 OV a b (fun a0=>some a0)
def SU{R:Type}(a b:Int)(c:ByteArray)(d:Int)(e:Int->Int->Int->Option R):Option R:=
 (qw a b).bind fun r1=>bif !r1 then e 0 0 1 else bif d<0 then e 0 0 1 else bif(c.size:Int)<d then e 0 0 1 else(jC b).bind fun r2=>bif a=2 then(Q2 r2).bind fun r3=>bif zW zI ((c.size:Int)-d)<r3 then e 0 0 2 else bif 0<=zW zI (d+r3) then bif zW zI (d+r3)<=(c.size:Int) then bif 0<=d then bif d<=(((zW zI (d+r3)).toNat:Nat):Int) then bif a=2 then(jC b).bind fun r4=>(Q0 (c.extract d.toNat (zW zI (d+r3)).toNat) r4).bind fun r5=>bif !decide (r5.2.1=0) then e 0 0 3 else(x4 r5.1).bind fun r6=>bif !r6.2 then e 0 0 3 else e r6.1 (zW zI (d+r3)) 0 else(x4 (c.extract d.toNat (zW zI (d+r3)).toNat)).bind fun r7=>bif !r7.2 then e 0 0 3 else e r7.1 (zW zI (d+r3)) 0 else none else none else none else none else bif zW zI ((c.size:Int)-d)<r2 then e 0 0 2 else bif 0<=zW zI (d+r2) then bif zW zI (d+r2)<=(c.size:Int) then bif 0<=d then bif d<=(((zW zI (d+r2)).toNat:Nat):Int) then bif a=2 then(jC b).bind fun r8=>(Q0 (c.extract d.toNat (zW zI (d+r2)).toNat) r8).bind fun r9=>bif !decide (r9.2.1=0) then e 0 0 3 else(x4 r9.1).bind fun kl=>bif !kl.2 then e 0 0 3 else e kl.1 (zW zI (d+r2)) 0 else(x4 (c.extract d.toNat (zW zI (d+r2)).toNat)).bind fun kE=>bif !kE.2 then e 0 0 3 else e kE.1 (zW zI (d+r2)) 0 else none else none else none else none
def sF(a b:Int)(c:ByteArray)(d:Int):Option je:=
 SU a b c d (fun a0 a1 a2=>some (a0,a1,a2))
def SY{R:Type}(a b c:Int)(d:ByteArray->Int->Option R):Option R:=
 (qw a b).bind fun r1=>bif !r1 then d (bs []) 1 else(jC b).bind fun r2=>(Gu c r2).bind fun r3=>bif !r3.2 then d (bs []) 5 else bif a=2 then(Q1 r3.1).bind fun r4=>d r4.1 0 else d r3.1 0
def qv(a b c:Int):Option Qd:=
 SY a b c (fun a0 a1=>some (a0,a1))
def Vd{R:Type}(a:Int)(b:Int->Option R):Option R:=
 bif a=1 then b 1 else bif a=2 then b 2 else bif a=3 then b 3 else bif a=4 then b 7 else bif a=5 then b 15 else bif a=6 then b 15 else b 0
def xX(a:Int):Option Int:=
 Vd a (fun a0=>some a0)
def U4{R:Type}(a:Int)(b:Bool->Option R):Option R:=
 (xX a).bind fun r1=>b (!decide (r1=0))
def A8(a:Int):Option Bool:=
 U4 a (fun a0=>some a0)
def CF{R:Type}(a:Int)(b:Int->Option R):Option R:=
 bif 48<=a then bif a<=57 then b 1 else bif 65<=a then bif a<=90 then b 2 else bif 97<=a then bif a<=122 then b 2 else bif 32<=a then bif a<=126 then b 4 else b 8 else b 8 else bif 32<=a then bif a<=126 then b 4 else b 8 else b 8 else bif 97<=a then bif a<=122 then b 2 else bif 32<=a then bif a<=126 then b 4 else b 8 else b 8 else bif 32<=a then bif a<=126 then b 4 else b 8 else b 8 else bif 65<=a then bif a<=90 then b 2 else bif 97<=a then bif a<=122 then b 2 else bif 32<=a then bif a<=126 then b 4 else b 8 else b 8 else bif 32<=a then bif a<=126 then b 4 else b 8 else b 8 else bif 97<=a then bif a<=122 then b 2 else bif 32<=a then bif a<=126 then b 4 else b 8 else b 8 else bif 32<=a then bif a<=126 then b 4 else b 8 else b 8
def A9(a:Int):Option Int:=
 CF a (fun a0=>some a0)
def U0{R:Type}(a:Int)(b:ByteArray)(c:ByteArray->Int->Int->Option R):Option R:=
 (xX a).bind fun r1=>c b r1 0
def Pt{R:Type}(a:ByteArray)(b c:Int)(d:Int->Option R)(e:ByteArray->Int->Int->Option R)(f:Option R):Option R:=
 bif c<(a.size:Int) then zd c a.size ((A9 (ze a c.toNat)).bind fun r2=>bif aP .and .i64 b r2=0 then d c else e a b (zW zI (c+1))) else f
def CD{R:Type}(a:Int)(b:Int->Option R):Option R:=
 b a
def CE{R:Type}(a:Int->Option R):Option R:=
 a (-1:Int)
def Eu:Nat->ByteArray->Int->Int->Option (Sum Int Unit)
 |0,_,_,_=>none
 |k+1,v0,v1,v2=>Pt v0 v1 v2 (fun a0=>some (.inl a0)) (fun a0 a1 a2=>Eu k a0 a1 a2) (some (.inr ()))
def Gi(a:Int)(b:ByteArray):Option Int:=
 U0 a b (fun a0 a1 a2=>(Eu ai a0 a1 a2).bind fun e=>Sum.elim (fun(we:Int)=>CD we (fun a0=>some a0)) (fun(we:Unit)=>CE (fun a0=>some a0)) e)
def U7{R:Type}(a b:Int)(c:Bool->Option R):Option R:=
 (A8 a).bind fun r1=>bif r1 then(A8 b).bind fun r2=>bif r2 then(xX b).bind fun r3=>(xX a).bind fun r4=>c (decide (aP .andNot .i64 r3 r4=0)) else c false else c false
def Gk(a b:Int):Option Bool:=
 U7 a b (fun a0=>some a0)
def zz0{R:Type}(a:Int)(b:Bool->Option R):Option R:=
 bif 0<a then bif a<=255 then b (decide (aP .and .i64 a 32=0)) else b false else b false
def nP(a:Int):Option Bool:=
 zz0 a (fun a0=>some a0)
def TW{R:Type}(a:Int)(b:Bool->Option R):Option R:=
 bif a<=255 then(nP a).bind fun r1=>bif r1 then b (!decide (aP .and .i64 a 31=31)) else b false else bif a<=65535 then(nP (Int.fdiv a (2^min ((8:Int)).toNat 64))).bind fun r2=>bif r2 then bif aP .and .i64 (Int.fdiv a (2^min ((8:Int)).toNat 64)) 31=31 then bif 1<=aP .and .i64 a 255 then b (decide (aP .and .i64 a 255<=127)) else b false else b false else b false else b false
def sU(a:Int):Option Bool:=
 TW a (fun a0=>some a0)
def TV{R:Type}(a:ByteArray)(b:Int)(c:Int->Int->Int->Option R):Option R:=
 bif b<0 then c 0 0 1 else bif(a.size:Int)<b then c 0 0 1 else bif b=(a.size:Int) then c 0 0 2 else zd b a.size ((nP (zW zI (ze a b.toNat))).bind fun r1=>bif !r1 then c 0 0 13 else bif !decide (aP .and .i64 (zW zI (ze a b.toNat)) 31=31) then c (zW zI (ze a b.toNat)) (zW zI (b+1)) 0 else bif zW zI (b+1)=(a.size:Int) then c 0 0 2 else zd (zW zI (b+1)) a.size ((sU (aP .or .i64 (zW zI (zW zI (ze a b.toNat)*2^min ((8:Int)).toNat 64)) (zW zI (ze a (zW zI (b+(1:Int))).toNat)))).bind fun r2=>bif !r2 then c 0 0 13 else c (aP .or .i64 (zW zI (zW zI (ze a b.toNat)*2^min ((8:Int)).toNat 64)) (zW zI (ze a (zW zI (b+(1:Int))).toNat))) (zW zI (b+2)) 0))
def sT(a:ByteArray)(b:Int):Option je:=
 TV a b (fun a0 a1 a2=>some (a0,a1,a2))
def TY{R:Type}(a:ByteArray)(b:ByteArray->ap->Int->Bf->Option R):Option R:=
 b a [] 0 []
def TZ{R:Type}(a:ByteArray)(b:ap)(c:Int)(d:Bf)(e:ap->Int->Int->ap->Option R)(f:ByteArray->ap->Int->Bf->Option R)(g:ap->Option R):Option R:=
 bif c<(a.size:Int) then(sT a c).bind fun r1=>bif !decide (r1.2.2=(0:Int)) then e ([]:List bh) r1.2.2 c b else(Q3 a r1.2.1).bind fun r2=>bif !decide (r2.2.2=(0:Int)) then e ([]:List bh) r2.2.2 r1.2.1 b else bif zW zI ((a.size:Int)-r2.2.1)<r2.1 then e ([]:List bh) (2:Int) (a.size:Int) b else bif eV (fO (.int .i64)) false d r1.1 then e ([]:List bh) (10:Int) c b else bif eW (fO (.int .i64)) d r1.1 then none else bif(0:Int)<=zW zI (r2.2.1+r2.1) then bif zW zI (r2.2.1+r2.1)<=((a.size:Nat):Int) then bif(0:Int)<=r2.2.1 then bif r2.2.1<=(((zW zI (r2.2.1+r2.1)).toNat:Nat):Int) then bif(List.length b+List.length ([(r1.1,a.extract r2.2.1.toNat (zW zI (r2.2.1+r2.1)).toNat,())]:List bh))*24<=140737488355328 then f a (b++([(r1.1,a.extract r2.2.1.toNat (zW zI (r2.2.1+r2.1)).toNat,())]:List bh)) (zW zI (r2.2.1+r2.1)) (d++ [(r1.1,true)]) else none else none else none else none else none else g b
def zz2{R:Type}(a:ap)(b c:Int)(d:ap)(e:ap->Int->Int->Option R):Option R:=
 e a b c
def zz3{R:Type}(a:ap)(b:ap->Int->Int->Option R):Option R:=
 b a 0 0
def FH:Nat->ByteArray->ap->Int->Bf->Option (Sum qE ap)
 |0,_,_,_,_=>none
 |k+1,v0,v1,v2,v3=>TZ v0 v1 v2 v3 (fun a0 a1 a2 a3=>some (.inl (a0,a1,a2,a3))) (fun a0 a1 a2 a3=>FH k a0 a1 a2 a3) (fun a0=>some (.inr a0))
def sV(a:ByteArray):Option (Sum jf jf):=
 TY a (fun a0 a1 a2 a3=>(FH ai a0 a1 a2 a3).bind fun e=>Sum.elim (fun(we:qE)=>zz2 we.1 we.2.1 we.2.2.1 we.2.2.2 (fun a0 a1 a2=>some (.inl (a0,a1,a2)))) (fun(we:ap)=>zz3 we (fun a0 a1 a2=>some (.inr (a0,a1,a2)))) e)
def TF{R:Type}(a:aS)(b:Int->Option R):Option R:=
 bif a.1<2 then b 1 else bif 128<a.1 then b 1 else(A8 a.2.1).bind fun r1=>bif !r1 then b 6 else bif a.2.2.1<1 then b 3 else bif 3<a.2.2.1 then b 3 else bif a.2.2.2.1<1 then b 5 else bif a.2.2.2.2.1<a.2.2.2.1 then b 5 else bif 999<a.2.2.2.2.1 then b 5 else bif a.2.2.1=1 then bif !decide (a.2.2.2.1=a.2.2.2.2.1) then b 5 else bif !decide (a.2.2.1=1) then(qu a.2.2.1).bind fun r2=>bif r2<a.2.2.2.2.1 then b 5 else bif a.2.2.1=1 then bif a.2.1=6 then b 13 else b 0 else b 0 else bif a.2.2.1=1 then bif a.2.1=6 then b 13 else b 0 else b 0 else bif !decide (a.2.2.1=1) then(qu a.2.2.1).bind fun r3=>bif r3<a.2.2.2.2.1 then b 5 else bif a.2.2.1=1 then bif a.2.1=6 then b 13 else b 0 else b 0 else bif a.2.2.1=1 then bif a.2.1=6 then b 13 else b 0 else b 0
def lz(a:aS):Option Int:=
 TF a (fun a0=>some a0)
def TG{R:Type}(a:aS)(b:ByteArray)(c:Int->Option R):Option R:=
 (lz a).bind fun r1=>bif !decide (r1=0) then c 1 else bif(b.size:Int)<a.2.2.2.1 then c 5 else bif a.2.2.2.2.1<(b.size:Int) then c 5 else(Gi a.2.1 b).bind fun r2=>bif 0<=r2 then c 6 else bif a.2.1=6 then(sV b).bind fun r3=>Sum.elim (fun(rO:jf)=>bif !decide (rO.2.1=0) then c 13 else c 0) (fun(rO:jf)=>bif !decide (rO.2.1=0) then c 13 else c 0) r3 else c 0
def bW(a:aS)(b:ByteArray):Option Int:=
 TG a b (fun a0=>some a0)
def TI{R:Type}(a b:Int)(c:Bool->Option R):Option R:=
 bif a=5 then c true else bif a=6 then c (decide (a=b)) else bif b=6 then c (decide (a=b)) else(Gk a b).bind fun r1=>c r1
def vq(a b:Int):Option Bool:=
 TI a b (fun a0=>some a0)
def TH{R:Type}(a b:aS)(c:Bool->Option R):Option R:=
 (lz a).bind fun r1=>bif r1=0 then(lz b).bind fun r2=>bif r2=0 then bif a.2.2.2.1<=b.2.2.2.1 then bif b.2.2.2.2.1<=a.2.2.2.2.1 then(vq a.2.1 b.2.1).bind fun r3=>c r3 else c false else c false else c false else c false
def lA(a b:aS):Option Bool:=
 TH a b (fun a0=>some a0)
def Ps{R:Type}(a:Int)(b:Bool->Option R):Option R:=
 bif a=1 then b true else b (decide (a=2))
def A7(a:Int):Option Bool:=
 Ps a (fun a0=>some a0)
def UR{R:Type}(a b:Int)(c:Int->Option R):Option R:=
 bif a=2 then bif b=1 then c 1 else bif a=1 then bif b=5 then c 2 else bif b=6 then c 2 else c 0 else c 0 else bif a=1 then bif b=5 then c 2 else bif b=6 then c 2 else c 0 else c 0
def kI(a b:Int):Option Int:=
 UR a b (fun a0=>some a0)
def UK{R:Type}(a:Int)(b:aS)(c:ByteArray)(d:Int)(e:ByteArray->Int->Int->Option R):Option R:=
 (A7 a).bind fun r1=>bif !r1 then e (bs []) 0 1 else(lz b).bind fun r2=>bif !decide (r2=0) then e (bs []) 0 1 else bif d<0 then e (bs []) 0 1 else bif(c.size:Int)<d then e (bs []) 0 1 else bif !decide (b.2.2.1=1) then(sF a b.2.2.1 c d).bind fun r3=>bif !decide (r3.2.2=0) then e (bs []) 0 r3.2.2 else bif r3.1<b.2.2.2.1 then e (bs []) 0 5 else bif b.2.2.2.2.1<r3.1 then e (bs []) 0 5 else(kI a b.2.1).bind fun r4=>bif r4=1 then(Q2 r3.1).bind fun r5=>bif zW zI ((c.size:Int)-r3.2.1)<r5 then e (bs []) 0 2 else bif 0<=zW zI (r3.2.1+r5) then bif zW zI (r3.2.1+r5)<=(c.size:Int) then bif 0<=r3.2.1 then bif r3.2.1<=(((zW zI (r3.2.1+r5)).toNat:Nat):Int) then(kI a b.2.1).bind fun r6=>bif r6=1 then(Q0 (c.extract r3.2.1.toNat (zW zI (r3.2.1+r5)).toNat) r3.1).bind fun r7=>bif !decide (r7.2.1=0) then e (bs []) 0 r7.2.1 else(bW b r7.1).bind fun r8=>bif !decide (r8=0) then e (bs []) 0 r8 else e r7.1 (zW zI (r3.2.1+r5)) 0 else bif r6=2 then(gA (c.extract r3.2.1.toNat (zW zI (r3.2.1+r5)).toNat)).bind fun r9=>bif !r9.2.2 then e (bs []) 0 3 else(bW b r9.1).bind fun kl=>bif !decide (kl=0) then e (bs []) 0 kl else e r9.1 (zW zI (r3.2.1+r5)) 0 else(bW b (c.extract r3.2.1.toNat (zW zI (r3.2.1+r5)).toNat)).bind fun kE=>bif !decide (kE=0) then e (bs []) 0 kE else e (c.extract r3.2.1.toNat (zW zI (r3.2.1+r5)).toNat) (zW zI (r3.2.1+r5)) 0 else none else none else none else none else bif r4=2 then bif zW zI ((c.size:Int)-r3.2.1)<zW zI (2*r3.1) then e (bs []) 0 2 else bif 0<=zW zI (r3.2.1+zW zI (2*r3.1)) then bif zW zI (r3.2.1+zW zI (2*r3.1))<=(c.size:Int) then bif 0<=r3.2.1 then bif r3.2.1<=(((zW zI (r3.2.1+zW zI (2*r3.1))).toNat:Nat):Int) then(kI a b.2.1).bind fun nf=>bif nf=1 then(Q0 (c.extract r3.2.1.toNat (zW zI (r3.2.1+zW zI (2*r3.1))).toNat) r3.1).bind fun lX=>bif !decide (lX.2.1=0) then e (bs []) 0 lX.2.1 else(bW b lX.1).bind fun nw=>bif !decide (nw=0) then e (bs []) 0 nw else e lX.1 (zW zI (r3.2.1+zW zI (2*r3.1))) 0 else bif nf=2 then(gA (c.extract r3.2.1.toNat (zW zI (r3.2.1+zW zI (2*r3.1))).toNat)).bind fun rM=>bif !rM.2.2 then e (bs []) 0 3 else(bW b rM.1).bind fun xh=>bif !decide (xh=0) then e (bs []) 0 xh else e rM.1 (zW zI (r3.2.1+zW zI (2*r3.1))) 0 else(bW b (c.extract r3.2.1.toNat (zW zI (r3.2.1+zW zI (2*r3.1))).toNat)).bind fun Ci=>bif !decide (Ci=0) then e (bs []) 0 Ci else e (c.extract r3.2.1.toNat (zW zI (r3.2.1+zW zI (2*r3.1))).toNat) (zW zI (r3.2.1+zW zI (2*r3.1))) 0 else none else none else none else none else bif zW zI ((c.size:Int)-r3.2.1)<r3.1 then e (bs []) 0 2 else bif 0<=zW zI (r3.2.1+r3.1) then bif zW zI (r3.2.1+r3.1)<=(c.size:Int) then bif 0<=r3.2.1 then bif r3.2.1<=(((zW zI (r3.2.1+r3.1)).toNat:Nat):Int) then(kI a b.2.1).bind fun Cj=>bif Cj=1 then(Q0 (c.extract r3.2.1.toNat (zW zI (r3.2.1+r3.1)).toNat) r3.1).bind fun ue=>bif !decide (ue.2.1=0) then e (bs []) 0 ue.2.1 else(bW b ue.1).bind fun Ck=>bif !decide (Ck=0) then e (bs []) 0 Ck else e ue.1 (zW zI (r3.2.1+r3.1)) 0 else bif Cj=2 then(gA (c.extract r3.2.1.toNat (zW zI (r3.2.1+r3.1)).toNat)).bind fun xi=>bif !xi.2.2 then e (bs []) 0 3 else(bW b xi.1).bind fun JE=>bif !decide (JE=0) then e (bs []) 0 JE else e xi.1 (zW zI (r3.2.1+r3.1)) 0 else(bW b (c.extract r3.2.1.toNat (zW zI (r3.2.1+r3.1)).toNat)).bind fun JF=>bif !decide (JF=0) then e (bs []) 0 JF else e (c.extract r3.2.1.toNat (zW zI (r3.2.1+r3.1)).toNat) (zW zI (r3.2.1+r3.1)) 0 else none else none else none else none else(kI a b.2.1).bind fun r24=>bif r24=1 then(Q2 b.2.2.2.1).bind fun uf=>bif zW zI ((c.size:Int)-d)<uf then e (bs []) 0 2 else bif 0<=zW zI (d+uf) then bif zW zI (d+uf)<=(c.size:Int) then bif 0<=d then bif d<=(((zW zI (d+uf)).toNat:Nat):Int) then(kI a b.2.1).bind fun r26=>bif r26=1 then(Q0 (c.extract d.toNat (zW zI (d+uf)).toNat) b.2.2.2.1).bind fun QB=>bif !decide (QB.2.1=0) then e (bs []) 0 QB.2.1 else(bW b QB.1).bind fun r28=>bif !decide (r28=0) then e (bs []) 0 r28 else e QB.1 (zW zI (d+uf)) 0 else bif r26=2 then(gA (c.extract d.toNat (zW zI (d+uf)).toNat)).bind fun ZT=>bif !ZT.2.2 then e (bs []) 0 3 else(bW b ZT.1).bind fun r30=>bif !decide (r30=0) then e (bs []) 0 r30 else e ZT.1 (zW zI (d+uf)) 0 else(bW b (c.extract d.toNat (zW zI (d+uf)).toNat)).bind fun r31=>bif !decide (r31=0) then e (bs []) 0 r31 else e (c.extract d.toNat (zW zI (d+uf)).toNat) (zW zI (d+uf)) 0 else none else none else none else none else bif r24=2 then bif zW zI ((c.size:Int)-d)<zW zI (2*b.2.2.2.1) then e (bs []) 0 2 else bif 0<=zW zI (d+zW zI (2*b.2.2.2.1)) then bif zW zI (d+zW zI (2*b.2.2.2.1))<=(c.size:Int) then bif 0<=d then bif d<=(((zW zI (d+zW zI (2*b.2.2.2.1))).toNat:Nat):Int) then(kI a b.2.1).bind fun r32=>bif r32=1 then(Q0 (c.extract d.toNat (zW zI (d+zW zI (2*b.2.2.2.1))).toNat) b.2.2.2.1).bind fun QC=>bif !decide (QC.2.1=0) then e (bs []) 0 QC.2.1 else(bW b QC.1).bind fun r34=>bif !decide (r34=0) then e (bs []) 0 r34 else e QC.1 (zW zI (d+zW zI (2*b.2.2.2.1))) 0 else bif r32=2 then(gA (c.extract d.toNat (zW zI (d+zW zI (2*b.2.2.2.1))).toNat)).bind fun ZU=>bif !ZU.2.2 then e (bs []) 0 3 else(bW b ZU.1).bind fun r36=>bif !decide (r36=0) then e (bs []) 0 r36 else e ZU.1 (zW zI (d+zW zI (2*b.2.2.2.1))) 0 else(bW b (c.extract d.toNat (zW zI (d+zW zI (2*b.2.2.2.1))).toNat)).bind fun r37=>bif !decide (r37=0) then e (bs []) 0 r37 else e (c.extract d.toNat (zW zI (d+zW zI (2*b.2.2.2.1))).toNat) (zW zI (d+zW zI (2*b.2.2.2.1))) 0 else none else none else none else none else bif zW zI ((c.size:Int)-d)<b.2.2.2.1 then e (bs []) 0 2 else bif 0<=zW zI (d+b.2.2.2.1) then bif zW zI (d+b.2.2.2.1)<=(c.size:Int) then bif 0<=d then bif d<=(((zW zI (d+b.2.2.2.1)).toNat:Nat):Int) then(kI a b.2.1).bind fun r38=>bif r38=1 then(Q0 (c.extract d.toNat (zW zI (d+b.2.2.2.1)).toNat) b.2.2.2.1).bind fun QD=>bif !decide (QD.2.1=0) then e (bs []) 0 QD.2.1 else(bW b QD.1).bind fun r40=>bif !decide (r40=0) then e (bs []) 0 r40 else e QD.1 (zW zI (d+b.2.2.2.1)) 0 else bif r38=2 then(gA (c.extract d.toNat (zW zI (d+b.2.2.2.1)).toNat)).bind fun ZV=>bif !ZV.2.2 then e (bs []) 0 3 else(bW b ZV.1).bind fun r42=>bif !decide (r42=0) then e (bs []) 0 r42 else e ZV.1 (zW zI (d+b.2.2.2.1)) 0 else(bW b (c.extract d.toNat (zW zI (d+b.2.2.2.1)).toNat)).bind fun r43=>bif !decide (r43=0) then e (bs []) 0 r43 else e (c.extract d.toNat (zW zI (d+b.2.2.2.1)).toNat) (zW zI (d+b.2.2.2.1)) 0 else none else none else none else none
def Gd(a:Int)(b:aS)(c:ByteArray)(d:Int):Option Il:=
 UK a b c d (fun a0 a1 a2=>some (a0,a1,a2))
def UM{R:Type}(a:Int)(b:aS)(c:ByteArray)(d:ByteArray->Int->Option R):Option R:=
 (A7 a).bind fun r1=>bif !r1 then d (bs []) 1 else(bW b c).bind fun r2=>bif !decide (r2=0) then d (bs []) r2 else bif !decide (b.2.2.1=1) then(qv a b.2.2.1 (c.size:Int)).bind fun r3=>(kI a b.2.1).bind fun r4=>bif r4=1 then(Q1 c).bind fun r5=>bif r3.1.size+r5.1.size<=9223372036854775807 then d (r3.1++r5.1) 0 else none else bif r4=2 then(jB c).bind fun r6=>bif r3.1.size+r6.size<=9223372036854775807 then d (r3.1++r6) 0 else none else bif r3.1.size+c.size<=9223372036854775807 then d (r3.1++c) 0 else none else(kI a b.2.1).bind fun r7=>bif r7=1 then(Q1 c).bind fun r8=>bif(bs []).size+r8.1.size<=9223372036854775807 then d (bs []++r8.1) 0 else none else bif r7=2 then(jB c).bind fun r9=>bif(bs []).size+r9.size<=9223372036854775807 then d (bs []++r9) 0 else none else bif(bs []).size+c.size<=9223372036854775807 then d (bs []++c) 0 else none
def A5(a:Int)(b:aS)(c:ByteArray):Option Qd:=
 UM a b c (fun a0 a1=>some (a0,a1))
def Vo{R:Type}(a:aN)(b:Int->Int->Option R)(c:aN->Int->Int->gV->Option R):Option R:=
 bif 256<((List.length a):Int) then b 5 256 else c a ((List.length a):Int) 0 []
def CL{R:Type}(a:aN)(b c:Int)(d:gV)(e:Int->Int->Option R)(f:aN->Int->Int->gV->Option R)(g:Option R):Option R:=
 bif c<b then zd c (List.length a) (bif eV (fO .str) false d (List.getD a c.toNat (bs [],bs [],())).1 then e (10:Int) c else bif eW (fO .str) d (List.getD a c.toNat (bs [],bs [],())).1 then none else f a b (zW zI (c+(1:Int))) (d++ [((List.getD a c.toNat (bs [],bs [],())).1,true)])) else g
def CM{R:Type}(a b:Int)(c:Int->Int->Option R):Option R:=
 c a b
def CN{R:Type}(a:Int->Int->Option R):Option R:=
 a 0 0
def Pv:Nat->aN->Int->Int->gV->Option (Sum (Int×Int) Unit)
 |0,_,_,_,_=>none
 |k+1,v0,v1,v2,v3=>CL v0 v1 v2 v3 (fun a0 a1=>some (.inl (a0,a1))) (fun a0 a1 a2 a3=>Pv k a0 a1 a2 a3) (some (.inr ()))
def Gr(a:aN):Option (Int×Int):=
 Vo a (fun a0 a1=>some (a0,a1)) (fun a0 a1 a2 a3=>(Pv ai a0 a1 a2 a3).bind fun e=>Sum.elim (fun(we:(Int×Int))=>CM we.1 we.2 (fun a0 a1=>some (a0,a1))) (fun(we:Unit)=>CN (fun a0 a1=>some (a0,a1))) e)
def Vj{R:Type}(a:aN)(b:ByteArray)(c:ByteArray->aN->Int->Int->Option R):Option R:=
 c b a ((List.length a):Int) 0
def CH{R:Type}(a:ByteArray)(b:aN)(c d:Int)(e:ByteArray->Bool->Option R)(f:ByteArray->aN->Int->Int->Option R)(g:Option R):Option R:=
 bif d<c then zd d (List.length b) (bif(List.getD b d.toNat (bs [],bs [],())).1=a then e (List.getD b d.toNat (bs [],bs [],())).2.1 true else f a b c (zW zI (d+1))) else g
def CI{R:Type}(a:ByteArray)(b:Bool)(c:ByteArray->Bool->Option R):Option R:=
 c a b
def CJ{R:Type}(a:ByteArray->Bool->Option R):Option R:=
 a (bs []) false
def Pu:Nat->ByteArray->aN->Int->Int->Option (Sum js Unit)
 |0,_,_,_,_=>none
 |k+1,v0,v1,v2,v3=>CH v0 v1 v2 v3 (fun a0 a1=>some (.inl (a0,a1))) (fun a0 a1 a2 a3=>Pu k a0 a1 a2 a3) (some (.inr ()))
def Gq(a:aN)(b:ByteArray):Option js:=
 Vj a b (fun a0 a1 a2 a3=>(Pu ai a0 a1 a2 a3).bind fun e=>Sum.elim (fun(we:js)=>CI we.1 we.2 (fun a0 a1=>some (a0,a1))) (fun(we:Unit)=>CJ (fun a0 a1=>some (a0,a1))) e)
def VP{R:Type}(a:Int)(b:Int->Option R)(c:Int->ag->Option R):Option R:=
 bif a<1 then b 5 else bif 65535<a then b 5 else c 0 (a,false,[],())
def GM(a:Int):Option (Sum Int s7):=
 VP a (fun a0=>some (.inl a0)) (fun a0 a1=>some (.inr (a0,a1)))
def VO{R:Type}(a:ag)(b:Int->ag->Option R):Option R:=
 bif((List.length a.2.2.1):Int)<2 then b 0 a else zd 0 (List.length a.2.2.1) (zd 1 (List.length a.2.2.1) (b (aP .or .i64 (zW zI (zW zI (List.getD a.2.2.1 ((0:Int)).toNat 0)*2^min ((8:Int)).toNat 64)) (zW zI (List.getD a.2.2.1 ((1:Int)).toNat 0))) a))
def GK(a:ag):Option s7:=
 VO a (fun a0 a1=>some (a0,a1))
def VL{R:Type}(a:ag)(b:ByteArray)(c:ByteArray->(List ByteArray)->Int->ag->Option R):Option R:=
 c b [] 0 a
def Pz{R:Type}(a:ByteArray)(b:(List ByteArray))(c:Int)(d:ag)(e:(List ByteArray)->Bool->(List ByteArray)->ag->Option R)(f:ByteArray->(List ByteArray)->Int->ag->Option R)(g:(List ByteArray)->ag->Option R):Option R:=
 bif c<(a.size:Int) then bif !d.2.1 then zd c a.size (bif(List.length d.2.2.1+List.length ([(ze a c.toNat)]:List Int))*1<=140737488355328 then(GK (d.1,d.2.1,d.2.2.1++([(ze a c.toNat)]:List Int),())).bind fun r1=>bif((List.length r1.2.2.2.1):Int)=2 then bif r1.1=0 then e b true b (r1.2.1,true,[],()) else bif r1.2.1<r1.1 then e b true b (r1.2.1,true,[],()) else bif((List.length r1.2.2.2.1):Int)=zW zI (2+r1.1) then bif 0<r1.1 then bif 2<=(((List.length r1.2.2.2.1):Nat):Int) then bif(List.length b+List.length ([(strOf (List.drop ((2:Int)).toNat (List.take (List.length r1.2.2.2.1) r1.2.2.2.1)))]:List ByteArray))*16<=140737488355328 then f a (b++([(strOf (List.drop ((2:Int)).toNat (List.take (List.length r1.2.2.2.1) r1.2.2.2.1)))]:List ByteArray)) (zW zI (c+1)) (r1.2.1,r1.2.2.1,[],()) else none else none else f a b (zW zI (c+1)) r1.2 else f a b (zW zI (c+1)) r1.2 else bif((List.length r1.2.2.2.1):Int)=zW zI (2+r1.1) then bif 0<r1.1 then bif 2<=(((List.length r1.2.2.2.1):Nat):Int) then bif(List.length b+List.length ([(strOf (List.drop ((2:Int)).toNat (List.take (List.length r1.2.2.2.1) r1.2.2.2.1)))]:List ByteArray))*16<=140737488355328 then f a (b++([(strOf (List.drop ((2:Int)).toNat (List.take (List.length r1.2.2.2.1) r1.2.2.2.1)))]:List ByteArray)) (zW zI (c+1)) (r1.2.1,r1.2.2.1,[],()) else none else none else f a b (zW zI (c+1)) r1.2 else f a b (zW zI (c+1)) r1.2 else none) else g b d else g b d
def VM{R:Type}(a:(List ByteArray))(b:Bool)(c:(List ByteArray))(d:ag)(e:(List ByteArray)->Bool->ag->Option R):Option R:=
 e a b d
def VN{R:Type}(a:(List ByteArray))(b:ag)(c:(List ByteArray)->Bool->ag->Option R):Option R:=
 c a false b
def EB:Nat->ByteArray->(List ByteArray)->Int->ag->Option (Sum ((List ByteArray)×Bool×(List ByteArray)×ag) ((List ByteArray)×ag))
 |0,_,_,_,_=>none
 |k+1,v0,v1,v2,v3=>Pz v0 v1 v2 v3 (fun a0 a1 a2 a3=>some (.inl (a0,a1,a2,a3))) (fun a0 a1 a2 a3=>EB k a0 a1 a2 a3) (fun a0 a1=>some (.inr (a0,a1)))
def Ba(a:ag)(b:ByteArray):Option ((List ByteArray)×Bool×ag):=
 VL a b (fun a0 a1 a2 a3=>(EB ai a0 a1 a2 a3).bind fun e=>Sum.elim (fun(we:((List ByteArray)×Bool×(List ByteArray)×ag))=>VM we.1 we.2.1 we.2.2.1 we.2.2.2 (fun a0 a1 a2=>some (a0,a1,a2))) (fun(we:((List ByteArray)×ag))=>VN we.1 we.2 (fun a0 a1 a2=>some (a0,a1,a2))) e)
def VQ{R:Type}(a:ByteArray)(b:ByteArray->Int->Option R):Option R:=
 bif(a.size:Int)<1 then b (bs []) 5 else bif 65535<(a.size:Int) then b (bs []) 5 else bif(strOf ([(zW zU (Int.fdiv (a.size:Int) (2^min ((8:Int)).toNat 64))),(zW zU (a.size:Int))]:List Int)).size+a.size<=9223372036854775807 then b (strOf ([(zW zU (Int.fdiv (a.size:Int) (2^min ((8:Int)).toNat 64))),(zW zU (a.size:Int))]:List Int)++a) 0 else none
def Bb(a:ByteArray):Option Qd:=
 VQ a (fun a0 a1=>some (a0,a1))
def CR{R:Type}(a:ag)(b:Bool->ag->Option R):Option R:=
 b a.2.1 a
def WV(a:ag):Option (Bool×ag):=
 CR a (fun a0 a1=>some (a0,a1))
def CT{R:Type}(a:ag)(b:Int->ag->Option R):Option R:=
 b ((List.length a.2.2.1):Int) a
def WW(a:ag):Option s7:=
 CT a (fun a0 a1=>some (a0,a1))
def SR{R:Type}(a:ByteArray)(b:Bool->Option R):Option R:=
 bif(a.size:Int)=4 then(xZ a).bind fun r1=>b r1 else b false
def nM(a:ByteArray):Option Bool:=
 SR a (fun a0=>some a0)
def SS{R:Type}(a:ByteArray)(b:Int->Bool->Option R):Option R:=
 (nM a).bind fun r1=>bif !r1 then b 0 false else zd 0 a.size (b (zW zI (zW zU (ze a ((0:Int)).toNat-48))) true)
def jc(a:ByteArray):Option (Int×Bool):=
 SS a (fun a0 a1=>some (a0,a1))
def SP{R:Type}(a:ByteArray)(b:Bool->Option R):Option R:=
 (nM a).bind fun r1=>bif r1 then zd 2 a.size (bif ze a ((2:Int)).toNat=48 then b true else zd 2 a.size (b (decide (ze a ((2:Int)).toNat=50)))) else b false
def nL(a:ByteArray):Option Bool:=
 SP a (fun a0=>some a0)
def SQ{R:Type}(a:ByteArray)(b:ByteArray->Bool->Option R):Option R:=
 (nL a).bind fun r1=>bif !r1 then b (bs []) false else bif 2<=(a.size:Int) then zd 2 a.size (bif(a.extract 0 ((2:Int)).toNat).size+(strOf ([(zW zU (ze a ((2:Int)).toNat+1))]:List Int)).size<=9223372036854775807 then bif 3<=(a.size:Int) then bif(a.extract 0 ((2:Int)).toNat++strOf ([(zW zU (ze a ((2:Int)).toNat+1))]:List Int)).size+(a.extract ((3:Int)).toNat a.size).size<=9223372036854775807 then b ((a.extract 0 ((2:Int)).toNat++strOf ([(zW zU (ze a ((2:Int)).toNat+1))]:List Int))++a.extract ((3:Int)).toNat a.size) true else none else none else none) else none
def sE(a:ByteArray):Option js:=
 SQ a (fun a0 a1=>some (a0,a1))
def z87{R:Type}(a:af)(b:Int->Int->Option R)(c:gC->Int->Int->af->Option R):Option R:=
 bif !decide (a.1=1) then bif !decide (a.1=2) then b 1 (-1:Int) else bif a.2.1<0 then b 7 (-1:Int) else bif 9<a.2.1 then b 7 (-1:Int) else c a.2.2.1 ((List.length a.2.2.1):Int) 0 a else bif a.2.1<0 then b 7 (-1:Int) else bif 9<a.2.1 then b 7 (-1:Int) else c a.2.2.1 ((List.length a.2.2.1):Int) 0 a
theorem aau{R S:Type}(F:R->Option S)(a)(b)(c):(z87 a b c).bind F=z87 a (fun a0 a1=>(b a0 a1).bind F) (fun a0 a1 a2 a3=>(c a0 a1 a2 a3).bind F):=by
 simp only[z87,aF]
def O2{R:Type}(a:gC)(b c:Int)(d:af)(e:Int->Int->Option R)(f:gC->Int->Int->af->Option R)(g:Option R):Option R:=
 bif c<b then zd c (List.length a) ((lz (List.getD a c.toNat (0,0,0,0,0,()))).bind fun r1=>bif !decide (r1=0) then e r1 c else bif 0<c then zd (zW zI (c-1)) (List.length d.2.2.1) (bif(List.getD a c.toNat (0,0,0,0,0,())).1<=(List.getD d.2.2.1 (zW zI (c-(1:Int))).toNat (0,0,0,0,0,())).1 then e 11 c else f a b (zW zI (c+1)) d) else f a b (zW zI (c+1)) d) else g
def Ts{R:Type}(a b:Int)(c:Int->Int->Option R):Option R:=
 c a b
def Tt{R:Type}(a:Int->Int->Option R):Option R:=
 a 0 0
def z59:Nat->gC->Int->Int->af->Option (Sum (Int×Int) Unit)
 |0,_,_,_,_=>none
 |k+1,v0,v1,v2,v3=>O2 v0 v1 v2 v3 (fun a0 a1=>some (.inl (a0,a1))) (fun a0 a1 a2 a3=>z59 k a0 a1 a2 a3) (some (.inr ()))
def my(a:af):Option (Int×Int):=
 z87 a (fun a0 a1=>some (a0,a1)) (fun a0 a1 a2 a3=>(z59 ai a0 a1 a2 a3).bind fun e=>Sum.elim (fun(we:(Int×Int))=>Ts we.1 we.2 (fun a0 a1=>some (a0,a1))) (fun(we:Unit)=>Tt (fun a0 a1=>some (a0,a1))) e)
def Tv{R:Type}(a:af)(b:Int)(c:Int->gC->Int->Int->aS->Option R):Option R:=
 c b a.2.2.1 ((List.length a.2.2.1):Int) 0 (0,0,0,0,0,())
def zyh{R:Type}(a:Int)(b:gC)(c d:Int)(e:aS)(f:Bool->aS->Option R)(g:Int->gC->Int->Int->aS->Option R)(h:aS->Option R):Option R:=
 bif d<c then zd d (List.length b) (bif(List.getD b d.toNat (0,0,0,0,0,())).1=a then f true (List.getD b d.toNat (0,0,0,0,0,())) else g a b c (zW zI (d+1)) e) else h e
def zyi{R:Type}(a:Bool)(b:aS)(c:aS->Bool->Option R):Option R:=
 c b a
def zyj{R:Type}(a:aS)(b:aS->Bool->Option R):Option R:=
 b (0,0,0,0,0,()) false
def O3:Nat->Int->gC->Int->Int->aS->Option (Sum (Bool×aS) aS)
 |0,_,_,_,_,_=>none
 |k+1,v0,v1,v2,v3,v4=>zyh v0 v1 v2 v3 v4 (fun a0 a1=>some (.inl (a0,a1))) (fun a0 a1 a2 a3 a4=>O3 k a0 a1 a2 a3 a4) (fun a0=>some (.inr a0))
def fF(a:af)(b:Int):Option (aS×Bool):=
 Tv a b (fun a0 a1 a2 a3 a4=>(O3 ai a0 a1 a2 a3 a4).bind fun e=>Sum.elim (fun(we:(Bool×aS))=>zyi we.1 we.2 (fun a0 a1=>some (a0,a1))) (fun(we:aS)=>zyj we (fun a0 a1=>some (a0,a1))) e)
def SJ{R:Type}(a:aw)(b:Int)(c:Int->ap->Int->Int->Option R):Option R:=
 c b a.2.1 ((List.length a.2.1):Int) 0
def zxm{R:Type}(a:Int)(b:ap)(c d:Int)(e:ByteArray->Bool->Option R)(f:Int->ap->Int->Int->Option R)(g:Option R):Option R:=
 bif d<c then zd d (List.length b) (bif(List.getD b d.toNat (0,bs [],())).1=a then e (List.getD b d.toNat (0,bs [],())).2.1 true else f a b c (zW zI (d+1))) else g
def zxn{R:Type}(a:ByteArray)(b:Bool)(c:ByteArray->Bool->Option R):Option R:=
 c a b
def zxo{R:Type}(a:ByteArray->Bool->Option R):Option R:=
 a (bs []) false
def OS:Nat->Int->ap->Int->Int->Option (Sum js Unit)
 |0,_,_,_,_=>none
 |k+1,v0,v1,v2,v3=>zxm v0 v1 v2 v3 (fun a0 a1=>some (.inl (a0,a1))) (fun a0 a1 a2 a3=>OS k a0 a1 a2 a3) (some (.inr ()))
def nK(a:aw)(b:Int):Option js:=
 SJ a b (fun a0 a1 a2 a3=>(OS ai a0 a1 a2 a3).bind fun e=>Sum.elim (fun(we:js)=>zxn we.1 we.2 (fun a0 a1=>some (a0,a1))) (fun(we:Unit)=>zxo (fun a0 a1=>some (a0,a1))) e)
def SO{R:Type}(a:aw)(b:Int)(c:Int->ap->Int->Int->aw->aw->Option R):Option R:=
 c b a.2.1 ((List.length a.2.1):Int) 0 (bs [],[],()) (a.1,[],())
def zxs{R:Type}(a:Int)(b:ap)(c d:Int)(e f:aw)(g:Int->ap->Int->Int->aw->aw->Option R)(h:aw->aw->Option R):Option R:=
 bif d<c then zd d (List.length b) (bif !decide ((List.getD b d.toNat (0,bs [],())).1=a) then bif(List.length f.2.1+List.length ([(List.getD b d.toNat ((0:Int),bs [],()))]:List bh))*24<=140737488355328 then g a b c (zW zI (d+1)) e (f.1,f.2.1++([(List.getD b d.toNat (0,bs [],()))]:List bh),()) else none else g a b c (zW zI (d+1)) e f) else h e f
def zxt{R:Type}(a b:aw)(c:aw->Option R):Option R:=
 c b
def OU:Nat->Int->ap->Int->Int->aw->aw->Option (aw×aw)
 |0,_,_,_,_,_,_=>none
 |k+1,v0,v1,v2,v3,v4,v5=>zxs v0 v1 v2 v3 v4 v5 (fun a0 a1 a2 a3 a4 a5=>OU k a0 a1 a2 a3 a4 a5) (fun a0 a1=>some (a0,a1))
def sD(a:aw)(b:Int):Option aw:=
 SO a b (fun a0 a1 a2 a3 a4 a5=>(OU ai a0 a1 a2 a3 a4 a5).bind fun e=>zxt e.1 e.2 (fun a0=>some a0))
def zxr{R:Type}(a:bh)(b:Int)(c:Bool->Int->Option R):Option R:=
 c (decide (b<a.1)) b
def sC(a:bh)(b:Int):Option (Bool×Int):=
 zxr a b (fun a0 a1=>some (a0,a1))
def TC{R:Type}(a:ap)(b:Int)(c:ap->Int->Int->Int->Option R):Option R:=
 c a ((List.length a):Int) 0 b
def zyq{R:Type}(a:ap)(b c d:Int)(e:Int->Int->Option R)(f:ap->Int->Int->Int->Option R)(g:Int->Option R):Option R:=
 bif c<b then zd c (List.length a) ((sC (List.getD a c.toNat (0,bs [],())) d).bind fun r1=>bif r1.1 then e c r1.2 else f a b (zW zI (c+1)) r1.2) else g d
def zyr{R:Type}(a b:Int)(c:Int->Int->Option R):Option R:=
 c a b
def zys{R:Type}(a:Int)(b:Int->Int->Option R):Option R:=
 b (-1:Int) a
def O5:Nat->ap->Int->Int->Int->Option (Sum (Int×Int) Int)
 |0,_,_,_,_=>none
 |k+1,v0,v1,v2,v3=>zyq v0 v1 v2 v3 (fun a0 a1=>some (.inl (a0,a1))) (fun a0 a1 a2 a3=>O5 k a0 a1 a2 a3) (fun a0=>some (.inr a0))
def sQ(a:ap)(b:Int):Option (Int×Int):=
 TC a b (fun a0 a1 a2 a3=>(O5 ai a0 a1 a2 a3).bind fun e=>Sum.elim (fun(we:(Int×Int))=>zyr we.1 we.2 (fun a0 a1=>some (a0,a1))) (fun(we:Int)=>zys we (fun a0 a1=>some (a0,a1))) e)
def SM{R:Type}(a:aw)(b:Int)(c:ByteArray)(d:aw->Option R):Option R:=
 (sD a b).bind fun r1=>(sQ r1.2.1 b).bind fun r2=>bif r2.1<0 then bif zW zI (((List.length r1.2.1):Int)+1)=zW zI (((List.length r1.2.1):Int)+1) then bif 0<=zW zI (((List.length r1.2.1):Int)+1) then bif zW zI (((List.length r1.2.1):Int)+1)*24<=140737488355328 then bif 0<=((List.length r1.2.1):Int) then bif((List.length r1.2.1):Int)<=(((List.length r1.2.1):Nat):Int) then bif Nat.beq (zW zI (((List.length r1.2.1):Int)+(1:Int))).toNat (List.length (List.replicate (zW zI (((List.length r1.2.1):Int)+(1:Int))).toNat ((0:Int),bs [],()))) then zd ((List.length r1.2.1):Int) (zW zI (((List.length r1.2.1):Int)+(1:Int))).toNat (bif Nat.ble ((((List.length r1.2.1):Int)).toNat+1) (List.length (bX (List.replicate (zW zI (((List.length r1.2.1):Int)+(1:Int))).toNat ((0:Int),bs [],())) (List.take (zW zI (((List.length r1.2.1):Int)+(1:Int))).toNat (List.drop 0 (List.take (((List.length r1.2.1):Int)).toNat r1.2.1))) 0)) then bif 0<=zW zI (((List.length r1.2.1):Int)+1) then bif zW zI (((List.length r1.2.1):Int)+1)<=(((zW zI (((List.length r1.2.1):Int)+(1:Int))).toNat:Nat):Int) then bif 0<=((List.length r1.2.1):Int) then bif((List.length r1.2.1):Int)<=(((List.length r1.2.1):Nat):Int) then bif Nat.beq (zW zI (((List.length r1.2.1):Int)+(1:Int))).toNat (List.length (List.set (bX (List.replicate (zW zI (((List.length r1.2.1):Int)+(1:Int))).toNat ((0:Int),bs [],())) (List.take (zW zI (((List.length r1.2.1):Int)+(1:Int))).toNat (List.drop 0 (List.take (((List.length r1.2.1):Int)).toNat r1.2.1))) 0) (((List.length r1.2.1):Int)).toNat (r2.2,c,()))) then bif Nat.ble (zW zI (((List.length r1.2.1):Int)+(1:Int))).toNat (zW zI (((List.length r1.2.1):Int)+(1:Int))).toNat then bif Nat.beq (zW zI (((List.length r1.2.1):Int)+(1:Int))).toNat (List.length (bX (List.set (bX (List.replicate (zW zI (((List.length r1.2.1):Int)+(1:Int))).toNat ((0:Int),bs [],())) (List.take (zW zI (((List.length r1.2.1):Int)+(1:Int))).toNat (List.drop 0 (List.take (((List.length r1.2.1):Int)).toNat r1.2.1))) 0) (((List.length r1.2.1):Int)).toNat (r2.2,c,())) (List.take ((zW zI (((List.length r1.2.1):Int)+(1:Int))).toNat-(zW zI (((List.length r1.2.1):Int)+(1:Int))).toNat) (List.drop (((List.length r1.2.1):Int)).toNat (List.take (List.length r1.2.1) r1.2.1))) (zW zI (((List.length r1.2.1):Int)+(1:Int))).toNat)) then d (a.1,bX (List.set (bX (List.replicate (zW zI (((List.length r1.2.1):Int)+(1:Int))).toNat (0,bs [],())) (List.take (zW zI (((List.length r1.2.1):Int)+(1:Int))).toNat (List.drop 0 (List.take (((List.length r1.2.1):Int)).toNat r1.2.1))) 0) (((List.length r1.2.1):Int)).toNat (r2.2,c,())) (List.take ((zW zI (((List.length r1.2.1):Int)+(1:Int))).toNat-(zW zI (((List.length r1.2.1):Int)+(1:Int))).toNat) (List.drop (((List.length r1.2.1):Int)).toNat (List.take (List.length r1.2.1) r1.2.1))) (zW zI (((List.length r1.2.1):Int)+(1:Int))).toNat,()) else none else none else none else none else none else none else none else none) else none else none else none else none else none else none else bif zW zI (((List.length r1.2.1):Int)+1)=zW zI (((List.length r1.2.1):Int)+1) then bif 0<=zW zI (((List.length r1.2.1):Int)+1) then bif zW zI (((List.length r1.2.1):Int)+1)*24<=140737488355328 then bif 0<=r2.1 then bif r2.1<=(((List.length r1.2.1):Nat):Int) then bif Nat.beq (zW zI (((List.length r1.2.1):Int)+(1:Int))).toNat (List.length (List.replicate (zW zI (((List.length r1.2.1):Int)+(1:Int))).toNat ((0:Int),bs [],()))) then zd r2.1 (zW zI (((List.length r1.2.1):Int)+(1:Int))).toNat (bif Nat.ble (r2.1.toNat+1) (List.length (bX (List.replicate (zW zI (((List.length r1.2.1):Int)+(1:Int))).toNat ((0:Int),bs [],())) (List.take (zW zI (((List.length r1.2.1):Int)+(1:Int))).toNat (List.drop 0 (List.take r2.1.toNat r1.2.1))) 0)) then bif 0<=zW zI (r2.1+1) then bif zW zI (r2.1+1)<=(((zW zI (((List.length r1.2.1):Int)+(1:Int))).toNat:Nat):Int) then bif 0<=r2.1 then bif r2.1<=(((List.length r1.2.1):Nat):Int) then bif Nat.beq (zW zI (((List.length r1.2.1):Int)+(1:Int))).toNat (List.length (List.set (bX (List.replicate (zW zI (((List.length r1.2.1):Int)+(1:Int))).toNat ((0:Int),bs [],())) (List.take (zW zI (((List.length r1.2.1):Int)+(1:Int))).toNat (List.drop 0 (List.take r2.1.toNat r1.2.1))) 0) r2.1.toNat (r2.2,c,()))) then bif Nat.ble (zW zI (r2.1+(1:Int))).toNat (zW zI (((List.length r1.2.1):Int)+(1:Int))).toNat then bif Nat.beq (zW zI (((List.length r1.2.1):Int)+(1:Int))).toNat (List.length (bX (List.set (bX (List.replicate (zW zI (((List.length r1.2.1):Int)+(1:Int))).toNat ((0:Int),bs [],())) (List.take (zW zI (((List.length r1.2.1):Int)+(1:Int))).toNat (List.drop 0 (List.take r2.1.toNat r1.2.1))) 0) r2.1.toNat (r2.2,c,())) (List.take ((zW zI (((List.length r1.2.1):Int)+(1:Int))).toNat-(zW zI (r2.1+(1:Int))).toNat) (List.drop r2.1.toNat (List.take (List.length r1.2.1) r1.2.1))) (zW zI (r2.1+(1:Int))).toNat)) then d (a.1,bX (List.set (bX (List.replicate (zW zI (((List.length r1.2.1):Int)+(1:Int))).toNat (0,bs [],())) (List.take (zW zI (((List.length r1.2.1):Int)+(1:Int))).toNat (List.drop 0 (List.take r2.1.toNat r1.2.1))) 0) r2.1.toNat (r2.2,c,())) (List.take ((zW zI (((List.length r1.2.1):Int)+(1:Int))).toNat-(zW zI (r2.1+(1:Int))).toNat) (List.drop r2.1.toNat (List.take (List.length r1.2.1) r1.2.1))) (zW zI (r2.1+(1:Int))).toNat,()) else none else none else none else none else none else none else none else none) else none else none else none else none else none else none
def gT(a:aw)(b:Int)(c:ByteArray):Option aw:=
 SM a b c (fun a0=>some a0)
def SH{R:Type}(a:af)(b:aw)(c:aQ->Option R)(d:Int->ap->Int->Int->af->aQ->Option R):Option R:=
 (my a).bind fun r1=>bif !decide (r1.1=0) then c (1,(-1:Int),()) else(jc b.1).bind fun r2=>bif !r2.2 then c (7,0,()) else bif !decide (r2.1=a.2.1) then c (7,0,()) else d 0 b.2.1 ((List.length b.2.1):Int) 0 a (0,0,())
def zxi{R:Type}(a:Int)(b:ap)(c d:Int)(e:af)(f:aQ)(g:aQ->Option R)(h:Int->ap->Int->Int->af->aQ->Option R)(i:aQ->Option R):Option R:=
 bif d<c then zd d (List.length b) (bif(List.getD b d.toNat (0,bs [],())).1<=a then g (11,(List.getD b d.toNat (0,bs [],())).1,()) else(fF e (List.getD b d.toNat (0,bs [],())).1).bind fun r3=>bif !r3.2 then g (9,(List.getD b d.toNat (0,bs [],())).1,()) else(bW r3.1 (List.getD b d.toNat (0,bs [],())).2.1).bind fun r4=>bif !decide (r4=0) then g (r4,(List.getD b d.toNat (0,bs [],())).1,()) else h (List.getD b d.toNat (0,bs [],())).1 b c (zW zI (d+1)) e f) else i f
def zxj{R:Type}(a:aQ)(b:aQ->Option R):Option R:=
 b a
def zxk{R:Type}(a:aQ)(b:aQ->Option R):Option R:=
 b (0,0,())
def OR:Nat->Int->ap->Int->Int->af->aQ->Option (Sum aQ aQ)
 |0,_,_,_,_,_,_=>none
 |k+1,v0,v1,v2,v3,v4,v5=>zxi v0 v1 v2 v3 v4 v5 (fun a0=>some (.inl a0)) (fun a0 a1 a2 a3 a4 a5=>OR k a0 a1 a2 a3 a4 a5) (fun a0=>some (.inr a0))
def qt(a:af)(b:aw):Option aQ:=
 SH a b (fun a0=>some a0) (fun a0 a1 a2 a3 a4 a5=>(OR ai a0 a1 a2 a3 a4 a5).bind fun e=>Sum.elim (fun(we:aQ)=>zxj we (fun a0=>some a0)) (fun(we:aQ)=>zxk we (fun a0=>some a0)) e)
def SL{R:Type}(a:aw)(b:ap->Int->Int->aQ->aQ->Option R):Option R:=
 b a.2.1 ((List.length a.2.1):Int) 0 (0,0,()) (0,0,())
def zxp{R:Type}(a:ap)(b c:Int)(d e:aQ)(f:ap->Int->Int->aQ->aQ->Option R)(g:aQ->aQ->Option R):Option R:=
 bif c<b then zd c (List.length a) ((x5 e (List.getD a c.toNat (0,bs [],())).1).bind fun r1=>f a b (zW zI (c+1)) d r1) else g d e
def zxq{R:Type}(a b:aQ)(c:aQ->Option R):Option R:=
 c b
def OT:Nat->ap->Int->Int->aQ->aQ->Option (aQ×aQ)
 |0,_,_,_,_,_=>none
 |k+1,v0,v1,v2,v3,v4=>zxp v0 v1 v2 v3 v4 (fun a0 a1 a2 a3 a4=>OT k a0 a1 a2 a3 a4) (fun a0 a1=>some (a0,a1))
def sB(a:aw):Option aQ:=
 SL a (fun a0 a1 a2 a3 a4=>(OT ai a0 a1 a2 a3 a4).bind fun e=>zxq e.1 e.2 (fun a0=>some a0))
def TE{R:Type}(a:(List Int))(b:Int)(c:(List Int)->Int->Int->Int->Option R):Option R:=
 c a b ((List.length a):Int) 0
def zyu{R:Type}(a:(List Int))(b c d:Int)(e:Int->Option R)(f:(List Int)->Int->Int->Int->Option R)(g:Option R):Option R:=
 bif d<c then zd d (List.length a) (bif b=List.getD a d.toNat 0 then e d else f a b c (zW zI (d+1))) else g
def zyv{R:Type}(a:Int)(b:Int->Option R):Option R:=
 b a
def zyw{R:Type}(a:Int->Option R):Option R:=
 a (-1:Int)
def O6:Nat->(List Int)->Int->Int->Int->Option (Sum Int Unit)
 |0,_,_,_,_=>none
 |k+1,v0,v1,v2,v3=>zyu v0 v1 v2 v3 (fun a0=>some (.inl a0)) (fun a0 a1 a2 a3=>O6 k a0 a1 a2 a3) (some (.inr ()))
def vp(a:(List Int))(b:Int):Option Int:=
 TE a b (fun a0 a1 a2 a3=>(O6 ai a0 a1 a2 a3).bind fun e=>Sum.elim (fun(we:Int)=>zyv we (fun a0=>some a0)) (fun(we:Unit)=>zyw (fun a0=>some a0)) e)
def Tx{R:Type}(a:(List Int))(b:Int)(c:Bool->Option R):Option R:=
 (vp a b).bind fun r1=>c (decide (0<=r1))
def sO(a:(List Int))(b:Int):Option Bool:=
 Tx a b (fun a0=>some a0)
def Te{R:Type}(a:au)(b:Int)(c:Int->Option R):Option R:=
 zd b (List.length a.2.2.1) ((fF a.1 (List.getD a.2.2.1 b.toNat (0:Int))).bind fun r1=>bif !r1.2 then c 9 else bif List.getD a.2.2.1 b.toNat 0=39 then c 1 else bif 0<=b then bif b<=(((List.length a.2.2.1):Nat):Int) then(sO (List.drop 0 (List.take b.toNat a.2.2.1)) (List.getD a.2.2.1 b.toNat (0:Int))).bind fun r2=>bif r2 then c 10 else c 0 else none else none)
def sK(a:au)(b:Int):Option Int:=
 Te a b (fun a0=>some a0)
def Td{R:Type}(a b:bh)(c:Bool->bh->Option R):Option R:=
 c (decide (a.1=b.1)) b
def qx(a b:bh):Option (Bool×bh):=
 Td a b (fun a0 a1=>some (a0,a1))
def TA{R:Type}(a:ap)(b:bh)(c:ap->Int->Int->bh->Option R):Option R:=
 c a ((List.length a):Int) 0 b
def zym{R:Type}(a:ap)(b c:Int)(d:bh)(e:Int->bh->Option R)(f:ap->Int->Int->bh->Option R)(g:bh->Option R):Option R:=
 bif c<b then zd c (List.length a) ((qx (List.getD a c.toNat (0,bs [],())) d).bind fun r1=>bif r1.1 then e c r1.2 else f a b (zW zI (c+1)) r1.2) else g d
def zyn{R:Type}(a:Int)(b:bh)(c:Int->bh->Option R):Option R:=
 c a b
def zyo{R:Type}(a:bh)(b:Int->bh->Option R):Option R:=
 b (-1:Int) a
def O4:Nat->ap->Int->Int->bh->Option (Sum (Int×bh) bh)
 |0,_,_,_,_=>none
 |k+1,v0,v1,v2,v3=>zym v0 v1 v2 v3 (fun a0 a1=>some (.inl (a0,a1))) (fun a0 a1 a2 a3=>O4 k a0 a1 a2 a3) (fun a0=>some (.inr a0))
def vn(a:ap)(b:bh):Option (Int×bh):=
 TA a b (fun a0 a1 a2 a3=>(O4 ai a0 a1 a2 a3).bind fun e=>Sum.elim (fun(we:(Int×bh))=>zyn we.1 we.2 (fun a0 a1=>some (a0,a1))) (fun(we:bh)=>zyo we (fun a0 a1=>some (a0,a1))) e)
def Tw{R:Type}(a:ap)(b:bh)(c:Bool->bh->Option R):Option R:=
 (vn a b).bind fun r1=>c (decide (0<=r1.1)) r1.2
def sN(a:ap)(b:bh):Option (Bool×bh):=
 Tw a b (fun a0 a1=>some (a0,a1))
def Tc{R:Type}(a:au)(b:Int)(c:aS)(d:Int->Option R):Option R:=
 zd b (List.length a.2.2.2.1) (bif(List.getD a.2.2.2.1 b.toNat (0,bs [],())).1<0 then d 1 else bif 16<(List.getD a.2.2.2.1 b.toNat (0,bs [],())).1 then d 1 else bif 0<=b then bif b<=(((List.length a.2.2.2.1):Nat):Int) then(sN (List.drop 0 (List.take b.toNat a.2.2.2.1)) (List.getD a.2.2.2.1 b.toNat (0,bs [],()))).bind fun r1=>bif r1.1 then d 10 else(bW c r1.2.2.1).bind fun r2=>d r2 else none else none)
def sJ(a:au)(b:Int)(c:aS):Option Int:=
 Tc a b c (fun a0=>some a0)
def S5{R:Type}(a:au)(b:Int->Int->Int->Option R)(c:Int->Int->au->aS->Option R):Option R:=
 (my a.1).bind fun r1=>bif !decide (r1.1=0) then b 1 1 0 else(fF a.1 (39:Int)).bind fun r2=>bif !r2.2 then b 9 1 1 else c ((List.length a.2.2.1):Int) 0 a r2.1
def OY{R:Type}(a b:Int)(c:au)(d:aS)(e:Int->Int->Int->au->aS->Option R)(f:Int->Int->au->aS->Option R)(g:au->aS->Option R):Option R:=
 bif b<a then(sK c b).bind fun r3=>bif !decide (r3=0) then e r3 2 b c d else f a (zW zI (b+1)) c d else g c d
def zy0{R:Type}(a b c:Int)(d:au)(e:aS)(f:Int->Int->Int->Option R):Option R:=
 f a b c
def S6{R:Type}(a:au)(b:aS)(c:Bool->ap->Int->Int->au->aS->Option R):Option R:=
 c false a.2.2.2.1 ((List.length a.2.2.2.1):Int) 0 a b
def OZ{R:Type}(a:Bool)(b:ap)(c d:Int)(e:au)(f:aS)(g:Int->Int->Int->Bool->au->Option R)(h:Bool->ap->Int->Int->au->aS->Option R)(i:Bool->au->Option R):Option R:=
 bif d<c then zd d (List.length b) ((sJ e d f).bind fun r4=>bif !decide (r4=0) then g r4 3 d a e else bif a then h true b c (zW zI (d+1)) e f else h (decide ((List.getD b d.toNat (0,bs [],())).1=0)) b c (zW zI (d+1)) e f) else i a e
def zy1{R:Type}(a b c:Int)(d:Bool)(e:au)(f:Int->Int->Int->Option R):Option R:=
 f a b c
def S7{R:Type}(a:Bool)(b:au)(c:Int->Int->Int->Option R):Option R:=
 bif !a then c 15 3 ((List.length b.2.2.2.1):Int) else c 0 0 0
def Eg:Nat->Int->Int->au->aS->Option (Sum (Int×Int×Int×au×aS) (au×aS))
 |0,_,_,_,_=>none
 |k+1,v0,v1,v2,v3=>OY v0 v1 v2 v3 (fun a0 a1 a2 a3 a4=>some (.inl (a0,a1,a2,a3,a4))) (fun a0 a1 a2 a3=>Eg k a0 a1 a2 a3) (fun a0 a1=>some (.inr (a0,a1)))
def Eh:Nat->Bool->ap->Int->Int->au->aS->Option (Sum (Int×Int×Int×Bool×au) (Bool×au))
 |0,_,_,_,_,_,_=>none
 |k+1,v0,v1,v2,v3,v4,v5=>OZ v0 v1 v2 v3 v4 v5 (fun a0 a1 a2 a3 a4=>some (.inl (a0,a1,a2,a3,a4))) (fun a0 a1 a2 a3 a4 a5=>Eh k a0 a1 a2 a3 a4 a5) (fun a0 a1=>some (.inr (a0,a1)))
def sH(a:au):Option je:=
 S5 a (fun a0 a1 a2=>some (a0,a1,a2)) (fun a0 a1 a2 a3=>(Eg ai a0 a1 a2 a3).bind fun e=>Sum.elim (fun(we:(Int×Int×Int×au×aS))=>zy0 we.1 we.2.1 we.2.2.1 we.2.2.2.1 we.2.2.2.2 (fun a0 a1 a2=>some (a0,a1,a2))) (fun(we:(au×aS))=>S6 we.1 we.2 (fun a0 a1 a2 a3 a4 a5=>(Eh ai a0 a1 a2 a3 a4 a5).bind fun e=>Sum.elim (fun(we:(Int×Int×Int×Bool×au))=>zy1 we.1 we.2.1 we.2.2.1 we.2.2.2.1 we.2.2.2.2 (fun a0 a1 a2=>some (a0,a1,a2))) (fun(we:(Bool×au))=>S7 we.1 we.2 (fun a0 a1 a2=>some (a0,a1,a2))) e)) e)
def Ta{R:Type}(a:au)(b:Int)(c:(List Int)->Int->Int->au->Option R):Option R:=
 c ([b,0]:List Int) ((List.length ([b,(0:Int)]:List Int)):Int) 0 a
def O0{R:Type}(a:(List Int))(b c:Int)(d:au)(e:Int->(List Int)->Int->Int->ap->Int->Int->au->Option R)(f:Option R):Option R:=
 bif c<b then zd c (List.length a) (e (List.getD a c.toNat 0) a b c d.2.2.2.1 ((List.length d.2.2.2.1):Int) 0 d) else f
def zy4{R:Type}(a:ByteArray->Option R):Option R:=
 a (bs [])
def zy5{R:Type}(a:Int)(b:(List Int))(c d:Int)(e:ap)(f g:Int)(h:au)(i:ByteArray->(List Int)->Int->Int->au->Option R)(j:Int->(List Int)->Int->Int->ap->Int->Int->au->Option R)(l:(List Int)->Int->Int->au->Option R):Option R:=
 bif g<f then zd g (List.length e) (bif(List.getD e g.toNat (0,bs [],())).1=a then i (List.getD e g.toNat (0,bs [],())).2.1 b c d h else j a b c d e f (zW zI (g+1)) h) else l b c d h
def zy6{R:Type}(a:ByteArray)(b:(List Int))(c d:Int)(e:au)(f:ByteArray->Option R):Option R:=
 f a
def Tb{R:Type}(a:(List Int))(b c:Int)(d:au)(e:(List Int)->Int->Int->au->Option R):Option R:=
 e a b (zW zI (c+1)) d
def zy7{R:Type}(a:ByteArray)(b:ByteArray->Option R):Option R:=
 b a
def z85:Nat->Int->(List Int)->Int->Int->ap->Int->Int->au->Option (Sum (ByteArray×(List Int)×Int×Int×au) ((List Int)×Int×Int×au))
 |0,_,_,_,_,_,_,_,_=>none
 |k+1,v0,v1,v2,v3,v4,v5,v6,v7=>zy5 v0 v1 v2 v3 v4 v5 v6 v7 (fun a0 a1 a2 a3 a4=>some (.inl (a0,a1,a2,a3,a4))) (fun a0 a1 a2 a3 a4 a5 a6 a7=>z85 k a0 a1 a2 a3 a4 a5 a6 a7) (fun a0 a1 a2 a3=>some (.inr (a0,a1,a2,a3)))
def AN:Nat->(List Int)->Int->Int->au->Option (Sum Unit ByteArray)
 |0,_,_,_,_=>none
 |k+1,v0,v1,v2,v3=>O0 v0 v1 v2 v3 (fun a0 a1 a2 a3 a4 a5 a6 a7=>(z85 ai a0 a1 a2 a3 a4 a5 a6 a7).bind fun e=>Sum.elim (fun(we:(ByteArray×(List Int)×Int×Int×au))=>zy6 we.1 we.2.1 we.2.2.1 we.2.2.2.1 we.2.2.2.2 (fun a0=>some (.inr a0))) (fun(we:((List Int)×Int×Int×au))=>Tb we.1 we.2.1 we.2.2.1 we.2.2.2 (fun a0 a1 a2 a3=>AN k a0 a1 a2 a3)) e) (some (.inl ()))
def sI(a:au)(b:Int):Option ByteArray:=
 Ta a b (fun a0 a1 a2 a3=>(AN ai a0 a1 a2 a3).bind fun e=>Sum.elim (fun(we:Unit)=>zy4 (fun a0=>some a0)) (fun(we:ByteArray)=>zy7 we (fun a0=>some a0)) e)
def S0{R:Type}(a:au)(b:aw)(c:aQ)(d:aw->Bool->Option R)(e:(List Int)->Int->Int->au->aw->aQ->aw->aw->Option R):Option R:=
 (sE b.1).bind fun r1=>bif !r1.2 then d (bs [],[],()) false else e a.2.2.1 ((List.length a.2.2.1):Int) 0 a b c (bs [],[],()) (r1.1,[],())
def zxx{R:Type}(a:(List Int))(b c:Int)(d:au)(e:aw)(f:aQ)(g h:aw)(i:(List Int)->Int->Int->au->aw->aQ->aw->aw->Option R)(j:au->aQ->aw->aw->Option R):Option R:=
 bif c<b then zd c (List.length a) ((nK e (List.getD a c.toNat (0:Int))).bind fun r2=>bif r2.2 then(gT h (List.getD a c.toNat 0) r2.1).bind fun r3=>i a b (zW zI (c+1)) d e f g r3 else i a b (zW zI (c+1)) d e f g h) else j d f g h
def S1{R:Type}(a:au)(b:aQ)(c d:aw)(e:aw->Bool->Option R):Option R:=
 (sI a b.1).bind fun r4=>(gT d 39 r4).bind fun r5=>e r5 true
def OX:Nat->(List Int)->Int->Int->au->aw->aQ->aw->aw->Option (au×aQ×aw×aw)
 |0,_,_,_,_,_,_,_,_=>none
 |k+1,v0,v1,v2,v3,v4,v5,v6,v7=>zxx v0 v1 v2 v3 v4 v5 v6 v7 (fun a0 a1 a2 a3 a4 a5 a6 a7=>OX k a0 a1 a2 a3 a4 a5 a6 a7) (fun a0 a1 a2 a3=>some (a0,a1,a2,a3))
def sG(a:au)(b:aw)(c:aQ):Option (aw×Bool):=
 S0 a b c (fun a0 a1=>some (a0,a1)) (fun a0 a1 a2 a3 a4 a5 a6 a7=>(OX ai a0 a1 a2 a3 a4 a5 a6 a7).bind fun e=>S1 e.1 e.2.1 e.2.2.1 e.2.2.2 (fun a0 a1=>some (a0,a1)))
def TL{R:Type}(a:af)(b:ByteArray)(c:ByteArray->Int->Int->Option R):Option R:=
 bif a.1=2 then(Q2 (4:Int)).bind fun r1=>bif(b.size:Int)<r1 then c (bs []) 0 2 else bif 0<=r1 then bif r1<=(b.size:Int) then bif a.1=2 then(Q0 (b.extract 0 r1.toNat) (4:Int)).bind fun r2=>(jc r2.1).bind fun r3=>bif !r3.2 then c (bs []) 0 7 else bif !decide (r3.1=a.2.1) then c (bs []) 0 7 else c r2.1 r1 0 else(jc (b.extract 0 r1.toNat)).bind fun r4=>bif !r4.2 then c (bs []) 0 7 else bif !decide (r4.1=a.2.1) then c (bs []) 0 7 else c (b.extract 0 r1.toNat) r1 0 else none else none else bif(b.size:Int)<4 then c (bs []) 0 2 else bif 4<=(b.size:Int) then bif a.1=2 then(Q0 (b.extract 0 ((4:Int)).toNat) (4:Int)).bind fun r5=>(jc r5.1).bind fun r6=>bif !r6.2 then c (bs []) 0 7 else bif !decide (r6.1=a.2.1) then c (bs []) 0 7 else c r5.1 4 0 else(jc (b.extract 0 ((4:Int)).toNat)).bind fun r7=>bif !r7.2 then c (bs []) 0 7 else bif !decide (r7.1=a.2.1) then c (bs []) 0 7 else c (b.extract 0 ((4:Int)).toNat) 4 0 else none
def sR(a:af)(b:ByteArray):Option Il:=
 TL a b (fun a0 a1 a2=>some (a0,a1,a2))
def TK{R:Type}(a:af)(b:ByteArray)(c:aw->aQ->Option R)(d:ByteArray->Int->Int->af->aw->aQ->aw->aQ->Option R):Option R:=
 (my a).bind fun r1=>bif !decide (r1.1=0) then c (bs [],[],()) (1,(-1:Int),()) else(sR a b).bind fun r2=>bif !decide (r2.2.2=0) then c (bs [],[],()) (r2.2.2,0,()) else(Q5 a.1 b r2.2.1).bind fun r3=>bif !decide (r3.2.2=0) then c (r2.1,[],()) (r3.2.2,1,()) else(EN r3.1 (0:Int)).bind fun r4=>d b r3.2.1 r4 a (bs [],[],()) (0,0,()) (r2.1,[],()) r3.1
def O7{R:Type}(a:ByteArray)(b c:Int)(d:af)(e:aw)(f:aQ)(g:aw)(h:aQ)(i:ByteArray->Int->aw->aQ->aw->Option R)(j:ByteArray->Int->Int->af->aw->aQ->aw->aQ->Option R)(l:ByteArray->Int->aw->aQ->aw->Option R):Option R:=
 bif !decide (c=0) then(fF d c).bind fun r5=>bif !r5.2 then i a b g (9,c,()) g else(Gd d.1 r5.1 a b).bind fun r6=>bif !decide (r6.2.2=0) then i a b g (r6.2.2,c,()) g else bif(List.length g.2.1+List.length ([(c,r6.1,())]:List bh))*24<=140737488355328 then(EN h c).bind fun r7=>j a r6.2.1 r7 d e f (g.1,g.2.1++([(c,r6.1,())]:List bh),()) h else none else l a b e f g
def zyy{R:Type}(a:ByteArray)(b:Int)(c:aw)(d:aQ)(e:aw)(f:aw->aQ->Option R):Option R:=
 f c d
def zyz{R:Type}(a:ByteArray)(b:Int)(c:aw)(d:aQ)(e:aw)(f:aw->aQ->Option R):Option R:=
 bif b<(a.size:Int) then f e (12,129,()) else f e (0,0,())
def Ej:Nat->ByteArray->Int->Int->af->aw->aQ->aw->aQ->Option (Sum qG qG)
 |0,_,_,_,_,_,_,_,_=>none
 |k+1,v0,v1,v2,v3,v4,v5,v6,v7=>O7 v0 v1 v2 v3 v4 v5 v6 v7 (fun a0 a1 a2 a3 a4=>some (.inl (a0,a1,a2,a3,a4))) (fun a0 a1 a2 a3 a4 a5 a6 a7=>Ej k a0 a1 a2 a3 a4 a5 a6 a7) (fun a0 a1 a2 a3 a4=>some (.inr (a0,a1,a2,a3,a4)))
def qz(a:af)(b:ByteArray):Option (aw×aQ):=
 TK a b (fun a0 a1=>some (a0,a1)) (fun a0 a1 a2 a3 a4 a5 a6 a7=>(Ej ai a0 a1 a2 a3 a4 a5 a6 a7).bind fun e=>Sum.elim (fun(we:qG)=>zyy we.1 we.2.1 we.2.2.1 we.2.2.2.1 we.2.2.2.2 (fun a0 a1=>some (a0,a1))) (fun(we:qG)=>zyz we.1 we.2.1 we.2.2.1 we.2.2.2.1 we.2.2.2.2 (fun a0 a1=>some (a0,a1))) e)
def T5{R:Type}(a:Int)(b:ByteArray)(c:ByteArray->Bool->Option R):Option R:=
 (nM b).bind fun r1=>bif !r1 then c (bs []) false else bif a=1 then c b true else bif a=2 then(Q1 b).bind fun r2=>c r2.1 r2.2 else c (bs []) false
def sW(a:Int)(b:ByteArray):Option js:=
 T5 a b (fun a0 a1=>some (a0,a1))
def T4{R:Type}(a b:ByteArray)(c:ByteArray->Option R):Option R:=
 (QI b a).bind fun r1=>c r1.2
def jE(a b:ByteArray):Option ByteArray:=
 T4 a b (fun a0=>some a0)
def T3{R:Type}(a:af)(b:aw)(c:ByteArray->aQ->Option R)(d:ap->Int->Int->af->aQ->ByteArray->Option R):Option R:=
 (qt a b).bind fun r1=>bif !decide (r1.1=0) then c (bs []) r1 else(sW a.1 b.1).bind fun r2=>(jE r2.1 (bs [])).bind fun r3=>(sB b).bind fun r4=>(Q6 a.1 r4).bind fun r5=>(jE r5.1 r3).bind fun r6=>d b.2.1 ((List.length b.2.1):Int) 0 a (0,0,()) r6
def zz4{R:Type}(a:ap)(b c:Int)(d:af)(e:aQ)(f:ByteArray)(g:ap->Int->Int->af->aQ->ByteArray->Option R)(h:aQ->ByteArray->Option R):Option R:=
 bif c<b then zd c (List.length a) ((fF d (List.getD a c.toNat (0,bs [],())).1).bind fun r7=>(A5 d.1 r7.1 (List.getD a c.toNat (0,bs [],())).2.1).bind fun r8=>(jE r8.1 f).bind fun r9=>g a b (zW zI (c+1)) d e r9) else h e f
def zz5{R:Type}(a:aQ)(b:ByteArray)(c:ByteArray->aQ->Option R):Option R:=
 (z4y b).bind fun kl=>c kl.1 (0,0,())
def O8:Nat->ap->Int->Int->af->aQ->ByteArray->Option (aQ×ByteArray)
 |0,_,_,_,_,_,_=>none
 |k+1,v0,v1,v2,v3,v4,v5=>zz4 v0 v1 v2 v3 v4 v5 (fun a0 a1 a2 a3 a4 a5=>O8 k a0 a1 a2 a3 a4 a5) (fun a0 a1=>some (a0,a1))
def nQ(a:af)(b:aw):Option (ByteArray×aQ):=
 T3 a b (fun a0 a1=>some (a0,a1)) (fun a0 a1 a2 a3 a4 a5=>(O8 ai a0 a1 a2 a3 a4 a5).bind fun e=>zz5 e.1 e.2 (fun a0 a1=>some (a0,a1)))
def Tm{R:Type}(a:aE)(b c:af)(d:aS->aS->Int->Option R):Option R:=
 (fF b a.2.1).bind fun r1=>(fF c a.2.2.1).bind fun r2=>bif a.1=3 then bif a.1=2 then bif !decide (a.2.1=0) then d r1.1 r2.1 9 else bif !decide (a.2.2.1=0) then d r1.1 r2.1 9 else d r1.1 r2.1 0 else bif !decide (a.2.1=0) then d r1.1 r2.1 9 else bif !r2.2 then d r1.1 r2.1 9 else d r1.1 r2.1 0 else bif a.1=2 then bif !r1.2 then d r1.1 r2.1 9 else bif !decide (a.2.2.1=0) then d r1.1 r2.1 9 else d r1.1 r2.1 0 else bif !r1.2 then d r1.1 r2.1 9 else bif !r2.2 then d r1.1 r2.1 9 else d r1.1 r2.1 0
def sM(a:aE)(b c:af):Option (aS×aS×Int):=
 Tm a b c (fun a0 a1 a2=>some (a0,a1,a2))
def Tn{R:Type}(a:aS)(b:Bool->Option R):Option R:=
 bif a.2.1=1 then b (decide (a.2.2.1=1)) else b false
def jd(a:aS):Option Bool:=
 Tn a (fun a0=>some a0)
def Tq{R:Type}(a:aN)(b c:aS)(d:Int->Option R)(e:aN->Int->Int->aS->aS->Option R):Option R:=
 (Gr a).bind fun r1=>bif !decide (r1.1=0) then d 15 else bif((List.length a):Int)=0 then d 15 else e a ((List.length a):Int) 0 b c
def zyc{R:Type}(a:aN)(b c:Int)(d e:aS)(f:Int->Option R)(g:aN->Int->Int->aS->aS->Option R)(h:Option R):Option R:=
 bif c<b then zd c (List.length a) ((bW d (List.getD a c.toNat (bs [],bs [],())).1).bind fun r2=>bif !decide (r2=0) then f r2 else(bW e (List.getD a c.toNat (bs [],bs [],())).2.1).bind fun r3=>bif !decide (r3=0) then f r3 else g a b (zW zI (c+1)) d e) else h
def zyd{R:Type}(a:Int)(b:Int->Option R):Option R:=
 b a
def zye{R:Type}(a:Int->Option R):Option R:=
 a 0
def O1:Nat->aN->Int->Int->aS->aS->Option (Sum Int Unit)
 |0,_,_,_,_,_=>none
 |k+1,v0,v1,v2,v3,v4=>zyc v0 v1 v2 v3 v4 (fun a0=>some (.inl a0)) (fun a0 a1 a2 a3 a4=>O1 k a0 a1 a2 a3 a4) (some (.inr ()))
def mw(a:aN)(b c:aS):Option Int:=
 Tq a b c (fun a0=>some a0) (fun a0 a1 a2 a3 a4=>(O1 ai a0 a1 a2 a3 a4).bind fun e=>Sum.elim (fun(we:Int)=>zyd we (fun a0=>some a0)) (fun(we:Unit)=>zye (fun a0=>some a0)) e)
def Tl{R:Type}(a:aE)(b c:af)(d:Int->Option R):Option R:=
 bif a.1<1 then d 1 else bif 5<a.1 then d 1 else(sM a b c).bind fun r1=>bif !decide (r1.2.2=0) then d r1.2.2 else bif !decide (a.2.2.2.1=bs []) then bif !decide (a.1=3) then d 3 else bif 0<((List.length a.2.2.2.2.1):Int) then bif !decide (a.1=5) then d 3 else bif a.1=1 then(lA r1.2.1 r1.1).bind fun r2=>bif !r2 then d 6 else d 0 else bif a.1=3 then(bW r1.2.1 a.2.2.2.1).bind fun r3=>d r3 else bif a.1=4 then(jd r1.1).bind fun r4=>bif !r4 then d 6 else(jd r1.2.1).bind fun r5=>bif !r5 then d 6 else d 0 else bif a.1=5 then(mw a.2.2.2.2.1 r1.1 r1.2.1).bind fun r6=>d r6 else d 0 else bif a.1=1 then(lA r1.2.1 r1.1).bind fun r7=>bif !r7 then d 6 else d 0 else bif a.1=3 then(bW r1.2.1 a.2.2.2.1).bind fun r8=>d r8 else bif a.1=4 then(jd r1.1).bind fun r9=>bif !r9 then d 6 else(jd r1.2.1).bind fun kl=>bif !kl then d 6 else d 0 else bif a.1=5 then(mw a.2.2.2.2.1 r1.1 r1.2.1).bind fun kE=>d kE else d 0 else bif 0<((List.length a.2.2.2.2.1):Int) then bif !decide (a.1=5) then d 3 else bif a.1=1 then(lA r1.2.1 r1.1).bind fun nf=>bif !nf then d 6 else d 0 else bif a.1=3 then(bW r1.2.1 a.2.2.2.1).bind fun lX=>d lX else bif a.1=4 then(jd r1.1).bind fun nw=>bif !nw then d 6 else(jd r1.2.1).bind fun rM=>bif !rM then d 6 else d 0 else bif a.1=5 then(mw a.2.2.2.2.1 r1.1 r1.2.1).bind fun xh=>d xh else d 0 else bif a.1=1 then(lA r1.2.1 r1.1).bind fun Ci=>bif !Ci then d 6 else d 0 else bif a.1=3 then(bW r1.2.1 a.2.2.2.1).bind fun Cj=>d Cj else bif a.1=4 then(jd r1.1).bind fun ue=>bif !ue then d 6 else(jd r1.2.1).bind fun Ck=>bif !Ck then d 6 else d 0 else bif a.1=5 then(mw a.2.2.2.2.1 r1.1 r1.2.1).bind fun xi=>d xi else d 0
def nO(a:aE)(b c:af):Option Int:=
 Tl a b c (fun a0=>some a0)
def Tk{R:Type}(a:aE)(b:af)(c:ByteArray)(d:bh->Int->Option R):Option R:=
 bif a.1=1 then d (a.2.2.1,c,()) 0 else bif a.1=2 then d (0,bs [],()) 0 else bif a.1=3 then d (a.2.2.1,a.2.2.2.1,()) 0 else bif a.1=4 then(fF b a.2.2.1).bind fun r1=>bif !r1.2 then d (0,bs [],()) 9 else(Gs c r1.1.2.2.2.1).bind fun r2=>bif !r2.2 then d (0,bs [],()) 5 else d (a.2.2.1,r2.1,()) 0 else bif a.1=5 then(Gq a.2.2.2.2.1 c).bind fun r3=>bif !r3.2 then d (0,bs [],()) 15 else d (a.2.2.1,r3.1,()) 0 else d (0,bs [],()) 1
def nN(a:aE)(b:af)(c:ByteArray):Option (bh×Int):=
 Tk a b c (fun a0 a1=>some (a0,a1))
def Ul{R:Type}(a:dx)(b c:af)(d:Bool->Option R):Option R:=
 (jc a.1).bind fun r1=>(jc a.2.1).bind fun r2=>bif r1.2 then bif r2.2 then bif r1.1=b.2.1 then bif r2.1=c.2.1 then(nL a.1).bind fun r3=>(nL a.2.1).bind fun r4=>d (r3==r4) else d false else d false else d false else d false
def nT(a:dx)(b c:af):Option Bool:=
 Ul a b c (fun a0=>some a0)
def T9{R:Type}(a:ay)(b c:af)(d:nW->Int->Int->ay->af->af->Option R):Option R:=
 d ([b,c]:List af) ((List.length ([b,c]:List af)):Int) 0 a b c
def Ua{R:Type}(a:nW)(b c:Int)(d:ay)(e f:af)(g:Int->Int->Int->ay->af->af->Option R)(h:nW->Int->Int->ay->af->af->Option R)(i:ay->af->af->Option R):Option R:=
 bif c<b then zd c (List.length a) ((my (List.getD a c.toNat (0,0,[],()))).bind fun r1=>bif !decide (r1.1=0) then g 1 1 c d e f else h a b (zW zI (c+1)) d e f) else i d e f
def zz9{R:Type}(a b c:Int)(d:ay)(e f:af)(g:Int->Int->Int->Option R):Option R:=
 g a b c
def Ub{R:Type}(a:ay)(b c:af)(d:Int->Int->Int->Option R)(e:aN->Int->Int->ay->af->af->gV->Option R):Option R:=
 bif 256<((List.length a.1):Int) then d 5 2 256 else e a.1 ((List.length a.1):Int) 0 a b c []
def zza{R:Type}(a:aN)(b c:Int)(d:ay)(e f:af)(g:gV)(h:Int->Int->Int->ay->af->af->Option R)(i:aN->Int->Int->ay->af->af->gV->Option R)(j:ay->af->af->Option R):Option R:=
 bif c<b then zd c (List.length a) ((nT (List.getD a c.toNat (bs [],bs [],())) e f).bind fun r2=>bif !r2 then h (7:Int) (2:Int) c d e f else bif eV (fO .str) false g (List.getD a c.toNat (bs [],bs [],())).1 then h (10:Int) (2:Int) c d e f else bif eW (fO .str) g (List.getD a c.toNat (bs [],bs [],())).1 then none else i a b (zW zI (c+(1:Int))) d e f (g++ [((List.getD a c.toNat (bs [],bs [],())).1,true)])) else j d e f
def zzb{R:Type}(a b c:Int)(d:ay)(e f:af)(g:Int->Int->Int->Option R):Option R:=
 g a b c
def Uc{R:Type}(a:ay)(b c:af)(d:Int->Int->Int->Option R)(e:bQ->Int->Int->af->af->aQ->aQ->Option R):Option R:=
 bif 256<((List.length a.2.1):Int) then d 5 3 256 else e a.2.1 ((List.length a.2.1):Int) 0 b c (0,0,()) (0,0,())
def zzc{R:Type}(a:bQ)(b c:Int)(d e:af)(f g:aQ)(h:Int->Int->Int->Option R)(i:bQ->Int->Int->af->af->aQ->aQ->Option R)(j:Option R):Option R:=
 bif c<b then zd c (List.length a) ((nO (List.getD a c.toNat (0,0,0,bs [],[],())) d e).bind fun r3=>bif !decide (r3=0) then h r3 3 c else(uG ([(List.getD a c.toNat (0,0,0,bs [],[],())).2.1]:List Int)).bind fun r4=>(uG ([(List.getD a c.toNat (0,0,0,bs [],[],())).2.2.1]:List Int)).bind fun r5=>(rE f r4).bind fun r6=>bif !(decide (r6.1=0)&&(decide (r6.2.1=0)&&true)) then h 10 3 c else(rE g r5).bind fun r7=>bif !(decide (r7.1=0)&&(decide (r7.2.1=0)&&true)) then h 10 3 c else(sY f r4).bind fun r8=>(sY g r5).bind fun r9=>i a b (zW zI (c+1)) d e r8 r9) else j
def zzd{R:Type}(a b c:Int)(d:Int->Int->Int->Option R):Option R:=
 d a b c
def zze{R:Type}(a:Int->Int->Int->Option R):Option R:=
 a 0 0 0
def FI:Nat->nW->Int->Int->ay->af->af->Option (Sum lG lF)
 |0,_,_,_,_,_,_=>none
 |k+1,v0,v1,v2,v3,v4,v5=>Ua v0 v1 v2 v3 v4 v5 (fun a0 a1 a2 a3 a4 a5=>some (.inl (a0,a1,a2,a3,a4,a5))) (fun a0 a1 a2 a3 a4 a5=>FI k a0 a1 a2 a3 a4 a5) (fun a0 a1 a2=>some (.inr (a0,a1,a2)))
def FJ:Nat->aN->Int->Int->ay->af->af->gV->Option (Sum lG lF)
 |0,_,_,_,_,_,_,_=>none
 |k+1,v0,v1,v2,v3,v4,v5,v6=>zza v0 v1 v2 v3 v4 v5 v6 (fun a0 a1 a2 a3 a4 a5=>some (.inl (a0,a1,a2,a3,a4,a5))) (fun a0 a1 a2 a3 a4 a5 a6=>FJ k a0 a1 a2 a3 a4 a5 a6) (fun a0 a1 a2=>some (.inr (a0,a1,a2)))
def O9:Nat->bQ->Int->Int->af->af->aQ->aQ->Option (Sum je Unit)
 |0,_,_,_,_,_,_,_=>none
 |k+1,v0,v1,v2,v3,v4,v5,v6=>zzc v0 v1 v2 v3 v4 v5 v6 (fun a0 a1 a2=>some (.inl (a0,a1,a2))) (fun a0 a1 a2 a3 a4 a5 a6=>O9 k a0 a1 a2 a3 a4 a5 a6) (some (.inr ()))
def qA(a:ay)(b c:af):Option je:=
 T9 a b c (fun a0 a1 a2 a3 a4 a5=>(FI ai a0 a1 a2 a3 a4 a5).bind fun e=>Sum.elim (fun(we:lG)=>zz9 we.1 we.2.1 we.2.2.1 we.2.2.2.1 we.2.2.2.2.1 we.2.2.2.2.2 (fun a0 a1 a2=>some (a0,a1,a2))) (fun(we:lF)=>Ub we.1 we.2.1 we.2.2 (fun a0 a1 a2=>some (a0,a1,a2)) (fun a0 a1 a2 a3 a4 a5 a6=>(FJ ai a0 a1 a2 a3 a4 a5 a6).bind fun e=>Sum.elim (fun(we:lG)=>zzb we.1 we.2.1 we.2.2.1 we.2.2.2.1 we.2.2.2.2.1 we.2.2.2.2.2 (fun a0 a1 a2=>some (a0,a1,a2))) (fun(we:lF)=>Uc we.1 we.2.1 we.2.2 (fun a0 a1 a2=>some (a0,a1,a2)) (fun a0 a1 a2 a3 a4 a5 a6=>(O9 ai a0 a1 a2 a3 a4 a5 a6).bind fun e=>Sum.elim (fun(we:je)=>zzd we.1 we.2.1 we.2.2 (fun a0 a1 a2=>some (a0,a1,a2))) (fun(we:Unit)=>zze (fun a0 a1 a2=>some (a0,a1,a2))) e)) e)) e)
def Uk{R:Type}(a:ay)(b:ByteArray)(c:ByteArray->aN->Int->Int->Option R):Option R:=
 c b a.1 ((List.length a.1):Int) 0
def zzp{R:Type}(a:ByteArray)(b:aN)(c d:Int)(e:ByteArray->Bool->Option R)(f:ByteArray->aN->Int->Int->Option R)(g:Option R):Option R:=
 bif d<c then zd d (List.length b) (bif(List.getD b d.toNat (bs [],bs [],())).1=a then e (List.getD b d.toNat (bs [],bs [],())).2.1 true else f a b c (zW zI (d+1))) else g
def zzq{R:Type}(a:ByteArray)(b:Bool)(c:ByteArray->Bool->Option R):Option R:=
 c a b
def zzr{R:Type}(a:ByteArray->Bool->Option R):Option R:=
 a (bs []) false
def Pd:Nat->ByteArray->aN->Int->Int->Option (Sum js Unit)
 |0,_,_,_,_=>none
 |k+1,v0,v1,v2,v3=>zzp v0 v1 v2 v3 (fun a0 a1=>some (.inl (a0,a1))) (fun a0 a1 a2 a3=>Pd k a0 a1 a2 a3) (some (.inr ()))
def sX(a:ay)(b:ByteArray):Option js:=
 Uk a b (fun a0 a1 a2 a3=>(Pd ai a0 a1 a2 a3).bind fun e=>Sum.elim (fun(we:js)=>zzq we.1 we.2 (fun a0 a1=>some (a0,a1))) (fun(we:Unit)=>zzr (fun a0 a1=>some (a0,a1))) e)
def Ui{R:Type}(a:ay)(b:Int)(c:Int->bQ->Int->Int->aE->Option R):Option R:=
 c b a.2.1 ((List.length a.2.1):Int) 0 (0,0,0,bs [],[],())
def zzl{R:Type}(a:Int)(b:bQ)(c d:Int)(e:aE)(f:Bool->aE->Option R)(g:Int->bQ->Int->Int->aE->Option R)(h:aE->Option R):Option R:=
 bif d<c then zd d (List.length b) (bif(List.getD b d.toNat (0,0,0,bs [],[],())).2.1=a then f true (List.getD b d.toNat (0,0,0,bs [],[],())) else g a b c (zW zI (d+1)) e) else h e
def zzm{R:Type}(a:Bool)(b:aE)(c:aE->Bool->Option R):Option R:=
 c b a
def zzn{R:Type}(a:aE)(b:aE->Bool->Option R):Option R:=
 b (0,0,0,bs [],[],()) false
def Pc:Nat->Int->bQ->Int->Int->aE->Option (Sum (Bool×aE) aE)
 |0,_,_,_,_,_=>none
 |k+1,v0,v1,v2,v3,v4=>zzl v0 v1 v2 v3 v4 (fun a0 a1=>some (.inl (a0,a1))) (fun a0 a1 a2 a3 a4=>Pc k a0 a1 a2 a3 a4) (fun a0=>some (.inr a0))
def nR(a:ay)(b:Int):Option (aE×Bool):=
 Ui a b (fun a0 a1 a2 a3 a4=>(Pc ai a0 a1 a2 a3 a4).bind fun e=>Sum.elim (fun(we:(Bool×aE))=>zzm we.1 we.2 (fun a0 a1=>some (a0,a1))) (fun(we:aE)=>zzn we (fun a0 a1=>some (a0,a1))) e)
def Uf{R:Type}(a:ay)(b c:af)(d:aw)(e:aw->aQ->Option R)(f:bQ->Int->Int->ay->af->aw->aw->aQ->aw->Option R):Option R:=
 (qA a b c).bind fun r1=>bif !decide (r1.1=0) then e (bs [],[],()) (1,(-1:Int),()) else(qt b d).bind fun r2=>bif !decide (r2.1=0) then e (bs [],[],()) r2 else(sX a d.1).bind fun r3=>bif !r3.2 then e (bs [],[],()) (7,0,()) else f a.2.1 ((List.length a.2.1):Int) 0 a c d (bs [],[],()) (0,0,()) (r3.1,[],())
def zzg{R:Type}(a:bQ)(b c:Int)(d:ay)(e:af)(f g:aw)(h:aQ)(i:aw)(j:bQ->Int->Int->ay->af->aw->aw->aQ->aw->Option R)(l:ay->af->aw->aw->aQ->aw->Option R):Option R:=
 bif c<b then zd c (List.length a) (bif(List.getD a c.toNat (0,0,0,bs [],[],())).1=3 then(gT i (List.getD a c.toNat (0,0,0,bs [],[],())).2.2.1 (List.getD a c.toNat (0,0,0,bs [],[],())).2.2.2.1).bind fun r4=>j a b (zW zI (c+1)) d e f g h r4 else j a b (zW zI (c+1)) d e f g h i) else l d e f g h i
def Ug{R:Type}(a:ay)(b:af)(c d:aw)(e:aQ)(f:aw)(g:ap->Int->Int->ay->af->aw->aQ->aw->Option R):Option R:=
 g c.2.1 ((List.length c.2.1):Int) 0 a b d e f
def zzh{R:Type}(a:ap)(b c:Int)(d:ay)(e:af)(f:aw)(g:aQ)(h:aw)(i:aw->aQ->aw->Option R)(j:ap->Int->Int->ay->af->aw->aQ->aw->Option R)(l:aw->aQ->aw->Option R):Option R:=
 bif c<b then zd c (List.length a) ((nR d (List.getD a c.toNat (0,bs [],())).1).bind fun r5=>bif !r5.2 then i (bs [],[],()) (9,(List.getD a c.toNat (0,bs [],())).1,()) h else(nN r5.1 e (List.getD a c.toNat (0,bs [],())).2.1).bind fun r6=>bif !decide (r6.2=0) then i (bs [],[],()) (r6.2,(List.getD a c.toNat (0,bs [],())).1,()) h else bif !decide (r6.1.1=0) then(gT h r6.1.1 r6.1.2.1).bind fun r7=>j a b (zW zI (c+1)) d e f g r7 else j a b (zW zI (c+1)) d e f g h) else l f g h
def zzi{R:Type}(a:aw)(b:aQ)(c:aw)(d:aw->aQ->Option R):Option R:=
 d a b
def zzj{R:Type}(a:aw)(b:aQ)(c:aw)(d:aw->aQ->Option R):Option R:=
 d c (0,0,())
def Pa:Nat->bQ->Int->Int->ay->af->aw->aw->aQ->aw->Option (ay×af×aw×aw×aQ×aw)
 |0,_,_,_,_,_,_,_,_,_=>none
 |k+1,v0,v1,v2,v3,v4,v5,v6,v7,v8=>zzg v0 v1 v2 v3 v4 v5 v6 v7 v8 (fun a0 a1 a2 a3 a4 a5 a6 a7 a8=>Pa k a0 a1 a2 a3 a4 a5 a6 a7 a8) (fun a0 a1 a2 a3 a4 a5=>some (a0,a1,a2,a3,a4,a5))
def Pb:Nat->ap->Int->Int->ay->af->aw->aQ->aw->Option (Sum qF qF)
 |0,_,_,_,_,_,_,_,_=>none
 |k+1,v0,v1,v2,v3,v4,v5,v6,v7=>zzh v0 v1 v2 v3 v4 v5 v6 v7 (fun a0 a1 a2=>some (.inl (a0,a1,a2))) (fun a0 a1 a2 a3 a4 a5 a6 a7=>Pb k a0 a1 a2 a3 a4 a5 a6 a7) (fun a0 a1 a2=>some (.inr (a0,a1,a2)))
def qB(a:ay)(b c:af)(d:aw):Option (aw×aQ):=
 Uf a b c d (fun a0 a1=>some (a0,a1)) (fun a0 a1 a2 a3 a4 a5 a6 a7 a8=>(Pa ai a0 a1 a2 a3 a4 a5 a6 a7 a8).bind fun e=>Ug e.1 e.2.1 e.2.2.1 e.2.2.2.1 e.2.2.2.2.1 e.2.2.2.2.2 (fun a0 a1 a2 a3 a4 a5 a6 a7=>(Pb ai a0 a1 a2 a3 a4 a5 a6 a7).bind fun e=>Sum.elim (fun(we:qF)=>zzi we.1 we.2.1 we.2.2 (fun a0 a1=>some (a0,a1))) (fun(we:qF)=>zzj we.1 we.2.1 we.2.2 (fun a0 a1=>some (a0,a1))) e))
def Th{R:Type}(a:al)(b:Int->Int->Int->Option R)(c:mG->Int->al->Option R):Option R:=
 bif a.2.1<1 then b 5 2 0 else bif 65535<a.2.1 then b 5 2 0 else c a.1 0 a
def FE{R:Type}(a:mG)(b:Int)(c:al)(d:Int->Int->Int->Option R)(e:mG->Int->al->Option R)(f:Option R):Option R:=
 bif b<2 then zd b 2 ((sH (List.getD a b.toNat ((0,0,[],()),([],[],()),[],[],()))).bind fun r1=>bif !decide (r1.1=0) then d r1.1 b 1 else zd (zW zI (1-b)) 2 ((qA (List.getD a b.toNat ((0,0,[],()),([],[],()),[],[],())).2.1 (List.getD a b.toNat ((0,0,[],()),([],[],()),[],[],())).1 (List.getD c.1 (zW zI (1-b)).toNat ((0,0,[],()),([],[],()),[],[],())).1).bind fun r2=>bif !decide (r2.1=0) then d r2.1 b 2 else e a (zW zI (b+1)) c)) else f
def zy9{R:Type}(a b c:Int)(d:Int->Int->Int->Option R):Option R:=
 d a b c
def zya{R:Type}(a:Int->Int->Int->Option R):Option R:=
 a 0 0 0
def Ei:Nat->mG->Int->al->Option (Sum je Unit)
 |0,_,_,_=>none
 |k+1,v0,v1,v2=>FE v0 v1 v2 (fun a0 a1 a2=>some (.inl (a0,a1,a2))) (fun a0 a1 a2=>Ei k a0 a1 a2) (some (.inr ()))
def qy(a:al):Option je:=
 Th a (fun a0 a1 a2=>some (a0,a1,a2)) (fun a0 a1 a2=>(Ei ai a0 a1 a2).bind fun e=>Sum.elim (fun(we:je)=>zy9 we.1 we.2.1 we.2.2 (fun a0 a1 a2=>some (a0,a1,a2))) (fun(we:Unit)=>zya (fun a0 a1 a2=>some (a0,a1,a2))) e)
def Tj{R:Type}(a:aw)(b:aQ)(c:au)(d:al)(e:Int->ByteArray->Option R):Option R:=
 (sG c a b).bind fun r1=>bif !r1.2 then e 3 (bs []) else(nQ c.1 r1.1).bind fun r2=>bif r2.1=bs [] then e 3 (bs []) else bif d.2.1<(r2.1.size:Int) then e 3 (bs []) else e 2 r2.1
def kr(a:aw)(b:aQ)(c:au)(d:al):Option Zt3:=
 Tj a b c d (fun a0 a1=>some (a0,a1))
def Ti{R:Type}(a:al)(b:Int)(c:ByteArray)(d:Int->ByteArray->Option R):Option R:=
 (qy a).bind fun r1=>bif !decide (r1.1=0) then d 0 (bs []) else bif b<0 then d 0 (bs []) else bif 1<b then d 0 (bs []) else zd b 2 (zd (zW zI (1-b)) 2 ((qz (List.getD a.1 b.toNat ((0,0,[],()),([],[],()),[],[],())).1 c).bind fun r2=>bif !decide (r2.2.1=0) then(kr r2.1 r2.2 (List.getD a.1 b.toNat ((0,0,[],()),([],[],()),[],[],())) a).bind fun r3=>d r3.1 r3.2 else(qB (List.getD a.1 b.toNat ((0,0,[],()),([],[],()),[],[],())).2.1 (List.getD a.1 b.toNat ((0,0,[],()),([],[],()),[],[],())).1 (List.getD a.1 (zW zI (1-b)).toNat ((0,0,[],()),([],[],()),[],[],())).1 r2.1).bind fun r4=>bif !decide (r4.2.1=0) then(kr r2.1 r4.2 (List.getD a.1 b.toNat ((0,0,[],()),([],[],()),[],[],())) a).bind fun r5=>d r5.1 r5.2 else(nQ (List.getD a.1 (zW zI (1-b)).toNat ((0,0,[],()),([],[],()),[],[],())).1 r4.1).bind fun r6=>bif a.2.1<(r6.1.size:Int) then(kr r2.1 (5,129,()) (List.getD a.1 b.toNat ((0,0,[],()),([],[],()),[],[],())) a).bind fun r7=>d r7.1 r7.2 else d 1 r6.1))
def sL(a:al)(b:Int)(c:ByteArray):Option Zt3:=
 Ti a b c (fun a0 a1=>some (a0,a1))
def V1{R:Type}(a:au)(b:bQ->bQ->Int->Int->au->au->Option R):Option R:=
 bif List.length a.1.2.2.1*40<=140737488355328 then bif List.length a.2.1.1*32<=140737488355328 then bif 0<=((List.length a.2.1.2.1):Int) then bif((List.length a.2.1.2.1):Int)*64<=140737488355328 then b [] a.2.1.2.1 ((List.length a.2.1.2.1):Int) 0 ((a.1.1,a.1.2.1,a.1.2.2.1,()),(a.2.1.1,a.2.1.2.1,()),a.2.2.1,a.2.2.2.1,()) ((0,0,[],()),([],[],()),[],[],()) else none else none else none else none
def C1{R:Type}(a b:bQ)(c d:Int)(e f:au)(g:bQ->bQ->Int->Int->au->au->Option R)(h:bQ->au->au->Option R):Option R:=
 bif d<c then zd d (List.length b) (bif List.length (List.getD b d.toNat ((0:Int),(0:Int),(0:Int),bs [],([]:List dx),())).2.2.2.2.1*32<=140737488355328 then bif(List.length a+List.length ([((List.getD b d.toNat ((0:Int),(0:Int),(0:Int),bs [],([]:List dx),())).1,(List.getD b d.toNat ((0:Int),(0:Int),(0:Int),bs [],([]:List dx),())).2.1,(List.getD b d.toNat ((0:Int),(0:Int),(0:Int),bs [],([]:List dx),())).2.2.1,(List.getD b d.toNat ((0:Int),(0:Int),(0:Int),bs [],([]:List dx),())).2.2.2.1,(List.getD b d.toNat ((0:Int),(0:Int),(0:Int),bs [],([]:List dx),())).2.2.2.2.1,())]:List aE))*64<=140737488355328 then g (a++([((List.getD b d.toNat (0,0,0,bs [],[],())).1,(List.getD b d.toNat (0,0,0,bs [],[],())).2.1,(List.getD b d.toNat (0,0,0,bs [],[],())).2.2.1,(List.getD b d.toNat (0,0,0,bs [],[],())).2.2.2.1,(List.getD b d.toNat (0,0,0,bs [],[],())).2.2.2.2.1,())]:List aE)) b c (zW zI (d+1)) e f else none else none) else h a e f
def V2{R:Type}(a:bQ)(b c:au)(d:au->Option R):Option R:=
 bif List.length b.2.2.1*8<=140737488355328 then bif List.length b.2.2.2.1*24<=140737488355328 then d (b.1,(b.2.1.1,a,()),b.2.2.1,b.2.2.2.1,()) else none else none
def PC:Nat->bQ->bQ->Int->Int->au->au->Option (bQ×au×au)
 |0,_,_,_,_,_,_=>none
 |k+1,v0,v1,v2,v3,v4,v5=>C1 v0 v1 v2 v3 v4 v5 (fun a0 a1 a2 a3 a4 a5=>PC k a0 a1 a2 a3 a4 a5) (fun a0 a1 a2=>some (a0,a1,a2))
def GZ(a:au):Option au:=
 V1 a (fun a0 a1 a2 a3 a4 a5=>(PC ai a0 a1 a2 a3 a4 a5).bind fun e=>V2 e.1 e.2.1 e.2.2 (fun a0=>some a0))
def VY{R:Type}(a:al)(b:Int->Option R)(c:Int->al->(al×(Option ag×Option ag)×Int)->Option R):Option R:=
 (qy a).bind fun r1=>bif !decide (r1.1=0) then b 1 else c 0 a (a,((none,none),0))
def FV{R:Type}(a:Int)(b:al)(c:(al×(Option ag×Option ag)×Int))(d:Int->al->(al×(Option ag×Option ag)×Int)->Option R)(e:(al×(Option ag×Option ag)×Int)->Option R):Option R:=
 bif a<2 then zd a 2 ((GZ (List.getD b.1 a.toNat ((0,0,[],()),([],[],()),[],[],()))).bind fun r2=>zd a 2 ((GM b.2.1).bind fun r3=>Sum.elim (fun(rO:Int)=>zd a 2 (d (zW zI (a+1)) b ((List.set c.1.1 a.toNat r2,c.1.2.1,()),(fB a.toNat none c.2.1,c.2.2)))) (fun(rO:s7)=>zd a 2 (d (zW zI (a+1)) b ((List.set c.1.1 a.toNat r2,c.1.2.1,()),(fB a.toNat (some rO.2) c.2.1,c.2.2)))) r3)) else e c
def CZ{R:Type}(a:(al×(Option ag×Option ag)×Int))(b:Int->(al×(Option ag×Option ag)×Int)->Option R):Option R:=
 b 0 a
def EC:Nat->Int->al->(al×(Option ag×Option ag)×Int)->Option (al×(Option ag×Option ag)×Int)
 |0,_,_,_=>none
 |k+1,v0,v1,v2=>FV v0 v1 v2 (fun a0 a1 a2=>EC k a0 a1 a2) (fun a0=>some a0)
def x8(a:al):Option (Sum Int (Int×(al×(Option ag×Option ag)×Int))):=
 VY a (fun a0=>some (.inl a0)) (fun a0 a1 a2=>(EC ai a0 a1 a2).bind fun e=>CZ e (fun a0 a1=>some (.inr (a0,a1))))
def VZ{R:Type}(a:Int)(b:Bool->Option R):Option R:=
 bif a=0 then b true else b (decide (a=1))
def Bd(a:Int):Option Bool:=
 VZ a (fun a0=>some a0)
def VW{R:Type}(a:(al×(Option ag×Option ag)×Int))(b:Int)(c:ByteArray)(d:lE->(al×(Option ag×Option ag)×Int)->Option R):Option R:=
 (sL a.1 b c).bind fun r1=>bif r1.1=3 then d (b,r1.1,bs [],zW zI (a.2.2+1),()) (a.1,(a.2.1,zW zI (a.2.2+1))) else bif r1.1=1 then(Bb r1.2).bind fun r2=>d (zW zI (1-b),r1.1,r2.1,a.2.2,()) a else(Bb r1.2).bind fun r3=>d (b,r1.1,r3.1,a.2.2,()) a
def EP(a:(al×(Option ag×Option ag)×Int))(b:Int)(c:ByteArray):Option (lE×(al×(Option ag×Option ag)×Int)):=
 VW a b c (fun a0 a1=>some (a0,a1))
def PA{R:Type}(a:(al×(Option ag×Option ag)×Int))(b:bh)(c:cp->(al×(Option ag×Option ag)×Int)->Option R)(d:cp->Bool->(List ByteArray)->Int->Int->(al×(Option ag×Option ag)×Int)->bh->Option R):Option R:=
 (Bd b.1).bind fun r1=>bif !r1 then c [] a else zd b.1 2 ((getM b.1.toNat a.2.1).bind fun m2=>(Ba m2 b.2.1).bind fun r3=>d [] r3.2.1 r3.1 ((List.length r3.1):Int) 0 (a.1,(fB b.1.toNat (some r3.2.2) a.2.1,a.2.2)) b)
def CV{R:Type}(a:cp)(b:Bool)(c:(List ByteArray))(d e:Int)(f:(al×(Option ag×Option ag)×Int))(g:bh)(h:cp->Bool->(List ByteArray)->Int->Int->(al×(Option ag×Option ag)×Int)->bh->Option R)(i:cp->Bool->(al×(Option ag×Option ag)×Int)->bh->Option R):Option R:=
 bif e<d then zd e (List.length c) ((EP f g.1 (List.getD c e.toNat (bs []))).bind fun r4=>bif(List.length a+List.length ([r4.1]:List lE))*40<=140737488355328 then h (a++([r4.1]:List lE)) b c d (zW zI (e+1)) r4.2 g else none) else i a b f g
def PB{R:Type}(a:cp)(b:Bool)(c:(al×(Option ag×Option ag)×Int))(d:bh)(e:cp->(al×(Option ag×Option ag)×Int)->Option R):Option R:=
 bif b then bif(List.length a+List.length ([(d.1,(4:Int),bs [],c.2.2,())]:List lE))*40<=140737488355328 then e (a++([(d.1,4,bs [],c.2.2,())]:List lE)) c else none else e a c
def FU:Nat->cp->Bool->(List ByteArray)->Int->Int->(al×(Option ag×Option ag)×Int)->bh->Option (cp×Bool×(al×(Option ag×Option ag)×Int)×bh)
 |0,_,_,_,_,_,_,_=>none
 |k+1,v0,v1,v2,v3,v4,v5,v6=>CV v0 v1 v2 v3 v4 v5 v6 (fun a0 a1 a2 a3 a4 a5 a6=>FU k a0 a1 a2 a3 a4 a5 a6) (fun a0 a1 a2 a3=>some (a0,a1,a2,a3))
def vz(a:(al×(Option ag×Option ag)×Int))(b:bh):Option (cp×(al×(Option ag×Option ag)×Int)):=
 PA a b (fun a0 a1=>some (a0,a1)) (fun a0 a1 a2 a3 a4 a5 a6=>(FU ai a0 a1 a2 a3 a4 a5 a6).bind fun e=>PB e.1 e.2.1 e.2.2.1 e.2.2.2 (fun a0 a1=>some (a0,a1)))
def CW{R:Type}(a:(al×(Option ag×Option ag)×Int))(b:ap)(c:cp->ap->Int->Int->(al×(Option ag×Option ag)×Int)->Option R):Option R:=
 c [] b ((List.length b):Int) 0 a
def CX{R:Type}(a:cp)(b:ap)(c d:Int)(e:(al×(Option ag×Option ag)×Int))(f:cp->ap->Int->Int->(al×(Option ag×Option ag)×Int)->Option R)(g:cp->(al×(Option ag×Option ag)×Int)->Option R):Option R:=
 bif d<c then zd d (List.length b) ((vz e (List.getD b d.toNat (0,bs [],()))).bind fun r1=>bif(List.length a+List.length r1.1)*40<=140737488355328 then f (a++r1.1) b c (zW zI (d+1)) r1.2 else none) else g a e
def CY{R:Type}(a:cp)(b:(al×(Option ag×Option ag)×Int))(c:cp->(al×(Option ag×Option ag)×Int)->Option R):Option R:=
 c a b
def VV:Nat->cp->ap->Int->Int->(al×(Option ag×Option ag)×Int)->Option (cp×(al×(Option ag×Option ag)×Int))
 |0,_,_,_,_,_=>none
 |k+1,v0,v1,v2,v3,v4=>CX v0 v1 v2 v3 v4 (fun a0 a1 a2 a3 a4=>VV k a0 a1 a2 a3 a4) (fun a0 a1=>some (a0,a1))
def P5(a:(al×(Option ag×Option ag)×Int))(b:ap):Option (cp×(al×(Option ag×Option ag)×Int)):=
 CW a b (fun a0 a1 a2 a3 a4=>(VV ai a0 a1 a2 a3 a4).bind fun e=>CY e.1 e.2 (fun a0 a1=>some (a0,a1)))
def CU{R:Type}(a:(al×(Option ag×Option ag)×Int))(b:Int->(al×(Option ag×Option ag)×Int)->Option R):Option R:=
 b a.2.2 a
def Bc(a:(al×(Option ag×Option ag)×Int)):Option (Int×(al×(Option ag×Option ag)×Int)):=
 CU a (fun a0 a1=>some (a0,a1))
def VR{R:Type}(a:(al×(Option ag×Option ag)×Int))(b:Int)(c:Bool->(al×(Option ag×Option ag)×Int)->Option R):Option R:=
 (Bd b).bind fun r1=>bif r1 then zd b 2 ((getM b.toNat a.2.1).bind fun m2=>(WV m2).bind fun r3=>c r3.1 (a.1,(fB b.toNat (some r3.2) a.2.1,a.2.2))) else c false a
def vw(a:(al×(Option ag×Option ag)×Int))(b:Int):Option (Bool×(al×(Option ag×Option ag)×Int)):=
 VR a b (fun a0 a1=>some (a0,a1))
def VT{R:Type}(a:(al×(Option ag×Option ag)×Int))(b:Int)(c:Int->(al×(Option ag×Option ag)×Int)->Option R):Option R:=
 (Bd b).bind fun r1=>bif !r1 then c 0 a else zd b 2 ((getM b.toNat a.2.1).bind fun m2=>(WW m2).bind fun r3=>c r3.1 (a.1,(fB b.toNat (some r3.2) a.2.1,a.2.2)))
def x7(a:(al×(Option ag×Option ag)×Int))(b:Int):Option (Int×(al×(Option ag×Option ag)×Int)):=
 VT a b (fun a0 a1=>some (a0,a1))
def Dt{R:Type}(a:(List Int)->Option R):Option R:=
 a ([2,3,4,7,11,12,14,23,32,35,37,38,41,42,49,52,55,64,70,102,128]:List Int)
def W0:Option (List Int):=
 Dt (fun a0=>some a0)
def Dx{R:Type}(a:wA->Option R):Option R:=
 a ([([2,1,2,12,19,1,2,12,19]:List Int),([3,1,1,6,6,1,1,6,6]:List Int),([4,1,1,12,12,1,1,12,12]:List Int),([7,1,1,10,10,1,1,10,10]:List Int),([11,1,1,6,6,1,1,6,6]:List Int),([12,1,1,6,6,1,1,12,12]:List Int),([13,1,1,4,4,0,0,0,0]:List Int),([14,1,1,4,4,1,1,4,4]:List Int),([18,1,1,4,4,0,0,0,0]:List Int),([22,1,1,3,3,3,1,12,12]:List Int),([23,1,1,3,3,1,1,3,3]:List Int),([26,0,0,0,0,1,1,4,4]:List Int),([32,1,2,1,11,1,2,1,11]:List Int),([35,4,2,1,37,4,2,1,37]:List Int),([37,3,1,12,12,3,1,12,12]:List Int),([38,3,1,6,6,3,1,6,6]:List Int),([39,3,1,2,2,1,1,3,3]:List Int),([41,4,1,8,8,4,1,8,8]:List Int),([42,4,1,15,15,4,1,15,15]:List Int),([43,4,1,40,40,4,2,1,99]:List Int),([48,4,3,1,999,4,3,1,999]:List Int),([49,1,1,3,3,1,1,3,3]:List Int),([52,5,1,8,8,5,1,8,8]:List Int),([55,6,3,1,255,6,3,1,255]:List Int),([64,5,1,8,8,5,1,8,8]:List Int),([70,1,1,3,3,1,1,3,3]:List Int),([90,1,1,42,42,0,0,0,0]:List Int),([102,4,2,1,28,4,2,1,28]:List Int),([128,5,1,8,8,5,1,8,8]:List Int)]:List (List Int))
def W3:Option wA:=
 Dx (fun a0=>some a0)
def Du{R:Type}(a:Int)(b:Int->wA->Int->af->af->Option R):Option R:=
 W3.bind fun r1=>b a r1 0 (0,0,[],()) (zW zI (a+1),a,[],())
def Dv{R:Type}(a:Int)(b:wA)(c:Int)(d e:af)(f:Int->wA->Int->af->af->Option R)(g:af->af->Option R):Option R:=
 bif c<((List.length b):Int) then zd c (List.length b) (bif 0<=zW zI (5+zW zI (4*a)) then bif zW zI (5+zW zI (4*a))<=(((List.length (List.getD b c.toNat ([]:List Int))):Nat):Int) then bif 0<=zW zI (1+zW zI (4*a)) then bif zW zI (1+zW zI (4*a))<=(((zW zI (5+zW zI (4*a))).toNat:Nat):Int) then zd 0 (List.length (List.drop (zW zI ((1:Int)+zW zI ((4:Int)*a))).toNat (List.take (zW zI ((5:Int)+zW zI ((4:Int)*a))).toNat (List.getD b c.toNat ([]:List Int))))) (bif 0<List.getD (List.drop (zW zI (1+zW zI (4*a))).toNat (List.take (zW zI (5+zW zI (4*a))).toNat (List.getD b c.toNat []))) ((0:Int)).toNat 0 then zd c (List.length b) (zd 0 (List.length (List.getD b c.toNat ([]:List Int))) (zd 0 (List.length (List.drop (zW zI ((1:Int)+zW zI ((4:Int)*a))).toNat (List.take (zW zI ((5:Int)+zW zI ((4:Int)*a))).toNat (List.getD b c.toNat ([]:List Int))))) (zd 1 (List.length (List.drop (zW zI ((1:Int)+zW zI ((4:Int)*a))).toNat (List.take (zW zI ((5:Int)+zW zI ((4:Int)*a))).toNat (List.getD b c.toNat ([]:List Int))))) (zd 2 (List.length (List.drop (zW zI ((1:Int)+zW zI ((4:Int)*a))).toNat (List.take (zW zI ((5:Int)+zW zI ((4:Int)*a))).toNat (List.getD b c.toNat ([]:List Int))))) (zd 3 (List.length (List.drop (zW zI ((1:Int)+zW zI ((4:Int)*a))).toNat (List.take (zW zI ((5:Int)+zW zI ((4:Int)*a))).toNat (List.getD b c.toNat ([]:List Int))))) (bif(List.length e.2.2.1+List.length ([(List.getD (List.getD b c.toNat ([]:List Int)) ((0:Int)).toNat (0:Int),List.getD (List.drop (zW zI ((1:Int)+zW zI ((4:Int)*a))).toNat (List.take (zW zI ((5:Int)+zW zI ((4:Int)*a))).toNat (List.getD b c.toNat ([]:List Int)))) ((0:Int)).toNat (0:Int),List.getD (List.drop (zW zI ((1:Int)+zW zI ((4:Int)*a))).toNat (List.take (zW zI ((5:Int)+zW zI ((4:Int)*a))).toNat (List.getD b c.toNat ([]:List Int)))) ((1:Int)).toNat (0:Int),List.getD (List.drop (zW zI ((1:Int)+zW zI ((4:Int)*a))).toNat (List.take (zW zI ((5:Int)+zW zI ((4:Int)*a))).toNat (List.getD b c.toNat ([]:List Int)))) ((2:Int)).toNat (0:Int),List.getD (List.drop (zW zI ((1:Int)+zW zI ((4:Int)*a))).toNat (List.take (zW zI ((5:Int)+zW zI ((4:Int)*a))).toNat (List.getD b c.toNat ([]:List Int)))) ((3:Int)).toNat (0:Int),())]:List aS))*40<=140737488355328 then f a b (zW zI (c+1)) d (e.1,e.2.1,e.2.2.1++([(List.getD (List.getD b c.toNat []) ((0:Int)).toNat 0,List.getD (List.drop (zW zI (1+zW zI (4*a))).toNat (List.take (zW zI (5+zW zI (4*a))).toNat (List.getD b c.toNat []))) ((0:Int)).toNat 0,List.getD (List.drop (zW zI (1+zW zI (4*a))).toNat (List.take (zW zI (5+zW zI (4*a))).toNat (List.getD b c.toNat []))) ((1:Int)).toNat 0,List.getD (List.drop (zW zI (1+zW zI (4*a))).toNat (List.take (zW zI (5+zW zI (4*a))).toNat (List.getD b c.toNat []))) ((2:Int)).toNat 0,List.getD (List.drop (zW zI (1+zW zI (4*a))).toNat (List.take (zW zI (5+zW zI (4*a))).toNat (List.getD b c.toNat []))) ((3:Int)).toNat 0,())]:List aS),()) else none)))))) else f a b (zW zI (c+1)) d e) else none else none else none else none) else g d e
def Dw{R:Type}(a b:af)(c:af->Option R):Option R:=
 c b
def WB:Nat->Int->wA->Int->af->af->Option (af×af)
 |0,_,_,_,_,_=>none
 |k+1,v0,v1,v2,v3,v4=>Dv v0 v1 v2 v3 v4 (fun a0 a1 a2 a3 a4=>WB k a0 a1 a2 a3 a4) (fun a0 a1=>some (a0,a1))
def P6(a:Int):Option af:=
 Du a (fun a0 a1 a2 a3 a4=>(WB ai a0 a1 a2 a3 a4).bind fun e=>Dw e.1 e.2 (fun a0=>some a0))
def Wc{R:Type}(a:Int)(b:Bool->Option R):Option R:=
 bif 48<=a then b (decide (a<=57)) else b false
def G3(a:Int):Option Bool:=
 Wc a (fun a0=>some a0)
def Wa{R:Type}(a:ByteArray)(b:ByteArray->Int->Option R):Option R:=
 b a 0
def Wb{R:Type}(a:ByteArray)(b:Int)(c:Bool->Option R)(d:ByteArray->Int->Option R)(e:Option R):Option R:=
 bif b<(a.size:Int) then zd b a.size ((G3 (ze a b.toNat)).bind fun r1=>bif !r1 then c false else d a (zW zI (b+1))) else e
def C8{R:Type}(a:Bool)(b:Bool->Option R):Option R:=
 b a
def C9{R:Type}(a:Bool->Option R):Option R:=
 a true
def FX:Nat->ByteArray->Int->Option (Sum Bool Unit)
 |0,_,_=>none
 |k+1,v0,v1=>Wb v0 v1 (fun a0=>some (.inl a0)) (fun a0 a1=>FX k a0 a1) (some (.inr ()))
def ER(a:ByteArray):Option Bool:=
 Wa a (fun a0 a1=>(FX ai a0 a1).bind fun e=>Sum.elim (fun(we:Bool)=>C8 we (fun a0=>some a0)) (fun(we:Unit)=>C9 (fun a0=>some a0)) e)
def We{R:Type}(a:ByteArray)(b:Int->Bool->Option R)(c:ByteArray->Int->Int->Option R):Option R:=
 bif(a.size:Int)<1 then b 0 false else bif 18<(a.size:Int) then b 0 false else(ER a).bind fun r1=>bif !r1 then b 0 false else c a 0 0
def Wg{R:Type}(a:ByteArray)(b c:Int)(d:ByteArray->Int->Int->Option R)(e:Int->Option R):Option R:=
 bif c<(a.size:Int) then zd c a.size (d a (zW zI (zW zI (zW zI (10*b)+zW zI (ze a c.toNat))-48)) (zW zI (c+1))) else e b
def Da{R:Type}(a:Int)(b:Int->Bool->Option R):Option R:=
 b a true
def FY:Nat->ByteArray->Int->Int->Option Int
 |0,_,_,_=>none
 |k+1,v0,v1,v2=>Wg v0 v1 v2 (fun a0 a1 a2=>FY k a0 a1 a2) (fun a0=>some a0)
def G5(a:ByteArray):Option (Int×Bool):=
 We a (fun a0 a1=>some (a0,a1)) (fun a0 a1 a2=>(FY ai a0 a1 a2).bind fun e=>Da e (fun a0 a1=>some (a0,a1)))
def Wo{R:Type}(a:(List Int))(b:Int)(c:(List Int)->Int->Int->Option R):Option R:=
 c a b 0
def PF{R:Type}(a:(List Int))(b c:Int)(d:Bool->Option R)(e:(List Int)->Int->Int->Option R)(f:Option R):Option R:=
 bif c<((List.length a):Int) then zd c (List.length a) (bif List.getD a c.toNat 0=b then d true else e a b (zW zI (c+1))) else f
def Dj{R:Type}(a:Bool)(b:Bool->Option R):Option R:=
 b a
def Dk{R:Type}(a:Bool->Option R):Option R:=
 a false
def EF:Nat->(List Int)->Int->Int->Option (Sum Bool Unit)
 |0,_,_,_=>none
 |k+1,v0,v1,v2=>PF v0 v1 v2 (fun a0=>some (.inl a0)) (fun a0 a1 a2=>EF k a0 a1 a2) (some (.inr ()))
def G8(a:(List Int))(b:Int):Option Bool:=
 Wo a b (fun a0 a1 a2=>(EF ai a0 a1 a2).bind fun e=>Sum.elim (fun(we:Bool)=>Dj we (fun a0=>some a0)) (fun(we:Unit)=>Dk (fun a0=>some a0)) e)
def Wj{R:Type}(a b:Int)(c:Bool->Option R):Option R:=
 bif 48<=b then bif 65<=b then bif b<=90 then bif a=1 then c (decide (b<=57)) else bif a=2 then c true else bif a=3 then bif b<=57 then c true else c true else bif a=4 then bif 32<=b then c (decide (b<=126)) else c false else bif a=5 then c true else c (decide (a=6)) else bif 97<=b then bif a=1 then c (decide (b<=57)) else bif a=2 then c (decide (b<=122)) else bif a=3 then bif b<=57 then c true else c (decide (b<=122)) else bif a=4 then bif 32<=b then c (decide (b<=126)) else c false else bif a=5 then c true else c (decide (a=6)) else bif a=1 then c (decide (b<=57)) else bif a=2 then c false else bif a=3 then bif b<=57 then c true else c false else bif a=4 then bif 32<=b then c (decide (b<=126)) else c false else bif a=5 then c true else c (decide (a=6)) else bif 97<=b then bif a=1 then c (decide (b<=57)) else bif a=2 then c (decide (b<=122)) else bif a=3 then bif b<=57 then c true else c (decide (b<=122)) else bif a=4 then bif 32<=b then c (decide (b<=126)) else c false else bif a=5 then c true else c (decide (a=6)) else bif a=1 then c (decide (b<=57)) else bif a=2 then c false else bif a=3 then bif b<=57 then c true else c false else bif a=4 then bif 32<=b then c (decide (b<=126)) else c false else bif a=5 then c true else c (decide (a=6)) else bif 65<=b then bif b<=90 then bif a=1 then c false else bif a=2 then c true else bif a=3 then c true else bif a=4 then bif 32<=b then c (decide (b<=126)) else c false else bif a=5 then c true else c (decide (a=6)) else bif 97<=b then bif a=1 then c false else bif a=2 then c (decide (b<=122)) else bif a=3 then c (decide (b<=122)) else bif a=4 then bif 32<=b then c (decide (b<=126)) else c false else bif a=5 then c true else c (decide (a=6)) else bif a=1 then c false else bif a=2 then c false else bif a=3 then c false else bif a=4 then bif 32<=b then c (decide (b<=126)) else c false else bif a=5 then c true else c (decide (a=6)) else bif 97<=b then bif a=1 then c false else bif a=2 then c (decide (b<=122)) else bif a=3 then c (decide (b<=122)) else bif a=4 then bif 32<=b then c (decide (b<=126)) else c false else bif a=5 then c true else c (decide (a=6)) else bif a=1 then c false else bif a=2 then c false else bif a=3 then c false else bif a=4 then bif 32<=b then c (decide (b<=126)) else c false else bif a=5 then c true else c (decide (a=6))
def x9(a b:Int):Option Bool:=
 Wj a b (fun a0=>some a0)
def Wi{R:Type}(a:Int)(b:ByteArray)(c:Int->ByteArray->Int->Option R):Option R:=
 c a b 0
def PE{R:Type}(a:Int)(b:ByteArray)(c:Int)(d:Int->Option R)(e:Int->ByteArray->Int->Option R)(f:Option R):Option R:=
 bif c<(b.size:Int) then zd c b.size ((x9 a (ze b c.toNat)).bind fun r1=>bif !r1 then d c else e a b (zW zI (c+1))) else f
def Dc{R:Type}(a:Int)(b:Int->Option R):Option R:=
 b a
def Dd{R:Type}(a:Int->Option R):Option R:=
 a (-1:Int)
def EE:Nat->Int->ByteArray->Int->Option (Sum Int Unit)
 |0,_,_,_=>none
 |k+1,v0,v1,v2=>PE v0 v1 v2 (fun a0=>some (.inl a0)) (fun a0 a1 a2=>EE k a0 a1 a2) (some (.inr ()))
def G6(a:Int)(b:ByteArray):Option Int:=
 Wi a b (fun a0 a1 a2=>(EE ai a0 a1 a2).bind fun e=>Sum.elim (fun(we:Int)=>Dc we (fun a0=>some a0)) (fun(we:Unit)=>Dd (fun a0=>some a0)) e)
def Wm{R:Type}(a b:Int)(c:Bool->Option R)(d:Int->Int->Int->Option R):Option R:=
 bif a<1 then c false else bif 6<a then c false else bif b<1 then c false else bif 6<b then c false else d a b 0
def Df{R:Type}(a b c:Int)(d:Bool->Option R)(e:Int->Int->Int->Option R)(f:Option R):Option R:=
 bif c<256 then(x9 b (zW zU c)).bind fun r1=>bif r1 then(x9 a (zW zU c)).bind fun r2=>bif !r2 then d false else e a b (zW zI (c+1)) else e a b (zW zI (c+1)) else f
def Dg{R:Type}(a:Bool)(b:Bool->Option R):Option R:=
 b a
def Dh{R:Type}(a:Bool->Option R):Option R:=
 a true
def Wl:Nat->Int->Int->Int->Option (Sum Bool Unit)
 |0,_,_,_=>none
 |k+1,v0,v1,v2=>Df v0 v1 v2 (fun a0=>some (.inl a0)) (fun a0 a1 a2=>Wl k a0 a1 a2) (some (.inr ()))
def ES(a b:Int):Option Bool:=
 Wm a b (fun a0=>some a0) (fun a0 a1 a2=>(Wl ai a0 a1 a2).bind fun e=>Sum.elim (fun(we:Bool)=>Dg we (fun a0=>some a0)) (fun(we:Unit)=>Dh (fun a0=>some a0)) e)
def Dl{R:Type}(a:Int)(b:Int->Option R):Option R:=
 bif a=0 then b 0 else bif Int.tmod (zW zU (Int.tdiv a 32)) 2=1 then b 0 else bif Int.tmod a 32=31 then b 2 else b 1
def yb(a:Int):Option Int:=
 Dl a (fun a0=>some a0)
def PG{R:Type}(a:ByteArray)(b:Int)(c:Int->Int->Int->Option R):Option R:=
 bif b<0 then c 0 0 1 else bif(a.size:Int)<b then c 0 0 1 else bif b=(a.size:Int) then c 0 0 2 else zd b a.size ((yb (ze a b.toNat)).bind fun r1=>bif r1=0 then c 0 0 13 else bif r1=1 then zd b a.size (c (zW zI (ze a b.toNat)) (zW zI (b+1)) 0) else bif zW zI ((a.size:Int)-b)<2 then c 0 0 2 else zd (zW zI (b+1)) a.size (bif ze a (zW zI (b+(1:Int))).toNat=0 then c 0 0 13 else zd (zW zI (b+1)) a.size (bif 127<ze a (zW zI (b+(1:Int))).toNat then c 0 0 13 else zd b a.size (zd (zW zI (b+1)) a.size (c (zW zI (zW zI (256*zW zI (ze a b.toNat))+zW zI (ze a (zW zI (b+(1:Int))).toNat))) (zW zI (b+2)) 0)))))
def yc(a:ByteArray)(b:Int):Option je:=
 PG a b (fun a0 a1 a2=>some (a0,a1,a2))
def PH{R:Type}(a:ByteArray)(b:Int)(c:Int->Int->Int->Option R):Option R:=
 bif b<0 then c 0 0 1 else bif(a.size:Int)<b then c 0 0 1 else bif b=(a.size:Int) then c 0 0 2 else zd b a.size (bif zW zI (ze a b.toNat)<128 then c (zW zI (ze a b.toNat)) (zW zI (b+1)) 0 else bif !decide (zW zI (ze a b.toNat)=129) then bif !decide (zW zI (ze a b.toNat)=130) then c 0 0 14 else bif zW zI ((a.size:Int)-b)<zW zI (zW zI (ze a b.toNat)-127) then c 0 0 2 else bif zW zI (ze a b.toNat)=129 then zd (zW zI (b+1)) a.size (bif ze a (zW zI (b+(1:Int))).toNat<128 then c 0 0 14 else zd (zW zI (b+1)) a.size (c (zW zI (ze a (zW zI (b+(1:Int))).toNat)) (zW zI (b+2)) 0)) else zd (zW zI (b+1)) a.size (bif ze a (zW zI (b+(1:Int))).toNat=0 then c 0 0 14 else zd (zW zI (b+1)) a.size (zd (zW zI (b+2)) a.size (c (zW zI (zW zI (256*zW zI (ze a (zW zI (b+(1:Int))).toNat))+zW zI (ze a (zW zI (b+(2:Int))).toNat))) (zW zI (b+3)) 0))) else bif zW zI ((a.size:Int)-b)<zW zI (zW zI (ze a b.toNat)-127) then c 0 0 2 else bif zW zI (ze a b.toNat)=129 then zd (zW zI (b+1)) a.size (bif ze a (zW zI (b+(1:Int))).toNat<128 then c 0 0 14 else zd (zW zI (b+1)) a.size (c (zW zI (ze a (zW zI (b+(1:Int))).toNat)) (zW zI (b+2)) 0)) else zd (zW zI (b+1)) a.size (bif ze a (zW zI (b+(1:Int))).toNat=0 then c 0 0 14 else zd (zW zI (b+1)) a.size (zd (zW zI (b+2)) a.size (c (zW zI (zW zI (256*zW zI (ze a (zW zI (b+(1:Int))).toNat))+zW zI (ze a (zW zI (b+(2:Int))).toNat))) (zW zI (b+3)) 0))))
def yd(a:ByteArray)(b:Int):Option je:=
 PH a b (fun a0 a1 a2=>some (a0,a1,a2))
def Wr{R:Type}(a:ap)(b c:Int)(d:ap->Int->Int->Int->Option R):Option R:=
 d a b c 0
def PK{R:Type}(a:ap)(b c d:Int)(e:Bool->Option R)(f:ap->Int->Int->Int->Option R)(g:Option R):Option R:=
 bif d<b then zd d (List.length a) (bif(List.getD a d.toNat (0,bs [],())).1=c then e true else f a b c (zW zI (d+1))) else g
def z156{R:Type}(a:Bool)(b:Bool->Option R):Option R:=
 b a
def z157{R:Type}(a:Bool->Option R):Option R:=
 a false
def EG:Nat->ap->Int->Int->Int->Option (Sum Bool Unit)
 |0,_,_,_,_=>none
 |k+1,v0,v1,v2,v3=>PK v0 v1 v2 v3 (fun a0=>some (.inl a0)) (fun a0 a1 a2 a3=>EG k a0 a1 a2 a3) (some (.inr ()))
def Hd(a:ap)(b c:Int):Option Bool:=
 Wr a b c (fun a0 a1 a2 a3=>(EG ai a0 a1 a2 a3).bind fun e=>Sum.elim (fun(we:Bool)=>z156 we (fun a0=>some a0)) (fun(we:Unit)=>z157 (fun a0=>some a0)) e)
def PI{R:Type}(a:ByteArray)(b:ByteArray->ap->Int->Option R):Option R:=
 b a [] 0
def PJ{R:Type}(a:ByteArray)(b:ap)(c:Int)(d:ap->Int->Int->ap->Option R)(e:ByteArray->ap->Int->Option R)(f:ap->Option R):Option R:=
 bif c<(a.size:Int) then(yc a c).bind fun r1=>bif !decide (r1.2.2=0) then d [] r1.2.2 c b else(yd a r1.2.1).bind fun r2=>bif !decide (r2.2.2=0) then d [] r2.2.2 r1.2.1 b else bif zW zI ((a.size:Int)-r2.2.1)<r2.1 then d [] 2 (a.size:Int) b else(Hd b ((List.length b):Int) r1.1).bind fun r3=>bif r3 then d [] 10 c b else bif 0<=zW zI (r2.2.1+r2.1) then bif zW zI (r2.2.1+r2.1)<=(a.size:Int) then bif 0<=r2.2.1 then bif r2.2.1<=(((zW zI (r2.2.1+r2.1)).toNat:Nat):Int) then bif(List.length b+List.length ([(r1.1,a.extract r2.2.1.toNat (zW zI (r2.2.1+r2.1)).toNat,())]:List bh))*24<=140737488355328 then e a (b++([(r1.1,a.extract r2.2.1.toNat (zW zI (r2.2.1+r2.1)).toNat,())]:List bh)) (zW zI (r2.2.1+r2.1)) else none else none else none else none else none else f b
def Dm{R:Type}(a:ap)(b c:Int)(d:ap)(e:ap->Int->Int->Option R):Option R:=
 e a b c
def z154{R:Type}(a:ap)(b:ap->Int->Int->Option R):Option R:=
 b a 0 0
def AW:Nat->ByteArray->ap->Int->Option (Sum qE ap)
 |0,_,_,_=>none
 |k+1,v0,v1,v2=>PJ v0 v1 v2 (fun a0 a1 a2 a3=>some (.inl (a0,a1,a2,a3))) (fun a0 a1 a2=>AW k a0 a1 a2) (fun a0=>some (.inr a0))
def ye(a:ByteArray):Option (Sum jf jf):=
 PI a (fun a0 a1 a2=>(AW ai a0 a1 a2).bind fun e=>Sum.elim (fun(we:qE)=>Dm we.1 we.2.1 we.2.2.1 we.2.2.2 (fun a0 a1 a2=>some (.inl (a0,a1,a2)))) (fun(we:ap)=>z154 we (fun a0 a1 a2=>some (.inr (a0,a1,a2)))) e)
def Ws{R:Type}(a:aS)(b:Int->Option R):Option R:=
 bif a.1<2 then b 1 else bif 128<a.1 then b 1 else bif a.2.1<1 then b 6 else bif 6<a.2.1 then b 6 else bif a.2.2.1<1 then b 3 else bif 3<a.2.2.1 then b 3 else bif a.2.2.1=2 then bif a.2.2.2.1<1 then b 5 else bif a.2.2.2.2.1<a.2.2.2.1 then b 5 else bif 99<a.2.2.2.2.1 then b 5 else bif a.2.2.1=1 then bif !decide (a.2.2.2.1=a.2.2.2.2.1) then b 5 else bif a.2.2.1=1 then bif a.2.1=6 then b 13 else b 0 else b 0 else bif a.2.2.1=1 then bif a.2.1=6 then b 13 else b 0 else b 0 else bif a.2.2.2.1<1 then b 5 else bif a.2.2.2.2.1<a.2.2.2.1 then b 5 else bif 999<a.2.2.2.2.1 then b 5 else bif a.2.2.1=1 then bif !decide (a.2.2.2.1=a.2.2.2.2.1) then b 5 else bif a.2.2.1=1 then bif a.2.1=6 then b 13 else b 0 else b 0 else bif a.2.2.1=1 then bif a.2.1=6 then b 13 else b 0 else b 0
def yf(a:aS):Option Int:=
 Ws a (fun a0=>some a0)
def FZ{R:Type}(a:aS)(b:ByteArray)(c:Int->Option R):Option R:=
 (yf a).bind fun r1=>bif !decide (r1=0) then c 1 else bif(b.size:Int)<a.2.2.2.1 then c 5 else bif a.2.2.2.2.1<(b.size:Int) then c 5 else(G6 a.2.1 b).bind fun r2=>bif 0<=r2 then c 6 else bif a.2.1=6 then(ye b).bind fun r3=>Sum.elim (fun(rO:jf)=>bif !decide (rO.2.1=0) then c 13 else c 0) (fun(rO:jf)=>bif !decide (rO.2.1=0) then c 13 else c 0) r3 else c 0
def mB(a:aS)(b:ByteArray):Option Int:=
 FZ a b (fun a0=>some a0)
def F0{R:Type}(a b:aS)(c:Bool->Option R):Option R:=
 (yf a).bind fun r1=>bif !decide (r1=0) then c false else(yf b).bind fun r2=>bif !decide (r2=0) then c false else bif b.2.2.2.1<a.2.2.2.1 then c false else bif a.2.2.2.2.1<b.2.2.2.2.1 then c false else bif a.2.1=5 then c true else bif a.2.1=6 then c (decide (a.2.1=b.2.1)) else bif b.2.1=6 then c (decide (a.2.1=b.2.1)) else(ES a.2.1 b.2.1).bind fun r3=>c r3
def uH(a b:aS):Option Bool:=
 F0 a b (fun a0=>some a0)
def Ww{R:Type}(a:af)(b:af->Option R):Option R:=
 bif(List.length ([]:List aS)+List.length a.2.2.1)*40<=140737488355328 then b (a.1,a.2.1,[]++a.2.2.1,()) else none
def Hj(a:af):Option af:=
 Ww a (fun a0=>some a0)
def F1{R:Type}(a:af)(b:Int->Int->Option R)(c:Int->Int->af->Option R):Option R:=
 bif !decide (a.1=1) then bif !decide (a.1=2) then b 1 (-1:Int) else bif a.2.1<0 then b 7 (-1:Int) else bif 9<a.2.1 then b 7 (-1:Int) else c 0 0 a else bif a.2.1<0 then b 7 (-1:Int) else bif 9<a.2.1 then b 7 (-1:Int) else c 0 0 a
theorem aaT{R S:Type}(F:R->Option S)(a)(b)(c):(F1 a b c).bind F=F1 a (fun a0 a1=>(b a0 a1).bind F) (fun a0 a1 a2=>(c a0 a1 a2).bind F):=by
 simp only[F1,aF]
def PL{R:Type}(a b:Int)(c:af)(d:Int->Int->Option R)(e:Int->Int->af->Option R)(f:Option R):Option R:=
 bif b<((List.length c.2.2.1):Int) then zd b (List.length c.2.2.1) ((yf (List.getD c.2.2.1 b.toNat (0,0,0,0,0,()))).bind fun r1=>bif !decide (r1=0) then d r1 b else zd b (List.length c.2.2.1) (bif(List.getD c.2.2.1 b.toNat (0,0,0,0,0,())).1<=a then d 11 b else zd b (List.length c.2.2.1) (e (List.getD c.2.2.1 b.toNat (0,0,0,0,0,())).1 (zW zI (b+1)) c))) else f
def Wu{R:Type}(a b:Int)(c:Int->Int->Option R):Option R:=
 c a b
def Wv{R:Type}(a:Int->Int->Option R):Option R:=
 a 0 0
def xM:Nat->Int->Int->af->Option (Sum (Int×Int) Unit)
 |0,_,_,_=>none
 |k+1,v0,v1,v2=>PL v0 v1 v2 (fun a0 a1=>some (.inl (a0,a1))) (fun a0 a1 a2=>xM k a0 a1 a2) (some (.inr ()))
def Hi(a:af):Option (Int×Int):=
 F1 a (fun a0 a1=>some (a0,a1)) (fun a0 a1 a2=>(xM ai a0 a1 a2).bind fun e=>Sum.elim (fun(we:(Int×Int))=>Wu we.1 we.2 (fun a0 a1=>some (a0,a1))) (fun(we:Unit)=>Wv (fun a0 a1=>some (a0,a1))) e)
def Wz{R:Type}(a:af)(b:Bool->Option R):Option R:=
 (Hi a).bind fun r1=>b (decide (r1.1=0))
def Be(a:af):Option Bool:=
 Wz a (fun a0=>some a0)
def Wy{R:Type}(a:af)(b:Int)(c:Int->Int->af->Option R):Option R:=
 c b 0 a
def Dq{R:Type}(a b:Int)(c:af)(d:Int->Option R)(e:Int->Int->af->Option R)(f:Option R):Option R:=
 bif b<((List.length c.2.2.1):Int) then zd b (List.length c.2.2.1) (bif(List.getD c.2.2.1 b.toNat (0,0,0,0,0,())).1=a then d b else e a (zW zI (b+1)) c) else f
def Dr{R:Type}(a:Int)(b:Int->Option R):Option R:=
 b a
def Ds{R:Type}(a:Int->Option R):Option R:=
 a (-1:Int)
def PM:Nat->Int->Int->af->Option (Sum Int Unit)
 |0,_,_,_=>none
 |k+1,v0,v1,v2=>Dq v0 v1 v2 (fun a0=>some (.inl a0)) (fun a0 a1 a2=>PM k a0 a1 a2) (some (.inr ()))
def yh(a:af)(b:Int):Option Int:=
 Wy a b (fun a0 a1 a2=>(PM ai a0 a1 a2).bind fun e=>Sum.elim (fun(we:Int)=>Dr we (fun a0=>some a0)) (fun(we:Unit)=>Ds (fun a0=>some a0)) e)
def RH{R:Type}(a:ByteArray)(b:Bool->Option R):Option R:=
 bif(a.size:Int)=4 then(ER a).bind fun r1=>b r1 else b false
def rY(a:ByteArray):Option Bool:=
 RH a (fun a0=>some a0)
def WC{R:Type}(a:ByteArray)(b:Bool->Option R):Option R:=
 (G5 a).bind fun r1=>bif r1.2 then bif(a.size:Int)=4 then bif Int.tmod (zW zI (Int.tdiv r1.1 10)) 10=0 then b true else b (decide (Int.tmod (zW zI (Int.tdiv r1.1 10)) 10=2)) else b false else b false
def ET(a:ByteArray):Option Bool:=
 WC a (fun a0=>some a0)
def zvj{R:Type}(a:aN)(b:aN->aN->Int->Option R):Option R:=
 b a [] 0
def zvk{R:Type}(a b:aN)(c:Int)(d:aN->aN->Int->Option R)(e:aN->Option R):Option R:=
 bif c<((List.length a):Int) then zd c (List.length a) (zd c (List.length a) (bif(List.length b+List.length ([((List.getD a c.toNat (bs [],bs [],())).2.1,(List.getD a c.toNat (bs [],bs [],())).1,())]:List dx))*32<=140737488355328 then d a (b++([((List.getD a c.toNat (bs [],bs [],())).2.1,(List.getD a c.toNat (bs [],bs [],())).1,())]:List dx)) (zW zI (c+1)) else none)) else e b
def zvl{R:Type}(a:aN)(b:aN->Option R):Option R:=
 b a
def RN:Nat->aN->aN->Int->Option aN
 |0,_,_,_=>none
 |k+1,v0,v1,v2=>zvk v0 v1 v2 (fun a0 a1 a2=>RN k a0 a1 a2) (fun a0=>some a0)
def sd(a:aN):Option aN:=
 zvj a (fun a0 a1 a2=>(RN ai a0 a1 a2).bind fun e=>zvl e (fun a0=>some a0))
def RL{R:Type}(a:aN)(b:aN->Option R):Option R:=
 bif(List.length ([]:List dx)+List.length a)*32<=140737488355328 then b ([]++a) else none
def qn(a:aN):Option aN:=
 RL a (fun a0=>some a0)
def RP{R:Type}(a:aN)(b:Int)(c:ByteArray)(d:aN->Int->ByteArray->Int->Option R):Option R:=
 d a b c 0
def Oz{R:Type}(a:aN)(b:Int)(c:ByteArray)(d:Int)(e:Int->Option R)(f:aN->Int->ByteArray->Int->Option R)(g:Option R):Option R:=
 bif d<b then zd d (List.length a) (bif(List.getD a d.toNat (bs [],bs [],())).1=c then e d else f a b c (zW zI (d+1))) else g
def zvn{R:Type}(a:Int)(b:Int->Option R):Option R:=
 b a
def zvo{R:Type}(a:Int->Option R):Option R:=
 a (-1:Int)
def D3:Nat->aN->Int->ByteArray->Int->Option (Sum Int Unit)
 |0,_,_,_,_=>none
 |k+1,v0,v1,v2,v3=>Oz v0 v1 v2 v3 (fun a0=>some (.inl a0)) (fun a0 a1 a2 a3=>D3 k a0 a1 a2 a3) (some (.inr ()))
def qo(a:aN)(b:Int)(c:ByteArray):Option Int:=
 RP a b c (fun a0 a1 a2 a3=>(D3 ai a0 a1 a2 a3).bind fun e=>Sum.elim (fun(we:Int)=>zvn we (fun a0=>some a0)) (fun(we:Unit)=>zvo (fun a0=>some a0)) e)
def RI{R:Type}(a:aN)(b:ByteArray)(c:ByteArray->Bool->Option R):Option R:=
 (qo a ((List.length a):Int) b).bind fun r1=>bif r1<0 then c (bs []) false else zd r1 (List.length a) (c (List.getD a r1.toNat (bs [],bs [],())).2.1 true)
def rZ(a:aN)(b:ByteArray):Option js:=
 RI a b (fun a0 a1=>some (a0,a1))
def RK{R:Type}(a:aN)(b:Int->Int->Option R)(c:aN->Int->Option R):Option R:=
 bif 256<((List.length a):Int) then b 5 256 else c a 0
def Oy{R:Type}(a:aN)(b:Int)(c:Int->Int->Option R)(d:aN->Int->Option R)(e:Option R):Option R:=
 bif b<((List.length a):Int) then zd b (List.length a) ((qo a b (List.getD a b.toNat (bs [],bs [],())).1).bind fun r1=>bif 0<=r1 then c 10 b else d a (zW zI (b+1))) else e
def zvh{R:Type}(a b:Int)(c:Int->Int->Option R):Option R:=
 c a b
def zvi{R:Type}(a:Int->Int->Option R):Option R:=
 a 0 0
def D2:Nat->aN->Int->Option (Sum (Int×Int) Unit)
 |0,_,_=>none
 |k+1,v0,v1=>Oy v0 v1 (fun a0 a1=>some (.inl (a0,a1))) (fun a0 a1=>D2 k a0 a1) (some (.inr ()))
def sc(a:aN):Option (Int×Int):=
 RK a (fun a0 a1=>some (a0,a1)) (fun a0 a1=>(D2 ai a0 a1).bind fun e=>Sum.elim (fun(we:(Int×Int))=>zvh we.1 we.2 (fun a0 a1=>some (a0,a1))) (fun(we:Unit)=>zvi (fun a0 a1=>some (a0,a1))) e)
def RV{R:Type}(a:aE)(b:Bool->Option R)(c:Int->aE->Option R):Option R:=
 bif 1200<(a.2.2.2.1.size:Int) then b true else bif 300<((List.length a.2.2.2.2.1):Int) then b true else c 0 a
def OC{R:Type}(a:Int)(b:aE)(c:Bool->Option R)(d:Int->aE->Option R)(e:Option R):Option R:=
 bif a<((List.length b.2.2.2.2.1):Int) then zd a (List.length b.2.2.2.2.1) (bif 1200<(((List.getD b.2.2.2.2.1 a.toNat (bs [],bs [],())).1).size:Int) then c true else zd a (List.length b.2.2.2.2.1) (bif 1200<(((List.getD b.2.2.2.2.1 a.toNat (bs [],bs [],())).2.1).size:Int) then c true else d (zW zI (a+1)) b)) else e
def zw0{R:Type}(a:Bool)(b:Bool->Option R):Option R:=
 b a
def zw1{R:Type}(a:Bool->Option R):Option R:=
 a false
def xF:Nat->Int->aE->Option (Sum Bool Unit)
 |0,_,_=>none
 |k+1,v0,v1=>OC v0 v1 (fun a0=>some (.inl a0)) (fun a0 a1=>xF k a0 a1) (some (.inr ()))
def nI(a:aE):Option Bool:=
 RV a (fun a0=>some a0) (fun a0 a1=>(xF ai a0 a1).bind fun e=>Sum.elim (fun(we:Bool)=>zw0 we (fun a0=>some a0)) (fun(we:Unit)=>zw1 (fun a0=>some a0)) e)
def RT{R:Type}(a:aE)(b:aE->Option R):Option R:=
 (qn a.2.2.2.2.1).bind fun r1=>b (a.1,a.2.1,a.2.2.1,a.2.2.2.1,r1,())
def nH(a:aE):Option aE:=
 RT a (fun a0=>some a0)
def Fx{R:Type}(a:aE)(b c:af)(d:Bool->aE->af->af->Option R):Option R:=
 bif a.1<1 then d true a b c else d (decide (5<a.1)) a b c
theorem aap{R S:Type}(F:R->Option S)(a)(b)(c)(d):(Fx a b c d).bind F=Fx a b c (fun a0 a1 a2 a3=>(d a0 a1 a2 a3).bind F):=by
 simp only[Fx,aF]
def zvu{R:Type}(a:Bool)(b:aE)(c d:af)(e:Int->Option R)(f:aE->af->af->Option R):Option R:=
 bif a then e 1 else f b c d
def Fy{R:Type}(a:aE)(b c:af)(d:Int->Int->Bool->aE->af->af->Option R):Option R:=
 (yh b a.2.1).bind fun r1=>(yh c a.2.2.1).bind fun r2=>bif a.1=3 then bif !decide (a.2.1=0) then d r1 r2 true a b c else bif !decide (a.1=3) then d r1 r2 (decide (r1<0)) a b c else d r1 r2 false a b c else bif !decide (a.1=3) then d r1 r2 (decide (r1<0)) a b c else d r1 r2 false a b c
theorem aaq{R S:Type}(F:R->Option S)(a)(b)(c)(d):(Fy a b c d).bind F=Fy a b c (fun a0 a1 a2 a3 a4 a5=>(d a0 a1 a2 a3 a4 a5).bind F):=by
 simp only[Fy,aF]
def zvv{R:Type}(a b:Int)(c:Bool)(d:aE)(e f:af)(g:Int->Option R)(h:Int->Int->aE->af->af->Option R):Option R:=
 bif c then g 9 else h a b d e f
def Fz{R:Type}(a b:Int)(c:aE)(d e:af)(f:Int->Int->Bool->aE->af->af->Option R):Option R:=
 bif c.1=2 then bif !decide (c.2.2.1=0) then f a b true c d e else bif !decide (c.1=2) then f a b (decide (b<0)) c d e else f a b false c d e else bif !decide (c.1=2) then f a b (decide (b<0)) c d e else f a b false c d e
theorem aar{R S:Type}(F:R->Option S)(a)(b)(c)(d)(e)(f):(Fz a b c d e f).bind F=Fz a b c d e (fun a0 a1 a2 a3 a4 a5=>(f a0 a1 a2 a3 a4 a5).bind F):=by
 simp only[Fz,aF]
def zvw{R:Type}(a b:Int)(c:Bool)(d:aE)(e f:af)(g:Int->Option R)(h:Int->Int->aE->af->af->Option R):Option R:=
 bif c then g 9 else h a b d e f
def FA{R:Type}(a b:Int)(c:aE)(d e:af)(f:Int->Int->Bool->aE->af->af->Option R):Option R:=
 bif !decide (c.2.2.2.1=bs []) then bif !decide (c.1=3) then f a b true c d e else bif 0<((List.length c.2.2.2.2.1):Int) then f a b (!decide (c.1=5)) c d e else f a b false c d e else bif 0<((List.length c.2.2.2.2.1):Int) then f a b (!decide (c.1=5)) c d e else f a b false c d e
theorem aas{R S:Type}(F:R->Option S)(a)(b)(c)(d)(e)(f):(FA a b c d e f).bind F=FA a b c d e (fun a0 a1 a2 a3 a4 a5=>(f a0 a1 a2 a3 a4 a5).bind F):=by
 simp only[FA,aF]
def zvx{R:Type}(a b:Int)(c:Bool)(d:aE)(e f:af)(g:Int->Option R)(h:Int->Int->aE->af->af->Option R):Option R:=
 bif c then g 3 else h a b d e f
def FB{R:Type}(a b:Int)(c:aE)(d e:af)(f:Int->Option R)(g:Option R)(h:Bool->Option R)(i:Int->Int->Bool->aE->af->af->Option R):Option R:=
 bif c.1=1 then zd b (List.length e.2.2.1) (zd a (List.length d.2.2.1) ((uH (List.getD e.2.2.1 b.toNat (0,0,0,0,0,())) (List.getD d.2.2.1 a.toNat (0,0,0,0,0,()))).bind fun r3=>bif !r3 then f 6 else g)) else bif c.1=3 then zd b (List.length e.2.2.1) ((mB (List.getD e.2.2.1 b.toNat (0,0,0,0,0,())) c.2.2.2.1).bind fun r4=>f r4) else bif c.1=4 then zd a (List.length d.2.2.1) (zd b (List.length e.2.2.1) (bif !decide ((List.getD d.2.2.1 a.toNat (0,0,0,0,0,())).2.1=1) then h true else bif !decide ((List.getD d.2.2.1 a.toNat (0,0,0,0,0,())).2.2.1=1) then h true else bif !decide ((List.getD e.2.2.1 b.toNat (0,0,0,0,0,())).2.1=1) then h true else h (!decide ((List.getD e.2.2.1 b.toNat (0,0,0,0,0,())).2.2.1=1)))) else bif c.1=5 then(sc c.2.2.2.2.1).bind fun r5=>bif !decide (r5.1=0) then i a b true c d e else i a b (decide (((List.length c.2.2.2.2.1):Int)=0)) c d e else g
theorem aat{R S:Type}(F:R->Option S)(a)(b)(c)(d)(e)(f)(g)(h)(i):(FB a b c d e f g h i).bind F=FB a b c d e (fun a0=>(f a0).bind F) ((g).bind F) (fun a0=>(h a0).bind F) (fun a0 a1 a2 a3 a4 a5=>(i a0 a1 a2 a3 a4 a5).bind F):=by
 simp only[FB,aF]
def zvy{R:Type}(a:Int->Option R):Option R:=
 a 0
def zo9{R:Type}(a:Bool)(b:Int->Option R)(c:Option R):Option R:=
 bif a then b 6 else c
def zoa{R:Type}(a b:Int)(c:Bool)(d:aE)(e f:af)(g:Int->Option R)(h:Int->Int->aE->af->af->Option R):Option R:=
 bif c then g 15 else h a b d e f
def Rs{R:Type}(a b:Int)(c:aE)(d e:af)(f:Int->Int->Int->aE->af->af->Option R):Option R:=
 f a b 0 c d e
def Om{R:Type}(a b c:Int)(d:aE)(e f:af)(g:Int->Int->Int->aE->af->af->Option R)(h:Option R):Option R:=
 bif c<((List.length d.2.2.2.2.1):Int) then g a b c d e f else h
def Rt{R:Type}(a b c:Int)(d:aE)(e f:af)(g:Int->Option R)(h:Int->Int->Int->aE->af->af->Option R):Option R:=
 zd a (List.length e.2.2.1) (zd c (List.length d.2.2.2.2.1) ((mB (List.getD e.2.2.1 a.toNat (0,0,0,0,0,())) (List.getD d.2.2.2.2.1 c.toNat (bs [],bs [],())).1).bind fun r6=>bif !decide (r6=0) then g r6 else h a b c d e f))
def zob{R:Type}(a:Option R):Option R:=
 a
def zoc{R:Type}(a:Int)(b:Int->Option R):Option R:=
 b a
def Ru{R:Type}(a b c:Int)(d:aE)(e f:af)(g:Int->Option R)(h:Int->Int->Int->aE->af->af->Option R):Option R:=
 zd b (List.length f.2.2.1) (zd c (List.length d.2.2.2.2.1) ((mB (List.getD f.2.2.1 b.toNat (0,0,0,0,0,())) (List.getD d.2.2.2.2.1 c.toNat (bs [],bs [],())).2.1).bind fun r7=>bif !decide (r7=0) then g r7 else h a b c d e f))
def Rv{R:Type}(a b c:Int)(d:aE)(e f:af)(g:Int->Int->Int->aE->af->af->Option R):Option R:=
 g a b (zW zI (c+1)) d e f
def u6:Nat->Int->Int->Int->aE->af->af->Option (Sum Unit Int)
 |0,_,_,_,_,_,_=>none
 |k+1,v0,v1,v2,v3,v4,v5=>Om v0 v1 v2 v3 v4 v5 (fun a0 a1 a2 a3 a4 a5=>Rt a0 a1 a2 a3 a4 a5 (fun a0=>some (.inr a0)) (fun a0 a1 a2 a3 a4 a5=>Ru a0 a1 a2 a3 a4 a5 (fun a0=>some (.inr a0)) (fun a0 a1 a2 a3 a4 a5=>Rv a0 a1 a2 a3 a4 a5 (fun a0 a1 a2 a3 a4 a5=>u6 k a0 a1 a2 a3 a4 a5)))) (some (.inl ()))
def RS:Option Int:=
 zvy (fun a0=>some a0)
def zvt(a:Bool):Option Int:=
 zo9 a (fun a0=>some a0) RS
def Ol(a b:Int)(c:aE)(d f:af):Option Int:=
 Rs a b c d f (fun a0 a1 a2 a3 a4 a5=>(u6 ai a0 a1 a2 a3 a4 a5).bind fun e=>Sum.elim (fun(we:Unit)=>zob RS) (fun(we:Int)=>zoc we (fun a0=>some a0)) e)
def zo8(a b:Int)(c:Bool)(d:aE)(e f:af):Option Int:=
 zoa a b c d e f (fun a0=>some a0) (fun a0 a1 a2 a3 a4=>Ol a0 a1 a2 a3 a4)
def OB(a b:Int)(c:aE)(d e:af):Option Int:=
 FB a b c d e (fun a0=>some a0) RS (fun a0=>zvt a0) (fun a0 a1 a2 a3 a4 a5=>zo8 a0 a1 a2 a3 a4 a5)
def zvs(a b:Int)(c:Bool)(d:aE)(e f:af):Option Int:=
 zvx a b c d e f (fun a0=>some a0) (fun a0 a1 a2 a3 a4=>OB a0 a1 a2 a3 a4)
def D4(a b:Int)(c:aE)(d e:af):Option Int:=
 FA a b c d e (fun a0 a1 a2 a3 a4 a5=>zvs a0 a1 a2 a3 a4 a5)
def zvr(a b:Int)(c:Bool)(d:aE)(e f:af):Option Int:=
 zvw a b c d e f (fun a0=>some a0) (fun a0 a1 a2 a3 a4=>D4 a0 a1 a2 a3 a4)
def OA(a b:Int)(c:aE)(d e:af):Option Int:=
 Fz a b c d e (fun a0 a1 a2 a3 a4 a5=>zvr a0 a1 a2 a3 a4 a5)
def AM(a b:Int)(c:Bool)(d:aE)(e f:af):Option Int:=
 zvv a b c d e f (fun a0=>some a0) (fun a0 a1 a2 a3 a4=>OA a0 a1 a2 a3 a4)
def RR(a:aE)(b c:af):Option Int:=
 Fy a b c (fun a0 a1 a2 a3 a4 a5=>AM a0 a1 a2 a3 a4 a5)
def zvq(a:Bool)(b:aE)(c d:af):Option Int:=
 zvu a b c d (fun a0=>some a0) (fun a0 a1 a2=>RR a0 a1 a2)
def se(a:aE)(b c:af):Option Int:=
 Fx a b c (fun a0 a1 a2 a3=>zvq a0 a1 a2 a3)
def R8{R:Type}(a:ay)(b:Bool->Option R)(c:Int->ay->Option R):Option R:=
 bif 300<((List.length a.1):Int) then b true else bif 300<((List.length a.2.1):Int) then b true else c 0 a
def OJ{R:Type}(a:Int)(b:ay)(c:Bool->ay->Option R)(d:Int->ay->Option R)(e:ay->Option R):Option R:=
 bif a<((List.length b.1):Int) then zd a (List.length b.1) (bif 100<(((List.getD b.1 a.toNat (bs [],bs [],())).1).size:Int) then c true b else zd a (List.length b.1) (bif 100<(((List.getD b.1 a.toNat (bs [],bs [],())).2.1).size:Int) then c true b else d (zW zI (a+1)) b)) else e b
def zwd{R:Type}(a:Bool)(b:ay)(c:Bool->Option R):Option R:=
 c a
def R9{R:Type}(a:ay)(b:Int->ay->Option R):Option R:=
 b 0 a
def zwe{R:Type}(a:Int)(b:ay)(c:Bool->Option R)(d:Int->ay->Option R)(e:Option R):Option R:=
 bif a<((List.length b.2.1):Int) then zd a (List.length b.2.1) ((nI (List.getD b.2.1 a.toNat (0,0,0,bs [],[],()))).bind fun r1=>bif r1 then c true else d (zW zI (a+1)) b) else e
def zwf{R:Type}(a:Bool)(b:Bool->Option R):Option R:=
 b a
def zwg{R:Type}(a:Bool->Option R):Option R:=
 a false
def xG:Nat->Int->ay->Option (Sum (Bool×ay) ay)
 |0,_,_=>none
 |k+1,v0,v1=>OJ v0 v1 (fun a0 a1=>some (.inl (a0,a1))) (fun a0 a1=>xG k a0 a1) (fun a0=>some (.inr a0))
def OI:Nat->Int->ay->Option (Sum Bool Unit)
 |0,_,_=>none
 |k+1,v0,v1=>zwe v0 v1 (fun a0=>some (.inl a0)) (fun a0 a1=>OI k a0 a1) (some (.inr ()))
def ly(a:ay):Option Bool:=
 R8 a (fun a0=>some a0) (fun a0 a1=>(xG ai a0 a1).bind fun e=>Sum.elim (fun(we:(Bool×ay))=>zwd we.1 we.2 (fun a0=>some a0)) (fun(we:ay)=>R9 we (fun a0 a1=>(OI ai a0 a1).bind fun e=>Sum.elim (fun(we:Bool)=>zwf we (fun a0=>some a0)) (fun(we:Unit)=>zwg (fun a0=>some a0)) e)) e)
def R5{R:Type}(a:ay)(b:Int->ay->ay->ay->Option R):Option R:=
 (qn a.1).bind fun r1=>b 0 a ([],[],()) (r1,[],())
def zw9{R:Type}(a:Int)(b c d:ay)(e:Int->ay->ay->ay->Option R)(f:ay->ay->Option R):Option R:=
 bif a<((List.length b.2.1):Int) then zd a (List.length b.2.1) ((nH (List.getD b.2.1 a.toNat (0,0,0,bs [],[],()))).bind fun r2=>bif(List.length d.2.1+List.length ([r2]:List aE))*64<=140737488355328 then e (zW zI (a+1)) b c (d.1,d.2.1++([r2]:List aE),()) else none) else f c d
def zwa{R:Type}(a b:ay)(c:ay->Option R):Option R:=
 c b
def OH:Nat->Int->ay->ay->ay->Option (ay×ay)
 |0,_,_,_,_=>none
 |k+1,v0,v1,v2,v3=>zw9 v0 v1 v2 v3 (fun a0 a1 a2 a3=>OH k a0 a1 a2 a3) (fun a0 a1=>some (a0,a1))
def si(a:ay):Option ay:=
 R5 a (fun a0 a1 a2 a3=>(OH ai a0 a1 a2 a3).bind fun e=>zwa e.1 e.2 (fun a0=>some a0))
def Sb{R:Type}(a:ByteArray)(b:Int)(c:Bool->Option R):Option R:=
 (rY a).bind fun r1=>bif r1 then zd 0 a.size (c (decide (zW zI (zW zI (ze a ((0:Int)).toNat)-48)=b))) else c false
def qq(a:ByteArray)(b:Int):Option Bool:=
 Sb a b (fun a0=>some a0)
def Sa{R:Type}(a b:aE)(c:Bool->Option R):Option R:=
 bif !decide (a.2.1=0) then bif a.2.1=b.2.1 then c true else bif !decide (a.2.2.1=0) then c (decide (a.2.2.1=b.2.2.1)) else c false else bif !decide (a.2.2.1=0) then c (decide (a.2.2.1=b.2.2.1)) else c false
def sj(a b:aE):Option Bool:=
 Sa a b (fun a0=>some a0)
def RZ{R:Type}(a:ay)(b c:af)(d:Int->Int->Int->Option R)(e:Int->ay->af->af->Option R):Option R:=
 (Be b).bind fun r1=>bif !r1 then d 1 1 0 else(Be c).bind fun r2=>bif !r2 then d 1 1 1 else bif 256<((List.length a.1):Int) then d 5 2 256 else e 0 a b c
def OD{R:Type}(a:Int)(b:ay)(c d:af)(e:Int->Int->Int->ay->af->af->Option R)(f:Int->ay->af->af->Option R)(g:ay->af->af->Option R):Option R:=
 bif a<((List.length b.1):Int) then zd a (List.length b.1) ((qq (List.getD b.1 a.toNat (bs [],bs [],())).1 c.2.1).bind fun r3=>bif !r3 then e 7 2 a b c d else(qq (List.getD b.1 a.toNat (bs [],bs [],())).2.1 d.2.1).bind fun r4=>bif !r4 then e 7 2 a b c d else(ET (List.getD b.1 a.toNat (bs [],bs [],())).1).bind fun r5=>(ET (List.getD b.1 a.toNat (bs [],bs [],())).2.1).bind fun r6=>bif !(r5==r6) then e 7 2 a b c d else bif 0<=a then bif a<=(((List.length b.1):Nat):Int) then(rZ (List.drop 0 (List.take a.toNat b.1)) (List.getD b.1 a.toNat (bs [],bs [],())).1).bind fun r7=>bif r7.2 then e 10 2 a b c d else f (zW zI (a+1)) b c d else none else none) else g b c d
def zw5{R:Type}(a b c:Int)(d:ay)(e f:af)(g:Int->Int->Int->Option R):Option R:=
 g a b c
def R0{R:Type}(a:ay)(b c:af)(d:Int->Int->Int->Option R)(e:Int->ay->af->af->Option R):Option R:=
 bif 256<((List.length a.2.1):Int) then d 5 3 256 else e 0 a b c
def OE{R:Type}(a:Int)(b:ay)(c d:af)(e:Int->Int->Int->Option R)(f:Int->Int->ay->af->af->Option R)(g:Option R):Option R:=
 bif a<((List.length b.2.1):Int) then zd a (List.length b.2.1) ((se (List.getD b.2.1 a.toNat (0,0,0,bs [],[],())) c d).bind fun r8=>bif !decide (r8=0) then e r8 3 a else f a 0 b c d) else g
def zw6{R:Type}(a b c:Int)(d:Int->Int->Int->Option R):Option R:=
 d a b c
def zw7{R:Type}(a:Int->Int->Int->Option R):Option R:=
 a 0 0 0
def OG{R:Type}(a b:Int)(c:ay)(d e:af)(f:Int->Int->Int->Int->ay->af->af->Option R)(g:Int->Int->ay->af->af->Option R)(h:Int->ay->af->af->Option R):Option R:=
 bif b<a then zd b (List.length c.2.1) (zd a (List.length c.2.1) ((sj (List.getD c.2.1 b.toNat (0,0,0,bs [],[],())) (List.getD c.2.1 a.toNat (0,0,0,bs [],[],()))).bind fun r9=>bif r9 then f 10 3 a a c d e else g a (zW zI (b+1)) c d e)) else h a c d e
def zw8{R:Type}(a b c d:Int)(e:ay)(f g:af)(h:Int->Int->Int->Option R):Option R:=
 h a b c
def R3{R:Type}(a:Int)(b:ay)(c d:af)(e:Int->ay->af->af->Option R):Option R:=
 e (zW zI (a+1)) b c d
def D5:Nat->Int->ay->af->af->Option (Sum lG lF)
 |0,_,_,_,_=>none
 |k+1,v0,v1,v2,v3=>OD v0 v1 v2 v3 (fun a0 a1 a2 a3 a4 a5=>some (.inl (a0,a1,a2,a3,a4,a5))) (fun a0 a1 a2 a3=>D5 k a0 a1 a2 a3) (fun a0 a1 a2=>some (.inr (a0,a1,a2)))
def D7:Nat->Int->Int->ay->af->af->Option (Sum (Int×Int×Int×Int×ay×af×af) (Int×ay×af×af))
 |0,_,_,_,_,_=>none
 |k+1,v0,v1,v2,v3,v4=>OG v0 v1 v2 v3 v4 (fun a0 a1 a2 a3 a4 a5 a6=>some (.inl (a0,a1,a2,a3,a4,a5,a6))) (fun a0 a1 a2 a3 a4=>D7 k a0 a1 a2 a3 a4) (fun a0 a1 a2 a3=>some (.inr (a0,a1,a2,a3)))
def D6:Nat->Int->ay->af->af->Option (Sum je Unit)
 |0,_,_,_,_=>none
 |k+1,v0,v1,v2,v3=>OE v0 v1 v2 v3 (fun a0 a1 a2=>some (.inl (a0,a1,a2))) (fun a0 a1 a2 a3 a4=>(D7 ai a0 a1 a2 a3 a4).bind fun e=>Sum.elim (fun(we:(Int×Int×Int×Int×ay×af×af))=>zw8 we.1 we.2.1 we.2.2.1 we.2.2.2.1 we.2.2.2.2.1 we.2.2.2.2.2.1 we.2.2.2.2.2.2 (fun a0 a1 a2=>some (.inl (a0,a1,a2)))) (fun(we:(Int×ay×af×af))=>R3 we.1 we.2.1 we.2.2.1 we.2.2.2 (fun a0 a1 a2 a3=>D6 k a0 a1 a2 a3)) e) (some (.inr ()))
def sf(a:ay)(b c:af):Option je:=
 RZ a b c (fun a0 a1 a2=>some (a0,a1,a2)) (fun a0 a1 a2 a3=>(D5 ai a0 a1 a2 a3).bind fun e=>Sum.elim (fun(we:lG)=>zw5 we.1 we.2.1 we.2.2.1 we.2.2.2.1 we.2.2.2.2.1 we.2.2.2.2.2 (fun a0 a1 a2=>some (a0,a1,a2))) (fun(we:lF)=>R0 we.1 we.2.1 we.2.2 (fun a0 a1 a2=>some (a0,a1,a2)) (fun a0 a1 a2 a3=>(D6 ai a0 a1 a2 a3).bind fun e=>Sum.elim (fun(we:je)=>zw6 we.1 we.2.1 we.2.2 (fun a0 a1 a2=>some (a0,a1,a2))) (fun(we:Unit)=>zw7 (fun a0 a1 a2=>some (a0,a1,a2))) e)) e)
def Sj{R:Type}(a:au)(b:Bool->Option R)(c:Int->au->Option R):Option R:=
 bif 200<((List.length a.1.2.2.1):Int) then b true else bif 300<((List.length a.2.2.1):Int) then b true else bif 300<((List.length a.2.2.2.1):Int) then b true else c 0 a
def zwm{R:Type}(a:Int)(b:au)(c:Bool->Option R)(d:Int->au->Option R)(e:Option R):Option R:=
 bif a<((List.length b.2.2.2.1):Int) then zd a (List.length b.2.2.2.1) (bif 1200<(((List.getD b.2.2.2.1 a.toNat (0,bs [],())).2.1).size:Int) then c true else d (zW zI (a+1)) b) else e
def zwn{R:Type}(a:Bool)(b:Bool->Option R):Option R:=
 b a
def zwo{R:Type}(a:Bool->Option R):Option R:=
 a false
def OM:Nat->Int->au->Option (Sum Bool Unit)
 |0,_,_=>none
 |k+1,v0,v1=>zwm v0 v1 (fun a0=>some (.inl a0)) (fun a0 a1=>OM k a0 a1) (some (.inr ()))
def mo(a:au):Option Bool:=
 Sj a (fun a0=>some a0) (fun a0 a1=>(OM ai a0 a1).bind fun e=>Sum.elim (fun(we:Bool)=>zwn we (fun a0=>some a0)) (fun(we:Unit)=>zwo (fun a0=>some a0)) e)
def Sh{R:Type}(a:au)(b:au->Option R):Option R:=
 (Hj a.1).bind fun r1=>bif(List.length ([]:List Int)+List.length a.2.2.1)*8<=140737488355328 then bif(List.length ([]:List bh)+List.length a.2.2.2.1)*24<=140737488355328 then b (r1,a.2.1,[]++a.2.2.1,[]++a.2.2.2.1,()) else none else none
def sm(a:au):Option au:=
 Sh a (fun a0=>some a0)
def Sl{R:Type}(a:ap)(b c:Int)(d:ap->Int->Int->Int->Option R):Option R:=
 d a b c 0
def ON{R:Type}(a:ap)(b c d:Int)(e:Int->Option R)(f:ap->Int->Int->Int->Option R)(g:Option R):Option R:=
 bif d<b then zd d (List.length a) (bif(List.getD a d.toNat (0,bs [],())).1=c then e d else f a b c (zW zI (d+1))) else g
def zwq{R:Type}(a:Int)(b:Int->Option R):Option R:=
 b a
def zwr{R:Type}(a:Int->Option R):Option R:=
 a (-1:Int)
def Ea:Nat->ap->Int->Int->Int->Option (Sum Int Unit)
 |0,_,_,_,_=>none
 |k+1,v0,v1,v2,v3=>ON v0 v1 v2 v3 (fun a0=>some (.inl a0)) (fun a0 a1 a2 a3=>Ea k a0 a1 a2 a3) (some (.inr ()))
def qs(a:ap)(b c:Int):Option Int:=
 Sl a b c (fun a0 a1 a2 a3=>(Ea ai a0 a1 a2 a3).bind fun e=>Sum.elim (fun(we:Int)=>zwq we (fun a0=>some a0)) (fun(we:Unit)=>zwr (fun a0=>some a0)) e)
def Se{R:Type}(a:au)(b:Int->Int->Int->Option R)(c:Int->Int->au->Option R):Option R:=
 (Be a.1).bind fun r1=>bif !r1 then b 1 1 0 else(yh a.1 (39:Int)).bind fun r2=>bif r2<0 then b 9 1 1 else c r2 0 a
def OK{R:Type}(a b:Int)(c:au)(d:Int->Int->Int->Int->au->Option R)(e:Int->Int->au->Option R)(f:Int->au->Option R):Option R:=
 bif b<((List.length c.2.2.1):Int) then zd b (List.length c.2.2.1) ((yh c.1 (List.getD c.2.2.1 b.toNat (0:Int))).bind fun r3=>bif r3<0 then d 9 2 b a c else zd b (List.length c.2.2.1) (bif List.getD c.2.2.1 b.toNat 0=39 then d 1 2 b a c else bif 0<=b then bif b<=(((List.length c.2.2.1):Nat):Int) then zd b (List.length c.2.2.1) ((G8 (List.drop 0 (List.take b.toNat c.2.2.1)) (List.getD c.2.2.1 b.toNat (0:Int))).bind fun r4=>bif r4 then d 10 2 b a c else e a (zW zI (b+1)) c) else none else none)) else f a c
def zwj{R:Type}(a b c d:Int)(e:au)(f:Int->Int->Int->Option R):Option R:=
 f a b c
def Sf{R:Type}(a:Int)(b:au)(c:Int->Int->au->Option R):Option R:=
 c a 0 b
def OL{R:Type}(a b:Int)(c:au)(d:Int->Int->Int->au->Option R)(e:Int->Int->au->Option R)(f:au->Option R):Option R:=
 bif b<((List.length c.2.2.2.1):Int) then zd b (List.length c.2.2.2.1) (bif(List.getD c.2.2.2.1 b.toNat (0,bs [],())).1<0 then d 1 3 b c else zd b (List.length c.2.2.2.1) (bif 16<(List.getD c.2.2.2.1 b.toNat (0,bs [],())).1 then d 1 3 b c else zd b (List.length c.2.2.2.1) ((qs c.2.2.2.1 b (List.getD c.2.2.2.1 b.toNat (0,bs [],())).1).bind fun r5=>bif 0<=r5 then d 10 3 b c else zd a (List.length c.1.2.2.1) (zd b (List.length c.2.2.2.1) ((mB (List.getD c.1.2.2.1 a.toNat (0,0,0,0,0,())) (List.getD c.2.2.2.1 b.toNat (0,bs [],())).2.1).bind fun r6=>bif !decide (r6=0) then d r6 3 b c else e a (zW zI (b+1)) c))))) else f c
def zwk{R:Type}(a b c:Int)(d:au)(e:Int->Int->Int->Option R):Option R:=
 e a b c
def Sg{R:Type}(a:au)(b:Int->Int->Int->Option R):Option R:=
 (qs a.2.2.2.1 ((List.length a.2.2.2.1):Int) (0:Int)).bind fun r7=>bif r7<0 then b 15 3 ((List.length a.2.2.2.1):Int) else b 0 0 0
def D8:Nat->Int->Int->au->Option (Sum (Int×Int×Int×Int×au) (Int×au))
 |0,_,_,_=>none
 |k+1,v0,v1,v2=>OK v0 v1 v2 (fun a0 a1 a2 a3 a4=>some (.inl (a0,a1,a2,a3,a4))) (fun a0 a1 a2=>D8 k a0 a1 a2) (fun a0 a1=>some (.inr (a0,a1)))
def D9:Nat->Int->Int->au->Option (Sum (Int×Int×Int×au) au)
 |0,_,_,_=>none
 |k+1,v0,v1,v2=>OL v0 v1 v2 (fun a0 a1 a2 a3=>some (.inl (a0,a1,a2,a3))) (fun a0 a1 a2=>D9 k a0 a1 a2) (fun a0=>some (.inr a0))
def sk(a:au):Option je:=
 Se a (fun a0 a1 a2=>some (a0,a1,a2)) (fun a0 a1 a2=>(D8 ai a0 a1 a2).bind fun e=>Sum.elim (fun(we:(Int×Int×Int×Int×au))=>zwj we.1 we.2.1 we.2.2.1 we.2.2.2.1 we.2.2.2.2 (fun a0 a1 a2=>some (a0,a1,a2))) (fun(we:(Int×au))=>Sf we.1 we.2 (fun a0 a1 a2=>(D9 ai a0 a1 a2).bind fun e=>Sum.elim (fun(we:(Int×Int×Int×au))=>zwk we.1 we.2.1 we.2.2.1 we.2.2.2 (fun a0 a1 a2=>some (a0,a1,a2))) (fun(we:au)=>Sg we (fun a0 a1 a2=>some (a0,a1,a2))) e)) e)
def zx1{R:Type}(a:(List ByteArray))(b:(List ByteArray)->aN->Int->Option R):Option R:=
 b a [] 0
def zx2{R:Type}(a:(List ByteArray))(b:aN)(c:Int)(d:(List ByteArray)->aN->Int->Option R)(e:aN->Option R):Option R:=
 bif c<((List.length a):Int) then zd c (List.length a) (zd (zW zI (c+1)) (List.length a) (bif(List.length b+List.length ([(List.getD a c.toNat (bs []),List.getD a (zW zI (c+(1:Int))).toNat (bs []),())]:List dx))*32<=140737488355328 then d a (b++([(List.getD a c.toNat (bs []),List.getD a (zW zI (c+(1:Int))).toNat (bs []),())]:List dx)) (zW zI (c+2)) else none)) else e b
def zx3{R:Type}(a:aN)(b:aN->Option R):Option R:=
 b a
def Sv:Nat->(List ByteArray)->aN->Int->Option aN
 |0,_,_,_=>none
 |k+1,v0,v1,v2=>zx2 v0 v1 v2 (fun a0 a1 a2=>Sv k a0 a1 a2) (fun a0=>some a0)
def su(a:(List ByteArray)):Option aN:=
 zx1 a (fun a0 a1 a2=>(Sv ai a0 a1 a2).bind fun e=>zx3 e (fun a0=>some a0))
def zwy{R:Type}(a:bQ->(List Int)->Int->Option R):Option R:=
 W0.bind fun r1=>a [] r1 0
def zwz{R:Type}(a:bQ)(b:(List Int))(c:Int)(d:bQ->(List Int)->Int->Option R)(e:bQ->Option R):Option R:=
 bif c<((List.length b):Int) then zd c (List.length b) (bif List.getD b c.toNat 0=12 then zd c (List.length b) (zd c (List.length b) (bif(List.length a+List.length ([((4:Int),List.getD b c.toNat (0:Int),List.getD b c.toNat (0:Int),bs [],([]:List dx),())]:List aE))*64<=140737488355328 then d (a++([(4,List.getD b c.toNat 0,List.getD b c.toNat 0,bs [],[],())]:List aE)) b (zW zI (c+1)) else none)) else zd c (List.length b) (zd c (List.length b) (bif(List.length a+List.length ([((1:Int),List.getD b c.toNat (0:Int),List.getD b c.toNat (0:Int),bs [],([]:List dx),())]:List aE))*64<=140737488355328 then d (a++([(1,List.getD b c.toNat 0,List.getD b c.toNat 0,bs [],[],())]:List aE)) b (zW zI (c+1)) else none))) else e a
def zx0{R:Type}(a:bQ)(b:bQ->Option R):Option R:=
 b a
def St:Nat->bQ->(List Int)->Int->Option bQ
 |0,_,_,_=>none
 |k+1,v0,v1,v2=>zwz v0 v1 v2 (fun a0 a1 a2=>St k a0 a1 a2) (fun a0=>some a0)
def vk:Option bQ:=
 zwy (fun a0 a1 a2=>(St ai a0 a1 a2).bind fun e=>zx0 e (fun a0=>some a0))
def zwx{R:Type}(a b c:ByteArray)(d:ap->Option R):Option R:=
 d ([(0,a,()),(2,b,()),(3,b,()),(12,b,()),(9,b,()),(15,c,())]:List bh)
def vj(a b c:ByteArray):Option ap:=
 zwx a b c (fun a0=>some a0)
def zws{R:Type}(a:al->Option R):Option R:=
 (su ([(bs [48,49,48,48]),bs [49,49,48,48],bs [48,49,49,48],bs [49,49,49,48],bs [48,50,48,48],bs [49,50,48,48],bs [48,50,49,48],bs [49,50,49,48],bs [48,50,50,48],bs [49,50,50,48],bs [48,50,51,48],bs [49,50,51,48],bs [48,52,48,48],bs [49,52,48,48],bs [48,52,49,48],bs [49,52,49,48],bs [48,52,50,48],bs [49,52,50,48],bs [48,52,51,48],bs [49,52,51,48],bs [48,56,48,48],bs [49,56,48,52],bs [48,56,49,48],(bs [49,56,49,52])]:List ByteArray)).bind fun r1=>(su ([(bs [48,53,49]),bs [53,49,48,49,48,49,53,49,49,51,52,52],bs [48,50,49],bs [50,49,48,49,48,49,50,49,49,51,52,52],bs [48,49,50],(bs [49,48,48,49,52,48,49,48,48,49,49,48])]:List ByteArray)).bind fun r2=>(su ([(bs [48,48]),bs [48,48,48],bs [48,53],bs [49,48,48],bs [49,52],bs [49,49,49],bs [53,49],bs [49,49,54],bs [53,52],bs [49,48,49],bs [57,49],bs [57,48,55],bs [57,54],(bs [57,48,57])]:List ByteArray)).bind fun r3=>vk.bind fun r4=>bif(List.length r4+List.length ([((2:Int),(13:Int),(0:Int),bs [],([]:List dx),()),((2:Int),(18:Int),(0:Int),bs [],([]:List dx),()),((2:Int),(90:Int),(0:Int),bs [],([]:List dx),()),((5:Int),(22:Int),(22:Int),bs [],r2,()),((5:Int),(39:Int),(39:Int),bs [],r3,()),((1:Int),(43:Int),(43:Int),bs [],([]:List dx),()),((1:Int),(48:Int),(48:Int),bs [],([]:List dx),()),((3:Int),(0:Int),(26:Int),bs [53,57,57,57],([]:List dx),())]:List aE))*64<=140737488355328 then vk.bind fun r5=>(sd r2).bind fun r6=>(sd r3).bind fun r7=>bif(List.length r5+List.length ([((2:Int),(26:Int),(0:Int),bs [],([]:List dx),()),((2:Int),(43:Int),(0:Int),bs [],([]:List dx),()),((5:Int),(22:Int),(22:Int),bs [],r6,()),((5:Int),(39:Int),(39:Int),bs [],r7,()),((1:Int),(48:Int),(48:Int),bs [],([]:List dx),())]:List aE))*64<=140737488355328 then(P6 (0:Int)).bind fun r8=>(vj (bs [57,54]) (bs [51,48]) (bs [49,50])).bind fun r9=>zd 0 2 ((P6 (1:Int)).bind fun kl=>(sd r1).bind fun kE=>bif(List.length ([]:List Int)+List.length ([(2:Int),(3:Int),(4:Int),(7:Int),(11:Int),(12:Int),(32:Int),(37:Int),(41:Int),(42:Int),(70:Int)]:List Int))*8<=140737488355328 then(vj (bs [57,48,57]) (bs [57,48,52]) (bs [57,48,50])).bind fun nf=>zd 1 2 (a (List.set (List.set (List.replicate 2 ((0,0,[],()),([],[],()),[],[],())) ((0:Int)).toNat (r8,(r1,r4++([(2,13,0,bs [],[],()),(2,18,0,bs [],[],()),(2,90,0,bs [],[],()),(5,22,22,bs [],r2,()),(5,39,39,bs [],r3,()),(1,43,43,bs [],[],()),(1,48,48,bs [],[],()),(3,0,26,bs [53,57,57,57],[],())]:List aE),()),([2,3,4,7,11,12,32,37,41,42,70]:List Int),r9,())) ((1:Int)).toNat (kl,(kE,r5++([(2,26,0,bs [],[],()),(2,43,0,bs [],[],()),(5,22,22,bs [],r6,()),(5,39,39,bs [],r7,()),(1,48,48,bs [],[],())]:List aE),()),[]++([2,3,4,7,11,12,32,37,41,42,70]:List Int),nf,()),4096,())) else none) else none else none
def A6:Option al:=
 zws (fun a0=>some a0)
def Sq{R:Type}(a:al)(b:Bool->Option R):Option R:=
 zd 0 2 ((mo (List.getD a.1 ((0:Int)).toNat ((0,0,[],()),([],[],()),[],[],()))).bind fun r1=>bif r1 then b true else zd 1 2 ((mo (List.getD a.1 ((1:Int)).toNat ((0,0,[],()),([],[],()),[],[],()))).bind fun r2=>bif r2 then b true else zd 0 2 ((ly (List.getD a.1 ((0:Int)).toNat ((0,0,[],()),([],[],()),[],[],())).2.1).bind fun r3=>bif r3 then b true else zd 1 2 ((ly (List.getD a.1 ((1:Int)).toNat ((0,0,[],()),([],[],()),[],[],())).2.1).bind fun r4=>b r4))))
def mr(a:al):Option Bool:=
 Sq a (fun a0=>some a0)
def Sp{R:Type}(a:al)(b:Int->al->al->Option R):Option R:=
 b 0 a (List.replicate 2 ((0,0,[],()),([],[],()),[],[],()),0,())
def FD{R:Type}(a:Int)(b c:al)(d:Int->al->al->Option R)(e:al->al->Option R):Option R:=
 bif a<2 then zd a 2 ((si (List.getD b.1 a.toNat ((0,0,[],()),([],[],()),[],[],())).2.1).bind fun r1=>zd a 2 ((sm (List.getD b.1 a.toNat ((0,0,[],()),([],[],()),[],[],()))).bind fun r2=>zd a 2 (zd a 2 (d (zW zI (a+1)) (List.set (List.set b.1 a.toNat r2) a.toNat ((List.getD (List.set b.1 a.toNat r2) a.toNat ((0,0,[],()),([],[],()),[],[],())).1,r1,(List.getD (List.set b.1 a.toNat r2) a.toNat ((0,0,[],()),([],[],()),[],[],())).2.2.1,(List.getD (List.set b.1 a.toNat r2) a.toNat ((0,0,[],()),([],[],()),[],[],())).2.2.2.1,()),b.2.1,()) c)))) else e b c
def zww{R:Type}(a b:al)(c:al->Option R):Option R:=
 c a
def Ec:Nat->Int->al->al->Option (al×al)
 |0,_,_,_=>none
 |k+1,v0,v1,v2=>FD v0 v1 v2 (fun a0 a1 a2=>Ec k a0 a1 a2) (fun a0 a1=>some (a0,a1))
def sr(a:al):Option al:=
 Sp a (fun a0 a1 a2=>(Ec ai a0 a1 a2).bind fun e=>zww e.1 e.2 (fun a0=>some a0))
def Sn{R:Type}(a:al)(b:Int->Int->Int->Option R)(c:Int->al->Option R):Option R:=
 bif a.2.1<1 then b 5 2 0 else bif 65535<a.2.1 then b 5 2 0 else c 0 a
def FC{R:Type}(a:Int)(b:al)(c:Int->Int->Int->Option R)(d:Int->al->Option R)(e:Option R):Option R:=
 bif a<2 then zd a 2 ((sk (List.getD b.1 a.toNat ((0,0,[],()),([],[],()),[],[],()))).bind fun r1=>bif !decide (r1.1=0) then c r1.1 a 1 else zd a 2 (zd a 2 (zd (zW zI (1-a)) 2 ((sf (List.getD b.1 a.toNat ((0,0,[],()),([],[],()),[],[],())).2.1 (List.getD b.1 a.toNat ((0,0,[],()),([],[],()),[],[],())).1 (List.getD b.1 (zW zI (1-a)).toNat ((0,0,[],()),([],[],()),[],[],())).1).bind fun r2=>bif !decide (r2.1=0) then c r2.1 a 2 else d (zW zI (a+1)) b)))) else e
def zwu{R:Type}(a b c:Int)(d:Int->Int->Int->Option R):Option R:=
 d a b c
def zwv{R:Type}(a:Int->Int->Int->Option R):Option R:=
 a 0 0 0
def Eb:Nat->Int->al->Option (Sum je Unit)
 |0,_,_=>none
 |k+1,v0,v1=>FC v0 v1 (fun a0 a1 a2=>some (.inl (a0,a1,a2))) (fun a0 a1=>Eb k a0 a1) (some (.inr ()))
def sn(a:al):Option je:=
 Sn a (fun a0 a1 a2=>some (a0,a1,a2)) (fun a0 a1=>(Eb ai a0 a1).bind fun e=>Sum.elim (fun(we:je)=>zwu we.1 we.2.1 we.2.2 (fun a0 a1 a2=>some (a0,a1,a2))) (fun(we:Unit)=>zwv (fun a0 a1 a2=>some (a0,a1,a2))) e)
def Sr{R:Type}(a:al)(b:Bool->Option R):Option R:=
 (sn a).bind fun r1=>b (decide (r1.1=0))
def ss(a:al):Option Bool:=
 Sr a (fun a0=>some a0)
def zx8{R:Type}(a b:cp)(c:Bool->Option R)(d:cp->cp->Int->Option R):Option R:=
 bif !decide (((List.length a):Int)=((List.length b):Int)) then c false else d a b 0
def zx9{R:Type}(a b:cp)(c:Int)(d:Bool->Option R)(e:cp->cp->Int->Option R)(f:Option R):Option R:=
 bif c<((List.length a):Int) then zd c (List.length a) (zd c (List.length b) (bif !(decide ((List.getD a c.toNat (0,0,bs [],0,())).1=(List.getD b c.toNat (0,0,bs [],0,())).1)&&(decide ((List.getD a c.toNat (0,0,bs [],0,())).2.1=(List.getD b c.toNat (0,0,bs [],0,())).2.1)&&(decide ((List.getD a c.toNat (0,0,bs [],0,())).2.2.1=(List.getD b c.toNat (0,0,bs [],0,())).2.2.1)&&(decide ((List.getD a c.toNat (0,0,bs [],0,())).2.2.2.1=(List.getD b c.toNat (0,0,bs [],0,())).2.2.2.1)&&true)))) then d false else e a b (zW zI (c+1)))) else f
def zxa{R:Type}(a:Bool)(b:Bool->Option R):Option R:=
 b a
def zxb{R:Type}(a:Bool->Option R):Option R:=
 a true
def Sz:Nat->cp->cp->Int->Option (Sum Bool Unit)
 |0,_,_,_=>none
 |k+1,v0,v1,v2=>zx9 v0 v1 v2 (fun a0=>some (.inl a0)) (fun a0 a1 a2=>Sz k a0 a1 a2) (some (.inr ()))
def vl(a b:cp):Option Bool:=
 zx8 a b (fun a0=>some a0) (fun a0 a1 a2=>(Sz ai a0 a1 a2).bind fun e=>Sum.elim (fun(we:Bool)=>zxa we (fun a0=>some a0)) (fun(we:Unit)=>zxb (fun a0=>some a0)) e)
def Sx{R:Type}(a:ap)(b:Int)(c:ap->Int->Int->Int->Option R):Option R:=
 c a b ((List.length a):Int) 0
def Ed{R:Type}(a:ap)(b c d:Int)(e:Int->Bool->Int->Option R)(f:ap->Int->Int->Int->Option R)(g:Int->Int->Option R):Option R:=
 bif d<((List.length a):Int) then bif b<c then e b true c else zd d (List.length a) (bif b<(((List.getD a d.toNat (0,bs [],())).2.1).size:Int) then e b true c else zd d (List.length a) (f a b (zW zI (c+(((List.getD a d.toNat (0,bs [],())).2.1).size:Int))) (zW zI (d+1)))) else g b c
def zx5{R:Type}(a:Int)(b:Bool)(c:Int)(d:Bool->Option R):Option R:=
 d b
def zx6{R:Type}(a b:Int)(c:Bool->Option R):Option R:=
 c (decide (a<b))
def OO:Nat->ap->Int->Int->Int->Option (Sum Ik (Int×Int))
 |0,_,_,_,_=>none
 |k+1,v0,v1,v2,v3=>Ed v0 v1 v2 v3 (fun a0 a1 a2=>some (.inl (a0,a1,a2))) (fun a0 a1 a2 a3=>OO k a0 a1 a2 a3) (fun a0 a1=>some (.inr (a0,a1)))
def nJ(a:ap)(b:Int):Option Bool:=
 Sx a b (fun a0 a1 a2 a3=>(OO ai a0 a1 a2 a3).bind fun e=>Sum.elim (fun(we:Ik)=>zx5 we.1 we.2.1 we.2.2 (fun a0=>some a0)) (fun(we:(Int×Int))=>zx6 we.1 we.2 (fun a0=>some a0)) e)
def C6{R:Type}(a:Bool->Option R):Option R:=
 A6.bind fun r1=>(x8 r1).bind fun r2=>Sum.elim (fun(Co:Int)=>(x8 (List.replicate 2 ((0,0,[],()),([],[],()),[],[],()),0,())).bind fun r3=>Sum.elim (fun(rO:Int)=>bif !decide (Co=0) then a false else a false) (fun(rO:(Int×(al×(Option ag×Option ag)×Int)))=>bif !decide (Co=0) then a false else a false) r3) (fun(Co:(Int×(al×(Option ag×Option ag)×Int)))=>(x8 (List.replicate 2 ((0,0,[],()),([],[],()),[],[],()),0,())).bind fun r4=>Sum.elim (fun(wr4:Int)=>bif !decide (Co.1=0) then a false else(P5 Co.2 ([(0,bs [0],()),(1,bs [0,1,65],()),(0,bs [0],())]:List bh)).bind fun r5=>bif wr4=1 then(vl r5.1 ([(1,3,bs [],1,()),(0,4,bs [],1,())]:List lE)).bind fun r6=>bif r6 then(Bc r5.2).bind fun r7=>bif r7.1=1 then(vw r7.2 (0:Int)).bind fun r8=>bif r8.1 then(vw r8.2 (1:Int)).bind fun r9=>bif !r9.1 then(x7 r9.2 (1:Int)).bind fun kl=>a (decide (kl.1=0)) else a false else a false else a false else a false else a false) (fun(wr4:(Int×(al×(Option ag×Option ag)×Int)))=>bif !decide (Co.1=0) then a false else(P5 Co.2 ([(0,bs [0],()),(1,bs [0,1,65],()),(0,bs [0],())]:List bh)).bind fun kE=>bif wr4.1=1 then(vl kE.1 ([(1,3,bs [],1,()),(0,4,bs [],1,())]:List lE)).bind fun nf=>bif nf then(Bc kE.2).bind fun lX=>bif lX.1=1 then(vw lX.2 (0:Int)).bind fun nw=>bif nw.1 then(vw nw.2 (1:Int)).bind fun rM=>bif !rM.1 then(x7 rM.2 (1:Int)).bind fun xh=>a (decide (xh.1=0)) else a false else a false else a false else a false else a false) r4) r2
def vA:Option Bool:=
 C6 (fun a0=>some a0)
def V8{R:Type}(a:al)(b:ap)(c:Int)(d:Option R)(e:Bool->(al×(Option ag×Option ag)×Int)->Option R):Option R:=
 (mr a).bind fun r1=>bif r1 then d else(nJ b c).bind fun r2=>bif r2 then d else(ss a).bind fun r3=>bif !r3 then d else(sr a).bind fun r4=>(x8 r4).bind fun r5=>Sum.elim (fun(JV:Int)=>bif JV=0 then d else d) (fun(JV:(Int×(al×(Option ag×Option ag)×Int)))=>bif JV.1=0 then e true JV.2 else e false JV.2) r5
def EQ(a:al)(b:ap)(c:Int):Option (Sum Unit (Bool×(al×(Option ag×Option ag)×Int))):=
 V8 a b c (some (.inl ())) (fun a0 a1=>some (.inr (a0,a1)))
def V5{R:Type}(a:al)(b:ap)(c:Int)(d:Bool->Option R)(e:Int->Bool->ap->Int->Int->al->(al×(Option ag×Option ag)×Int)->Option R):Option R:=
 (EQ a b (2500:Int)).bind fun r1=>Sum.elim (fun(QH:Unit)=>vA.bind fun r2=>bif !r2 then vA.bind fun r3=>d r3 else vA.bind fun r4=>d r4) (fun(QH:(Bool×(al×(Option ag×Option ag)×Int)))=>vA.bind fun r5=>bif !r5 then vA.bind fun r6=>d r6 else bif !QH.1 then vA.bind fun r7=>d r7 else e c QH.1 b ((List.length b):Int) 0 a QH.2) r1
def PD{R:Type}(a:Int)(b:Bool)(c:ap)(d e:Int)(f:al)(g:(al×(Option ag×Option ag)×Int))(h:Int->Bool->ap->Int->Int->Int->al->(al×(Option ag×Option ag)×Int)->Option R)(i:Int->Bool->(al×(Option ag×Option ag)×Int)->Option R):Option R:=
 bif e<d then zd e (List.length c) ((vz g (List.getD c e.toNat (0,bs [],()))).bind fun r8=>h a b c d e 0 f r8.2) else i a b g
def V6{R:Type}(a:Int)(b:Bool)(c:(al×(Option ag×Option ag)×Int))(d:Bool->Option R):Option R:=
 bif a=0 then d true else bif a=1 then d true else(Bc c).bind fun r9=>(vz r9.2 (a,bs [0,1,65,0,0],())).bind fun kl=>bif((List.length kl.1):Int)=0 then(x7 kl.2 a).bind fun kE=>bif kE.1=0 then(vw kE.2 a).bind fun nf=>bif !nf.1 then(Bc nf.2).bind fun lX=>d (decide (lX.1=r9.1)) else d false else d false else d false
def FW{R:Type}(a:Int)(b:Bool)(c:ap)(d e f:Int)(g:al)(h:(al×(Option ag×Option ag)×Int))(i:Int->Bool->Bool->ap->Int->Int->al->(al×(Option ag×Option ag)×Int)->Option R)(j:Int->Bool->ap->Int->Int->Int->al->(al×(Option ag×Option ag)×Int)->Option R)(l:Int->Bool->ap->Int->Int->al->(al×(Option ag×Option ag)×Int)->Option R):Option R:=
 bif f<2 then(x7 h f).bind fun nw=>bif nw.1<0 then i a false b c d e g nw.2 else bif zW zI (g.2.1+2)<=nw.1 then i a false b c d e g nw.2 else j a b c d e (zW zI (f+1)) g nw.2 else l a b c d e g h
def C4{R:Type}(a:Int)(b c:Bool)(d:ap)(e f:Int)(g:al)(h:(al×(Option ag×Option ag)×Int))(i:Int->Bool->Bool->(al×(Option ag×Option ag)×Int)->Option R):Option R:=
 i a b c h
def V7{R:Type}(a:Int)(b:Bool)(c:ap)(d e:Int)(f:al)(g:(al×(Option ag×Option ag)×Int))(h:Int->Bool->ap->Int->Int->al->(al×(Option ag×Option ag)×Int)->Option R):Option R:=
 h a b c d (zW zI (e+1)) f g
def C5{R:Type}(a:Int)(b c:Bool)(d:(al×(Option ag×Option ag)×Int))(e:Bool->Option R):Option R:=
 e b
def AV:Nat->Int->Bool->ap->Int->Int->Int->al->(al×(Option ag×Option ag)×Int)->Option (Sum (Int×Bool×Bool×ap×Int×Int×al×(al×(Option ag×Option ag)×Int)) (Int×Bool×ap×Int×Int×al×(al×(Option ag×Option ag)×Int)))
 |0,_,_,_,_,_,_,_,_=>none
 |k+1,v0,v1,v2,v3,v4,v5,v6,v7=>FW v0 v1 v2 v3 v4 v5 v6 v7 (fun a0 a1 a2 a3 a4 a5 a6 a7=>some (.inl (a0,a1,a2,a3,a4,a5,a6,a7))) (fun a0 a1 a2 a3 a4 a5 a6 a7=>AV k a0 a1 a2 a3 a4 a5 a6 a7) (fun a0 a1 a2 a3 a4 a5 a6=>some (.inr (a0,a1,a2,a3,a4,a5,a6)))
def ED:Nat->Int->Bool->ap->Int->Int->al->(al×(Option ag×Option ag)×Int)->Option (Sum (Int×Bool×(al×(Option ag×Option ag)×Int)) (Int×Bool×Bool×(al×(Option ag×Option ag)×Int)))
 |0,_,_,_,_,_,_,_=>none
 |k+1,v0,v1,v2,v3,v4,v5,v6=>PD v0 v1 v2 v3 v4 v5 v6 (fun a0 a1 a2 a3 a4 a5 a6 a7=>(AV ai a0 a1 a2 a3 a4 a5 a6 a7).bind fun e=>Sum.elim (fun(we:(Int×Bool×Bool×ap×Int×Int×al×(al×(Option ag×Option ag)×Int)))=>C4 we.1 we.2.1 we.2.2.1 we.2.2.2.1 we.2.2.2.2.1 we.2.2.2.2.2.1 we.2.2.2.2.2.2.1 we.2.2.2.2.2.2.2 (fun a0 a1 a2 a3=>some (.inr (a0,a1,a2,a3)))) (fun(we:(Int×Bool×ap×Int×Int×al×(al×(Option ag×Option ag)×Int)))=>V7 we.1 we.2.1 we.2.2.1 we.2.2.2.1 we.2.2.2.2.1 we.2.2.2.2.2.1 we.2.2.2.2.2.2 (fun a0 a1 a2 a3 a4 a5 a6=>ED k a0 a1 a2 a3 a4 a5 a6)) e) (fun a0 a1 a2=>some (.inl (a0,a1,a2)))
def G0(a:al)(b:ap)(c:Int):Option Bool:=
 V5 a b c (fun a0=>some a0) (fun a0 a1 a2 a3 a4 a5 a6=>(ED ai a0 a1 a2 a3 a4 a5 a6).bind fun e=>Sum.elim (fun(we:(Int×Bool×(al×(Option ag×Option ag)×Int)))=>V6 we.1 we.2.1 we.2.2 (fun a0=>some a0)) (fun(we:(Int×Bool×Bool×(al×(Option ag×Option ag)×Int)))=>C5 we.1 we.2.1 we.2.2.1 we.2.2.2 (fun a0=>some a0)) e)
end bE

