/- No condition. -/
import Derived.Test.YtpjkbbihjoflnaaGreatDoorK1
import Derived.OpenShut
import Derived.Deep.Slices
import Derived.Shelf.Strings.Repeat
set_option linter.unusedVariables false
set_option linter.unusedSimpArgs false
set_option maxRecDepth 100000
namespace Go.Ref
open Go
variable {P:Program} {E:Env} {X:ax} {s:State} {a:Act}
def eU(X Y:ax):Prop:=Y.w=X.w/\∀g j p n,X.ow g= .row (.r j p) n->Y.ow g= .row (.r j p) n
theorem eU.refl(X:ax):eU X X:=⟨rfl,fun _ _ _ _ h=>h⟩
theorem eU.trans{X Y Z:ax}(h:eU X Y)(k:eU Y Z):eU X Z:=⟨k.1.trans h.1,fun g j p n e=>k.2 g j p n (h.2 g j p n e)⟩
theorem aA.AX{X Y:ax}(h:eU X Y)(hx:Ext X Y)(hβ:Y.β=X.β){j:Nat}{sv:SV}{v:Value}(hn:sv.bO=false)(hr:aA X (.r j) sv v):aA Y (.r j) sv v:=by
 cases sv with
 |undef=>trivial
 |skip=>exact hr
 |cF=>exact hr
 |dS=>exact hr
 |over=>exact hr
 |ak t x own=>
  obtain⟨cs,h1,h2,h3⟩:=hr
  refine⟨cs,h1.mono hx,h2,fun p hp=> ?_⟩
  obtain⟨e,t',xs,v,g0,g1,g2,g3⟩:=h3 p hp
  refine⟨e,t',xs,v,g0,g1,g2,?_⟩
  rcases g3 with ho|⟨g,cap,cur,k1,k2,k3,k4,k5,k6⟩
  ·exact .inl ho
  ·exact .inr ⟨g,cap,cur,k1,by rw[h.1];exact k2,k3,k4,k5,h.2 _ _ _ _ k6⟩
 |ptr id t p=>obtain⟨r,h1,h2⟩:=hr;exact⟨r,by rw[hβ];exact h1,h2⟩
 |view t x=>
  obtain⟨ad,cs,h1,h2,h3,h4⟩:=hr
  exact⟨ad,cs,h1,h2,h3.mono hx,fun i u hi=>hx.az _ _ (h4 i u hi)⟩
 |cap f t x u y=>exact rN hx.az hr
 |bz id a b k=>cases hn
theorem adT{X:ax}{i j:Nat}{q:List Nat->Place}:eU X (X.turn i j q):=⟨rfl,fun g j p n h=>by simp only[ax.turn,h]⟩
theorem acO{X:ax}{id:Nat}{p:List Nat}{q:List Nat->Place}:eU X (X.gQ id p q):=⟨rfl,fun g j p n h=>by simp only[ax.gQ,h]⟩
theorem Dz(hE:ap P E):∀(rs:List ResultVar) (X:ax) (s s':State) (l:List SV) (j0:Nat),Rel X s a->gO E s rs=some (l,s')->
 ∃Y vs,Y.w=X.w/\Ext X Y/\eU X Y/\Y.β=X.β/\Rel Y s' a/\vs.length=l.length/\(∀(j:Nat) sv v,l[j]? =some sv->vs[j]? =some v->aA Y (.r (j0+j)) sv v)/\l.any SV.bO=false/\
  (rs.mapM (m:=Sem) fun x=>match x with
    | .tmp t=>pure (a.tmps.getD t Go.undef)
    | .cell ad t=>do loadVar t (<-asAddr (a.tmps.getD ad Go.undef))).run P X.w= .ok vs X.w
 | [],X,s,s',l,j0,hr,h=>by
   simp only[gO,Option.some.injEq,Prod.mk.injEq] at h
   obtain⟨rfl,rfl⟩:=h
   exact⟨X,[],rfl,Ext.refl X,eU.refl X,rfl,hr,rfl,(fun j sv v hl=>by simp at hl),rfl,by simp⟩
 | .tmp t::r,X,s,s',l,j0,hr,h=>by
   simp only[gO] at h
   split at h
   case isTrue=>cases h
   rename_i dU
   have dU:(one (s.slot t)).bO=false:=by simpa using dU
   split at h
   case h_2=>cases h
   rename_i l1 s1 h1
   cases h
   have key:∃Y,Y.w=X.w/\Ext X Y/\eU X Y/\Y.β=X.β/\Rel Y (s.close [(t,0)]) a/\aA Y (.r j0) (one (s.slot t)) (a.tmps.getD t Go.undef):=by
    have cC:=hr.aH (.tmp t)
    cases hs:one (s.slot t) with
    |ak ty x w=>
     have cC:aA X (.c t 0) (one (s.slot t)) (a.tmps.getD t Go.undef):=cC
     rw[hs] at cC
     obtain⟨cs,g1,g2,g3⟩:=cC
     have hT:dX (s.close [(t,0)]) X (X.turn t 0 (.r j0)):=Mv fun p=>cV.close
     exact⟨X.turn t 0 (.r j0),rfl,hT.ext,adT,rfl,(hr.close _).mod hT.mod,cs,g1.aj (fun _ _=>hT.az.1),g2,g3.mo⟩
    |bz id c b n=>rw[hs] at dU;cases dU
    |_=>
     refine⟨X,rfl,Ext.refl X,eU.refl X,rfl,hr.close _,?_⟩
     have cC:aA X (.c t 0) (one (s.slot t)) (a.tmps.getD t Go.undef):=cC
     rw[hs] at cC
     exact cC
   obtain⟨Y,hw,aZ,bR,hβ,bu,aL⟩:=key
   obtain⟨Z,vs,vp,cc,uw,hβ2,c9,hlen,ng,ui,aX⟩:=Dz hE r Y _ s' l1 (j0+1) bu h1
   refine⟨Z,a.tmps.getD t Go.undef::vs,vp.trans hw,aZ.trans cc,bR.trans uw,hβ2.trans hβ,c9,by simp [hlen],fun j sv v hl hv=> ?_,?_,?_⟩
   ·cases j with
    |zero=>
     simp only[List.getElem?_cons_zero,Option.some.injEq] at hl hv
     subst hl hv
     exact aL.AX uw cc hβ2 dU
    |succ j=>
     simp only[List.getElem?_cons_succ] at hl hv
     rw[show j0+(j+1)=j0+1+j by omega]
     exact ng j sv v hl hv
   ·simp only[List.any_cons,dU,ui,Bool.or_self]
   ·rw[hw] at aX
    simp only[List.mapM_cons,Sem.run_bind,Sem.run_pure,Result.andThen_ok,aX]
 | .cell p T::r,X,s,s',l,j0,hr,h=>by
   simp only[gO] at h
   split at h
   case h_2=>cases h
   rename_i id tt t iA hT
   split at h
   case h_2=>cases h
   rename_i B hB
   split at h
   case isFalse=>cases h
   rename_i heq
   rw[Bool.and_eq_true] at heq
   have eb:tt.bI=false:=by simpa using heq.2
   have hte:=Ty.aJ heq.1
   have Zv:B.t.bI=false:=hte▸hE.iW hT
   split at h
   case h_2=>cases h
   rename_i l1 s1 h1
   cases h
   have hb:=qB hB
   obtain⟨r0,hβ,tT⟩:=hr.boxes id B hb
   obtain⟨cs,T',aE,aL,how,bU⟩:=tT.cells Zv
   have ej:=hr.slot p
   rw[iA] at ej
   obtain⟨r1,hβ1,hvp⟩:aA X (.c p 0) (.ptr id tt []) (a.tmps.getD p Go.undef):=ej
   obtain⟨hv,_⟩:=(qA eb).1 hvp
   rw[hβ] at hβ1
   cases hβ1
   have dQ:Rel X (s.aC (some (id,{B with own:=[]}))) a:=hr.mm hb hβ ⟨how,dy.of Zv aE aL mE⟩ (.inl (QS Zv))
   have Ge:∀q,¬cV (s.aC (some (id,{B with own:=[]}))) (.b id ([]++q)):=by
    rintro q ⟨B2,cU,hp⟩
    rw[Sz hb] at cU
    cases cU
    cases hp
   have mz:=zwa (X:=X) (q:= .r j0) Ge
   have Kk:aA (X.gQ id [] (.r j0)) (.r j0) (.ak B.t B.x B.own) (dR B.t cs.toList):=by
    refine⟨cs.toList,aL.aj (fun _ _=>mz.az.1),rfl,fun q hq=> ?_⟩
    obtain⟨e,t',xs,v,g0,g1,g2,g3⟩:=bU q hq
    exact⟨e,t',xs,v,g0,g1,g2,bq.qy (p:=[]) g3⟩
   obtain⟨Z,vs,vp,cc,uw,hβ2,c9,hlen,ng,ui,aX⟩:=Dz hE r (X.gQ id [] (.r j0)) _ s' l1 (j0+1) (dQ.mod mz.mod) h1
   refine⟨Z,dR B.t cs.toList::vs,vp,mz.ext.trans cc,acO.trans uw,hβ2,c9,by simp [hlen],fun j sv v hl hv=> ?_,?_,?_⟩
   ·cases j with
    |zero=>
     simp only[List.getElem?_cons_zero,Option.some.injEq] at hl hv
     subst hl hv
     exact Kk.AX uw cc hβ2 rfl
    |succ j=>
     simp only[List.getElem?_cons_succ] at hl hv
     rw[show j0+(j+1)=j0+1+j by omega]
     exact ng j sv v hl hv
   ·simpa [SV.bO] using ui
   ·have hl:=A6 (P:=P) hE (hte▸hT:E.ty T=some B.t) aL (ad:=⟨r0,0,none⟩) (w:=X.w) (fun i v hi=>by
     rw[iM,Nat.zero_add]
     simp only[World.cell?,aE]
     simpa using hi)
    have hw3:(X.gQ id [] (.r j0)).w=X.w:=rfl
    rw[hw3] at aX
    have ji:a.tmps.getD p Go.undef= .pointer (some ⟨r0,0,none⟩):=by simpa [Ty.off] using hv
    have ha:(asAddr (.pointer (some ⟨r0,0,none⟩))).run P X.w= .ok ⟨r0,0,none⟩ X.w:=by simp [asAddr]
    simp only[List.mapM_cons,Sem.run_bind,Sem.run_pure,Result.andThen_ok,aX,ji,ha,hl]
def ax.zero(X:ax)(id:Nat):ax:=
 {X with ow:=fun g=>match X.ow g with
  | .box bc=>if bc=id then .box 0 else .box bc
  | .row (.b bc p) n=>if bc=id then .row (.b 0 p) n else .row (.b bc p) n
  |w=>w}
theorem GD{id:Nat}{ad:Addr}{v:Value}(h:X.az ad v):(X.zero id).az ad v:=by
 refine⟨h.1,h.2.1,?_⟩
 have:=h.2.2
 simp only[ax.zero]
 cases hx:X.ow ad.block with
 |box i=>rw[hx] at this;exact this.elim
 |row pl n=>
  rw[hx] at this
  cases pl with
  |b i p=>simp only;split<;>exact this
  |_=>exact this
 |_=>rw[hx] at this;exact this
theorem akJ{id:Nat}:Ext X (X.zero id) where
 az:=fun _ _=>GD
 size:=Nat.le_refl _
 os:=rfl
 tape:=rfl
 output:=rfl
 β0:=rfl
 still:=fun g _ bR=>by
  refine⟨?_,rfl⟩
  simp only[ax.zero]
  cases hx:X.ow g with
  |box i=>rw[hx] at bR;exact bR.elim
  |row pl n=>rw[hx] at bR;exact bR.elim
  |_=>rfl
theorem bF.zero{id r:Nat}{B:bE}(h:bF X id r B):bF (X.zero id) 0 r B:=by
 obtain⟨h3,h1⟩:=h
 refine⟨by simp [ax.zero,h3],h1.move (fun _ _=>GD) rfl (fun cs h4 p hp=> ?_) fun _ _ g o _ ho hw=>⟨ho,by simp [ax.zero,hw]⟩⟩
 obtain⟨e,t',xs,v,g0,g1,g2,g3⟩:=h4 p hp
 refine⟨e,t',xs,v,g0,g1,g2,?_⟩
 rcases g3 with ho|⟨g,cap,cur,k1,k2,k3,k4,k5,k6⟩
 ·exact .inl ho
 ·exact .inr ⟨g,cap,cur,k1,k2,k3,k4,k5,by simp [ax.zero,k6]⟩
theorem aA.zero{id j r0:Nat}{sv:SV}{v:Value}(hp:∀bc t p,sv= .ptr bc t p->X.β bc=some r0)(hn:sv.bO=false)(h:aA X (.r j) sv v):aA {X.zero id with β:=fun _=>some r0} (.r j) (sv.gx 0) v:=by
 cases sv with
 |undef=>trivial
 |skip=>exact h
 |cF=>exact h
 |dS=>exact h
 |over=>exact h
 |ak t x own=>
  obtain⟨cs,h1,h2,h3⟩:=h
  refine⟨cs,bh.aj (Y:={X.zero id with β:=fun _=>some r0}) (fun ad v hs=>(GD hs:(X.zero id).az ad v)) h1,h2,fun p hp=> ?_⟩
  obtain⟨e,t',xs,v,g0,g1,g2,g3⟩:=h3 p hp
  refine⟨e,t',xs,v,g0,g1,g2,?_⟩
  rcases g3 with ho|⟨g,cap,cur,k1,k2,k3,k4,k5,k6⟩
  ·exact .inl ho
  ·exact .inr ⟨g,cap,cur,k1,k2,k3,k4,k5,by simp [ax.zero,k6]⟩
 |ptr bc t p=>
  obtain⟨r,h1,h2⟩:=h
  have:=hp bc t p rfl
  rw[h1] at this
  cases this
  exact⟨r0,rfl,h2⟩
 |view t x=>
  obtain⟨ad,cs,h1,h2,h3,h4⟩:=h
  exact⟨ad,cs,h1,h2,bh.aj (Y:={X.zero id with β:=fun _=>some r0}) (fun ad v hs=>(GD hs:(X.zero id).az ad v)) h3,fun i u hi=>(GD (h4 i u hi):(X.zero id).az _ _)⟩
 |cap f t x u y=>exact rN (Y:={X.zero id with β:=fun _=>some r0}) (fun ad v hs=>(GD hs:(X.zero id).az ad v)) h
 |bz bc a b k=>cases hn
theorem aA.anyβ{j r0:Nat}{sv:SV}{v:Value}(hp:∀bc t p,sv≠ .ptr bc t p)(hn:sv.bO=false)(h:aA X (.r j) sv v):aA {X with β:=fun _=>some r0} (.r j) sv v:=by
 cases sv with
 |undef=>trivial
 |skip=>exact h
 |cF=>exact h
 |dS=>exact h
 |over=>exact h
 |ak t x own=>
  obtain⟨cs,h1,h2,h3⟩:=h
  exact⟨cs,bh.aj (X:=X) (Y:={X with β:=fun _=>some r0}) (fun ad v (hs:X.az ad v)=>(hs:({X with β:=fun _=>some r0}:ax).az ad v)) h1,h2,h3⟩
 |ptr bc t p=>exact absurd rfl (hp bc t p)
 |view t x=>
  obtain⟨ad,cs,h1,h2,h3,h4⟩:=h
  exact⟨ad,cs,h1,h2,bh.aj (X:=X) (Y:={X with β:=fun _=>some r0}) (fun ad v (hs:X.az ad v)=>(hs:({X with β:=fun _=>some r0}:ax).az ad v)) h3,h4⟩
 |cap f t x u y=>exact rN (X:=X) (Y:={X with β:=fun _=>some r0}) (fun ad v (hs:X.az ad v)=>(hs:({X with β:=fun _=>some r0}:ax).az ad v)) h
 |bz bc a b k=>cases hn
theorem S9:∀{l:List SV} {id:Nat} {t:Ty} {p:List Nat},SV.ptr id t p∈l->id∈Bs l
 |v::r,id,t,p,h=>by
  rcases List.mem_cons.1 h with e|h
  ·subst e;simp [Bs]
  ·have:=S9 h
   cases v<;>simp [Bs,this]
theorem Dy{l:List SV}{vs:List Value}(hlen:vs.length=l.length)(h:∀(j:Nat) sv v,l[j]? =some sv->vs[j]? =some v->aA X (.r j) sv v):cM X .r l (if h:vs.toArray.size=1 then vs.toArray[0] else .tuple vs.toArray):=by
 match l,vs,hlen with
 | [sv],[v],_=>exact h 0 sv v rfl rfl
 | [],[],_=>exact⟨#[],rfl,rfl,fun j s u hs=>by simp at hs⟩
 |x::y::r,u::v::w,hlen=>
  refine⟨(u::v::w).toArray,by simp,by simpa using hlen,fun j s z hs hz=>h j s z hs (by simpa using hz)⟩
theorem ab8{Z:ax}{s':State}{b:Option bE}{l' r:List SV}{b':Option bE}{vs:List Value}(hX:Ext X Z)(c9:Rel Z s' a)(hlen:vs.length=l'.length)(iR:∀(j:Nat) sv v,l'[j]? =some sv->vs[j]? =some v->aA Z (.r j) sv v)
 (dU:l'.any SV.bO=false) (eP:Hm s' b l' (fun r b=>some (r,b))=some (r,b')):∃Y',Y'.w=Z.w/\Ext X Y'/\yl X Y' b r b' (if h:vs.toArray.size=1 then vs.toArray[0] else .tuple vs.toArray):=by
 unfold Hm at eP
 cases b with
 |some B=>
  cases hp:Bs l' with
  |cons _ _=>rw[hp] at eP;cases eP
  |nil=>
   rw[hp] at eP
   have nJ:∀id t p,SV.ptr id t p∉l':=fun id t p hm=>by
    have:=S9 hm
    rw[hp] at this;cases this
   cases eA:s'.box 0 with
   |none=>simp only[eA] at eP;cases eP
   |some B'=>
    simp only[eA] at eP
    cases eP
    obtain⟨r0,h3,h4⟩:=c9.boxes 0 B' (qB eA)
    refine⟨Z,rfl,hX,r0,Dy hlen fun j sv v h1 h2=>(iR j sv v h1 h2).anyβ (fun id t p e=>nJ id t p (e▸List.mem_of_getElem? h1)) (by simpa using List.any_eq_false.1 dU sv (List.mem_of_getElem? h1)),fun B2 cU=> ?_,fun _=>nJ,dU⟩
    cases cU
    exact⟨h4,fun _=>by rw[<-hX.β0];exact h3⟩
 |none=>
  cases hp:Bs l' with
  |nil=>
   rw[hp] at eP
   have nJ:∀id t p,SV.ptr id t p∉l':=fun id t p hm=>by
    have:=S9 hm
    rw[hp] at this;cases this
   cases eP
   exact⟨Z,rfl,hX,0,Dy hlen fun j sv v h1 h2=>(iR j sv v h1 h2).anyβ (fun id t p e=>nJ id t p (e▸List.mem_of_getElem? h1)) (by simpa using List.any_eq_false.1 dU sv (List.mem_of_getElem? h1)),(fun B2 cU=>by cases cU),fun _=>nJ,dU⟩
  |cons id rest=>
   rw[hp] at eP
   cases rest with
   |cons _ _=>cases eP
   |nil=>
    cases hB:s'.box id with
    |none=>simp only[hB] at eP;cases eP
    |some B=>
     simp only[hB] at eP
     cases eP
     obtain⟨r0,h3,h4⟩:=c9.boxes id B (qB hB)
     refine⟨Z.zero id,rfl,hX.trans akJ,r0,?_,fun B2 cU=> ?_,fun hh=> ?_,Mk dU⟩
     ·refine Dy (by simpa using hlen) fun j sv v h1 h2=> ?_
      rw[List.getElem?_map] at h1
      obtain⟨s0,fb,rfl⟩:=Option.map_eq_some_iff.1 h1
      refine(iR j s0 v fb h2).zero (fun bc t p e=> ?_) (by simpa using List.any_eq_false.1 dU s0 (List.mem_of_getElem? fb))
      have:=S9 (e▸List.mem_of_getElem? fb)
      rw[hp] at this
      simp only[List.mem_singleton] at this
      subst this
      exact h3
     ·cases cU
      exact⟨h4.zero,fun hh=>by cases hh⟩
     ·rcases hh with hh|hh<;>cases hh
theorem SO:∀(ts:List Ty) (l:List SV),(aM ts l).length=l.length
 | [],l=>by simp [aM]
 |t::r,[]=>by simp [aM]
 |t::r,v::q=>by
  cases t<;>cases v<;>simp [aM,SO r q]
theorem L9{X:ax}:∀(ts:List Ty) (l:List SV) (i:Nat) (sv:SV) (v:Value),(aM ts l)[i]? =some sv->(∀sv,l[i]? =some sv->∃pl,aA X pl sv v)->∀q,(∃xN,l[i]? =some xN/\(sv=xN\/sv=xN.shut\/xN= .cF))/\((∀xN,l[i]? =some xN->aA X q xN v)->aA X q sv v)
 | [],l,i,sv,v,h,_,q=>by
   have h:l[i]? =some sv:=by simpa [aM] using h
   exact⟨⟨sv,h,.inl rfl⟩,fun hh=>hh sv h⟩
 |t::r,[],i,sv,v,h,_,q=>by simp [aM] at h
 |t::r,x::y,i,sv,v,h,hx,q=>by
  cases i with
  |zero=>
   have key:(aM (t::r) (x::y))[0]? =some sv->(sv=x.shut)\/(x= .cF/\∃e u,sv= .ak (.sl e u) ([]:List (El u)) []):=by
    intro h
    cases t<;>cases x<;>simp only[aM,List.getElem?_cons_zero,Option.some.injEq] at h<;>first|exact .inl h.symm|exact .inr ⟨rfl,_,_,h.symm⟩
   rcases key h with rfl|⟨rfl,e,u,rfl⟩
   ·exact⟨⟨x,rfl,.inr (.inl rfl)⟩,fun hh=>(hh x rfl).shut⟩
   ·refine⟨⟨_,rfl,.inr (.inr rfl)⟩,fun hh=> ?_⟩
    have:=hh _ rfl
    exact⟨[.slice none 0 0],⟨none,0,rfl,Nat.le_refl _,fun j x hj=>by simp at hj⟩,this,mE⟩
  |succ i=>
   have h':(aM r y)[i]? =some sv:=by
    cases t<;>cases x<;>simpa [aM] using h
   have:=L9 r y i sv v h' (fun sv hs=>hx sv (by simpa using hs)) q
   simpa using this
theorem agM{ts:List Ty}{l:List SV}{id:Nat}{t:Ty}{p:List Nat}(h:SV.ptr id t p∈aM ts l):SV.ptr id t p∈l:=by
 induction ts generalizing l with
 |nil=>simpa [aM] using h
 |cons u r ih=>
  cases l with
  |nil=>simp [aM] at h
  |cons v q=>
   have key:SV.ptr id t p=v.shut\/SV.ptr id t p∈aM r q:=by
    cases u<;>cases v<;>simp [aM,SV.shut] at h⊢ <;>first|exact h|exact .inr h|skip
   rcases key with e|hm
   ·rw[Ta e.symm];simp
   ·exact List.mem_cons_of_mem _ (ih hm)
theorem agL{ts:List Ty}{l:List SV}{id j:Nat}{c d:Ty}(h:SV.bz id c d j∈aM ts l):SV.bz id c d j∈l:=by
 induction ts generalizing l with
 |nil=>simpa [aM] using h
 |cons u r ih=>
  cases l with
  |nil=>simp [aM] at h
  |cons v q=>
   have key:SV.bz id c d j=v.shut\/SV.bz id c d j∈aM r q:=by
    cases u<;>cases v<;>simp [aM,SV.shut] at h⊢ <;>first|exact h|exact .inr h|skip
   rcases key with e|hm
   ·have:=zr3 v
    rw[<-e] at this
    cases this
   ·exact List.mem_cons_of_mem _ (ih hm)
theorem amB(hE:ap P E)(hm:P.follows .mixedOrders=true){C C0:ah}(hC0:C0.Nat)(Zk:∀f,cW P C0 f){f:FuncId}{fn:Func}{code:Code}(iL:P.funcs[f]? =some fn)(ug:(fn.name== "runtime.NumGoroutine")=false)(qs:fn.body=some code)
 (hC:∀(l:List SV) (b:Option bE) (r:List SV) (b':Option bE),C (List SV×Option bE) f l b (fun r b=>some (r,b))=some (r,b')->∃k,jC E (C0 (List SV×Option bE)) k fn code l b (fun r b=>some (r,b))=some (r,b')):cW P C f:=by
 intro l b r b' h
 refine⟨⟨fn,code,iL,ug,qs⟩,fun X args ia=> ?_⟩
 obtain⟨k,h⟩:=hC l b r b' h
 unfold jC at h
 cases hg:(E.sp.isSome&&b.isSome) with
 |true=>rw[hg] at h;cases h
 |false=>
 rw[hg,cond_false] at h
 have hF:Fr E X:=fun bM=>ia.rows (by
  cases hE2:E.sp with
  |none=>exact absurd hE2 bM
  |some z=>
   cases b with
   |none=>rfl
   |some B=>rw[hE2] at hg;cases hg)
 simp only at h
 obtain⟨⟨e,s⟩,h1,h2⟩:=jP (vI hC0 code _ (fun e s=>some (e,s)) (K:=fun z=>match z.1 with
  | .exit _=>none
  |_=>match gO E z.2 fn.results.toList with
   |some (l,s')=>Hm s' b (gN E l) (fun r b=>some (r,b))
   |none=>none) (fun e s=>by cases e<;>rfl) _) h
 refine calls_of_wp iL qs ?_
 have di:=ia.size
 refine EV hE hm hC0 Zk k code X X _ _ e s hF (Ext.refl X) (?_:Rel X _ _) h1 _ fun Y a' aZ bu=> ?_
 ·have dU:=SO E.ps l
  refine⟨by simp [di,dU],by simp [dU],fun i sl v hs hv=> ?_,fun id B hB=> ?_,fun i sl id t p hs hm=> ?_,rfl,fun i sl id c d n hs hm=> ?_⟩
  ·by_cases hi:i<l.length
   ·rw[List.getElem?_append_left (by simpa [dU] using hi),List.getElem?_map] at hs
    obtain⟨sv,jM,rfl⟩:=Option.map_eq_some_iff.1 hs
    rw[Array.getElem?_append_left (by omega)] at hv
    exact(L9 E.ps l i sv v jM (fun sv h0=>⟨_,ia.rep i sv v h0 hv⟩) (.c i 0)).2 fun xN h0=>ia.rep i xN v h0 hv
   ·rw[List.getElem?_append_right (by simp [dU];omega),List.getElem?_replicate] at hs
    split at hs
    ·cases hs;trivial
    ·cases hs
  ·cases id with
   |zero=>
    simp only[List.getElem?_cons_zero,Option.some.injEq] at hB
    exact ia.box B hB
   |succ id=>
    simp only[List.getElem?_cons_succ,List.getElem?_replicate] at hB
    split at hB<;>cases hB
  ·by_cases hi:i<l.length
   ·rw[List.getElem?_append_left (by simpa [dU] using hi),List.getElem?_map] at hs
    obtain⟨sv,jM,rfl⟩:=Option.map_eq_some_iff.1 hs
    simp only[List.mem_singleton] at hm
    subst hm
    obtain⟨rfl,hb⟩:=ia.ptr id t p (agM (List.mem_of_getElem? jM))
    cases b with
    |none=>cases hb
    |some B=>exact⟨B,rfl⟩
   ·rw[List.getElem?_append_right (by simp [dU];omega),List.getElem?_replicate] at hs
    split at hs
    ·cases hs;simp at hm
    ·cases hs
  ·exfalso
   by_cases hi:i<l.length
   ·rw[List.getElem?_append_left (by simpa [dU] using hi),List.getElem?_map] at hs
    obtain⟨sv,jM,rfl⟩:=Option.map_eq_some_iff.1 hs
    simp only[List.mem_singleton] at hm
    subst hm
    exact Yu ia.oI (agL (List.mem_of_getElem? jM))
   ·rw[List.getElem?_append_right (by simp [dU];omega),List.getElem?_replicate] at hs
    split at hs
    ·cases hs;simp at hm
    ·cases hs
 ·
  have ZL:∃l s',gO E s fn.results.toList=some (l,s')/\Hm s' b (gN E l) (fun r b=>some (r,b))=some (r,b')/\(e= .normal\/e= .ret):=by
   cases e with
   |exit id=>cases h2
   |normal=>
    simp only at h2
    split at h2
    ·exact⟨_,_,by assumption,h2,.inl rfl⟩
    ·cases h2
   |ret=>
    simp only at h2
    split at h2
    ·exact⟨_,_,by assumption,h2,.inr rfl⟩
    ·cases h2
  obtain⟨l',s',dQ,eP,he⟩:=ZL
  obtain⟨Z,vs,hw,cc,bR,hβ,c9,hlen,ng,Zw,aX⟩:=Dz hE fn.results.toList Y s s' l' 0 bu dQ
  have AD:(results fn a'.tmps).run P Y.w= .ok (if h:vs.toArray.size=1 then vs.toArray[0] else .tuple vs.toArray) Y.w:=by
   unfold results
   simp only[Array.mapM_eq_mapM_toList,Sem.run_bind,Sem.run_map,Sem.run_pure,Result.andThen_ok]
   exact congrArg (fun r:Result (List Value)=>(r.andThen fun a w'=>Result.ok a.toArray w').andThen fun a w'=>Result.ok (if h:a.size=1 then a[0] else Value.tuple a) w') aX
  have hX:Ext X Z:=aZ.trans cc
  have iR:∀(j:Nat) sv v,l'[j]? =some sv->vs[j]? =some v->aA Z (.r j) sv v:=fun j sv v h1 h2=>by
   have:=ng j sv v h1 h2
   rwa [Nat.zero_add] at this
  have J6:vs.length=(gN E l').length:=by
   unfold gN
   cases E.ro<;>simpa using hlen
  have Co:∀(j:Nat) sv v,(gN E l')[j]? =some sv->vs[j]? =some v->aA Z (.r j) sv v:=fun j sv v h1 h2=>by
   unfold gN at h1
   cases hro:E.ro with
   |false=>rw[hro] at h1;exact iR j sv v h1 h2
   |true=>
    rw[hro,cond_true,List.getElem?_map] at h1
    obtain⟨s0,fb,rfl⟩:=Option.map_eq_some_iff.1 h1
    exact aA.fE (iR j s0 v fb h2)
  have ui:(gN E l').any SV.bO=false:=by
   unfold gN
   cases E.ro with
   |false=>exact Zw
   |true=>exact zir l'
  have fin:=ab8 (b:=b) hX c9 J6 Co ui eP
  obtain⟨Y',R6,hX',hL⟩:=fin
  have R6:=R6.trans hw
  rcases he with rfl|rfl
  ·exact⟨bu.defers,_,AD,Y',R6,hX',hL⟩
  ·exact⟨bu.defers,_,AD,Y',R6,hX',hL⟩
end Go.Ref

namespace Go.Ref
open Go
variable {P:Program} {E:Env}
def Wf:(t:Ty)->El t->Prop
 | .bool,_=>True
 | .int k,n=>(Lit.int k n).wf=true
 | .str,s=>s.size<=maxLen
 | .sl _ t,xs=>List.length xs<=maxLen/\∀x∈(xs:List (El t)),Wf t x
 | .arr n t,xs=>List.length xs=n/\∀x∈(xs:List (El t)),Wf t x
 | .unit,_=>True
 | .pair a b,x=>Wf a x.1/\Wf b x.2
 | .aG _ _ _,_=>False
theorem Gq(hE:ap P E){T:TypeId}{t:Ty}(ht:E.ty T=some t):P.cellsOf T=t.cells:=by
 obtain⟨i,h1,h2,_⟩:=(hE.ty T t ht).info
 simp [Program.cellsOf,h1,h2]
def Ty.gy:Ty->Bool
 | .sl _ t=> !(Nat.beq t.cells 0)&&t.gy
 | .arr _ t=>t.gy
 | .pair a b=>a.gy&&b.gy
 |_=>true
def vd(w:World)(β:Nat->Option Nat):ax:=⟨w,fun _=> .all,β⟩
theorem agP{w:World}{β:Nat->Option Nat}{a:Addr}{v:Value}(h:w.cell? a=some v):(vd w β).az a v:=⟨World.cell?_spot h,h,trivial⟩
theorem zo6{α:Type}{n:Nat}{p:Nat->α->Prop}(h:∀i,i<n->∃x,p i x):∃xs:List α,xs.length=n/\∀(i:Nat) x,xs[i]? =some x->p i x:=by
 induction n with
 |zero=>exact⟨[],rfl,fun i x hi=>by simp at hi⟩
 |succ n ih=>
  obtain⟨xs,h1,h2⟩:=ih fun i hi=>h i (by omega)
  obtain⟨y,hy⟩:=h n (by omega)
  refine⟨xs++ [y],by simp [h1],fun i x hi=> ?_⟩
  rw[List.getElem?_append] at hi
  split at hi
  ·exact h2 i x hi
  ·rename_i ar
   have oo:i-xs.length=0:=by
    have:=(List.getElem?_eq_some_iff.1 hi).1
    simp at this
    omega
   rw[oo] at hi
   simp only[List.getElem?_cons_zero,Option.some.injEq] at hi
   subst hi
   have:i=n:=by omega
   subst this
   exact hy
section
variable {H:Type} {enc:TypeId×Value->H} {w:World} {base:Nat} {spare:Nat->Bool} {held:Bool} {β:Nat->Option Nat}
theorem amO(hE:ap P E):∀t:Ty,
 (∀(T:TypeId) (cp:Nat) (cs:List Value) (x:DataW H×List MemPlace),E.ty T=some t->t.gy=true->DataW.trod enc P w base spare held cp T cs=some x->∃y:El t,bh (vd w β) t y cs/\Wf t y)/\
 (∀(fl:List Field) (off cp:Nat) (cs:List Value),ju E fl t off->t.gy=true->off+t.cells<=cs.length->(∀f∈fl,∃x,DataW.trod enc P w base spare held cp f.type ((cs.drop f.offset).take (P.cellsOf f.type))=some x)->
   ∃y:El t,bh (vd w β) t y ((cs.drop off).take t.cells)/\Wf t y):=by
 intro t
 have lD:∀{t:Ty},t.dj=false->t≠ .unit->∀(fl:List Field) (off:Nat),¬ju E fl t off:=by
  intro t h1 h2 fl off h
  cases t<;>cases fl<;>simp_all [ju,Ty.dj]
 induction t with
 |aG k a b _ _=>exact⟨fun T cp cs x hT iB h=>absurd (hE.iW hT) (by simp [Ty.bI]),fun fl off cp cs hf=>absurd hf (lD rfl (by simp) fl off)⟩
 |bool=>
  refine⟨fun T cp cs x hT iB h=> ?_,fun fl off cp cs hf=>absurd hf (lD rfl (by simp) fl off)⟩
  have hu:=(hE.ty T _ hT).dt
  cases cp with
  |zero=>simp [DataW.trod] at h
  |succ m=>
   unfold DataW.trod at h
   rw[hu] at h
   split at h<;>try(first|cases h;done|(simp_all;done))
   rename_i b _
   exact⟨b,rfl,trivial⟩
 |int k=>
  refine⟨fun T cp cs x hT iB h=> ?_,fun fl off cp cs hf=>absurd hf (lD rfl (by simp) fl off)⟩
  have hu:=(hE.ty T _ hT).dt
  cases cp with
  |zero=>simp [DataW.trod] at h
  |succ m=>
   unfold DataW.trod at h
   rw[hu] at h
   split at h<;>simp_all
   rename_i k1 k2 n hk
   subst hk
   exact⟨n,rfl,h.1.2⟩
 |str=>
  refine⟨fun T cp cs x hT iB h=> ?_,fun fl off cp cs hf=>absurd hf (lD rfl (by simp) fl off)⟩
  have hu:=(hE.ty T _ hT).dt
  cases cp with
  |zero=>simp [DataW.trod] at h
  |succ m=>
   unfold DataW.trod at h
   rw[hu] at h
   split at h<;>simp_all
   rename_i s
   exact⟨s,rfl,h.1⟩
 |sl e t ih=>
  refine⟨fun T cp cs x hT iB h=> ?_,fun fl off cp cs hf=>absurd hf (lD rfl (by simp) fl off)⟩
  obtain⟨hu,he⟩:=(hE.ty T _ hT).dt
  have hc:=Gq hE he
  rcases Go.Deep.open_slice hu h with⟨rfl,_⟩|⟨a,len,cap,m,n,D,Pl,rfl,hb,hl,hm,Gd,_,fN⟩
  ·exact⟨[],⟨none,0,rfl,Nat.le_refl _,fun j x hj=>by simp at hj⟩,by simp [maxLen],fun x hx=>by cases hx⟩
  ·have hlm:len<=m:=by rw[Gd];split<;>omega
   have hk:0<t.cells/\t.gy=true:=by
    simp only[Ty.gy,Bool.and_eq_true,Bool.not_eq_true'] at iB
    refine⟨?_,iB.2⟩
    rcases Nat.eq_zero_or_pos t.cells with h0|h0
    ·rw[h0] at iB;simp at iB
    ·exact h0
   obtain⟨ys,h1,h2⟩:=zo6 (n:=len) (p:=fun i (y:El t)=>∃eH,w.cells? base (a.add (i*t.cells)) t.cells=some eH/\bh (vd w β) t y eH/\Wf t y) (fun i hi=>by
    obtain⟨eH,g1,g2⟩:=fN i (by omega)
    rw[hc] at g1
    obtain⟨y,k1,k2⟩:=ih.1 e n eH _ he hk.2 g2
    exact⟨y,eH,g1,k1,k2⟩)
   refine⟨ys,bh.xM h1 hl (fun j y hj=> ?_),by show ys.length<=_;omega,fun y hy=> ?_⟩
   ·obtain⟨eH,g1,g2,g3⟩:=h2 j y hj
    obtain⟨_,hlen,dN⟩:=World.cells?_some g1
    have hj0:=(List.getElem?_eq_some_iff.1 hj).1
    obtain⟨c0,e1,_⟩:=h2 0 _ (List.getElem?_eq_getElem (by omega))
    obtain⟨_,aoN,B7⟩:=World.cells?_some e1
    have AF:a.spot=none:=by
     have:=B7 0 (by omega)
     rw[List.getElem?_eq_getElem (by omega)] at this
     have h3:=World.cell?_spot this
     simpa [Addr.add] using h3
    refine⟨a,eH,rfl,AF,g2,fun i v hi=>agP ?_⟩
    have hil:=(List.getElem?_eq_some_iff.1 hi).1
    have:=dN i (by omega)
    rw[QI a AF,hi] at this
    exact this
   ·obtain⟨i,hi⟩:=List.mem_iff_getElem?.1 hy
    obtain⟨eH,_,_,g3⟩:=h2 i y hi
    exact g3
 |arr n t ih=>
  refine⟨fun T cp cs x hT iB h=> ?_,fun fl off cp cs hf=>absurd hf (lD rfl (by simp) fl off)⟩
  obtain⟨e,hu,he,_⟩:=(hE.ty T _ hT).dt
  have hc:=Gq hE he
  have JS:=Gq hE hT
  obtain⟨xs,m,rfl,_,hl,AK,fN⟩:=DataW.trod_array hu h
  obtain⟨ys,h1,h2⟩:=zo6 (n:=n) (p:=fun i (y:El t)=>bh (vd w β) t y ((cs.drop (i*t.cells)).take t.cells)/\Wf t y) (fun i hi=>by
   have g:=fN i hi
   rw[hc,List.getElem?_eq_getElem (by omega)] at g
   exact ih.1 e m _ _ he iB g)
  refine⟨ys,⟨h1,by rw[hl,JS];rfl,fun j y hj=>(h2 j y hj).1⟩,h1,fun y hy=> ?_⟩
  obtain⟨i,hi⟩:=List.mem_iff_getElem?.1 hy
  exact(h2 i y hi).2
 |unit=>
  refine⟨fun T cp cs x hT iB h=> ?_,fun fl off cp cs hf iB hle cR=>⟨(),by simp [Ty.cells,bh],trivial⟩⟩
  obtain⟨fs,hu,dg,_⟩:=(hE.ty T _ hT).dt
  have JS:=Gq hE hT
  obtain⟨xs,m,rfl,_,hl,_⟩:=DataW.trod_struct hu h
  rw[JS] at hl
  refine⟨(),?_,trivial⟩
  exact List.eq_nil_of_length_eq_zero hl
 |pair ta tb mg mh=>
  have step:∀(fl:List Field) (off cp:Nat) (cs:List Value),ju E fl (.pair ta tb) off->(Ty.pair ta tb).gy=true->off+(Ty.pair ta tb).cells<=cs.length->(∀f∈fl,∃x,DataW.trod enc P w base spare held cp f.type ((cs.drop f.offset).take (P.cellsOf f.type))=some x)->
   ∃y:El (.pair ta tb),bh (vd w β) (.pair ta tb) y ((cs.drop off).take (Ty.pair ta tb).cells)/\Wf (.pair ta tb) y:=by
   intro fl off cp cs hf iB hle cR
   cases fl with
   |nil=>simp [ju] at hf
   |cons f fl=>
    obtain⟨f1,f2,f3,f4⟩:=hf
    simp only[Ty.gy,Bool.and_eq_true] at iB
    simp only[Ty.cells] at hle
    obtain⟨x,hx⟩:=cR f (by simp)
    rw[Gq hE f2,f1] at hx
    obtain⟨y1,r1,w1⟩:=mg.1 f.type cp _ x f2 iB.1 hx
    obtain⟨y2,r2,w2⟩:=mh.2 fl (off+ta.cells) cp cs f4 iB.2 (by omega) (fun g hg=>cR g (List.mem_cons_of_mem _ hg))
    refine⟨(y1,y2),⟨_,_,?_,r1,r2⟩,w1,w2⟩
    simp only[Ty.cells]
    rw[<-List.drop_drop]
    exact List.take_add
  refine⟨fun T cp cs x hT iB h=> ?_,step⟩
  obtain⟨fs,hu,dg,_⟩:=(hE.ty T _ hT).dt
  have JS:=Gq hE hT
  obtain⟨xs,m,rfl,_,hl,AK,fN⟩:=DataW.trod_struct hu h
  rw[JS] at hl
  obtain⟨y,r,wf⟩:=step fs.toList 0 m cs dg iB (by omega) (fun f hf=>by
   obtain⟨i,hi⟩:=List.mem_iff_getElem?.1 hf
   have xl:fs[i]? =some f:=by simpa using hi
   have:=fN i f xl
   have ar:=(List.getElem?_eq_some_iff.1 hi).1
   rw[List.getElem?_eq_getElem (by simp at ar;omega)] at this
   exact⟨_,this⟩)
  refine⟨y,?_,wf⟩
  rw[List.drop_zero,<-hl,List.take_length] at r
  exact r
end
end Go.Ref

namespace Go.Ref
open Go
variable {P:Program} {E:Env}
def EG:Value->Value->Bool
 | .bool a,.bool b=>a==b
 | .int k a,.int j b=>decide (k=j)&&decide (a=b)
 | .string a,.string b=>Nat.beq a.size 0&&Nat.beq b.size 0
 | .slice none 0 0,.slice none 0 0=>true
 |_,_=>false
theorem zoa{a:ByteArray}(h:a.size=0):a=⟨#[]⟩:=by
 cases a with
 |mk d=>
  have:d.size=0:=h
  have:=Array.eq_empty_of_size_eq_zero this
  rw[this]
theorem af1{a b:Value}(h:EG a b=true):a=b:=by
 unfold EG at h
 split at h
 ·simp at h;rw[h]
 ·simp at h;rw[h.1,h.2]
 ·simp only[Bool.and_eq_true] at h
  rw[zoa (Nat.eq_of_beq_eq_true h.1),zoa (Nat.eq_of_beq_eq_true h.2)]
 ·rfl
 ·cases h
def G3:List Value->List Value->Bool
 | [],[]=>true
 |a::r,b::q=>EG a b&&G3 r q
 |_,_=>false
theorem Ss:∀{a b:List Value},G3 a b=true->a=b
 | [],[],_=>rfl
 |a::r,b::q,h=>by
  simp only[G3,Bool.and_eq_true] at h
  rw[af1 h.1,Ss h.2]
def EP(t:Ty)(v:Value):Bool:=
 match v with
 | .agg cs=>t.agg&&G3 cs.toList (zp t)
 |v=> !t.agg&&G3 [v] (zp t)
theorem ahx{t:Ty}{v:Value}(h:EP t v=true):v=dR t (zp t):=by
 unfold EP at h
 split at h
 ·simp only[Bool.and_eq_true] at h
  rw[jJ h.1,<-Ss h.2]
 ·simp only[Bool.and_eq_true,Bool.not_eq_true'] at h
  rw[<-Ss h.2,QQ h.1]
def ri(E:Env):List Field->Ty->Nat->Bool
 | [],.unit,_=>true
 |f::r,.pair a b,off=>Nat.beq f.offset off&&((match E.ty f.type with
  |some t=>t.cn a
  |none=>false)&&(!(f.name== "_")&&ri E r b (off+a.cells)))
 |_,_,_=>false
theorem zqq:∀{fl:List Field} {t:Ty} {off:Nat},ri E fl t off=true->ju E fl t off
 | [],t,off,h=>by cases t<;>simp_all [ri,ju]
 |f::r,t,off,h=>by
  cases t<;>simp only[ri,Bool.and_eq_true] at h<;>try(cases h;done)
  obtain⟨h1,h2,h3,h4⟩:=h
  refine⟨Nat.eq_of_beq_eq_true h1,?_,?_,zqq h4⟩
  ·cases hf:E.ty f.type with
   |none=>rw[hf] at h2;cases h2
   |some u=>rw[hf] at h2;rw[Ty.aJ h2]
  ·simpa using h3
def uQ(E:Env)(T:TypeId)(t:Ty):Bool:=
 match E.ty T with
 |some u=>u.cn t
 |none=>false
theorem DE{T:TypeId}{t:Ty}(h:uQ E T t=true):E.ty T=some t:=by
 unfold uQ at h
 split at h
 ·rename_i u hu;rw[hu,Ty.aJ h]
 ·cases h
def CO(P:Program)(E:Env)(T:TypeId)(t:Ty):Bool:=
 match P.underlying T,t with
 |some .bool,.bool=>true
 |some (.int k),.int j=>decide (k=j)
 |some .string,.str=>true
 |some (.slice e),.sl e' u=>Nat.beq e e'&&uQ E e u
 |some (.array n e),.arr m u=>Nat.beq n m&&(uQ E e u&& !P.eqGuardType P.depth T)
 |some (.struct fs),.unit=>ri E fs.toList .unit 0&&(!P.stoodInHeld T&& !P.eqGuardType P.depth T)
 |some (.struct fs),.pair a b=>ri E fs.toList (.pair a b) 0&&(!P.stoodInHeld T&& !P.eqGuardType P.depth T)
 |_,_=>false
theorem akE{T:TypeId}{t:Ty}(h:CO P E T t=true):O7 P E T t:=by
 unfold CO at h
 split at h
 ·assumption
 ·rename_i k j hu;rw[<-of_decide_eq_true h];exact hu
 ·assumption
 ·rename_i e e' u hu
  simp only[Bool.and_eq_true] at h
  have:=Nat.eq_of_beq_eq_true h.1
  subst this
  exact⟨hu,DE h.2⟩
 ·rename_i n e m u hu
  simp only[Bool.and_eq_true] at h
  have:=Nat.eq_of_beq_eq_true h.1
  subst this
  exact⟨e,hu,DE h.2.1,by simpa using h.2.2⟩
 ·rename_i fs hu
  simp only[Bool.and_eq_true,Bool.not_eq_true'] at h
  exact⟨fs,hu,zqq h.1,h.2.1,h.2.2⟩
 ·rename_i fs a b hu
  simp only[Bool.and_eq_true,Bool.not_eq_true'] at h
  exact⟨fs,hu,zqq h.1,h.2.1,h.2.2⟩
 ·cases h
def AM(P:Program)(E:Env)(T:TypeId)(t:Ty):Bool:=
 match P.info? T with
 |some i=>Nat.beq i.size t.cells&&(Nat.beq i.bytes (E.bytes T)&&match i.zero with
  |some v=>EP t v
  |none=>false)
 |none=>false
def BX(P:Program)(E:Env)(T:TypeId):Bool:=
 match E.ty T with
 |some t=>AM P E T t&&CO P E T t
 |none=>true
theorem ajQ{T:TypeId}{t:Ty}(h:BX P E T=true)(ht:E.ty T=some t):lV P E T t:=by
 unfold BX at h
 rw[ht] at h
 simp only[Bool.and_eq_true] at h
 refine⟨?_,akE h.2⟩
 have h1:=h.1
 unfold AM at h1
 split at h1
 ·rename_i i hi
  simp only[Bool.and_eq_true] at h1
  obtain⟨g1,g2,g3⟩:=h1
  split at g3
  ·rename_i v hv
   exact⟨i,hi,Nat.eq_of_beq_eq_true g1,Nat.eq_of_beq_eq_true g2,by rw[hv,ahx g3]⟩
  ·cases g3
 ·cases h1
def Sc(P:Program)(T:TypeId):Bool:=
 match P.underlying T,P.info? T with
 |some (.pointer _),some i=>Nat.beq i.size 1
 |_,_=>false
structure qT where
 Gl:List (Option Ty)
 YQ:List Nat
 AV:List Bool
 Sb:List (TypeId×TypeId×TypeId):=[]
def xF:List (TypeId×TypeId×TypeId)->TypeId->Option (TypeId×TypeId)
 | [],_=>none
 |q::r,T=>bif Nat.beq q.1 T then some q.2 else xF r T
def mpB(P:Program)(q:TypeId×TypeId×TypeId):Bool:=
 match P.underlying q.1 with
 |some (.map k e)=>Nat.beq k q.2.1&&Nat.beq e q.2.2
 |_=>false
theorem OA{P:Program}:∀{l:List (TypeId×TypeId×TypeId)},l.all (mpB P)=true->∀{T k e:TypeId},xF l T=some (k,e)->P.underlying T=some (.map k e)
 |q::r,hl,T,k,e,h=>by
  simp only[List.all_cons,Bool.and_eq_true] at hl
  unfold xF at h
  cases hq:Nat.beq q.1 T with
  |false=>rw[hq] at h;exact OA hl.2 h
  |true=>
   rw[hq] at h
   have:=Nat.eq_of_beq_eq_true hq
   subst this
   have h1:=hl.1
   unfold mpB at h1
   split at h1
   ·rename_i k' e' hu
    simp only[Bool.and_eq_true] at h1
    have a1:=Nat.eq_of_beq_eq_true h1.1
    have a2:=Nat.eq_of_beq_eq_true h1.2
    rw[hu,a1,a2]
    have h:some q.2=some (k,e):=h
    injection h with h
    rw[h]
   ·cases h1
def qT.env(t:qT)(dv lv:Nat->List Nat)(outs:List Nat)(ps:List Ty):Env:=⟨fun T=>t.Gl.getD T none,fun T=>t.YQ.getD T 0,fun T=>t.AV.getD T false,dv,lv,outs,ps,xF t.Sb,fun _=>none,fun _=>none,fun _=>[],[],false,[],fun _=>[],fun _=>none,fun _=>none,fun _=>false,none,none⟩
def qT.xe(t:qT):Env:=t.env (fun _=>[]) (fun _=>[]) [] []
def qT.ok(P:Program)(t:qT):Bool:=(List.range t.Gl.length).all (BX P t.xe)&&((List.range t.AV.length).all (fun T=> !t.AV.getD T false||Sc P T)&&t.Sb.all (mpB P))
theorem sn{E':Env}(h1:E.ty=E'.ty)(h2:E.bytes=E'.bytes){T:TypeId}{t:Ty}(h:lV P E T t):lV P E' T t:=by
 have dg:∀(fl:List Field) (t:Ty) (off:Nat),ju E fl t off->ju E' fl t off:=by
  intro fl
  induction fl with
  |nil=>intro t off h;cases t<;>simp_all [ju]
  |cons f r ih=>
   intro t off h
   cases t<;>simp only[ju] at h⊢ <;>try exact h
   exact⟨h.1,by rw[<-h1];exact h.2.1,h.2.2.1,ih _ _ h.2.2.2⟩
 refine⟨by rw[<-h2];exact h.info,?_⟩
 have hu:=h.dt
 cases t with
 |bool=>exact hu
 |int k=>exact hu
 |str=>exact hu
 |sl e u=>exact⟨hu.1,by rw[<-h1];exact hu.2⟩
 |arr n u=>obtain⟨e,g1,g2⟩:=hu;exact⟨e,g1,by rw[<-h1];exact g2⟩
 |unit=>obtain⟨fs,g1,g2,g3⟩:=hu;exact⟨fs,g1,dg _ _ _ g2,g3⟩
 |pair a b=>obtain⟨fs,g1,g2,g3⟩:=hu;exact⟨fs,g1,dg _ _ _ g2,g3⟩
 |aG k a b=>exact hu.elim
theorem ap.join(h:ap P E)(j:Nat->Option (List Nat)):ap P {E with join:=j}:=
 ⟨fun T u hT=>sn (E:=E) (E':={E with join:=j}) rfl rfl (h.ty T u hT),h.pt,h.p1,h.mp,h.bl,h.gr,h.gz,h.g3,h.ga⟩
theorem ap.fz(h:ap P E)(j:Nat->Option (Nat×TypeId)):ap P {E with fz:=j}:=
 ⟨fun T u hT=>sn (E:=E) (E':={E with fz:=j}) rfl rfl (h.ty T u hT),h.pt,h.p1,h.mp,h.bl,h.gr,h.gz,h.g3,h.ga⟩
theorem ap.dr(h:ap P E)(j:Nat->List Nat):ap P {E with dr:=j}:=
 ⟨fun T u hT=>sn (E:=E) (E':={E with dr:=j}) rfl rfl (h.ty T u hT),h.pt,h.p1,h.mp,h.bl,h.gr,h.gz,h.g3,h.ga⟩
theorem ap.sh(h:ap P E)(j:List Nat):ap P {E with sh:=j}:=
 ⟨fun T u hT=>sn (E:=E) (E':={E with sh:=j}) rfl rfl (h.ty T u hT),h.pt,h.p1,h.mp,h.bl,h.gr,h.gz,h.g3,h.ga⟩
theorem ap.mv(h:ap P E)(j:List Nat):ap P {E with mv:=j}:=
 ⟨fun T u hT=>sn (E:=E) (E':={E with mv:=j}) rfl rfl (h.ty T u hT),h.pt,h.p1,h.mp,h.bl,h.gr,h.gz,h.g3,h.ga⟩
theorem ap.fr(h:ap P E)(j:Nat->List Nat):ap P {E with fr:=j}:=
 ⟨fun T u hT=>sn (E:=E) (E':={E with fr:=j}) rfl rfl (h.ty T u hT),h.pt,h.p1,h.mp,h.bl,h.gr,h.gz,h.g3,h.ga⟩
def blB(P:Program)(T:TypeId):Bool:=
 match P.info? T with
 |some i=>match i.zero with
  |some (.agg a)=>match a.toList with
   | [.pointer none,.slice none 0 0]=>true
   |_=>false
  |_=>false
 |none=>false
theorem ap.gH(h:ap P E)(T e:TypeId)(hT:blB P T=true):ap P {E with bl:=fun t=>bif Nat.beq t T then some e else none}:=
 ⟨fun T' u hT=>sn (E:=E) (E':={E with bl:=fun t=>bif Nat.beq t T then some e else none}) rfl rfl (h.ty T' u hT),h.pt,h.p1,h.mp,fun T' e' he=>by
   have he:(bif Nat.beq T' T then some e else none)=some e':=he
   cases hb:Nat.beq T' T with
   |false=>rw[hb] at he;cases he
   |true=>
    have:=Nat.eq_of_beq_eq_true hb
    subst this
    unfold blB at hT
    split at hT
    case h_2=>cases hT
    rename_i i hi
    split at hT
    case h_2=>cases hT
    rename_i a ha
    split at hT
    case h_2=>cases hT
    rename_i hl
    exact⟨i,hi,by rw[ha];congr 1;congr 1;apply Array.ext';rw[hl]⟩,h.gr,h.gz,h.g3,h.ga⟩
def Y2(P:Program)(T:TypeId)(a:Ty):Bool:=
 match P.underlying T with
 |some (.struct fs)=>[0,1,2].all fun j=>match fs[j]? with
  |some f=>Nat.beq f.offset (m4 a [j])&&match P.info? f.type with
   |some i=> !(Nat.beq i.size 0)
   |none=>false
  |none=>false
 |_=>false
def Y0(P:Program)(T:TypeId):Bool:=
 match P.underlying T with
 |some (.array 2 e)=>match P.info? e with
  |some i=>Nat.beq i.size 1
  |none=>false
 |_=>false
theorem aov{T:TypeId}{a:Ty}(h:Y2 P T a=true):∃fs,P.underlying T=some (.struct fs)/\∀j,j<=2->∃f i,fs[j]? =some f/\f.offset=m4 a [j]/\P.info? f.type=some i/\i.size≠0:=by
 unfold Y2 at h
 split at h
 case h_2=>cases h
 rename_i fs hu
 refine⟨fs,hu,fun j hj=> ?_⟩
 have:=List.all_eq_true.1 h j (by match j,hj with|0,_=>simp|1,_=>simp|2,_=>simp)
 split at this
 case h_2=>cases this
 rename_i f hf
 rw[Bool.and_eq_true] at this
 obtain⟨h1,h2⟩:=this
 split at h2
 case h_2=>cases h2
 rename_i i hi
 exact⟨f,i,hf,Nat.eq_of_beq_eq_true h1,hi,fun e=>by rw[e] at h2;simp at h2⟩
theorem aou{T:TypeId}(h:Y0 P T=true):∃e i,P.underlying T=some (.array 2 e)/\P.info? e=some i/\i.size=1:=by
 unfold Y0 at h
 split at h
 case h_2=>cases h
 rename_i e hu
 split at h
 case h_2=>cases h
 rename_i i hi
 exact⟨e,i,hu,hi,Nat.eq_of_beq_eq_true h⟩
def Y3(P:Program)(T:TypeId)(a:Ty):Bool:=
 match P.info? T with
 |some i=>match i.zero with
  |some (.agg cs)=>G3 (cs.toList.take a.cells) (zp a)&&(match cs.toList.drop a.cells with
   | [.pointer none,.pointer none,.int .i64 n]=>decide (n=0)
   |_=>false)
  |_=>false
 |none=>false
theorem aow{T:TypeId}{a:Ty}(h:Y3 P T a=true):∃i,P.info? T=some i/\i.zero=some (.agg (zp a++ [Value.pointer none,Value.pointer none,Value.int .i64 0]).toArray):=by
 unfold Y3 at h
 split at h
 case h_2=>cases h
 rename_i i hi
 split at h
 case h_2=>cases h
 rename_i cs eD
 rw[Bool.and_eq_true] at h
 obtain⟨h1,h2⟩:=h
 split at h2
 case h_2=>cases h2
 rename_i n hd
 have:=of_decide_eq_true h2
 subst this
 refine⟨i,hi,?_⟩
 rw[eD,<-Ss h1,<-hd,List.take_append_drop]
def YZ(P:Program)(E:Env)(T:TypeId)(a:Ty):Bool:=
 match P.underlying T with
 |some (.struct fs)=>(match fs.toList with
  |f::_=>Nat.beq f.offset 0&&uQ E f.type a
  | []=>false)&&fs.toList.all fun f=>(P.info? f.type).isSome
 |_=>false
theorem aot{T:TypeId}{a:Ty}(h:YZ P E T a=true):∃fs f,P.underlying T=some (.struct fs)/\fs[0]? =some f/\f.offset=0/\E.ty f.type=some a/\∀f∈fs.toList,∃i,P.info? f.type=some i:=by
 unfold YZ at h
 split at h
 case h_2=>cases h
 rename_i fs hu
 rw[Bool.and_eq_true] at h
 obtain⟨h1,h2⟩:=h
 split at h1
 case h_2=>cases h1
 rename_i f r hl
 rw[Bool.and_eq_true] at h1
 refine⟨fs,f,hu,by rw[<-Array.getElem?_toList,hl];rfl,Nat.eq_of_beq_eq_true h1.1,DE h1.2,fun g hg=> ?_⟩
 exact Option.isSome_iff_exists.1 (List.all_eq_true.1 h2 g hg)
theorem ap.bB(h:ap P E)(T A:TypeId)(a b:Ty)(hT:Y2 P T a=true)(hZ:Y3 P T a=true)(h3:YZ P E T a=true)(hA:Y0 P A=true):ap P {E with gr:=fun t=>bif Nat.beq t T then some (a,b) else none,ga:=fun t=>Nat.beq t A}:=
 ⟨fun T' u vl=>sn (E:=E) (E':={E with gr:=fun t=>bif Nat.beq t T then some (a,b) else none,ga:=fun t=>Nat.beq t A}) rfl rfl (h.ty T' u vl),h.pt,h.p1,h.mp,h.bl,fun T' a' b' he=>by
   have he:(bif Nat.beq T' T then some (a,b) else none)=some (a',b'):=he
   cases hb:Nat.beq T' T with
   |false=>rw[hb] at he;cases he
   |true=>
    have:=Nat.eq_of_beq_eq_true hb
    subst this
    rw[hb] at he
    cases he
    exact aov hT,fun T' a' b' he=>by
   have he:(bif Nat.beq T' T then some (a,b) else none)=some (a',b'):=he
   cases hb:Nat.beq T' T with
   |false=>rw[hb] at he;cases he
   |true=>
    have:=Nat.eq_of_beq_eq_true hb
    subst this
    rw[hb] at he
    cases he
    exact aow hZ,fun T' a' b' he=>by
   have he:(bif Nat.beq T' T then some (a,b) else none)=some (a',b'):=he
   cases hb:Nat.beq T' T with
   |false=>rw[hb] at he;cases he
   |true=>
    have:=Nat.eq_of_beq_eq_true hb
    subst this
    rw[hb] at he
    cases he
    exact aot (E:=E) h3,fun T' he=>by
   have:=Nat.eq_of_beq_eq_true (show Nat.beq T' A=true from he)
   subst this
   exact aou hA⟩
theorem ap.sg(h:ap P E)(j:Option (Nat×Nat×Nat)):ap P {E with sg:=j}:=
 ⟨fun T u hT=>sn (E:=E) (E':={E with sg:=j}) rfl rfl (h.ty T u hT),h.pt,h.p1,h.mp,h.bl,h.gr,h.gz,h.g3,h.ga⟩
theorem ap.sp(h:ap P E)(j:Option (Nat×Nat×Nat×Nat)):ap P {E with sp:=j}:=
 ⟨fun T u hT=>sn (E:=E) (E':={E with sp:=j}) rfl rfl (h.ty T u hT),h.pt,h.p1,h.mp,h.bl,h.gr,h.gz,h.g3,h.ga⟩
theorem ap.ro(h:ap P E)(j:Bool):ap P {E with ro:=j}:=
 ⟨fun T u hT=>sn (E:=E) (E':={E with ro:=j}) rfl rfl (h.ty T u hT),h.pt,h.p1,h.mp,h.bl,h.gr,h.gz,h.g3,h.ga⟩
theorem qT.oi{t:qT}(h:t.ok P=true)(dv lv:Nat->List Nat)(outs:List Nat)(ps:List Ty):ap P (t.env dv lv outs ps):=by
 unfold qT.ok at h
 simp only[Bool.and_eq_true] at h
 have kF:∀T,t.AV.getD T false=true->Sc P T=true:=fun T vl=>by
  have ar:T<t.AV.length:=by
   rcases Nat.lt_or_ge T t.AV.length with h1|h1
   ·exact h1
   ·rw[List.getD_eq_getElem?_getD,List.getElem?_eq_none h1] at vl;cases vl
  have:=List.all_eq_true.1 h.2.1 T (List.mem_range.2 ar)
  rw[vl] at this
  simpa using this
 refine⟨fun T u hT=> ?_,fun T hT=> ?_,fun T hT=> ?_,fun T k e hT=>OA h.2.2 hT,fun T e hT=>(by cases hT),fun T a b hT=>(by cases hT),fun T a b hT=>(by cases hT),fun T a b hT=>(by cases hT),fun T hT=>by cases hT⟩
 ·refine sn (E:=t.xe) (E':=t.env dv lv outs ps) rfl rfl (ajQ ?_ hT)
  refine List.all_eq_true.1 h.1 T (List.mem_range.2 ?_)
  have vl:t.Gl.getD T none=some u:=hT
  rcases Nat.lt_or_ge T t.Gl.length with h1|h1
  ·exact h1
  ·rw[List.getD_eq_getElem?_getD,List.getElem?_eq_none h1] at vl;cases vl
 ·have:=kF T hT
  unfold Sc at this
  split at this
  ·rename_i e i he _;exact⟨e,he⟩
  ·cases this
 ·have:=kF T hT
  unfold Sc at this
  split at this
  ·rename_i e i _ hi;exact⟨i,hi,Nat.eq_of_beq_eq_true this⟩
  ·cases this
end Go.Ref

namespace Go.Ref
open Go
variable {P:Program} {E:Env}
abbrev Pure:=(R:Type)->List SV->Option bE->(List SV->Option bE->Option R)->Option R
def Pure.Nat(g:Pure):Prop:=∀(R S:Type) l b (F:List SV->Option bE->Option R) (G:List SV->Option bE->Option S) (K:S->Option R),(∀r b,F r b=(G r b).bind K)->g R l b F=(g S l b G).bind K
def ah.none:ah:=fun _ _ _ _ _=> .none
def ah.add(C:ah)(n:FuncId)(ps:List Ty)(g:Pure):ah:=fun R f l b K=>bif Nat.beq f n then g R (aM ps l) b K else C R f l b K
theorem akf:ah.none.Nat:=fun _ _ _ _ _ _ _ _ _=>rfl
theorem agK(f:FuncId):cW P ah.none f:=fun _ _ _ _ h=>by cases h
theorem VV{C:ah}{n:FuncId}{ps:List Ty}{g:Pure}(hC:C.Nat)(hg:g.Nat):(C.add n ps g).Nat:=fun R S f l b F G K h=>by
 unfold ah.add
 cases Nat.beq f n with
 |false=>exact hC R S f l b F G K h
 |true=>exact hg R S _ b F G K h
theorem ajo(hE:ap P E)(hm:P.follows .mixedOrders=true){C:ah}(hC:C.Nat)(h0:∀f,cW P C f){n:FuncId}{ps:List Ty}{g:Pure}{fn:Func}{code:Code}(iL:P.funcs[n]? =some fn)(ug:(fn.name== "runtime.NumGoroutine")=false)(qs:fn.body=some code)
 (h:∀(l:List SV) (b:Option bE) (r:List SV) (b':Option bE),g (List SV×Option bE) (aM ps l) b (fun r b=>some (r,b))=some (r,b')->∃k,jC E (C (List SV×Option bE)) k fn code l b (fun r b=>some (r,b))=some (r,b')):∀f,cW P (C.add n ps g) f:=by
 intro f
 by_cases e:f=n
 ·subst e
  refine amB hE hm hC h0 iL ug qs fun l b r b' hc=>h l b r b' ?_
  unfold ah.add at hc
  have:Nat.beq f f=true:=by simp
  rw[this] at hc
  exact hc
 ·intro l b r b' hc
  unfold ah.add at hc
  have:Nat.beq f n=false:=by
   cases hh:Nat.beq f n with
   |false=>rfl
   |true=>exact absurd (Nat.eq_of_beq_eq_true hh) e
  rw[this] at hc
  exact h0 f l b r b' hc
def sub:List Nat->Code->Code
 | [],c=>c
 |0::p,.seq a _=>sub p a
 |_::p,.seq _ b=>sub p b
 |0::p,.cond _ a _=>sub p a
 |_::p,.cond _ _ b=>sub p b
 |_::p,.block _ b=>sub p b
 |_::p,.loop b=>sub p b
 |_,c=>c
section
variable {R:Type}
def zj(id:Nat)(K:Ex->State->Option R):Ex->State->Option R:=fun e s=>match e with
 | .exit j=>bif Nat.beq j id then K .normal s else K (.exit j) s
 |e=>K e s
def aU(E:Env)(C:FuncId->bW R)(k:Nat)(b:Code)(K:Ex->State->Option R):Ex->State->Option R:=fun e s=>match e with
 | .normal=>nq E k (uX b) s fun s=>ev E C k b s K
 |e=>K e s
def aS(E:Env)(rs:List ResultVar)(bx:Option bE)(K:List SV->Option bE->Option R):Ex->State->Option R:=fun e s=>match e with
 | .exit _=>none
 |_=>match gO E s rs with
  |some (l,s')=>Hm s' bx (gN E l) K
  |none=>none
end
section
variable {R:Type}
def fT(l:List SV)(K:Option R):Option R:=
 match l with
 | []=>K
 |_=>none
def fU(t:Ty)(l:List SV)(K:El t->Option R):Option R:=
 match l with
 | [a]=>a.el t K
 |_=>none
def fy(t u:Ty)(l:List SV)(K:El t->El u->Option R):Option R:=
 match l with
 | [a,b]=>a.el t fun x=>b.el u fun y=>K x y
 |_=>none
def lm(t u v:Ty)(l:List SV)(K:El t->El u->El v->Option R):Option R:=
 match l with
 | [a,b,c]=>a.el t fun x=>b.el u fun y=>c.el v fun z=>K x y z
 |_=>none
def ln(t u v w:Ty)(l:List SV)(K:El t->El u->El v->El w->Option R):Option R:=
 match l with
 | [a,b,c,d]=>a.el t fun x=>b.el u fun y=>c.el v fun z=>d.el w fun z'=>K x y z z'
 |_=>none
end
theorem amv{R:Type}{t:Ty}{v:SV}{r:List Ty}{q:List SV}{K:El t->Option R}{z:R}{v':SV}{q':List SV}(hn:aM (t::r) (v::q)=v'::q')(h:v'.el t K=some z):∃y,v'= .ak t y []/\q'=aM r q/\K y=some z:=by
 have key:v'=v.shut/\q'=aM r q\/(∃e u,t= .sl e u/\v'= .ak (.sl e u) ([]:List (El u)) []/\q'=aM r q):=by
  cases t<;>cases v<;>simp only[aM,List.cons.injEq] at hn<;>first|exact .inl ⟨hn.1.symm,hn.2.symm⟩|exact .inr ⟨_,_,rfl,hn.1.symm,hn.2.symm⟩
 rcases key with⟨rfl,rfl⟩|⟨e,u,rfl,rfl,rfl⟩
 ·cases v with
  |ak t' x own=>
   simp only[SV.shut,SV.el] at h
   split at h
   ·rename_i heq
    have:=Ty.aJ heq
    subst this
    exact⟨x,rfl,rfl,h⟩
   ·cases h
  |cF=>cases t<;>first|(simp [SV.shut,SV.el] at h;done)|(simp [aM,SV.shut] at hn;done)
  |_=>simp [SV.shut,SV.el] at h
 ·simp only[SV.el,Ty.ci,dite_true] at h
  exact⟨[],rfl,rfl,h⟩
theorem Nr(hE:ap P E){H:Type}{enc:TypeId×Value->H}{w:World}{spare:Nat->Bool}{held:Bool}{β:Nat->Option Nat}{base b:Nat}{T:TypeId}{t:Ty}{v:Value}{d:DataW H}{ps:List MemPlace}(hT:E.ty T=some t)(iB:t.gy=true)
 (hv:Value.okWide P w .any b T v) (hd:DataW.Trod enc P w base spare held T v d ps):∃y:El t,Wf t y/\∀q,aA (vd w β) q (.ak t y []) v:=by
 obtain⟨cp,hd⟩:=hd
 obtain⟨y,r,wf⟩:=(amO (β:=β) hE t).1 T cp _ _ hT iB hd
 refine⟨y,wf,fun q=>⟨_,r,?_,mE⟩⟩
 have hu:=(hE.ty T t hT).dt
 have hl:=r.len
 cases ht:t.agg with
 |true=>
  rw[jJ ht]
  have:∃cs,v= .agg cs:=by
   unfold Value.okWide at hv
   cases t with
   |arr n t=>obtain⟨e,h1,_⟩:=hu;rw[h1] at hv;obtain⟨cs,h,_⟩:=hv;exact⟨cs,h⟩
   |unit=>obtain⟨fs,h1,_⟩:=hu;rw[h1] at hv;obtain⟨cs,h,_⟩:=hv;exact⟨cs,h⟩
   |pair a b=>obtain⟨fs,h1,_⟩:=hu;rw[h1] at hv;obtain⟨cs,h,_⟩:=hv;exact⟨cs,h⟩
   |aG k a b=>exact absurd (hE.iW hT) (by simp [Ty.bI])
   |_=>simp [Ty.agg] at ht
  obtain⟨cs,rfl⟩:=this
  rfl
 |false=>
  have Zz:∀cs,v≠ .agg cs:=by
   rintro cs rfl
   unfold Value.okWide at hv
   cases t with
   |bool=>have hu:P.underlying T=some .bool:=hu;rw[hu] at hv;unfold Cell.okWide at hv;rw[hu] at hv;unfold Cell.ok at hv;rw[hu] at hv;exact hv
   |int k=>have hu:P.underlying T=some (.int k):=hu;rw[hu] at hv;unfold Cell.okWide at hv;rw[hu] at hv;unfold Cell.ok at hv;rw[hu] at hv;exact hv
   |str=>have hu:P.underlying T=some .string:=hu;rw[hu] at hv;unfold Cell.okWide at hv;rw[hu] at hv;unfold Cell.ok at hv;rw[hu] at hv;exact hv
   |sl e t=>have hu:P.underlying T=some (.slice e):=hu.1;rw[hu] at hv;unfold Cell.okWide at hv;rw[hu] at hv;unfold Cell.ok at hv;rw[hu] at hv;exact hv
   |_=>simp [Ty.agg] at ht
  have hc:v.cells.toList=[v]:=by
   cases v<;>first|rfl|exact absurd rfl (Zz _)
  rw[hc,QQ ht]
theorem adR{w:World}{β:Nat->Option Nat}{Y:ax}(h:Ext (vd w β) Y):∀g,g<w.heap.size->Y.w.heap[g]? =w.heap[g]? :=fun g hg=>(h.still g hg trivial).2
end Go.Ref

namespace Go.Ref
open Go
theorem EO{x:Int}(h1: -9223372036854775808<=x)(h2:x<=9223372036854775807):IntKind.i64.wrap x=x:=by
 simp [IntKind.wrap,IntKind.signed,IntKind.bits]
 omega
theorem ahv{R:Type}{j n:Nat}{x:Option R}(h:j<n):zd (j:Int) n x=x:=by
 unfold zd
 rw[decide_eq_true (by omega:(0:Int)<=j),decide_eq_true (by omega:(j:Int)<n)]
 rfl
variable {P:Program} {E:Env}
def QV(X:ax):List SV->List Value->Prop
 | [],[]=>True
 |s::l,v::vs=>(∀q,aA X q s v)/\(∀id t p,s≠ .ptr id t p)/\QV X l vs
 |_,_=>False
theorem zv3{X:ax}:∀{l:List SV} {vs:List Value},QV X l vs->vs.length=l.length/\∀(i:Nat) s v,l[i]? =some s->vs[i]? =some v->(∀q,aA X q s v)/\∀id t p,s≠ .ptr id t p
 | [],[],_=>⟨rfl,fun i s v h=>by simp at h⟩
 |s::l,v::vs,h=>by
  obtain⟨h1,h2,h3⟩:=h
  obtain⟨g1,g2⟩:=zv3 h3
  refine⟨by simp [g1],fun i s' v' hs hv=> ?_⟩
  cases i with
  |zero=>
   simp only[List.getElem?_cons_zero,Option.some.injEq] at hs hv
   subst hs hv
   exact⟨h1,h2⟩
  |succ i=>
   simp only[List.getElem?_cons_succ] at hs hv
   exact g2 i s' v' hs hv
theorem ajN{X:ax}{l:List SV}{args:Array Value}(h:QV X l args.toList)(hX:∀g pl n,X.ow g≠ .row pl n)(hβ:∀id,X.β id=none):jS X l none args:=by
 obtain⟨h1,h2⟩:=zv3 h
 refine⟨by simpa using h1,fun i sv v hs hv=>(h2 i sv v hs (by simpa using hv)).1 _,fun id t p hm=> ?_,fun B hB=>(by cases hB),fun _=>hX,List.any_eq_false.2 fun v hm=> ?_⟩
 ·obtain⟨i,hi⟩:=List.mem_iff_getElem?.1 hm
  have ar:=(List.getElem?_eq_some_iff.1 hi).1
  have gi:i<args.toList.length:=by omega
  exact absurd rfl ((h2 i _ _ hi (List.getElem?_eq_getElem gi)).2 id t p)
 ·obtain⟨i,hi⟩:=List.mem_iff_getElem?.1 hm
  have ar:=(List.getElem?_eq_some_iff.1 hi).1
  have gi:i<args.toList.length:=by omega
  have hv:=(h2 i _ _ hi (List.getElem?_eq_getElem gi)).1 (fun _=> .r 0 [])
  cases v with
  |bz id c d j=>
   obtain⟨r,e,_⟩:=hv
   rw[hβ id] at e
   cases e
  |_=>simp [SV.bO]
theorem ag4{C:ah}{f:FuncId}(ho:cW P C f){l:List SV}{args:Array Value}{W:World}{b:Bool}(hc:C (List SV×Option bE) f l none (fun r b=>some (r,b))=some ([.ak .bool b []],none))(ia:QV (vd W fun _=>none) l args.toList):
 Calls P f args W fun e w'=>e= .returned (.bool b)/\RowKit.Below W.heap.size W w':=by
 refine((ho l none _ _ hc).2 (vd W fun _=>none) args (ajN ia (fun g pl n e=>by cases e) fun _=>rfl)).mono fun e w' he=> ?_
 cases e with
 |returned v=>
  obtain⟨Y,rfl,aZ,r0,aL,_,_,_⟩:=he
  have aL:aA {Y with β:=fun _=>some r0} (.r 0) (.ak .bool b []) v:=aL
  refine⟨by rw[Pv aL],aZ.os,aZ.tape,aZ.output,aZ.size,fun k hk=>adR aZ k hk⟩
 |panicked c=>exact he.elim
 |outgrown=>exact he.elim
end Go.Ref

namespace Go.Ref
open Go
variable {P:Program} {E:Env}
def bs(l:List Nat):ByteArray:=⟨(l.map UInt8.ofNat).toArray⟩
@[irreducible] def ai:Nat:=18446744073709551616
theorem adC{R:Type}(f:Unit->Option R):cI ai f=f ():=by
 have:ai=18446744073709551615+1:=by unfold ai;rfl
 rw[this];rfl
section
variable {R S:Type}
def nk(body:State->(Ex->State->Option R)->Option R)(l lx:List Nat)(k:Nat)(K:Ex->State->Option R):Ex->State->Option R:=fun e s=>match e with
 | .normal=>rR l s fun s=>aB body l lx k s K
 |e=>rR lx s fun s=>K e s
def j4(t:Ty)(own:List (List Nat))(l:List SV)(b:Option bE)(K:El t->List SV->Option R):Option R:=
 match l,b with
 | .ptr 0 u []::r,some B=>if h:B.t.cn t=true then if(u.cn t&&B.own==own)=true then K (Ty.cast h B.x) r else none else none
 |_,_=>none
def ll(t pt bt:Ty)(own:List (List Nat))(l:List SV)(b:Option bE)(K:El t->El bt->Option R):Option R:=
 match l,b with
 | [a,.ptr 0 u []],some B=>if h:B.t.cn bt=true then if(u.cn pt&&B.own==own)=true then a.el t fun y=>K y (Ty.cast h B.x) else none else none
 |_,_=>none
def Hk(t u v w:Ty)(l:List SV)(K:El t->El u->El v->El w->Option R):Option R:=
 match l with
 | [a,b,.view v' x,.view w' y]=>if h:v'.cn v=true then if h2:w'.cn w=true then a.el t fun p=>b.el u fun q=>K p q (Ty.cast h x) (Ty.cast h2 y) else none else none
 |_=>none
def gn(b:Option bE)(K:Option R):Option R:=
 match b with
 |none=>K
 |some _=>none
theorem EZ{b:Option bE}{F:Option R}{G:Option S}{K:S->Option R}(h:F=G.bind K):gn b F=(gn b G).bind K:=by
 cases b
 ·exact h
 ·rfl
theorem EU{b:Option bE}{F:Option R}{z:R}(h:gn b F=some z):b=none/\F=some z:=by
 cases b
 ·exact⟨rfl,h⟩
 ·cases h
theorem zhx(c:Bool)(x y:Option S)(F:S->Option R):(bif c then x else y).bind F=bif c then x.bind F else y.bind F:=by cases c<;>rfl
theorem acQ(i:Int)(n:Nat)(x:Option S)(F:S->Option R):(zd i n x).bind F=zd i n (x.bind F):=by
 unfold zd;rw[zhx,zhx];rfl
theorem agJ(F:S->Option R):(none:Option S).bind F=none:=Eq.trans rfl rfl
theorem zc(x:S)(F:S->Option R):(some x).bind F=F x:=Eq.trans rfl rfl
theorem akw{α β:Type}(f:α->Option S)(g:β->Option S)(e:α⊕β)(F:S->Option R):(Sum.elim f g e).bind F=Sum.elim (fun x=>(f x).bind F) (fun x=>(g x).bind F) e:=by cases e<;>rfl
theorem afQ{α:Type}(x:Option α)(f:α->Option S)(F:S->Option R):(x.bind f).bind F=x.bind fun y=>(f y).bind F:=by cases x<;>rfl
theorem zhi{l:List SV}{F:Option R}{G:Option S}{K:S->Option R}(h:F=G.bind K):fT l F=(fT l G).bind K:=by
 unfold fT;split
 ·exact h
 ·rfl
theorem zhj{t:Ty}{l:List SV}{F:El t->Option R}{G:El t->Option S}{K:S->Option R}(h:∀x,F x=(G x).bind K):fU t l F=(fU t l G).bind K:=by
 unfold fU;split
 ·exact zr h
 ·rfl
theorem zhk{t u:Ty}{l:List SV}{F:El t->El u->Option R}{G:El t->El u->Option S}{K:S->Option R}(h:∀x y,F x y=(G x y).bind K):fy t u l F=(fy t u l G).bind K:=by
 unfold fy;split
 ·exact zr fun x=>zr fun y=>h x y
 ·rfl
theorem afL{t u v:Ty}{l:List SV}{F:El t->El u->El v->Option R}{G:El t->El u->El v->Option S}{K:S->Option R}(h:∀x y z,F x y z=(G x y z).bind K):lm t u v l F=(lm t u v l G).bind K:=by
 unfold lm;split
 ·exact zr fun x=>zr fun y=>zr fun z=>h x y z
 ·rfl
theorem afM{t u v w:Ty}{l:List SV}{F:El t->El u->El v->El w->Option R}{G:El t->El u->El v->El w->Option S}{K:S->Option R}(h:∀x y z a,F x y z a=(G x y z a).bind K):ln t u v w l F=(ln t u v w l G).bind K:=by
 unfold ln;split
 ·exact zr fun x=>zr fun y=>zr fun z=>zr fun a=>h x y z a
 ·rfl
theorem PT{t:Ty}{own:List (List Nat)}{l:List SV}{b:Option bE}{F:El t->List SV->Option R}{G:El t->List SV->Option S}{K:S->Option R}(h:∀x r,F x r=(G x r).bind K):j4 t own l b F=(j4 t own l b G).bind K:=by
 unfold j4;split
 ·split
  ·split
   ·exact h _ _
   ·rfl
  ·rfl
 ·rfl
theorem afK{t pt bt:Ty}{own:List (List Nat)}{l:List SV}{b:Option bE}{F:El t->El bt->Option R}{G:El t->El bt->Option S}{K:S->Option R}(h:∀x y,F x y=(G x y).bind K):ll t pt bt own l b F=(ll t pt bt own l b G).bind K:=by
 unfold ll;split
 ·split
  ·split
   ·exact zr fun y=>h _ _
   ·rfl
  ·rfl
 ·rfl
theorem ac7{t u v w:Ty}{l:List SV}{F:El t->El u->El v->El w->Option R}{G:El t->El u->El v->El w->Option S}{K:S->Option R}(h:∀x y z a,F x y z a=(G x y z a).bind K):Hk t u v w l F=(Hk t u v w l G).bind K:=by
 unfold Hk;split
 ·split
  ·split
   ·exact zr fun x=>zr fun y=>h x y _ _
   ·rfl
  ·rfl
 ·rfl
theorem rL{α:Type}{m:Option α}{F:α->Option R}{G:α->Option S}{K:S->Option R}(h:∀r,F r=(G r).bind K):m.bind F=(m.bind G).bind K:=by
 cases m with
 |none=>rfl
 |some x=>exact h x
theorem QT{α β:Type}{f:α->Option R}{g:β->Option R}{f':α->Option S}{g':β->Option S}{K:S->Option R}{e:α⊕β}(h1:∀x,f x=(f' x).bind K)(h2:∀x,g x=(g' x).bind K):Sum.elim f g e=(Sum.elim f' g' e).bind K:=by
 cases e with
 |inl x=>exact h1 x
 |inr x=>exact h2 x
end
section
variable {R:Type}
theorem agn{C:FuncId->bW R}{k:Nat}{fn:Func}{code:Code}{l q:List SV}{b:Option bE}{K:List SV->Option bE->Option R}(h:aM E.ps l=q)(hq:aM E.ps q=q)(hl:q.length=l.length):jC E C k fn code l b K=jC E C k fn code q b K:=by
 unfold jC
 simp only[h,hq,hl]
theorem Mb:∀{ts:List Ty} {q:List SV},(∀s∈q,s.shut=s/\s≠ .cF)->aM ts q=q
 |ts,[],_=>by cases ts<;>simp [aM]
 | [],q,_=>by simp [aM]
 |t::r,v::q,h=>by
  have h1:=h v (by simp)
  have h2:=Mb (ts:=r) (q:=q) (fun s hs=>h s (by simp [hs]))
  cases t<;>cases v<;>simp [aM,h2]<;>first|exact h1.1|exact absurd rfl h1.2
theorem akg{ts:List Ty}{l:List SV}(h:aM ts l=[]):l=[]:=by
 have:=SO ts l
 rw[h] at this
 exact List.length_eq_zero_iff.1 this.symm
theorem Ma{t:Ty}{r:List Ty}{l:List SV}{v':SV}{q':List SV}(h:aM (t::r) l=v'::q'):∃v q,l=v::q:=by
 cases l with
 |nil=>simp [aM] at h
 |cons v q=>exact⟨v,q,rfl⟩
theorem nK{t:Ty}{r:List Ty}{l:List SV}{a:SV}{q':List SV}{K:El t->Option R}{z:R}(hn:aM (t::r) l=a::q')(h:a.el t K=some z):∃y v q,a= .ak t y []/\l=v::q/\aM r q=q'/\K y=some z:=by
 obtain⟨v,q,rfl⟩:=Ma hn
 obtain⟨y,h1,h2,h3⟩:=amv hn h
 exact⟨y,v,q,h1,rfl,h2.symm,h3⟩
theorem E1{l q:List SV}(hn:aM E.ps l=q)(hd:∀s∈q,s.shut=s/\s≠ .cF){C:FuncId->bW R}{k:Nat}{fn:Func}{code:Code}{b:Option bE}{K:List SV->Option bE->Option R}:jC E C k fn code l b K=jC E C k fn code q b K:=
 agn hn (Mb hd) (by rw[<-hn,SO])
theorem ye{t:Ty}{x:El t}:(SV.ak t x []).shut=SV.ak t x []/\SV.ak t x []≠ .cF:=⟨rfl,by simp⟩
def gT(E:Env)(l q:List SV):Prop:=∀{R:Type} (C:FuncId->bW R) (k:Nat) (fn:Func) (code:Code) (b:Option bE) (K:List SV->Option bE->Option R),jC E C k fn code l b K=jC E C k fn code q b K
theorem xI{l:List SV}{F:Option R}{z:R}(jg:E.ps=[])(h:fT (aM [] l) F=some z):F=some z/\gT E l []:=by
 unfold fT at h
 split at h
 ·rename_i hn
  have:=akg hn
  subst this
  exact⟨h,fun C k fn code b K=>rfl⟩
 ·cases h
theorem KK{t:Ty}{l:List SV}{F:El t->Option R}{z:R}(jg:E.ps=[t])(h:fU t (aM [t] l) F=some z):∃x,F x=some z/\gT E l [.ak t x []]:=by
 unfold fU at h
 split at h
 ·rename_i a hn
  obtain⟨x,v,q,rfl,rfl,h1,h⟩:=nK hn h
  refine⟨x,h,fun C k fn code b K=>E1 (by rw[jg];exact hn) ?_⟩
  intro s hs
  simp only[List.mem_cons,List.not_mem_nil,or_false] at hs
  subst hs;exact ye
 ·cases h
theorem kv{t u:Ty}{l:List SV}{F:El t->El u->Option R}{z:R}(jg:E.ps=[t,u])(h:fy t u (aM [t,u] l) F=some z):∃x y,F x y=some z/\gT E l [.ak t x [],.ak u y []]:=by
 unfold fy at h
 split at h
 ·rename_i a b hn
  obtain⟨x,v,q,rfl,rfl,h1,h⟩:=nK hn h
  obtain⟨y,v',q',rfl,rfl,h2,h⟩:=nK h1 h
  refine⟨x,y,h,fun C k fn code b K=>E1 (by rw[jg];exact hn) ?_⟩
  intro s hs
  simp only[List.mem_cons,List.not_mem_nil,or_false] at hs
  rcases hs with rfl|rfl<;>exact ye
 ·cases h
theorem abq{t u v:Ty}{l:List SV}{F:El t->El u->El v->Option R}{z:R}(jg:E.ps=[t,u,v])(h:lm t u v (aM [t,u,v] l) F=some z):∃x y a,F x y a=some z/\gT E l [.ak t x [],.ak u y [],.ak v a []]:=by
 unfold lm at h
 split at h
 ·rename_i a b c hn
  obtain⟨x,v,q,rfl,rfl,h1,h⟩:=nK hn h
  obtain⟨y,v',q',rfl,rfl,h2,h⟩:=nK h1 h
  obtain⟨w,v',q',rfl,rfl,h3,h⟩:=nK h2 h
  refine⟨x,y,w,h,fun C k fn code b K=>E1 (by rw[jg];exact hn) ?_⟩
  intro s hs
  simp only[List.mem_cons,List.not_mem_nil,or_false] at hs
  rcases hs with rfl|rfl|rfl<;>exact ye
 ·cases h
theorem abr{t u v w:Ty}{l:List SV}{F:El t->El u->El v->El w->Option R}{z:R}(jg:E.ps=[t,u,v,w])(h:ln t u v w (aM [t,u,v,w] l) F=some z):∃x y a b,F x y a b=some z/\gT E l [.ak t x [],.ak u y [],.ak v a [],.ak w b []]:=by
 unfold ln at h
 split at h
 ·rename_i a b c d hn
  obtain⟨x,v,q,rfl,rfl,h1,h⟩:=nK hn h
  obtain⟨y,v',q',rfl,rfl,h2,h⟩:=nK h1 h
  obtain⟨w,v',q',rfl,rfl,h3,h⟩:=nK h2 h
  obtain⟨w',v',q',rfl,rfl,h4,h⟩:=nK h3 h
  refine⟨x,y,w,w',h,fun C k fn code b K=>E1 (by rw[jg];exact hn) ?_⟩
  intro s hs
  simp only[List.mem_cons,List.not_mem_nil,or_false] at hs
  rcases hs with rfl|rfl|rfl|rfl<;>exact ye
 ·cases h
theorem zhh{t:Ty}{own:List (List Nat)}{l:List SV}{b:Option bE}{F:El t->List SV->Option R}{z:R}(h:j4 t own l b F=some z):∃x r,l= .ptr 0 t []::r/\b=some ⟨t,x,own⟩/\F x r=some z:=by
 unfold j4 at h
 split at h
 ·rename_i u r B
  split at h
  ·rename_i hB
   split at h
   ·rename_i hu
    simp only[Bool.and_eq_true,beq_iff_eq] at hu
    obtain⟨h1,h2⟩:=hu
    obtain⟨Bt,Bx,Bo⟩:=B
    have:=Ty.aJ hB
    have h3:=Ty.aJ h1
    subst this
    subst h3
    subst h2
    exact⟨Bx,r,rfl,rfl,h⟩
   ·cases h
  ·cases h
 ·cases h
theorem akp{ts:List Ty}{l:List SV}{t:Ty}{r:List SV}(h:aM (.unit::ts) l= .ptr 0 t []::r):∃q,l= .ptr 0 t []::q/\aM ts q=r:=by
 obtain⟨v,q,rfl⟩:=Ma h
 cases v<;>simp [aM,SV.shut] at h
 obtain⟨⟨rfl,rfl,rfl⟩,h2⟩:=h
 exact⟨q,rfl,h2⟩
theorem Pt{t:Ty}:(SV.ptr 0 t []).shut=SV.ptr 0 t []/\SV.ptr 0 t []≠ .cF:=⟨rfl,by simp⟩
theorem CC{t:Ty}{own:List (List Nat)}{ts:List Ty}{l:List SV}{b:Option bE}{F:El t->List SV->Option R}{z:R}(h:j4 t own (aM (.unit::ts) l) b F=some z):∃x q,l= .ptr 0 t []::q/\b=some ⟨t,x,own⟩/\F x (aM ts q)=some z:=by
 obtain⟨x,r,h1,h2,h3⟩:=zhh h
 obtain⟨q,rfl,hq⟩:=akp h1
 exact⟨x,q,rfl,h2,by rw[hq];exact h3⟩
theorem gT.ptr{t:Ty}{ts:List Ty}{q q':List SV}(jg:E.ps= .unit::ts)(hn:aM ts q=q')(hd:∀s∈q',s.shut=s/\s≠ .cF):gT E (.ptr 0 t []::q) (.ptr 0 t []::q'):=fun C k fn code b K=>
 E1 (by rw[jg];simp [aM,SV.shut,hn]) (fun s hs=>by
  rcases List.mem_cons.1 hs with rfl|hs
  ·exact Pt
  ·exact hd s hs)
theorem KL{t:Ty}{q:List SV}{F:Option R}{z:R}(jg:E.ps=[.unit])(h:fT (aM [] q) F=some z):F=some z/\gT E (.ptr 0 t []::q) [.ptr 0 t []]:=by
 unfold fT at h
 split at h
 ·rename_i hn
  exact⟨h,gT.ptr jg hn (by simp)⟩
 ·cases h
theorem KM{t u:Ty}{q:List SV}{F:El u->Option R}{z:R}(jg:E.ps=[.unit,u])(h:fU u (aM [u] q) F=some z):∃x,F x=some z/\gT E (.ptr 0 t []::q) [.ptr 0 t [],.ak u x []]:=by
 unfold fU at h
 split at h
 ·rename_i a hn
  obtain⟨x,v,q,rfl,rfl,h1,h⟩:=nK hn h
  refine⟨x,h,gT.ptr jg hn ?_⟩
  intro s hs
  simp only[List.mem_cons,List.not_mem_nil,or_false] at hs
  subst hs;exact ye
 ·cases h
theorem KN{t u v:Ty}{q:List SV}{F:El u->El v->Option R}{z:R}(jg:E.ps=[.unit,u,v])(h:fy u v (aM [u,v] q) F=some z):∃x y,F x y=some z/\gT E (.ptr 0 t []::q) [.ptr 0 t [],.ak u x [],.ak v y []]:=by
 unfold fy at h
 split at h
 ·rename_i a b hn
  obtain⟨x,v,q,rfl,rfl,h1,h⟩:=nK hn h
  obtain⟨y,v',q',rfl,rfl,h2,h⟩:=nK h1 h
  refine⟨x,y,h,gT.ptr jg hn ?_⟩
  intro s hs
  simp only[List.mem_cons,List.not_mem_nil,or_false] at hs
  rcases hs with rfl|rfl<;>exact ye
 ·cases h
theorem KP{t pt bt:Ty}{own:List (List Nat)}{l:List SV}{b:Option bE}{F:El t->El bt->Option R}{z:R}(jg:E.ps=[t,.unit])(h:ll t pt bt own (aM [t,.unit] l) b F=some z):
 ∃x y,b=some ⟨bt,y,own⟩/\F x y=some z/\gT E l [.ak t x [],.ptr 0 pt []]:=by
 unfold ll at h
 split at h
 ·rename_i a u B hn
  split at h
  ·rename_i hB
   split at h
   ·rename_i hu
    simp only[Bool.and_eq_true,beq_iff_eq] at hu
    obtain⟨h1,h2⟩:=hu
    obtain⟨Bt,Bx,Bo⟩:=B
    have:=Ty.aJ hB
    have h3:=Ty.aJ h1
    subst this
    subst h3
    subst h2
    obtain⟨y,v,q,rfl,rfl,h4,h⟩:=nK hn h
    refine⟨y,Bx,rfl,h,fun C k fn code b K=>E1 (by rw[jg];exact hn) ?_⟩
    intro s hs
    simp only[List.mem_cons,List.not_mem_nil,or_false] at hs
    rcases hs with rfl|rfl
    ·exact ye
    ·exact Pt
   ·cases h
  ·cases h
 ·cases h
theorem OT{t:Ty}{x:El t}:(SV.view t x).shut=SV.view t x/\SV.view t x≠ .cF:=⟨rfl,by simp⟩
theorem KO{t u v w:Ty}{l:List SV}{F:El t->El u->El v->El w->Option R}{z:R}(jg:E.ps=[t,u,.unit,.unit])(h:Hk t u v w (aM [t,u,.unit,.unit] l) F=some z):
 ∃p q x y,F p q x y=some z/\gT E l [.ak t p [],.ak u q [],.view v x,.view w y]:=by
 unfold Hk at h
 split at h
 ·rename_i a b v' x w' y hn
  split at h
  ·rename_i hv
   split at h
   ·rename_i hw
    have:=Ty.aJ hv
    have h3:=Ty.aJ hw
    subst this
    subst h3
    obtain⟨p,v1,q1,rfl,rfl,h4,h⟩:=nK hn h
    obtain⟨q,v2,q2,rfl,rfl,h5,h⟩:=nK h4 h
    refine⟨p,q,x,y,h,fun C k fn code b K=>E1 (by rw[jg];exact hn) ?_⟩
    intro s hs
    simp only[List.mem_cons,List.not_mem_nil,or_false] at hs
    rcases hs with rfl|rfl|rfl|rfl
    ·exact ye
    ·exact ye
    ·exact OT
    ·exact OT
   ·cases h
  ·cases h
 ·cases h
end
end Go.Ref

namespace Go.Ref
open Go
variable {P:Program} {E:Env}
def ax.after(X:ax)(w:World):ax:=⟨w,fun g=>if g<X.w.heap.size then X.ow g else .ro 0,X.β⟩
theorem zus{X:ax}{w:World}(h:RowKit.Below X.w.heap.size X.w w){a:Addr}{v:Value}(hs:X.az a v):(X.after w).az a v:=by
 have ar:=ax.iI hs
 refine⟨hs.1,?_,?_⟩
 ·have:=hs.2.1
  simp only[World.cell?] at this⊢
  rw[show(X.after w).w=w from rfl,h.block _ ar];exact this
 ·simp only[ax.after];rw[if_pos ar];exact hs.2.2
theorem afH{X:ax}{w:World}(h:RowKit.Below X.w.heap.size X.w w):Ext X (X.after w) where
 az:=fun _ _=>zus h
 size:=h.size
 os:=h.os
 tape:=h.tape
 output:=h.output
 β0:=rfl
 still:=fun g hg _=>⟨by simp only[ax.after];rw[if_pos hg],h.block g hg⟩
theorem aj5{C:ah}(h0:∀f,cW P C f){n:FuncId}{g:Pure}(eE:rU P n)
 (h:∀(l:List SV) (b:Option bE) (r:List SV) (b':Option bE),g (List SV×Option bE) l b (fun r b=>some (r,b))=some (r,b')->b'=none/\(∀id t p,SV.ptr id t p∉r)/\r.any SV.bO=false/\
   ∀(X:ax) (args:Array Value),jS X l b args->Calls P n args X.w fun e w'=>∃v,e= .returned v/\RowKit.Below X.w.heap.size X.w w'/\∀Y:ax,Y.w=w'->(∀a v,X.az a v->Y.az a v)->cM Y .r r v):∀f,cW P (C.add n [] g) f:=by
 intro f
 by_cases e:f=n
 ·subst e
  intro l b r b' hc
  unfold ah.add at hc
  have hb:Nat.beq f f=true:=by simp
  rw[hb] at hc
  have hc:g (List SV×Option bE) (aM [] l) b (fun r b=>some (r,b))=some (r,b'):=hc
  have hl:aM [] l=l:=by cases l<;>rfl
  rw[hl] at hc
  obtain⟨rfl,hp,dU,B6⟩:=h l b r b' hc
  refine⟨eE,fun X args ia=>(B6 X args ia).mono fun e w' he=> ?_⟩
  obtain⟨v,rfl,hB,aL⟩:=he
  refine⟨X.after w',rfl,afH hB,0,aL {X.after w' with β:=fun _=>some 0} rfl (fun a v hs=>(zus hB hs:(X.after w').az a v)),fun B' eA=>(by cases eA),fun _=>hp,dU⟩
 ·intro l b r b' hc
  unfold ah.add at hc
  have:Nat.beq f n=false:=by
   cases hh:Nat.beq f n with
   |false=>rfl
   |true=>exact absurd (Nat.eq_of_beq_eq_true hh) e
  rw[this] at hc
  exact h0 f l b r b' hc
theorem LG{X:ax}{l:List SV}{b:Option bE}{args:Array Value}(h:jS X l b args){i:Nat}{sv:SV}(hs:l[i]? =some sv){x:ByteArray}(hx:∀(X:ax) (pl:List Nat->Place) (v:Value),aA X pl sv v->∃cs,bh X .str x cs/\v=dR .str cs):args[i]? =some (.string x):=by
 have ar:i<args.size:=by rw[h.size];exact(List.getElem?_eq_some_iff.1 hs).1
 rw[Array.getElem?_eq_getElem ar]
 obtain⟨cs,h1,h2⟩:=hx X _ _ (h.rep i sv _ hs (Array.getElem?_eq_getElem ar))
 rw[h2,z28 h1]
theorem agl{X:ax}{l:List SV}{b:Option bE}{args:Array Value}(h:jS X l b args){i:Nat}{sv:SV}(hs:l[i]? =some sv){k:IntKind}{n:Int}(hx:∀(X:ax) (pl:List Nat->Place) (v:Value),aA X pl sv v->∃cs,bh X (.int k) n cs/\v=dR (.int k) cs):args[i]? =some (.int k n):=by
 have ar:i<args.size:=by rw[h.size];exact(List.getElem?_eq_some_iff.1 hs).1
 rw[Array.getElem?_eq_getElem ar]
 obtain⟨cs,h1,h2⟩:=hx X _ _ (h.rep i sv _ hs (Array.getElem?_eq_getElem ar))
 rw[h2,lM h1]
theorem ajq{args:Array Value}{v:Value}(hs:args.size=1)(h:args[0]? =some v):args= #[v]:=by
 apply Array.ext'
 match hl:args.toList,(show args.toList.length=1 by simpa using hs) with
 | [x],_=>
   have:args.toList[0]? =some v:=by simpa using h
   rw[hl] at this
   simpa using this
theorem MI{args:Array Value}{u v:Value}(hs:args.size=2)(h:args[0]? =some u)(h1:args[1]? =some v):args= #[u,v]:=by
 apply Array.ext'
 match hl:args.toList,(show args.toList.length=2 by simpa using hs) with
 | [x,y],_=>
   have a:args.toList[0]? =some u:=by simpa using h
   have b:args.toList[1]? =some v:=by simpa using h1
   rw[hl] at a b
   simp at a b
   rw[a,b]
theorem aj6{C:ah}(h0:∀f,cW P C f){n:FuncId}(eE:rU P n)(F:ByteArray->Int->Option ByteArray)
 (h:∀(s:ByteArray) (k:Int) (r:ByteArray),F s k=some r->∀w:World,Calls P n #[.string s,.int .i64 k] w fun e w'=>e= .returned (.string r)/\RowKit.Below w.heap.size w w'):
 ∀f,cW P (C.add n [] fun R l b K=>gn b (fy .str (.int .i64) l fun x0 x1=>(F x0 x1).bind fun r=>K [.ak .str r []] none)) f:=by
 refine aj5 h0 eE fun l b r b' hc=> ?_
 obtain⟨hb,hc2⟩:=EU hc
 clear hc
 subst hb
 have hc:=hc2
 clear hc2
 unfold fy at hc
 split at hc
 case h_2=>cases hc
 rename_i sa sb
 obtain⟨s,hc,hs⟩:=zy hc
 obtain⟨k,hc,hk⟩:=zy hc
 have hc:((F s k).bind fun r=>some (([SV.ak .str r []]:List SV),(none:Option bE)))=some (r,b'):=hc
 cases hF:F s k with
 |none=>rw[hF] at hc;cases hc
 |some x=>
  rw[hF] at hc
  cases hc
  refine⟨rfl,(fun id t p hm=>by simp at hm),rfl,fun X args ia=> ?_⟩
  have e:=MI ia.size (LG ia rfl hs) (agl ia rfl hk)
  rw[e]
  exact(h s k x hF X.w).mono fun e w' ⟨he,hB⟩=>⟨_,he,hB,fun Y _ _=>Bd⟩
end Go.Ref
namespace bp
open Go Go.Ref
def strings_Repeat(s:ByteArray)(k:Int):Option ByteArray:=
 bif decide (0<=k) then bif decide (k<=9223372036854775807) then bif decide ((s.size:Int)*k<=140737488355328) then some ⟨(Go.Lib.repeatL s.data.toList k.toNat).toArray⟩ else none else none else none
theorem ze1{P:Program}{ρ:Go.Shelf.Ren}(L:Go.Proofs.Lays.n105 P ρ)(B:Go.Proofs.Builder.Extra P ρ){n:FuncId}(hn:ρ.f 105=n)(s:ByteArray)(k:Int)(r:ByteArray)(h:strings_Repeat s k=some r)(w:World):
 Calls P n #[.string s,.int .i64 k] w fun e w'=>e= .returned (.string r)/\RowKit.Below w.heap.size w w':=by
 subst hn
 unfold strings_Repeat at h
 by_cases h0:0<=k
 ·by_cases h1:k<=9223372036854775807
  ·by_cases h2:(s.size:Int)*k<=140737488355328
   ·rw[decide_eq_true h0,decide_eq_true h1,decide_eq_true h2] at h
    cases h
    obtain⟨c,rfl⟩:∃c:Nat,k=(c:Int):=⟨k.toNat,by omega⟩
    exact Go.Proofs.Any.strings_Repeat L B s c w (by omega) (by rw[<-Int.natCast_mul] at h2;omega)
   ·rw[decide_eq_true h0,decide_eq_true h1,decide_eq_false h2] at h;cases h
  ·rw[decide_eq_true h0,decide_eq_false h1] at h;cases h
 ·rw[decide_eq_false h0] at h;cases h
end bp

namespace Go.Ref
open Go Go.Shelf Go.RowKit Go.Proofs
variable {P:Program} {E:Env} {ρ:Ren}
abbrev xO(T e:TypeId):Ty:= .aG (.gH T e) .unit .unit
def Sl(x s:ByteArray):Option (Int×ByteArray):=bif decide (x.size+s.size<=140737488355328) then some ((s.size:Int),x++s) else none
def z5a(x:ByteArray):Option (ByteArray×ByteArray):=some (x,x)
def Rt(T e:TypeId):Pure:=fun R l b K=>j4 (xO T e) [[]] l b fun x0 l=>fU .str l fun x1=>(Sl x0 x1).bind fun r=>K [.ak (.int .i64) r.1 [],.undef] (some ⟨xO T e,r.2,[[]]⟩)
def Rs(T e:TypeId):Pure:=fun R l b K=>j4 (xO T e) [[]] l b fun x0 l=>fT l ((z5a x0).bind fun r=>K [.ak .str r.1 []] (some ⟨xO T e,r.2,[]⟩))
theorem aop(T e:TypeId):(Rt T e).Nat:=fun R S l b F G K h=>PT fun _ _=>zhj fun _=>rL fun _=>h _ _
theorem aoo(T e:TypeId):(Rs T e).Nat:=fun R S l b F G K h=>PT fun _ _=>zhi (rL fun _=>h _ _)
theorem ach(x s:ByteArray):Lib.strCells (x++s)=Lib.strCells x++Lib.strCells s:=by
 simp [Lib.strCells,ByteArray.data_append]
def ax.gH(X:ax)(w:World)(r:Nat)(g:Option Nat):ax:=⟨w,fun k=>if k=r then .box 0 else if g=some k then .row (.b 0 []) 0 else if k<X.w.heap.size then X.ow k else .ro 0,X.β⟩
theorem Og{X:ax}{w:World}{r:Nat}{g0 g:Option Nat}(how:X.ow r= .box 0)(h0:∀k,g0=some k->X.ow k= .row (.b 0 []) 0)(h:gF r g0 X.w w)(hg:∀k,g=some k->g0=some k\/X.w.heap.size<=k):Ext X (X.gH w r g):=by
 have dv:∀k,k<X.w.heap.size->X.ow k≠ .box 0->X.ow k≠ .row (.b 0 []) 0->(X.gH w r g).ow k=X.ow k/\w.heap[k]? =X.w.heap[k]? :=fun k hk h1 h2=>by
  have hr:k≠r:=fun e=>h1 (by rw[e];exact how)
  have hg1:g≠some k:=fun e=>by
   rcases hg k e with e2|e2
   ·exact h2 (h0 k e2)
   ·omega
  have hg2:some k≠g0:=fun e=>h2 (h0 k e.symm)
  refine⟨?_,h.block k hk hr hg2⟩
  simp only[ax.gH]
  rw[if_neg hr,if_neg hg1,if_pos hk]
 refine⟨fun a v hs=> ?_,h.size,h.os,h.tape,h.output,rfl,fun k hk bR=> ?_⟩
 ·have ar:=ax.iI hs
  have hu:=hs.2.2
  obtain⟨k1,k2⟩:=dv a.block ar (fun e=>by rw[e] at hu;exact hu) (fun e=>by rw[e] at hu;exact Nat.not_lt_zero _ hu)
  refine⟨hs.1,?_,by rw[k1];exact hu⟩
  have:=hs.2.1
  simp only[World.cell?] at this⊢
  rw[show(X.gH w r g).w.heap=w.heap from rfl,k2];exact this
 ·exact dv k hk (fun e=>by rw[e] at bR;exact bR) (fun e=>by rw[e] at bR;exact bR)
theorem MN(n:Nat):Nat.beq n n=true:=by simp
theorem O9{f n:Nat}(e:f≠n):Nat.beq f n=false:=by
 cases hh:Nat.beq f n with
 |false=>rfl
 |true=>exact absurd (Nat.eq_of_beq_eq_true hh) e
theorem afS{C:ah}(h0:∀f,cW P C f){n T e:TypeId}(eE:rU P n)(L:Lays.n166 P ρ)(X0:Builder.Extra P ρ)(hn:ρ.f 166=n)(hT:ρ.t 72=T)(he:ρ.t 5=e):∀f,cW P (C.add n [] (Rt T e)) f:=by
 subst hT he
 intro f
 by_cases ef:f=n
 ·subst ef
  intro l b r b' hc
  unfold ah.add at hc
  rw[MN] at hc
  have hc:Rt (ρ.t 72) (ρ.t 5) (List SV×Option bE) (aM [] l) b (fun r b=>some (r,b))=some (r,b'):=hc
  have hl:aM [] l=l:=by cases l<;>rfl
  rw[hl] at hc
  unfold Rt at hc
  obtain⟨x,q,rfl,rfl,JR⟩:=zhh hc
  clear hc
  have hc:=JR
  clear JR
  unfold fU at hc
  split at hc
  case h_2=>cases hc
  rename_i a
  obtain⟨s,hc,hs⟩:=zy hc
  unfold Sl at hc
  cases hd:decide (ByteArray.size x+s.size<=140737488355328) with
  |false=>rw[hd] at hc;cases hc
  |true=>
   rw[hd] at hc
   cases hc
   have hlen:=of_decide_eq_true hd
   refine⟨eE,fun X args ia=> ?_⟩
   obtain⟨r0,hβ,how,⟨o,ho⟩,hb⟩:=ia.box _ rfl
   obtain⟨v,hB,hv⟩:=hb (by simp)
   have di:args.size=2:=by rw[ia.size];rfl
   have a0:args[0]? =some (.pointer (some ⟨r0,0,none⟩)):=by
    rw[Array.getElem?_eq_getElem (by omega)]
    obtain⟨r1,g1,g2⟩:=ia.rep 0 _ _ rfl (Array.getElem?_eq_getElem (by omega))
    rw[hβ] at g1
    cases g1
    rw[((PZ rfl).1 g2).1];rfl
   have a1:args[1]? =some (.string s):=LG ia (i:=1) rfl hs
   rw[MI di a0 a1,<-hn]
   refine(afU L X0 r0 v (Lib.strCells x) s X.w hB (by rw[Lib.strCells_length];exact hlen)).mono ?_
   rintro e w' ⟨rfl,v',eA,xf,gZ⟩
   have hY:(X.gH w' r0 v'.ownBlock).ow r0= .box 0:=by simp [ax.gH]
   refine⟨X.gH w' r0 v'.ownBlock,rfl,Og how hv xf gZ,r0,⟨_,rfl,rfl,fun j sv u hj hu=> ?_⟩,fun B' cU=> ?_,(fun _ id t p hm=>by simp at hm),rfl⟩
   ·match j with
    |0=>cases hj;cases hu;exact js
    |1=>cases hj;trivial
    |j+2=>simp at hj
   ·cases cU
    refine⟨⟨hY,?_,fun _=>⟨v',by rw[ach];exact eA,fun g hg=> ?_⟩⟩,fun _=>hβ⟩
    ·rcases eA.mW with h|h<;>exact⟨_,h⟩
    ·simp only[ax.gH]
     rw[if_neg (fun e=>eA.ne (by rw[hg,e])),if_pos hg]
 ·intro l b r b' hc
  unfold ah.add at hc
  rw[O9 ef] at hc
  exact h0 f l b r b' hc
theorem afR{C:ah}(h0:∀f,cW P C f){n T e:TypeId}(eE:rU P n)(L:Lays.n169 P ρ)(X0:Builder.Extra P ρ)(hn:ρ.f 169=n)(hT:ρ.t 72=T)(he:ρ.t 5=e):∀f,cW P (C.add n [] (Rs T e)) f:=by
 subst hT he
 intro f
 by_cases ef:f=n
 ·subst ef
  intro l b r b' hc
  unfold ah.add at hc
  rw[MN] at hc
  have hc:Rs (ρ.t 72) (ρ.t 5) (List SV×Option bE) (aM [] l) b (fun r b=>some (r,b))=some (r,b'):=hc
  have hl:aM [] l=l:=by cases l<;>rfl
  rw[hl] at hc
  unfold Rs at hc
  obtain⟨x,q,rfl,rfl,JR⟩:=zhh hc
  clear hc
  have hc:=JR
  clear JR
  unfold fT at hc
  split at hc
  case h_2=>cases hc
  cases hc
  refine⟨eE,fun X args ia=> ?_⟩
  obtain⟨r0,hβ,how,⟨o,ho⟩,hb⟩:=ia.box _ rfl
  obtain⟨v,hB,hv⟩:=hb (by simp)
  have di:args.size=1:=by rw[ia.size];rfl
  have a0:args[0]? =some (.pointer (some ⟨r0,0,none⟩)):=by
   rw[Array.getElem?_eq_getElem (by omega)]
   obtain⟨r1,g1,g2⟩:=ia.rep 0 _ _ rfl (Array.getElem?_eq_getElem (by omega))
   rw[hβ] at g1
   cases g1
   rw[((PZ rfl).1 g2).1];rfl
  rw[ajq di a0,<-hn]
  refine(ajw L X0 r0 v (x:ByteArray).data.toList X.w hB).mono ?_
  rintro e w' ⟨rfl,xf⟩
  have hY:(X.gH w' r0 none).ow r0= .box 0:=by simp [ax.gH]
  refine⟨X.gH w' r0 none,rfl,Og how hv xf (fun k hk=>by cases hk),r0,?_,fun B' cU=> ?_,(fun _ id t p hm=>by simp at hm),rfl⟩
  ·exact Bd
  ·cases cU
   refine⟨⟨hY,⟨_,Array.getElem?_eq_getElem (Nat.lt_of_lt_of_le hB.lt xf.size)⟩,fun hm=>by cases hm⟩,fun _=>hβ⟩
 ·intro l b r b' hc
  unfold ah.add at hc
  rw[O9 ef] at hc
  exact h0 f l b r b' hc
end Go.Ref

namespace Go.Ref
open Go
variable {P:Program} {R S:Type}
structure aP(P:Program)(T:ah):Prop where
 mix:P.follows .mixedOrders=true
 nat:T.Nat
 uE:∀f,cW P T f
noncomputable abbrev cd (fn:Func):Code:=fn.body.getD .skip
noncomputable abbrev vk (E:Env) (T:ah) (R:Type) (k:Nat) (fn:Func) (l:List SV) (b:Option bE) (K:List SV->Option bE->Option R):Option R:=jC E (T R) k fn (cd fn) l b K
abbrev KF(R:Type):Type:=List SV->Option bE->Option R
abbrev KX(R:Type):Type:=Ex->State->Option R
abbrev kE(β:Type):Type 1:=(R:Type)->β->KF R->Option R
def kE.Nat{β:Type}(o:kE β):Prop:=∀(R S:Type) r (F:KF R) (G:KF S) (K:S->Option R),(∀r b,F r b=(G r b).bind K)->o R r F=(o S r G).bind K
def tN(fn:Func):Bool:= !(fn.name== "runtime.NumGoroutine")&&fn.body.isSome
def tI(x:Int):SV:= .ak (.int .i64) x []
def tU(x:Int):SV:= .ak (.int .u8) x []
def tB(x:Bool):SV:= .ak .bool x []
def tS(x:ByteArray):SV:= .ak .str x []
theorem Pj{kk:Nat}(hF:kk=ai){R:Type}(f:Unit->Option R):cI kk f=f ():=by rw[hF];exact adC f
theorem aD:(∀{R S:Type} (c:Bool) (x y:Option S) (F:S->Option R),(bif c then x else y).bind F=bif c then x.bind F else y.bind F)/\(∀{R S:Type} (i:Int) (n:Nat) (x:Option S) (F:S->Option R),(zd i n x).bind F=zd i n (x.bind F))/\
 (∀{R S:Type} (F:S->Option R),(.none:Option S).bind F= .none)/\(∀{R S:Type} (x:S) (F:S->Option R),(some x).bind F=F x)/\(∀{R S α β:Type} (f:α->Option S) (g:β->Option S) (e:α⊕β) (F:S->Option R),(Sum.elim f g e).bind F=Sum.elim (fun x=>(f x).bind F) (fun x=>(g x).bind F) e)/\
 (∀{R S α:Type} (x:Option α) (f:α->Option S) (F:S->Option R),(x.bind f).bind F=x.bind fun y=>(f y).bind F)/\(∀{α β γ:Type} (f:α->γ) (g:β->γ) (x:α),Sum.elim f g (.inl x)=f x)/\(∀{α β γ:Type} (f:α->γ) (g:β->γ) (x:β),Sum.elim f g (.inr x)=g x):=
 ⟨zhx,acQ,agJ,zc,akw,afQ,fun _ _ _=>rfl,fun _ _ _=>rfl⟩
theorem aP.none(hm:P.follows .mixedOrders=true):aP P ah.none:=⟨hm,akf,agK⟩
theorem aP.add{E:Env}{T:ah}(h:aP P T)(hE:ap P E){n:FuncId}{ps:List Ty}{g:Pure}{fn:Func}(iL:P.funcs[n]? =some fn)(hc:tN fn=true)(hg:g.Nat)
 (h1:∀(l:List SV) (b:Option bE) (r:List SV) (b':Option bE),g (List SV×Option bE) (aM ps l) b (fun r b=>some (r,b))=some (r,b')->∃k,jC E (T (List SV×Option bE)) k fn (cd fn) l b (fun r b=>some (r,b))=some (r,b')):aP P (T.add n ps g):=by
 obtain⟨h2,h3⟩:=Bool.and_eq_true_iff.1 hc
 refine⟨h.mix,VV h.nat hg,ajo hE h.mix h.nat h.uE iL (by simpa using h2) ?_ h1⟩
 cases e:fn.body with
 |none=>rw[e] at h3;cases h3
 |some c=>simp [cd,e]
def Gk{β:Type}(f:Option β)(o:kE β):Pure:=fun R l b K=>gn b (fT l (f.bind fun r=>o R r K))
theorem KZ(E:Env){T:ah}{n:FuncId}(fn:Func){β:Type}{f:Option β}{o:kE β}(m:(R:Type)->Nat->KF R->Option R)(h0:aP P T)(hE:ap P E)(iL:P.funcs[n]? =some fn)(hc:tN fn=true)(hp:E.ps=[])(ho:o.Nat)
 (h1:∀(R:Type) k (K:KF R),vk E T R k fn [] .none K=m R k K) (h2:∀(R:Type) kk (e:kk=ai) (K:KF R),m R kk K=f.bind fun r=>o R r K):aP P (T.add n [] (Gk f o)):=
 h0.add hE iL hc (fun R S l b F G K h=>EZ (zhi (rL fun _=>ho _ _ _ _ _ _ h))) fun l b r b' h=>by
  obtain⟨rfl,h5⟩:=EU h
  obtain⟨h3,h4⟩:=xI hp h5
  exact⟨ai,(h4 _ _ _ _ _ _).trans (((h1 _ _ _).trans (h2 _ _ rfl _)).trans h3)⟩
def cO(t:Ty){β:Type}(f:El t->Option β)(o:kE β):Pure:=fun R l b K=>gn b (fU t l (fun x=>(f x).bind fun r=>o R r K))
theorem cP(E:Env){T:ah}{n:FuncId}(fn:Func){t:Ty}{β:Type}{f:El t->Option β}{o:kE β}(m:(R:Type)->Nat->El t->KF R->Option R)(h0:aP P T)(hE:ap P E)(iL:P.funcs[n]? =some fn)(hc:tN fn=true)(hp:E.ps=[t])(ho:o.Nat)
 (h1:∀(R:Type) k x (K:KF R),vk E T R k fn [.ak t x []] .none K=m R k x K) (h2:∀(R:Type) kk (e:kk=ai) x (K:KF R),m R kk x K=(f x).bind fun r=>o R r K):aP P (T.add n [t] (cO t f o)):=
 h0.add hE iL hc (fun R S l b F G K h=>EZ (zhj fun _=>rL fun _=>ho _ _ _ _ _ _ h)) fun l b r b' h=>by
  obtain⟨rfl,h5⟩:=EU h
  obtain⟨x,h3,h4⟩:=KK hp h5
  exact⟨ai,(h4 _ _ _ _ _ _).trans (((h1 _ _ x _).trans (h2 _ _ rfl x _)).trans h3)⟩
def dp(t u:Ty){β:Type}(f:El t->El u->Option β)(o:kE β):Pure:=fun R l b K=>gn b (fy t u l (fun x y=>(f x y).bind fun r=>o R r K))
theorem dx(E:Env){T:ah}{n:FuncId}(fn:Func){t u:Ty}{β:Type}{f:El t->El u->Option β}{o:kE β}(m:(R:Type)->Nat->El t->El u->KF R->Option R)(h0:aP P T)(hE:ap P E)(iL:P.funcs[n]? =some fn)(hc:tN fn=true)(hp:E.ps=[t,u])(ho:o.Nat)
 (h1:∀(R:Type) k x y (K:KF R),vk E T R k fn [.ak t x [],.ak u y []] .none K=m R k x y K) (h2:∀(R:Type) kk (e:kk=ai) x y (K:KF R),m R kk x y K=(f x y).bind fun r=>o R r K):aP P (T.add n [t,u] (dp t u f o)):=
 h0.add hE iL hc (fun R S l b F G K h=>EZ (zhk fun _ _=>rL fun _=>ho _ _ _ _ _ _ h)) fun l b r b' h=>by
  obtain⟨rfl,h5⟩:=EU h
  obtain⟨x,y,h3,h4⟩:=kv hp h5
  exact⟨ai,(h4 _ _ _ _ _ _).trans (((h1 _ _ x y _).trans (h2 _ _ rfl x y _)).trans h3)⟩
def kH(t u v:Ty){β:Type}(f:El t->El u->El v->Option β)(o:kE β):Pure:=fun R l b K=>gn b (lm t u v l (fun x y a=>(f x y a).bind fun r=>o R r K))
theorem kW(E:Env){T:ah}{n:FuncId}(fn:Func){t u v:Ty}{β:Type}{f:El t->El u->El v->Option β}{o:kE β}(m:(R:Type)->Nat->El t->El u->El v->KF R->Option R)(h0:aP P T)(hE:ap P E)(iL:P.funcs[n]? =some fn)(hc:tN fn=true)(hp:E.ps=[t,u,v])(ho:o.Nat)
 (h1:∀(R:Type) k x y a (K:KF R),vk E T R k fn [.ak t x [],.ak u y [],.ak v a []] .none K=m R k x y a K) (h2:∀(R:Type) kk (e:kk=ai) x y a (K:KF R),m R kk x y a K=(f x y a).bind fun r=>o R r K):aP P (T.add n [t,u,v] (kH t u v f o)):=
 h0.add hE iL hc (fun R S l b F G K h=>EZ (afL fun _ _ _=>rL fun _=>ho _ _ _ _ _ _ h)) fun l b r b' h=>by
  obtain⟨rfl,h5⟩:=EU h
  obtain⟨x,y,a,h3,h4⟩:=abq hp h5
  exact⟨ai,(h4 _ _ _ _ _ _).trans (((h1 _ _ x y a _).trans (h2 _ _ rfl x y a _)).trans h3)⟩
def Sd(t u v w:Ty){β:Type}(f:El t->El u->El v->El w->Option β)(o:kE β):Pure:=fun R l b K=>gn b (ln t u v w l (fun x y a b=>(f x y a b).bind fun r=>o R r K))
theorem st4(E:Env){T:ah}{n:FuncId}(fn:Func){t u v w:Ty}{β:Type}{f:El t->El u->El v->El w->Option β}{o:kE β}(m:(R:Type)->Nat->El t->El u->El v->El w->KF R->Option R)(h0:aP P T)(hE:ap P E)(iL:P.funcs[n]? =some fn)(hc:tN fn=true)(hp:E.ps=[t,u,v,w])(ho:o.Nat)
 (h1:∀(R:Type) k x y a b (K:KF R),vk E T R k fn [.ak t x [],.ak u y [],.ak v a [],.ak w b []] .none K=m R k x y a b K) (h2:∀(R:Type) kk (e:kk=ai) x y a b (K:KF R),m R kk x y a b K=(f x y a b).bind fun r=>o R r K):aP P (T.add n [t,u,v,w] (Sd t u v w f o)):=
 h0.add hE iL hc (fun R S l b F G K h=>EZ (afM fun _ _ _ _=>rL fun _=>ho _ _ _ _ _ _ h)) fun l b r b' h=>by
  obtain⟨rfl,h5⟩:=EU h
  obtain⟨x,y,a,b,h3,h4⟩:=abr hp h5
  exact⟨ai,(h4 _ _ _ _ _ _).trans (((h1 _ _ x y a b _).trans (h2 _ _ rfl x y a b _)).trans h3)⟩
def Gj(T0:Ty)(wn:List (List Nat)){β:Type}(f:El T0->Option β)(o:kE β):Pure:=fun R l b K=>j4 T0 wn l b fun z l=>fT l ((f z).bind fun r=>o R r K)
theorem Si(E:Env){T:ah}{n:FuncId}(fn:Func){T0:Ty}{wn:List (List Nat)}{β:Type}{f:El T0->Option β}{o:kE β}(m:(R:Type)->Nat->El T0->KF R->Option R)(h0:aP P T)(hE:ap P E)(iL:P.funcs[n]? =some fn)(hc:tN fn=true)(hp:E.ps=[.unit])(ho:o.Nat)
 (h1:∀(R:Type) k z (K:KF R),vk E T R k fn [.ptr 0 T0 []] (some ⟨T0,z,wn⟩) K=m R k z K) (h2:∀(R:Type) kk (e:kk=ai) z (K:KF R),m R kk z K=(f z).bind fun r=>o R r K):aP P (T.add n [.unit] (Gj T0 wn f o)):=
 h0.add hE iL hc (fun R S l b F G K h=>PT fun _ _=>zhi (rL fun _=>ho _ _ _ _ _ _ h)) fun l b r b' h=>by
  unfold Gj at h
  obtain⟨z,q,rfl,rfl,h5⟩:=CC h
  obtain⟨h3,h4⟩:=KL hp h5
  exact⟨ai,(h4 _ _ _ _ _ _).trans (((h1 _ _ z _).trans (h2 _ _ rfl z _)).trans h3)⟩
def CF(T0:Ty)(wn:List (List Nat))(t:Ty){β:Type}(f:El T0->El t->Option β)(o:kE β):Pure:=fun R l b K=>j4 T0 wn l b fun z l=>fU t l (fun x=>(f z x).bind fun r=>o R r K)
theorem KW(E:Env){T:ah}{n:FuncId}(fn:Func){T0:Ty}{wn:List (List Nat)}{t:Ty}{β:Type}{f:El T0->El t->Option β}{o:kE β}(m:(R:Type)->Nat->El T0->El t->KF R->Option R)(h0:aP P T)(hE:ap P E)(iL:P.funcs[n]? =some fn)(hc:tN fn=true)(hp:E.ps=[.unit,t])(ho:o.Nat)
 (h1:∀(R:Type) k z x (K:KF R),vk E T R k fn [.ptr 0 T0 [],.ak t x []] (some ⟨T0,z,wn⟩) K=m R k z x K) (h2:∀(R:Type) kk (e:kk=ai) z x (K:KF R),m R kk z x K=(f z x).bind fun r=>o R r K):aP P (T.add n [.unit,t] (CF T0 wn t f o)):=
 h0.add hE iL hc (fun R S l b F G K h=>PT fun _ _=>zhj fun _=>rL fun _=>ho _ _ _ _ _ _ h) fun l b r b' h=>by
  unfold CF at h
  obtain⟨z,q,rfl,rfl,h5⟩:=CC h
  obtain⟨x,h3,h4⟩:=KM hp h5
  exact⟨ai,(h4 _ _ _ _ _ _).trans (((h1 _ _ z x _).trans (h2 _ _ rfl z x _)).trans h3)⟩
def pb2(T0:Ty)(wn:List (List Nat))(t u:Ty){β:Type}(f:El T0->El t->El u->Option β)(o:kE β):Pure:=fun R l b K=>j4 T0 wn l b fun z l=>fy t u l (fun x y=>(f z x y).bind fun r=>o R r K)
theorem sb2(E:Env){T:ah}{n:FuncId}(fn:Func){T0:Ty}{wn:List (List Nat)}{t u:Ty}{β:Type}{f:El T0->El t->El u->Option β}{o:kE β}(m:(R:Type)->Nat->El T0->El t->El u->KF R->Option R)(h0:aP P T)(hE:ap P E)(iL:P.funcs[n]? =some fn)(hc:tN fn=true)(hp:E.ps=[.unit,t,u])(ho:o.Nat)
 (h1:∀(R:Type) k z x y (K:KF R),vk E T R k fn [.ptr 0 T0 [],.ak t x [],.ak u y []] (some ⟨T0,z,wn⟩) K=m R k z x y K) (h2:∀(R:Type) kk (e:kk=ai) z x y (K:KF R),m R kk z x y K=(f z x y).bind fun r=>o R r K):aP P (T.add n [.unit,t,u] (pb2 T0 wn t u f o)):=
 h0.add hE iL hc (fun R S l b F G K h=>PT fun _ _=>zhk fun _ _=>rL fun _=>ho _ _ _ _ _ _ h) fun l b r b' h=>by
  unfold pb2 at h
  obtain⟨z,q,rfl,rfl,h5⟩:=CC h
  obtain⟨x,y,h3,h4⟩:=KN hp h5
  exact⟨ai,(h4 _ _ _ _ _ _).trans (((h1 _ _ z x y _).trans (h2 _ _ rfl z x y _)).trans h3)⟩
def pz(t pt bt:Ty)(wn:List (List Nat)){β:Type}(f:El t->El bt->Option β)(o:kE β):Pure:=fun R l b K=>ll t pt bt wn l b fun x y=>(f x y).bind fun r=>o R r K
theorem sz(E:Env){T:ah}{n:FuncId}(fn:Func){t pt bt:Ty}{wn:List (List Nat)}{β:Type}{f:El t->El bt->Option β}{o:kE β}(m:(R:Type)->Nat->El t->El bt->KF R->Option R)(h0:aP P T)(hE:ap P E)(iL:P.funcs[n]? =some fn)(hc:tN fn=true)(hp:E.ps=[t,.unit])(ho:o.Nat)
 (h1:∀(R:Type) k x y (K:KF R),vk E T R k fn [.ak t x [],.ptr 0 pt []] (some ⟨bt,y,wn⟩) K=m R k x y K) (h2:∀(R:Type) kk (e:kk=ai) x y (K:KF R),m R kk x y K=(f x y).bind fun r=>o R r K):aP P (T.add n [t,.unit] (pz t pt bt wn f o)):=
 h0.add hE iL hc (fun R S l b F G K h=>afK fun _ _=>rL fun _=>ho _ _ _ _ _ _ h) fun l b r b' h=>by
  obtain⟨x,y,rfl,h3,h4⟩:=KP hp h
  exact⟨ai,(h4 _ _ _ _ _ _).trans (((h1 _ _ x y _).trans (h2 _ _ rfl x y _)).trans h3)⟩
def pv(t u v w:Ty){β:Type}(f:El t->El u->El v->El w->Option β)(o:kE β):Pure:=fun R l b K=>gn b (Hk t u v w l (fun x y a b=>(f x y a b).bind fun r=>o R r K))
theorem sv(E:Env){T:ah}{n:FuncId}(fn:Func){t u v w:Ty}{β:Type}{f:El t->El u->El v->El w->Option β}{o:kE β}(m:(R:Type)->Nat->El t->El u->El v->El w->KF R->Option R)(h0:aP P T)(hE:ap P E)(iL:P.funcs[n]? =some fn)(hc:tN fn=true)(hp:E.ps=[t,u,.unit,.unit])(ho:o.Nat)
 (h1:∀(R:Type) k x y a b (K:KF R),vk E T R k fn [.ak t x [],.ak u y [],.view v a,.view w b] .none K=m R k x y a b K) (h2:∀(R:Type) kk (e:kk=ai) x y a b (K:KF R),m R kk x y a b K=(f x y a b).bind fun r=>o R r K):aP P (T.add n [t,u,.unit,.unit] (pv t u v w f o)):=
 h0.add hE iL hc (fun R S l b F G K h=>EZ (ac7 fun _ _ _ _=>rL fun _=>ho _ _ _ _ _ _ h)) fun l b r b' h=>by
  unfold pv at h
  obtain⟨rfl,h5⟩:=EU h
  obtain⟨x,y,a,b,h3,h4⟩:=KO hp h5
  exact⟨ai,(h4 _ _ _ _ _ _).trans (((h1 _ _ x y a b _).trans (h2 _ _ rfl x y a b _)).trans h3)⟩
end Go.Ref

namespace bp
open Go.IntKind renaming wrap->zW,i64->zI,u8->zU
open Go Go.Ref
abbrev mT:Type:=(ByteArray×Nat)
abbrev jy:Type:=(Int×Int×Int)
abbrev RP:Type:=(ByteArray×Int)
abbrev Zt3:Type:=(Int×ByteArray)
abbrev wZ:Type:=(List (List Int))
abbrev jL:Type:=(ByteArray×Bool)
abbrev aR:Type:=(Int×Int×Unit)
abbrev JB:Type:=(Int×Bool×Int)
abbrev BI:Type:=(List (Int×Bool))
abbrev JC:Type:=(ByteArray×Int×Int)
abbrev bj:Type:=(Int×ByteArray×Unit)
abbrev io:Type:=(List jL)
abbrev dG:Type:=(ByteArray×ByteArray×Unit)
abbrev al:Type:=(List bj)
abbrev ag:Type:=(Int×Bool×(List Int)×Unit)
abbrev aT:Type:=(Int×Int×Int×Int×Int×Unit)
abbrev lW:Type:=(Int×Int×ByteArray×Int×Unit)
abbrev aO:Type:=(List dG)
abbrev tK:Type:=(Int×ag)
abbrev gU:Type:=(List aT)
abbrev bZ:Type:=(List lW)
abbrev jz:Type:=(al×Int×Int)
abbrev aw:Type:=(ByteArray×al×Unit)
abbrev af:Type:=(Int×Int×gU×Unit)
abbrev oe:Type:=(List af)
abbrev aF:Type:=(Int×Int×Int×ByteArray×aO×Unit)
abbrev qW:Type:=(al×Int×Int×al)
abbrev bT:Type:=(List aF)
abbrev qX:Type:=(aw×aR×aw)
abbrev ay:Type:=(aO×bT×Unit)
abbrev qY:Type:=(ByteArray×Int×aw×aR×aw)
abbrev au:Type:=(af×ay×(List Int)×al×Unit)
abbrev mU:Type:=(List au)
abbrev lX:Type:=(ay×af×af)
abbrev aq:Type:=(mU×Int×Unit)
abbrev lY:Type:=(Int×Int×Int×ay×af×af)
def Vt{R:Type}(a:ByteArray)(b:Int)(c:ByteArray->Int->Option R):Option R:=
 c a b
def Vu{R:Type}(a:ByteArray)(b:Int)(c:ByteArray->Int->Option R)(d:ByteArray->Option R):Option R:=
 bif 0<(a.size:Int) then zd (zW zI ((a.size:Int)-1)) a.size (bif ze a (zW zI ((a.size:Int)-(1:Int))).toNat=b then bif 0<=zW zI ((a.size:Int)-1) then bif zW zI ((a.size:Int)-1)<=(a.size:Int) then c (a.extract 0 (zW zI ((a.size:Int)-(1:Int))).toNat) b else none else none else d a) else d a
def Vv{R:Type}(a:ByteArray)(b:ByteArray->Option R):Option R:=
 b a
def GZ:Nat->ByteArray->Int->Option ByteArray
 |0,_,_=>none
 |k+1,v0,v1=>Vu v0 v1 (fun a0 a1=>GZ k a0 a1) (fun a0=>some a0)
def vW(a:ByteArray)(b:Int):Option ByteArray:=
 Vt a b (fun a0 a1=>(GZ ai a0 a1).bind fun e=>Vv e (fun a0=>some a0))
def Vp{R:Type}(a:ByteArray)(b:Int)(c:ByteArray->Int->Option R):Option R:=
 c a b
def Vq{R:Type}(a:ByteArray)(b:Int)(c:ByteArray->Int->Option R)(d:ByteArray->Option R):Option R:=
 bif 0<(a.size:Int) then zd 0 a.size (bif ze a ((0:Int)).toNat=b then bif 1<=(a.size:Int) then c (a.extract ((1:Int)).toNat a.size) b else none else d a) else d a
def Vr{R:Type}(a:ByteArray)(b:ByteArray->Option R):Option R:=
 b a
def GY:Nat->ByteArray->Int->Option ByteArray
 |0,_,_=>none
 |k+1,v0,v1=>Vq v0 v1 (fun a0 a1=>GY k a0 a1) (fun a0=>some a0)
def vV(a:ByteArray)(b:Int):Option ByteArray:=
 Vp a b (fun a0 a1=>(GY ai a0 a1).bind fun e=>Vr e (fun a0=>some a0))
def Vn{R:Type}(a b:ByteArray)(c:ByteArray->Option R):Option R:=
 bif a=bs [] then c a else bif b=bs [] then c a else bif(b.size:Int)=1 then zd 0 b.size (bif ze b ((0:Int)).toNat<128 then zd 0 b.size ((vW a (ze b ((0:Int)).toNat)).bind fun r1=>zd 0 b.size ((vV r1 (ze b ((0:Int)).toNat)).bind fun r2=>c r2)) else none) else none
def tw(a b:ByteArray):Option ByteArray:=
 Vn a b (fun a0=>some a0)
def Xa{R:Type}(a:ByteArray)(b:mT->Option R):Option R:=
 b (a,0)
def Xb{R:Type}(a:mT)(b:Bool->Option R)(c:mT->Option R)(d:Option R):Option R:=
 bif a.2<a.1.size then bif(((Utf8.decode a.1 a.2).1:Nat):Int)<48 then b false else bif 57<(((Utf8.decode a.1 a.2).1:Nat):Int) then b false else c (a.1,a.2+(Utf8.decode a.1 a.2).2) else d
def DP{R:Type}(a:Bool)(b:Bool->Option R):Option R:=
 b a
def DQ{R:Type}(a:Bool->Option R):Option R:=
 a true
def Ha:Nat->mT->Option (Sum Bool Unit)
 |0,_=>none
 |k+1,v0=>Xb v0 (fun a0=>some (.inl a0)) (fun a0=>Ha k a0) (some (.inr ()))
def yq(a:ByteArray):Option Bool:=
 Xa a (fun a0=>(Ha ai a0).bind fun e=>Sum.elim (fun(we:Bool)=>DP we (fun a0=>some a0)) (fun(we:Unit)=>DQ (fun a0=>some a0)) e)
def Xd{R:Type}(a:ByteArray)(b:Int->Bool->Option R)(c:Int->mT->Option R):Option R:=
 bif a=bs [] then b 0 false else bif 18<(a.size:Int) then b 0 false else(yq a).bind fun r1=>bif !r1 then b 0 false else c 0 (a,0)
def Xe{R:Type}(a:Int)(b:mT)(c:Int->mT->Option R)(d:Int->Option R):Option R:=
 bif b.2<b.1.size then c (zW zI (zW zI (10*a)+zW zI (IntKind.i32.wrap ((((Utf8.decode b.1 b.2).1:Nat):Int)-48)))) (b.1,b.2+(Utf8.decode b.1 b.2).2) else d a
def DR{R:Type}(a:Int)(b:Int->Bool->Option R):Option R:=
 b a true
def Hb:Nat->Int->mT->Option Int
 |0,_,_=>none
 |k+1,v0,v1=>Xe v0 v1 (fun a0 a1=>Hb k a0 a1) (fun a0=>some a0)
def yr(a:ByteArray):Option (Int×Bool):=
 Xd a (fun a0 a1=>some (a0,a1)) (fun a0 a1=>(Hb ai a0 a1).bind fun e=>DR e (fun a0 a1=>some (a0,a1)))
def Xh{R:Type}(a b:Int)(c:ByteArray->Bool->Option R)(d:Int->Nat->Int->Nat->(List Int)->Option R):Option R:=
 bif a<0 then c (bs []) false else bif b<1 then c (bs []) false else bif 18<b then c (bs []) false else bif b=b then bif 0<=b then bif b*1<=140737488355328 then d a b.toNat (zW zI (b-1)) b.toNat (List.replicate b.toNat 0) else none else none else none
def Ra{R:Type}(a:Int)(b:Nat)(c:Int)(d:Nat)(e:(List Int))(f:Int->Nat->Int->Nat->(List Int)->Option R)(g:Int->Nat->Nat->(List Int)->Option R):Option R:=
 bif 0<=c then zd c b (bif Nat.ble (c.toNat+1) (List.length e) then f (zW zI (Int.tdiv a 10)) b (zW zI (c-1)) d (List.set e c.toNat (zW zU (zW zI (48+Int.tmod a 10)))) else none) else g a b d e
def Xi{R:Type}(a:Int)(b c:Nat)(d:(List Int))(e:ByteArray->Bool->Option R):Option R:=
 bif 0<a then e (bs []) false else bif Nat.beq b (List.length d) then e (strOf d) true else none
def FF:Nat->Int->Nat->Int->Nat->(List Int)->Option (Int×Nat×Nat×(List Int))
 |0,_,_,_,_,_=>none
 |k+1,v0,v1,v2,v3,v4=>Ra v0 v1 v2 v3 v4 (fun a0 a1 a2 a3 a4=>FF k a0 a1 a2 a3 a4) (fun a0 a1 a2 a3=>some (a0,a1,a2,a3))
def HL(a b:Int):Option jL:=
 Xh a b (fun a0 a1=>some (a0,a1)) (fun a0 a1 a2 a3 a4=>(FF ai a0 a1 a2 a3 a4).bind fun e=>Xi e.1 e.2.1 e.2.2.1 e.2.2.2 (fun a0 a1=>some (a0,a1)))
def Xf{R:Type}(a:ByteArray)(b:Int)(c:ByteArray->Bool->Option R):Option R:=
 bif a=bs [] then c (bs []) false else bif 999<(a.size:Int) then c (bs []) false else(yq a).bind fun r1=>bif !r1 then c (bs []) false else bif b<1 then c (bs []) false else bif 999<b then c (bs []) false else bif(a.size:Int)<=b then(strings_Repeat (bs [48]) (zW zI (b-(a.size:Int)))).bind fun r2=>bif r2.size+a.size<=9223372036854775807 then c (r2++a) true else none else bif 0<=zW zI ((a.size:Int)-b) then bif zW zI ((a.size:Int)-b)<=(a.size:Int) then(tw (a.extract 0 (zW zI ((a.size:Int)-b)).toNat) (bs [48])).bind fun r3=>bif !decide (r3=bs []) then c (bs []) false else bif 0<=zW zI ((a.size:Int)-b) then bif zW zI ((a.size:Int)-b)<=(a.size:Int) then c (a.extract (zW zI ((a.size:Int)-b)).toNat a.size) true else none else none else none else none
def HJ(a:ByteArray)(b:Int):Option jL:=
 Xf a b (fun a0 a1=>some (a0,a1))
def pg{R:Type}(a:Int)(b:Int->Option R):Option R:=
 bif a<1 then b 0 else b (zW zI (zW zI (Int.tdiv a 2)+Int.tmod a 2))
def Q2(a:Int):Option Int:=
 pg a (fun a0=>some a0)
def oT{R:Type}(a:ByteArray)(b:Int)(c:ByteArray->Int->Int->Option R)(d:ByteArray->Int->(List Int)->Int->Int->Option R):Option R:=
 bif b<0 then c (bs []) 1 0 else bif 999<b then c (bs []) 1 0 else(Q2 b).bind fun r1=>bif(a.size:Int)<r1 then c (bs []) 2 (a.size:Int) else bif 0<=zW zI (b+1) then bif zW zI (b+1)*1<=140737488355328 then(Q2 b).bind fun r2=>d a b [] r2 0 else none else none
def mH{R:Type}(a:ByteArray)(b:Int)(c:(List Int))(d e:Int)(f:Int->ByteArray->Int->Int->(List Int)->Option R)(g:ByteArray->Int->(List Int)->Int->Int->Option R)(h:Int->(List Int)->Option R):Option R:=
 bif e<d then zd e a.size (zd e a.size (bif e=0 then bif !decide (Int.tmod b 2=0) then bif !decide (Int.fdiv (ze a e.toNat) (2^min ((4:Int)).toNat 8)=0) then f b (bs []) 4 0 c else bif 9<Int.fdiv (ze a e.toNat) (2^min ((4:Int)).toNat 8) then f b (bs []) 3 e c else bif 9<aQ .and .u8 (ze a e.toNat) 15 then f b (bs []) 3 e c else bif(List.length c+List.length ([(zW zU ((48:Int)+Int.fdiv (ze a e.toNat) (2^min ((4:Int)).toNat 8))),(zW zU ((48:Int)+aQ .and .u8 (ze a e.toNat) (15:Int)))]:List Int))*1<=140737488355328 then g a b (c++([(zW zU (48+Int.fdiv (ze a e.toNat) (2^min ((4:Int)).toNat 8))),(zW zU (48+aQ .and .u8 (ze a e.toNat) 15))]:List Int)) d (zW zI (e+1)) else none else bif 9<Int.fdiv (ze a e.toNat) (2^min ((4:Int)).toNat 8) then f b (bs []) 3 e c else bif 9<aQ .and .u8 (ze a e.toNat) 15 then f b (bs []) 3 e c else bif(List.length c+List.length ([(zW zU ((48:Int)+Int.fdiv (ze a e.toNat) (2^min ((4:Int)).toNat 8))),(zW zU ((48:Int)+aQ .and .u8 (ze a e.toNat) (15:Int)))]:List Int))*1<=140737488355328 then g a b (c++([(zW zU (48+Int.fdiv (ze a e.toNat) (2^min ((4:Int)).toNat 8))),(zW zU (48+aQ .and .u8 (ze a e.toNat) 15))]:List Int)) d (zW zI (e+1)) else none else bif 9<Int.fdiv (ze a e.toNat) (2^min ((4:Int)).toNat 8) then f b (bs []) 3 e c else bif 9<aQ .and .u8 (ze a e.toNat) 15 then f b (bs []) 3 e c else bif(List.length c+List.length ([(zW zU ((48:Int)+Int.fdiv (ze a e.toNat) (2^min ((4:Int)).toNat 8))),(zW zU ((48:Int)+aQ .and .u8 (ze a e.toNat) (15:Int)))]:List Int))*1<=140737488355328 then g a b (c++([(zW zU (48+Int.fdiv (ze a e.toNat) (2^min ((4:Int)).toNat 8))),(zW zU (48+aQ .and .u8 (ze a e.toNat) 15))]:List Int)) d (zW zI (e+1)) else none)) else h b c
def sG{R:Type}(a:Int)(b:ByteArray)(c d:Int)(e:(List Int))(f:ByteArray->Int->Int->Option R):Option R:=
 f b c d
def oU{R:Type}(a:Int)(b:(List Int))(c:ByteArray->Int->Int->Option R):Option R:=
 bif 0<=Int.tmod a 2 then bif Int.tmod a 2<=(((List.length b):Nat):Int) then c (strOf (List.drop (Int.tmod a (2:Int)).toNat (List.take (List.length b) b))) 0 0 else none else none
def jc:Nat->ByteArray->Int->(List Int)->Int->Int->Option (Sum (Int×ByteArray×Int×Int×(List Int)) (Int×(List Int)))
 |0,_,_,_,_,_=>none
 |k+1,v0,v1,v2,v3,v4=>mH v0 v1 v2 v3 v4 (fun a0 a1 a2 a3 a4=>some (.inl (a0,a1,a2,a3,a4))) (fun a0 a1 a2 a3 a4=>jc k a0 a1 a2 a3 a4) (fun a0 a1=>some (.inr (a0,a1)))
def Q0(a:ByteArray)(b:Int):Option JC:=
 oT a b (fun a0 a1 a2=>some (a0,a1,a2)) (fun a0 a1 a2 a3 a4=>(jc ai a0 a1 a2 a3 a4).bind fun e=>Sum.elim (fun(we:(Int×ByteArray×Int×Int×(List Int)))=>sG we.1 we.2.1 we.2.2.1 we.2.2.2.1 we.2.2.2.2 (fun a0 a1 a2=>some (a0,a1,a2))) (fun(we:(Int×(List Int)))=>oU we.1 we.2 (fun a0 a1 a2=>some (a0,a1,a2))) e)
def kZ{R:Type}(a:ByteArray)(b:ByteArray->Bool->Option R)(c:ByteArray->(List Int)->Int->Option R):Option R:=
 bif 999<(a.size:Int) then b (bs []) false else(yq a).bind fun r1=>bif !r1 then b (bs []) false else bif !decide (Int.tmod (a.size:Int) 2=0) then bif(bs [48]).size+a.size<=9223372036854775807 then bif 0<=zW zI (Int.tdiv ((bs [48]++a).size:Int) 2) then bif zW zI (Int.tdiv ((bs [48]++a).size:Int) 2)*1<=140737488355328 then c (bs [48]++a) [] 0 else none else none else none else bif 0<=zW zI (Int.tdiv (a.size:Int) 2) then bif zW zI (Int.tdiv (a.size:Int) 2)*1<=140737488355328 then c a [] 0 else none else none
theorem ac1{R S:Type}(F:R->Option S)(a)(b)(c):(kZ a b c).bind F=kZ a (fun a0 a1=>(b a0 a1).bind F) (fun a0 a1 a2=>(c a0 a1 a2).bind F):=by
 simp only[kZ,aD]
def mN{R:Type}(a:ByteArray)(b:(List Int))(c:Int)(d:ByteArray->(List Int)->Int->Option R)(e:(List Int)->Option R):Option R:=
 bif c<(a.size:Int) then zd c a.size (zd (zW zI (c+1)) a.size (bif(List.length b+List.length ([(aQ .or .u8 (zW zU (zW zU (ze a c.toNat-(48:Int))*2^min ((4:Int)).toNat 8)) (zW zU (ze a (zW zI (c+(1:Int))).toNat-(48:Int))))]:List Int))*1<=140737488355328 then d a (b++([(aQ .or .u8 (zW zU (zW zU (ze a c.toNat-48)*2^min ((4:Int)).toNat 8)) (zW zU (ze a (zW zI (c+(1:Int))).toNat-48)))]:List Int)) (zW zI (c+2)) else none)) else e b
def tn{R:Type}(a:(List Int))(b:ByteArray->Bool->Option R):Option R:=
 b (strOf a) true
def jV:Nat->ByteArray->(List Int)->Int->Option (List Int)
 |0,_,_,_=>none
 |k+1,v0,v1,v2=>mN v0 v1 v2 (fun a0 a1 a2=>jV k a0 a1 a2) (fun a0=>some a0)
def Q1(a:ByteArray):Option jL:=
 kZ a (fun a0 a1=>some (a0,a1)) (fun a0 a1 a2=>(jV ai a0 a1 a2).bind fun e=>tn e (fun a0 a1=>some (a0,a1)))
def pr{R:Type}(a:Int)(b:Int->Option R):Option R:=
 bif a<0 then b 0 else bif 65535<a then b 0 else bif 255<a then b (zW zI (zW zI (zW zI (0+1)+1)+1)) else bif 127<a then b (zW zI (zW zI (0+1)+1)) else b (zW zI (0+1))
def Q4(a:Int):Option Int:=
 pr a (fun a0=>some a0)
def ld{R:Type}(a:ByteArray)(b:Int)(c:Int->Int->Int->Option R)(d:ByteArray->Int->Int->Int->Int->Int->Option R):Option R:=
 bif b<0 then c 0 0 1 else bif(a.size:Int)<b then c 0 0 1 else bif b=(a.size:Int) then c 0 0 2 else zd b a.size (bif 127<zW zI (ze a b.toNat) then bif zW zI (ze a b.toNat)=128 then c 0 0 14 else bif 130<zW zI (ze a b.toNat) then c 0 0 14 else bif zW zI ((a.size:Int)-zW zI (b+1))<zW zI (zW zI (ze a b.toNat)-128) then c 0 0 2 else d a (zW zI (b+1)) 0 (zW zI (zW zI (ze a b.toNat)-128)) (zW zI (zW zI (ze a b.toNat)-128)) 0 else bif zW zI ((a.size:Int)-zW zI (b+1))<0 then c 0 0 2 else d a (zW zI (b+1)) (zW zI (ze a b.toNat)) 0 0 0)
theorem ac2{R S:Type}(F:R->Option S)(a)(b)(c)(d):(ld a b c d).bind F=ld a b (fun a0 a1 a2=>(c a0 a1 a2).bind F) (fun a0 a1 a2 a3 a4 a5=>(d a0 a1 a2 a3 a4 a5).bind F):=by
 simp only[ld,aD]
def lf{R:Type}(a:ByteArray)(b c d e f:Int)(g:ByteArray->Int->Int->Int->Int->Int->Option R)(h:Int->Int->Int->Option R):Option R:=
 bif f<e then zd (zW zI (b+f)) a.size (g a b (aQ .or .i64 (zW zI (c*2^min ((8:Int)).toNat 64)) (zW zI (ze a (zW zI (b+f)).toNat))) d e (zW zI (f+1))) else h b c d
def lg{R:Type}(a b c:Int)(d:Int->Int->Int->Option R):Option R:=
 (Q4 b).bind fun r1=>bif !decide (r1=zW zI (c+1)) then d 0 0 14 else d b (zW zI (a+c)) 0
def eS:Nat->ByteArray->Int->Int->Int->Int->Int->Option jy
 |0,_,_,_,_,_,_=>none
 |k+1,v0,v1,v2,v3,v4,v5=>lf v0 v1 v2 v3 v4 v5 (fun a0 a1 a2 a3 a4 a5=>eS k a0 a1 a2 a3 a4 a5) (fun a0 a1 a2=>some (a0,a1,a2))
def Q3(a:ByteArray)(b:Int):Option jy:=
 ld a b (fun a0 a1 a2=>some (a0,a1,a2)) (fun a0 a1 a2 a3 a4 a5=>(eS ai a0 a1 a2 a3 a4 a5).bind fun e=>lg e.1 e.2.1 e.2.2 (fun a0 a1 a2=>some (a0,a1,a2)))
def zyk{R:Type}(a:Int)(b:Int->Option R):Option R:=
 bif 4294967296<=a then bif 65536<=Int.fdiv a (2^min ((32:Int)).toNat 64) then bif 256<=Int.fdiv (Int.fdiv a (2^min ((32:Int)).toNat 64)) (2^min ((16:Int)).toNat 64) then zd (zW zU (Int.fdiv (Int.fdiv (Int.fdiv a (2^min ((32:Int)).toNat 64)) (2^min ((16:Int)).toNat 64)) (2^min ((8:Int)).toNat 64))) (bs [0,1,2,2,3,3,3,3,4,4,4,4,4,4,4,4,5,5,5,5,5,5,5,5,5,5,5,5,5,5,5,5,6,6,6,6,6,6,6,6,6,6,6,6,6,6,6,6,6,6,6,6,6,6,6,6,6,6,6,6,6,6,6,6,7,7,7,7,7,7,7,7,7,7,7,7,7,7,7,7,7,7,7,7,7,7,7,7,7,7,7,7,7,7,7,7,7,7,7,7,7,7,7,7,7,7,7,7,7,7,7,7,7,7,7,7,7,7,7,7,7,7,7,7,7,7,7,7,8,8,8,8,8,8,8,8,8,8,8,8,8,8,8,8,8,8,8,8,8,8,8,8,8,8,8,8,8,8,8,8,8,8,8,8,8,8,8,8,8,8,8,8,8,8,8,8,8,8,8,8,8,8,8,8,8,8,8,8,8,8,8,8,8,8,8,8,8,8,8,8,8,8,8,8,8,8,8,8,8,8,8,8,8,8,8,8,8,8,8,8,8,8,8,8,8,8,8,8,8,8,8,8,8,8,8,8,8,8,8,8,8,8,8,8,8,8,8,8,8,8,8,8,8,8,8,8]).size (b (zW zI (zW zI (zW zI (32+16)+8)+zW zI (ze (bs [0,1,2,2,3,3,3,3,4,4,4,4,4,4,4,4,5,5,5,5,5,5,5,5,5,5,5,5,5,5,5,5,6,6,6,6,6,6,6,6,6,6,6,6,6,6,6,6,6,6,6,6,6,6,6,6,6,6,6,6,6,6,6,6,7,7,7,7,7,7,7,7,7,7,7,7,7,7,7,7,7,7,7,7,7,7,7,7,7,7,7,7,7,7,7,7,7,7,7,7,7,7,7,7,7,7,7,7,7,7,7,7,7,7,7,7,7,7,7,7,7,7,7,7,7,7,7,7,8,8,8,8,8,8,8,8,8,8,8,8,8,8,8,8,8,8,8,8,8,8,8,8,8,8,8,8,8,8,8,8,8,8,8,8,8,8,8,8,8,8,8,8,8,8,8,8,8,8,8,8,8,8,8,8,8,8,8,8,8,8,8,8,8,8,8,8,8,8,8,8,8,8,8,8,8,8,8,8,8,8,8,8,8,8,8,8,8,8,8,8,8,8,8,8,8,8,8,8,8,8,8,8,8,8,8,8,8,8,8,8,8,8,8,8,8,8,8,8,8,8,8,8,8,8,8,8]) (zW zU (Int.fdiv (Int.fdiv (Int.fdiv a (2^min ((32:Int)).toNat 64)) (2^min ((16:Int)).toNat 64)) (2^min ((8:Int)).toNat 64))).toNat)))) else zd (zW zU (Int.fdiv (Int.fdiv a (2^min ((32:Int)).toNat 64)) (2^min ((16:Int)).toNat 64))) (bs [0,1,2,2,3,3,3,3,4,4,4,4,4,4,4,4,5,5,5,5,5,5,5,5,5,5,5,5,5,5,5,5,6,6,6,6,6,6,6,6,6,6,6,6,6,6,6,6,6,6,6,6,6,6,6,6,6,6,6,6,6,6,6,6,7,7,7,7,7,7,7,7,7,7,7,7,7,7,7,7,7,7,7,7,7,7,7,7,7,7,7,7,7,7,7,7,7,7,7,7,7,7,7,7,7,7,7,7,7,7,7,7,7,7,7,7,7,7,7,7,7,7,7,7,7,7,7,7,8,8,8,8,8,8,8,8,8,8,8,8,8,8,8,8,8,8,8,8,8,8,8,8,8,8,8,8,8,8,8,8,8,8,8,8,8,8,8,8,8,8,8,8,8,8,8,8,8,8,8,8,8,8,8,8,8,8,8,8,8,8,8,8,8,8,8,8,8,8,8,8,8,8,8,8,8,8,8,8,8,8,8,8,8,8,8,8,8,8,8,8,8,8,8,8,8,8,8,8,8,8,8,8,8,8,8,8,8,8,8,8,8,8,8,8,8,8,8,8,8,8,8,8,8,8,8,8]).size (b (zW zI (zW zI (32+16)+zW zI (ze (bs [0,1,2,2,3,3,3,3,4,4,4,4,4,4,4,4,5,5,5,5,5,5,5,5,5,5,5,5,5,5,5,5,6,6,6,6,6,6,6,6,6,6,6,6,6,6,6,6,6,6,6,6,6,6,6,6,6,6,6,6,6,6,6,6,7,7,7,7,7,7,7,7,7,7,7,7,7,7,7,7,7,7,7,7,7,7,7,7,7,7,7,7,7,7,7,7,7,7,7,7,7,7,7,7,7,7,7,7,7,7,7,7,7,7,7,7,7,7,7,7,7,7,7,7,7,7,7,7,8,8,8,8,8,8,8,8,8,8,8,8,8,8,8,8,8,8,8,8,8,8,8,8,8,8,8,8,8,8,8,8,8,8,8,8,8,8,8,8,8,8,8,8,8,8,8,8,8,8,8,8,8,8,8,8,8,8,8,8,8,8,8,8,8,8,8,8,8,8,8,8,8,8,8,8,8,8,8,8,8,8,8,8,8,8,8,8,8,8,8,8,8,8,8,8,8,8,8,8,8,8,8,8,8,8,8,8,8,8,8,8,8,8,8,8,8,8,8,8,8,8,8,8,8,8,8,8]) (zW zU (Int.fdiv (Int.fdiv a (2^min ((32:Int)).toNat 64)) (2^min ((16:Int)).toNat 64))).toNat)))) else bif 256<=Int.fdiv a (2^min ((32:Int)).toNat 64) then zd (zW zU (Int.fdiv (Int.fdiv a (2^min ((32:Int)).toNat 64)) (2^min ((8:Int)).toNat 64))) (bs [0,1,2,2,3,3,3,3,4,4,4,4,4,4,4,4,5,5,5,5,5,5,5,5,5,5,5,5,5,5,5,5,6,6,6,6,6,6,6,6,6,6,6,6,6,6,6,6,6,6,6,6,6,6,6,6,6,6,6,6,6,6,6,6,7,7,7,7,7,7,7,7,7,7,7,7,7,7,7,7,7,7,7,7,7,7,7,7,7,7,7,7,7,7,7,7,7,7,7,7,7,7,7,7,7,7,7,7,7,7,7,7,7,7,7,7,7,7,7,7,7,7,7,7,7,7,7,7,8,8,8,8,8,8,8,8,8,8,8,8,8,8,8,8,8,8,8,8,8,8,8,8,8,8,8,8,8,8,8,8,8,8,8,8,8,8,8,8,8,8,8,8,8,8,8,8,8,8,8,8,8,8,8,8,8,8,8,8,8,8,8,8,8,8,8,8,8,8,8,8,8,8,8,8,8,8,8,8,8,8,8,8,8,8,8,8,8,8,8,8,8,8,8,8,8,8,8,8,8,8,8,8,8,8,8,8,8,8,8,8,8,8,8,8,8,8,8,8,8,8,8,8,8,8,8,8]).size (b (zW zI (zW zI (32+8)+zW zI (ze (bs [0,1,2,2,3,3,3,3,4,4,4,4,4,4,4,4,5,5,5,5,5,5,5,5,5,5,5,5,5,5,5,5,6,6,6,6,6,6,6,6,6,6,6,6,6,6,6,6,6,6,6,6,6,6,6,6,6,6,6,6,6,6,6,6,7,7,7,7,7,7,7,7,7,7,7,7,7,7,7,7,7,7,7,7,7,7,7,7,7,7,7,7,7,7,7,7,7,7,7,7,7,7,7,7,7,7,7,7,7,7,7,7,7,7,7,7,7,7,7,7,7,7,7,7,7,7,7,7,8,8,8,8,8,8,8,8,8,8,8,8,8,8,8,8,8,8,8,8,8,8,8,8,8,8,8,8,8,8,8,8,8,8,8,8,8,8,8,8,8,8,8,8,8,8,8,8,8,8,8,8,8,8,8,8,8,8,8,8,8,8,8,8,8,8,8,8,8,8,8,8,8,8,8,8,8,8,8,8,8,8,8,8,8,8,8,8,8,8,8,8,8,8,8,8,8,8,8,8,8,8,8,8,8,8,8,8,8,8,8,8,8,8,8,8,8,8,8,8,8,8,8,8,8,8,8,8]) (zW zU (Int.fdiv (Int.fdiv a (2^min ((32:Int)).toNat 64)) (2^min ((8:Int)).toNat 64))).toNat)))) else zd (zW zU (Int.fdiv a (2^min ((32:Int)).toNat 64))) (bs [0,1,2,2,3,3,3,3,4,4,4,4,4,4,4,4,5,5,5,5,5,5,5,5,5,5,5,5,5,5,5,5,6,6,6,6,6,6,6,6,6,6,6,6,6,6,6,6,6,6,6,6,6,6,6,6,6,6,6,6,6,6,6,6,7,7,7,7,7,7,7,7,7,7,7,7,7,7,7,7,7,7,7,7,7,7,7,7,7,7,7,7,7,7,7,7,7,7,7,7,7,7,7,7,7,7,7,7,7,7,7,7,7,7,7,7,7,7,7,7,7,7,7,7,7,7,7,7,8,8,8,8,8,8,8,8,8,8,8,8,8,8,8,8,8,8,8,8,8,8,8,8,8,8,8,8,8,8,8,8,8,8,8,8,8,8,8,8,8,8,8,8,8,8,8,8,8,8,8,8,8,8,8,8,8,8,8,8,8,8,8,8,8,8,8,8,8,8,8,8,8,8,8,8,8,8,8,8,8,8,8,8,8,8,8,8,8,8,8,8,8,8,8,8,8,8,8,8,8,8,8,8,8,8,8,8,8,8,8,8,8,8,8,8,8,8,8,8,8,8,8,8,8,8,8,8]).size (b (zW zI (32+zW zI (ze (bs [0,1,2,2,3,3,3,3,4,4,4,4,4,4,4,4,5,5,5,5,5,5,5,5,5,5,5,5,5,5,5,5,6,6,6,6,6,6,6,6,6,6,6,6,6,6,6,6,6,6,6,6,6,6,6,6,6,6,6,6,6,6,6,6,7,7,7,7,7,7,7,7,7,7,7,7,7,7,7,7,7,7,7,7,7,7,7,7,7,7,7,7,7,7,7,7,7,7,7,7,7,7,7,7,7,7,7,7,7,7,7,7,7,7,7,7,7,7,7,7,7,7,7,7,7,7,7,7,8,8,8,8,8,8,8,8,8,8,8,8,8,8,8,8,8,8,8,8,8,8,8,8,8,8,8,8,8,8,8,8,8,8,8,8,8,8,8,8,8,8,8,8,8,8,8,8,8,8,8,8,8,8,8,8,8,8,8,8,8,8,8,8,8,8,8,8,8,8,8,8,8,8,8,8,8,8,8,8,8,8,8,8,8,8,8,8,8,8,8,8,8,8,8,8,8,8,8,8,8,8,8,8,8,8,8,8,8,8,8,8,8,8,8,8,8,8,8,8,8,8,8,8,8,8,8,8]) (zW zU (Int.fdiv a (2^min ((32:Int)).toNat 64))).toNat)))) else bif 65536<=a then bif 256<=Int.fdiv a (2^min ((16:Int)).toNat 64) then zd (zW zU (Int.fdiv (Int.fdiv a (2^min ((16:Int)).toNat 64)) (2^min ((8:Int)).toNat 64))) (bs [0,1,2,2,3,3,3,3,4,4,4,4,4,4,4,4,5,5,5,5,5,5,5,5,5,5,5,5,5,5,5,5,6,6,6,6,6,6,6,6,6,6,6,6,6,6,6,6,6,6,6,6,6,6,6,6,6,6,6,6,6,6,6,6,7,7,7,7,7,7,7,7,7,7,7,7,7,7,7,7,7,7,7,7,7,7,7,7,7,7,7,7,7,7,7,7,7,7,7,7,7,7,7,7,7,7,7,7,7,7,7,7,7,7,7,7,7,7,7,7,7,7,7,7,7,7,7,7,8,8,8,8,8,8,8,8,8,8,8,8,8,8,8,8,8,8,8,8,8,8,8,8,8,8,8,8,8,8,8,8,8,8,8,8,8,8,8,8,8,8,8,8,8,8,8,8,8,8,8,8,8,8,8,8,8,8,8,8,8,8,8,8,8,8,8,8,8,8,8,8,8,8,8,8,8,8,8,8,8,8,8,8,8,8,8,8,8,8,8,8,8,8,8,8,8,8,8,8,8,8,8,8,8,8,8,8,8,8,8,8,8,8,8,8,8,8,8,8,8,8,8,8,8,8,8,8]).size (b (zW zI (zW zI (zW zI (0+16)+8)+zW zI (ze (bs [0,1,2,2,3,3,3,3,4,4,4,4,4,4,4,4,5,5,5,5,5,5,5,5,5,5,5,5,5,5,5,5,6,6,6,6,6,6,6,6,6,6,6,6,6,6,6,6,6,6,6,6,6,6,6,6,6,6,6,6,6,6,6,6,7,7,7,7,7,7,7,7,7,7,7,7,7,7,7,7,7,7,7,7,7,7,7,7,7,7,7,7,7,7,7,7,7,7,7,7,7,7,7,7,7,7,7,7,7,7,7,7,7,7,7,7,7,7,7,7,7,7,7,7,7,7,7,7,8,8,8,8,8,8,8,8,8,8,8,8,8,8,8,8,8,8,8,8,8,8,8,8,8,8,8,8,8,8,8,8,8,8,8,8,8,8,8,8,8,8,8,8,8,8,8,8,8,8,8,8,8,8,8,8,8,8,8,8,8,8,8,8,8,8,8,8,8,8,8,8,8,8,8,8,8,8,8,8,8,8,8,8,8,8,8,8,8,8,8,8,8,8,8,8,8,8,8,8,8,8,8,8,8,8,8,8,8,8,8,8,8,8,8,8,8,8,8,8,8,8,8,8,8,8,8,8]) (zW zU (Int.fdiv (Int.fdiv a (2^min ((16:Int)).toNat 64)) (2^min ((8:Int)).toNat 64))).toNat)))) else zd (zW zU (Int.fdiv a (2^min ((16:Int)).toNat 64))) (bs [0,1,2,2,3,3,3,3,4,4,4,4,4,4,4,4,5,5,5,5,5,5,5,5,5,5,5,5,5,5,5,5,6,6,6,6,6,6,6,6,6,6,6,6,6,6,6,6,6,6,6,6,6,6,6,6,6,6,6,6,6,6,6,6,7,7,7,7,7,7,7,7,7,7,7,7,7,7,7,7,7,7,7,7,7,7,7,7,7,7,7,7,7,7,7,7,7,7,7,7,7,7,7,7,7,7,7,7,7,7,7,7,7,7,7,7,7,7,7,7,7,7,7,7,7,7,7,7,8,8,8,8,8,8,8,8,8,8,8,8,8,8,8,8,8,8,8,8,8,8,8,8,8,8,8,8,8,8,8,8,8,8,8,8,8,8,8,8,8,8,8,8,8,8,8,8,8,8,8,8,8,8,8,8,8,8,8,8,8,8,8,8,8,8,8,8,8,8,8,8,8,8,8,8,8,8,8,8,8,8,8,8,8,8,8,8,8,8,8,8,8,8,8,8,8,8,8,8,8,8,8,8,8,8,8,8,8,8,8,8,8,8,8,8,8,8,8,8,8,8,8,8,8,8,8,8]).size (b (zW zI (zW zI (0+16)+zW zI (ze (bs [0,1,2,2,3,3,3,3,4,4,4,4,4,4,4,4,5,5,5,5,5,5,5,5,5,5,5,5,5,5,5,5,6,6,6,6,6,6,6,6,6,6,6,6,6,6,6,6,6,6,6,6,6,6,6,6,6,6,6,6,6,6,6,6,7,7,7,7,7,7,7,7,7,7,7,7,7,7,7,7,7,7,7,7,7,7,7,7,7,7,7,7,7,7,7,7,7,7,7,7,7,7,7,7,7,7,7,7,7,7,7,7,7,7,7,7,7,7,7,7,7,7,7,7,7,7,7,7,8,8,8,8,8,8,8,8,8,8,8,8,8,8,8,8,8,8,8,8,8,8,8,8,8,8,8,8,8,8,8,8,8,8,8,8,8,8,8,8,8,8,8,8,8,8,8,8,8,8,8,8,8,8,8,8,8,8,8,8,8,8,8,8,8,8,8,8,8,8,8,8,8,8,8,8,8,8,8,8,8,8,8,8,8,8,8,8,8,8,8,8,8,8,8,8,8,8,8,8,8,8,8,8,8,8,8,8,8,8,8,8,8,8,8,8,8,8,8,8,8,8,8,8,8,8,8,8]) (zW zU (Int.fdiv a (2^min ((16:Int)).toNat 64))).toNat)))) else bif 256<=a then zd (zW zU (Int.fdiv a (2^min ((8:Int)).toNat 64))) (bs [0,1,2,2,3,3,3,3,4,4,4,4,4,4,4,4,5,5,5,5,5,5,5,5,5,5,5,5,5,5,5,5,6,6,6,6,6,6,6,6,6,6,6,6,6,6,6,6,6,6,6,6,6,6,6,6,6,6,6,6,6,6,6,6,7,7,7,7,7,7,7,7,7,7,7,7,7,7,7,7,7,7,7,7,7,7,7,7,7,7,7,7,7,7,7,7,7,7,7,7,7,7,7,7,7,7,7,7,7,7,7,7,7,7,7,7,7,7,7,7,7,7,7,7,7,7,7,7,8,8,8,8,8,8,8,8,8,8,8,8,8,8,8,8,8,8,8,8,8,8,8,8,8,8,8,8,8,8,8,8,8,8,8,8,8,8,8,8,8,8,8,8,8,8,8,8,8,8,8,8,8,8,8,8,8,8,8,8,8,8,8,8,8,8,8,8,8,8,8,8,8,8,8,8,8,8,8,8,8,8,8,8,8,8,8,8,8,8,8,8,8,8,8,8,8,8,8,8,8,8,8,8,8,8,8,8,8,8,8,8,8,8,8,8,8,8,8,8,8,8,8,8,8,8,8,8]).size (b (zW zI (zW zI (0+8)+zW zI (ze (bs [0,1,2,2,3,3,3,3,4,4,4,4,4,4,4,4,5,5,5,5,5,5,5,5,5,5,5,5,5,5,5,5,6,6,6,6,6,6,6,6,6,6,6,6,6,6,6,6,6,6,6,6,6,6,6,6,6,6,6,6,6,6,6,6,7,7,7,7,7,7,7,7,7,7,7,7,7,7,7,7,7,7,7,7,7,7,7,7,7,7,7,7,7,7,7,7,7,7,7,7,7,7,7,7,7,7,7,7,7,7,7,7,7,7,7,7,7,7,7,7,7,7,7,7,7,7,7,7,8,8,8,8,8,8,8,8,8,8,8,8,8,8,8,8,8,8,8,8,8,8,8,8,8,8,8,8,8,8,8,8,8,8,8,8,8,8,8,8,8,8,8,8,8,8,8,8,8,8,8,8,8,8,8,8,8,8,8,8,8,8,8,8,8,8,8,8,8,8,8,8,8,8,8,8,8,8,8,8,8,8,8,8,8,8,8,8,8,8,8,8,8,8,8,8,8,8,8,8,8,8,8,8,8,8,8,8,8,8,8,8,8,8,8,8,8,8,8,8,8,8,8,8,8,8,8,8]) (zW zU (Int.fdiv a (2^min ((8:Int)).toNat 64))).toNat)))) else zd (zW zU a) (bs [0,1,2,2,3,3,3,3,4,4,4,4,4,4,4,4,5,5,5,5,5,5,5,5,5,5,5,5,5,5,5,5,6,6,6,6,6,6,6,6,6,6,6,6,6,6,6,6,6,6,6,6,6,6,6,6,6,6,6,6,6,6,6,6,7,7,7,7,7,7,7,7,7,7,7,7,7,7,7,7,7,7,7,7,7,7,7,7,7,7,7,7,7,7,7,7,7,7,7,7,7,7,7,7,7,7,7,7,7,7,7,7,7,7,7,7,7,7,7,7,7,7,7,7,7,7,7,7,8,8,8,8,8,8,8,8,8,8,8,8,8,8,8,8,8,8,8,8,8,8,8,8,8,8,8,8,8,8,8,8,8,8,8,8,8,8,8,8,8,8,8,8,8,8,8,8,8,8,8,8,8,8,8,8,8,8,8,8,8,8,8,8,8,8,8,8,8,8,8,8,8,8,8,8,8,8,8,8,8,8,8,8,8,8,8,8,8,8,8,8,8,8,8,8,8,8,8,8,8,8,8,8,8,8,8,8,8,8,8,8,8,8,8,8,8,8,8,8,8,8,8,8,8,8,8,8]).size (b (zW zI (0+zW zI (ze (bs [0,1,2,2,3,3,3,3,4,4,4,4,4,4,4,4,5,5,5,5,5,5,5,5,5,5,5,5,5,5,5,5,6,6,6,6,6,6,6,6,6,6,6,6,6,6,6,6,6,6,6,6,6,6,6,6,6,6,6,6,6,6,6,6,7,7,7,7,7,7,7,7,7,7,7,7,7,7,7,7,7,7,7,7,7,7,7,7,7,7,7,7,7,7,7,7,7,7,7,7,7,7,7,7,7,7,7,7,7,7,7,7,7,7,7,7,7,7,7,7,7,7,7,7,7,7,7,7,8,8,8,8,8,8,8,8,8,8,8,8,8,8,8,8,8,8,8,8,8,8,8,8,8,8,8,8,8,8,8,8,8,8,8,8,8,8,8,8,8,8,8,8,8,8,8,8,8,8,8,8,8,8,8,8,8,8,8,8,8,8,8,8,8,8,8,8,8,8,8,8,8,8,8,8,8,8,8,8,8,8,8,8,8,8,8,8,8,8,8,8,8,8,8,8,8,8,8,8,8,8,8,8,8,8,8,8,8,8,8,8,8,8,8,8,8,8,8,8,8,8,8,8,8,8,8,8]) (zW zU a).toNat))))
def sZ(a:Int):Option Int:=
 zyk a (fun a0=>some a0)
def Ul{R:Type}(a:Int)(b:Int->Option R):Option R:=
 (sZ a).bind fun r1=>b (zW zI (64-r1))
def mK(a:Int):Option Int:=
 Ul a (fun a0=>some a0)
def Xq{R:Type}(a:Int)(b:aR->Option R):Option R:=
 bif a<1 then b (0,0,()) else bif 128<a then b (0,0,()) else bif a<=64 then bif zW zI (64-a)<0 then none else b (IntKind.u64.wrap (1*2^min (zW zI (64-a)).toNat 64),0,()) else bif zW zI (128-a)<0 then none else b (0,IntKind.u64.wrap (1*2^min (zW zI (128-a)).toNat 64),())
def FQ(a:Int):Option aR:=
 Xq a (fun a0=>some a0)
def Xm{R:Type}(a b:aR)(c:aR->Option R):Option R:=
 c (aQ .or .u64 a.1 b.1,aQ .or .u64 a.2.1 b.2.1,())
def tF(a b:aR):Option aR:=
 Xm a b (fun a0=>some a0)
def Xp{R:Type}(a:aR)(b:Int)(c:aR->Option R):Option R:=
 (FQ b).bind fun r1=>(tF a r1).bind fun r2=>c r2
def yt(a:aR)(b:Int):Option aR:=
 Xp a b (fun a0=>some a0)
def Xk{R:Type}(a:(List Int))(b:(List Int)->Int->Int->aR->aR->Option R):Option R:=
 b a ((List.length a):Int) 0 (0,0,()) (0,0,())
def Rb{R:Type}(a:(List Int))(b c:Int)(d e:aR)(f:(List Int)->Int->Int->aR->aR->Option R)(g:aR->aR->Option R):Option R:=
 bif c<b then zd c (List.length a) ((yt e (List.getD a c.toNat (0:Int))).bind fun r1=>f a b (zW zI (c+1)) d r1) else g d e
def Xl{R:Type}(a b:aR)(c:aR->Option R):Option R:=
 c b
def Bl:Nat->(List Int)->Int->Int->aR->aR->Option (aR×aR)
 |0,_,_,_,_,_=>none
 |k+1,v0,v1,v2,v3,v4=>Rb v0 v1 v2 v3 v4 (fun a0 a1 a2 a3 a4=>Bl k a0 a1 a2 a3 a4) (fun a0 a1=>some (a0,a1))
def vf(a:(List Int)):Option aR:=
 Xk a (fun a0 a1 a2 a3 a4=>(Bl ai a0 a1 a2 a3 a4).bind fun e=>Xl e.1 e.2 (fun a0=>some a0))
def Rc{R:Type}(a b:aR)(c:aR->Option R):Option R:=
 c (aQ .and .u64 a.1 b.1,aQ .and .u64 a.2.1 b.2.1,())
def rV(a b:aR):Option aR:=
 Rc a b (fun a0=>some a0)
def DS{R:Type}(a b:Int)(c:aR->Option R):Option R:=
 c (a,b,())
def RF(a b:Int):Option aR:=
 DS a b (fun a0=>some a0)
def Xo{R:Type}(a:aR)(b:Int)(c:Int->Option R):Option R:=
 bif(if b<0 then 0 else b)<64 then bif(if b<0 then 0 else b)<0 then none else bif !decide (IntKind.u64.wrap (a.1*2^min (if b<0 then 0 else b).toNat 64)=0) then(mK (IntKind.u64.wrap (a.1*2^min (if b<0 then 0 else b).toNat 64))).bind fun r1=>c (zW zI (zW zI ((if b<0 then 0 else b)+r1)+1)) else bif(if 64<zW zI (64-64) then 64 else zW zI (64-64))<0 then none else bif !decide (IntKind.u64.wrap (a.2.1*2^min (if 64<zW zI (64-64) then 64 else zW zI (64-(64:Int))).toNat 64)=0) then(mK (IntKind.u64.wrap (a.2.1*2^min (if 64<zW zI (64-64) then 64 else zW zI (64-(64:Int))).toNat 64))).bind fun r2=>c (zW zI (zW zI (64+r2)+1)) else c 0 else bif(if 64<zW zI ((if b<0 then 0 else b)-64) then 64 else zW zI ((if b<0 then 0 else b)-64))<0 then none else bif !decide (IntKind.u64.wrap (a.2.1*2^min (if 64<zW zI ((if b<0 then 0 else b)-64) then 64 else zW zI ((if b<0 then 0 else b)-(64:Int))).toNat 64)=0) then(mK (IntKind.u64.wrap (a.2.1*2^min (if 64<zW zI ((if b<0 then 0 else b)-64) then 64 else zW zI ((if b<0 then 0 else b)-(64:Int))).toNat 64))).bind fun r3=>c (zW zI (zW zI ((if b<0 then 0 else b)+r3)+1)) else c 0
def FP(a:aR)(b:Int):Option Int:=
 Xo a b (fun a0=>some a0)
def Xn{R:Type}(a:aR)(b:Int)(c:Bool->Option R):Option R:=
 (FQ b).bind fun r1=>(rV a r1).bind fun r2=>c (!(decide (r2.1=0)&&(decide (r2.2.1=0)&&true)))
def HQ(a:aR)(b:Int):Option Bool:=
 Xn a b (fun a0=>some a0)
def DT{R:Type}(a:aR)(b:Int->Int->Option R):Option R:=
 b a.1 a.2.1
def RG(a:aR):Option (Int×Int):=
 DT a (fun a0 a1=>some (a0,a1))
def zyg{R:Type}(a:Int)(b:Int->Bool->Option R):Option R:=
 bif 48<=a then bif a<=57 then b (zW zI (zW zU (a-48))) true else bif 65<=a then bif a<=70 then b (zW zI (zW zI (zW zU (a-65))+10)) true else b 0 false else b 0 false else bif 65<=a then bif a<=70 then b (zW zI (zW zI (zW zU (a-65))+10)) true else b 0 false else b 0 false
def sY(a:Int):Option (Int×Bool):=
 zyg a (fun a0 a1=>some (a0,a1))
def Uh{R:Type}(a:ByteArray)(b:ByteArray->(List Int)->Int->Int->Option R):Option R:=
 bif 0<=zW zI (Int.tdiv (a.size:Int) 2) then bif zW zI (Int.tdiv (a.size:Int) 2)*1<=140737488355328 then b a [] 0 0 else none else none
def Qj{R:Type}(a:ByteArray)(b:(List Int))(c d:Int)(e:ByteArray->ByteArray->Int->Bool->(List Int)->Option R)(f:ByteArray->(List Int)->Int->Int->Option R)(g:ByteArray->(List Int)->Option R):Option R:=
 bif d<(a.size:Int) then zd d a.size ((sY (ze a d.toNat)).bind fun r1=>bif !r1.2 then e a (bs []) d false b else bif Int.tmod d 2=0 then f a b r1.1 (zW zI (d+1)) else bif(List.length b+List.length ([(zW zU (aQ .or .i64 (zW zI (c*2^min ((4:Int)).toNat 64)) r1.1))]:List Int))*1<=140737488355328 then f a (b++([(zW zU (aQ .or .i64 (zW zI (c*2^min ((4:Int)).toNat 64)) r1.1))]:List Int)) c (zW zI (d+1)) else none) else g a b
def zyi{R:Type}(a b:ByteArray)(c:Int)(d:Bool)(e:(List Int))(f:ByteArray->Int->Bool->Option R):Option R:=
 f b c d
def Ui{R:Type}(a:ByteArray)(b:(List Int))(c:ByteArray->Int->Bool->Option R):Option R:=
 bif !decide (Int.tmod (a.size:Int) 2=0) then c (bs []) (a.size:Int) false else c (strOf b) 0 true
def Fo:Nat->ByteArray->(List Int)->Int->Int->Option (Sum (ByteArray×ByteArray×Int×Bool×(List Int)) (ByteArray×(List Int)))
 |0,_,_,_,_=>none
 |k+1,v0,v1,v2,v3=>Qj v0 v1 v2 v3 (fun a0 a1 a2 a3 a4=>some (.inl (a0,a1,a2,a3,a4))) (fun a0 a1 a2 a3=>Fo k a0 a1 a2 a3) (fun a0 a1=>some (.inr (a0,a1)))
def gS(a:ByteArray):Option (ByteArray×Int×Bool):=
 Uh a (fun a0 a1 a2 a3=>(Fo ai a0 a1 a2 a3).bind fun e=>Sum.elim (fun(we:(ByteArray×ByteArray×Int×Bool×(List Int)))=>zyi we.1 we.2.1 we.2.2.1 we.2.2.2.1 we.2.2.2.2 (fun a0 a1 a2=>some (a0,a1,a2))) (fun(we:(ByteArray×(List Int)))=>Ui we.1 we.2 (fun a0 a1 a2=>some (a0,a1,a2))) e)
def Uk{R:Type}(a:ByteArray)(b:ByteArray->(List Int)->Int->Option R):Option R:=
 bif 0<=zW zI (2*(a.size:Int)) then bif zW zI (2*(a.size:Int))*1<=140737488355328 then b a [] 0 else none else none
def Qk{R:Type}(a:ByteArray)(b:(List Int))(c:Int)(d:ByteArray->(List Int)->Int->Option R)(e:(List Int)->Option R):Option R:=
 bif c<(a.size:Int) then zd c a.size (zd (Int.fdiv (ze a c.toNat) (2^min ((4:Int)).toNat 8)) (bs [48,49,50,51,52,53,54,55,56,57,65,66,67,68,69,70]).size (zd c a.size (zd (aQ .and .u8 (ze a c.toNat) 15) (bs [48,49,50,51,52,53,54,55,56,57,65,66,67,68,69,70]).size (bif(List.length b+List.length ([(ze (bs [48,49,50,51,52,53,54,55,56,57,65,66,67,68,69,70]) (Int.fdiv (ze a c.toNat) (2^min ((4:Int)).toNat 8)).toNat),(ze (bs [48,49,50,51,52,53,54,55,56,57,65,66,67,68,69,70]) (aQ .and .u8 (ze a c.toNat) (15:Int)).toNat)]:List Int))*1<=140737488355328 then d a (b++([(ze (bs [48,49,50,51,52,53,54,55,56,57,65,66,67,68,69,70]) (Int.fdiv (ze a c.toNat) (2^min ((4:Int)).toNat 8)).toNat),(ze (bs [48,49,50,51,52,53,54,55,56,57,65,66,67,68,69,70]) (aQ .and .u8 (ze a c.toNat) (15:Int)).toNat)]:List Int)) (zW zI (c+1)) else none)))) else e b
def zyj{R:Type}(a:(List Int))(b:ByteArray->Option R):Option R:=
 b (strOf a)
def Fp:Nat->ByteArray->(List Int)->Int->Option (List Int)
 |0,_,_,_=>none
 |k+1,v0,v1,v2=>Qk v0 v1 v2 (fun a0 a1 a2=>Fp k a0 a1 a2) (fun a0=>some a0)
def jT(a:ByteArray):Option ByteArray:=
 Uk a (fun a0 a1 a2=>(Fp ai a0 a1 a2).bind fun e=>zyj e (fun a0=>some a0))
def mR{R:Type}(a:Int)(b:Bool->Option R):Option R:=
 bif a=1 then b true else b (decide (a=2))
def Q9(a:Int):Option Bool:=
 mR a (fun a0=>some a0)
def Wh{R:Type}(a:Int)(b:ByteArray)(c:Int)(d:(List Int)->Int->Int->Option R):Option R:=
 bif a=1 then bif zW zI ((b.size:Int)-c)<zW zI (8*2) then d (List.replicate 8 0) 0 2 else bif 0<=zW zI (c+zW zI (8*2)) then bif zW zI (c+zW zI (8*2))<=(b.size:Int) then bif 0<=c then bif c<=(((zW zI (c+zW zI (8*(2:Int)))).toNat:Nat):Int) then bif a=1 then(gS (b.extract c.toNat (zW zI (c+zW zI (8*(2:Int)))).toNat)).bind fun r1=>bif !r1.2.2 then d (List.replicate 8 0) 0 3 else bif Nat.beq 8 (List.length (List.replicate 8 (0:Int))) then bif Nat.beq 8 (List.length (b6 (List.replicate 8 (0:Int)) (List.take 8 (nM r1.1)) 0)) then d (b6 (List.replicate 8 0) (List.take 8 (nM r1.1)) 0) (zW zI (c+zW zI (8*2))) 0 else none else none else bif Nat.beq 8 (List.length (List.replicate 8 (0:Int))) then bif Nat.beq 8 (List.length (b6 (List.replicate 8 (0:Int)) (List.take 8 (nM (b.extract c.toNat (zW zI (c+zW zI ((8:Int)*(2:Int)))).toNat))) 0)) then d (b6 (List.replicate 8 0) (List.take 8 (nM (b.extract c.toNat (zW zI (c+zW zI (8*(2:Int)))).toNat))) 0) (zW zI (c+zW zI (8*2))) 0 else none else none else none else none else none else none else bif zW zI ((b.size:Int)-c)<8 then d (List.replicate 8 0) 0 2 else bif 0<=zW zI (c+8) then bif zW zI (c+8)<=(b.size:Int) then bif 0<=c then bif c<=(((zW zI (c+(8:Int))).toNat:Nat):Int) then bif a=1 then(gS (b.extract c.toNat (zW zI (c+(8:Int))).toNat)).bind fun r2=>bif !r2.2.2 then d (List.replicate 8 0) 0 3 else bif Nat.beq 8 (List.length (List.replicate 8 (0:Int))) then bif Nat.beq 8 (List.length (b6 (List.replicate 8 (0:Int)) (List.take 8 (nM r2.1)) 0)) then d (b6 (List.replicate 8 0) (List.take 8 (nM r2.1)) 0) (zW zI (c+8)) 0 else none else none else bif Nat.beq 8 (List.length (List.replicate 8 (0:Int))) then bif Nat.beq 8 (List.length (b6 (List.replicate 8 (0:Int)) (List.take 8 (nM (b.extract c.toNat (zW zI (c+(8:Int))).toNat))) 0)) then d (b6 (List.replicate 8 0) (List.take 8 (nM (b.extract c.toNat (zW zI (c+(8:Int))).toNat))) 0) (zW zI (c+8)) 0 else none else none else none else none else none else none
def FO(a:Int)(b:ByteArray)(c:Int):Option ((List Int)×Int×Int):=
 Wh a b c (fun a0 a1 a2=>some (a0,a1,a2))
def pG{R:Type}(a:(List Int))(b:Int->(List Int)->Int->Option R):Option R:=
 b 0 a 0
def mO{R:Type}(a:Int)(b:(List Int))(c:Int)(d:Int->(List Int)->Int->Option R)(e:Int->Option R):Option R:=
 bif c<8 then zd c 8 (d (aQ .or .u64 (IntKind.u64.wrap (a*2^min ((8:Int)).toNat 64)) (IntKind.u64.wrap (List.getD b c.toNat 0))) b (zW zI (c+1))) else e a
def tG{R:Type}(a:Int)(b:Int->Option R):Option R:=
 b a
def jY:Nat->Int->(List Int)->Int->Option Int
 |0,_,_,_=>none
 |k+1,v0,v1,v2=>mO v0 v1 v2 (fun a0 a1 a2=>jY k a0 a1 a2) (fun a0=>some a0)
def Q7(a:(List Int)):Option Int:=
 pG a (fun a0 a1 a2=>(jY ai a0 a1 a2).bind fun e=>tG e (fun a0=>some a0))
def pw{R:Type}(a:Int)(b:ByteArray)(c:Int)(d:aR->Int->Int->Option R):Option R:=
 (Q9 a).bind fun r1=>bif !r1 then d (0,0,()) 0 1 else bif c<0 then d (0,0,()) 0 1 else bif(b.size:Int)<c then d (0,0,()) 0 1 else(FO a b c).bind fun r2=>bif !decide (r2.2.2=0) then d (0,0,()) 0 r2.2.2 else(Q7 r2.1).bind fun r3=>bif aQ .and .u64 r3 9223372036854775808=0 then(RF r3 (0:Int)).bind fun r4=>d r4 r2.2.1 0 else(FO a b r2.2.1).bind fun r5=>bif !decide (r5.2.2=0) then d (0,0,()) 0 r5.2.2 else bif r5.1=([0,0,0,0,0,0,0,0]:List Int) then d (0,0,()) 0 8 else(Q7 r5.1).bind fun r6=>(RF (aQ .andNot .u64 r3 9223372036854775808) r6).bind fun r7=>d r7 r5.2.1 0
def Q5(a:Int)(b:ByteArray)(c:Int):Option (aR×Int×Int):=
 pw a b c (fun a0 a1 a2=>some (a0,a1,a2))
def pK{R:Type}(a:Int)(b:Int->Int->(List Int)->(List Int)->Option R):Option R:=
 b a 0 (List.replicate 8 0) (List.replicate 8 0)
def mQ{R:Type}(a b:Int)(c d:(List Int))(e:Int->Int->(List Int)->(List Int)->Option R)(f:(List Int)->(List Int)->Option R):Option R:=
 bif b<8 then bif zW zI (8*zW zI (7-b))<0 then none else zd b 8 (e a (zW zI (b+1)) c (List.set d b.toNat (zW zU (Int.fdiv a (2^min (zW zI (8*zW zI (7-b))).toNat 64))))) else f c d
def pL{R:Type}(a b:(List Int))(c:(List Int)->Option R):Option R:=
 c b
def il:Nat->Int->Int->(List Int)->(List Int)->Option ((List Int)×(List Int))
 |0,_,_,_,_=>none
 |k+1,v0,v1,v2,v3=>mQ v0 v1 v2 v3 (fun a0 a1 a2 a3=>il k a0 a1 a2 a3) (fun a0 a1=>some (a0,a1))
def Q8(a:Int):Option (List Int):=
 pK a (fun a0 a1 a2 a3=>(il ai a0 a1 a2 a3).bind fun e=>pL e.1 e.2 (fun a0=>some a0))
def pB{R:Type}(a:Int)(b:aR)(c:ByteArray->Int->Option R):Option R:=
 (Q9 a).bind fun r1=>bif !r1 then c (bs []) 1 else(HQ b (1:Int)).bind fun r2=>bif r2 then c (bs []) 1 else(RG b).bind fun r3=>(Q8 r3.2).bind fun r4=>bif !decide (r4=([0,0,0,0,0,0,0,0]:List Int)) then bif Nat.beq 8 (List.length r4) then(Q8 (aQ .or .u64 r3.1 (9223372036854775808:Int))).bind fun r5=>bif Nat.beq 8 (List.length r5) then bif(strOf r5).size+(strOf r4).size<=9223372036854775807 then bif a=1 then(jT (strOf r5++strOf r4)).bind fun r6=>c r6 0 else c (strOf r5++strOf r4) 0 else none else none else none else(Q8 r3.1).bind fun r7=>bif Nat.beq 8 (List.length r7) then bif(strOf r7).size+(bs []).size<=9223372036854775807 then bif a=1 then(jT (strOf r7++bs [])).bind fun r8=>c r8 0 else c (strOf r7++bs []) 0 else none else none
def Q6(a:Int)(b:aR):Option RP:=
 pB a b (fun a0 a1=>some (a0,a1))
def Qq{R:Type}(a:Int)(b:Int->Option R):Option R:=
 bif a=2 then b 2 else bif a=3 then b 3 else b 0
def jU(a:Int):Option Int:=
 Qq a (fun a0=>some a0)
def zyy{R:Type}(a:Int)(b:Int->Int->Int->Option R):Option R:=
 (jU a).bind fun r1=>b 0 r1 0
def zyz{R:Type}(a b c:Int)(d:Int->Int->Int->Option R)(e:Int->Option R):Option R:=
 bif c<b then d (zW zI (zW zI (10*a)+9)) b (zW zI (c+1)) else e a
def zz0{R:Type}(a:Int)(b:Int->Option R):Option R:=
 b a
def UB:Nat->Int->Int->Int->Option Int
 |0,_,_,_=>none
 |k+1,v0,v1,v2=>zyz v0 v1 v2 (fun a0 a1 a2=>UB k a0 a1 a2) (fun a0=>some a0)
def qL(a:Int):Option Int:=
 zyy a (fun a0 a1 a2=>(UB ai a0 a1 a2).bind fun e=>zz0 e (fun a0=>some a0))
def Qp{R:Type}(a b:Int)(c:Bool->Option R):Option R:=
 bif a=1 then(jU b).bind fun r1=>c (decide (0<r1)) else bif a=2 then(jU b).bind fun r2=>c (decide (0<r2)) else c false
def qN(a b:Int):Option Bool:=
 Qp a b (fun a0=>some a0)
def Uz{R:Type}(a b:Int)(c:ByteArray)(d:Int)(e:Int->Int->Int->Option R):Option R:=
 (qN a b).bind fun r1=>bif !r1 then e 0 0 1 else bif d<0 then e 0 0 1 else bif(c.size:Int)<d then e 0 0 1 else(jU b).bind fun r2=>bif a=2 then(Q2 r2).bind fun r3=>bif zW zI ((c.size:Int)-d)<r3 then e 0 0 2 else bif 0<=zW zI (d+r3) then bif zW zI (d+r3)<=(c.size:Int) then bif 0<=d then bif d<=(((zW zI (d+r3)).toNat:Nat):Int) then bif a=2 then(jU b).bind fun r4=>(Q0 (c.extract d.toNat (zW zI (d+r3)).toNat) r4).bind fun r5=>bif !decide (r5.2.1=0) then e 0 0 3 else(yr r5.1).bind fun r6=>bif !r6.2 then e 0 0 3 else e r6.1 (zW zI (d+r3)) 0 else(yr (c.extract d.toNat (zW zI (d+r3)).toNat)).bind fun r7=>bif !r7.2 then e 0 0 3 else e r7.1 (zW zI (d+r3)) 0 else none else none else none else none else bif zW zI ((c.size:Int)-d)<r2 then e 0 0 2 else bif 0<=zW zI (d+r2) then bif zW zI (d+r2)<=(c.size:Int) then bif 0<=d then bif d<=(((zW zI (d+r2)).toNat:Nat):Int) then bif a=2 then(jU b).bind fun r8=>(Q0 (c.extract d.toNat (zW zI (d+r2)).toNat) r8).bind fun r9=>bif !decide (r9.2.1=0) then e 0 0 3 else(yr r9.1).bind fun kV=>bif !kV.2 then e 0 0 3 else e kV.1 (zW zI (d+r2)) 0 else(yr (c.extract d.toNat (zW zI (d+r2)).toNat)).bind fun lF=>bif !lF.2 then e 0 0 3 else e lF.1 (zW zI (d+r2)) 0 else none else none else none else none
def s9(a b:Int)(c:ByteArray)(d:Int):Option jy:=
 Uz a b c d (fun a0 a1 a2=>some (a0,a1,a2))
def UC{R:Type}(a b c:Int)(d:ByteArray->Int->Option R):Option R:=
 (qN a b).bind fun r1=>bif !r1 then d (bs []) 1 else(jU b).bind fun r2=>(HL c r2).bind fun r3=>bif !r3.2 then d (bs []) 5 else bif a=2 then(Q1 r3.1).bind fun r4=>d r4.1 0 else d r3.1 0
def qM(a b c:Int):Option RP:=
 UC a b c (fun a0 a1=>some (a0,a1))
def WS{R:Type}(a:Int)(b:Int->Option R):Option R:=
 bif a=1 then b 1 else bif a=2 then b 2 else bif a=3 then b 3 else bif a=4 then b 7 else bif a=5 then b 15 else bif a=6 then b 15 else b 0
def yn(a:Int):Option Int:=
 WS a (fun a0=>some a0)
def WI{R:Type}(a:Int)(b:Bool->Option R):Option R:=
 (yn a).bind fun r1=>b (!decide (r1=0))
def BB(a:Int):Option Bool:=
 WI a (fun a0=>some a0)
def DI{R:Type}(a:Int)(b:Int->Option R):Option R:=
 bif 48<=a then bif a<=57 then b 1 else bif 65<=a then bif a<=90 then b 2 else bif 97<=a then bif a<=122 then b 2 else bif 32<=a then bif a<=126 then b 4 else b 8 else b 8 else bif 32<=a then bif a<=126 then b 4 else b 8 else b 8 else bif 97<=a then bif a<=122 then b 2 else bif 32<=a then bif a<=126 then b 4 else b 8 else b 8 else bif 32<=a then bif a<=126 then b 4 else b 8 else b 8 else bif 65<=a then bif a<=90 then b 2 else bif 97<=a then bif a<=122 then b 2 else bif 32<=a then bif a<=126 then b 4 else b 8 else b 8 else bif 32<=a then bif a<=126 then b 4 else b 8 else b 8 else bif 97<=a then bif a<=122 then b 2 else bif 32<=a then bif a<=126 then b 4 else b 8 else b 8 else bif 32<=a then bif a<=126 then b 4 else b 8 else b 8
def BC(a:Int):Option Int:=
 DI a (fun a0=>some a0)
def WD{R:Type}(a:Int)(b:ByteArray)(c:ByteArray->Int->Int->Option R):Option R:=
 (yn a).bind fun r1=>c b r1 0
def QX{R:Type}(a:ByteArray)(b c:Int)(d:Int->Option R)(e:ByteArray->Int->Int->Option R)(f:Option R):Option R:=
 bif c<(a.size:Int) then zd c a.size ((BC (ze a c.toNat)).bind fun r2=>bif aQ .and .i64 b r2=0 then d c else e a b (zW zI (c+1))) else f
def DH{R:Type}(a:Int)(b:Int->Option R):Option R:=
 b a
def z152{R:Type}(a:Int->Option R):Option R:=
 a (-1:Int)
def FC:Nat->ByteArray->Int->Int->Option (Sum Int Unit)
 |0,_,_,_=>none
 |k+1,v0,v1,v2=>QX v0 v1 v2 (fun a0=>some (.inl a0)) (fun a0 a1 a2=>FC k a0 a1 a2) (some (.inr ()))
def HA(a:Int)(b:ByteArray):Option Int:=
 WD a b (fun a0 a1 a2=>(FC ai a0 a1 a2).bind fun e=>Sum.elim (fun(we:Int)=>DH we (fun a0=>some a0)) (fun(we:Unit)=>z152 (fun a0=>some a0)) e)
def WL{R:Type}(a b:Int)(c:Bool->Option R):Option R:=
 (BB a).bind fun r1=>bif r1 then(BB b).bind fun r2=>bif r2 then(yn b).bind fun r3=>(yn a).bind fun r4=>c (decide (aQ .andNot .i64 r3 r4=0)) else c false else c false
def HC(a b:Int):Option Bool:=
 WL a b (fun a0=>some a0)
def CU{R:Type}(a:Int)(b:Bool->Option R):Option R:=
 bif 0<a then bif a<=255 then b (decide (aQ .and .i64 a 32=0)) else b false else b false
def n6(a:Int):Option Bool:=
 CU a (fun a0=>some a0)
def Vx{R:Type}(a:Int)(b:Bool->Option R):Option R:=
 bif a<=255 then(n6 a).bind fun r1=>bif r1 then b (!decide (aQ .and .i64 a 31=31)) else b false else bif a<=65535 then(n6 (Int.fdiv a (2^min ((8:Int)).toNat 64))).bind fun r2=>bif r2 then bif aQ .and .i64 (Int.fdiv a (2^min ((8:Int)).toNat 64)) 31=31 then bif 1<=aQ .and .i64 a 255 then b (decide (aQ .and .i64 a 255<=127)) else b false else b false else b false else b false
def tA(a:Int):Option Bool:=
 Vx a (fun a0=>some a0)
def Vw{R:Type}(a:ByteArray)(b:Int)(c:Int->Int->Int->Option R):Option R:=
 bif b<0 then c 0 0 1 else bif(a.size:Int)<b then c 0 0 1 else bif b=(a.size:Int) then c 0 0 2 else zd b a.size ((n6 (zW zI (ze a b.toNat))).bind fun r1=>bif !r1 then c 0 0 13 else bif !decide (aQ .and .i64 (zW zI (ze a b.toNat)) 31=31) then c (zW zI (ze a b.toNat)) (zW zI (b+1)) 0 else bif zW zI (b+1)=(a.size:Int) then c 0 0 2 else zd (zW zI (b+1)) a.size ((tA (aQ .or .i64 (zW zI (zW zI (ze a b.toNat)*2^min ((8:Int)).toNat 64)) (zW zI (ze a (zW zI (b+(1:Int))).toNat)))).bind fun r2=>bif !r2 then c 0 0 13 else c (aQ .or .i64 (zW zI (zW zI (ze a b.toNat)*2^min ((8:Int)).toNat 64)) (zW zI (ze a (zW zI (b+(1:Int))).toNat))) (zW zI (b+2)) 0))
def tz(a:ByteArray)(b:Int):Option jy:=
 Vw a b (fun a0 a1 a2=>some (a0,a1,a2))
def Vz{R:Type}(a:ByteArray)(b:ByteArray->al->Int->BI->Option R):Option R:=
 b a [] 0 []
def VA{R:Type}(a:ByteArray)(b:al)(c:Int)(d:BI)(e:al->Int->Int->al->Option R)(f:ByteArray->al->Int->BI->Option R)(g:al->Option R):Option R:=
 bif c<(a.size:Int) then(tz a c).bind fun r1=>bif !decide (r1.2.2=(0:Int)) then e ([]:List bj) r1.2.2 c b else(Q3 a r1.2.1).bind fun r2=>bif !decide (r2.2.2=(0:Int)) then e ([]:List bj) r2.2.2 r1.2.1 b else bif zW zI ((a.size:Int)-r2.2.1)<r2.1 then e ([]:List bj) (2:Int) (a.size:Int) b else bif fe (gd (.int .i64)) false d r1.1 then e ([]:List bj) (10:Int) c b else bif ff (gd (.int .i64)) d r1.1 then none else bif(0:Int)<=zW zI (r2.2.1+r2.1) then bif zW zI (r2.2.1+r2.1)<=((a.size:Nat):Int) then bif(0:Int)<=r2.2.1 then bif r2.2.1<=(((zW zI (r2.2.1+r2.1)).toNat:Nat):Int) then bif(List.length b+List.length ([(r1.1,a.extract r2.2.1.toNat (zW zI (r2.2.1+r2.1)).toNat,())]:List bj))*24<=140737488355328 then f a (b++([(r1.1,a.extract r2.2.1.toNat (zW zI (r2.2.1+r2.1)).toNat,())]:List bj)) (zW zI (r2.2.1+r2.1)) (d++ [(r1.1,true)]) else none else none else none else none else none else g b
def CV{R:Type}(a:al)(b c:Int)(d:al)(e:al->Int->Int->Option R):Option R:=
 e a b c
def z107{R:Type}(a:al)(b:al->Int->Int->Option R):Option R:=
 b a 0 0
def G0:Nat->ByteArray->al->Int->BI->Option (Sum qW al)
 |0,_,_,_,_=>none
 |k+1,v0,v1,v2,v3=>VA v0 v1 v2 v3 (fun a0 a1 a2 a3=>some (.inl (a0,a1,a2,a3))) (fun a0 a1 a2 a3=>G0 k a0 a1 a2 a3) (fun a0=>some (.inr a0))
def tC(a:ByteArray):Option (Sum jz jz):=
 Vz a (fun a0 a1 a2 a3=>(G0 ai a0 a1 a2 a3).bind fun e=>Sum.elim (fun(we:qW)=>CV we.1 we.2.1 we.2.2.1 we.2.2.2 (fun a0 a1 a2=>some (.inl (a0,a1,a2)))) (fun(we:al)=>z107 we (fun a0 a1 a2=>some (.inr (a0,a1,a2)))) e)
def Vg{R:Type}(a:aT)(b:Int->Option R):Option R:=
 bif a.1<2 then b 1 else bif 128<a.1 then b 1 else(BB a.2.1).bind fun r1=>bif !r1 then b 6 else bif a.2.2.1<1 then b 3 else bif 3<a.2.2.1 then b 3 else bif a.2.2.2.1<1 then b 5 else bif a.2.2.2.2.1<a.2.2.2.1 then b 5 else bif 999<a.2.2.2.2.1 then b 5 else bif a.2.2.1=1 then bif !decide (a.2.2.2.1=a.2.2.2.2.1) then b 5 else bif !decide (a.2.2.1=1) then(qL a.2.2.1).bind fun r2=>bif r2<a.2.2.2.2.1 then b 5 else bif a.2.2.1=1 then bif a.2.1=6 then b 13 else b 0 else b 0 else bif a.2.2.1=1 then bif a.2.1=6 then b 13 else b 0 else b 0 else bif !decide (a.2.2.1=1) then(qL a.2.2.1).bind fun r3=>bif r3<a.2.2.2.2.1 then b 5 else bif a.2.2.1=1 then bif a.2.1=6 then b 13 else b 0 else b 0 else bif a.2.2.1=1 then bif a.2.1=6 then b 13 else b 0 else b 0
def lR(a:aT):Option Int:=
 Vg a (fun a0=>some a0)
def Vh{R:Type}(a:aT)(b:ByteArray)(c:Int->Option R):Option R:=
 (lR a).bind fun r1=>bif !decide (r1=0) then c 1 else bif(b.size:Int)<a.2.2.2.1 then c 5 else bif a.2.2.2.2.1<(b.size:Int) then c 5 else(HA a.2.1 b).bind fun r2=>bif 0<=r2 then c 6 else bif a.2.1=6 then(tC b).bind fun r3=>Sum.elim (fun(sj:jz)=>bif !decide (sj.2.1=0) then c 13 else c 0) (fun(sj:jz)=>bif !decide (sj.2.1=0) then c 13 else c 0) r3 else c 0
def bY(a:aT)(b:ByteArray):Option Int:=
 Vh a b (fun a0=>some a0)
def Vj{R:Type}(a b:Int)(c:Bool->Option R):Option R:=
 bif a=5 then c true else bif a=6 then c (decide (a=b)) else bif b=6 then c (decide (a=b)) else(HC a b).bind fun r1=>c r1
def vU(a b:Int):Option Bool:=
 Vj a b (fun a0=>some a0)
def Vi{R:Type}(a b:aT)(c:Bool->Option R):Option R:=
 (lR a).bind fun r1=>bif r1=0 then(lR b).bind fun r2=>bif r2=0 then bif a.2.2.2.1<=b.2.2.2.1 then bif b.2.2.2.2.1<=a.2.2.2.2.1 then(vU a.2.1 b.2.1).bind fun r3=>c r3 else c false else c false else c false else c false
def lS(a b:aT):Option Bool:=
 Vi a b (fun a0=>some a0)
def QW{R:Type}(a:Int)(b:Bool->Option R):Option R:=
 bif a=1 then b true else b (decide (a=2))
def BA(a:Int):Option Bool:=
 QW a (fun a0=>some a0)
def Wt{R:Type}(a b:Int)(c:Int->Option R):Option R:=
 bif a=2 then bif b=1 then c 1 else bif a=1 then bif b=5 then c 2 else bif b=6 then c 2 else c 0 else c 0 else bif a=1 then bif b=5 then c 2 else bif b=6 then c 2 else c 0 else c 0
def kY(a b:Int):Option Int:=
 Wt a b (fun a0=>some a0)
def Wm{R:Type}(a:Int)(b:aT)(c:ByteArray)(d:Int)(e:ByteArray->Int->Int->Option R):Option R:=
 (BA a).bind fun r1=>bif !r1 then e (bs []) 0 1 else(lR b).bind fun r2=>bif !decide (r2=0) then e (bs []) 0 1 else bif d<0 then e (bs []) 0 1 else bif(c.size:Int)<d then e (bs []) 0 1 else bif !decide (b.2.2.1=1) then(s9 a b.2.2.1 c d).bind fun r3=>bif !decide (r3.2.2=0) then e (bs []) 0 r3.2.2 else bif r3.1<b.2.2.2.1 then e (bs []) 0 5 else bif b.2.2.2.2.1<r3.1 then e (bs []) 0 5 else(kY a b.2.1).bind fun r4=>bif r4=1 then(Q2 r3.1).bind fun r5=>bif zW zI ((c.size:Int)-r3.2.1)<r5 then e (bs []) 0 2 else bif 0<=zW zI (r3.2.1+r5) then bif zW zI (r3.2.1+r5)<=(c.size:Int) then bif 0<=r3.2.1 then bif r3.2.1<=(((zW zI (r3.2.1+r5)).toNat:Nat):Int) then(kY a b.2.1).bind fun r6=>bif r6=1 then(Q0 (c.extract r3.2.1.toNat (zW zI (r3.2.1+r5)).toNat) r3.1).bind fun r7=>bif !decide (r7.2.1=0) then e (bs []) 0 r7.2.1 else(bY b r7.1).bind fun r8=>bif !decide (r8=0) then e (bs []) 0 r8 else e r7.1 (zW zI (r3.2.1+r5)) 0 else bif r6=2 then(gS (c.extract r3.2.1.toNat (zW zI (r3.2.1+r5)).toNat)).bind fun r9=>bif !r9.2.2 then e (bs []) 0 3 else(bY b r9.1).bind fun kV=>bif !decide (kV=0) then e (bs []) 0 kV else e r9.1 (zW zI (r3.2.1+r5)) 0 else(bY b (c.extract r3.2.1.toNat (zW zI (r3.2.1+r5)).toNat)).bind fun lF=>bif !decide (lF=0) then e (bs []) 0 lF else e (c.extract r3.2.1.toNat (zW zI (r3.2.1+r5)).toNat) (zW zI (r3.2.1+r5)) 0 else none else none else none else none else bif r4=2 then bif zW zI ((c.size:Int)-r3.2.1)<zW zI (2*r3.1) then e (bs []) 0 2 else bif 0<=zW zI (r3.2.1+zW zI (2*r3.1)) then bif zW zI (r3.2.1+zW zI (2*r3.1))<=(c.size:Int) then bif 0<=r3.2.1 then bif r3.2.1<=(((zW zI (r3.2.1+zW zI (2*r3.1))).toNat:Nat):Int) then(kY a b.2.1).bind fun qu=>bif qu=1 then(Q0 (c.extract r3.2.1.toNat (zW zI (r3.2.1+zW zI (2*r3.1))).toNat) r3.1).bind fun nw=>bif !decide (nw.2.1=0) then e (bs []) 0 nw.2.1 else(bY b nw.1).bind fun vq=>bif !decide (vq=0) then e (bs []) 0 vq else e nw.1 (zW zI (r3.2.1+zW zI (2*r3.1))) 0 else bif qu=2 then(gS (c.extract r3.2.1.toNat (zW zI (r3.2.1+zW zI (2*r3.1))).toNat)).bind fun sf=>bif !sf.2.2 then e (bs []) 0 3 else(bY b sf.1).bind fun xK=>bif !decide (xK=0) then e (bs []) 0 xK else e sf.1 (zW zI (r3.2.1+zW zI (2*r3.1))) 0 else(bY b (c.extract r3.2.1.toNat (zW zI (r3.2.1+zW zI (2*r3.1))).toNat)).bind fun CI=>bif !decide (CI=0) then e (bs []) 0 CI else e (c.extract r3.2.1.toNat (zW zI (r3.2.1+zW zI (2*r3.1))).toNat) (zW zI (r3.2.1+zW zI (2*r3.1))) 0 else none else none else none else none else bif zW zI ((c.size:Int)-r3.2.1)<r3.1 then e (bs []) 0 2 else bif 0<=zW zI (r3.2.1+r3.1) then bif zW zI (r3.2.1+r3.1)<=(c.size:Int) then bif 0<=r3.2.1 then bif r3.2.1<=(((zW zI (r3.2.1+r3.1)).toNat:Nat):Int) then(kY a b.2.1).bind fun CJ=>bif CJ=1 then(Q0 (c.extract r3.2.1.toNat (zW zI (r3.2.1+r3.1)).toNat) r3.1).bind fun uH=>bif !decide (uH.2.1=0) then e (bs []) 0 uH.2.1 else(bY b uH.1).bind fun CK=>bif !decide (CK=0) then e (bs []) 0 CK else e uH.1 (zW zI (r3.2.1+r3.1)) 0 else bif CJ=2 then(gS (c.extract r3.2.1.toNat (zW zI (r3.2.1+r3.1)).toNat)).bind fun xL=>bif !xL.2.2 then e (bs []) 0 3 else(bY b xL.1).bind fun KR=>bif !decide (KR=0) then e (bs []) 0 KR else e xL.1 (zW zI (r3.2.1+r3.1)) 0 else(bY b (c.extract r3.2.1.toNat (zW zI (r3.2.1+r3.1)).toNat)).bind fun KS=>bif !decide (KS=0) then e (bs []) 0 KS else e (c.extract r3.2.1.toNat (zW zI (r3.2.1+r3.1)).toNat) (zW zI (r3.2.1+r3.1)) 0 else none else none else none else none else(kY a b.2.1).bind fun r24=>bif r24=1 then(Q2 b.2.2.2.1).bind fun uI=>bif zW zI ((c.size:Int)-d)<uI then e (bs []) 0 2 else bif 0<=zW zI (d+uI) then bif zW zI (d+uI)<=(c.size:Int) then bif 0<=d then bif d<=(((zW zI (d+uI)).toNat:Nat):Int) then(kY a b.2.1).bind fun r26=>bif r26=1 then(Q0 (c.extract d.toNat (zW zI (d+uI)).toNat) b.2.2.2.1).bind fun Se=>bif !decide (Se.2.1=0) then e (bs []) 0 Se.2.1 else(bY b Se.1).bind fun r28=>bif !decide (r28=0) then e (bs []) 0 r28 else e Se.1 (zW zI (d+uI)) 0 else bif r26=2 then(gS (c.extract d.toNat (zW zI (d+uI)).toNat)).bind fun r29=>bif !r29.2.2 then e (bs []) 0 3 else(bY b r29.1).bind fun r30=>bif !decide (r30=0) then e (bs []) 0 r30 else e r29.1 (zW zI (d+uI)) 0 else(bY b (c.extract d.toNat (zW zI (d+uI)).toNat)).bind fun r31=>bif !decide (r31=0) then e (bs []) 0 r31 else e (c.extract d.toNat (zW zI (d+uI)).toNat) (zW zI (d+uI)) 0 else none else none else none else none else bif r24=2 then bif zW zI ((c.size:Int)-d)<zW zI (2*b.2.2.2.1) then e (bs []) 0 2 else bif 0<=zW zI (d+zW zI (2*b.2.2.2.1)) then bif zW zI (d+zW zI (2*b.2.2.2.1))<=(c.size:Int) then bif 0<=d then bif d<=(((zW zI (d+zW zI (2*b.2.2.2.1))).toNat:Nat):Int) then(kY a b.2.1).bind fun r32=>bif r32=1 then(Q0 (c.extract d.toNat (zW zI (d+zW zI (2*b.2.2.2.1))).toNat) b.2.2.2.1).bind fun Sf=>bif !decide (Sf.2.1=0) then e (bs []) 0 Sf.2.1 else(bY b Sf.1).bind fun r34=>bif !decide (r34=0) then e (bs []) 0 r34 else e Sf.1 (zW zI (d+zW zI (2*b.2.2.2.1))) 0 else bif r32=2 then(gS (c.extract d.toNat (zW zI (d+zW zI (2*b.2.2.2.1))).toNat)).bind fun r35=>bif !r35.2.2 then e (bs []) 0 3 else(bY b r35.1).bind fun r36=>bif !decide (r36=0) then e (bs []) 0 r36 else e r35.1 (zW zI (d+zW zI (2*b.2.2.2.1))) 0 else(bY b (c.extract d.toNat (zW zI (d+zW zI (2*b.2.2.2.1))).toNat)).bind fun r37=>bif !decide (r37=0) then e (bs []) 0 r37 else e (c.extract d.toNat (zW zI (d+zW zI (2*b.2.2.2.1))).toNat) (zW zI (d+zW zI (2*b.2.2.2.1))) 0 else none else none else none else none else bif zW zI ((c.size:Int)-d)<b.2.2.2.1 then e (bs []) 0 2 else bif 0<=zW zI (d+b.2.2.2.1) then bif zW zI (d+b.2.2.2.1)<=(c.size:Int) then bif 0<=d then bif d<=(((zW zI (d+b.2.2.2.1)).toNat:Nat):Int) then(kY a b.2.1).bind fun r38=>bif r38=1 then(Q0 (c.extract d.toNat (zW zI (d+b.2.2.2.1)).toNat) b.2.2.2.1).bind fun Sg=>bif !decide (Sg.2.1=0) then e (bs []) 0 Sg.2.1 else(bY b Sg.1).bind fun r40=>bif !decide (r40=0) then e (bs []) 0 r40 else e Sg.1 (zW zI (d+b.2.2.2.1)) 0 else bif r38=2 then(gS (c.extract d.toNat (zW zI (d+b.2.2.2.1)).toNat)).bind fun r41=>bif !r41.2.2 then e (bs []) 0 3 else(bY b r41.1).bind fun r42=>bif !decide (r42=0) then e (bs []) 0 r42 else e r41.1 (zW zI (d+b.2.2.2.1)) 0 else(bY b (c.extract d.toNat (zW zI (d+b.2.2.2.1)).toNat)).bind fun r43=>bif !decide (r43=0) then e (bs []) 0 r43 else e (c.extract d.toNat (zW zI (d+b.2.2.2.1)).toNat) (zW zI (d+b.2.2.2.1)) 0 else none else none else none else none
def Hv(a:Int)(b:aT)(c:ByteArray)(d:Int):Option JC:=
 Wm a b c d (fun a0 a1 a2=>some (a0,a1,a2))
def Wo{R:Type}(a:Int)(b:aT)(c:ByteArray)(d:ByteArray->Int->Option R):Option R:=
 (BA a).bind fun r1=>bif !r1 then d (bs []) 1 else(bY b c).bind fun r2=>bif !decide (r2=0) then d (bs []) r2 else bif !decide (b.2.2.1=1) then(qM a b.2.2.1 (c.size:Int)).bind fun r3=>(kY a b.2.1).bind fun r4=>bif r4=1 then(Q1 c).bind fun r5=>bif r3.1.size+r5.1.size<=9223372036854775807 then d (r3.1++r5.1) 0 else none else bif r4=2 then(jT c).bind fun r6=>bif r3.1.size+r6.size<=9223372036854775807 then d (r3.1++r6) 0 else none else bif r3.1.size+c.size<=9223372036854775807 then d (r3.1++c) 0 else none else(kY a b.2.1).bind fun r7=>bif r7=1 then(Q1 c).bind fun r8=>bif(bs []).size+r8.1.size<=9223372036854775807 then d (bs []++r8.1) 0 else none else bif r7=2 then(jT c).bind fun r9=>bif(bs []).size+r9.size<=9223372036854775807 then d (bs []++r9) 0 else none else bif(bs []).size+c.size<=9223372036854775807 then d (bs []++c) 0 else none
def Bw(a:Int)(b:aT)(c:ByteArray):Option RP:=
 Wo a b c (fun a0 a1=>some (a0,a1))
def W5{R:Type}(a:aO)(b:Int->Int->Option R)(c:aO->Int->Int->io->Option R):Option R:=
 bif 256<((List.length a):Int) then b 5 256 else c a ((List.length a):Int) 0 []
def DL{R:Type}(a:aO)(b c:Int)(d:io)(e:Int->Int->Option R)(f:aO->Int->Int->io->Option R)(g:Option R):Option R:=
 bif c<b then zd c (List.length a) (bif fe (gd .str) false d (List.getD a c.toNat (bs [],bs [],())).1 then e (10:Int) c else bif ff (gd .str) d (List.getD a c.toNat (bs [],bs [],())).1 then none else f a b (zW zI (c+(1:Int))) (d++ [((List.getD a c.toNat (bs [],bs [],())).1,true)])) else g
def DM{R:Type}(a b:Int)(c:Int->Int->Option R):Option R:=
 c a b
def DN{R:Type}(a:Int->Int->Option R):Option R:=
 a 0 0
def QZ:Nat->aO->Int->Int->io->Option (Sum (Int×Int) Unit)
 |0,_,_,_,_=>none
 |k+1,v0,v1,v2,v3=>DL v0 v1 v2 v3 (fun a0 a1=>some (.inl (a0,a1))) (fun a0 a1 a2 a3=>QZ k a0 a1 a2 a3) (some (.inr ()))
def HI(a:aO):Option (Int×Int):=
 W5 a (fun a0 a1=>some (a0,a1)) (fun a0 a1 a2 a3=>(QZ ai a0 a1 a2 a3).bind fun e=>Sum.elim (fun(we:(Int×Int))=>DM we.1 we.2 (fun a0 a1=>some (a0,a1))) (fun(we:Unit)=>DN (fun a0 a1=>some (a0,a1))) e)
def WY{R:Type}(a:aO)(b:ByteArray)(c:ByteArray->aO->Int->Int->Option R):Option R:=
 c b a ((List.length a):Int) 0
def z156{R:Type}(a:ByteArray)(b:aO)(c d:Int)(e:ByteArray->Bool->Option R)(f:ByteArray->aO->Int->Int->Option R)(g:Option R):Option R:=
 bif d<c then zd d (List.length b) (bif(List.getD b d.toNat (bs [],bs [],())).1=a then e (List.getD b d.toNat (bs [],bs [],())).2.1 true else f a b c (zW zI (d+1))) else g
def z157{R:Type}(a:ByteArray)(b:Bool)(c:ByteArray->Bool->Option R):Option R:=
 c a b
def DK{R:Type}(a:ByteArray->Bool->Option R):Option R:=
 a (bs []) false
def QY:Nat->ByteArray->aO->Int->Int->Option (Sum jL Unit)
 |0,_,_,_,_=>none
 |k+1,v0,v1,v2,v3=>z156 v0 v1 v2 v3 (fun a0 a1=>some (.inl (a0,a1))) (fun a0 a1 a2 a3=>QY k a0 a1 a2 a3) (some (.inr ()))
def HH(a:aO)(b:ByteArray):Option jL:=
 WY a b (fun a0 a1 a2 a3=>(QY ai a0 a1 a2 a3).bind fun e=>Sum.elim (fun(we:jL)=>z157 we.1 we.2 (fun a0 a1=>some (a0,a1))) (fun(we:Unit)=>DK (fun a0 a1=>some (a0,a1))) e)
def Xx{R:Type}(a:Int)(b:Int->Option R)(c:Int->ag->Option R):Option R:=
 bif a<1 then b 5 else bif 65535<a then b 5 else c 0 (a,false,[],())
def HZ(a:Int):Option (Sum Int tK):=
 Xx a (fun a0=>some (.inl a0)) (fun a0 a1=>some (.inr (a0,a1)))
def Xw{R:Type}(a:ag)(b:Int->ag->Option R):Option R:=
 bif((List.length a.2.2.1):Int)<2 then b 0 a else zd 0 (List.length a.2.2.1) (zd 1 (List.length a.2.2.1) (b (aQ .or .i64 (zW zI (zW zI (List.getD a.2.2.1 ((0:Int)).toNat 0)*2^min ((8:Int)).toNat 64)) (zW zI (List.getD a.2.2.1 ((1:Int)).toNat 0))) a))
def HX(a:ag):Option tK:=
 Xw a (fun a0 a1=>some (a0,a1))
def Xt{R:Type}(a:ag)(b:ByteArray)(c:ByteArray->(List ByteArray)->Int->ag->Option R):Option R:=
 c b [] 0 a
def Rd{R:Type}(a:ByteArray)(b:(List ByteArray))(c:Int)(d:ag)(e:(List ByteArray)->Bool->(List ByteArray)->ag->Option R)(f:ByteArray->(List ByteArray)->Int->ag->Option R)(g:(List ByteArray)->ag->Option R):Option R:=
 bif c<(a.size:Int) then bif !d.2.1 then zd c a.size (bif(List.length d.2.2.1+List.length ([(ze a c.toNat)]:List Int))*1<=140737488355328 then(HX (d.1,d.2.1,d.2.2.1++([(ze a c.toNat)]:List Int),())).bind fun r1=>bif((List.length r1.2.2.2.1):Int)=2 then bif r1.1=0 then e b true b (r1.2.1,true,[],()) else bif r1.2.1<r1.1 then e b true b (r1.2.1,true,[],()) else bif((List.length r1.2.2.2.1):Int)=zW zI (2+r1.1) then bif 0<r1.1 then bif 2<=(((List.length r1.2.2.2.1):Nat):Int) then bif(List.length b+List.length ([(strOf (List.drop ((2:Int)).toNat (List.take (List.length r1.2.2.2.1) r1.2.2.2.1)))]:List ByteArray))*16<=140737488355328 then f a (b++([(strOf (List.drop ((2:Int)).toNat (List.take (List.length r1.2.2.2.1) r1.2.2.2.1)))]:List ByteArray)) (zW zI (c+1)) (r1.2.1,r1.2.2.1,[],()) else none else none else f a b (zW zI (c+1)) r1.2 else f a b (zW zI (c+1)) r1.2 else bif((List.length r1.2.2.2.1):Int)=zW zI (2+r1.1) then bif 0<r1.1 then bif 2<=(((List.length r1.2.2.2.1):Nat):Int) then bif(List.length b+List.length ([(strOf (List.drop ((2:Int)).toNat (List.take (List.length r1.2.2.2.1) r1.2.2.2.1)))]:List ByteArray))*16<=140737488355328 then f a (b++([(strOf (List.drop ((2:Int)).toNat (List.take (List.length r1.2.2.2.1) r1.2.2.2.1)))]:List ByteArray)) (zW zI (c+1)) (r1.2.1,r1.2.2.1,[],()) else none else none else f a b (zW zI (c+1)) r1.2 else f a b (zW zI (c+1)) r1.2 else none) else g b d else g b d
def Xu{R:Type}(a:(List ByteArray))(b:Bool)(c:(List ByteArray))(d:ag)(e:(List ByteArray)->Bool->ag->Option R):Option R:=
 e a b d
def Xv{R:Type}(a:(List ByteArray))(b:ag)(c:(List ByteArray)->Bool->ag->Option R):Option R:=
 c a false b
def FG:Nat->ByteArray->(List ByteArray)->Int->ag->Option (Sum ((List ByteArray)×Bool×(List ByteArray)×ag) ((List ByteArray)×ag))
 |0,_,_,_,_=>none
 |k+1,v0,v1,v2,v3=>Rd v0 v1 v2 v3 (fun a0 a1 a2 a3=>some (.inl (a0,a1,a2,a3))) (fun a0 a1 a2 a3=>FG k a0 a1 a2 a3) (fun a0 a1=>some (.inr (a0,a1)))
def BD(a:ag)(b:ByteArray):Option ((List ByteArray)×Bool×ag):=
 Xt a b (fun a0 a1 a2 a3=>(FG ai a0 a1 a2 a3).bind fun e=>Sum.elim (fun(we:((List ByteArray)×Bool×(List ByteArray)×ag))=>Xu we.1 we.2.1 we.2.2.1 we.2.2.2 (fun a0 a1 a2=>some (a0,a1,a2))) (fun(we:((List ByteArray)×ag))=>Xv we.1 we.2 (fun a0 a1 a2=>some (a0,a1,a2))) e)
def Xy{R:Type}(a:ByteArray)(b:ByteArray->Int->Option R):Option R:=
 bif(a.size:Int)<1 then b (bs []) 5 else bif 65535<(a.size:Int) then b (bs []) 5 else bif(strOf ([(zW zU (Int.fdiv (a.size:Int) (2^min ((8:Int)).toNat 64))),(zW zU (a.size:Int))]:List Int)).size+a.size<=9223372036854775807 then b (strOf ([(zW zU (Int.fdiv (a.size:Int) (2^min ((8:Int)).toNat 64))),(zW zU (a.size:Int))]:List Int)++a) 0 else none
def BE(a:ByteArray):Option RP:=
 Xy a (fun a0 a1=>some (a0,a1))
def DU{R:Type}(a:ag)(b:Bool->ag->Option R):Option R:=
 b a.2.1 a
def YB(a:ag):Option (Bool×ag):=
 DU a (fun a0 a1=>some (a0,a1))
def DW{R:Type}(a:ag)(b:Int->ag->Option R):Option R:=
 b ((List.length a.2.2.1):Int) a
def YC(a:ag):Option tK:=
 DW a (fun a0 a1=>some (a0,a1))
def Ux{R:Type}(a:ByteArray)(b:Bool->Option R):Option R:=
 bif(a.size:Int)=4 then(yq a).bind fun r1=>b r1 else b false
def n3(a:ByteArray):Option Bool:=
 Ux a (fun a0=>some a0)
def Uy{R:Type}(a:ByteArray)(b:Int->Bool->Option R):Option R:=
 (n3 a).bind fun r1=>bif !r1 then b 0 false else zd 0 a.size (b (zW zI (zW zU (ze a ((0:Int)).toNat-48))) true)
def jw(a:ByteArray):Option (Int×Bool):=
 Uy a (fun a0 a1=>some (a0,a1))
def Uv{R:Type}(a:ByteArray)(b:Bool->Option R):Option R:=
 (n3 a).bind fun r1=>bif r1 then zd 2 a.size (bif ze a ((2:Int)).toNat=48 then b true else zd 2 a.size (b (decide (ze a ((2:Int)).toNat=50)))) else b false
def n0(a:ByteArray):Option Bool:=
 Uv a (fun a0=>some a0)
def Uw{R:Type}(a:ByteArray)(b:ByteArray->Bool->Option R):Option R:=
 (n0 a).bind fun r1=>bif !r1 then b (bs []) false else bif 2<=(a.size:Int) then zd 2 a.size (bif(a.extract 0 ((2:Int)).toNat).size+(strOf ([(zW zU (ze a ((2:Int)).toNat+1))]:List Int)).size<=9223372036854775807 then bif 3<=(a.size:Int) then bif(a.extract 0 ((2:Int)).toNat++strOf ([(zW zU (ze a ((2:Int)).toNat+1))]:List Int)).size+(a.extract ((3:Int)).toNat a.size).size<=9223372036854775807 then b ((a.extract 0 ((2:Int)).toNat++strOf ([(zW zU (ze a ((2:Int)).toNat+1))]:List Int))++a.extract ((3:Int)).toNat a.size) true else none else none else none) else none
def s8(a:ByteArray):Option jL:=
 Uw a (fun a0 a1=>some (a0,a1))
def GX{R:Type}(a:af)(b:Int->Int->Option R)(c:gU->Int->Int->af->Option R):Option R:=
 bif !decide (a.1=1) then bif !decide (a.1=2) then b 1 (-1:Int) else bif a.2.1<0 then b 7 (-1:Int) else bif 9<a.2.1 then b 7 (-1:Int) else c a.2.2.1 ((List.length a.2.2.1):Int) 0 a else bif a.2.1<0 then b 7 (-1:Int) else bif 9<a.2.1 then b 7 (-1:Int) else c a.2.2.1 ((List.length a.2.2.1):Int) 0 a
theorem z154{R S:Type}(F:R->Option S)(a)(b)(c):(GX a b c).bind F=GX a (fun a0 a1=>(b a0 a1).bind F) (fun a0 a1 a2 a3=>(c a0 a1 a2 a3).bind F):=by
 simp only[GX,aD]
def Qw{R:Type}(a:gU)(b c:Int)(d:af)(e:Int->Int->Option R)(f:gU->Int->Int->af->Option R)(g:Option R):Option R:=
 bif c<b then zd c (List.length a) ((lR (List.getD a c.toNat (0,0,0,0,0,()))).bind fun r1=>bif !decide (r1=0) then e r1 c else bif 0<c then zd (zW zI (c-1)) (List.length d.2.2.1) (bif(List.getD a c.toNat (0,0,0,0,0,())).1<=(List.getD d.2.2.1 (zW zI (c-(1:Int))).toNat (0,0,0,0,0,())).1 then e 11 c else f a b (zW zI (c+1)) d) else f a b (zW zI (c+1)) d) else g
def U4{R:Type}(a b:Int)(c:Int->Int->Option R):Option R:=
 c a b
def U5{R:Type}(a:Int->Int->Option R):Option R:=
 a 0 0
def Bg:Nat->gU->Int->Int->af->Option (Sum (Int×Int) Unit)
 |0,_,_,_,_=>none
 |k+1,v0,v1,v2,v3=>Qw v0 v1 v2 v3 (fun a0 a1=>some (.inl (a0,a1))) (fun a0 a1 a2 a3=>Bg k a0 a1 a2 a3) (some (.inr ()))
def mM(a:af):Option (Int×Int):=
 GX a (fun a0 a1=>some (a0,a1)) (fun a0 a1 a2 a3=>(Bg ai a0 a1 a2 a3).bind fun e=>Sum.elim (fun(we:(Int×Int))=>U4 we.1 we.2 (fun a0 a1=>some (a0,a1))) (fun(we:Unit)=>U5 (fun a0 a1=>some (a0,a1))) e)
def U7{R:Type}(a:af)(b:Int)(c:Int->gU->Int->Int->aT->Option R):Option R:=
 c b a.2.2.1 ((List.length a.2.2.1):Int) 0 (0,0,0,0,0,())
def zzl{R:Type}(a:Int)(b:gU)(c d:Int)(e:aT)(f:Bool->aT->Option R)(g:Int->gU->Int->Int->aT->Option R)(h:aT->Option R):Option R:=
 bif d<c then zd d (List.length b) (bif(List.getD b d.toNat (0,0,0,0,0,())).1=a then f true (List.getD b d.toNat (0,0,0,0,0,())) else g a b c (zW zI (d+1)) e) else h e
def zzm{R:Type}(a:Bool)(b:aT)(c:aT->Bool->Option R):Option R:=
 c b a
def zzn{R:Type}(a:aT)(b:aT->Bool->Option R):Option R:=
 b (0,0,0,0,0,()) false
def Qx:Nat->Int->gU->Int->Int->aT->Option (Sum (Bool×aT) aT)
 |0,_,_,_,_,_=>none
 |k+1,v0,v1,v2,v3,v4=>zzl v0 v1 v2 v3 v4 (fun a0 a1=>some (.inl (a0,a1))) (fun a0 a1 a2 a3 a4=>Qx k a0 a1 a2 a3 a4) (fun a0=>some (.inr a0))
def fR(a:af)(b:Int):Option (aT×Bool):=
 U7 a b (fun a0 a1 a2 a3 a4=>(Qx ai a0 a1 a2 a3 a4).bind fun e=>Sum.elim (fun(we:(Bool×aT))=>zzm we.1 we.2 (fun a0 a1=>some (a0,a1))) (fun(we:aT)=>zzn we (fun a0 a1=>some (a0,a1))) e)
def Up{R:Type}(a:aw)(b:Int)(c:Int->al->Int->Int->Option R):Option R:=
 c b a.2.1 ((List.length a.2.1):Int) 0
def zyq{R:Type}(a:Int)(b:al)(c d:Int)(e:ByteArray->Bool->Option R)(f:Int->al->Int->Int->Option R)(g:Option R):Option R:=
 bif d<c then zd d (List.length b) (bif(List.getD b d.toNat (0,bs [],())).1=a then e (List.getD b d.toNat (0,bs [],())).2.1 true else f a b c (zW zI (d+1))) else g
def zyr{R:Type}(a:ByteArray)(b:Bool)(c:ByteArray->Bool->Option R):Option R:=
 c a b
def zys{R:Type}(a:ByteArray->Bool->Option R):Option R:=
 a (bs []) false
def Qm:Nat->Int->al->Int->Int->Option (Sum jL Unit)
 |0,_,_,_,_=>none
 |k+1,v0,v1,v2,v3=>zyq v0 v1 v2 v3 (fun a0 a1=>some (.inl (a0,a1))) (fun a0 a1 a2 a3=>Qm k a0 a1 a2 a3) (some (.inr ()))
def nZ(a:aw)(b:Int):Option jL:=
 Up a b (fun a0 a1 a2 a3=>(Qm ai a0 a1 a2 a3).bind fun e=>Sum.elim (fun(we:jL)=>zyr we.1 we.2 (fun a0 a1=>some (a0,a1))) (fun(we:Unit)=>zys (fun a0 a1=>some (a0,a1))) e)
def Uu{R:Type}(a:aw)(b:Int)(c:Int->al->Int->Int->aw->aw->Option R):Option R:=
 c b a.2.1 ((List.length a.2.1):Int) 0 (bs [],[],()) (a.1,[],())
def zyw{R:Type}(a:Int)(b:al)(c d:Int)(e f:aw)(g:Int->al->Int->Int->aw->aw->Option R)(h:aw->aw->Option R):Option R:=
 bif d<c then zd d (List.length b) (bif !decide ((List.getD b d.toNat (0,bs [],())).1=a) then bif(List.length f.2.1+List.length ([(List.getD b d.toNat ((0:Int),bs [],()))]:List bj))*24<=140737488355328 then g a b c (zW zI (d+1)) e (f.1,f.2.1++([(List.getD b d.toNat (0,bs [],()))]:List bj),()) else none else g a b c (zW zI (d+1)) e f) else h e f
def zyx{R:Type}(a b:aw)(c:aw->Option R):Option R:=
 c b
def Qo:Nat->Int->al->Int->Int->aw->aw->Option (aw×aw)
 |0,_,_,_,_,_,_=>none
 |k+1,v0,v1,v2,v3,v4,v5=>zyw v0 v1 v2 v3 v4 v5 (fun a0 a1 a2 a3 a4 a5=>Qo k a0 a1 a2 a3 a4 a5) (fun a0 a1=>some (a0,a1))
def s7(a:aw)(b:Int):Option aw:=
 Uu a b (fun a0 a1 a2 a3 a4 a5=>(Qo ai a0 a1 a2 a3 a4 a5).bind fun e=>zyx e.1 e.2 (fun a0=>some a0))
def zyv{R:Type}(a:bj)(b:Int)(c:Bool->Int->Option R):Option R:=
 c (decide (b<a.1)) b
def s6(a:bj)(b:Int):Option (Bool×Int):=
 zyv a b (fun a0 a1=>some (a0,a1))
def Vd{R:Type}(a:al)(b:Int)(c:al->Int->Int->Int->Option R):Option R:=
 c a ((List.length a):Int) 0 b
def zzu{R:Type}(a:al)(b c d:Int)(e:Int->Int->Option R)(f:al->Int->Int->Int->Option R)(g:Int->Option R):Option R:=
 bif c<b then zd c (List.length a) ((s6 (List.getD a c.toNat (0,bs [],())) d).bind fun r1=>bif r1.1 then e c r1.2 else f a b (zW zI (c+1)) r1.2) else g d
def zzv{R:Type}(a b:Int)(c:Int->Int->Option R):Option R:=
 c a b
def zzw{R:Type}(a:Int)(b:Int->Int->Option R):Option R:=
 b (-1:Int) a
def Qz:Nat->al->Int->Int->Int->Option (Sum (Int×Int) Int)
 |0,_,_,_,_=>none
 |k+1,v0,v1,v2,v3=>zzu v0 v1 v2 v3 (fun a0 a1=>some (.inl (a0,a1))) (fun a0 a1 a2 a3=>Qz k a0 a1 a2 a3) (fun a0=>some (.inr a0))
def tu(a:al)(b:Int):Option (Int×Int):=
 Vd a b (fun a0 a1 a2 a3=>(Qz ai a0 a1 a2 a3).bind fun e=>Sum.elim (fun(we:(Int×Int))=>zzv we.1 we.2 (fun a0 a1=>some (a0,a1))) (fun(we:Int)=>zzw we (fun a0 a1=>some (a0,a1))) e)
def Us{R:Type}(a:aw)(b:Int)(c:ByteArray)(d:aw->Option R):Option R:=
 (s7 a b).bind fun r1=>(tu r1.2.1 b).bind fun r2=>bif r2.1<0 then bif zW zI (((List.length r1.2.1):Int)+1)=zW zI (((List.length r1.2.1):Int)+1) then bif 0<=zW zI (((List.length r1.2.1):Int)+1) then bif zW zI (((List.length r1.2.1):Int)+1)*24<=140737488355328 then bif 0<=((List.length r1.2.1):Int) then bif((List.length r1.2.1):Int)<=(((List.length r1.2.1):Nat):Int) then bif Nat.beq (zW zI (((List.length r1.2.1):Int)+(1:Int))).toNat (List.length (List.replicate (zW zI (((List.length r1.2.1):Int)+(1:Int))).toNat ((0:Int),bs [],()))) then zd ((List.length r1.2.1):Int) (zW zI (((List.length r1.2.1):Int)+(1:Int))).toNat (bif Nat.ble ((((List.length r1.2.1):Int)).toNat+1) (List.length (b6 (List.replicate (zW zI (((List.length r1.2.1):Int)+(1:Int))).toNat ((0:Int),bs [],())) (List.take (zW zI (((List.length r1.2.1):Int)+(1:Int))).toNat (List.drop 0 (List.take (((List.length r1.2.1):Int)).toNat r1.2.1))) 0)) then bif 0<=zW zI (((List.length r1.2.1):Int)+1) then bif zW zI (((List.length r1.2.1):Int)+1)<=(((zW zI (((List.length r1.2.1):Int)+(1:Int))).toNat:Nat):Int) then bif 0<=((List.length r1.2.1):Int) then bif((List.length r1.2.1):Int)<=(((List.length r1.2.1):Nat):Int) then bif Nat.beq (zW zI (((List.length r1.2.1):Int)+(1:Int))).toNat (List.length (List.set (b6 (List.replicate (zW zI (((List.length r1.2.1):Int)+(1:Int))).toNat ((0:Int),bs [],())) (List.take (zW zI (((List.length r1.2.1):Int)+(1:Int))).toNat (List.drop 0 (List.take (((List.length r1.2.1):Int)).toNat r1.2.1))) 0) (((List.length r1.2.1):Int)).toNat (r2.2,c,()))) then bif Nat.ble (zW zI (((List.length r1.2.1):Int)+(1:Int))).toNat (zW zI (((List.length r1.2.1):Int)+(1:Int))).toNat then bif Nat.beq (zW zI (((List.length r1.2.1):Int)+(1:Int))).toNat (List.length (b6 (List.set (b6 (List.replicate (zW zI (((List.length r1.2.1):Int)+(1:Int))).toNat ((0:Int),bs [],())) (List.take (zW zI (((List.length r1.2.1):Int)+(1:Int))).toNat (List.drop 0 (List.take (((List.length r1.2.1):Int)).toNat r1.2.1))) 0) (((List.length r1.2.1):Int)).toNat (r2.2,c,())) (List.take ((zW zI (((List.length r1.2.1):Int)+(1:Int))).toNat-(zW zI (((List.length r1.2.1):Int)+(1:Int))).toNat) (List.drop (((List.length r1.2.1):Int)).toNat (List.take (List.length r1.2.1) r1.2.1))) (zW zI (((List.length r1.2.1):Int)+(1:Int))).toNat)) then d (a.1,b6 (List.set (b6 (List.replicate (zW zI (((List.length r1.2.1):Int)+(1:Int))).toNat (0,bs [],())) (List.take (zW zI (((List.length r1.2.1):Int)+(1:Int))).toNat (List.drop 0 (List.take (((List.length r1.2.1):Int)).toNat r1.2.1))) 0) (((List.length r1.2.1):Int)).toNat (r2.2,c,())) (List.take ((zW zI (((List.length r1.2.1):Int)+(1:Int))).toNat-(zW zI (((List.length r1.2.1):Int)+(1:Int))).toNat) (List.drop (((List.length r1.2.1):Int)).toNat (List.take (List.length r1.2.1) r1.2.1))) (zW zI (((List.length r1.2.1):Int)+(1:Int))).toNat,()) else none else none else none else none else none else none else none else none) else none else none else none else none else none else none else bif zW zI (((List.length r1.2.1):Int)+1)=zW zI (((List.length r1.2.1):Int)+1) then bif 0<=zW zI (((List.length r1.2.1):Int)+1) then bif zW zI (((List.length r1.2.1):Int)+1)*24<=140737488355328 then bif 0<=r2.1 then bif r2.1<=(((List.length r1.2.1):Nat):Int) then bif Nat.beq (zW zI (((List.length r1.2.1):Int)+(1:Int))).toNat (List.length (List.replicate (zW zI (((List.length r1.2.1):Int)+(1:Int))).toNat ((0:Int),bs [],()))) then zd r2.1 (zW zI (((List.length r1.2.1):Int)+(1:Int))).toNat (bif Nat.ble (r2.1.toNat+1) (List.length (b6 (List.replicate (zW zI (((List.length r1.2.1):Int)+(1:Int))).toNat ((0:Int),bs [],())) (List.take (zW zI (((List.length r1.2.1):Int)+(1:Int))).toNat (List.drop 0 (List.take r2.1.toNat r1.2.1))) 0)) then bif 0<=zW zI (r2.1+1) then bif zW zI (r2.1+1)<=(((zW zI (((List.length r1.2.1):Int)+(1:Int))).toNat:Nat):Int) then bif 0<=r2.1 then bif r2.1<=(((List.length r1.2.1):Nat):Int) then bif Nat.beq (zW zI (((List.length r1.2.1):Int)+(1:Int))).toNat (List.length (List.set (b6 (List.replicate (zW zI (((List.length r1.2.1):Int)+(1:Int))).toNat ((0:Int),bs [],())) (List.take (zW zI (((List.length r1.2.1):Int)+(1:Int))).toNat (List.drop 0 (List.take r2.1.toNat r1.2.1))) 0) r2.1.toNat (r2.2,c,()))) then bif Nat.ble (zW zI (r2.1+(1:Int))).toNat (zW zI (((List.length r1.2.1):Int)+(1:Int))).toNat then bif Nat.beq (zW zI (((List.length r1.2.1):Int)+(1:Int))).toNat (List.length (b6 (List.set (b6 (List.replicate (zW zI (((List.length r1.2.1):Int)+(1:Int))).toNat ((0:Int),bs [],())) (List.take (zW zI (((List.length r1.2.1):Int)+(1:Int))).toNat (List.drop 0 (List.take r2.1.toNat r1.2.1))) 0) r2.1.toNat (r2.2,c,())) (List.take ((zW zI (((List.length r1.2.1):Int)+(1:Int))).toNat-(zW zI (r2.1+(1:Int))).toNat) (List.drop r2.1.toNat (List.take (List.length r1.2.1) r1.2.1))) (zW zI (r2.1+(1:Int))).toNat)) then d (a.1,b6 (List.set (b6 (List.replicate (zW zI (((List.length r1.2.1):Int)+(1:Int))).toNat (0,bs [],())) (List.take (zW zI (((List.length r1.2.1):Int)+(1:Int))).toNat (List.drop 0 (List.take r2.1.toNat r1.2.1))) 0) r2.1.toNat (r2.2,c,())) (List.take ((zW zI (((List.length r1.2.1):Int)+(1:Int))).toNat-(zW zI (r2.1+(1:Int))).toNat) (List.drop r2.1.toNat (List.take (List.length r1.2.1) r1.2.1))) (zW zI (r2.1+(1:Int))).toNat,()) else none else none else none else none else none else none else none else none) else none else none else none else none else none else none
def ij(a:aw)(b:Int)(c:ByteArray):Option aw:=
 Us a b c (fun a0=>some a0)
def Un{R:Type}(a:af)(b:aw)(c:aR->Option R)(d:Int->al->Int->Int->af->aR->Option R):Option R:=
 (mM a).bind fun r1=>bif !decide (r1.1=0) then c (1,(-1:Int),()) else(jw b.1).bind fun r2=>bif !r2.2 then c (7,0,()) else bif !decide (r2.1=a.2.1) then c (7,0,()) else d 0 b.2.1 ((List.length b.2.1):Int) 0 a (0,0,())
def zym{R:Type}(a:Int)(b:al)(c d:Int)(e:af)(f:aR)(g:aR->Option R)(h:Int->al->Int->Int->af->aR->Option R)(i:aR->Option R):Option R:=
 bif d<c then zd d (List.length b) (bif(List.getD b d.toNat (0,bs [],())).1<=a then g (11,(List.getD b d.toNat (0,bs [],())).1,()) else(fR e (List.getD b d.toNat (0,bs [],())).1).bind fun r3=>bif !r3.2 then g (9,(List.getD b d.toNat (0,bs [],())).1,()) else(bY r3.1 (List.getD b d.toNat (0,bs [],())).2.1).bind fun r4=>bif !decide (r4=0) then g (r4,(List.getD b d.toNat (0,bs [],())).1,()) else h (List.getD b d.toNat (0,bs [],())).1 b c (zW zI (d+1)) e f) else i f
def zyn{R:Type}(a:aR)(b:aR->Option R):Option R:=
 b a
def zyo{R:Type}(a:aR)(b:aR->Option R):Option R:=
 b (0,0,())
def Ql:Nat->Int->al->Int->Int->af->aR->Option (Sum aR aR)
 |0,_,_,_,_,_,_=>none
 |k+1,v0,v1,v2,v3,v4,v5=>zym v0 v1 v2 v3 v4 v5 (fun a0=>some (.inl a0)) (fun a0 a1 a2 a3 a4 a5=>Ql k a0 a1 a2 a3 a4 a5) (fun a0=>some (.inr a0))
def qK(a:af)(b:aw):Option aR:=
 Un a b (fun a0=>some a0) (fun a0 a1 a2 a3 a4 a5=>(Ql ai a0 a1 a2 a3 a4 a5).bind fun e=>Sum.elim (fun(we:aR)=>zyn we (fun a0=>some a0)) (fun(we:aR)=>zyo we (fun a0=>some a0)) e)
def Ur{R:Type}(a:aw)(b:al->Int->Int->aR->aR->Option R):Option R:=
 b a.2.1 ((List.length a.2.1):Int) 0 (0,0,()) (0,0,())
def zyt{R:Type}(a:al)(b c:Int)(d e:aR)(f:al->Int->Int->aR->aR->Option R)(g:aR->aR->Option R):Option R:=
 bif c<b then zd c (List.length a) ((yt e (List.getD a c.toNat (0,bs [],())).1).bind fun r1=>f a b (zW zI (c+1)) d r1) else g d e
def zyu{R:Type}(a b:aR)(c:aR->Option R):Option R:=
 c b
def Qn:Nat->al->Int->Int->aR->aR->Option (aR×aR)
 |0,_,_,_,_,_=>none
 |k+1,v0,v1,v2,v3,v4=>zyt v0 v1 v2 v3 v4 (fun a0 a1 a2 a3 a4=>Qn k a0 a1 a2 a3 a4) (fun a0 a1=>some (a0,a1))
def s4(a:aw):Option aR:=
 Ur a (fun a0 a1 a2 a3 a4=>(Qn ai a0 a1 a2 a3 a4).bind fun e=>zyu e.1 e.2 (fun a0=>some a0))
def Vf{R:Type}(a:(List Int))(b:Int)(c:(List Int)->Int->Int->Int->Option R):Option R:=
 c a b ((List.length a):Int) 0
def zzy{R:Type}(a:(List Int))(b c d:Int)(e:Int->Option R)(f:(List Int)->Int->Int->Int->Option R)(g:Option R):Option R:=
 bif d<c then zd d (List.length a) (bif b=List.getD a d.toNat 0 then e d else f a b c (zW zI (d+1))) else g
def zzz{R:Type}(a:Int)(b:Int->Option R):Option R:=
 b a
def CQ{R:Type}(a:Int->Option R):Option R:=
 a (-1:Int)
def QA:Nat->(List Int)->Int->Int->Int->Option (Sum Int Unit)
 |0,_,_,_,_=>none
 |k+1,v0,v1,v2,v3=>zzy v0 v1 v2 v3 (fun a0=>some (.inl a0)) (fun a0 a1 a2 a3=>QA k a0 a1 a2 a3) (some (.inr ()))
def vT(a:(List Int))(b:Int):Option Int:=
 Vf a b (fun a0 a1 a2 a3=>(QA ai a0 a1 a2 a3).bind fun e=>Sum.elim (fun(we:Int)=>zzz we (fun a0=>some a0)) (fun(we:Unit)=>CQ (fun a0=>some a0)) e)
def U9{R:Type}(a:(List Int))(b:Int)(c:Bool->Option R):Option R:=
 (vT a b).bind fun r1=>c (decide (0<=r1))
def tm(a:(List Int))(b:Int):Option Bool:=
 U9 a b (fun a0=>some a0)
def UR{R:Type}(a:au)(b:Int)(c:Int->Option R):Option R:=
 zd b (List.length a.2.2.1) ((fR a.1 (List.getD a.2.2.1 b.toNat (0:Int))).bind fun r1=>bif !r1.2 then c 9 else bif List.getD a.2.2.1 b.toNat 0=39 then c 1 else bif 0<=b then bif b<=(((List.length a.2.2.1):Nat):Int) then(tm (List.drop 0 (List.take b.toNat a.2.2.1)) (List.getD a.2.2.1 b.toNat (0:Int))).bind fun r2=>bif r2 then c 10 else c 0 else none else none)
def tg(a:au)(b:Int):Option Int:=
 UR a b (fun a0=>some a0)
def UQ{R:Type}(a b:bj)(c:Bool->bj->Option R):Option R:=
 c (decide (a.1=b.1)) b
def qO(a b:bj):Option (Bool×bj):=
 UQ a b (fun a0 a1=>some (a0,a1))
def Vb{R:Type}(a:al)(b:bj)(c:al->Int->Int->bj->Option R):Option R:=
 c a ((List.length a):Int) 0 b
def zzq{R:Type}(a:al)(b c:Int)(d:bj)(e:Int->bj->Option R)(f:al->Int->Int->bj->Option R)(g:bj->Option R):Option R:=
 bif c<b then zd c (List.length a) ((qO (List.getD a c.toNat (0,bs [],())) d).bind fun r1=>bif r1.1 then e c r1.2 else f a b (zW zI (c+1)) r1.2) else g d
def zzr{R:Type}(a:Int)(b:bj)(c:Int->bj->Option R):Option R:=
 c a b
def zzs{R:Type}(a:bj)(b:Int->bj->Option R):Option R:=
 b (-1:Int) a
def Qy:Nat->al->Int->Int->bj->Option (Sum (Int×bj) bj)
 |0,_,_,_,_=>none
 |k+1,v0,v1,v2,v3=>zzq v0 v1 v2 v3 (fun a0 a1=>some (.inl (a0,a1))) (fun a0 a1 a2 a3=>Qy k a0 a1 a2 a3) (fun a0=>some (.inr a0))
def vS(a:al)(b:bj):Option (Int×bj):=
 Vb a b (fun a0 a1 a2 a3=>(Qy ai a0 a1 a2 a3).bind fun e=>Sum.elim (fun(we:(Int×bj))=>zzr we.1 we.2 (fun a0 a1=>some (a0,a1))) (fun(we:bj)=>zzs we (fun a0 a1=>some (a0,a1))) e)
def U8{R:Type}(a:al)(b:bj)(c:Bool->bj->Option R):Option R:=
 (vS a b).bind fun r1=>c (decide (0<=r1.1)) r1.2
def tk(a:al)(b:bj):Option (Bool×bj):=
 U8 a b (fun a0 a1=>some (a0,a1))
def UP{R:Type}(a:au)(b:Int)(c:aT)(d:Int->Option R):Option R:=
 zd b (List.length a.2.2.2.1) (bif(List.getD a.2.2.2.1 b.toNat (0,bs [],())).1<0 then d 1 else bif 16<(List.getD a.2.2.2.1 b.toNat (0,bs [],())).1 then d 1 else bif 0<=b then bif b<=(((List.length a.2.2.2.1):Nat):Int) then(tk (List.drop 0 (List.take b.toNat a.2.2.2.1)) (List.getD a.2.2.2.1 b.toNat (0,bs [],()))).bind fun r1=>bif r1.1 then d 10 else(bY c r1.2.2.1).bind fun r2=>d r2 else none else none)
def tf(a:au)(b:Int)(c:aT):Option Int:=
 UP a b c (fun a0=>some a0)
def UI{R:Type}(a:au)(b:Int->Int->Int->Option R)(c:Int->Int->au->aT->Option R):Option R:=
 (mM a.1).bind fun r1=>bif !decide (r1.1=0) then b 1 1 0 else(fR a.1 (39:Int)).bind fun r2=>bif !r2.2 then b 9 1 1 else c ((List.length a.2.2.1):Int) 0 a r2.1
def Qs{R:Type}(a b:Int)(c:au)(d:aT)(e:Int->Int->Int->au->aT->Option R)(f:Int->Int->au->aT->Option R)(g:au->aT->Option R):Option R:=
 bif b<a then(tg c b).bind fun r3=>bif !decide (r3=0) then e r3 2 b c d else f a (zW zI (b+1)) c d else g c d
def zz4{R:Type}(a b c:Int)(d:au)(e:aT)(f:Int->Int->Int->Option R):Option R:=
 f a b c
def UJ{R:Type}(a:au)(b:aT)(c:Bool->al->Int->Int->au->aT->Option R):Option R:=
 c false a.2.2.2.1 ((List.length a.2.2.2.1):Int) 0 a b
def Qt{R:Type}(a:Bool)(b:al)(c d:Int)(e:au)(f:aT)(g:Int->Int->Int->Bool->au->Option R)(h:Bool->al->Int->Int->au->aT->Option R)(i:Bool->au->Option R):Option R:=
 bif d<c then zd d (List.length b) ((tf e d f).bind fun r4=>bif !decide (r4=0) then g r4 3 d a e else bif a then h true b c (zW zI (d+1)) e f else h (decide ((List.getD b d.toNat (0,bs [],())).1=0)) b c (zW zI (d+1)) e f) else i a e
def zz5{R:Type}(a b c:Int)(d:Bool)(e:au)(f:Int->Int->Int->Option R):Option R:=
 f a b c
def UK{R:Type}(a:Bool)(b:au)(c:Int->Int->Int->Option R):Option R:=
 bif !a then c 15 3 ((List.length b.2.2.2.1):Int) else c 0 0 0
def Fq:Nat->Int->Int->au->aT->Option (Sum (Int×Int×Int×au×aT) (au×aT))
 |0,_,_,_,_=>none
 |k+1,v0,v1,v2,v3=>Qs v0 v1 v2 v3 (fun a0 a1 a2 a3 a4=>some (.inl (a0,a1,a2,a3,a4))) (fun a0 a1 a2 a3=>Fq k a0 a1 a2 a3) (fun a0 a1=>some (.inr (a0,a1)))
def Fs:Nat->Bool->al->Int->Int->au->aT->Option (Sum (Int×Int×Int×Bool×au) (Bool×au))
 |0,_,_,_,_,_,_=>none
 |k+1,v0,v1,v2,v3,v4,v5=>Qt v0 v1 v2 v3 v4 v5 (fun a0 a1 a2 a3 a4=>some (.inl (a0,a1,a2,a3,a4))) (fun a0 a1 a2 a3 a4 a5=>Fs k a0 a1 a2 a3 a4 a5) (fun a0 a1=>some (.inr (a0,a1)))
def td(a:au):Option jy:=
 UI a (fun a0 a1 a2=>some (a0,a1,a2)) (fun a0 a1 a2 a3=>(Fq ai a0 a1 a2 a3).bind fun e=>Sum.elim (fun(we:(Int×Int×Int×au×aT))=>zz4 we.1 we.2.1 we.2.2.1 we.2.2.2.1 we.2.2.2.2 (fun a0 a1 a2=>some (a0,a1,a2))) (fun(we:(au×aT))=>UJ we.1 we.2 (fun a0 a1 a2 a3 a4 a5=>(Fs ai a0 a1 a2 a3 a4 a5).bind fun e=>Sum.elim (fun(we:(Int×Int×Int×Bool×au))=>zz5 we.1 we.2.1 we.2.2.1 we.2.2.2.1 we.2.2.2.2 (fun a0 a1 a2=>some (a0,a1,a2))) (fun(we:(Bool×au))=>UK we.1 we.2 (fun a0 a1 a2=>some (a0,a1,a2))) e)) e)
def UN{R:Type}(a:au)(b:Int)(c:(List Int)->Int->Int->au->Option R):Option R:=
 c ([b,0]:List Int) ((List.length ([b,(0:Int)]:List Int)):Int) 0 a
def Qu{R:Type}(a:(List Int))(b c:Int)(d:au)(e:Int->(List Int)->Int->Int->al->Int->Int->au->Option R)(f:Option R):Option R:=
 bif c<b then zd c (List.length a) (e (List.getD a c.toNat 0) a b c d.2.2.2.1 ((List.length d.2.2.2.1):Int) 0 d) else f
def zz8{R:Type}(a:ByteArray->Option R):Option R:=
 a (bs [])
def zz9{R:Type}(a:Int)(b:(List Int))(c d:Int)(e:al)(f g:Int)(h:au)(i:ByteArray->(List Int)->Int->Int->au->Option R)(j:Int->(List Int)->Int->Int->al->Int->Int->au->Option R)(l:(List Int)->Int->Int->au->Option R):Option R:=
 bif g<f then zd g (List.length e) (bif(List.getD e g.toNat (0,bs [],())).1=a then i (List.getD e g.toNat (0,bs [],())).2.1 b c d h else j a b c d e f (zW zI (g+1)) h) else l b c d h
def zza{R:Type}(a:ByteArray)(b:(List Int))(c d:Int)(e:au)(f:ByteArray->Option R):Option R:=
 f a
def UO{R:Type}(a:(List Int))(b c:Int)(d:au)(e:(List Int)->Int->Int->au->Option R):Option R:=
 e a b (zW zI (c+1)) d
def zzb{R:Type}(a:ByteArray)(b:ByteArray->Option R):Option R:=
 b a
def GU:Nat->Int->(List Int)->Int->Int->al->Int->Int->au->Option (Sum (ByteArray×(List Int)×Int×Int×au) ((List Int)×Int×Int×au))
 |0,_,_,_,_,_,_,_,_=>none
 |k+1,v0,v1,v2,v3,v4,v5,v6,v7=>zz9 v0 v1 v2 v3 v4 v5 v6 v7 (fun a0 a1 a2 a3 a4=>some (.inl (a0,a1,a2,a3,a4))) (fun a0 a1 a2 a3 a4 a5 a6 a7=>GU k a0 a1 a2 a3 a4 a5 a6 a7) (fun a0 a1 a2 a3=>some (.inr (a0,a1,a2,a3)))
def Bf:Nat->(List Int)->Int->Int->au->Option (Sum Unit ByteArray)
 |0,_,_,_,_=>none
 |k+1,v0,v1,v2,v3=>Qu v0 v1 v2 v3 (fun a0 a1 a2 a3 a4 a5 a6 a7=>(GU ai a0 a1 a2 a3 a4 a5 a6 a7).bind fun e=>Sum.elim (fun(we:(ByteArray×(List Int)×Int×Int×au))=>zza we.1 we.2.1 we.2.2.1 we.2.2.2.1 we.2.2.2.2 (fun a0=>some (.inr a0))) (fun(we:((List Int)×Int×Int×au))=>UO we.1 we.2.1 we.2.2.1 we.2.2.2 (fun a0 a1 a2 a3=>Bf k a0 a1 a2 a3)) e) (some (.inl ()))
def te(a:au)(b:Int):Option ByteArray:=
 UN a b (fun a0 a1 a2 a3=>(Bf ai a0 a1 a2 a3).bind fun e=>Sum.elim (fun(we:Unit)=>zz8 (fun a0=>some a0)) (fun(we:ByteArray)=>zzb we (fun a0=>some a0)) e)
def UE{R:Type}(a:au)(b:aw)(c:aR)(d:aw->Bool->Option R)(e:(List Int)->Int->Int->au->aw->aR->aw->aw->Option R):Option R:=
 (s8 b.1).bind fun r1=>bif !r1.2 then d (bs [],[],()) false else e a.2.2.1 ((List.length a.2.2.1):Int) 0 a b c (bs [],[],()) (r1.1,[],())
def zz1{R:Type}(a:(List Int))(b c:Int)(d:au)(e:aw)(f:aR)(g h:aw)(i:(List Int)->Int->Int->au->aw->aR->aw->aw->Option R)(j:au->aR->aw->aw->Option R):Option R:=
 bif c<b then zd c (List.length a) ((nZ e (List.getD a c.toNat (0:Int))).bind fun r2=>bif r2.2 then(ij h (List.getD a c.toNat 0) r2.1).bind fun r3=>i a b (zW zI (c+1)) d e f g r3 else i a b (zW zI (c+1)) d e f g h) else j d f g h
def UF{R:Type}(a:au)(b:aR)(c d:aw)(e:aw->Bool->Option R):Option R:=
 (te a b.1).bind fun r4=>(ij d 39 r4).bind fun r5=>e r5 true
def Qr:Nat->(List Int)->Int->Int->au->aw->aR->aw->aw->Option (au×aR×aw×aw)
 |0,_,_,_,_,_,_,_,_=>none
 |k+1,v0,v1,v2,v3,v4,v5,v6,v7=>zz1 v0 v1 v2 v3 v4 v5 v6 v7 (fun a0 a1 a2 a3 a4 a5 a6 a7=>Qr k a0 a1 a2 a3 a4 a5 a6 a7) (fun a0 a1 a2 a3=>some (a0,a1,a2,a3))
def tc(a:au)(b:aw)(c:aR):Option (aw×Bool):=
 UE a b c (fun a0 a1=>some (a0,a1)) (fun a0 a1 a2 a3 a4 a5 a6 a7=>(Qr ai a0 a1 a2 a3 a4 a5 a6 a7).bind fun e=>UF e.1 e.2.1 e.2.2.1 e.2.2.2 (fun a0 a1=>some (a0,a1)))
def Vm{R:Type}(a:af)(b:ByteArray)(c:ByteArray->Int->Int->Option R):Option R:=
 bif a.1=2 then(Q2 (4:Int)).bind fun r1=>bif(b.size:Int)<r1 then c (bs []) 0 2 else bif 0<=r1 then bif r1<=(b.size:Int) then bif a.1=2 then(Q0 (b.extract 0 r1.toNat) (4:Int)).bind fun r2=>(jw r2.1).bind fun r3=>bif !r3.2 then c (bs []) 0 7 else bif !decide (r3.1=a.2.1) then c (bs []) 0 7 else c r2.1 r1 0 else(jw (b.extract 0 r1.toNat)).bind fun r4=>bif !r4.2 then c (bs []) 0 7 else bif !decide (r4.1=a.2.1) then c (bs []) 0 7 else c (b.extract 0 r1.toNat) r1 0 else none else none else bif(b.size:Int)<4 then c (bs []) 0 2 else bif 4<=(b.size:Int) then bif a.1=2 then(Q0 (b.extract 0 ((4:Int)).toNat) (4:Int)).bind fun r5=>(jw r5.1).bind fun r6=>bif !r6.2 then c (bs []) 0 7 else bif !decide (r6.1=a.2.1) then c (bs []) 0 7 else c r5.1 4 0 else(jw (b.extract 0 ((4:Int)).toNat)).bind fun r7=>bif !r7.2 then c (bs []) 0 7 else bif !decide (r7.1=a.2.1) then c (bs []) 0 7 else c (b.extract 0 ((4:Int)).toNat) 4 0 else none
def tv(a:af)(b:ByteArray):Option JC:=
 Vm a b (fun a0 a1 a2=>some (a0,a1,a2))
def Vl{R:Type}(a:af)(b:ByteArray)(c:aw->aR->Option R)(d:ByteArray->Int->Int->af->aw->aR->aw->aR->Option R):Option R:=
 (mM a).bind fun r1=>bif !decide (r1.1=0) then c (bs [],[],()) (1,(-1:Int),()) else(tv a b).bind fun r2=>bif !decide (r2.2.2=0) then c (bs [],[],()) (r2.2.2,0,()) else(Q5 a.1 b r2.2.1).bind fun r3=>bif !decide (r3.2.2=0) then c (r2.1,[],()) (r3.2.2,1,()) else(FP r3.1 (0:Int)).bind fun r4=>d b r3.2.1 r4 a (bs [],[],()) (0,0,()) (r2.1,[],()) r3.1
def QB{R:Type}(a:ByteArray)(b c:Int)(d:af)(e:aw)(f:aR)(g:aw)(h:aR)(i:ByteArray->Int->aw->aR->aw->Option R)(j:ByteArray->Int->Int->af->aw->aR->aw->aR->Option R)(l:ByteArray->Int->aw->aR->aw->Option R):Option R:=
 bif !decide (c=0) then(fR d c).bind fun r5=>bif !r5.2 then i a b g (9,c,()) g else(Hv d.1 r5.1 a b).bind fun r6=>bif !decide (r6.2.2=0) then i a b g (r6.2.2,c,()) g else bif(List.length g.2.1+List.length ([(c,r6.1,())]:List bj))*24<=140737488355328 then(FP h c).bind fun r7=>j a r6.2.1 r7 d e f (g.1,g.2.1++([(c,r6.1,())]:List bj),()) h else none else l a b e f g
def CS{R:Type}(a:ByteArray)(b:Int)(c:aw)(d:aR)(e:aw)(f:aw->aR->Option R):Option R:=
 f c d
def CT{R:Type}(a:ByteArray)(b:Int)(c:aw)(d:aR)(e:aw)(f:aw->aR->Option R):Option R:=
 bif b<(a.size:Int) then f e (12,129,()) else f e (0,0,())
def Fu:Nat->ByteArray->Int->Int->af->aw->aR->aw->aR->Option (Sum qY qY)
 |0,_,_,_,_,_,_,_,_=>none
 |k+1,v0,v1,v2,v3,v4,v5,v6,v7=>QB v0 v1 v2 v3 v4 v5 v6 v7 (fun a0 a1 a2 a3 a4=>some (.inl (a0,a1,a2,a3,a4))) (fun a0 a1 a2 a3 a4 a5 a6 a7=>Fu k a0 a1 a2 a3 a4 a5 a6 a7) (fun a0 a1 a2 a3 a4=>some (.inr (a0,a1,a2,a3,a4)))
def qQ(a:af)(b:ByteArray):Option (aw×aR):=
 Vl a b (fun a0 a1=>some (a0,a1)) (fun a0 a1 a2 a3 a4 a5 a6 a7=>(Fu ai a0 a1 a2 a3 a4 a5 a6 a7).bind fun e=>Sum.elim (fun(we:qY)=>CS we.1 we.2.1 we.2.2.1 we.2.2.2.1 we.2.2.2.2 (fun a0 a1=>some (a0,a1))) (fun(we:qY)=>CT we.1 we.2.1 we.2.2.1 we.2.2.2.1 we.2.2.2.2 (fun a0 a1=>some (a0,a1))) e)
def VE{R:Type}(a:Int)(b:ByteArray)(c:ByteArray->Bool->Option R):Option R:=
 (n3 b).bind fun r1=>bif !r1 then c (bs []) false else bif a=1 then c b true else bif a=2 then(Q1 b).bind fun r2=>c r2.1 r2.2 else c (bs []) false
def tD(a:Int)(b:ByteArray):Option jL:=
 VE a b (fun a0 a1=>some (a0,a1))
def VD{R:Type}(a b:ByteArray)(c:ByteArray->Option R):Option R:=
 (Sl b a).bind fun r1=>c r1.2
def jW(a b:ByteArray):Option ByteArray:=
 VD a b (fun a0=>some a0)
def VC{R:Type}(a:af)(b:aw)(c:ByteArray->aR->Option R)(d:al->Int->Int->af->aR->ByteArray->Option R):Option R:=
 (qK a b).bind fun r1=>bif !decide (r1.1=0) then c (bs []) r1 else(tD a.1 b.1).bind fun r2=>(jW r2.1 (bs [])).bind fun r3=>(s4 b).bind fun r4=>(Q6 a.1 r4).bind fun r5=>(jW r5.1 r3).bind fun r6=>d b.2.1 ((List.length b.2.1):Int) 0 a (0,0,()) r6
def CW{R:Type}(a:al)(b c:Int)(d:af)(e:aR)(f:ByteArray)(g:al->Int->Int->af->aR->ByteArray->Option R)(h:aR->ByteArray->Option R):Option R:=
 bif c<b then zd c (List.length a) ((fR d (List.getD a c.toNat (0,bs [],())).1).bind fun r7=>(Bw d.1 r7.1 (List.getD a c.toNat (0,bs [],())).2.1).bind fun r8=>(jW r8.1 f).bind fun r9=>g a b (zW zI (c+1)) d e r9) else h e f
def CX{R:Type}(a:aR)(b:ByteArray)(c:ByteArray->aR->Option R):Option R:=
 (z5a b).bind fun kV=>c kV.1 (0,0,())
def QC:Nat->al->Int->Int->af->aR->ByteArray->Option (aR×ByteArray)
 |0,_,_,_,_,_,_=>none
 |k+1,v0,v1,v2,v3,v4,v5=>CW v0 v1 v2 v3 v4 v5 (fun a0 a1 a2 a3 a4 a5=>QC k a0 a1 a2 a3 a4 a5) (fun a0 a1=>some (a0,a1))
def n7(a:af)(b:aw):Option (ByteArray×aR):=
 VC a b (fun a0 a1=>some (a0,a1)) (fun a0 a1 a2 a3 a4 a5=>(QC ai a0 a1 a2 a3 a4 a5).bind fun e=>CX e.1 e.2 (fun a0 a1=>some (a0,a1)))
def UZ{R:Type}(a:aF)(b c:af)(d:aT->aT->Int->Option R):Option R:=
 (fR b a.2.1).bind fun r1=>(fR c a.2.2.1).bind fun r2=>bif a.1=3 then bif a.1=2 then bif !decide (a.2.1=0) then d r1.1 r2.1 9 else bif !decide (a.2.2.1=0) then d r1.1 r2.1 9 else d r1.1 r2.1 0 else bif !decide (a.2.1=0) then d r1.1 r2.1 9 else bif !r2.2 then d r1.1 r2.1 9 else d r1.1 r2.1 0 else bif a.1=2 then bif !r1.2 then d r1.1 r2.1 9 else bif !decide (a.2.2.1=0) then d r1.1 r2.1 9 else d r1.1 r2.1 0 else bif !r1.2 then d r1.1 r2.1 9 else bif !r2.2 then d r1.1 r2.1 9 else d r1.1 r2.1 0
def tj(a:aF)(b c:af):Option (aT×aT×Int):=
 UZ a b c (fun a0 a1 a2=>some (a0,a1,a2))
def U0{R:Type}(a:aT)(b:Bool->Option R):Option R:=
 bif a.2.1=1 then b (decide (a.2.2.1=1)) else b false
def jx(a:aT):Option Bool:=
 U0 a (fun a0=>some a0)
def U2{R:Type}(a:aO)(b c:aT)(d:Int->Option R)(e:aO->Int->Int->aT->aT->Option R):Option R:=
 (HI a).bind fun r1=>bif !decide (r1.1=0) then d 15 else bif((List.length a):Int)=0 then d 15 else e a ((List.length a):Int) 0 b c
def zzg{R:Type}(a:aO)(b c:Int)(d e:aT)(f:Int->Option R)(g:aO->Int->Int->aT->aT->Option R)(h:Option R):Option R:=
 bif c<b then zd c (List.length a) ((bY d (List.getD a c.toNat (bs [],bs [],())).1).bind fun r2=>bif !decide (r2=0) then f r2 else(bY e (List.getD a c.toNat (bs [],bs [],())).2.1).bind fun r3=>bif !decide (r3=0) then f r3 else g a b (zW zI (c+1)) d e) else h
def zzh{R:Type}(a:Int)(b:Int->Option R):Option R:=
 b a
def zzi{R:Type}(a:Int->Option R):Option R:=
 a 0
def Qv:Nat->aO->Int->Int->aT->aT->Option (Sum Int Unit)
 |0,_,_,_,_,_=>none
 |k+1,v0,v1,v2,v3,v4=>zzg v0 v1 v2 v3 v4 (fun a0=>some (.inl a0)) (fun a0 a1 a2 a3 a4=>Qv k a0 a1 a2 a3 a4) (some (.inr ()))
def mL(a:aO)(b c:aT):Option Int:=
 U2 a b c (fun a0=>some a0) (fun a0 a1 a2 a3 a4=>(Qv ai a0 a1 a2 a3 a4).bind fun e=>Sum.elim (fun(we:Int)=>zzh we (fun a0=>some a0)) (fun(we:Unit)=>zzi (fun a0=>some a0)) e)
def UY{R:Type}(a:aF)(b c:af)(d:Int->Option R):Option R:=
 bif a.1<1 then d 1 else bif 5<a.1 then d 1 else(tj a b c).bind fun r1=>bif !decide (r1.2.2=0) then d r1.2.2 else bif !decide (a.2.2.2.1=bs []) then bif !decide (a.1=3) then d 3 else bif 0<((List.length a.2.2.2.2.1):Int) then bif !decide (a.1=5) then d 3 else bif a.1=1 then(lS r1.2.1 r1.1).bind fun r2=>bif !r2 then d 6 else d 0 else bif a.1=3 then(bY r1.2.1 a.2.2.2.1).bind fun r3=>d r3 else bif a.1=4 then(jx r1.1).bind fun r4=>bif !r4 then d 6 else(jx r1.2.1).bind fun r5=>bif !r5 then d 6 else d 0 else bif a.1=5 then(mL a.2.2.2.2.1 r1.1 r1.2.1).bind fun r6=>d r6 else d 0 else bif a.1=1 then(lS r1.2.1 r1.1).bind fun r7=>bif !r7 then d 6 else d 0 else bif a.1=3 then(bY r1.2.1 a.2.2.2.1).bind fun r8=>d r8 else bif a.1=4 then(jx r1.1).bind fun r9=>bif !r9 then d 6 else(jx r1.2.1).bind fun kV=>bif !kV then d 6 else d 0 else bif a.1=5 then(mL a.2.2.2.2.1 r1.1 r1.2.1).bind fun lF=>d lF else d 0 else bif 0<((List.length a.2.2.2.2.1):Int) then bif !decide (a.1=5) then d 3 else bif a.1=1 then(lS r1.2.1 r1.1).bind fun qu=>bif !qu then d 6 else d 0 else bif a.1=3 then(bY r1.2.1 a.2.2.2.1).bind fun nw=>d nw else bif a.1=4 then(jx r1.1).bind fun vq=>bif !vq then d 6 else(jx r1.2.1).bind fun sf=>bif !sf then d 6 else d 0 else bif a.1=5 then(mL a.2.2.2.2.1 r1.1 r1.2.1).bind fun xK=>d xK else d 0 else bif a.1=1 then(lS r1.2.1 r1.1).bind fun CI=>bif !CI then d 6 else d 0 else bif a.1=3 then(bY r1.2.1 a.2.2.2.1).bind fun CJ=>d CJ else bif a.1=4 then(jx r1.1).bind fun uH=>bif !uH then d 6 else(jx r1.2.1).bind fun CK=>bif !CK then d 6 else d 0 else bif a.1=5 then(mL a.2.2.2.2.1 r1.1 r1.2.1).bind fun xL=>d xL else d 0
def n5(a:aF)(b c:af):Option Int:=
 UY a b c (fun a0=>some a0)
def UX{R:Type}(a:aF)(b:af)(c:ByteArray)(d:bj->Int->Option R):Option R:=
 bif a.1=1 then d (a.2.2.1,c,()) 0 else bif a.1=2 then d (0,bs [],()) 0 else bif a.1=3 then d (a.2.2.1,a.2.2.2.1,()) 0 else bif a.1=4 then(fR b a.2.2.1).bind fun r1=>bif !r1.2 then d (0,bs [],()) 9 else(HJ c r1.1.2.2.2.1).bind fun r2=>bif !r2.2 then d (0,bs [],()) 5 else d (a.2.2.1,r2.1,()) 0 else bif a.1=5 then(HH a.2.2.2.2.1 c).bind fun r3=>bif !r3.2 then d (0,bs [],()) 15 else d (a.2.2.1,r3.1,()) 0 else d (0,bs [],()) 1
def n4(a:aF)(b:af)(c:ByteArray):Option (bj×Int):=
 UX a b c (fun a0 a1=>some (a0,a1))
def VU{R:Type}(a:dG)(b c:af)(d:Bool->Option R):Option R:=
 (jw a.1).bind fun r1=>(jw a.2.1).bind fun r2=>bif r1.2 then bif r2.2 then bif r1.1=b.2.1 then bif r2.1=c.2.1 then(n0 a.1).bind fun r3=>(n0 a.2.1).bind fun r4=>d (r3==r4) else d false else d false else d false else d false
def n9(a:dG)(b c:af):Option Bool:=
 VU a b c (fun a0=>some a0)
def VI{R:Type}(a:ay)(b c:af)(d:oe->Int->Int->ay->af->af->Option R):Option R:=
 d ([b,c]:List af) ((List.length ([b,c]:List af)):Int) 0 a b c
def VJ{R:Type}(a:oe)(b c:Int)(d:ay)(e f:af)(g:Int->Int->Int->ay->af->af->Option R)(h:oe->Int->Int->ay->af->af->Option R)(i:ay->af->af->Option R):Option R:=
 bif c<b then zd c (List.length a) ((mM (List.getD a c.toNat (0,0,[],()))).bind fun r1=>bif !decide (r1.1=0) then g 1 1 c d e f else h a b (zW zI (c+1)) d e f) else i d e f
def C2{R:Type}(a b c:Int)(d:ay)(e f:af)(g:Int->Int->Int->Option R):Option R:=
 g a b c
def VK{R:Type}(a:ay)(b c:af)(d:Int->Int->Int->Option R)(e:aO->Int->Int->ay->af->af->io->Option R):Option R:=
 bif 256<((List.length a.1):Int) then d 5 2 256 else e a.1 ((List.length a.1):Int) 0 a b c []
def C3{R:Type}(a:aO)(b c:Int)(d:ay)(e f:af)(g:io)(h:Int->Int->Int->ay->af->af->Option R)(i:aO->Int->Int->ay->af->af->io->Option R)(j:ay->af->af->Option R):Option R:=
 bif c<b then zd c (List.length a) ((n9 (List.getD a c.toNat (bs [],bs [],())) e f).bind fun r2=>bif !r2 then h (7:Int) (2:Int) c d e f else bif fe (gd .str) false g (List.getD a c.toNat (bs [],bs [],())).1 then h (10:Int) (2:Int) c d e f else bif ff (gd .str) g (List.getD a c.toNat (bs [],bs [],())).1 then none else i a b (zW zI (c+(1:Int))) d e f (g++ [((List.getD a c.toNat (bs [],bs [],())).1,true)])) else j d e f
def C4{R:Type}(a b c:Int)(d:ay)(e f:af)(g:Int->Int->Int->Option R):Option R:=
 g a b c
def VL{R:Type}(a:ay)(b c:af)(d:Int->Int->Int->Option R)(e:bT->Int->Int->af->af->aR->aR->Option R):Option R:=
 bif 256<((List.length a.2.1):Int) then d 5 3 256 else e a.2.1 ((List.length a.2.1):Int) 0 b c (0,0,()) (0,0,())
def C5{R:Type}(a:bT)(b c:Int)(d e:af)(f g:aR)(h:Int->Int->Int->Option R)(i:bT->Int->Int->af->af->aR->aR->Option R)(j:Option R):Option R:=
 bif c<b then zd c (List.length a) ((n5 (List.getD a c.toNat (0,0,0,bs [],[],())) d e).bind fun r3=>bif !decide (r3=0) then h r3 3 c else(vf ([(List.getD a c.toNat (0,0,0,bs [],[],())).2.1]:List Int)).bind fun r4=>(vf ([(List.getD a c.toNat (0,0,0,bs [],[],())).2.2.1]:List Int)).bind fun r5=>(rV f r4).bind fun r6=>bif !(decide (r6.1=0)&&(decide (r6.2.1=0)&&true)) then h 10 3 c else(rV g r5).bind fun r7=>bif !(decide (r7.1=0)&&(decide (r7.2.1=0)&&true)) then h 10 3 c else(tF f r4).bind fun r8=>(tF g r5).bind fun r9=>i a b (zW zI (c+1)) d e r8 r9) else j
def C6{R:Type}(a b c:Int)(d:Int->Int->Int->Option R):Option R:=
 d a b c
def C7{R:Type}(a:Int->Int->Int->Option R):Option R:=
 a 0 0 0
def G1:Nat->oe->Int->Int->ay->af->af->Option (Sum lY lX)
 |0,_,_,_,_,_,_=>none
 |k+1,v0,v1,v2,v3,v4,v5=>VJ v0 v1 v2 v3 v4 v5 (fun a0 a1 a2 a3 a4 a5=>some (.inl (a0,a1,a2,a3,a4,a5))) (fun a0 a1 a2 a3 a4 a5=>G1 k a0 a1 a2 a3 a4 a5) (fun a0 a1 a2=>some (.inr (a0,a1,a2)))
def G2:Nat->aO->Int->Int->ay->af->af->io->Option (Sum lY lX)
 |0,_,_,_,_,_,_,_=>none
 |k+1,v0,v1,v2,v3,v4,v5,v6=>C3 v0 v1 v2 v3 v4 v5 v6 (fun a0 a1 a2 a3 a4 a5=>some (.inl (a0,a1,a2,a3,a4,a5))) (fun a0 a1 a2 a3 a4 a5 a6=>G2 k a0 a1 a2 a3 a4 a5 a6) (fun a0 a1 a2=>some (.inr (a0,a1,a2)))
def QD:Nat->bT->Int->Int->af->af->aR->aR->Option (Sum jy Unit)
 |0,_,_,_,_,_,_,_=>none
 |k+1,v0,v1,v2,v3,v4,v5,v6=>C5 v0 v1 v2 v3 v4 v5 v6 (fun a0 a1 a2=>some (.inl (a0,a1,a2))) (fun a0 a1 a2 a3 a4 a5 a6=>QD k a0 a1 a2 a3 a4 a5 a6) (some (.inr ()))
def qR(a:ay)(b c:af):Option jy:=
 VI a b c (fun a0 a1 a2 a3 a4 a5=>(G1 ai a0 a1 a2 a3 a4 a5).bind fun e=>Sum.elim (fun(we:lY)=>C2 we.1 we.2.1 we.2.2.1 we.2.2.2.1 we.2.2.2.2.1 we.2.2.2.2.2 (fun a0 a1 a2=>some (a0,a1,a2))) (fun(we:lX)=>VK we.1 we.2.1 we.2.2 (fun a0 a1 a2=>some (a0,a1,a2)) (fun a0 a1 a2 a3 a4 a5 a6=>(G2 ai a0 a1 a2 a3 a4 a5 a6).bind fun e=>Sum.elim (fun(we:lY)=>C4 we.1 we.2.1 we.2.2.1 we.2.2.2.1 we.2.2.2.2.1 we.2.2.2.2.2 (fun a0 a1 a2=>some (a0,a1,a2))) (fun(we:lX)=>VL we.1 we.2.1 we.2.2 (fun a0 a1 a2=>some (a0,a1,a2)) (fun a0 a1 a2 a3 a4 a5 a6=>(QD ai a0 a1 a2 a3 a4 a5 a6).bind fun e=>Sum.elim (fun(we:jy)=>C6 we.1 we.2.1 we.2.2 (fun a0 a1 a2=>some (a0,a1,a2))) (fun(we:Unit)=>C7 (fun a0 a1 a2=>some (a0,a1,a2))) e)) e)) e)
def VT{R:Type}(a:ay)(b:ByteArray)(c:ByteArray->aO->Int->Int->Option R):Option R:=
 c b a.1 ((List.length a.1):Int) 0
def Di{R:Type}(a:ByteArray)(b:aO)(c d:Int)(e:ByteArray->Bool->Option R)(f:ByteArray->aO->Int->Int->Option R)(g:Option R):Option R:=
 bif d<c then zd d (List.length b) (bif(List.getD b d.toNat (bs [],bs [],())).1=a then e (List.getD b d.toNat (bs [],bs [],())).2.1 true else f a b c (zW zI (d+1))) else g
def Dj{R:Type}(a:ByteArray)(b:Bool)(c:ByteArray->Bool->Option R):Option R:=
 c a b
def Dk{R:Type}(a:ByteArray->Bool->Option R):Option R:=
 a (bs []) false
def QH:Nat->ByteArray->aO->Int->Int->Option (Sum jL Unit)
 |0,_,_,_,_=>none
 |k+1,v0,v1,v2,v3=>Di v0 v1 v2 v3 (fun a0 a1=>some (.inl (a0,a1))) (fun a0 a1 a2 a3=>QH k a0 a1 a2 a3) (some (.inr ()))
def tE(a:ay)(b:ByteArray):Option jL:=
 VT a b (fun a0 a1 a2 a3=>(QH ai a0 a1 a2 a3).bind fun e=>Sum.elim (fun(we:jL)=>Dj we.1 we.2 (fun a0 a1=>some (a0,a1))) (fun(we:Unit)=>Dk (fun a0 a1=>some (a0,a1))) e)
def VR{R:Type}(a:ay)(b:Int)(c:Int->bT->Int->Int->aF->Option R):Option R:=
 c b a.2.1 ((List.length a.2.1):Int) 0 (0,0,0,bs [],[],())
def De{R:Type}(a:Int)(b:bT)(c d:Int)(e:aF)(f:Bool->aF->Option R)(g:Int->bT->Int->Int->aF->Option R)(h:aF->Option R):Option R:=
 bif d<c then zd d (List.length b) (bif(List.getD b d.toNat (0,0,0,bs [],[],())).2.1=a then f true (List.getD b d.toNat (0,0,0,bs [],[],())) else g a b c (zW zI (d+1)) e) else h e
def Df{R:Type}(a:Bool)(b:aF)(c:aF->Bool->Option R):Option R:=
 c b a
def Dg{R:Type}(a:aF)(b:aF->Bool->Option R):Option R:=
 b (0,0,0,bs [],[],()) false
def QG:Nat->Int->bT->Int->Int->aF->Option (Sum (Bool×aF) aF)
 |0,_,_,_,_,_=>none
 |k+1,v0,v1,v2,v3,v4=>De v0 v1 v2 v3 v4 (fun a0 a1=>some (.inl (a0,a1))) (fun a0 a1 a2 a3 a4=>QG k a0 a1 a2 a3 a4) (fun a0=>some (.inr a0))
def n8(a:ay)(b:Int):Option (aF×Bool):=
 VR a b (fun a0 a1 a2 a3 a4=>(QG ai a0 a1 a2 a3 a4).bind fun e=>Sum.elim (fun(we:(Bool×aF))=>Df we.1 we.2 (fun a0 a1=>some (a0,a1))) (fun(we:aF)=>Dg we (fun a0 a1=>some (a0,a1))) e)
def VO{R:Type}(a:ay)(b c:af)(d:aw)(e:aw->aR->Option R)(f:bT->Int->Int->ay->af->aw->aw->aR->aw->Option R):Option R:=
 (qR a b c).bind fun r1=>bif !decide (r1.1=0) then e (bs [],[],()) (1,(-1:Int),()) else(qK b d).bind fun r2=>bif !decide (r2.1=0) then e (bs [],[],()) r2 else(tE a d.1).bind fun r3=>bif !r3.2 then e (bs [],[],()) (7,0,()) else f a.2.1 ((List.length a.2.1):Int) 0 a c d (bs [],[],()) (0,0,()) (r3.1,[],())
def C9{R:Type}(a:bT)(b c:Int)(d:ay)(e:af)(f g:aw)(h:aR)(i:aw)(j:bT->Int->Int->ay->af->aw->aw->aR->aw->Option R)(l:ay->af->aw->aw->aR->aw->Option R):Option R:=
 bif c<b then zd c (List.length a) (bif(List.getD a c.toNat (0,0,0,bs [],[],())).1=3 then(ij i (List.getD a c.toNat (0,0,0,bs [],[],())).2.2.1 (List.getD a c.toNat (0,0,0,bs [],[],())).2.2.2.1).bind fun r4=>j a b (zW zI (c+1)) d e f g h r4 else j a b (zW zI (c+1)) d e f g h i) else l d e f g h i
def VP{R:Type}(a:ay)(b:af)(c d:aw)(e:aR)(f:aw)(g:al->Int->Int->ay->af->aw->aR->aw->Option R):Option R:=
 g c.2.1 ((List.length c.2.1):Int) 0 a b d e f
def Da{R:Type}(a:al)(b c:Int)(d:ay)(e:af)(f:aw)(g:aR)(h:aw)(i:aw->aR->aw->Option R)(j:al->Int->Int->ay->af->aw->aR->aw->Option R)(l:aw->aR->aw->Option R):Option R:=
 bif c<b then zd c (List.length a) ((n8 d (List.getD a c.toNat (0,bs [],())).1).bind fun r5=>bif !r5.2 then i (bs [],[],()) (9,(List.getD a c.toNat (0,bs [],())).1,()) h else(n4 r5.1 e (List.getD a c.toNat (0,bs [],())).2.1).bind fun r6=>bif !decide (r6.2=0) then i (bs [],[],()) (r6.2,(List.getD a c.toNat (0,bs [],())).1,()) h else bif !decide (r6.1.1=0) then(ij h r6.1.1 r6.1.2.1).bind fun r7=>j a b (zW zI (c+1)) d e f g r7 else j a b (zW zI (c+1)) d e f g h) else l f g h
def Db{R:Type}(a:aw)(b:aR)(c:aw)(d:aw->aR->Option R):Option R:=
 d a b
def Dc{R:Type}(a:aw)(b:aR)(c:aw)(d:aw->aR->Option R):Option R:=
 d c (0,0,())
def QE:Nat->bT->Int->Int->ay->af->aw->aw->aR->aw->Option (ay×af×aw×aw×aR×aw)
 |0,_,_,_,_,_,_,_,_,_=>none
 |k+1,v0,v1,v2,v3,v4,v5,v6,v7,v8=>C9 v0 v1 v2 v3 v4 v5 v6 v7 v8 (fun a0 a1 a2 a3 a4 a5 a6 a7 a8=>QE k a0 a1 a2 a3 a4 a5 a6 a7 a8) (fun a0 a1 a2 a3 a4 a5=>some (a0,a1,a2,a3,a4,a5))
def QF:Nat->al->Int->Int->ay->af->aw->aR->aw->Option (Sum qX qX)
 |0,_,_,_,_,_,_,_,_=>none
 |k+1,v0,v1,v2,v3,v4,v5,v6,v7=>Da v0 v1 v2 v3 v4 v5 v6 v7 (fun a0 a1 a2=>some (.inl (a0,a1,a2))) (fun a0 a1 a2 a3 a4 a5 a6 a7=>QF k a0 a1 a2 a3 a4 a5 a6 a7) (fun a0 a1 a2=>some (.inr (a0,a1,a2)))
def qS(a:ay)(b c:af)(d:aw):Option (aw×aR):=
 VO a b c d (fun a0 a1=>some (a0,a1)) (fun a0 a1 a2 a3 a4 a5 a6 a7 a8=>(QE ai a0 a1 a2 a3 a4 a5 a6 a7 a8).bind fun e=>VP e.1 e.2.1 e.2.2.1 e.2.2.2.1 e.2.2.2.2.1 e.2.2.2.2.2 (fun a0 a1 a2 a3 a4 a5 a6 a7=>(QF ai a0 a1 a2 a3 a4 a5 a6 a7).bind fun e=>Sum.elim (fun(we:qX)=>Db we.1 we.2.1 we.2.2 (fun a0 a1=>some (a0,a1))) (fun(we:qX)=>Dc we.1 we.2.1 we.2.2 (fun a0 a1=>some (a0,a1))) e))
def UT{R:Type}(a:aq)(b:Int->Int->Int->Option R)(c:mU->Int->aq->Option R):Option R:=
 bif a.2.1<1 then b 5 2 0 else bif 65535<a.2.1 then b 5 2 0 else c a.1 0 a
def GV{R:Type}(a:mU)(b:Int)(c:aq)(d:Int->Int->Int->Option R)(e:mU->Int->aq->Option R)(f:Option R):Option R:=
 bif b<2 then zd b 2 ((td (List.getD a b.toNat ((0,0,[],()),([],[],()),[],[],()))).bind fun r1=>bif !decide (r1.1=0) then d r1.1 b 1 else zd (zW zI (1-b)) 2 ((qR (List.getD a b.toNat ((0,0,[],()),([],[],()),[],[],())).2.1 (List.getD a b.toNat ((0,0,[],()),([],[],()),[],[],())).1 (List.getD c.1 (zW zI (1-b)).toNat ((0,0,[],()),([],[],()),[],[],())).1).bind fun r2=>bif !decide (r2.1=0) then d r2.1 b 2 else e a (zW zI (b+1)) c)) else f
def zzd{R:Type}(a b c:Int)(d:Int->Int->Int->Option R):Option R:=
 d a b c
def zze{R:Type}(a:Int->Int->Int->Option R):Option R:=
 a 0 0 0
def Ft:Nat->mU->Int->aq->Option (Sum jy Unit)
 |0,_,_,_=>none
 |k+1,v0,v1,v2=>GV v0 v1 v2 (fun a0 a1 a2=>some (.inl (a0,a1,a2))) (fun a0 a1 a2=>Ft k a0 a1 a2) (some (.inr ()))
def qP(a:aq):Option jy:=
 UT a (fun a0 a1 a2=>some (a0,a1,a2)) (fun a0 a1 a2=>(Ft ai a0 a1 a2).bind fun e=>Sum.elim (fun(we:jy)=>zzd we.1 we.2.1 we.2.2 (fun a0 a1 a2=>some (a0,a1,a2))) (fun(we:Unit)=>zze (fun a0 a1 a2=>some (a0,a1,a2))) e)
def UW{R:Type}(a:aw)(b:aR)(c:au)(d:aq)(e:Int->ByteArray->Option R):Option R:=
 (tc c a b).bind fun r1=>bif !r1.2 then e 3 (bs []) else(n7 c.1 r1.1).bind fun r2=>bif r2.1=bs [] then e 3 (bs []) else bif d.2.1<(r2.1.size:Int) then e 3 (bs []) else e 2 r2.1
def kK(a:aw)(b:aR)(c:au)(d:aq):Option Zt3:=
 UW a b c d (fun a0 a1=>some (a0,a1))
def UU{R:Type}(a:aq)(b:Int)(c:ByteArray)(d:Int->ByteArray->Option R):Option R:=
 (qP a).bind fun r1=>bif !decide (r1.1=0) then d 0 (bs []) else bif b<0 then d 0 (bs []) else bif 1<b then d 0 (bs []) else zd b 2 (zd (zW zI (1-b)) 2 ((qQ (List.getD a.1 b.toNat ((0,0,[],()),([],[],()),[],[],())).1 c).bind fun r2=>bif !decide (r2.2.1=0) then(kK r2.1 r2.2 (List.getD a.1 b.toNat ((0,0,[],()),([],[],()),[],[],())) a).bind fun r3=>d r3.1 r3.2 else(qS (List.getD a.1 b.toNat ((0,0,[],()),([],[],()),[],[],())).2.1 (List.getD a.1 b.toNat ((0,0,[],()),([],[],()),[],[],())).1 (List.getD a.1 (zW zI (1-b)).toNat ((0,0,[],()),([],[],()),[],[],())).1 r2.1).bind fun r4=>bif !decide (r4.2.1=0) then(kK r2.1 r4.2 (List.getD a.1 b.toNat ((0,0,[],()),([],[],()),[],[],())) a).bind fun r5=>d r5.1 r5.2 else(n7 (List.getD a.1 (zW zI (1-b)).toNat ((0,0,[],()),([],[],()),[],[],())).1 r4.1).bind fun r6=>bif a.2.1<(r6.1.size:Int) then(kK r2.1 (5,129,()) (List.getD a.1 b.toNat ((0,0,[],()),([],[],()),[],[],())) a).bind fun r7=>d r7.1 r7.2 else d 1 r6.1))
def ti(a:aq)(b:Int)(c:ByteArray):Option Zt3:=
 UU a b c (fun a0 a1=>some (a0,a1))
def XI{R:Type}(a:au)(b:bT->bT->Int->Int->au->au->Option R):Option R:=
 bif List.length a.1.2.2.1*40<=140737488355328 then bif List.length a.2.1.1*32<=140737488355328 then bif 0<=((List.length a.2.1.2.1):Int) then bif((List.length a.2.1.2.1):Int)*64<=140737488355328 then b [] a.2.1.2.1 ((List.length a.2.1.2.1):Int) 0 ((a.1.1,a.1.2.1,a.1.2.2.1,()),(a.2.1.1,a.2.1.2.1,()),a.2.2.1,a.2.2.2.1,()) ((0,0,[],()),([],[],()),[],[],()) else none else none else none else none
def D4{R:Type}(a b:bT)(c d:Int)(e f:au)(g:bT->bT->Int->Int->au->au->Option R)(h:bT->au->au->Option R):Option R:=
 bif d<c then zd d (List.length b) (bif List.length (List.getD b d.toNat ((0:Int),(0:Int),(0:Int),bs [],([]:List dG),())).2.2.2.2.1*32<=140737488355328 then bif(List.length a+List.length ([((List.getD b d.toNat ((0:Int),(0:Int),(0:Int),bs [],([]:List dG),())).1,(List.getD b d.toNat ((0:Int),(0:Int),(0:Int),bs [],([]:List dG),())).2.1,(List.getD b d.toNat ((0:Int),(0:Int),(0:Int),bs [],([]:List dG),())).2.2.1,(List.getD b d.toNat ((0:Int),(0:Int),(0:Int),bs [],([]:List dG),())).2.2.2.1,(List.getD b d.toNat ((0:Int),(0:Int),(0:Int),bs [],([]:List dG),())).2.2.2.2.1,())]:List aF))*64<=140737488355328 then g (a++([((List.getD b d.toNat (0,0,0,bs [],[],())).1,(List.getD b d.toNat (0,0,0,bs [],[],())).2.1,(List.getD b d.toNat (0,0,0,bs [],[],())).2.2.1,(List.getD b d.toNat (0,0,0,bs [],[],())).2.2.2.1,(List.getD b d.toNat (0,0,0,bs [],[],())).2.2.2.2.1,())]:List aF)) b c (zW zI (d+1)) e f else none else none) else h a e f
def XJ{R:Type}(a:bT)(b c:au)(d:au->Option R):Option R:=
 bif List.length b.2.2.1*8<=140737488355328 then bif List.length b.2.2.2.1*24<=140737488355328 then d (b.1,(b.2.1.1,a,()),b.2.2.1,b.2.2.2.1,()) else none else none
def Rg:Nat->bT->bT->Int->Int->au->au->Option (bT×au×au)
 |0,_,_,_,_,_,_=>none
 |k+1,v0,v1,v2,v3,v4,v5=>D4 v0 v1 v2 v3 v4 v5 (fun a0 a1 a2 a3 a4 a5=>Rg k a0 a1 a2 a3 a4 a5) (fun a0 a1 a2=>some (a0,a1,a2))
def H9(a:au):Option au:=
 XI a (fun a0 a1 a2 a3 a4 a5=>(Rg ai a0 a1 a2 a3 a4 a5).bind fun e=>XJ e.1 e.2.1 e.2.2 (fun a0=>some a0))
def XF{R:Type}(a:aq)(b:Int->Option R)(c:Int->aq->(aq×(Option ag×Option ag)×Int)->Option R):Option R:=
 (qP a).bind fun r1=>bif !decide (r1.1=0) then b 1 else c 0 a (a,((none,none),0))
def Hd{R:Type}(a:Int)(b:aq)(c:(aq×(Option ag×Option ag)×Int))(d:Int->aq->(aq×(Option ag×Option ag)×Int)->Option R)(e:(aq×(Option ag×Option ag)×Int)->Option R):Option R:=
 bif a<2 then zd a 2 ((H9 (List.getD b.1 a.toNat ((0,0,[],()),([],[],()),[],[],()))).bind fun r2=>zd a 2 ((HZ b.2.1).bind fun r3=>Sum.elim (fun(sj:Int)=>zd a 2 (d (zW zI (a+1)) b ((List.set c.1.1 a.toNat r2,c.1.2.1,()),(fL a.toNat none c.2.1,c.2.2)))) (fun(sj:tK)=>zd a 2 (d (zW zI (a+1)) b ((List.set c.1.1 a.toNat r2,c.1.2.1,()),(fL a.toNat (some sj.2) c.2.1,c.2.2)))) r3)) else e c
def D3{R:Type}(a:(aq×(Option ag×Option ag)×Int))(b:Int->(aq×(Option ag×Option ag)×Int)->Option R):Option R:=
 b 0 a
def FH:Nat->Int->aq->(aq×(Option ag×Option ag)×Int)->Option (aq×(Option ag×Option ag)×Int)
 |0,_,_,_=>none
 |k+1,v0,v1,v2=>Hd v0 v1 v2 (fun a0 a1 a2=>FH k a0 a1 a2) (fun a0=>some a0)
def yw(a:aq):Option (Sum Int (Int×(aq×(Option ag×Option ag)×Int))):=
 XF a (fun a0=>some (.inl a0)) (fun a0 a1 a2=>(FH ai a0 a1 a2).bind fun e=>D3 e (fun a0 a1=>some (.inr (a0,a1))))
def XG{R:Type}(a:Int)(b:Bool->Option R):Option R:=
 bif a=0 then b true else b (decide (a=1))
def BG(a:Int):Option Bool:=
 XG a (fun a0=>some a0)
def XD{R:Type}(a:(aq×(Option ag×Option ag)×Int))(b:Int)(c:ByteArray)(d:lW->(aq×(Option ag×Option ag)×Int)->Option R):Option R:=
 (ti a.1 b c).bind fun r1=>bif r1.1=3 then d (b,r1.1,bs [],zW zI (a.2.2+1),()) (a.1,(a.2.1,zW zI (a.2.2+1))) else bif r1.1=1 then(BE r1.2).bind fun r2=>d (zW zI (1-b),r1.1,r2.1,a.2.2,()) a else(BE r1.2).bind fun r3=>d (b,r1.1,r3.1,a.2.2,()) a
def FV(a:(aq×(Option ag×Option ag)×Int))(b:Int)(c:ByteArray):Option (lW×(aq×(Option ag×Option ag)×Int)):=
 XD a b c (fun a0 a1=>some (a0,a1))
def XA{R:Type}(a:(aq×(Option ag×Option ag)×Int))(b:bj)(c:bZ->(aq×(Option ag×Option ag)×Int)->Option R)(d:bZ->Bool->(List ByteArray)->Int->Int->(aq×(Option ag×Option ag)×Int)->bj->Option R):Option R:=
 (BG b.1).bind fun r1=>bif !r1 then c [] a else zd b.1 2 ((getM b.1.toNat a.2.1).bind fun m2=>(BD m2 b.2.1).bind fun r3=>d [] r3.2.1 r3.1 ((List.length r3.1):Int) 0 (a.1,(fL b.1.toNat (some r3.2.2) a.2.1,a.2.2)) b)
def DZ{R:Type}(a:bZ)(b:Bool)(c:(List ByteArray))(d e:Int)(f:(aq×(Option ag×Option ag)×Int))(g:bj)(h:bZ->Bool->(List ByteArray)->Int->Int->(aq×(Option ag×Option ag)×Int)->bj->Option R)(i:bZ->Bool->(aq×(Option ag×Option ag)×Int)->bj->Option R):Option R:=
 bif e<d then zd e (List.length c) ((FV f g.1 (List.getD c e.toNat (bs []))).bind fun r4=>bif(List.length a+List.length ([r4.1]:List lW))*40<=140737488355328 then h (a++([r4.1]:List lW)) b c d (zW zI (e+1)) r4.2 g else none) else i a b f g
def Re{R:Type}(a:bZ)(b:Bool)(c:(aq×(Option ag×Option ag)×Int))(d:bj)(e:bZ->(aq×(Option ag×Option ag)×Int)->Option R):Option R:=
 bif b then bif(List.length a+List.length ([(d.1,(4:Int),bs [],c.2.2,())]:List lW))*40<=140737488355328 then e (a++([(d.1,4,bs [],c.2.2,())]:List lW)) c else none else e a c
def Hc:Nat->bZ->Bool->(List ByteArray)->Int->Int->(aq×(Option ag×Option ag)×Int)->bj->Option (bZ×Bool×(aq×(Option ag×Option ag)×Int)×bj)
 |0,_,_,_,_,_,_,_=>none
 |k+1,v0,v1,v2,v3,v4,v5,v6=>DZ v0 v1 v2 v3 v4 v5 v6 (fun a0 a1 a2 a3 a4 a5 a6=>Hc k a0 a1 a2 a3 a4 a5 a6) (fun a0 a1 a2 a3=>some (a0,a1,a2,a3))
def FU(a:(aq×(Option ag×Option ag)×Int))(b:bj):Option (bZ×(aq×(Option ag×Option ag)×Int)):=
 XA a b (fun a0 a1=>some (a0,a1)) (fun a0 a1 a2 a3 a4 a5 a6=>(Hc ai a0 a1 a2 a3 a4 a5 a6).bind fun e=>Re e.1 e.2.1 e.2.2.1 e.2.2.2 (fun a0 a1=>some (a0,a1)))
def XC{R:Type}(a:(aq×(Option ag×Option ag)×Int))(b:al)(c:bZ->al->Int->Int->(aq×(Option ag×Option ag)×Int)->Option R):Option R:=
 c [] b ((List.length b):Int) 0 a
def D1{R:Type}(a:bZ)(b:al)(c d:Int)(e:(aq×(Option ag×Option ag)×Int))(f:bZ->al->Int->Int->(aq×(Option ag×Option ag)×Int)->Option R)(g:bZ->(aq×(Option ag×Option ag)×Int)->Option R):Option R:=
 bif d<c then zd d (List.length b) ((FU e (List.getD b d.toNat (0,bs [],()))).bind fun r1=>bif(List.length a+List.length r1.1)*40<=140737488355328 then f (a++r1.1) b c (zW zI (d+1)) r1.2 else none) else g a e
def D2{R:Type}(a:bZ)(b:(aq×(Option ag×Option ag)×Int))(c:bZ->(aq×(Option ag×Option ag)×Int)->Option R):Option R:=
 c a b
def Rf:Nat->bZ->al->Int->Int->(aq×(Option ag×Option ag)×Int)->Option (bZ×(aq×(Option ag×Option ag)×Int))
 |0,_,_,_,_,_=>none
 |k+1,v0,v1,v2,v3,v4=>D1 v0 v1 v2 v3 v4 (fun a0 a1 a2 a3 a4=>Rf k a0 a1 a2 a3 a4) (fun a0 a1=>some (a0,a1))
def BF(a:(aq×(Option ag×Option ag)×Int))(b:al):Option (bZ×(aq×(Option ag×Option ag)×Int)):=
 XC a b (fun a0 a1 a2 a3 a4=>(Rf ai a0 a1 a2 a3 a4).bind fun e=>D2 e.1 e.2 (fun a0 a1=>some (a0,a1)))
def DY{R:Type}(a:(aq×(Option ag×Option ag)×Int))(b:Int->(aq×(Option ag×Option ag)×Int)->Option R):Option R:=
 b a.2.2 a
def FT(a:(aq×(Option ag×Option ag)×Int)):Option (Int×(aq×(Option ag×Option ag)×Int)):=
 DY a (fun a0 a1=>some (a0,a1))
def DX{R:Type}(a:(aq×(Option ag×Option ag)×Int))(b:Int)(c:Bool->(aq×(Option ag×Option ag)×Int)->Option R):Option R:=
 (BG b).bind fun r1=>bif r1 then zd b 2 ((getM b.toNat a.2.1).bind fun m2=>(YB m2).bind fun r3=>c r3.1 (a.1,(fL b.toNat (some r3.2) a.2.1,a.2.2))) else c false a
def FR(a:(aq×(Option ag×Option ag)×Int))(b:Int):Option (Bool×(aq×(Option ag×Option ag)×Int)):=
 DX a b (fun a0 a1=>some (a0,a1))
def D0{R:Type}(a:(aq×(Option ag×Option ag)×Int))(b:Int)(c:Int->(aq×(Option ag×Option ag)×Int)->Option R):Option R:=
 (BG b).bind fun r1=>bif !r1 then c 0 a else zd b 2 ((getM b.toNat a.2.1).bind fun m2=>(YC m2).bind fun r3=>c r3.1 (a.1,(fL b.toNat (some r3.2) a.2.1,a.2.2)))
def RH(a:(aq×(Option ag×Option ag)×Int))(b:Int):Option (Int×(aq×(Option ag×Option ag)×Int)):=
 D0 a b (fun a0 a1=>some (a0,a1))
def Ez{R:Type}(a:(List Int)->Option R):Option R:=
 a ([2,3,4,7,11,12,14,23,32,35,37,38,41,42,49,52,55,64,70,102,128]:List Int)
def YG:Option (List Int):=
 Ez (fun a0=>some a0)
def ED{R:Type}(a:wZ->Option R):Option R:=
 a ([([2,1,2,12,19,1,2,12,19]:List Int),([3,1,1,6,6,1,1,6,6]:List Int),([4,1,1,12,12,1,1,12,12]:List Int),([7,1,1,10,10,1,1,10,10]:List Int),([11,1,1,6,6,1,1,6,6]:List Int),([12,1,1,6,6,1,1,12,12]:List Int),([13,1,1,4,4,0,0,0,0]:List Int),([14,1,1,4,4,1,1,4,4]:List Int),([18,1,1,4,4,0,0,0,0]:List Int),([22,1,1,3,3,3,1,12,12]:List Int),([23,1,1,3,3,1,1,3,3]:List Int),([26,0,0,0,0,1,1,4,4]:List Int),([32,1,2,1,11,1,2,1,11]:List Int),([35,4,2,1,37,4,2,1,37]:List Int),([37,3,1,12,12,3,1,12,12]:List Int),([38,3,1,6,6,3,1,6,6]:List Int),([39,3,1,2,2,1,1,3,3]:List Int),([41,4,1,8,8,4,1,8,8]:List Int),([42,4,1,15,15,4,1,15,15]:List Int),([43,4,1,40,40,4,2,1,99]:List Int),([48,4,3,1,999,4,3,1,999]:List Int),([49,1,1,3,3,1,1,3,3]:List Int),([52,5,1,8,8,5,1,8,8]:List Int),([55,6,3,1,255,6,3,1,255]:List Int),([64,5,1,8,8,5,1,8,8]:List Int),([70,1,1,3,3,1,1,3,3]:List Int),([90,1,1,42,42,0,0,0,0]:List Int),([102,4,2,1,28,4,2,1,28]:List Int),([128,5,1,8,8,5,1,8,8]:List Int)]:List (List Int))
def YH:Option wZ:=
 ED (fun a0=>some a0)
def EA{R:Type}(a:Int)(b:Int->wZ->Int->af->af->Option R):Option R:=
 YH.bind fun r1=>b a r1 0 (0,0,[],()) (zW zI (a+1),a,[],())
def EB{R:Type}(a:Int)(b:wZ)(c:Int)(d e:af)(f:Int->wZ->Int->af->af->Option R)(g:af->af->Option R):Option R:=
 bif c<((List.length b):Int) then zd c (List.length b) (bif 0<=zW zI (5+zW zI (4*a)) then bif zW zI (5+zW zI (4*a))<=(((List.length (List.getD b c.toNat ([]:List Int))):Nat):Int) then bif 0<=zW zI (1+zW zI (4*a)) then bif zW zI (1+zW zI (4*a))<=(((zW zI (5+zW zI (4*a))).toNat:Nat):Int) then zd 0 (List.length (List.drop (zW zI ((1:Int)+zW zI ((4:Int)*a))).toNat (List.take (zW zI ((5:Int)+zW zI ((4:Int)*a))).toNat (List.getD b c.toNat ([]:List Int))))) (bif 0<List.getD (List.drop (zW zI (1+zW zI (4*a))).toNat (List.take (zW zI (5+zW zI (4*a))).toNat (List.getD b c.toNat []))) ((0:Int)).toNat 0 then zd c (List.length b) (zd 0 (List.length (List.getD b c.toNat ([]:List Int))) (zd 0 (List.length (List.drop (zW zI ((1:Int)+zW zI ((4:Int)*a))).toNat (List.take (zW zI ((5:Int)+zW zI ((4:Int)*a))).toNat (List.getD b c.toNat ([]:List Int))))) (zd 1 (List.length (List.drop (zW zI ((1:Int)+zW zI ((4:Int)*a))).toNat (List.take (zW zI ((5:Int)+zW zI ((4:Int)*a))).toNat (List.getD b c.toNat ([]:List Int))))) (zd 2 (List.length (List.drop (zW zI ((1:Int)+zW zI ((4:Int)*a))).toNat (List.take (zW zI ((5:Int)+zW zI ((4:Int)*a))).toNat (List.getD b c.toNat ([]:List Int))))) (zd 3 (List.length (List.drop (zW zI ((1:Int)+zW zI ((4:Int)*a))).toNat (List.take (zW zI ((5:Int)+zW zI ((4:Int)*a))).toNat (List.getD b c.toNat ([]:List Int))))) (bif(List.length e.2.2.1+List.length ([(List.getD (List.getD b c.toNat ([]:List Int)) ((0:Int)).toNat (0:Int),List.getD (List.drop (zW zI ((1:Int)+zW zI ((4:Int)*a))).toNat (List.take (zW zI ((5:Int)+zW zI ((4:Int)*a))).toNat (List.getD b c.toNat ([]:List Int)))) ((0:Int)).toNat (0:Int),List.getD (List.drop (zW zI ((1:Int)+zW zI ((4:Int)*a))).toNat (List.take (zW zI ((5:Int)+zW zI ((4:Int)*a))).toNat (List.getD b c.toNat ([]:List Int)))) ((1:Int)).toNat (0:Int),List.getD (List.drop (zW zI ((1:Int)+zW zI ((4:Int)*a))).toNat (List.take (zW zI ((5:Int)+zW zI ((4:Int)*a))).toNat (List.getD b c.toNat ([]:List Int)))) ((2:Int)).toNat (0:Int),List.getD (List.drop (zW zI ((1:Int)+zW zI ((4:Int)*a))).toNat (List.take (zW zI ((5:Int)+zW zI ((4:Int)*a))).toNat (List.getD b c.toNat ([]:List Int)))) ((3:Int)).toNat (0:Int),())]:List aT))*40<=140737488355328 then f a b (zW zI (c+1)) d (e.1,e.2.1,e.2.2.1++([(List.getD (List.getD b c.toNat []) ((0:Int)).toNat 0,List.getD (List.drop (zW zI (1+zW zI (4*a))).toNat (List.take (zW zI (5+zW zI (4*a))).toNat (List.getD b c.toNat []))) ((0:Int)).toNat 0,List.getD (List.drop (zW zI (1+zW zI (4*a))).toNat (List.take (zW zI (5+zW zI (4*a))).toNat (List.getD b c.toNat []))) ((1:Int)).toNat 0,List.getD (List.drop (zW zI (1+zW zI (4*a))).toNat (List.take (zW zI (5+zW zI (4*a))).toNat (List.getD b c.toNat []))) ((2:Int)).toNat 0,List.getD (List.drop (zW zI (1+zW zI (4*a))).toNat (List.take (zW zI (5+zW zI (4*a))).toNat (List.getD b c.toNat []))) ((3:Int)).toNat 0,())]:List aT),()) else none)))))) else f a b (zW zI (c+1)) d e) else none else none else none else none) else g d e
def EC{R:Type}(a b:af)(c:af->Option R):Option R:=
 c b
def Yk:Nat->Int->wZ->Int->af->af->Option (af×af)
 |0,_,_,_,_,_=>none
 |k+1,v0,v1,v2,v3,v4=>EB v0 v1 v2 v3 v4 (fun a0 a1 a2 a3 a4=>Yk k a0 a1 a2 a3 a4) (fun a0 a1=>some (a0,a1))
def RI(a:Int):Option af:=
 EA a (fun a0 a1 a2 a3 a4=>(Yk ai a0 a1 a2 a3 a4).bind fun e=>EC e.1 e.2 (fun a0=>some a0))
def XU{R:Type}(a:Int)(b:Bool->Option R):Option R:=
 bif 48<=a then b (decide (a<=57)) else b false
def Ie(a:Int):Option Bool:=
 XU a (fun a0=>some a0)
def XS{R:Type}(a:ByteArray)(b:ByteArray->Int->Option R):Option R:=
 b a 0
def XT{R:Type}(a:ByteArray)(b:Int)(c:Bool->Option R)(d:ByteArray->Int->Option R)(e:Option R):Option R:=
 bif b<(a.size:Int) then zd b a.size ((Ie (ze a b.toNat)).bind fun r1=>bif !r1 then c false else d a (zW zI (b+1))) else e
def Ea{R:Type}(a:Bool)(b:Bool->Option R):Option R:=
 b a
def z160{R:Type}(a:Bool->Option R):Option R:=
 a true
def Hf:Nat->ByteArray->Int->Option (Sum Bool Unit)
 |0,_,_=>none
 |k+1,v0,v1=>XT v0 v1 (fun a0=>some (.inl a0)) (fun a0 a1=>Hf k a0 a1) (some (.inr ()))
def FX(a:ByteArray):Option Bool:=
 XS a (fun a0 a1=>(Hf ai a0 a1).bind fun e=>Sum.elim (fun(we:Bool)=>Ea we (fun a0=>some a0)) (fun(we:Unit)=>z160 (fun a0=>some a0)) e)
def XW{R:Type}(a:ByteArray)(b:Int->Bool->Option R)(c:ByteArray->Int->Int->Option R):Option R:=
 bif(a.size:Int)<1 then b 0 false else bif 18<(a.size:Int) then b 0 false else(FX a).bind fun r1=>bif !r1 then b 0 false else c a 0 0
def XX{R:Type}(a:ByteArray)(b c:Int)(d:ByteArray->Int->Int->Option R)(e:Int->Option R):Option R:=
 bif c<(a.size:Int) then zd c a.size (d a (zW zI (zW zI (zW zI (10*b)+zW zI (ze a c.toNat))-48)) (zW zI (c+1))) else e b
def Eb{R:Type}(a:Int)(b:Int->Bool->Option R):Option R:=
 b a true
def Hg:Nat->ByteArray->Int->Int->Option Int
 |0,_,_,_=>none
 |k+1,v0,v1,v2=>XX v0 v1 v2 (fun a0 a1 a2=>Hg k a0 a1 a2) (fun a0=>some a0)
def Ih(a:ByteArray):Option (Int×Bool):=
 XW a (fun a0 a1=>some (a0,a1)) (fun a0 a1 a2=>(Hg ai a0 a1 a2).bind fun e=>Eb e (fun a0 a1=>some (a0,a1)))
def X7{R:Type}(a:(List Int))(b:Int)(c:(List Int)->Int->Int->Option R):Option R:=
 c a b 0
def Rj{R:Type}(a:(List Int))(b c:Int)(d:Bool->Option R)(e:(List Int)->Int->Int->Option R)(f:Option R):Option R:=
 bif c<((List.length a):Int) then zd c (List.length a) (bif List.getD a c.toNat 0=b then d true else e a b (zW zI (c+1))) else f
def Eh{R:Type}(a:Bool)(b:Bool->Option R):Option R:=
 b a
def Ei{R:Type}(a:Bool->Option R):Option R:=
 a false
def FJ:Nat->(List Int)->Int->Int->Option (Sum Bool Unit)
 |0,_,_,_=>none
 |k+1,v0,v1,v2=>Rj v0 v1 v2 (fun a0=>some (.inl a0)) (fun a0 a1 a2=>FJ k a0 a1 a2) (some (.inr ()))
def Ik(a:(List Int))(b:Int):Option Bool:=
 X7 a b (fun a0 a1 a2=>(FJ ai a0 a1 a2).bind fun e=>Sum.elim (fun(we:Bool)=>Eh we (fun a0=>some a0)) (fun(we:Unit)=>Ei (fun a0=>some a0)) e)
def X2{R:Type}(a b:Int)(c:Bool->Option R):Option R:=
 bif 48<=b then bif 65<=b then bif b<=90 then bif a=1 then c (decide (b<=57)) else bif a=2 then c true else bif a=3 then bif b<=57 then c true else c true else bif a=4 then bif 32<=b then c (decide (b<=126)) else c false else bif a=5 then c true else c (decide (a=6)) else bif 97<=b then bif a=1 then c (decide (b<=57)) else bif a=2 then c (decide (b<=122)) else bif a=3 then bif b<=57 then c true else c (decide (b<=122)) else bif a=4 then bif 32<=b then c (decide (b<=126)) else c false else bif a=5 then c true else c (decide (a=6)) else bif a=1 then c (decide (b<=57)) else bif a=2 then c false else bif a=3 then bif b<=57 then c true else c false else bif a=4 then bif 32<=b then c (decide (b<=126)) else c false else bif a=5 then c true else c (decide (a=6)) else bif 97<=b then bif a=1 then c (decide (b<=57)) else bif a=2 then c (decide (b<=122)) else bif a=3 then bif b<=57 then c true else c (decide (b<=122)) else bif a=4 then bif 32<=b then c (decide (b<=126)) else c false else bif a=5 then c true else c (decide (a=6)) else bif a=1 then c (decide (b<=57)) else bif a=2 then c false else bif a=3 then bif b<=57 then c true else c false else bif a=4 then bif 32<=b then c (decide (b<=126)) else c false else bif a=5 then c true else c (decide (a=6)) else bif 65<=b then bif b<=90 then bif a=1 then c false else bif a=2 then c true else bif a=3 then c true else bif a=4 then bif 32<=b then c (decide (b<=126)) else c false else bif a=5 then c true else c (decide (a=6)) else bif 97<=b then bif a=1 then c false else bif a=2 then c (decide (b<=122)) else bif a=3 then c (decide (b<=122)) else bif a=4 then bif 32<=b then c (decide (b<=126)) else c false else bif a=5 then c true else c (decide (a=6)) else bif a=1 then c false else bif a=2 then c false else bif a=3 then c false else bif a=4 then bif 32<=b then c (decide (b<=126)) else c false else bif a=5 then c true else c (decide (a=6)) else bif 97<=b then bif a=1 then c false else bif a=2 then c (decide (b<=122)) else bif a=3 then c (decide (b<=122)) else bif a=4 then bif 32<=b then c (decide (b<=126)) else c false else bif a=5 then c true else c (decide (a=6)) else bif a=1 then c false else bif a=2 then c false else bif a=3 then c false else bif a=4 then bif 32<=b then c (decide (b<=126)) else c false else bif a=5 then c true else c (decide (a=6))
def yx(a b:Int):Option Bool:=
 X2 a b (fun a0=>some a0)
def XZ{R:Type}(a:Int)(b:ByteArray)(c:Int->ByteArray->Int->Option R):Option R:=
 c a b 0
def Ri{R:Type}(a:Int)(b:ByteArray)(c:Int)(d:Int->Option R)(e:Int->ByteArray->Int->Option R)(f:Option R):Option R:=
 bif c<(b.size:Int) then zd c b.size ((yx a (ze b c.toNat)).bind fun r1=>bif !r1 then d c else e a b (zW zI (c+1))) else f
def Ec{R:Type}(a:Int)(b:Int->Option R):Option R:=
 b a
def Ed{R:Type}(a:Int->Option R):Option R:=
 a (-1:Int)
def FI:Nat->Int->ByteArray->Int->Option (Sum Int Unit)
 |0,_,_,_=>none
 |k+1,v0,v1,v2=>Ri v0 v1 v2 (fun a0=>some (.inl a0)) (fun a0 a1 a2=>FI k a0 a1 a2) (some (.inr ()))
def Ii(a:Int)(b:ByteArray):Option Int:=
 XZ a b (fun a0 a1 a2=>(FI ai a0 a1 a2).bind fun e=>Sum.elim (fun(we:Int)=>Ec we (fun a0=>some a0)) (fun(we:Unit)=>Ed (fun a0=>some a0)) e)
def X5{R:Type}(a b:Int)(c:Bool->Option R)(d:Int->Int->Int->Option R):Option R:=
 bif a<1 then c false else bif 6<a then c false else bif b<1 then c false else bif 6<b then c false else d a b 0
def z167{R:Type}(a b c:Int)(d:Bool->Option R)(e:Int->Int->Int->Option R)(f:Option R):Option R:=
 bif c<256 then(yx b (zW zU c)).bind fun r1=>bif r1 then(yx a (zW zU c)).bind fun r2=>bif !r2 then d false else e a b (zW zI (c+1)) else e a b (zW zI (c+1)) else f
def z168{R:Type}(a:Bool)(b:Bool->Option R):Option R:=
 b a
def Ef{R:Type}(a:Bool->Option R):Option R:=
 a true
def X4:Nat->Int->Int->Int->Option (Sum Bool Unit)
 |0,_,_,_=>none
 |k+1,v0,v1,v2=>z167 v0 v1 v2 (fun a0=>some (.inl a0)) (fun a0 a1 a2=>X4 k a0 a1 a2) (some (.inr ()))
def FY(a b:Int):Option Bool:=
 X5 a b (fun a0=>some a0) (fun a0 a1 a2=>(X4 ai a0 a1 a2).bind fun e=>Sum.elim (fun(we:Bool)=>z168 we (fun a0=>some a0)) (fun(we:Unit)=>Ef (fun a0=>some a0)) e)
def Ej{R:Type}(a:Int)(b:Int->Option R):Option R:=
 bif a=0 then b 0 else bif Int.tmod (zW zU (Int.tdiv a 32)) 2=1 then b 0 else bif Int.tmod a 32=31 then b 2 else b 1
def yz(a:Int):Option Int:=
 Ej a (fun a0=>some a0)
def Rk{R:Type}(a:ByteArray)(b:Int)(c:Int->Int->Int->Option R):Option R:=
 bif b<0 then c 0 0 1 else bif(a.size:Int)<b then c 0 0 1 else bif b=(a.size:Int) then c 0 0 2 else zd b a.size ((yz (ze a b.toNat)).bind fun r1=>bif r1=0 then c 0 0 13 else bif r1=1 then zd b a.size (c (zW zI (ze a b.toNat)) (zW zI (b+1)) 0) else bif zW zI ((a.size:Int)-b)<2 then c 0 0 2 else zd (zW zI (b+1)) a.size (bif ze a (zW zI (b+(1:Int))).toNat=0 then c 0 0 13 else zd (zW zI (b+1)) a.size (bif 127<ze a (zW zI (b+(1:Int))).toNat then c 0 0 13 else zd b a.size (zd (zW zI (b+1)) a.size (c (zW zI (zW zI (256*zW zI (ze a b.toNat))+zW zI (ze a (zW zI (b+(1:Int))).toNat))) (zW zI (b+2)) 0)))))
def yA(a:ByteArray)(b:Int):Option jy:=
 Rk a b (fun a0 a1 a2=>some (a0,a1,a2))
def Rl{R:Type}(a:ByteArray)(b:Int)(c:Int->Int->Int->Option R):Option R:=
 bif b<0 then c 0 0 1 else bif(a.size:Int)<b then c 0 0 1 else bif b=(a.size:Int) then c 0 0 2 else zd b a.size (bif zW zI (ze a b.toNat)<128 then c (zW zI (ze a b.toNat)) (zW zI (b+1)) 0 else bif !decide (zW zI (ze a b.toNat)=129) then bif !decide (zW zI (ze a b.toNat)=130) then c 0 0 14 else bif zW zI ((a.size:Int)-b)<zW zI (zW zI (ze a b.toNat)-127) then c 0 0 2 else bif zW zI (ze a b.toNat)=129 then zd (zW zI (b+1)) a.size (bif ze a (zW zI (b+(1:Int))).toNat<128 then c 0 0 14 else zd (zW zI (b+1)) a.size (c (zW zI (ze a (zW zI (b+(1:Int))).toNat)) (zW zI (b+2)) 0)) else zd (zW zI (b+1)) a.size (bif ze a (zW zI (b+(1:Int))).toNat=0 then c 0 0 14 else zd (zW zI (b+1)) a.size (zd (zW zI (b+2)) a.size (c (zW zI (zW zI (256*zW zI (ze a (zW zI (b+(1:Int))).toNat))+zW zI (ze a (zW zI (b+(2:Int))).toNat))) (zW zI (b+3)) 0))) else bif zW zI ((a.size:Int)-b)<zW zI (zW zI (ze a b.toNat)-127) then c 0 0 2 else bif zW zI (ze a b.toNat)=129 then zd (zW zI (b+1)) a.size (bif ze a (zW zI (b+(1:Int))).toNat<128 then c 0 0 14 else zd (zW zI (b+1)) a.size (c (zW zI (ze a (zW zI (b+(1:Int))).toNat)) (zW zI (b+2)) 0)) else zd (zW zI (b+1)) a.size (bif ze a (zW zI (b+(1:Int))).toNat=0 then c 0 0 14 else zd (zW zI (b+1)) a.size (zd (zW zI (b+2)) a.size (c (zW zI (zW zI (256*zW zI (ze a (zW zI (b+(1:Int))).toNat))+zW zI (ze a (zW zI (b+(2:Int))).toNat))) (zW zI (b+3)) 0))))
def yB(a:ByteArray)(b:Int):Option jy:=
 Rl a b (fun a0 a1 a2=>some (a0,a1,a2))
def Ya{R:Type}(a:al)(b c:Int)(d:al->Int->Int->Int->Option R):Option R:=
 d a b c 0
def Ro{R:Type}(a:al)(b c d:Int)(e:Bool->Option R)(f:al->Int->Int->Int->Option R)(g:Option R):Option R:=
 bif d<b then zd d (List.length a) (bif(List.getD a d.toNat (0,bs [],())).1=c then e true else f a b c (zW zI (d+1))) else g
def Ep{R:Type}(a:Bool)(b:Bool->Option R):Option R:=
 b a
def Er{R:Type}(a:Bool->Option R):Option R:=
 a false
def FK:Nat->al->Int->Int->Int->Option (Sum Bool Unit)
 |0,_,_,_,_=>none
 |k+1,v0,v1,v2,v3=>Ro v0 v1 v2 v3 (fun a0=>some (.inl a0)) (fun a0 a1 a2 a3=>FK k a0 a1 a2 a3) (some (.inr ()))
def Iq(a:al)(b c:Int):Option Bool:=
 Ya a b c (fun a0 a1 a2 a3=>(FK ai a0 a1 a2 a3).bind fun e=>Sum.elim (fun(we:Bool)=>Ep we (fun a0=>some a0)) (fun(we:Unit)=>Er (fun a0=>some a0)) e)
def Rm{R:Type}(a:ByteArray)(b:ByteArray->al->Int->Option R):Option R:=
 b a [] 0
def Rn{R:Type}(a:ByteArray)(b:al)(c:Int)(d:al->Int->Int->al->Option R)(e:ByteArray->al->Int->Option R)(f:al->Option R):Option R:=
 bif c<(a.size:Int) then(yA a c).bind fun r1=>bif !decide (r1.2.2=0) then d [] r1.2.2 c b else(yB a r1.2.1).bind fun r2=>bif !decide (r2.2.2=0) then d [] r2.2.2 r1.2.1 b else bif zW zI ((a.size:Int)-r2.2.1)<r2.1 then d [] 2 (a.size:Int) b else(Iq b ((List.length b):Int) r1.1).bind fun r3=>bif r3 then d [] 10 c b else bif 0<=zW zI (r2.2.1+r2.1) then bif zW zI (r2.2.1+r2.1)<=(a.size:Int) then bif 0<=r2.2.1 then bif r2.2.1<=(((zW zI (r2.2.1+r2.1)).toNat:Nat):Int) then bif(List.length b+List.length ([(r1.1,a.extract r2.2.1.toNat (zW zI (r2.2.1+r2.1)).toNat,())]:List bj))*24<=140737488355328 then e a (b++([(r1.1,a.extract r2.2.1.toNat (zW zI (r2.2.1+r2.1)).toNat,())]:List bj)) (zW zI (r2.2.1+r2.1)) else none else none else none else none else none else f b
def Em{R:Type}(a:al)(b c:Int)(d:al)(e:al->Int->Int->Option R):Option R:=
 e a b c
def En{R:Type}(a:al)(b:al->Int->Int->Option R):Option R:=
 b a 0 0
def Bn:Nat->ByteArray->al->Int->Option (Sum qW al)
 |0,_,_,_=>none
 |k+1,v0,v1,v2=>Rn v0 v1 v2 (fun a0 a1 a2 a3=>some (.inl (a0,a1,a2,a3))) (fun a0 a1 a2=>Bn k a0 a1 a2) (fun a0=>some (.inr a0))
def yC(a:ByteArray):Option (Sum jz jz):=
 Rm a (fun a0 a1 a2=>(Bn ai a0 a1 a2).bind fun e=>Sum.elim (fun(we:qW)=>Em we.1 we.2.1 we.2.2.1 we.2.2.2 (fun a0 a1 a2=>some (.inl (a0,a1,a2)))) (fun(we:al)=>En we (fun a0 a1 a2=>some (.inr (a0,a1,a2)))) e)
def Yb{R:Type}(a:aT)(b:Int->Option R):Option R:=
 bif a.1<2 then b 1 else bif 128<a.1 then b 1 else bif a.2.1<1 then b 6 else bif 6<a.2.1 then b 6 else bif a.2.2.1<1 then b 3 else bif 3<a.2.2.1 then b 3 else bif a.2.2.1=2 then bif a.2.2.2.1<1 then b 5 else bif a.2.2.2.2.1<a.2.2.2.1 then b 5 else bif 99<a.2.2.2.2.1 then b 5 else bif a.2.2.1=1 then bif !decide (a.2.2.2.1=a.2.2.2.2.1) then b 5 else bif a.2.2.1=1 then bif a.2.1=6 then b 13 else b 0 else b 0 else bif a.2.2.1=1 then bif a.2.1=6 then b 13 else b 0 else b 0 else bif a.2.2.2.1<1 then b 5 else bif a.2.2.2.2.1<a.2.2.2.1 then b 5 else bif 999<a.2.2.2.2.1 then b 5 else bif a.2.2.1=1 then bif !decide (a.2.2.2.1=a.2.2.2.2.1) then b 5 else bif a.2.2.1=1 then bif a.2.1=6 then b 13 else b 0 else b 0 else bif a.2.2.1=1 then bif a.2.1=6 then b 13 else b 0 else b 0
def yD(a:aT):Option Int:=
 Yb a (fun a0=>some a0)
def Hh{R:Type}(a:aT)(b:ByteArray)(c:Int->Option R):Option R:=
 (yD a).bind fun r1=>bif !decide (r1=0) then c 1 else bif(b.size:Int)<a.2.2.2.1 then c 5 else bif a.2.2.2.2.1<(b.size:Int) then c 5 else(Ii a.2.1 b).bind fun r2=>bif 0<=r2 then c 6 else bif a.2.1=6 then(yC b).bind fun r3=>Sum.elim (fun(sj:jz)=>bif !decide (sj.2.1=0) then c 13 else c 0) (fun(sj:jz)=>bif !decide (sj.2.1=0) then c 13 else c 0) r3 else c 0
def mP(a:aT)(b:ByteArray):Option Int:=
 Hh a b (fun a0=>some a0)
def Hi{R:Type}(a b:aT)(c:Bool->Option R):Option R:=
 (yD a).bind fun r1=>bif !decide (r1=0) then c false else(yD b).bind fun r2=>bif !decide (r2=0) then c false else bif b.2.2.2.1<a.2.2.2.1 then c false else bif a.2.2.2.2.1<b.2.2.2.2.1 then c false else bif a.2.1=5 then c true else bif a.2.1=6 then c (decide (a.2.1=b.2.1)) else bif b.2.1=6 then c (decide (a.2.1=b.2.1)) else(FY a.2.1 b.2.1).bind fun r3=>c r3
def vg(a b:aT):Option Bool:=
 Hi a b (fun a0=>some a0)
def Yf{R:Type}(a:af)(b:af->Option R):Option R:=
 bif(List.length ([]:List aT)+List.length a.2.2.1)*40<=140737488355328 then b (a.1,a.2.1,[]++a.2.2.1,()) else none
def Ix(a:af):Option af:=
 Yf a (fun a0=>some a0)
def Hj{R:Type}(a:af)(b:Int->Int->Option R)(c:Int->Int->af->Option R):Option R:=
 bif !decide (a.1=1) then bif !decide (a.1=2) then b 1 (-1:Int) else bif a.2.1<0 then b 7 (-1:Int) else bif 9<a.2.1 then b 7 (-1:Int) else c 0 0 a else bif a.2.1<0 then b 7 (-1:Int) else bif 9<a.2.1 then b 7 (-1:Int) else c 0 0 a
theorem acm{R S:Type}(F:R->Option S)(a)(b)(c):(Hj a b c).bind F=Hj a (fun a0 a1=>(b a0 a1).bind F) (fun a0 a1 a2=>(c a0 a1 a2).bind F):=by
 simp only[Hj,aD]
def Rp{R:Type}(a b:Int)(c:af)(d:Int->Int->Option R)(e:Int->Int->af->Option R)(f:Option R):Option R:=
 bif b<((List.length c.2.2.1):Int) then zd b (List.length c.2.2.1) ((yD (List.getD c.2.2.1 b.toNat (0,0,0,0,0,()))).bind fun r1=>bif !decide (r1=0) then d r1 b else zd b (List.length c.2.2.1) (bif(List.getD c.2.2.1 b.toNat (0,0,0,0,0,())).1<=a then d 11 b else zd b (List.length c.2.2.1) (e (List.getD c.2.2.1 b.toNat (0,0,0,0,0,())).1 (zW zI (b+1)) c))) else f
def Yd{R:Type}(a b:Int)(c:Int->Int->Option R):Option R:=
 c a b
def Ye{R:Type}(a:Int->Int->Option R):Option R:=
 a 0 0
def yc:Nat->Int->Int->af->Option (Sum (Int×Int) Unit)
 |0,_,_,_=>none
 |k+1,v0,v1,v2=>Rp v0 v1 v2 (fun a0 a1=>some (.inl (a0,a1))) (fun a0 a1 a2=>yc k a0 a1 a2) (some (.inr ()))
def Iw(a:af):Option (Int×Int):=
 Hj a (fun a0 a1=>some (a0,a1)) (fun a0 a1 a2=>(yc ai a0 a1 a2).bind fun e=>Sum.elim (fun(we:(Int×Int))=>Yd we.1 we.2 (fun a0 a1=>some (a0,a1))) (fun(we:Unit)=>Ye (fun a0 a1=>some (a0,a1))) e)
def Yi{R:Type}(a:af)(b:Bool->Option R):Option R:=
 (Iw a).bind fun r1=>b (decide (r1.1=0))
def BH(a:af):Option Bool:=
 Yi a (fun a0=>some a0)
def Yh{R:Type}(a:af)(b:Int)(c:Int->Int->af->Option R):Option R:=
 c b 0 a
def Eu{R:Type}(a b:Int)(c:af)(d:Int->Option R)(e:Int->Int->af->Option R)(f:Option R):Option R:=
 bif b<((List.length c.2.2.1):Int) then zd b (List.length c.2.2.1) (bif(List.getD c.2.2.1 b.toNat (0,0,0,0,0,())).1=a then d b else e a (zW zI (b+1)) c) else f
def Ew{R:Type}(a:Int)(b:Int->Option R):Option R:=
 b a
def Ey{R:Type}(a:Int->Option R):Option R:=
 a (-1:Int)
def Rq:Nat->Int->Int->af->Option (Sum Int Unit)
 |0,_,_,_=>none
 |k+1,v0,v1,v2=>Eu v0 v1 v2 (fun a0=>some (.inl a0)) (fun a0 a1 a2=>Rq k a0 a1 a2) (some (.inr ()))
def yF(a:af)(b:Int):Option Int:=
 Yh a b (fun a0 a1 a2=>(Rq ai a0 a1 a2).bind fun e=>Sum.elim (fun(we:Int)=>Ew we (fun a0=>some a0)) (fun(we:Unit)=>Ey (fun a0=>some a0)) e)
def Td{R:Type}(a:ByteArray)(b:Bool->Option R):Option R:=
 bif(a.size:Int)=4 then(FX a).bind fun r1=>b r1 else b false
def sH(a:ByteArray):Option Bool:=
 Td a (fun a0=>some a0)
def Yl{R:Type}(a:ByteArray)(b:Bool->Option R):Option R:=
 (Ih a).bind fun r1=>bif r1.2 then bif(a.size:Int)=4 then bif Int.tmod (zW zI (Int.tdiv r1.1 10)) 10=0 then b true else b (decide (Int.tmod (zW zI (Int.tdiv r1.1 10)) 10=2)) else b false else b false
def FZ(a:ByteArray):Option Bool:=
 Yl a (fun a0=>some a0)
def zwj{R:Type}(a:aO)(b:aO->aO->Int->Option R):Option R:=
 b a [] 0
def zwk{R:Type}(a b:aO)(c:Int)(d:aO->aO->Int->Option R)(e:aO->Option R):Option R:=
 bif c<((List.length a):Int) then zd c (List.length a) (zd c (List.length a) (bif(List.length b+List.length ([((List.getD a c.toNat (bs [],bs [],())).2.1,(List.getD a c.toNat (bs [],bs [],())).1,())]:List dG))*32<=140737488355328 then d a (b++([((List.getD a c.toNat (bs [],bs [],())).2.1,(List.getD a c.toNat (bs [],bs [],())).1,())]:List dG)) (zW zI (c+1)) else none)) else e b
def zwl{R:Type}(a:aO)(b:aO->Option R):Option R:=
 b a
def Tk:Nat->aO->aO->Int->Option aO
 |0,_,_,_=>none
 |k+1,v0,v1,v2=>zwk v0 v1 v2 (fun a0 a1 a2=>Tk k a0 a1 a2) (fun a0=>some a0)
def sK(a:aO):Option aO:=
 zwj a (fun a0 a1 a2=>(Tk ai a0 a1 a2).bind fun e=>zwl e (fun a0=>some a0))
def Ti{R:Type}(a:aO)(b:aO->Option R):Option R:=
 bif(List.length ([]:List dG)+List.length a)*32<=140737488355328 then b ([]++a) else none
def qG(a:aO):Option aO:=
 Ti a (fun a0=>some a0)
def Tm{R:Type}(a:aO)(b:Int)(c:ByteArray)(d:aO->Int->ByteArray->Int->Option R):Option R:=
 d a b c 0
def P3{R:Type}(a:aO)(b:Int)(c:ByteArray)(d:Int)(e:Int->Option R)(f:aO->Int->ByteArray->Int->Option R)(g:Option R):Option R:=
 bif d<b then zd d (List.length a) (bif(List.getD a d.toNat (bs [],bs [],())).1=c then e d else f a b c (zW zI (d+1))) else g
def zwn{R:Type}(a:Int)(b:Int->Option R):Option R:=
 b a
def zwo{R:Type}(a:Int->Option R):Option R:=
 a (-1:Int)
def Fa:Nat->aO->Int->ByteArray->Int->Option (Sum Int Unit)
 |0,_,_,_,_=>none
 |k+1,v0,v1,v2,v3=>P3 v0 v1 v2 v3 (fun a0=>some (.inl a0)) (fun a0 a1 a2 a3=>Fa k a0 a1 a2 a3) (some (.inr ()))
def qH(a:aO)(b:Int)(c:ByteArray):Option Int:=
 Tm a b c (fun a0 a1 a2 a3=>(Fa ai a0 a1 a2 a3).bind fun e=>Sum.elim (fun(we:Int)=>zwn we (fun a0=>some a0)) (fun(we:Unit)=>zwo (fun a0=>some a0)) e)
def Te{R:Type}(a:aO)(b:ByteArray)(c:ByteArray->Bool->Option R):Option R:=
 (qH a ((List.length a):Int) b).bind fun r1=>bif r1<0 then c (bs []) false else zd r1 (List.length a) (c (List.getD a r1.toNat (bs [],bs [],())).2.1 true)
def sI(a:aO)(b:ByteArray):Option jL:=
 Te a b (fun a0 a1=>some (a0,a1))
def Th{R:Type}(a:aO)(b:Int->Int->Option R)(c:aO->Int->Option R):Option R:=
 bif 256<((List.length a):Int) then b 5 256 else c a 0
def P2{R:Type}(a:aO)(b:Int)(c:Int->Int->Option R)(d:aO->Int->Option R)(e:Option R):Option R:=
 bif b<((List.length a):Int) then zd b (List.length a) ((qH a b (List.getD a b.toNat (bs [],bs [],())).1).bind fun r1=>bif 0<=r1 then c 10 b else d a (zW zI (b+1))) else e
def zwh{R:Type}(a b:Int)(c:Int->Int->Option R):Option R:=
 c a b
def zwi{R:Type}(a:Int->Int->Option R):Option R:=
 a 0 0
def E9:Nat->aO->Int->Option (Sum (Int×Int) Unit)
 |0,_,_=>none
 |k+1,v0,v1=>P2 v0 v1 (fun a0 a1=>some (.inl (a0,a1))) (fun a0 a1=>E9 k a0 a1) (some (.inr ()))
def sJ(a:aO):Option (Int×Int):=
 Th a (fun a0 a1=>some (a0,a1)) (fun a0 a1=>(E9 ai a0 a1).bind fun e=>Sum.elim (fun(we:(Int×Int))=>zwh we.1 we.2 (fun a0 a1=>some (a0,a1))) (fun(we:Unit)=>zwi (fun a0 a1=>some (a0,a1))) e)
def Tu{R:Type}(a:aF)(b:Bool->Option R)(c:Int->aF->Option R):Option R:=
 bif 1200<(a.2.2.2.1.size:Int) then b true else bif 300<((List.length a.2.2.2.2.1):Int) then b true else c 0 a
def P6{R:Type}(a:Int)(b:aF)(c:Bool->Option R)(d:Int->aF->Option R)(e:Option R):Option R:=
 bif a<((List.length b.2.2.2.2.1):Int) then zd a (List.length b.2.2.2.2.1) (bif 1200<(((List.getD b.2.2.2.2.1 a.toNat (bs [],bs [],())).1).size:Int) then c true else zd a (List.length b.2.2.2.2.1) (bif 1200<(((List.getD b.2.2.2.2.1 a.toNat (bs [],bs [],())).2.1).size:Int) then c true else d (zW zI (a+1)) b)) else e
def zx0{R:Type}(a:Bool)(b:Bool->Option R):Option R:=
 b a
def zx1{R:Type}(a:Bool->Option R):Option R:=
 a false
def x6:Nat->Int->aF->Option (Sum Bool Unit)
 |0,_,_=>none
 |k+1,v0,v1=>P6 v0 v1 (fun a0=>some (.inl a0)) (fun a0 a1=>x6 k a0 a1) (some (.inr ()))
def nX(a:aF):Option Bool:=
 Tu a (fun a0=>some a0) (fun a0 a1=>(x6 ai a0 a1).bind fun e=>Sum.elim (fun(we:Bool)=>zx0 we (fun a0=>some a0)) (fun(we:Unit)=>zx1 (fun a0=>some a0)) e)
def Ts{R:Type}(a:aF)(b:aF->Option R):Option R:=
 (qG a.2.2.2.2.1).bind fun r1=>b (a.1,a.2.1,a.2.2.1,a.2.2.2.1,r1,())
def nW(a:aF):Option aF:=
 Ts a (fun a0=>some a0)
def GJ{R:Type}(a:aF)(b c:af)(d:Bool->aF->af->af->Option R):Option R:=
 bif a.1<1 then d true a b c else d (decide (5<a.1)) a b c
theorem abQ{R S:Type}(F:R->Option S)(a)(b)(c)(d):(GJ a b c d).bind F=GJ a b c (fun a0 a1 a2 a3=>(d a0 a1 a2 a3).bind F):=by
 simp only[GJ,aD]
def zwu{R:Type}(a:Bool)(b:aF)(c d:af)(e:Int->Option R)(f:aF->af->af->Option R):Option R:=
 bif a then e 1 else f b c d
def GK{R:Type}(a:aF)(b c:af)(d:Int->Int->Bool->aF->af->af->Option R):Option R:=
 (yF b a.2.1).bind fun r1=>(yF c a.2.2.1).bind fun r2=>bif a.1=3 then bif !decide (a.2.1=0) then d r1 r2 true a b c else bif !decide (a.1=3) then d r1 r2 (decide (r1<0)) a b c else d r1 r2 false a b c else bif !decide (a.1=3) then d r1 r2 (decide (r1<0)) a b c else d r1 r2 false a b c
theorem abR{R S:Type}(F:R->Option S)(a)(b)(c)(d):(GK a b c d).bind F=GK a b c (fun a0 a1 a2 a3 a4 a5=>(d a0 a1 a2 a3 a4 a5).bind F):=by
 simp only[GK,aD]
def zwv{R:Type}(a b:Int)(c:Bool)(d:aF)(e f:af)(g:Int->Option R)(h:Int->Int->aF->af->af->Option R):Option R:=
 bif c then g 9 else h a b d e f
def GL{R:Type}(a b:Int)(c:aF)(d e:af)(f:Int->Int->Bool->aF->af->af->Option R):Option R:=
 bif c.1=2 then bif !decide (c.2.2.1=0) then f a b true c d e else bif !decide (c.1=2) then f a b (decide (b<0)) c d e else f a b false c d e else bif !decide (c.1=2) then f a b (decide (b<0)) c d e else f a b false c d e
theorem abS{R S:Type}(F:R->Option S)(a)(b)(c)(d)(e)(f):(GL a b c d e f).bind F=GL a b c d e (fun a0 a1 a2 a3 a4 a5=>(f a0 a1 a2 a3 a4 a5).bind F):=by
 simp only[GL,aD]
def zww{R:Type}(a b:Int)(c:Bool)(d:aF)(e f:af)(g:Int->Option R)(h:Int->Int->aF->af->af->Option R):Option R:=
 bif c then g 9 else h a b d e f
def GM{R:Type}(a b:Int)(c:aF)(d e:af)(f:Int->Int->Bool->aF->af->af->Option R):Option R:=
 bif !decide (c.2.2.2.1=bs []) then bif !decide (c.1=3) then f a b true c d e else bif 0<((List.length c.2.2.2.2.1):Int) then f a b (!decide (c.1=5)) c d e else f a b false c d e else bif 0<((List.length c.2.2.2.2.1):Int) then f a b (!decide (c.1=5)) c d e else f a b false c d e
theorem abT{R S:Type}(F:R->Option S)(a)(b)(c)(d)(e)(f):(GM a b c d e f).bind F=GM a b c d e (fun a0 a1 a2 a3 a4 a5=>(f a0 a1 a2 a3 a4 a5).bind F):=by
 simp only[GM,aD]
def zwx{R:Type}(a b:Int)(c:Bool)(d:aF)(e f:af)(g:Int->Option R)(h:Int->Int->aF->af->af->Option R):Option R:=
 bif c then g 3 else h a b d e f
def GN{R:Type}(a b:Int)(c:aF)(d e:af)(f:Int->Option R)(g:Option R)(h:Bool->Option R)(i:Int->Int->Bool->aF->af->af->Option R):Option R:=
 bif c.1=1 then zd b (List.length e.2.2.1) (zd a (List.length d.2.2.1) ((vg (List.getD e.2.2.1 b.toNat (0,0,0,0,0,())) (List.getD d.2.2.1 a.toNat (0,0,0,0,0,()))).bind fun r3=>bif !r3 then f 6 else g)) else bif c.1=3 then zd b (List.length e.2.2.1) ((mP (List.getD e.2.2.1 b.toNat (0,0,0,0,0,())) c.2.2.2.1).bind fun r4=>f r4) else bif c.1=4 then zd a (List.length d.2.2.1) (zd b (List.length e.2.2.1) (bif !decide ((List.getD d.2.2.1 a.toNat (0,0,0,0,0,())).2.1=1) then h true else bif !decide ((List.getD d.2.2.1 a.toNat (0,0,0,0,0,())).2.2.1=1) then h true else bif !decide ((List.getD e.2.2.1 b.toNat (0,0,0,0,0,())).2.1=1) then h true else h (!decide ((List.getD e.2.2.1 b.toNat (0,0,0,0,0,())).2.2.1=1)))) else bif c.1=5 then(sJ c.2.2.2.2.1).bind fun r5=>bif !decide (r5.1=0) then i a b true c d e else i a b (decide (((List.length c.2.2.2.2.1):Int)=0)) c d e else g
theorem abU{R S:Type}(F:R->Option S)(a)(b)(c)(d)(e)(f)(g)(h)(i):(GN a b c d e f g h i).bind F=GN a b c d e (fun a0=>(f a0).bind F) ((g).bind F) (fun a0=>(h a0).bind F) (fun a0 a1 a2 a3 a4 a5=>(i a0 a1 a2 a3 a4 a5).bind F):=by
 simp only[GN,aD]
def zwy{R:Type}(a:Int->Option R):Option R:=
 a 0
def zp5{R:Type}(a:Bool)(b:Int->Option R)(c:Option R):Option R:=
 bif a then b 6 else c
def zp6{R:Type}(a b:Int)(c:Bool)(d:aF)(e f:af)(g:Int->Option R)(h:Int->Int->aF->af->af->Option R):Option R:=
 bif c then g 15 else h a b d e f
def SW{R:Type}(a b:Int)(c:aF)(d e:af)(f:Int->Int->Int->aF->af->af->Option R):Option R:=
 f a b 0 c d e
def PR{R:Type}(a b c:Int)(d:aF)(e f:af)(g:Int->Int->Int->aF->af->af->Option R)(h:Option R):Option R:=
 bif c<((List.length d.2.2.2.2.1):Int) then g a b c d e f else h
def SX{R:Type}(a b c:Int)(d:aF)(e f:af)(g:Int->Option R)(h:Int->Int->Int->aF->af->af->Option R):Option R:=
 zd a (List.length e.2.2.1) (zd c (List.length d.2.2.2.2.1) ((mP (List.getD e.2.2.1 a.toNat (0,0,0,0,0,())) (List.getD d.2.2.2.2.1 c.toNat (bs [],bs [],())).1).bind fun r6=>bif !decide (r6=0) then g r6 else h a b c d e f))
def zp7{R:Type}(a:Option R):Option R:=
 a
def zp8{R:Type}(a:Int)(b:Int->Option R):Option R:=
 b a
def SY{R:Type}(a b c:Int)(d:aF)(e f:af)(g:Int->Option R)(h:Int->Int->Int->aF->af->af->Option R):Option R:=
 zd b (List.length f.2.2.1) (zd c (List.length d.2.2.2.2.1) ((mP (List.getD f.2.2.1 b.toNat (0,0,0,0,0,())) (List.getD d.2.2.2.2.1 c.toNat (bs [],bs [],())).2.1).bind fun r7=>bif !decide (r7=0) then g r7 else h a b c d e f))
def SZ{R:Type}(a b c:Int)(d:aF)(e f:af)(g:Int->Int->Int->aF->af->af->Option R):Option R:=
 g a b (zW zI (c+1)) d e f
def vD:Nat->Int->Int->Int->aF->af->af->Option (Sum Unit Int)
 |0,_,_,_,_,_,_=>none
 |k+1,v0,v1,v2,v3,v4,v5=>PR v0 v1 v2 v3 v4 v5 (fun a0 a1 a2 a3 a4 a5=>SX a0 a1 a2 a3 a4 a5 (fun a0=>some (.inr a0)) (fun a0 a1 a2 a3 a4 a5=>SY a0 a1 a2 a3 a4 a5 (fun a0=>some (.inr a0)) (fun a0 a1 a2 a3 a4 a5=>SZ a0 a1 a2 a3 a4 a5 (fun a0 a1 a2 a3 a4 a5=>vD k a0 a1 a2 a3 a4 a5)))) (some (.inl ()))
def Tr:Option Int:=
 zwy (fun a0=>some a0)
def zwt(a:Bool):Option Int:=
 zp5 a (fun a0=>some a0) Tr
def PQ(a b:Int)(c:aF)(d f:af):Option Int:=
 SW a b c d f (fun a0 a1 a2 a3 a4 a5=>(vD ai a0 a1 a2 a3 a4 a5).bind fun e=>Sum.elim (fun(we:Unit)=>zp7 Tr) (fun(we:Int)=>zp8 we (fun a0=>some a0)) e)
def zp4(a b:Int)(c:Bool)(d:aF)(e f:af):Option Int:=
 zp6 a b c d e f (fun a0=>some a0) (fun a0 a1 a2 a3 a4=>PQ a0 a1 a2 a3 a4)
def P5(a b:Int)(c:aF)(d e:af):Option Int:=
 GN a b c d e (fun a0=>some a0) Tr (fun a0=>zwt a0) (fun a0 a1 a2 a3 a4 a5=>zp4 a0 a1 a2 a3 a4 a5)
def zws(a b:Int)(c:Bool)(d:aF)(e f:af):Option Int:=
 zwx a b c d e f (fun a0=>some a0) (fun a0 a1 a2 a3 a4=>P5 a0 a1 a2 a3 a4)
def Fb(a b:Int)(c:aF)(d e:af):Option Int:=
 GM a b c d e (fun a0 a1 a2 a3 a4 a5=>zws a0 a1 a2 a3 a4 a5)
def zwr(a b:Int)(c:Bool)(d:aF)(e f:af):Option Int:=
 zww a b c d e f (fun a0=>some a0) (fun a0 a1 a2 a3 a4=>Fb a0 a1 a2 a3 a4)
def P4(a b:Int)(c:aF)(d e:af):Option Int:=
 GL a b c d e (fun a0 a1 a2 a3 a4 a5=>zwr a0 a1 a2 a3 a4 a5)
def Be(a b:Int)(c:Bool)(d:aF)(e f:af):Option Int:=
 zwv a b c d e f (fun a0=>some a0) (fun a0 a1 a2 a3 a4=>P4 a0 a1 a2 a3 a4)
def Tq(a:aF)(b c:af):Option Int:=
 GK a b c (fun a0 a1 a2 a3 a4 a5=>Be a0 a1 a2 a3 a4 a5)
def zwq(a:Bool)(b:aF)(c d:af):Option Int:=
 zwu a b c d (fun a0=>some a0) (fun a0 a1 a2=>Tq a0 a1 a2)
def sL(a:aF)(b c:af):Option Int:=
 GJ a b c (fun a0 a1 a2 a3=>zwq a0 a1 a2 a3)
def TG{R:Type}(a:ay)(b:Bool->Option R)(c:Int->ay->Option R):Option R:=
 bif 300<((List.length a.1):Int) then b true else bif 300<((List.length a.2.1):Int) then b true else c 0 a
def Qc{R:Type}(a:Int)(b:ay)(c:Bool->ay->Option R)(d:Int->ay->Option R)(e:ay->Option R):Option R:=
 bif a<((List.length b.1):Int) then zd a (List.length b.1) (bif 100<(((List.getD b.1 a.toNat (bs [],bs [],())).1).size:Int) then c true b else zd a (List.length b.1) (bif 100<(((List.getD b.1 a.toNat (bs [],bs [],())).2.1).size:Int) then c true b else d (zW zI (a+1)) b)) else e b
def zxd{R:Type}(a:Bool)(b:ay)(c:Bool->Option R):Option R:=
 c a
def TH{R:Type}(a:ay)(b:Int->ay->Option R):Option R:=
 b 0 a
def zxe{R:Type}(a:Int)(b:ay)(c:Bool->Option R)(d:Int->ay->Option R)(e:Option R):Option R:=
 bif a<((List.length b.2.1):Int) then zd a (List.length b.2.1) ((nX (List.getD b.2.1 a.toNat (0,0,0,bs [],[],()))).bind fun r1=>bif r1 then c true else d (zW zI (a+1)) b) else e
def zxf{R:Type}(a:Bool)(b:Bool->Option R):Option R:=
 b a
def zxg{R:Type}(a:Bool->Option R):Option R:=
 a false
def x7:Nat->Int->ay->Option (Sum (Bool×ay) ay)
 |0,_,_=>none
 |k+1,v0,v1=>Qc v0 v1 (fun a0 a1=>some (.inl (a0,a1))) (fun a0 a1=>x7 k a0 a1) (fun a0=>some (.inr a0))
def Qb:Nat->Int->ay->Option (Sum Bool Unit)
 |0,_,_=>none
 |k+1,v0,v1=>zxe v0 v1 (fun a0=>some (.inl a0)) (fun a0 a1=>Qb k a0 a1) (some (.inr ()))
def lQ(a:ay):Option Bool:=
 TG a (fun a0=>some a0) (fun a0 a1=>(x7 ai a0 a1).bind fun e=>Sum.elim (fun(we:(Bool×ay))=>zxd we.1 we.2 (fun a0=>some a0)) (fun(we:ay)=>TH we (fun a0 a1=>(Qb ai a0 a1).bind fun e=>Sum.elim (fun(we:Bool)=>zxf we (fun a0=>some a0)) (fun(we:Unit)=>zxg (fun a0=>some a0)) e)) e)
def TD{R:Type}(a:ay)(b:Int->ay->ay->ay->Option R):Option R:=
 (qG a.1).bind fun r1=>b 0 a ([],[],()) (r1,[],())
def zx9{R:Type}(a:Int)(b c d:ay)(e:Int->ay->ay->ay->Option R)(f:ay->ay->Option R):Option R:=
 bif a<((List.length b.2.1):Int) then zd a (List.length b.2.1) ((nW (List.getD b.2.1 a.toNat (0,0,0,bs [],[],()))).bind fun r2=>bif(List.length d.2.1+List.length ([r2]:List aF))*64<=140737488355328 then e (zW zI (a+1)) b c (d.1,d.2.1++([r2]:List aF),()) else none) else f c d
def zxa{R:Type}(a b:ay)(c:ay->Option R):Option R:=
 c b
def Qa:Nat->Int->ay->ay->ay->Option (ay×ay)
 |0,_,_,_,_=>none
 |k+1,v0,v1,v2,v3=>zx9 v0 v1 v2 v3 (fun a0 a1 a2 a3=>Qa k a0 a1 a2 a3) (fun a0 a1=>some (a0,a1))
def sN(a:ay):Option ay:=
 TD a (fun a0 a1 a2 a3=>(Qa ai a0 a1 a2 a3).bind fun e=>zxa e.1 e.2 (fun a0=>some a0))
def TJ{R:Type}(a:ByteArray)(b:Int)(c:Bool->Option R):Option R:=
 (sH a).bind fun r1=>bif r1 then zd 0 a.size (c (decide (zW zI (zW zI (ze a ((0:Int)).toNat)-48)=b))) else c false
def qI(a:ByteArray)(b:Int):Option Bool:=
 TJ a b (fun a0=>some a0)
def TI{R:Type}(a b:aF)(c:Bool->Option R):Option R:=
 bif !decide (a.2.1=0) then bif a.2.1=b.2.1 then c true else bif !decide (a.2.2.1=0) then c (decide (a.2.2.1=b.2.2.1)) else c false else bif !decide (a.2.2.1=0) then c (decide (a.2.2.1=b.2.2.1)) else c false
def sO(a b:aF):Option Bool:=
 TI a b (fun a0=>some a0)
def Tz{R:Type}(a:ay)(b c:af)(d:Int->Int->Int->Option R)(e:Int->ay->af->af->Option R):Option R:=
 (BH b).bind fun r1=>bif !r1 then d 1 1 0 else(BH c).bind fun r2=>bif !r2 then d 1 1 1 else bif 256<((List.length a.1):Int) then d 5 2 256 else e 0 a b c
def P7{R:Type}(a:Int)(b:ay)(c d:af)(e:Int->Int->Int->ay->af->af->Option R)(f:Int->ay->af->af->Option R)(g:ay->af->af->Option R):Option R:=
 bif a<((List.length b.1):Int) then zd a (List.length b.1) ((qI (List.getD b.1 a.toNat (bs [],bs [],())).1 c.2.1).bind fun r3=>bif !r3 then e 7 2 a b c d else(qI (List.getD b.1 a.toNat (bs [],bs [],())).2.1 d.2.1).bind fun r4=>bif !r4 then e 7 2 a b c d else(FZ (List.getD b.1 a.toNat (bs [],bs [],())).1).bind fun r5=>(FZ (List.getD b.1 a.toNat (bs [],bs [],())).2.1).bind fun r6=>bif !(r5==r6) then e 7 2 a b c d else bif 0<=a then bif a<=(((List.length b.1):Nat):Int) then(sI (List.drop 0 (List.take a.toNat b.1)) (List.getD b.1 a.toNat (bs [],bs [],())).1).bind fun r7=>bif r7.2 then e 10 2 a b c d else f (zW zI (a+1)) b c d else none else none) else g b c d
def zx5{R:Type}(a b c:Int)(d:ay)(e f:af)(g:Int->Int->Int->Option R):Option R:=
 g a b c
def TA{R:Type}(a:ay)(b c:af)(d:Int->Int->Int->Option R)(e:Int->ay->af->af->Option R):Option R:=
 bif 256<((List.length a.2.1):Int) then d 5 3 256 else e 0 a b c
def P8{R:Type}(a:Int)(b:ay)(c d:af)(e:Int->Int->Int->Option R)(f:Int->Int->ay->af->af->Option R)(g:Option R):Option R:=
 bif a<((List.length b.2.1):Int) then zd a (List.length b.2.1) ((sL (List.getD b.2.1 a.toNat (0,0,0,bs [],[],())) c d).bind fun r8=>bif !decide (r8=0) then e r8 3 a else f a 0 b c d) else g
def zx6{R:Type}(a b c:Int)(d:Int->Int->Int->Option R):Option R:=
 d a b c
def zx7{R:Type}(a:Int->Int->Int->Option R):Option R:=
 a 0 0 0
def P9{R:Type}(a b:Int)(c:ay)(d e:af)(f:Int->Int->Int->Int->ay->af->af->Option R)(g:Int->Int->ay->af->af->Option R)(h:Int->ay->af->af->Option R):Option R:=
 bif b<a then zd b (List.length c.2.1) (zd a (List.length c.2.1) ((sO (List.getD c.2.1 b.toNat (0,0,0,bs [],[],())) (List.getD c.2.1 a.toNat (0,0,0,bs [],[],()))).bind fun r9=>bif r9 then f 10 3 a a c d e else g a (zW zI (b+1)) c d e)) else h a c d e
def zx8{R:Type}(a b c d:Int)(e:ay)(f g:af)(h:Int->Int->Int->Option R):Option R:=
 h a b c
def TB{R:Type}(a:Int)(b:ay)(c d:af)(e:Int->ay->af->af->Option R):Option R:=
 e (zW zI (a+1)) b c d
def Fc:Nat->Int->ay->af->af->Option (Sum lY lX)
 |0,_,_,_,_=>none
 |k+1,v0,v1,v2,v3=>P7 v0 v1 v2 v3 (fun a0 a1 a2 a3 a4 a5=>some (.inl (a0,a1,a2,a3,a4,a5))) (fun a0 a1 a2 a3=>Fc k a0 a1 a2 a3) (fun a0 a1 a2=>some (.inr (a0,a1,a2)))
def Ff:Nat->Int->Int->ay->af->af->Option (Sum (Int×Int×Int×Int×ay×af×af) (Int×ay×af×af))
 |0,_,_,_,_,_=>none
 |k+1,v0,v1,v2,v3,v4=>P9 v0 v1 v2 v3 v4 (fun a0 a1 a2 a3 a4 a5 a6=>some (.inl (a0,a1,a2,a3,a4,a5,a6))) (fun a0 a1 a2 a3 a4=>Ff k a0 a1 a2 a3 a4) (fun a0 a1 a2 a3=>some (.inr (a0,a1,a2,a3)))
def Fe:Nat->Int->ay->af->af->Option (Sum jy Unit)
 |0,_,_,_,_=>none
 |k+1,v0,v1,v2,v3=>P8 v0 v1 v2 v3 (fun a0 a1 a2=>some (.inl (a0,a1,a2))) (fun a0 a1 a2 a3 a4=>(Ff ai a0 a1 a2 a3 a4).bind fun e=>Sum.elim (fun(we:(Int×Int×Int×Int×ay×af×af))=>zx8 we.1 we.2.1 we.2.2.1 we.2.2.2.1 we.2.2.2.2.1 we.2.2.2.2.2.1 we.2.2.2.2.2.2 (fun a0 a1 a2=>some (.inl (a0,a1,a2)))) (fun(we:(Int×ay×af×af))=>TB we.1 we.2.1 we.2.2.1 we.2.2.2 (fun a0 a1 a2 a3=>Fe k a0 a1 a2 a3)) e) (some (.inr ()))
def sM(a:ay)(b c:af):Option jy:=
 Tz a b c (fun a0 a1 a2=>some (a0,a1,a2)) (fun a0 a1 a2 a3=>(Fc ai a0 a1 a2 a3).bind fun e=>Sum.elim (fun(we:lY)=>zx5 we.1 we.2.1 we.2.2.1 we.2.2.2.1 we.2.2.2.2.1 we.2.2.2.2.2 (fun a0 a1 a2=>some (a0,a1,a2))) (fun(we:lX)=>TA we.1 we.2.1 we.2.2 (fun a0 a1 a2=>some (a0,a1,a2)) (fun a0 a1 a2 a3=>(Fe ai a0 a1 a2 a3).bind fun e=>Sum.elim (fun(we:jy)=>zx6 we.1 we.2.1 we.2.2 (fun a0 a1 a2=>some (a0,a1,a2))) (fun(we:Unit)=>zx7 (fun a0 a1 a2=>some (a0,a1,a2))) e)) e)
def TR{R:Type}(a:au)(b:Bool->Option R)(c:Int->au->Option R):Option R:=
 bif 200<((List.length a.1.2.2.1):Int) then b true else bif 300<((List.length a.2.2.1):Int) then b true else bif 300<((List.length a.2.2.2.1):Int) then b true else c 0 a
def zxm{R:Type}(a:Int)(b:au)(c:Bool->Option R)(d:Int->au->Option R)(e:Option R):Option R:=
 bif a<((List.length b.2.2.2.1):Int) then zd a (List.length b.2.2.2.1) (bif 1200<(((List.getD b.2.2.2.1 a.toNat (0,bs [],())).2.1).size:Int) then c true else d (zW zI (a+1)) b) else e
def zxn{R:Type}(a:Bool)(b:Bool->Option R):Option R:=
 b a
def zxo{R:Type}(a:Bool->Option R):Option R:=
 a false
def Qf:Nat->Int->au->Option (Sum Bool Unit)
 |0,_,_=>none
 |k+1,v0,v1=>zxm v0 v1 (fun a0=>some (.inl a0)) (fun a0 a1=>Qf k a0 a1) (some (.inr ()))
def mI(a:au):Option Bool:=
 TR a (fun a0=>some a0) (fun a0 a1=>(Qf ai a0 a1).bind fun e=>Sum.elim (fun(we:Bool)=>zxn we (fun a0=>some a0)) (fun(we:Unit)=>zxo (fun a0=>some a0)) e)
def TP{R:Type}(a:au)(b:au->Option R):Option R:=
 (Ix a.1).bind fun r1=>bif(List.length ([]:List Int)+List.length a.2.2.1)*8<=140737488355328 then bif(List.length ([]:List bj)+List.length a.2.2.2.1)*24<=140737488355328 then b (r1,a.2.1,[]++a.2.2.1,[]++a.2.2.2.1,()) else none else none
def sQ(a:au):Option au:=
 TP a (fun a0=>some a0)
def TT{R:Type}(a:al)(b c:Int)(d:al->Int->Int->Int->Option R):Option R:=
 d a b c 0
def Qg{R:Type}(a:al)(b c d:Int)(e:Int->Option R)(f:al->Int->Int->Int->Option R)(g:Option R):Option R:=
 bif d<b then zd d (List.length a) (bif(List.getD a d.toNat (0,bs [],())).1=c then e d else f a b c (zW zI (d+1))) else g
def zxq{R:Type}(a:Int)(b:Int->Option R):Option R:=
 b a
def zxr{R:Type}(a:Int->Option R):Option R:=
 a (-1:Int)
def Fi:Nat->al->Int->Int->Int->Option (Sum Int Unit)
 |0,_,_,_,_=>none
 |k+1,v0,v1,v2,v3=>Qg v0 v1 v2 v3 (fun a0=>some (.inl a0)) (fun a0 a1 a2 a3=>Fi k a0 a1 a2 a3) (some (.inr ()))
def qJ(a:al)(b c:Int):Option Int:=
 TT a b c (fun a0 a1 a2 a3=>(Fi ai a0 a1 a2 a3).bind fun e=>Sum.elim (fun(we:Int)=>zxq we (fun a0=>some a0)) (fun(we:Unit)=>zxr (fun a0=>some a0)) e)
def TM{R:Type}(a:au)(b:Int->Int->Int->Option R)(c:Int->Int->au->Option R):Option R:=
 (BH a.1).bind fun r1=>bif !r1 then b 1 1 0 else(yF a.1 (39:Int)).bind fun r2=>bif r2<0 then b 9 1 1 else c r2 0 a
def Qd{R:Type}(a b:Int)(c:au)(d:Int->Int->Int->Int->au->Option R)(e:Int->Int->au->Option R)(f:Int->au->Option R):Option R:=
 bif b<((List.length c.2.2.1):Int) then zd b (List.length c.2.2.1) ((yF c.1 (List.getD c.2.2.1 b.toNat (0:Int))).bind fun r3=>bif r3<0 then d 9 2 b a c else zd b (List.length c.2.2.1) (bif List.getD c.2.2.1 b.toNat 0=39 then d 1 2 b a c else bif 0<=b then bif b<=(((List.length c.2.2.1):Nat):Int) then zd b (List.length c.2.2.1) ((Ik (List.drop 0 (List.take b.toNat c.2.2.1)) (List.getD c.2.2.1 b.toNat (0:Int))).bind fun r4=>bif r4 then d 10 2 b a c else e a (zW zI (b+1)) c) else none else none)) else f a c
def zxj{R:Type}(a b c d:Int)(e:au)(f:Int->Int->Int->Option R):Option R:=
 f a b c
def TN{R:Type}(a:Int)(b:au)(c:Int->Int->au->Option R):Option R:=
 c a 0 b
def Qe{R:Type}(a b:Int)(c:au)(d:Int->Int->Int->au->Option R)(e:Int->Int->au->Option R)(f:au->Option R):Option R:=
 bif b<((List.length c.2.2.2.1):Int) then zd b (List.length c.2.2.2.1) (bif(List.getD c.2.2.2.1 b.toNat (0,bs [],())).1<0 then d 1 3 b c else zd b (List.length c.2.2.2.1) (bif 16<(List.getD c.2.2.2.1 b.toNat (0,bs [],())).1 then d 1 3 b c else zd b (List.length c.2.2.2.1) ((qJ c.2.2.2.1 b (List.getD c.2.2.2.1 b.toNat (0,bs [],())).1).bind fun r5=>bif 0<=r5 then d 10 3 b c else zd a (List.length c.1.2.2.1) (zd b (List.length c.2.2.2.1) ((mP (List.getD c.1.2.2.1 a.toNat (0,0,0,0,0,())) (List.getD c.2.2.2.1 b.toNat (0,bs [],())).2.1).bind fun r6=>bif !decide (r6=0) then d r6 3 b c else e a (zW zI (b+1)) c))))) else f c
def zxk{R:Type}(a b c:Int)(d:au)(e:Int->Int->Int->Option R):Option R:=
 e a b c
def TO{R:Type}(a:au)(b:Int->Int->Int->Option R):Option R:=
 (qJ a.2.2.2.1 ((List.length a.2.2.2.1):Int) (0:Int)).bind fun r7=>bif r7<0 then b 15 3 ((List.length a.2.2.2.1):Int) else b 0 0 0
def Fg:Nat->Int->Int->au->Option (Sum (Int×Int×Int×Int×au) (Int×au))
 |0,_,_,_=>none
 |k+1,v0,v1,v2=>Qd v0 v1 v2 (fun a0 a1 a2 a3 a4=>some (.inl (a0,a1,a2,a3,a4))) (fun a0 a1 a2=>Fg k a0 a1 a2) (fun a0 a1=>some (.inr (a0,a1)))
def Fh:Nat->Int->Int->au->Option (Sum (Int×Int×Int×au) au)
 |0,_,_,_=>none
 |k+1,v0,v1,v2=>Qe v0 v1 v2 (fun a0 a1 a2 a3=>some (.inl (a0,a1,a2,a3))) (fun a0 a1 a2=>Fh k a0 a1 a2) (fun a0=>some (.inr a0))
def sP(a:au):Option jy:=
 TM a (fun a0 a1 a2=>some (a0,a1,a2)) (fun a0 a1 a2=>(Fg ai a0 a1 a2).bind fun e=>Sum.elim (fun(we:(Int×Int×Int×Int×au))=>zxj we.1 we.2.1 we.2.2.1 we.2.2.2.1 we.2.2.2.2 (fun a0 a1 a2=>some (a0,a1,a2))) (fun(we:(Int×au))=>TN we.1 we.2 (fun a0 a1 a2=>(Fh ai a0 a1 a2).bind fun e=>Sum.elim (fun(we:(Int×Int×Int×au))=>zxk we.1 we.2.1 we.2.2.1 we.2.2.2 (fun a0 a1 a2=>some (a0,a1,a2))) (fun(we:au)=>TO we (fun a0 a1 a2=>some (a0,a1,a2))) e)) e)
def zy1{R:Type}(a:(List ByteArray))(b:(List ByteArray)->aO->Int->Option R):Option R:=
 b a [] 0
def zy2{R:Type}(a:(List ByteArray))(b:aO)(c:Int)(d:(List ByteArray)->aO->Int->Option R)(e:aO->Option R):Option R:=
 bif c<((List.length a):Int) then zd c (List.length a) (zd (zW zI (c+1)) (List.length a) (bif(List.length b+List.length ([(List.getD a c.toNat (bs []),List.getD a (zW zI (c+(1:Int))).toNat (bs []),())]:List dG))*32<=140737488355328 then d a (b++([(List.getD a c.toNat (bs []),List.getD a (zW zI (c+(1:Int))).toNat (bs []),())]:List dG)) (zW zI (c+2)) else none)) else e b
def zy3{R:Type}(a:aO)(b:aO->Option R):Option R:=
 b a
def T5:Nat->(List ByteArray)->aO->Int->Option aO
 |0,_,_,_=>none
 |k+1,v0,v1,v2=>zy2 v0 v1 v2 (fun a0 a1 a2=>T5 k a0 a1 a2) (fun a0=>some a0)
def sU(a:(List ByteArray)):Option aO:=
 zy1 a (fun a0 a1 a2=>(T5 ai a0 a1 a2).bind fun e=>zy3 e (fun a0=>some a0))
def zxy{R:Type}(a:bT->(List Int)->Int->Option R):Option R:=
 YG.bind fun r1=>a [] r1 0
def zxz{R:Type}(a:bT)(b:(List Int))(c:Int)(d:bT->(List Int)->Int->Option R)(e:bT->Option R):Option R:=
 bif c<((List.length b):Int) then zd c (List.length b) (bif List.getD b c.toNat 0=12 then zd c (List.length b) (zd c (List.length b) (bif(List.length a+List.length ([((4:Int),List.getD b c.toNat (0:Int),List.getD b c.toNat (0:Int),bs [],([]:List dG),())]:List aF))*64<=140737488355328 then d (a++([(4,List.getD b c.toNat 0,List.getD b c.toNat 0,bs [],[],())]:List aF)) b (zW zI (c+1)) else none)) else zd c (List.length b) (zd c (List.length b) (bif(List.length a+List.length ([((1:Int),List.getD b c.toNat (0:Int),List.getD b c.toNat (0:Int),bs [],([]:List dG),())]:List aF))*64<=140737488355328 then d (a++([(1,List.getD b c.toNat 0,List.getD b c.toNat 0,bs [],[],())]:List aF)) b (zW zI (c+1)) else none))) else e a
def zy0{R:Type}(a:bT)(b:bT->Option R):Option R:=
 b a
def T3:Nat->bT->(List Int)->Int->Option bT
 |0,_,_,_=>none
 |k+1,v0,v1,v2=>zxz v0 v1 v2 (fun a0 a1 a2=>T3 k a0 a1 a2) (fun a0=>some a0)
def vP:Option bT:=
 zxy (fun a0 a1 a2=>(T3 ai a0 a1 a2).bind fun e=>zy0 e (fun a0=>some a0))
def zxx{R:Type}(a b c:ByteArray)(d:al->Option R):Option R:=
 d ([(0,a,()),(2,b,()),(3,b,()),(12,b,()),(9,b,()),(15,c,())]:List bj)
def vO(a b c:ByteArray):Option al:=
 zxx a b c (fun a0=>some a0)
def zxs{R:Type}(a:aq->Option R):Option R:=
 (sU ([(bs [48,49,48,48]),bs [49,49,48,48],bs [48,49,49,48],bs [49,49,49,48],bs [48,50,48,48],bs [49,50,48,48],bs [48,50,49,48],bs [49,50,49,48],bs [48,50,50,48],bs [49,50,50,48],bs [48,50,51,48],bs [49,50,51,48],bs [48,52,48,48],bs [49,52,48,48],bs [48,52,49,48],bs [49,52,49,48],bs [48,52,50,48],bs [49,52,50,48],bs [48,52,51,48],bs [49,52,51,48],bs [48,56,48,48],bs [49,56,48,52],bs [48,56,49,48],(bs [49,56,49,52])]:List ByteArray)).bind fun r1=>(sU ([(bs [48,53,49]),bs [53,49,48,49,48,49,53,49,49,51,52,52],bs [48,50,49],bs [50,49,48,49,48,49,50,49,49,51,52,52],bs [48,49,50],(bs [49,48,48,49,52,48,49,48,48,49,49,48])]:List ByteArray)).bind fun r2=>(sU ([(bs [48,48]),bs [48,48,48],bs [48,53],bs [49,48,48],bs [49,52],bs [49,49,49],bs [53,49],bs [49,49,54],bs [53,52],bs [49,48,49],bs [57,49],bs [57,48,55],bs [57,54],(bs [57,48,57])]:List ByteArray)).bind fun r3=>vP.bind fun r4=>bif(List.length r4+List.length ([((2:Int),(13:Int),(0:Int),bs [],([]:List dG),()),((2:Int),(18:Int),(0:Int),bs [],([]:List dG),()),((2:Int),(90:Int),(0:Int),bs [],([]:List dG),()),((5:Int),(22:Int),(22:Int),bs [],r2,()),((5:Int),(39:Int),(39:Int),bs [],r3,()),((1:Int),(43:Int),(43:Int),bs [],([]:List dG),()),((1:Int),(48:Int),(48:Int),bs [],([]:List dG),()),((3:Int),(0:Int),(26:Int),bs [53,57,57,57],([]:List dG),())]:List aF))*64<=140737488355328 then vP.bind fun r5=>(sK r2).bind fun r6=>(sK r3).bind fun r7=>bif(List.length r5+List.length ([((2:Int),(26:Int),(0:Int),bs [],([]:List dG),()),((2:Int),(43:Int),(0:Int),bs [],([]:List dG),()),((5:Int),(22:Int),(22:Int),bs [],r6,()),((5:Int),(39:Int),(39:Int),bs [],r7,()),((1:Int),(48:Int),(48:Int),bs [],([]:List dG),())]:List aF))*64<=140737488355328 then(RI (0:Int)).bind fun r8=>(vO (bs [57,54]) (bs [51,48]) (bs [49,50])).bind fun r9=>zd 0 2 ((RI (1:Int)).bind fun kV=>(sK r1).bind fun lF=>bif(List.length ([]:List Int)+List.length ([(2:Int),(3:Int),(4:Int),(7:Int),(11:Int),(12:Int),(32:Int),(37:Int),(41:Int),(42:Int),(70:Int)]:List Int))*8<=140737488355328 then(vO (bs [57,48,57]) (bs [57,48,52]) (bs [57,48,50])).bind fun qu=>zd 1 2 (a (List.set (List.set (List.replicate 2 ((0,0,[],()),([],[],()),[],[],())) ((0:Int)).toNat (r8,(r1,r4++([(2,13,0,bs [],[],()),(2,18,0,bs [],[],()),(2,90,0,bs [],[],()),(5,22,22,bs [],r2,()),(5,39,39,bs [],r3,()),(1,43,43,bs [],[],()),(1,48,48,bs [],[],()),(3,0,26,bs [53,57,57,57],[],())]:List aF),()),([2,3,4,7,11,12,32,37,41,42,70]:List Int),r9,())) ((1:Int)).toNat (kV,(lF,r5++([(2,26,0,bs [],[],()),(2,43,0,bs [],[],()),(5,22,22,bs [],r6,()),(5,39,39,bs [],r7,()),(1,48,48,bs [],[],())]:List aF),()),[]++([2,3,4,7,11,12,32,37,41,42,70]:List Int),qu,()),4096,())) else none) else none else none
def Bz:Option aq:=
 zxs (fun a0=>some a0)
def TY{R:Type}(a:aq)(b:Bool->Option R):Option R:=
 zd 0 2 ((mI (List.getD a.1 ((0:Int)).toNat ((0,0,[],()),([],[],()),[],[],()))).bind fun r1=>bif r1 then b true else zd 1 2 ((mI (List.getD a.1 ((1:Int)).toNat ((0,0,[],()),([],[],()),[],[],()))).bind fun r2=>bif r2 then b true else zd 0 2 ((lQ (List.getD a.1 ((0:Int)).toNat ((0,0,[],()),([],[],()),[],[],())).2.1).bind fun r3=>bif r3 then b true else zd 1 2 ((lQ (List.getD a.1 ((1:Int)).toNat ((0,0,[],()),([],[],()),[],[],())).2.1).bind fun r4=>b r4))))
def mJ(a:aq):Option Bool:=
 TY a (fun a0=>some a0)
def TX{R:Type}(a:aq)(b:Int->aq->aq->Option R):Option R:=
 b 0 a (List.replicate 2 ((0,0,[],()),([],[],()),[],[],()),0,())
def GQ{R:Type}(a:Int)(b c:aq)(d:Int->aq->aq->Option R)(e:aq->aq->Option R):Option R:=
 bif a<2 then zd a 2 ((sN (List.getD b.1 a.toNat ((0,0,[],()),([],[],()),[],[],())).2.1).bind fun r1=>zd a 2 ((sQ (List.getD b.1 a.toNat ((0,0,[],()),([],[],()),[],[],()))).bind fun r2=>zd a 2 (zd a 2 (d (zW zI (a+1)) (List.set (List.set b.1 a.toNat r2) a.toNat ((List.getD (List.set b.1 a.toNat r2) a.toNat ((0,0,[],()),([],[],()),[],[],())).1,r1,(List.getD (List.set b.1 a.toNat r2) a.toNat ((0,0,[],()),([],[],()),[],[],())).2.2.1,(List.getD (List.set b.1 a.toNat r2) a.toNat ((0,0,[],()),([],[],()),[],[],())).2.2.2.1,()),b.2.1,()) c)))) else e b c
def zxw{R:Type}(a b:aq)(c:aq->Option R):Option R:=
 c a
def Fk:Nat->Int->aq->aq->Option (aq×aq)
 |0,_,_,_=>none
 |k+1,v0,v1,v2=>GQ v0 v1 v2 (fun a0 a1 a2=>Fk k a0 a1 a2) (fun a0 a1=>some (a0,a1))
def sS(a:aq):Option aq:=
 TX a (fun a0 a1 a2=>(Fk ai a0 a1 a2).bind fun e=>zxw e.1 e.2 (fun a0=>some a0))
def TV{R:Type}(a:aq)(b:Int->Int->Int->Option R)(c:Int->aq->Option R):Option R:=
 bif a.2.1<1 then b 5 2 0 else bif 65535<a.2.1 then b 5 2 0 else c 0 a
def GO{R:Type}(a:Int)(b:aq)(c:Int->Int->Int->Option R)(d:Int->aq->Option R)(e:Option R):Option R:=
 bif a<2 then zd a 2 ((sP (List.getD b.1 a.toNat ((0,0,[],()),([],[],()),[],[],()))).bind fun r1=>bif !decide (r1.1=0) then c r1.1 a 1 else zd a 2 (zd a 2 (zd (zW zI (1-a)) 2 ((sM (List.getD b.1 a.toNat ((0,0,[],()),([],[],()),[],[],())).2.1 (List.getD b.1 a.toNat ((0,0,[],()),([],[],()),[],[],())).1 (List.getD b.1 (zW zI (1-a)).toNat ((0,0,[],()),([],[],()),[],[],())).1).bind fun r2=>bif !decide (r2.1=0) then c r2.1 a 2 else d (zW zI (a+1)) b)))) else e
def zxu{R:Type}(a b c:Int)(d:Int->Int->Int->Option R):Option R:=
 d a b c
def zxv{R:Type}(a:Int->Int->Int->Option R):Option R:=
 a 0 0 0
def Fj:Nat->Int->aq->Option (Sum jy Unit)
 |0,_,_=>none
 |k+1,v0,v1=>GO v0 v1 (fun a0 a1 a2=>some (.inl (a0,a1,a2))) (fun a0 a1=>Fj k a0 a1) (some (.inr ()))
def sR(a:aq):Option jy:=
 TV a (fun a0 a1 a2=>some (a0,a1,a2)) (fun a0 a1=>(Fj ai a0 a1).bind fun e=>Sum.elim (fun(we:jy)=>zxu we.1 we.2.1 we.2.2 (fun a0 a1 a2=>some (a0,a1,a2))) (fun(we:Unit)=>zxv (fun a0 a1 a2=>some (a0,a1,a2))) e)
def TZ{R:Type}(a:aq)(b:Bool->Option R):Option R:=
 (sR a).bind fun r1=>b (decide (r1.1=0))
def sT(a:aq):Option Bool:=
 TZ a (fun a0=>some a0)
def T7{R:Type}(a:Int)(b:ByteArray)(c:Int->ByteArray->(List ByteArray)->(List Int)->Int->Option R):Option R:=
 c a b [] [] 0
def T8{R:Type}(a:Int)(b:ByteArray)(c:(List ByteArray))(d:(List Int))(e:Int)(f:ByteArray->(List ByteArray)->Int->(List Int)->Int->(List ByteArray)->(List Int)->Int->Option R)(g:Int->ByteArray->(List ByteArray)->(List Int)->Int->Option R)(h:ByteArray->(List ByteArray)->(List Int)->Int->Option R):Option R:=
 bif 2<=zW zI ((b.size:Int)-e) then zd e b.size (zd (zW zI (e+1)) b.size (bif zW zI (zW zI (zW zI (ze b e.toNat)*256)+zW zI (ze b (zW zI (e+(1:Int))).toNat))=0 then f b c 0 d (zW zI (e+2)) c d e else bif a<zW zI (zW zI (zW zI (ze b e.toNat)*256)+zW zI (ze b (zW zI (e+(1:Int))).toNat)) then f b c 0 d (zW zI (e+2)) c d e else bif zW zI (zW zI ((b.size:Int)-e)-2)<zW zI (zW zI (zW zI (ze b e.toNat)*256)+zW zI (ze b (zW zI (e+(1:Int))).toNat)) then f b c (zW zI ((b.size:Int)-e)) d (-1:Int) c d e else bif 0<=zW zI (zW zI (e+2)+zW zI (zW zI (zW zI (ze b e.toNat)*256)+zW zI (ze b (zW zI (e+(1:Int))).toNat))) then bif zW zI (zW zI (e+2)+zW zI (zW zI (zW zI (ze b e.toNat)*256)+zW zI (ze b (zW zI (e+(1:Int))).toNat)))<=(b.size:Int) then bif 0<=zW zI (e+2) then bif zW zI (e+2)<=(((zW zI (zW zI (e+2)+zW zI (zW zI (zW zI (ze b e.toNat)*256)+zW zI (ze b (zW zI (e+(1:Int))).toNat)))).toNat:Nat):Int) then bif(List.length c+List.length ([(b.extract (zW zI (e+(2:Int))).toNat (zW zI (zW zI (e+(2:Int))+zW zI (zW zI (zW zI (ze b e.toNat)*(256:Int))+zW zI (ze b (zW zI (e+(1:Int))).toNat)))).toNat)]:List ByteArray))*16<=140737488355328 then bif(List.length d+List.length ([(zW zI (zW zI (e+(2:Int))+zW zI (zW zI (zW zI (ze b e.toNat)*(256:Int))+zW zI (ze b (zW zI (e+(1:Int))).toNat))))]:List Int))*8<=140737488355328 then g a b (c++([(b.extract (zW zI (e+(2:Int))).toNat (zW zI (zW zI (e+2)+zW zI (zW zI (zW zI (ze b e.toNat)*256)+zW zI (ze b (zW zI (e+(1:Int))).toNat)))).toNat)]:List ByteArray)) (d++([(zW zI (zW zI (e+2)+zW zI (zW zI (zW zI (ze b e.toNat)*256)+zW zI (ze b (zW zI (e+(1:Int))).toNat))))]:List Int)) (zW zI (zW zI (e+2)+zW zI (zW zI (zW zI (ze b e.toNat)*256)+zW zI (ze b (zW zI (e+(1:Int))).toNat)))) else none else none else none else none else none else none)) else h b c d e
def zy5{R:Type}(a:ByteArray)(b:(List ByteArray))(c:Int)(d:(List Int))(e:Int)(f:(List ByteArray))(g:(List Int))(h:Int)(i:(List ByteArray)->Int->(List Int)->Int->Option R):Option R:=
 i b c d e
def zy6{R:Type}(a:ByteArray)(b:(List ByteArray))(c:(List Int))(d:Int)(e:(List ByteArray)->Int->(List Int)->Int->Option R):Option R:=
 e b (zW zI ((a.size:Int)-d)) c (-1:Int)
def GR:Nat->Int->ByteArray->(List ByteArray)->(List Int)->Int->Option (Sum (ByteArray×(List ByteArray)×Int×(List Int)×Int×(List ByteArray)×(List Int)×Int) (ByteArray×(List ByteArray)×(List Int)×Int))
 |0,_,_,_,_,_=>none
 |k+1,v0,v1,v2,v3,v4=>T8 v0 v1 v2 v3 v4 (fun a0 a1 a2 a3 a4 a5 a6 a7=>some (.inl (a0,a1,a2,a3,a4,a5,a6,a7))) (fun a0 a1 a2 a3 a4=>GR k a0 a1 a2 a3 a4) (fun a0 a1 a2 a3=>some (.inr (a0,a1,a2,a3)))
def sV(a:Int)(b:ByteArray):Option ((List ByteArray)×Int×(List Int)×Int):=
 T7 a b (fun a0 a1 a2 a3 a4=>(GR ai a0 a1 a2 a3 a4).bind fun e=>Sum.elim (fun(we:(ByteArray×(List ByteArray)×Int×(List Int)×Int×(List ByteArray)×(List Int)×Int))=>zy5 we.1 we.2.1 we.2.2.1 we.2.2.2.1 we.2.2.2.2.1 we.2.2.2.2.2.1 we.2.2.2.2.2.2.1 we.2.2.2.2.2.2.2 (fun a0 a1 a2 a3=>some (a0,a1,a2,a3))) (fun(we:(ByteArray×(List ByteArray)×(List Int)×Int))=>zy6 we.1 we.2.1 we.2.2.1 we.2.2.2 (fun a0 a1 a2 a3=>some (a0,a1,a2,a3))) e)
def zyb{R:Type}(a b:bZ)(c:Bool->Option R)(d:bZ->bZ->Int->Option R):Option R:=
 bif !decide (((List.length a):Int)=((List.length b):Int)) then c false else d a b 0
def zyc{R:Type}(a b:bZ)(c:Int)(d:Bool->Option R)(e:bZ->bZ->Int->Option R)(f:Option R):Option R:=
 bif c<((List.length a):Int) then zd c (List.length a) (zd c (List.length b) (bif !(decide ((List.getD a c.toNat (0,0,bs [],0,())).1=(List.getD b c.toNat (0,0,bs [],0,())).1)&&(decide ((List.getD a c.toNat (0,0,bs [],0,())).2.1=(List.getD b c.toNat (0,0,bs [],0,())).2.1)&&(decide ((List.getD a c.toNat (0,0,bs [],0,())).2.2.1=(List.getD b c.toNat (0,0,bs [],0,())).2.2.1)&&(decide ((List.getD a c.toNat (0,0,bs [],0,())).2.2.2.1=(List.getD b c.toNat (0,0,bs [],0,())).2.2.2.1)&&true)))) then d false else e a b (zW zI (c+1)))) else f
def zyd{R:Type}(a:Bool)(b:Bool->Option R):Option R:=
 b a
def zye{R:Type}(a:Bool->Option R):Option R:=
 a true
def Ud:Nat->bZ->bZ->Int->Option (Sum Bool Unit)
 |0,_,_,_=>none
 |k+1,v0,v1,v2=>zyc v0 v1 v2 (fun a0=>some (.inl a0)) (fun a0 a1 a2=>Ud k a0 a1 a2) (some (.inr ()))
def vQ(a b:bZ):Option Bool:=
 zyb a b (fun a0=>some a0) (fun a0 a1 a2=>(Ud ai a0 a1 a2).bind fun e=>Sum.elim (fun(we:Bool)=>zyd we (fun a0=>some a0)) (fun(we:Unit)=>zye (fun a0=>some a0)) e)
def Ub{R:Type}(a:al)(b:Int)(c:al->Int->Int->Int->Option R):Option R:=
 c a b ((List.length a):Int) 0
def Fl{R:Type}(a:al)(b c d:Int)(e:Int->Bool->Int->Option R)(f:al->Int->Int->Int->Option R)(g:Int->Int->Option R):Option R:=
 bif d<((List.length a):Int) then bif b<c then e b true c else zd d (List.length a) (bif b<(((List.getD a d.toNat (0,bs [],())).2.1).size:Int) then e b true c else zd d (List.length a) (f a b (zW zI (c+(((List.getD a d.toNat (0,bs [],())).2.1).size:Int))) (zW zI (d+1)))) else g b c
def zy8{R:Type}(a:Int)(b:Bool)(c:Int)(d:Bool->Option R):Option R:=
 d b
def zy9{R:Type}(a b:Int)(c:Bool->Option R):Option R:=
 c (decide (a<b))
def Qh:Nat->al->Int->Int->Int->Option (Sum JB (Int×Int))
 |0,_,_,_,_=>none
 |k+1,v0,v1,v2,v3=>Fl v0 v1 v2 v3 (fun a0 a1 a2=>some (.inl (a0,a1,a2))) (fun a0 a1 a2 a3=>Qh k a0 a1 a2 a3) (fun a0 a1=>some (.inr (a0,a1)))
def nY(a:al)(b:Int):Option Bool:=
 Ub a b (fun a0 a1 a2 a3=>(Qh ai a0 a1 a2 a3).bind fun e=>Sum.elim (fun(we:JB)=>zy8 we.1 we.2.1 we.2.2 (fun a0=>some a0)) (fun(we:(Int×Int))=>zy9 we.1 we.2 (fun a0=>some a0)) e)
def Uf{R:Type}(a:al)(b:Int)(c:al->Int->ByteArray->Int->Option R):Option R:=
 c a b (bs []) 0
def Fm{R:Type}(a:al)(b:Int)(c:ByteArray)(d:Int)(e:al->Int->ByteArray->Int->Option R)(f:ByteArray->Option R):Option R:=
 bif d<((List.length a):Int) then zd d (List.length a) (bif(List.getD a d.toNat (0,bs [],())).1=b then zd d (List.length a) (bif c.size+((List.getD a d.toNat (0,bs [],())).2.1).size<=9223372036854775807 then e a b (c++(List.getD a d.toNat (0,bs [],())).2.1) (zW zI (d+1)) else none) else e a b c (zW zI (d+1))) else f c
def zyf{R:Type}(a:ByteArray)(b:ByteArray->Option R):Option R:=
 b a
def Qi:Nat->al->Int->ByteArray->Int->Option ByteArray
 |0,_,_,_,_=>none
 |k+1,v0,v1,v2,v3=>Fm v0 v1 v2 v3 (fun a0 a1 a2 a3=>Qi k a0 a1 a2 a3) (fun a0=>some a0)
def sX(a:al)(b:Int):Option ByteArray:=
 Uf a b (fun a0 a1 a2 a3=>(Qi ai a0 a1 a2 a3).bind fun e=>zyf e (fun a0=>some a0))
def T9{R:Type}(a:Int)(b:ByteArray)(c:(List Int)->Option R):Option R:=
 (sV a b).bind fun r1=>bif 0<=r1.2.2.2 then bif(List.length r1.2.2.1+List.length ([r1.2.2.2]:List Int))*8<=140737488355328 then c (r1.2.2.1++([r1.2.2.2]:List Int)) else none else c r1.2.2.1
def sW(a:Int)(b:ByteArray):Option (List Int):=
 T9 a b (fun a0=>some a0)
def D8{R:Type}(a:Bool->Option R):Option R:=
 Bz.bind fun r1=>(yw r1).bind fun r2=>Sum.elim (fun(CP:Int)=>(yw (List.replicate 2 ((0,0,[],()),([],[],()),[],[],()),0,())).bind fun r3=>Sum.elim (fun(sj:Int)=>bif !decide (CP=0) then a false else a false) (fun(sj:(Int×(aq×(Option ag×Option ag)×Int)))=>bif !decide (CP=0) then a false else a false) r3) (fun(CP:(Int×(aq×(Option ag×Option ag)×Int)))=>(yw (List.replicate 2 ((0,0,[],()),([],[],()),[],[],()),0,())).bind fun r4=>Sum.elim (fun(wr4:Int)=>bif !decide (CP.1=0) then a false else(BF CP.2 ([(0,bs [0],()),(1,bs [0,1,65],()),(0,bs [0],())]:List bj)).bind fun r5=>bif wr4=1 then(vQ r5.1 ([(1,3,bs [],1,()),(0,4,bs [],1,())]:List lW)).bind fun r6=>bif r6 then(FT r5.2).bind fun r7=>bif r7.1=1 then(FR r7.2 (0:Int)).bind fun r8=>bif r8.1 then(FR r8.2 (1:Int)).bind fun r9=>bif !r9.1 then(RH r9.2 (1:Int)).bind fun kV=>a (decide (kV.1=0)) else a false else a false else a false else a false else a false) (fun(wr4:(Int×(aq×(Option ag×Option ag)×Int)))=>bif !decide (CP.1=0) then a false else(BF CP.2 ([(0,bs [0],()),(1,bs [0,1,65],()),(0,bs [0],())]:List bj)).bind fun lF=>bif wr4.1=1 then(vQ lF.1 ([(1,3,bs [],1,()),(0,4,bs [],1,())]:List lW)).bind fun qu=>bif qu then(FT lF.2).bind fun nw=>bif nw.1=1 then(FR nw.2 (0:Int)).bind fun vq=>bif vq.1 then(FR vq.2 (1:Int)).bind fun sf=>bif !sf.1 then(RH sf.2 (1:Int)).bind fun xK=>a (decide (xK.1=0)) else a false else a false else a false else a false else a false) r4) r2
def vY:Option Bool:=
 D8 (fun a0=>some a0)
def XQ{R:Type}(a:aq)(b:al)(c:Int)(d:Option R)(e:Bool->(aq×(Option ag×Option ag)×Int)->Option R):Option R:=
 (mJ a).bind fun r1=>bif r1 then d else(nY b c).bind fun r2=>bif r2 then d else(sT a).bind fun r3=>bif !r3 then d else(sS a).bind fun r4=>(yw r4).bind fun r5=>Sum.elim (fun(K9:Int)=>bif K9=0 then d else d) (fun(K9:(Int×(aq×(Option ag×Option ag)×Int)))=>bif K9.1=0 then e true K9.2 else e false K9.2) r5
def FW(a:aq)(b:al)(c:Int):Option (Sum Unit (Bool×(aq×(Option ag×Option ag)×Int))):=
 XQ a b c (some (.inl ())) (fun a0 a1=>some (.inr (a0,a1)))
def XM{R:Type}(a:aq)(b:al)(c:Bool->Option R)(d:al->Int->Int->Int->Bool->bZ->Int->Int->aq->(aq×(Option ag×Option ag)×Int)->Option R):Option R:=
 (FW a b (2500:Int)).bind fun r1=>Sum.elim (fun(Sk:Unit)=>vY.bind fun r2=>bif !r2 then vY.bind fun r3=>c r3 else vY.bind fun r4=>c r4) (fun(Sk:(Bool×(aq×(Option ag×Option ag)×Int)))=>vY.bind fun r5=>bif !r5 then vY.bind fun r6=>c r6 else bif !Sk.1 then vY.bind fun r7=>c r7 else(BF Sk.2 b).bind fun r8=>d b 0 0 0 Sk.1 r8.1 ((List.length r8.1):Int) 0 a r8.2) r1
def D6{R:Type}(a:al)(b c d:Int)(e:Bool)(f:bZ)(g h:Int)(i:aq)(j:(aq×(Option ag×Option ag)×Int))(l:al->Int->Int->Int->Bool->bZ->Int->Int->aq->(aq×(Option ag×Option ag)×Int)->Option R)(m:al->Bool->Int->Int->Int->Bool->aq->(aq×(Option ag×Option ag)×Int)->Option R)(n:al->Int->Int->Int->Bool->aq->(aq×(Option ag×Option ag)×Int)->Option R):Option R:=
 bif h<g then zd h (List.length f) (bif(List.getD f h.toNat (0,0,bs [],0,())).2.1=4 then l a (zW zI (b+1)) (zW zI (c+1)) d e f g (zW zI (h+1)) i j else bif(List.getD f h.toNat (0,0,bs [],0,())).2.1=3 then bif !decide ((List.getD f h.toNat (0,0,bs [],0,())).2.2.2.1=zW zI (d+1)) then m a false b c (zW zI (d+1)) e i j else bif !decide ((List.getD f h.toNat (0,0,bs [],0,())).2.2.1=bs []) then m a false b c (zW zI (d+1)) e i j else l a (zW zI (b+1)) c (zW zI (d+1)) e f g (zW zI (h+1)) i j else bif(List.getD f h.toNat (0,0,bs [],0,())).2.1=1 then bif(((List.getD f h.toNat (0,0,bs [],0,())).2.2.1).size:Int)<3 then m a false b c d e i j else l a (zW zI (b+1)) c d e f g (zW zI (h+1)) i j else bif(List.getD f h.toNat (0,0,bs [],0,())).2.1=2 then bif(((List.getD f h.toNat (0,0,bs [],0,())).2.2.1).size:Int)<3 then m a false b c d e i j else l a (zW zI (b+1)) c d e f g (zW zI (h+1)) i j else m a false b c d e i j) else n a b c d e i j
def D7{R:Type}(a:al)(b:Bool)(c d e:Int)(f:Bool)(g:aq)(h:(aq×(Option ag×Option ag)×Int))(i:Bool->Option R):Option R:=
 i b
def XO{R:Type}(a:al)(b c d:Int)(e:Bool)(f:aq)(g:(aq×(Option ag×Option ag)×Int))(h:al->Int->Int->Int->Int->Bool->Int->aq->(aq×(Option ag×Option ag)×Int)->Option R):Option R:=
 h a b c d 0 e 0 f g
def He{R:Type}(a:al)(b c d e:Int)(f:Bool)(g:Int)(h:aq)(i:(aq×(Option ag×Option ag)×Int))(j:al->Int->Int->Int->Int->Bool->Int->aq->(aq×(Option ag×Option ag)×Int)->Option R)(l:Int->Int->Int->Int->Bool->(aq×(Option ag×Option ag)×Int)->Option R):Option R:=
 bif g<2 then(sX a g).bind fun r9=>(sW h.2.1 r9).bind fun kV=>j a b c d (zW zI (e+((List.length kV):Int))) f (zW zI (g+1)) h i else l b c d e f i
def XP{R:Type}(a b c d:Int)(e:Bool)(f:(aq×(Option ag×Option ag)×Int))(g:Bool->Option R):Option R:=
 bif a=d then(FT f).bind fun lF=>bif c=lF.1 then g (decide (b<=2)) else g false else g false
def Rh:Nat->al->Int->Int->Int->Bool->bZ->Int->Int->aq->(aq×(Option ag×Option ag)×Int)->Option (Sum (al×Bool×Int×Int×Int×Bool×aq×(aq×(Option ag×Option ag)×Int)) (al×Int×Int×Int×Bool×aq×(aq×(Option ag×Option ag)×Int)))
 |0,_,_,_,_,_,_,_,_,_,_=>none
 |k+1,v0,v1,v2,v3,v4,v5,v6,v7,v8,v9=>D6 v0 v1 v2 v3 v4 v5 v6 v7 v8 v9 (fun a0 a1 a2 a3 a4 a5 a6 a7 a8 a9=>Rh k a0 a1 a2 a3 a4 a5 a6 a7 a8 a9) (fun a0 a1 a2 a3 a4 a5 a6 a7=>some (.inl (a0,a1,a2,a3,a4,a5,a6,a7))) (fun a0 a1 a2 a3 a4 a5 a6=>some (.inr (a0,a1,a2,a3,a4,a5,a6)))
def Bm:Nat->al->Int->Int->Int->Int->Bool->Int->aq->(aq×(Option ag×Option ag)×Int)->Option (Int×Int×Int×Int×Bool×(aq×(Option ag×Option ag)×Int))
 |0,_,_,_,_,_,_,_,_,_=>none
 |k+1,v0,v1,v2,v3,v4,v5,v6,v7,v8=>He v0 v1 v2 v3 v4 v5 v6 v7 v8 (fun a0 a1 a2 a3 a4 a5 a6 a7 a8=>Bm k a0 a1 a2 a3 a4 a5 a6 a7 a8) (fun a0 a1 a2 a3 a4 a5=>some (a0,a1,a2,a3,a4,a5))
def Ia(a:aq)(b:al):Option Bool:=
 XM a b (fun a0=>some a0) (fun a0 a1 a2 a3 a4 a5 a6 a7 a8 a9=>(Rh ai a0 a1 a2 a3 a4 a5 a6 a7 a8 a9).bind fun e=>Sum.elim (fun(we:(al×Bool×Int×Int×Int×Bool×aq×(aq×(Option ag×Option ag)×Int)))=>D7 we.1 we.2.1 we.2.2.1 we.2.2.2.1 we.2.2.2.2.1 we.2.2.2.2.2.1 we.2.2.2.2.2.2.1 we.2.2.2.2.2.2.2 (fun a0=>some a0)) (fun(we:(al×Int×Int×Int×Bool×aq×(aq×(Option ag×Option ag)×Int)))=>XO we.1 we.2.1 we.2.2.1 we.2.2.2.1 we.2.2.2.2.1 we.2.2.2.2.2.1 we.2.2.2.2.2.2 (fun a0 a1 a2 a3 a4 a5 a6 a7 a8=>(Bm ai a0 a1 a2 a3 a4 a5 a6 a7 a8).bind fun e=>XP e.1 e.2.1 e.2.2.1 e.2.2.2.1 e.2.2.2.2.1 e.2.2.2.2.2 (fun a0=>some a0))) e)
end bp

