/- No condition. -/
import Derived.Test.YtpjkbbihjoflnaaGreatDoorK1
import Derived.OpenShut
import Derived.Deep.Slices
import Derived.Shelf.Strings.Repeat
import Derived.KernelRfl
set_option linter.unusedVariables false
set_option linter.unusedSimpArgs false
set_option maxRecDepth 100000
namespace Go.Ref
open Go
variable {P:Program} {E:Env} {X:ar} {s:State} {a:Act}
def dS(X Y:ar):Prop:=Y.w=X.w/\∀g j p n,X.ow g= .row (.r j p) n->Y.ow g= .row (.r j p) n
theorem dS.refl(X:ar):dS X X:=⟨rfl,fun _ _ _ _ h=>h⟩
theorem dS.trans{X Y Z:ar}(h:dS X Y)(k:dS Y Z):dS X Z:=⟨k.1.trans h.1,fun g j p n e=>k.2 g j p n (h.2 g j p n e)⟩
theorem ay.wo{X Y:ar}(h:dS X Y)(hx:Ext X Y)(hβ:Y.β=X.β){j:Nat}{sv:SV}{v:Value}(hn:sv.bu=false)(hr:ay X (.r j) sv v):ay Y (.r j) sv v:=by
 cases sv with
 |undef=>trivial
 |skip=>exact hr
 |cj=>exact hr
 |dF=>exact hr
 |over=>exact hr
 |ai t x own=>
  obtain⟨cs,h1,h2,h3⟩:=hr
  refine⟨cs,h1.mono hx,h2,fun p hp=> ?_⟩
  obtain⟨e,t',xs,v,g0,g1,g2,g3⟩:=h3 p hp
  refine⟨e,t',xs,v,g0,g1,g2,?_⟩
  rcases g3 with ho|⟨g,cap,cur,k1,k2,k3,k4,k5,k6⟩
  ·exact .inl ho
  ·exact .inr ⟨g,cap,cur,k1,by rw[h.1];exact k2,k3,k4,k5,h.2 _ _ _ _ k6⟩
 |ptr id t p=>obtain⟨r,h1,h2⟩:=hr;exact⟨r,by rw[hβ];exact h1,h2⟩
 |view t x=>
  obtain⟨ad,cs,h1,h2,h3,h4⟩:=hr
  exact⟨ad,cs,h1,h2,h3.mono hx,fun i u hi=>hx.ax _ _ (h4 i u hi)⟩
 |cap f t x u y=>exact z21 hx.ax hr
 |bh id a b k=>cases hn
theorem z160{X:ar}{i j:Nat}{q:List Nat->Place}:dS X (X.turn i j q):=⟨rfl,fun g j p n h=>by simp only[ar.turn,h]⟩
theorem SB{X:ar}{id:Nat}{p:List Nat}{q:List Nat->Place}:dS X (X.fm id p q):=⟨rfl,fun g j p n h=>by simp only[ar.fm,h]⟩
theorem zwc(hE:aj P E):∀(rs:List ResultVar) (X:ar) (s s':State) (l:List SV) (j0:Nat),Rel X s a->fk E s rs=some (l,s')->
 ∃Y vs,Y.w=X.w/\Ext X Y/\dS X Y/\Y.β=X.β/\Rel Y s' a/\vs.length=l.length/\(∀(j:Nat) sv v,l[j]? =some sv->vs[j]? =some v->ay Y (.r (j0+j)) sv v)/\l.any SV.bu=false/\
  (rs.mapM (m:=Sem) fun x=>match x with
    | .tmp t=>pure (a.tmps.getD t Go.undef)
    | .cell ad t=>do loadVar t (<-asAddr (a.tmps.getD ad Go.undef))).run P X.w= .ok vs X.w
 | [],X,s,s',l,j0,hr,h=>by
   simp only[fk,Option.some.injEq,Prod.mk.injEq] at h
   obtain⟨rfl,rfl⟩:=h
   exact⟨X,[],rfl,Ext.refl X,dS.refl X,rfl,hr,rfl,(fun j sv v hl=>by simp at hl),rfl,by simp⟩
 | .tmp t::r,X,s,s',l,j0,hr,h=>by
   simp only[fk] at h
   split at h
   case isTrue=>cases h
   rename_i dn
   have dn:(one (s.slot t)).bu=false:=by simpa using dn
   split at h
   case h_2=>cases h
   rename_i l1 s1 h1
   cases h
   have key:∃Y,Y.w=X.w/\Ext X Y/\dS X Y/\Y.β=X.β/\Rel Y (s.close [(t,0)]) a/\ay Y (.r j0) (one (s.slot t)) (a.tmps.getD t Go.undef):=by
    have cf:=hr.aF (.tmp t)
    cases hs:one (s.slot t) with
    |ai ty x w=>
     have cf:ay X (.c t 0) (one (s.slot t)) (a.tmps.getD t Go.undef):=cf
     rw[hs] at cf
     obtain⟨cs,g1,g2,g3⟩:=cf
     have hT:dt (s.close [(t,0)]) X (X.turn t 0 (.r j0)):=zy4 fun p=>cF.close
     exact⟨X.turn t 0 (.r j0),rfl,hT.ext,z160,rfl,(hr.close _).mod hT.mod,cs,g1.ag (fun _ _=>hT.ax.1),g2,g3.kc⟩
    |bh id c b n=>rw[hs] at dn;cases dn
    |_=>
     refine⟨X,rfl,Ext.refl X,dS.refl X,rfl,hr.close _,?_⟩
     have cf:ay X (.c t 0) (one (s.slot t)) (a.tmps.getD t Go.undef):=cf
     rw[hs] at cf
     exact cf
   obtain⟨Y,hw,aT,bL,hβ,bg,aK⟩:=key
   obtain⟨Z,vs,rH,bR,qH,hβ2,cJ,hlen,kU,qz,aR⟩:=zwc hE r Y _ s' l1 (j0+1) bg h1
   refine⟨Z,a.tmps.getD t Go.undef::vs,rH.trans hw,aT.trans bR,bL.trans qH,hβ2.trans hβ,cJ,by simp [hlen],fun j sv v hl hv=> ?_,?_,?_⟩
   ·cases j with
    |zero=>
     simp only[List.getElem?_cons_zero,Option.some.injEq] at hl hv
     subst hl hv
     exact aK.wo qH bR hβ2 dn
    |succ j=>
     simp only[List.getElem?_cons_succ] at hl hv
     rw[show j0+(j+1)=j0+1+j by omega]
     exact kU j sv v hl hv
   ·simp only[List.any_cons,dn,qz,Bool.or_self]
   ·rw[hw] at aR
    simp only[List.mapM_cons,Sem.run_bind,Sem.run_pure,Result.andThen_ok,aR]
 | .cell p T::r,X,s,s',l,j0,hr,h=>by
   simp only[fk] at h
   split at h
   case h_2=>cases h
   rename_i id tt t fQ hT
   split at h
   case h_2=>cases h
   rename_i B hB
   split at h
   case isFalse=>cases h
   rename_i heq
   rw[Bool.and_eq_true] at heq
   have dw:tt.bn=false:=by simpa using heq.2
   have hte:=Ty.aH heq.1
   have PB:B.t.bn=false:=hte▸hE.gj hT
   split at h
   case h_2=>cases h
   rename_i l1 s1 h1
   cases h
   have hb:=nw hB
   obtain⟨r0,hβ,ql⟩:=hr.boxes id B hb
   obtain⟨cs,T',aC,aK,how,bG⟩:=ql.cells PB
   have dz:=hr.slot p
   rw[fQ] at dz
   obtain⟨r1,hβ1,hvp⟩:ay X (.c p 0) (.ptr id tt []) (a.tmps.getD p Go.undef):=dz
   obtain⟨hv,_⟩:=(nv dw).1 hvp
   rw[hβ] at hβ1
   cases hβ1
   have dV:Rel X (s.az (some (id,{B with own:=[]}))) a:=hr.kb hb hβ ⟨how,cT.of PB aC aK km⟩ (.inl (Ie PB))
   have AW:∀q,¬cF (s.az (some (id,{B with own:=[]}))) (.b id ([]++q)):=by
    rintro q ⟨B2,cE,hp⟩
    rw[Jy hb] at cE
    cases cE
    cases hp
   have kh:=zpl (X:=X) (q:= .r j0) AW
   have Em:ay (X.fm id [] (.r j0)) (.r j0) (.ai B.t B.x B.own) (dk B.t cs.toList):=by
    refine⟨cs.toList,aK.ag (fun _ _=>kh.ax.1),rfl,fun q hq=> ?_⟩
    obtain⟨e,t',xs,v,g0,g1,g2,g3⟩:=bG q hq
    exact⟨e,t',xs,v,g0,g1,g2,bf.nu (p:=[]) g3⟩
   obtain⟨Z,vs,rH,bR,qH,hβ2,cJ,hlen,kU,qz,aR⟩:=zwc hE r (X.fm id [] (.r j0)) _ s' l1 (j0+1) (dV.mod kh.mod) h1
   refine⟨Z,dk B.t cs.toList::vs,rH,kh.ext.trans bR,SB.trans qH,hβ2,cJ,by simp [hlen],fun j sv v hl hv=> ?_,?_,?_⟩
   ·cases j with
    |zero=>
     simp only[List.getElem?_cons_zero,Option.some.injEq] at hl hv
     subst hl hv
     exact Em.wo qH bR hβ2 rfl
    |succ j=>
     simp only[List.getElem?_cons_succ] at hl hv
     rw[show j0+(j+1)=j0+1+j by omega]
     exact kU j sv v hl hv
   ·simpa [SV.bu] using qz
   ·have hl:=wD (P:=P) hE (hte▸hT:E.ty T=some B.t) aK (ad:=⟨r0,0,none⟩) (w:=X.w) (fun i v hi=>by
     rw[zy,Nat.zero_add]
     simp only[World.cell?,aC]
     simpa using hi)
    have hw3:(X.fm id [] (.r j0)).w=X.w:=rfl
    rw[hw3] at aR
    have gX:a.tmps.getD p Go.undef= .pointer (some ⟨r0,0,none⟩):=by simpa [Ty.off] using hv
    have ha:(asAddr (.pointer (some ⟨r0,0,none⟩))).run P X.w= .ok ⟨r0,0,none⟩ X.w:=by simp [asAddr]
    simp only[List.mapM_cons,Sem.run_bind,Sem.run_pure,Result.andThen_ok,aR,gX,ha,hl]
def ar.zero(X:ar)(id:Nat):ar:=
 {X with ow:=fun g=>match X.ow g with
  | .box aV=>if aV=id then .box 0 else .box aV
  | .row (.b aV p) n=>if aV=id then .row (.b 0 p) n else .row (.b aV p) n
  |w=>w}
theorem Bk{id:Nat}{ad:Addr}{v:Value}(h:X.ax ad v):(X.zero id).ax ad v:=by
 refine⟨h.1,h.2.1,?_⟩
 have:=h.2.2
 simp only[ar.zero]
 cases hx:X.ow ad.block with
 |box i=>rw[hx] at this;exact this.elim
 |row pl n=>
  rw[hx] at this
  cases pl with
  |b i p=>simp only;split<;>exact this
  |_=>exact this
 |_=>rw[hx] at this;exact this
theorem Zf{id:Nat}:Ext X (X.zero id) where
 ax:=fun _ _=>Bk
 size:=Nat.le_refl _
 os:=rfl
 tape:=rfl
 output:=rfl
 β0:=rfl
 still:=fun g _ bL=>by
  refine⟨?_,rfl⟩
  simp only[ar.zero]
  cases hx:X.ow g with
  |box i=>rw[hx] at bL;exact bL.elim
  |row pl n=>rw[hx] at bL;exact bL.elim
  |_=>rfl
theorem bk.zero{id r:Nat}{B:bj}(h:bk X id r B):bk (X.zero id) 0 r B:=by
 obtain⟨h3,h1⟩:=h
 refine⟨by simp [ar.zero,h3],h1.move (fun _ _=>Bk) rfl (fun cs h4 p hp=> ?_) fun _ _ g o _ ho hw=>⟨ho,by simp [ar.zero,hw]⟩⟩
 obtain⟨e,t',xs,v,g0,g1,g2,g3⟩:=h4 p hp
 refine⟨e,t',xs,v,g0,g1,g2,?_⟩
 rcases g3 with ho|⟨g,cap,cur,k1,k2,k3,k4,k5,k6⟩
 ·exact .inl ho
 ·exact .inr ⟨g,cap,cur,k1,k2,k3,k4,k5,by simp [ar.zero,k6]⟩
theorem ay.zero{id j r0:Nat}{sv:SV}{v:Value}(hp:∀aV t p,sv= .ptr aV t p->X.β aV=some r0)(hn:sv.bu=false)(h:ay X (.r j) sv v):ay {X.zero id with β:=fun _=>some r0} (.r j) (sv.eY 0) v:=by
 cases sv with
 |undef=>trivial
 |skip=>exact h
 |cj=>exact h
 |dF=>exact h
 |over=>exact h
 |ai t x own=>
  obtain⟨cs,h1,h2,h3⟩:=h
  refine⟨cs,aY.ag (Y:={X.zero id with β:=fun _=>some r0}) (fun ad v hs=>(Bk hs:(X.zero id).ax ad v)) h1,h2,fun p hp=> ?_⟩
  obtain⟨e,t',xs,v,g0,g1,g2,g3⟩:=h3 p hp
  refine⟨e,t',xs,v,g0,g1,g2,?_⟩
  rcases g3 with ho|⟨g,cap,cur,k1,k2,k3,k4,k5,k6⟩
  ·exact .inl ho
  ·exact .inr ⟨g,cap,cur,k1,k2,k3,k4,k5,by simp [ar.zero,k6]⟩
 |ptr aV t p=>
  obtain⟨r,h1,h2⟩:=h
  have:=hp aV t p rfl
  rw[h1] at this
  cases this
  exact⟨r0,rfl,h2⟩
 |view t x=>
  obtain⟨ad,cs,h1,h2,h3,h4⟩:=h
  exact⟨ad,cs,h1,h2,aY.ag (Y:={X.zero id with β:=fun _=>some r0}) (fun ad v hs=>(Bk hs:(X.zero id).ax ad v)) h3,fun i u hi=>(Bk (h4 i u hi):(X.zero id).ax _ _)⟩
 |cap f t x u y=>exact z21 (Y:={X.zero id with β:=fun _=>some r0}) (fun ad v hs=>(Bk hs:(X.zero id).ax ad v)) h
 |bh aV a b k=>cases hn
theorem ay.anyβ{j r0:Nat}{sv:SV}{v:Value}(hp:∀aV t p,sv≠ .ptr aV t p)(hn:sv.bu=false)(h:ay X (.r j) sv v):ay {X with β:=fun _=>some r0} (.r j) sv v:=by
 cases sv with
 |undef=>trivial
 |skip=>exact h
 |cj=>exact h
 |dF=>exact h
 |over=>exact h
 |ai t x own=>
  obtain⟨cs,h1,h2,h3⟩:=h
  exact⟨cs,aY.ag (X:=X) (Y:={X with β:=fun _=>some r0}) (fun ad v (hs:X.ax ad v)=>(hs:({X with β:=fun _=>some r0}:ar).ax ad v)) h1,h2,h3⟩
 |ptr aV t p=>exact absurd rfl (hp aV t p)
 |view t x=>
  obtain⟨ad,cs,h1,h2,h3,h4⟩:=h
  exact⟨ad,cs,h1,h2,aY.ag (X:=X) (Y:={X with β:=fun _=>some r0}) (fun ad v (hs:X.ax ad v)=>(hs:({X with β:=fun _=>some r0}:ar).ax ad v)) h3,h4⟩
 |cap f t x u y=>exact z21 (X:=X) (Y:={X with β:=fun _=>some r0}) (fun ad v (hs:X.ax ad v)=>(hs:({X with β:=fun _=>some r0}:ar).ax ad v)) h
 |bh aV a b k=>cases hn
theorem JX:∀{l:List SV} {id:Nat} {t:Ty} {p:List Nat},SV.ptr id t p∈l->id∈wR l
 |v::r,id,t,p,h=>by
  rcases List.mem_cons.1 h with e|h
  ·subst e;simp [wR]
  ·have:=JX h
   cases v<;>simp [wR,this]
theorem zwb{l:List SV}{vs:List Value}(hlen:vs.length=l.length)(h:∀(j:Nat) sv v,l[j]? =some sv->vs[j]? =some v->ay X (.r j) sv v):ct X .r l (if h:vs.toArray.size=1 then vs.toArray[0] else .tuple vs.toArray):=by
 match l,vs,hlen with
 | [sv],[v],_=>exact h 0 sv v rfl rfl
 | [],[],_=>exact⟨#[],rfl,rfl,fun j s u hs=>by simp at hs⟩
 |x::y::r,u::v::w,hlen=>
  refine⟨(u::v::w).toArray,by simp,by simpa using hlen,fun j s z hs hz=>h j s z hs (by simpa using hz)⟩
theorem z116{Z:ar}{s':State}{b:Option bj}{l' r:List SV}{b':Option bj}{vs:List Value}(hX:Ext X Z)(cJ:Rel Z s' a)(hlen:vs.length=l'.length)(gd:∀(j:Nat) sv v,l'[j]? =some sv->vs[j]? =some v->ay Z (.r j) sv v)
 (dn:l'.any SV.bu=false) (eG:BV s' b l' (fun r b=>some (r,b))=some (r,b')):∃Y',Y'.w=Z.w/\Ext X Y'/\uy X Y' b r b' (if h:vs.toArray.size=1 then vs.toArray[0] else .tuple vs.toArray):=by
 unfold BV at eG
 cases b with
 |some B=>
  cases hp:wR l' with
  |cons _ _=>rw[hp] at eG;cases eG
  |nil=>
   rw[hp] at eG
   have lX:∀id t p,SV.ptr id t p∉l':=fun id t p hm=>by
    have:=JX hm
    rw[hp] at this;cases this
   cases dC:s'.box 0 with
   |none=>simp only[dC] at eG;cases eG
   |some B'=>
    simp only[dC] at eG
    cases eG
    obtain⟨r0,h3,h4⟩:=cJ.boxes 0 B' (nw dC)
    refine⟨Z,rfl,hX,r0,zwb hlen fun j sv v h1 h2=>(gd j sv v h1 h2).anyβ (fun id t p e=>lX id t p (e▸List.mem_of_getElem? h1)) (by simpa using List.any_eq_false.1 dn sv (List.mem_of_getElem? h1)),fun B2 cE=> ?_,fun _=>lX,dn⟩
    cases cE
    exact⟨h4,fun _=>by rw[<-hX.β0];exact h3⟩
 |none=>
  cases hp:wR l' with
  |nil=>
   rw[hp] at eG
   have lX:∀id t p,SV.ptr id t p∉l':=fun id t p hm=>by
    have:=JX hm
    rw[hp] at this;cases this
   cases eG
   exact⟨Z,rfl,hX,0,zwb hlen fun j sv v h1 h2=>(gd j sv v h1 h2).anyβ (fun id t p e=>lX id t p (e▸List.mem_of_getElem? h1)) (by simpa using List.any_eq_false.1 dn sv (List.mem_of_getElem? h1)),(fun B2 cE=>by cases cE),fun _=>lX,dn⟩
  |cons id rest=>
   rw[hp] at eG
   cases rest with
   |cons _ _=>cases eG
   |nil=>
    cases hB:s'.box id with
    |none=>simp only[hB] at eG;cases eG
    |some B=>
     simp only[hB] at eG
     cases eG
     obtain⟨r0,h3,h4⟩:=cJ.boxes id B (nw hB)
     refine⟨Z.zero id,rfl,hX.trans Zf,r0,?_,fun B2 cE=> ?_,fun hh=> ?_,zxt dn⟩
     ·refine zwb (by simpa using hlen) fun j sv v h1 h2=> ?_
      rw[List.getElem?_map] at h1
      obtain⟨s0,dW,rfl⟩:=Option.map_eq_some_iff.1 h1
      refine(gd j s0 v dW h2).zero (fun aV t p e=> ?_) (by simpa using List.any_eq_false.1 dn s0 (List.mem_of_getElem? dW))
      have:=JX (e▸List.mem_of_getElem? dW)
      rw[hp] at this
      simp only[List.mem_singleton] at this
      subst this
      exact h3
     ·cases cE
      exact⟨h4.zero,fun hh=>by cases hh⟩
     ·rcases hh with hh|hh<;>cases hh
theorem JO:∀(ts:List Ty) (l:List SV),(aL ts l).length=l.length
 | [],l=>by simp [aL]
 |t::r,[]=>by simp [aL]
 |t::r,v::q=>by
  cases t<;>cases v<;>simp [aL,JO r q]
theorem zxl{X:ar}:∀(ts:List Ty) (l:List SV) (i:Nat) (sv:SV) (v:Value),(aL ts l)[i]? =some sv->(∀sv,l[i]? =some sv->∃pl,ay X pl sv v)->∀q,(∃tP,l[i]? =some tP/\(sv=tP\/sv=tP.shut\/tP= .cj))/\((∀tP,l[i]? =some tP->ay X q tP v)->ay X q sv v)
 | [],l,i,sv,v,h,_,q=>by
   have h:l[i]? =some sv:=by simpa [aL] using h
   exact⟨⟨sv,h,.inl rfl⟩,fun hh=>hh sv h⟩
 |t::r,[],i,sv,v,h,_,q=>by simp [aL] at h
 |t::r,x::y,i,sv,v,h,hx,q=>by
  cases i with
  |zero=>
   have key:(aL (t::r) (x::y))[0]? =some sv->(sv=x.shut)\/(x= .cj/\∃e u,sv= .ai (.sl e u) ([]:List (El u)) []):=by
    intro h
    cases t<;>cases x<;>simp only[aL,List.getElem?_cons_zero,Option.some.injEq] at h<;>first|exact .inl h.symm|exact .inr ⟨rfl,_,_,h.symm⟩
   rcases key h with rfl|⟨rfl,e,u,rfl⟩
   ·exact⟨⟨x,rfl,.inr (.inl rfl)⟩,fun hh=>(hh x rfl).shut⟩
   ·refine⟨⟨_,rfl,.inr (.inr rfl)⟩,fun hh=> ?_⟩
    have:=hh _ rfl
    exact⟨[.slice none 0 0],⟨none,0,rfl,Nat.le_refl _,fun j x hj=>by simp at hj⟩,this,km⟩
  |succ i=>
   have h':(aL r y)[i]? =some sv:=by
    cases t<;>cases x<;>simpa [aL] using h
   have:=zxl r y i sv v h' (fun sv hs=>hx sv (by simpa using hs)) q
   simpa using this
theorem V3{ts:List Ty}{l:List SV}{id:Nat}{t:Ty}{p:List Nat}(h:SV.ptr id t p∈aL ts l):SV.ptr id t p∈l:=by
 induction ts generalizing l with
 |nil=>simpa [aL] using h
 |cons u r ih=>
  cases l with
  |nil=>simp [aL] at h
  |cons v q=>
   have key:SV.ptr id t p=v.shut\/SV.ptr id t p∈aL r q:=by
    cases u<;>cases v<;>simp [aL,SV.shut] at h⊢ <;>first|exact h|exact .inr h|skip
   rcases key with e|hm
   ·rw[JY e.symm];simp
   ·exact List.mem_cons_of_mem _ (ih hm)
theorem V2{ts:List Ty}{l:List SV}{id j:Nat}{c d:Ty}(h:SV.bh id c d j∈aL ts l):SV.bh id c d j∈l:=by
 induction ts generalizing l with
 |nil=>simpa [aL] using h
 |cons u r ih=>
  cases l with
  |nil=>simp [aL] at h
  |cons v q=>
   have key:SV.bh id c d j=v.shut\/SV.bh id c d j∈aL r q:=by
    cases u<;>cases v<;>simp [aL,SV.shut] at h⊢ <;>first|exact h|exact .inr h|skip
   rcases key with e|hm
   ·have:=zlk v
    rw[<-e] at this
    cases this
   ·exact List.mem_cons_of_mem _ (ih hm)
theorem aaR(hE:aj P E)(hm:P.follows .mixedOrders=true){C C0:af}(hC0:C0.Nat)(Pp:∀f,cG P C0 f){f:FuncId}{fn:Func}{code:Code}(fZ:P.funcs[f]? =some fn)(qx:(fn.name== "runtime.NumGoroutine")=false)(nm:fn.body=some code)
 (hC:∀(l:List SV) (b:Option bj) (r:List SV) (b':Option bj),C (List SV×Option bj) f l b (fun r b=>some (r,b))=some (r,b')->∃k,gV E (C0 (List SV×Option bj)) k fn code l b (fun r b=>some (r,b))=some (r,b')):cG P C f:=by
 intro l b r b' h
 refine⟨⟨fn,code,fZ,qx,nm⟩,fun X args fG=> ?_⟩
 obtain⟨k,h⟩:=hC l b r b' h
 unfold gV at h
 cases hg:(E.sp.isSome&&b.isSome) with
 |true=>rw[hg] at h;cases h
 |false=>
 rw[hg,cond_false] at h
 have hF:Fr E X:=fun bB=>fG.rows (by
  cases hE2:E.sp with
  |none=>exact absurd hE2 bB
  |some z=>
   cases b with
   |none=>rfl
   |some B=>rw[hE2] at hg;cases hg)
 simp only at h
 obtain⟨⟨e,s⟩,h1,h2⟩:=zz (rU hC0 code _ (fun e s=>some (e,s)) (K:=fun z=>match z.1 with
  | .exit _=>none
  |_=>match fk E z.2 fn.results.toList with
   |some (l,s')=>BV s' b (fj E l) (fun r b=>some (r,b))
   |none=>none) (fun e s=>by cases e<;>rfl) _) h
 refine calls_of_wp fZ nm ?_
 have fa:=fG.size
 refine zM hE hm hC0 Pp k code X X _ _ e s hF (Ext.refl X) (?_:Rel X _ _) h1 _ fun Y a' aT bg=> ?_
 ·have dn:=JO E.ps l
  refine⟨by simp [fa,dn],by simp [dn],fun i sl v hs hv=> ?_,fun id B hB=> ?_,fun i sl id t p hs hm=> ?_,rfl,fun i sl id c d n hs hm=> ?_⟩
  ·by_cases hi:i<l.length
   ·rw[List.getElem?_append_left (by simpa [dn] using hi),List.getElem?_map] at hs
    obtain⟨sv,hH,rfl⟩:=Option.map_eq_some_iff.1 hs
    rw[Array.getElem?_append_left (by omega)] at hv
    exact(zxl E.ps l i sv v hH (fun sv h0=>⟨_,fG.rep i sv v h0 hv⟩) (.c i 0)).2 fun tP h0=>fG.rep i tP v h0 hv
   ·rw[List.getElem?_append_right (by simp [dn];omega),List.getElem?_replicate] at hs
    split at hs
    ·cases hs;trivial
    ·cases hs
  ·cases id with
   |zero=>
    simp only[List.getElem?_cons_zero,Option.some.injEq] at hB
    exact fG.box B hB
   |succ id=>
    simp only[List.getElem?_cons_succ,List.getElem?_replicate] at hB
    split at hB<;>cases hB
  ·by_cases hi:i<l.length
   ·rw[List.getElem?_append_left (by simpa [dn] using hi),List.getElem?_map] at hs
    obtain⟨sv,hH,rfl⟩:=Option.map_eq_some_iff.1 hs
    simp only[List.mem_singleton] at hm
    subst hm
    obtain⟨rfl,hb⟩:=fG.ptr id t p (V3 (List.mem_of_getElem? hH))
    cases b with
    |none=>cases hb
    |some B=>exact⟨B,rfl⟩
   ·rw[List.getElem?_append_right (by simp [dn];omega),List.getElem?_replicate] at hs
    split at hs
    ·cases hs;simp at hm
    ·cases hs
  ·exfalso
   by_cases hi:i<l.length
   ·rw[List.getElem?_append_left (by simpa [dn] using hi),List.getElem?_map] at hs
    obtain⟨sv,hH,rfl⟩:=Option.map_eq_some_iff.1 hs
    simp only[List.mem_singleton] at hm
    subst hm
    exact Oq fG.l8 (V2 (List.mem_of_getElem? hH))
   ·rw[List.getElem?_append_right (by simp [dn];omega),List.getElem?_replicate] at hs
    split at hs
    ·cases hs;simp at hm
    ·cases hs
 ·
  have PQ:∃l s',fk E s fn.results.toList=some (l,s')/\BV s' b (fj E l) (fun r b=>some (r,b))=some (r,b')/\(e= .normal\/e= .ret):=by
   cases e with
   |exit id=>cases h2
   |normal=>
    simp only at h2
    split at h2
    ·exact⟨_,_,by assumption,h2,.inl rfl⟩
    ·cases h2
   |ret=>
    simp only at h2
    split at h2
    ·exact⟨_,_,by assumption,h2,.inr rfl⟩
    ·cases h2
  obtain⟨l',s',dV,eG,he⟩:=PQ
  obtain⟨Z,vs,hw,bR,bL,hβ,cJ,hlen,kU,PC,aR⟩:=zwc hE fn.results.toList Y s s' l' 0 bg dV
  have vQ:(results fn a'.tmps).run P Y.w= .ok (if h:vs.toArray.size=1 then vs.toArray[0] else .tuple vs.toArray) Y.w:=by
   unfold results
   simp only[Array.mapM_eq_mapM_toList,Sem.run_bind,Sem.run_map,Sem.run_pure,Result.andThen_ok]
   exact congrArg (fun r:Result (List Value)=>(r.andThen fun a w'=>Result.ok a.toArray w').andThen fun a w'=>Result.ok (if h:a.size=1 then a[0] else Value.tuple a) w') aR
  have hX:Ext X Z:=aT.trans bR
  have gd:∀(j:Nat) sv v,l'[j]? =some sv->vs[j]? =some v->ay Z (.r j) sv v:=fun j sv v h1 h2=>by
   have:=kU j sv v h1 h2
   rwa [Nat.zero_add] at this
  have D9:vs.length=(fj E l').length:=by
   unfold fj
   cases E.ro<;>simpa using hlen
  have yi:∀(j:Nat) sv v,(fj E l')[j]? =some sv->vs[j]? =some v->ay Z (.r j) sv v:=fun j sv v h1 h2=>by
   unfold fj at h1
   cases hro:E.ro with
   |false=>rw[hro] at h1;exact gd j sv v h1 h2
   |true=>
    rw[hro,cond_true,List.getElem?_map] at h1
    obtain⟨s0,dW,rfl⟩:=Option.map_eq_some_iff.1 h1
    exact ay.eD (gd j s0 v dW h2)
  have qz:(fj E l').any SV.bu=false:=by
   unfold fj
   cases E.ro with
   |false=>exact PC
   |true=>exact zej l'
  have fin:=z116 (b:=b) hX cJ D9 yi qz eG
  obtain⟨Y',I5,hX',hL⟩:=fin
  have I5:=I5.trans hw
  rcases he with rfl|rfl
  ·exact⟨bg.defers,_,vQ,Y',I5,hX',hL⟩
  ·exact⟨bg.defers,_,vQ,Y',I5,hX',hL⟩
end Go.Ref

namespace Go.Ref
open Go
variable {P:Program} {E:Env}
def Wf:(t:Ty)->El t->Prop
 | .bool,_=>True
 | .int k,n=>(Lit.int k n).wf=true
 | .str,s=>s.size<=maxLen
 | .sl _ t,xs=>List.length xs<=maxLen/\∀x∈(xs:List (El t)),Wf t x
 | .arr n t,xs=>List.length xs=n/\∀x∈(xs:List (El t)),Wf t x
 | .unit,_=>True
 | .pair a b,x=>Wf a x.1/\Wf b x.2
 | .aI _ _ _,_=>False
theorem Bc(hE:aj P E){T:TypeId}{t:Ty}(ht:E.ty T=some t):P.cellsOf T=t.cells:=by
 obtain⟨i,h1,h2,_⟩:=(hE.ty T t ht).info
 simp [Program.cellsOf,h1,h2]
def Ty.eZ:Ty->Bool
 | .sl _ t=> !(Nat.beq t.cells 0)&&t.eZ
 | .arr _ t=>t.eZ
 | .pair a b=>a.eZ&&b.eZ
 |_=>true
def rl(w:World)(β:Nat->Option Nat):ar:=⟨w,fun _=> .all,β⟩
theorem V5{w:World}{β:Nat->Option Nat}{a:Addr}{v:Value}(h:w.cell? a=some v):(rl w β).ax a v:=⟨World.cell?_spot h,h,trivial⟩
theorem zjh{α:Type}{n:Nat}{p:Nat->α->Prop}(h:∀i,i<n->∃x,p i x):∃xs:List α,xs.length=n/\∀(i:Nat) x,xs[i]? =some x->p i x:=by
 induction n with
 |zero=>exact⟨[],rfl,fun i x hi=>by simp at hi⟩
 |succ n ih=>
  obtain⟨xs,h1,h2⟩:=ih fun i hi=>h i (by omega)
  obtain⟨y,hy⟩:=h n (by omega)
  refine⟨xs++ [y],by simp [h1],fun i x hi=> ?_⟩
  rw[List.getElem?_append] at hi
  split at hi
  ·exact h2 i x hi
  ·rename_i aw
   have yd:i-xs.length=0:=by
    have:=(List.getElem?_eq_some_iff.1 hi).1
    simp at this
    omega
   rw[yd] at hi
   simp only[List.getElem?_cons_zero,Option.some.injEq] at hi
   subst hi
   have:i=n:=by omega
   subst this
   exact hy
section
variable {H:Type} {enc:TypeId×Value->H} {w:World} {base:Nat} {spare:Nat->Bool} {held:Bool} {β:Nat->Option Nat}
theorem aaZ(hE:aj P E):∀t:Ty,
 (∀(T:TypeId) (bY:Nat) (cs:List Value) (x:DataW H×List MemPlace),E.ty T=some t->t.eZ=true->DataW.trod enc P w base spare held bY T cs=some x->∃y:El t,aY (rl w β) t y cs/\Wf t y)/\
 (∀(fl:List Field) (off bY:Nat) (cs:List Value),gO E fl t off->t.eZ=true->off+t.cells<=cs.length->(∀f∈fl,∃x,DataW.trod enc P w base spare held bY f.type ((cs.drop f.offset).take (P.cellsOf f.type))=some x)->
   ∃y:El t,aY (rl w β) t y ((cs.drop off).take t.cells)/\Wf t y):=by
 intro t
 have jw:∀{t:Ty},t.cO=false->t≠ .unit->∀(fl:List Field) (off:Nat),¬gO E fl t off:=by
  intro t h1 h2 fl off h
  cases t<;>cases fl<;>simp_all [gO,Ty.cO]
 induction t with
 |aI k a b _ _=>exact⟨fun T bY cs x hT fR h=>absurd (hE.gj hT) (by simp [Ty.bn]),fun fl off bY cs hf=>absurd hf (jw rfl (by simp) fl off)⟩
 |bool=>
  refine⟨fun T bY cs x hT fR h=> ?_,fun fl off bY cs hf=>absurd hf (jw rfl (by simp) fl off)⟩
  have hu:=(hE.ty T _ hT).cQ
  cases bY with
  |zero=>simp [DataW.trod] at h
  |succ m=>
   unfold DataW.trod at h
   rw[hu] at h
   split at h<;>try(first|cases h;done|(simp_all;done))
   rename_i b _
   exact⟨b,rfl,trivial⟩
 |int k=>
  refine⟨fun T bY cs x hT fR h=> ?_,fun fl off bY cs hf=>absurd hf (jw rfl (by simp) fl off)⟩
  have hu:=(hE.ty T _ hT).cQ
  cases bY with
  |zero=>simp [DataW.trod] at h
  |succ m=>
   unfold DataW.trod at h
   rw[hu] at h
   split at h<;>simp_all
   rename_i k1 k2 n hk
   subst hk
   exact⟨n,rfl,h.1.2⟩
 |str=>
  refine⟨fun T bY cs x hT fR h=> ?_,fun fl off bY cs hf=>absurd hf (jw rfl (by simp) fl off)⟩
  have hu:=(hE.ty T _ hT).cQ
  cases bY with
  |zero=>simp [DataW.trod] at h
  |succ m=>
   unfold DataW.trod at h
   rw[hu] at h
   split at h<;>simp_all
   rename_i s
   exact⟨s,rfl,h.1⟩
 |sl e t ih=>
  refine⟨fun T bY cs x hT fR h=> ?_,fun fl off bY cs hf=>absurd hf (jw rfl (by simp) fl off)⟩
  obtain⟨hu,he⟩:=(hE.ty T _ hT).cQ
  have hc:=Bc hE he
  rcases Go.Deep.open_slice hu h with⟨rfl,_⟩|⟨a,len,cap,m,n,D,Pl,rfl,hb,hl,hm,AV,_,eI⟩
  ·exact⟨[],⟨none,0,rfl,Nat.le_refl _,fun j x hj=>by simp at hj⟩,by simp [maxLen],fun x hx=>by cases hx⟩
  ·have hlm:len<=m:=by rw[AV];split<;>omega
   have hk:0<t.cells/\t.eZ=true:=by
    simp only[Ty.eZ,Bool.and_eq_true,Bool.not_eq_true'] at fR
    refine⟨?_,fR.2⟩
    rcases Nat.eq_zero_or_pos t.cells with h0|h0
    ·rw[h0] at fR;simp at fR
    ·exact h0
   obtain⟨ys,h1,h2⟩:=zjh (n:=len) (p:=fun i (y:El t)=>∃dI,w.cells? base (a.add (i*t.cells)) t.cells=some dI/\aY (rl w β) t y dI/\Wf t y) (fun i hi=>by
    obtain⟨dI,g1,g2⟩:=eI i (by omega)
    rw[hc] at g1
    obtain⟨y,k1,k2⟩:=ih.1 e n dI _ he hk.2 g2
    exact⟨y,dI,g1,k1,k2⟩)
   refine⟨ys,aY.tO h1 hl (fun j y hj=> ?_),by show ys.length<=_;omega,fun y hy=> ?_⟩
   ·obtain⟨dI,g1,g2,g3⟩:=h2 j y hj
    obtain⟨_,hlen,df⟩:=World.cells?_some g1
    have hj0:=(List.getElem?_eq_some_iff.1 hj).1
    obtain⟨c0,e1,_⟩:=h2 0 _ (List.getElem?_eq_getElem (by omega))
    obtain⟨_,acS,xZ⟩:=World.cells?_some e1
    have vR:a.spot=none:=by
     have:=xZ 0 (by omega)
     rw[List.getElem?_eq_getElem (by omega)] at this
     have h3:=World.cell?_spot this
     simpa [Addr.add] using h3
    refine⟨a,dI,rfl,vR,g2,fun i v hi=>V5 ?_⟩
    have hil:=(List.getElem?_eq_some_iff.1 hi).1
    have:=df i (by omega)
    rw[H5 a vR,hi] at this
    exact this
   ·obtain⟨i,hi⟩:=List.mem_iff_getElem?.1 hy
    obtain⟨dI,_,_,g3⟩:=h2 i y hi
    exact g3
 |arr n t ih=>
  refine⟨fun T bY cs x hT fR h=> ?_,fun fl off bY cs hf=>absurd hf (jw rfl (by simp) fl off)⟩
  obtain⟨e,hu,he,_⟩:=(hE.ty T _ hT).cQ
  have hc:=Bc hE he
  have DX:=Bc hE hT
  obtain⟨xs,m,rfl,_,hl,vU,eI⟩:=DataW.trod_array hu h
  obtain⟨ys,h1,h2⟩:=zjh (n:=n) (p:=fun i (y:El t)=>aY (rl w β) t y ((cs.drop (i*t.cells)).take t.cells)/\Wf t y) (fun i hi=>by
   have g:=eI i hi
   rw[hc,List.getElem?_eq_getElem (by omega)] at g
   exact ih.1 e m _ _ he fR g)
  refine⟨ys,⟨h1,by rw[hl,DX];rfl,fun j y hj=>(h2 j y hj).1⟩,h1,fun y hy=> ?_⟩
  obtain⟨i,hi⟩:=List.mem_iff_getElem?.1 hy
  exact(h2 i y hi).2
 |unit=>
  refine⟨fun T bY cs x hT fR h=> ?_,fun fl off bY cs hf fR hle cI=>⟨(),by simp [Ty.cells,aY],trivial⟩⟩
  obtain⟨fs,hu,cM,_⟩:=(hE.ty T _ hT).cQ
  have DX:=Bc hE hT
  obtain⟨xs,m,rfl,_,hl,_⟩:=DataW.trod_struct hu h
  rw[DX] at hl
  refine⟨(),?_,trivial⟩
  exact List.eq_nil_of_length_eq_zero hl
 |pair ta tb j4 j5=>
  have step:∀(fl:List Field) (off bY:Nat) (cs:List Value),gO E fl (.pair ta tb) off->(Ty.pair ta tb).eZ=true->off+(Ty.pair ta tb).cells<=cs.length->(∀f∈fl,∃x,DataW.trod enc P w base spare held bY f.type ((cs.drop f.offset).take (P.cellsOf f.type))=some x)->
   ∃y:El (.pair ta tb),aY (rl w β) (.pair ta tb) y ((cs.drop off).take (Ty.pair ta tb).cells)/\Wf (.pair ta tb) y:=by
   intro fl off bY cs hf fR hle cI
   cases fl with
   |nil=>simp [gO] at hf
   |cons f fl=>
    obtain⟨f1,f2,f3,f4⟩:=hf
    simp only[Ty.eZ,Bool.and_eq_true] at fR
    simp only[Ty.cells] at hle
    obtain⟨x,hx⟩:=cI f (by simp)
    rw[Bc hE f2,f1] at hx
    obtain⟨y1,r1,w1⟩:=j4.1 f.type bY _ x f2 fR.1 hx
    obtain⟨y2,r2,w2⟩:=j5.2 fl (off+ta.cells) bY cs f4 fR.2 (by omega) (fun g hg=>cI g (List.mem_cons_of_mem _ hg))
    refine⟨(y1,y2),⟨_,_,?_,r1,r2⟩,w1,w2⟩
    simp only[Ty.cells]
    rw[<-List.drop_drop]
    exact List.take_add
  refine⟨fun T bY cs x hT fR h=> ?_,step⟩
  obtain⟨fs,hu,cM,_⟩:=(hE.ty T _ hT).cQ
  have DX:=Bc hE hT
  obtain⟨xs,m,rfl,_,hl,vU,eI⟩:=DataW.trod_struct hu h
  rw[DX] at hl
  obtain⟨y,r,wf⟩:=step fs.toList 0 m cs cM fR (by omega) (fun f hf=>by
   obtain⟨i,hi⟩:=List.mem_iff_getElem?.1 hf
   have tv:fs[i]? =some f:=by simpa using hi
   have:=eI i f tv
   have aw:=(List.getElem?_eq_some_iff.1 hi).1
   rw[List.getElem?_eq_getElem (by simp at aw;omega)] at this
   exact⟨_,this⟩)
  refine⟨y,?_,wf⟩
  rw[List.drop_zero,<-hl,List.take_length] at r
  exact r
end
end Go.Ref

namespace Go.Ref
open Go
variable {P:Program} {E:Env}
def yW:Value->Value->Bool
 | .bool a,.bool b=>a==b
 | .int k a,.int j b=>decide (k=j)&&decide (a=b)
 | .string a,.string b=>Nat.beq a.size 0&&Nat.beq b.size 0
 | .slice none 0 0,.slice none 0 0=>true
 |_,_=>false
theorem zjl{a:ByteArray}(h:a.size=0):a=⟨#[]⟩:=by
 cases a with
 |mk d=>
  have:d.size=0:=h
  have:=Array.eq_empty_of_size_eq_zero this
  rw[this]
theorem Vu{a b:Value}(h:yW a b=true):a=b:=by
 unfold yW at h
 split at h
 ·simp at h;rw[h]
 ·simp at h;rw[h.1,h.2]
 ·simp only[Bool.and_eq_true] at h
  rw[zjl (Nat.eq_of_beq_eq_true h.1),zjl (Nat.eq_of_beq_eq_true h.2)]
 ·rfl
 ·cases h
def BH:List Value->List Value->Bool
 | [],[]=>true
 |a::r,b::q=>yW a b&&BH r q
 |_,_=>false
theorem Jt:∀{a b:List Value},BH a b=true->a=b
 | [],[],_=>rfl
 |a::r,b::q,h=>by
  simp only[BH,Bool.and_eq_true] at h
  rw[Vu h.1,Jt h.2]
def zG(t:Ty)(v:Value):Bool:=
 match v with
 | .agg cs=>t.agg&&BH cs.toList (zl t)
 |v=> !t.agg&&BH [v] (zl t)
theorem WA{t:Ty}{v:Value}(h:zG t v=true):v=dk t (zl t):=by
 unfold zG at h
 split at h
 ·simp only[Bool.and_eq_true] at h
  rw[hG h.1,<-Jt h.2]
 ·simp only[Bool.and_eq_true,Bool.not_eq_true'] at h
  rw[<-Jt h.2,Ic h.1]
def n3(E:Env):List Field->Ty->Nat->Bool
 | [],.unit,_=>true
 |f::r,.pair a b,off=>Nat.beq f.offset off&&((match E.ty f.type with
  |some t=>t.bV a
  |none=>false)&&(!(f.name== "_")&&n3 E r b (off+a.cells)))
 |_,_,_=>false
theorem zlb:∀{fl:List Field} {t:Ty} {off:Nat},n3 E fl t off=true->gO E fl t off
 | [],t,off,h=>by cases t<;>simp_all [n3,gO]
 |f::r,t,off,h=>by
  cases t<;>simp only[n3,Bool.and_eq_true] at h<;>try(cases h;done)
  obtain⟨h1,h2,h3,h4⟩:=h
  refine⟨Nat.eq_of_beq_eq_true h1,?_,?_,zlb h4⟩
  ·cases hf:E.ty f.type with
   |none=>rw[hf] at h2;cases h2
   |some u=>rw[hf] at h2;rw[Ty.aH h2]
  ·simpa using h3
def q9(E:Env)(T:TypeId)(t:Ty):Bool:=
 match E.ty T with
 |some u=>u.bV t
 |none=>false
theorem zwg{T:TypeId}{t:Ty}(h:q9 E T t=true):E.ty T=some t:=by
 unfold q9 at h
 split at h
 ·rename_i u hu;rw[hu,Ty.aH h]
 ·cases h
def yD(P:Program)(E:Env)(T:TypeId)(t:Ty):Bool:=
 match P.underlying T,t with
 |some .bool,.bool=>true
 |some (.int k),.int j=>decide (k=j)
 |some .string,.str=>true
 |some (.slice e),.sl e' u=>Nat.beq e e'&&q9 E e u
 |some (.array n e),.arr m u=>Nat.beq n m&&(q9 E e u&& !P.eqGuardType P.depth T)
 |some (.struct fs),.unit=>n3 E fs.toList .unit 0&&(!P.stoodInHeld T&& !P.eqGuardType P.depth T)
 |some (.struct fs),.pair a b=>n3 E fs.toList (.pair a b) 0&&(!P.stoodInHeld T&& !P.eqGuardType P.depth T)
 |_,_=>false
theorem Zb{T:TypeId}{t:Ty}(h:yD P E T t=true):GX P E T t:=by
 unfold yD at h
 split at h
 ·assumption
 ·rename_i k j hu;rw[<-of_decide_eq_true h];exact hu
 ·assumption
 ·rename_i e e' u hu
  simp only[Bool.and_eq_true] at h
  have:=Nat.eq_of_beq_eq_true h.1
  subst this
  exact⟨hu,zwg h.2⟩
 ·rename_i n e m u hu
  simp only[Bool.and_eq_true] at h
  have:=Nat.eq_of_beq_eq_true h.1
  subst this
  exact⟨e,hu,zwg h.2.1,by simpa using h.2.2⟩
 ·rename_i fs hu
  simp only[Bool.and_eq_true,Bool.not_eq_true'] at h
  exact⟨fs,hu,zlb h.1,h.2.1,h.2.2⟩
 ·rename_i fs a b hu
  simp only[Bool.and_eq_true,Bool.not_eq_true'] at h
  exact⟨fs,hu,zlb h.1,h.2.1,h.2.2⟩
 ·cases h
def vV(P:Program)(E:Env)(T:TypeId)(t:Ty):Bool:=
 match P.info? T with
 |some i=>Nat.beq i.size t.cells&&(Nat.beq i.bytes (E.bytes T)&&match i.zero with
  |some v=>zG t v
  |none=>false)
 |none=>false
def xS(P:Program)(E:Env)(T:TypeId):Bool:=
 match E.ty T with
 |some t=>vV P E T t&&yD P E T t
 |none=>true
theorem YD{T:TypeId}{t:Ty}(h:xS P E T=true)(ht:E.ty T=some t):jO P E T t:=by
 unfold xS at h
 rw[ht] at h
 simp only[Bool.and_eq_true] at h
 refine⟨?_,Zb h.2⟩
 have h1:=h.1
 unfold vV at h1
 split at h1
 ·rename_i i hi
  simp only[Bool.and_eq_true] at h1
  obtain⟨g1,g2,g3⟩:=h1
  split at g3
  ·rename_i v hv
   exact⟨i,hi,Nat.eq_of_beq_eq_true g1,Nat.eq_of_beq_eq_true g2,by rw[hv,WA g3]⟩
  ·cases g3
 ·cases h1
def Ja(P:Program)(T:TypeId):Bool:=
 match P.underlying T,P.info? T with
 |some (.pointer _),some i=>Nat.beq i.size 1
 |_,_=>false
structure oH where
 A8:List (Option Ty)
 OW:List Nat
 wg:List Bool
 I9:List (TypeId×TypeId×TypeId):=[]
def tK:List (TypeId×TypeId×TypeId)->TypeId->Option (TypeId×TypeId)
 | [],_=>none
 |q::r,T=>bif Nat.beq q.1 T then some q.2 else tK r T
def Qi(P:Program)(q:TypeId×TypeId×TypeId):Bool:=
 match P.underlying q.1 with
 |some (.map k e)=>Nat.beq k q.2.1&&Nat.beq e q.2.2
 |_=>false
theorem Gu{P:Program}:∀{l:List (TypeId×TypeId×TypeId)},l.all (Qi P)=true->∀{T k e:TypeId},tK l T=some (k,e)->P.underlying T=some (.map k e)
 |q::r,hl,T,k,e,h=>by
  simp only[List.all_cons,Bool.and_eq_true] at hl
  unfold tK at h
  cases hq:Nat.beq q.1 T with
  |false=>rw[hq] at h;exact Gu hl.2 h
  |true=>
   rw[hq] at h
   have:=Nat.eq_of_beq_eq_true hq
   subst this
   have h1:=hl.1
   unfold Qi at h1
   split at h1
   ·rename_i k' e' hu
    simp only[Bool.and_eq_true] at h1
    have a1:=Nat.eq_of_beq_eq_true h1.1
    have a2:=Nat.eq_of_beq_eq_true h1.2
    rw[hu,a1,a2]
    have h:some q.2=some (k,e):=h
    injection h with h
    rw[h]
   ·cases h1
def oH.env(t:oH)(cS jr:Nat->List Nat)(outs:List Nat)(ps:List Ty):Env:=⟨fun T=>t.A8.getD T none,fun T=>t.OW.getD T 0,fun T=>t.wg.getD T false,cS,jr,outs,ps,tK t.I9,fun _=>none,fun _=>none,fun _=>[],[],false,[],fun _=>[],fun _=>none,fun _=>none,fun _=>false,none,none⟩
def oH.xP(t:oH):Env:=t.env (fun _=>[]) (fun _=>[]) [] []
def oH.ok(P:Program)(t:oH):Bool:=(List.range t.A8.length).all (xS P t.xP)&&((List.range t.wg.length).all (fun T=> !t.wg.getD T false||Ja P T)&&t.I9.all (Qi P))
theorem z28{E':Env}(h1:E.ty=E'.ty)(h2:E.bytes=E'.bytes){T:TypeId}{t:Ty}(h:jO P E T t):jO P E' T t:=by
 have cM:∀(fl:List Field) (t:Ty) (off:Nat),gO E fl t off->gO E' fl t off:=by
  intro fl
  induction fl with
  |nil=>intro t off h;cases t<;>simp_all [gO]
  |cons f r ih=>
   intro t off h
   cases t<;>simp only[gO] at h⊢ <;>try exact h
   exact⟨h.1,by rw[<-h1];exact h.2.1,h.2.2.1,ih _ _ h.2.2.2⟩
 refine⟨by rw[<-h2];exact h.info,?_⟩
 have hu:=h.cQ
 cases t with
 |bool=>exact hu
 |int k=>exact hu
 |str=>exact hu
 |sl e u=>exact⟨hu.1,by rw[<-h1];exact hu.2⟩
 |arr n u=>obtain⟨e,g1,g2⟩:=hu;exact⟨e,g1,by rw[<-h1];exact g2⟩
 |unit=>obtain⟨fs,g1,g2,g3⟩:=hu;exact⟨fs,g1,cM _ _ _ g2,g3⟩
 |pair a b=>obtain⟨fs,g1,g2,g3⟩:=hu;exact⟨fs,g1,cM _ _ _ g2,g3⟩
 |aI k a b=>exact hu.elim
theorem aj.join(h:aj P E)(j:Nat->Option (List Nat)):aj P {E with join:=j}:=
 ⟨fun T u hT=>z28 (E:=E) (E':={E with join:=j}) rfl rfl (h.ty T u hT),h.pt,h.p1,h.mp,h.bl,h.gr,h.gz,h.g3,h.ga⟩
theorem aj.fz(h:aj P E)(j:Nat->Option (Nat×TypeId)):aj P {E with fz:=j}:=
 ⟨fun T u hT=>z28 (E:=E) (E':={E with fz:=j}) rfl rfl (h.ty T u hT),h.pt,h.p1,h.mp,h.bl,h.gr,h.gz,h.g3,h.ga⟩
theorem aj.dr(h:aj P E)(j:Nat->List Nat):aj P {E with dr:=j}:=
 ⟨fun T u hT=>z28 (E:=E) (E':={E with dr:=j}) rfl rfl (h.ty T u hT),h.pt,h.p1,h.mp,h.bl,h.gr,h.gz,h.g3,h.ga⟩
theorem aj.sh(h:aj P E)(j:List Nat):aj P {E with sh:=j}:=
 ⟨fun T u hT=>z28 (E:=E) (E':={E with sh:=j}) rfl rfl (h.ty T u hT),h.pt,h.p1,h.mp,h.bl,h.gr,h.gz,h.g3,h.ga⟩
theorem aj.mv(h:aj P E)(j:List Nat):aj P {E with mv:=j}:=
 ⟨fun T u hT=>z28 (E:=E) (E':={E with mv:=j}) rfl rfl (h.ty T u hT),h.pt,h.p1,h.mp,h.bl,h.gr,h.gz,h.g3,h.ga⟩
theorem aj.fr(h:aj P E)(j:Nat->List Nat):aj P {E with fr:=j}:=
 ⟨fun T u hT=>z28 (E:=E) (E':={E with fr:=j}) rfl rfl (h.ty T u hT),h.pt,h.p1,h.mp,h.bl,h.gr,h.gz,h.g3,h.ga⟩
def blB(P:Program)(T:TypeId):Bool:=
 match P.info? T with
 |some i=>match i.zero with
  |some (.agg a)=>match a.toList with
   | [.pointer none,.slice none 0 0]=>true
   |_=>false
  |_=>false
 |none=>false
theorem aj.fe(h:aj P E)(T e:TypeId)(hT:blB P T=true):aj P {E with bl:=fun t=>bif Nat.beq t T then some e else none}:=
 ⟨fun T' u hT=>z28 (E:=E) (E':={E with bl:=fun t=>bif Nat.beq t T then some e else none}) rfl rfl (h.ty T' u hT),h.pt,h.p1,h.mp,fun T' e' he=>by
   have he:(bif Nat.beq T' T then some e else none)=some e':=he
   cases hb:Nat.beq T' T with
   |false=>rw[hb] at he;cases he
   |true=>
    have:=Nat.eq_of_beq_eq_true hb
    subst this
    unfold blB at hT
    split at hT
    case h_2=>cases hT
    rename_i i hi
    split at hT
    case h_2=>cases hT
    rename_i a ha
    split at hT
    case h_2=>cases hT
    rename_i hl
    exact⟨i,hi,by rw[ha];congr 1;congr 1;apply Array.ext';rw[hl]⟩,h.gr,h.gz,h.g3,h.ga⟩
def O6(P:Program)(T:TypeId)(a:Ty):Bool:=
 match P.underlying T with
 |some (.struct fs)=>[0,1,2].all fun j=>match fs[j]? with
  |some f=>Nat.beq f.offset (kK a [j])&&match P.info? f.type with
   |some i=> !(Nat.beq i.size 0)
   |none=>false
  |none=>false
 |_=>false
def O4(P:Program)(T:TypeId):Bool:=
 match P.underlying T with
 |some (.array 2 e)=>match P.info? e with
  |some i=>Nat.beq i.size 1
  |none=>false
 |_=>false
theorem acG{T:TypeId}{a:Ty}(h:O6 P T a=true):∃fs,P.underlying T=some (.struct fs)/\∀j,j<=2->∃f i,fs[j]? =some f/\f.offset=kK a [j]/\P.info? f.type=some i/\i.size≠0:=by
 unfold O6 at h
 split at h
 case h_2=>cases h
 rename_i fs hu
 refine⟨fs,hu,fun j hj=> ?_⟩
 have:=List.all_eq_true.1 h j (by match j,hj with|0,_=>simp|1,_=>simp|2,_=>simp)
 split at this
 case h_2=>cases this
 rename_i f hf
 rw[Bool.and_eq_true] at this
 obtain⟨h1,h2⟩:=this
 split at h2
 case h_2=>cases h2
 rename_i i hi
 exact⟨f,i,hf,Nat.eq_of_beq_eq_true h1,hi,fun e=>by rw[e] at h2;simp at h2⟩
theorem acF{T:TypeId}(h:O4 P T=true):∃e i,P.underlying T=some (.array 2 e)/\P.info? e=some i/\i.size=1:=by
 unfold O4 at h
 split at h
 case h_2=>cases h
 rename_i e hu
 split at h
 case h_2=>cases h
 rename_i i hi
 exact⟨e,i,hu,hi,Nat.eq_of_beq_eq_true h⟩
def O7(P:Program)(T:TypeId)(a:Ty):Bool:=
 match P.info? T with
 |some i=>match i.zero with
  |some (.agg cs)=>BH (cs.toList.take a.cells) (zl a)&&(match cs.toList.drop a.cells with
   | [.pointer none,.pointer none,.int .i64 n]=>decide (n=0)
   |_=>false)
  |_=>false
 |none=>false
theorem acH{T:TypeId}{a:Ty}(h:O7 P T a=true):∃i,P.info? T=some i/\i.zero=some (.agg (zl a++ [Value.pointer none,Value.pointer none,Value.int .i64 0]).toArray):=by
 unfold O7 at h
 split at h
 case h_2=>cases h
 rename_i i hi
 split at h
 case h_2=>cases h
 rename_i cs eH
 rw[Bool.and_eq_true] at h
 obtain⟨h1,h2⟩:=h
 split at h2
 case h_2=>cases h2
 rename_i n hd
 have:=of_decide_eq_true h2
 subst this
 refine⟨i,hi,?_⟩
 rw[eH,<-Jt h1,<-hd,List.take_append_drop]
def O3(P:Program)(E:Env)(T:TypeId)(a:Ty):Bool:=
 match P.underlying T with
 |some (.struct fs)=>(match fs.toList with
  |f::_=>Nat.beq f.offset 0&&q9 E f.type a
  | []=>false)&&fs.toList.all fun f=>(P.info? f.type).isSome
 |_=>false
theorem acE{T:TypeId}{a:Ty}(h:O3 P E T a=true):∃fs f,P.underlying T=some (.struct fs)/\fs[0]? =some f/\f.offset=0/\E.ty f.type=some a/\∀f∈fs.toList,∃i,P.info? f.type=some i:=by
 unfold O3 at h
 split at h
 case h_2=>cases h
 rename_i fs hu
 rw[Bool.and_eq_true] at h
 obtain⟨h1,h2⟩:=h
 split at h1
 case h_2=>cases h1
 rename_i f r hl
 rw[Bool.and_eq_true] at h1
 refine⟨fs,f,hu,by rw[<-Array.getElem?_toList,hl];rfl,Nat.eq_of_beq_eq_true h1.1,zwg h1.2,fun g hg=> ?_⟩
 exact Option.isSome_iff_exists.1 (List.all_eq_true.1 h2 g hg)
theorem aj.bE(h:aj P E)(T A:TypeId)(a b:Ty)(hT:O6 P T a=true)(hZ:O7 P T a=true)(h3:O3 P E T a=true)(hA:O4 P A=true):aj P {E with gr:=fun t=>bif Nat.beq t T then some (a,b) else none,ga:=fun t=>Nat.beq t A}:=
 ⟨fun T' u rE=>z28 (E:=E) (E':={E with gr:=fun t=>bif Nat.beq t T then some (a,b) else none,ga:=fun t=>Nat.beq t A}) rfl rfl (h.ty T' u rE),h.pt,h.p1,h.mp,h.bl,fun T' a' b' he=>by
   have he:(bif Nat.beq T' T then some (a,b) else none)=some (a',b'):=he
   cases hb:Nat.beq T' T with
   |false=>rw[hb] at he;cases he
   |true=>
    have:=Nat.eq_of_beq_eq_true hb
    subst this
    rw[hb] at he
    cases he
    exact acG hT,fun T' a' b' he=>by
   have he:(bif Nat.beq T' T then some (a,b) else none)=some (a',b'):=he
   cases hb:Nat.beq T' T with
   |false=>rw[hb] at he;cases he
   |true=>
    have:=Nat.eq_of_beq_eq_true hb
    subst this
    rw[hb] at he
    cases he
    exact acH hZ,fun T' a' b' he=>by
   have he:(bif Nat.beq T' T then some (a,b) else none)=some (a',b'):=he
   cases hb:Nat.beq T' T with
   |false=>rw[hb] at he;cases he
   |true=>
    have:=Nat.eq_of_beq_eq_true hb
    subst this
    rw[hb] at he
    cases he
    exact acE (E:=E) h3,fun T' he=>by
   have:=Nat.eq_of_beq_eq_true (show Nat.beq T' A=true from he)
   subst this
   exact acF hA⟩
theorem aj.sg(h:aj P E)(j:Option (Nat×Nat×Nat)):aj P {E with sg:=j}:=
 ⟨fun T u hT=>z28 (E:=E) (E':={E with sg:=j}) rfl rfl (h.ty T u hT),h.pt,h.p1,h.mp,h.bl,h.gr,h.gz,h.g3,h.ga⟩
theorem aj.sp(h:aj P E)(j:Option (Nat×Nat×Nat×Nat)):aj P {E with sp:=j}:=
 ⟨fun T u hT=>z28 (E:=E) (E':={E with sp:=j}) rfl rfl (h.ty T u hT),h.pt,h.p1,h.mp,h.bl,h.gr,h.gz,h.g3,h.ga⟩
theorem aj.ro(h:aj P E)(j:Bool):aj P {E with ro:=j}:=
 ⟨fun T u hT=>z28 (E:=E) (E':={E with ro:=j}) rfl rfl (h.ty T u hT),h.pt,h.p1,h.mp,h.bl,h.gr,h.gz,h.g3,h.ga⟩
theorem oH.qh{t:oH}(h:t.ok P=true)(cS jr:Nat->List Nat)(outs:List Nat)(ps:List Ty):aj P (t.env cS jr outs ps):=by
 unfold oH.ok at h
 simp only[Bool.and_eq_true] at h
 have nn:∀T,t.wg.getD T false=true->Ja P T=true:=fun T rE=>by
  have aw:T<t.wg.length:=by
   rcases Nat.lt_or_ge T t.wg.length with h1|h1
   ·exact h1
   ·rw[List.getD_eq_getElem?_getD,List.getElem?_eq_none h1] at rE;cases rE
  have:=List.all_eq_true.1 h.2.1 T (List.mem_range.2 aw)
  rw[rE] at this
  simpa using this
 refine⟨fun T u hT=> ?_,fun T hT=> ?_,fun T hT=> ?_,fun T k e hT=>Gu h.2.2 hT,fun T e hT=>(by cases hT),fun T a b hT=>(by cases hT),fun T a b hT=>(by cases hT),fun T a b hT=>(by cases hT),fun T hT=>by cases hT⟩
 ·refine z28 (E:=t.xP) (E':=t.env cS jr outs ps) rfl rfl (YD ?_ hT)
  refine List.all_eq_true.1 h.1 T (List.mem_range.2 ?_)
  have rE:t.A8.getD T none=some u:=hT
  rcases Nat.lt_or_ge T t.A8.length with h1|h1
  ·exact h1
  ·rw[List.getD_eq_getElem?_getD,List.getElem?_eq_none h1] at rE;cases rE
 ·have:=nn T hT
  unfold Ja at this
  split at this
  ·rename_i e i he _;exact⟨e,he⟩
  ·cases this
 ·have:=nn T hT
  unfold Ja at this
  split at this
  ·rename_i e i _ hi;exact⟨i,hi,Nat.eq_of_beq_eq_true this⟩
  ·cases this
end Go.Ref

namespace Go.Ref
open Go
variable {P:Program} {E:Env}
abbrev Pure:=(R:Type)->List SV->Option bj->(List SV->Option bj->Option R)->Option R
def Pure.Nat(g:Pure):Prop:=∀(R S:Type) l b (F:List SV->Option bj->Option R) (G:List SV->Option bj->Option S) (K:S->Option R),(∀r b,F r b=(G r b).bind K)->g R l b F=(g S l b G).bind K
def af.none:af:=fun _ _ _ _ _=> .none
def af.add(C:af)(n:FuncId)(ps:List Ty)(g:Pure):af:=fun R f l b K=>bif Nat.beq f n then g R (aL ps l) b K else C R f l b K
theorem YS:af.none.Nat:=fun _ _ _ _ _ _ _ _ _=>rfl
theorem V1(f:FuncId):cG P af.none f:=fun _ _ _ _ h=>by cases h
theorem My{C:af}{n:FuncId}{ps:List Ty}{g:Pure}(hC:C.Nat)(hg:g.Nat):(C.add n ps g).Nat:=fun R S f l b F G K h=>by
 unfold af.add
 cases Nat.beq f n with
 |false=>exact hC R S f l b F G K h
 |true=>exact hg R S _ b F G K h
theorem Yi(hE:aj P E)(hm:P.follows .mixedOrders=true){C:af}(hC:C.Nat)(h0:∀f,cG P C f){n:FuncId}{ps:List Ty}{g:Pure}{fn:Func}{code:Code}(fZ:P.funcs[n]? =some fn)(qx:(fn.name== "runtime.NumGoroutine")=false)(nm:fn.body=some code)
 (h:∀(l:List SV) (b:Option bj) (r:List SV) (b':Option bj),g (List SV×Option bj) (aL ps l) b (fun r b=>some (r,b))=some (r,b')->∃k,gV E (C (List SV×Option bj)) k fn code l b (fun r b=>some (r,b))=some (r,b')):∀f,cG P (C.add n ps g) f:=by
 intro f
 by_cases e:f=n
 ·subst e
  refine aaR hE hm hC h0 fZ qx nm fun l b r b' hc=>h l b r b' ?_
  unfold af.add at hc
  have:Nat.beq f f=true:=by simp
  rw[this] at hc
  exact hc
 ·intro l b r b' hc
  unfold af.add at hc
  have:Nat.beq f n=false:=by
   cases hh:Nat.beq f n with
   |false=>rfl
   |true=>exact absurd (Nat.eq_of_beq_eq_true hh) e
  rw[this] at hc
  exact h0 f l b r b' hc
def sub:List Nat->Code->Code
 | [],c=>c
 |0::p,.seq a _=>sub p a
 |_::p,.seq _ b=>sub p b
 |0::p,.cond _ a _=>sub p a
 |_::p,.cond _ _ b=>sub p b
 |_::p,.block _ b=>sub p b
 |_::p,.loop b=>sub p b
 |_,c=>c
section
variable {R:Type}
def zh(id:Nat)(K:Ex->State->Option R):Ex->State->Option R:=fun e s=>match e with
 | .exit j=>bif Nat.beq j id then K .normal s else K (.exit j) s
 |e=>K e s
def aS(E:Env)(C:FuncId->bI R)(k:Nat)(b:Code)(K:Ex->State->Option R):Ex->State->Option R:=fun e s=>match e with
 | .normal=>lf E k (rh b) s fun s=>ev E C k b s K
 |e=>K e s
def aQ(E:Env)(rs:List ResultVar)(bx:Option bj)(K:List SV->Option bj->Option R):Ex->State->Option R:=fun e s=>match e with
 | .exit _=>none
 |_=>match fk E s rs with
  |some (l,s')=>BV s' bx (fj E l) K
  |none=>none
end
section
variable {R:Type}
def eL(l:List SV)(K:Option R):Option R:=
 match l with
 | []=>K
 |_=>none
def eM(t:Ty)(l:List SV)(K:El t->Option R):Option R:=
 match l with
 | [a]=>a.el t K
 |_=>none
def ep(t u:Ty)(l:List SV)(K:El t->El u->Option R):Option R:=
 match l with
 | [a,b]=>a.el t fun x=>b.el u fun y=>K x y
 |_=>none
def ji(t u v:Ty)(l:List SV)(K:El t->El u->El v->Option R):Option R:=
 match l with
 | [a,b,c]=>a.el t fun x=>b.el u fun y=>c.el v fun z=>K x y z
 |_=>none
def jj(t u v w:Ty)(l:List SV)(K:El t->El u->El v->El w->Option R):Option R:=
 match l with
 | [a,b,c,d]=>a.el t fun x=>b.el u fun y=>c.el v fun z=>d.el w fun z'=>K x y z z'
 |_=>none
end
theorem aaP{R:Type}{t:Ty}{v:SV}{r:List Ty}{q:List SV}{K:El t->Option R}{z:R}{v':SV}{q':List SV}(hn:aL (t::r) (v::q)=v'::q')(h:v'.el t K=some z):∃y,v'= .ai t y []/\q'=aL r q/\K y=some z:=by
 have key:v'=v.shut/\q'=aL r q\/(∃e u,t= .sl e u/\v'= .ai (.sl e u) ([]:List (El u)) []/\q'=aL r q):=by
  cases t<;>cases v<;>simp only[aL,List.cons.injEq] at hn<;>first|exact .inl ⟨hn.1.symm,hn.2.symm⟩|exact .inr ⟨_,_,rfl,hn.1.symm,hn.2.symm⟩
 rcases key with⟨rfl,rfl⟩|⟨e,u,rfl,rfl,rfl⟩
 ·cases v with
  |ai t' x own=>
   simp only[SV.shut,SV.el] at h
   split at h
   ·rename_i heq
    have:=Ty.aH heq
    subst this
    exact⟨x,rfl,rfl,h⟩
   ·cases h
  |cj=>cases t<;>first|(simp [SV.shut,SV.el] at h;done)|(simp [aL,SV.shut] at hn;done)
  |_=>simp [SV.shut,SV.el] at h
 ·simp only[SV.el,Ty.bT,dite_true] at h
  exact⟨[],rfl,rfl,h⟩
theorem YV(hE:aj P E){H:Type}{enc:TypeId×Value->H}{w:World}{spare:Nat->Bool}{held:Bool}{β:Nat->Option Nat}{base b:Nat}{T:TypeId}{t:Ty}{v:Value}{d:DataW H}{ps:List MemPlace}(hT:E.ty T=some t)(fR:t.eZ=true)
 (hv:Value.okWide P w .any b T v) (hd:DataW.Trod enc P w base spare held T v d ps):∃y:El t,Wf t y/\∀q,ay (rl w β) q (.ai t y []) v:=by
 obtain⟨bY,hd⟩:=hd
 obtain⟨y,r,wf⟩:=(aaZ (β:=β) hE t).1 T bY _ _ hT fR hd
 refine⟨y,wf,fun q=>⟨_,r,?_,km⟩⟩
 have hu:=(hE.ty T t hT).cQ
 have hl:=r.len
 cases ht:t.agg with
 |true=>
  rw[hG ht]
  have:∃cs,v= .agg cs:=by
   unfold Value.okWide at hv
   cases t with
   |arr n t=>obtain⟨e,h1,_⟩:=hu;rw[h1] at hv;obtain⟨cs,h,_⟩:=hv;exact⟨cs,h⟩
   |unit=>obtain⟨fs,h1,_⟩:=hu;rw[h1] at hv;obtain⟨cs,h,_⟩:=hv;exact⟨cs,h⟩
   |pair a b=>obtain⟨fs,h1,_⟩:=hu;rw[h1] at hv;obtain⟨cs,h,_⟩:=hv;exact⟨cs,h⟩
   |aI k a b=>exact absurd (hE.gj hT) (by simp [Ty.bn])
   |_=>simp [Ty.agg] at ht
  obtain⟨cs,rfl⟩:=this
  rfl
 |false=>
  have PD:∀cs,v≠ .agg cs:=by
   rintro cs rfl
   unfold Value.okWide at hv
   cases t with
   |bool=>have hu:P.underlying T=some .bool:=hu;rw[hu] at hv;unfold Cell.okWide at hv;rw[hu] at hv;unfold Cell.ok at hv;rw[hu] at hv;exact hv
   |int k=>have hu:P.underlying T=some (.int k):=hu;rw[hu] at hv;unfold Cell.okWide at hv;rw[hu] at hv;unfold Cell.ok at hv;rw[hu] at hv;exact hv
   |str=>have hu:P.underlying T=some .string:=hu;rw[hu] at hv;unfold Cell.okWide at hv;rw[hu] at hv;unfold Cell.ok at hv;rw[hu] at hv;exact hv
   |sl e t=>have hu:P.underlying T=some (.slice e):=hu.1;rw[hu] at hv;unfold Cell.okWide at hv;rw[hu] at hv;unfold Cell.ok at hv;rw[hu] at hv;exact hv
   |_=>simp [Ty.agg] at ht
  have hc:v.cells.toList=[v]:=by
   cases v<;>first|rfl|exact absurd rfl (PD _)
  rw[hc,Ic ht]
theorem Tm{w:World}{β:Nat->Option Nat}{Y:ar}(h:Ext (rl w β) Y):∀g,g<w.heap.size->Y.w.heap[g]? =w.heap[g]? :=fun g hg=>(h.still g hg trivial).2
end Go.Ref

namespace Go.Ref
open Go
theorem zE{x:Int}(h1: -9223372036854775808<=x)(h2:x<=9223372036854775807):IntKind.i64.wrap x=x:=by
 simp [IntKind.wrap,IntKind.signed,IntKind.bits]
 omega
theorem Wy{R:Type}{j n:Nat}{x:Option R}(h:j<n):zc (j:Int) n x=x:=by
 unfold zc
 rw[decide_eq_true (by omega:(0:Int)<=j),decide_eq_true (by omega:(j:Int)<n)]
 rfl
variable {P:Program} {E:Env}
def Ig(X:ar):List SV->List Value->Prop
 | [],[]=>True
 |s::l,v::vs=>(∀q,ay X q s v)/\(∀id t p,s≠ .ptr id t p)/\Ig X l vs
 |_,_=>False
theorem zoo{X:ar}:∀{l:List SV} {vs:List Value},Ig X l vs->vs.length=l.length/\∀(i:Nat) s v,l[i]? =some s->vs[i]? =some v->(∀q,ay X q s v)/\∀id t p,s≠ .ptr id t p
 | [],[],_=>⟨rfl,fun i s v h=>by simp at h⟩
 |s::l,v::vs,h=>by
  obtain⟨h1,h2,h3⟩:=h
  obtain⟨g1,g2⟩:=zoo h3
  refine⟨by simp [g1],fun i s' v' hs hv=> ?_⟩
  cases i with
  |zero=>
   simp only[List.getElem?_cons_zero,Option.some.injEq] at hs hv
   subst hs hv
   exact⟨h1,h2⟩
  |succ i=>
   simp only[List.getElem?_cons_succ] at hs hv
   exact g2 i s' v' hs hv
theorem Yz{X:ar}{l:List SV}{args:Array Value}(h:Ig X l args.toList)(hX:∀g pl n,X.ow g≠ .row pl n)(hβ:∀id,X.β id=none):hP X l none args:=by
 obtain⟨h1,h2⟩:=zoo h
 refine⟨by simpa using h1,fun i sv v hs hv=>(h2 i sv v hs (by simpa using hv)).1 _,fun id t p hm=> ?_,fun B hB=>(by cases hB),fun _=>hX,List.any_eq_false.2 fun v hm=> ?_⟩
 ·obtain⟨i,hi⟩:=List.mem_iff_getElem?.1 hm
  have aw:=(List.getElem?_eq_some_iff.1 hi).1
  have fw:i<args.toList.length:=by omega
  exact absurd rfl ((h2 i _ _ hi (List.getElem?_eq_getElem fw)).2 id t p)
 ·obtain⟨i,hi⟩:=List.mem_iff_getElem?.1 hm
  have aw:=(List.getElem?_eq_some_iff.1 hi).1
  have fw:i<args.toList.length:=by omega
  have hv:=(h2 i _ _ hi (List.getElem?_eq_getElem fw)).1 (fun _=> .r 0 [])
  cases v with
  |bh id c d j=>
   obtain⟨r,e,_⟩:=hv
   rw[hβ id] at e
   cases e
  |_=>simp [SV.bu]
theorem Wb{C:af}{f:FuncId}(ho:cG P C f){l:List SV}{args:Array Value}{W:World}{b:Bool}(hc:C (List SV×Option bj) f l none (fun r b=>some (r,b))=some ([.ai .bool b []],none))(fG:Ig (rl W fun _=>none) l args.toList):
 Calls P f args W fun e w'=>e= .returned (.bool b)/\RowKit.Below W.heap.size W w':=by
 refine((ho l none _ _ hc).2 (rl W fun _=>none) args (Yz fG (fun g pl n e=>by cases e) fun _=>rfl)).mono fun e w' he=> ?_
 cases e with
 |returned v=>
  obtain⟨Y,rfl,aT,r0,aK,_,_,_⟩:=he
  have aK:ay {Y with β:=fun _=>some r0} (.r 0) (.ai .bool b []) v:=aK
  refine⟨by rw[He aK],aT.os,aT.tape,aT.output,aT.size,fun k hk=>Tm aT k hk⟩
 |panicked c=>exact he.elim
 |outgrown=>exact he.elim
end Go.Ref

namespace Go.Ref
open Go
variable {P:Program} {E:Env}
def bs(l:List Nat):ByteArray:=⟨(l.map UInt8.ofNat).toArray⟩
@[irreducible] def ah:Nat:=18446744073709551616
theorem S9{R:Type}(f:Unit->Option R):cm ah f=f ():=by
 have:ah=18446744073709551615+1:=by unfold ah;rfl
 rw[this];rfl
section
variable {R S:Type}
def kY(body:State->(Ex->State->Option R)->Option R)(l lx:List Nat)(k:Nat)(K:Ex->State->Option R):Ex->State->Option R:=fun e s=>match e with
 | .normal=>ox l s fun s=>aA body l lx k s K
 |e=>ox lx s fun s=>K e s
def ic(t:Ty)(own:List (List Nat))(l:List SV)(b:Option bj)(K:El t->List SV->Option R):Option R:=
 match l,b with
 | .ptr 0 u []::r,some B=>if h:B.t.bV t=true then if(u.bV t&&B.own==own)=true then K (Ty.cast h B.x) r else none else none
 |_,_=>none
def jh(t pt bt:Ty)(own:List (List Nat))(l:List SV)(b:Option bj)(K:El t->El bt->Option R):Option R:=
 match l,b with
 | [a,.ptr 0 u []],some B=>if h:B.t.bV bt=true then if(u.bV pt&&B.own==own)=true then a.el t fun y=>K y (Ty.cast h B.x) else none else none
 |_,_=>none
def BS(t u v w:Ty)(l:List SV)(K:El t->El u->El v->El w->Option R):Option R:=
 match l with
 | [a,b,.view v' x,.view w' y]=>if h:v'.bV v=true then if h2:w'.bV w=true then a.el t fun p=>b.el u fun q=>K p q (Ty.cast h x) (Ty.cast h2 y) else none else none
 |_=>none
def eW(b:Option bj)(K:Option R):Option R:=
 match b with
 |none=>K
 |some _=>none
theorem zO{b:Option bj}{F:Option R}{G:Option S}{K:S->Option R}(h:F=G.bind K):eW b F=(eW b G).bind K:=by
 cases b
 ·exact h
 ·rfl
theorem zL{b:Option bj}{F:Option R}{z:R}(h:eW b F=some z):b=none/\F=some z:=by
 cases b
 ·exact⟨rfl,h⟩
 ·cases h
theorem zdz(c:Bool)(x y:Option S)(F:S->Option R):(bif c then x else y).bind F=bif c then x.bind F else y.bind F:=by cases c<;>rfl
theorem SC(i:Int)(n:Nat)(x:Option S)(F:S->Option R):(zc i n x).bind F=zc i n (x.bind F):=by
 unfold zc;rw[zdz,zdz];rfl
theorem V0(F:S->Option R):(none:Option S).bind F=none:=Eq.trans rfl rfl
theorem zf(x:S)(F:S->Option R):(some x).bind F=F x:=Eq.trans rfl rfl
theorem Y5{α β:Type}(f:α->Option S)(g:β->Option S)(e:α⊕β)(F:S->Option R):(Sum.elim f g e).bind F=Sum.elim (fun x=>(f x).bind F) (fun x=>(g x).bind F) e:=by cases e<;>rfl
theorem Vk{α:Type}(x:Option α)(f:α->Option S)(F:S->Option R):(x.bind f).bind F=x.bind fun y=>(f y).bind F:=by cases x<;>rfl
theorem zdr{l:List SV}{F:Option R}{G:Option S}{K:S->Option R}(h:F=G.bind K):eL l F=(eL l G).bind K:=by
 unfold eL;split
 ·exact h
 ·rfl
theorem zds{t:Ty}{l:List SV}{F:El t->Option R}{G:El t->Option S}{K:S->Option R}(h:∀x,F x=(G x).bind K):eM t l F=(eM t l G).bind K:=by
 unfold eM;split
 ·exact zn h
 ·rfl
theorem zdt{t u:Ty}{l:List SV}{F:El t->El u->Option R}{G:El t->El u->Option S}{K:S->Option R}(h:∀x y,F x y=(G x y).bind K):ep t u l F=(ep t u l G).bind K:=by
 unfold ep;split
 ·exact zn fun x=>zn fun y=>h x y
 ·rfl
theorem Vg{t u v:Ty}{l:List SV}{F:El t->El u->El v->Option R}{G:El t->El u->El v->Option S}{K:S->Option R}(h:∀x y z,F x y z=(G x y z).bind K):ji t u v l F=(ji t u v l G).bind K:=by
 unfold ji;split
 ·exact zn fun x=>zn fun y=>zn fun z=>h x y z
 ·rfl
theorem Vh{t u v w:Ty}{l:List SV}{F:El t->El u->El v->El w->Option R}{G:El t->El u->El v->El w->Option S}{K:S->Option R}(h:∀x y z a,F x y z a=(G x y z a).bind K):jj t u v w l F=(jj t u v w l G).bind K:=by
 unfold jj;split
 ·exact zn fun x=>zn fun y=>zn fun z=>zn fun a=>h x y z a
 ·rfl
theorem Hx{t:Ty}{own:List (List Nat)}{l:List SV}{b:Option bj}{F:El t->List SV->Option R}{G:El t->List SV->Option S}{K:S->Option R}(h:∀x r,F x r=(G x r).bind K):ic t own l b F=(ic t own l b G).bind K:=by
 unfold ic;split
 ·split
  ·split
   ·exact h _ _
   ·rfl
  ·rfl
 ·rfl
theorem Vf{t pt bt:Ty}{own:List (List Nat)}{l:List SV}{b:Option bj}{F:El t->El bt->Option R}{G:El t->El bt->Option S}{K:S->Option R}(h:∀x y,F x y=(G x y).bind K):jh t pt bt own l b F=(jh t pt bt own l b G).bind K:=by
 unfold jh;split
 ·split
  ·split
   ·exact zn fun y=>h _ _
   ·rfl
  ·rfl
 ·rfl
theorem SQ{t u v w:Ty}{l:List SV}{F:El t->El u->El v->El w->Option R}{G:El t->El u->El v->El w->Option S}{K:S->Option R}(h:∀x y z a,F x y z a=(G x y z a).bind K):BS t u v w l F=(BS t u v w l G).bind K:=by
 unfold BS;split
 ·split
  ·split
   ·exact zn fun x=>zn fun y=>h x y _ _
   ·rfl
  ·rfl
 ·rfl
theorem oq{α:Type}{m:Option α}{F:α->Option R}{G:α->Option S}{K:S->Option R}(h:∀r,F r=(G r).bind K):m.bind F=(m.bind G).bind K:=by
 cases m with
 |none=>rfl
 |some x=>exact h x
theorem MI{α β:Type}{f:α->Option R}{g:β->Option R}{f':α->Option S}{g':β->Option S}{K:S->Option R}{e:α⊕β}(h1:∀x,f x=(f' x).bind K)(h2:∀x,g x=(g' x).bind K):Sum.elim f g e=(Sum.elim f' g' e).bind K:=by
 cases e with
 |inl x=>exact h1 x
 |inr x=>exact h2 x
end
section
variable {R:Type}
theorem VM{C:FuncId->bI R}{k:Nat}{fn:Func}{code:Code}{l q:List SV}{b:Option bj}{K:List SV->Option bj->Option R}(h:aL E.ps l=q)(hq:aL E.ps q=q)(hl:q.length=l.length):gV E C k fn code l b K=gV E C k fn code q b K:=by
 unfold gV
 simp only[h,hq,hl]
theorem zxn:∀{ts:List Ty} {q:List SV},(∀s∈q,s.shut=s/\s≠ .cj)->aL ts q=q
 |ts,[],_=>by cases ts<;>simp [aL]
 | [],q,_=>by simp [aL]
 |t::r,v::q,h=>by
  have h1:=h v (by simp)
  have h2:=zxn (ts:=r) (q:=q) (fun s hs=>h s (by simp [hs]))
  cases t<;>cases v<;>simp [aL,h2]<;>first|exact h1.1|exact absurd rfl h1.2
theorem YT{ts:List Ty}{l:List SV}(h:aL ts l=[]):l=[]:=by
 have:=JO ts l
 rw[h] at this
 exact List.length_eq_zero_iff.1 this.symm
theorem zxm{t:Ty}{r:List Ty}{l:List SV}{v':SV}{q':List SV}(h:aL (t::r) l=v'::q'):∃v q,l=v::q:=by
 cases l with
 |nil=>simp [aL] at h
 |cons v q=>exact⟨v,q,rfl⟩
theorem lB{t:Ty}{r:List Ty}{l:List SV}{a:SV}{q':List SV}{K:El t->Option R}{z:R}(hn:aL (t::r) l=a::q')(h:a.el t K=some z):∃y v q,a= .ai t y []/\l=v::q/\aL r q=q'/\K y=some z:=by
 obtain⟨v,q,rfl⟩:=zxm hn
 obtain⟨y,h1,h2,h3⟩:=aaP hn h
 exact⟨y,v,q,h1,rfl,h2.symm,h3⟩
theorem zQ{l q:List SV}(hn:aL E.ps l=q)(hd:∀s∈q,s.shut=s/\s≠ .cj){C:FuncId->bI R}{k:Nat}{fn:Func}{code:Code}{b:Option bj}{K:List SV->Option bj->Option R}:gV E C k fn code l b K=gV E C k fn code q b K:=
 VM hn (zxn hd) (by rw[<-hn,JO])
theorem uq{t:Ty}{x:El t}:(SV.ai t x []).shut=SV.ai t x []/\SV.ai t x []≠ .cj:=⟨rfl,by simp⟩
def fo(E:Env)(l q:List SV):Prop:=∀{R:Type} (C:FuncId->bI R) (k:Nat) (fn:Func) (code:Code) (b:Option bj) (K:List SV->Option bj->Option R),gV E C k fn code l b K=gV E C k fn code q b K
theorem tM{l:List SV}{F:Option R}{z:R}(iw:E.ps=[])(h:eL (aL [] l) F=some z):F=some z/\fo E l []:=by
 unfold eL at h
 split at h
 ·rename_i hn
  have:=YT hn
  subst this
  exact⟨h,fun C k fn code b K=>rfl⟩
 ·cases h
theorem EM{t:Ty}{l:List SV}{F:El t->Option R}{z:R}(iw:E.ps=[t])(h:eM t (aL [t] l) F=some z):∃x,F x=some z/\fo E l [.ai t x []]:=by
 unfold eM at h
 split at h
 ·rename_i a hn
  obtain⟨x,v,q,rfl,rfl,h1,h⟩:=lB hn h
  refine⟨x,h,fun C k fn code b K=>zQ (by rw[iw];exact hn) ?_⟩
  intro s hs
  simp only[List.mem_cons,List.not_mem_nil,or_false] at hs
  subst hs;exact uq
 ·cases h
theorem iI{t u:Ty}{l:List SV}{F:El t->El u->Option R}{z:R}(iw:E.ps=[t,u])(h:ep t u (aL [t,u] l) F=some z):∃x y,F x y=some z/\fo E l [.ai t x [],.ai u y []]:=by
 unfold ep at h
 split at h
 ·rename_i a b hn
  obtain⟨x,v,q,rfl,rfl,h1,h⟩:=lB hn h
  obtain⟨y,v',q',rfl,rfl,h2,h⟩:=lB h1 h
  refine⟨x,y,h,fun C k fn code b K=>zQ (by rw[iw];exact hn) ?_⟩
  intro s hs
  simp only[List.mem_cons,List.not_mem_nil,or_false] at hs
  rcases hs with rfl|rfl<;>exact uq
 ·cases h
theorem RE{t u v:Ty}{l:List SV}{F:El t->El u->El v->Option R}{z:R}(iw:E.ps=[t,u,v])(h:ji t u v (aL [t,u,v] l) F=some z):∃x y a,F x y a=some z/\fo E l [.ai t x [],.ai u y [],.ai v a []]:=by
 unfold ji at h
 split at h
 ·rename_i a b c hn
  obtain⟨x,v,q,rfl,rfl,h1,h⟩:=lB hn h
  obtain⟨y,v',q',rfl,rfl,h2,h⟩:=lB h1 h
  obtain⟨w,v',q',rfl,rfl,h3,h⟩:=lB h2 h
  refine⟨x,y,w,h,fun C k fn code b K=>zQ (by rw[iw];exact hn) ?_⟩
  intro s hs
  simp only[List.mem_cons,List.not_mem_nil,or_false] at hs
  rcases hs with rfl|rfl|rfl<;>exact uq
 ·cases h
theorem RF{t u v w:Ty}{l:List SV}{F:El t->El u->El v->El w->Option R}{z:R}(iw:E.ps=[t,u,v,w])(h:jj t u v w (aL [t,u,v,w] l) F=some z):∃x y a b,F x y a b=some z/\fo E l [.ai t x [],.ai u y [],.ai v a [],.ai w b []]:=by
 unfold jj at h
 split at h
 ·rename_i a b c d hn
  obtain⟨x,v,q,rfl,rfl,h1,h⟩:=lB hn h
  obtain⟨y,v',q',rfl,rfl,h2,h⟩:=lB h1 h
  obtain⟨w,v',q',rfl,rfl,h3,h⟩:=lB h2 h
  obtain⟨w',v',q',rfl,rfl,h4,h⟩:=lB h3 h
  refine⟨x,y,w,w',h,fun C k fn code b K=>zQ (by rw[iw];exact hn) ?_⟩
  intro s hs
  simp only[List.mem_cons,List.not_mem_nil,or_false] at hs
  rcases hs with rfl|rfl|rfl|rfl<;>exact uq
 ·cases h
theorem zdq{t:Ty}{own:List (List Nat)}{l:List SV}{b:Option bj}{F:El t->List SV->Option R}{z:R}(h:ic t own l b F=some z):∃x r,l= .ptr 0 t []::r/\b=some ⟨t,x,own⟩/\F x r=some z:=by
 unfold ic at h
 split at h
 ·rename_i u r B
  split at h
  ·rename_i hB
   split at h
   ·rename_i hu
    simp only[Bool.and_eq_true,beq_iff_eq] at hu
    obtain⟨h1,h2⟩:=hu
    obtain⟨Bt,Bx,Bo⟩:=B
    have:=Ty.aH hB
    have h3:=Ty.aH h1
    subst this
    subst h3
    subst h2
    exact⟨Bx,r,rfl,rfl,h⟩
   ·cases h
  ·cases h
 ·cases h
theorem Y0{ts:List Ty}{l:List SV}{t:Ty}{r:List SV}(h:aL (.unit::ts) l= .ptr 0 t []::r):∃q,l= .ptr 0 t []::q/\aL ts q=r:=by
 obtain⟨v,q,rfl⟩:=zxm h
 cases v<;>simp [aL,SV.shut] at h
 obtain⟨⟨rfl,rfl,rfl⟩,h2⟩:=h
 exact⟨q,rfl,h2⟩
theorem Hb{t:Ty}:(SV.ptr 0 t []).shut=SV.ptr 0 t []/\SV.ptr 0 t []≠ .cj:=⟨rfl,by simp⟩
theorem yt{t:Ty}{own:List (List Nat)}{ts:List Ty}{l:List SV}{b:Option bj}{F:El t->List SV->Option R}{z:R}(h:ic t own (aL (.unit::ts) l) b F=some z):∃x q,l= .ptr 0 t []::q/\b=some ⟨t,x,own⟩/\F x (aL ts q)=some z:=by
 obtain⟨x,r,h1,h2,h3⟩:=zdq h
 obtain⟨q,rfl,hq⟩:=Y0 h1
 exact⟨x,q,rfl,h2,by rw[hq];exact h3⟩
theorem fo.ptr{t:Ty}{ts:List Ty}{q q':List SV}(iw:E.ps= .unit::ts)(hn:aL ts q=q')(hd:∀s∈q',s.shut=s/\s≠ .cj):fo E (.ptr 0 t []::q) (.ptr 0 t []::q'):=fun C k fn code b K=>
 zQ (by rw[iw];simp [aL,SV.shut,hn]) (fun s hs=>by
  rcases List.mem_cons.1 hs with rfl|hs
  ·exact Hb
  ·exact hd s hs)
theorem EN{t:Ty}{q:List SV}{F:Option R}{z:R}(iw:E.ps=[.unit])(h:eL (aL [] q) F=some z):F=some z/\fo E (.ptr 0 t []::q) [.ptr 0 t []]:=by
 unfold eL at h
 split at h
 ·rename_i hn
  exact⟨h,fo.ptr iw hn (by simp)⟩
 ·cases h
theorem EO{t u:Ty}{q:List SV}{F:El u->Option R}{z:R}(iw:E.ps=[.unit,u])(h:eM u (aL [u] q) F=some z):∃x,F x=some z/\fo E (.ptr 0 t []::q) [.ptr 0 t [],.ai u x []]:=by
 unfold eM at h
 split at h
 ·rename_i a hn
  obtain⟨x,v,q,rfl,rfl,h1,h⟩:=lB hn h
  refine⟨x,h,fo.ptr iw hn ?_⟩
  intro s hs
  simp only[List.mem_cons,List.not_mem_nil,or_false] at hs
  subst hs;exact uq
 ·cases h
theorem EP{t u v:Ty}{q:List SV}{F:El u->El v->Option R}{z:R}(iw:E.ps=[.unit,u,v])(h:ep u v (aL [u,v] q) F=some z):∃x y,F x y=some z/\fo E (.ptr 0 t []::q) [.ptr 0 t [],.ai u x [],.ai v y []]:=by
 unfold ep at h
 split at h
 ·rename_i a b hn
  obtain⟨x,v,q,rfl,rfl,h1,h⟩:=lB hn h
  obtain⟨y,v',q',rfl,rfl,h2,h⟩:=lB h1 h
  refine⟨x,y,h,fo.ptr iw hn ?_⟩
  intro s hs
  simp only[List.mem_cons,List.not_mem_nil,or_false] at hs
  rcases hs with rfl|rfl<;>exact uq
 ·cases h
theorem ER{t pt bt:Ty}{own:List (List Nat)}{l:List SV}{b:Option bj}{F:El t->El bt->Option R}{z:R}(iw:E.ps=[t,.unit])(h:jh t pt bt own (aL [t,.unit] l) b F=some z):
 ∃x y,b=some ⟨bt,y,own⟩/\F x y=some z/\fo E l [.ai t x [],.ptr 0 pt []]:=by
 unfold jh at h
 split at h
 ·rename_i a u B hn
  split at h
  ·rename_i hB
   split at h
   ·rename_i hu
    simp only[Bool.and_eq_true,beq_iff_eq] at hu
    obtain⟨h1,h2⟩:=hu
    obtain⟨Bt,Bx,Bo⟩:=B
    have:=Ty.aH hB
    have h3:=Ty.aH h1
    subst this
    subst h3
    subst h2
    obtain⟨y,v,q,rfl,rfl,h4,h⟩:=lB hn h
    refine⟨y,Bx,rfl,h,fun C k fn code b K=>zQ (by rw[iw];exact hn) ?_⟩
    intro s hs
    simp only[List.mem_cons,List.not_mem_nil,or_false] at hs
    rcases hs with rfl|rfl
    ·exact uq
    ·exact Hb
   ·cases h
  ·cases h
 ·cases h
theorem GJ{t:Ty}{x:El t}:(SV.view t x).shut=SV.view t x/\SV.view t x≠ .cj:=⟨rfl,by simp⟩
theorem EQ{t u v w:Ty}{l:List SV}{F:El t->El u->El v->El w->Option R}{z:R}(iw:E.ps=[t,u,.unit,.unit])(h:BS t u v w (aL [t,u,.unit,.unit] l) F=some z):
 ∃p q x y,F p q x y=some z/\fo E l [.ai t p [],.ai u q [],.view v x,.view w y]:=by
 unfold BS at h
 split at h
 ·rename_i a b v' x w' y hn
  split at h
  ·rename_i hv
   split at h
   ·rename_i hw
    have:=Ty.aH hv
    have h3:=Ty.aH hw
    subst this
    subst h3
    obtain⟨p,v1,q1,rfl,rfl,h4,h⟩:=lB hn h
    obtain⟨q,v2,q2,rfl,rfl,h5,h⟩:=lB h4 h
    refine⟨p,q,x,y,h,fun C k fn code b K=>zQ (by rw[iw];exact hn) ?_⟩
    intro s hs
    simp only[List.mem_cons,List.not_mem_nil,or_false] at hs
    rcases hs with rfl|rfl|rfl|rfl
    ·exact uq
    ·exact uq
    ·exact GJ
    ·exact GJ
   ·cases h
  ·cases h
 ·cases h
end
end Go.Ref

namespace Go.Ref
open Go
variable {P:Program} {E:Env}
def ar.after(X:ar)(w:World):ar:=⟨w,fun g=>if g<X.w.heap.size then X.ow g else .ro 0,X.β⟩
theorem zof{X:ar}{w:World}(h:RowKit.Below X.w.heap.size X.w w){a:Addr}{v:Value}(hs:X.ax a v):(X.after w).ax a v:=by
 have aw:=ar.fW hs
 refine⟨hs.1,?_,?_⟩
 ·have:=hs.2.1
  simp only[World.cell?] at this⊢
  rw[show(X.after w).w=w from rfl,h.block _ aw];exact this
 ·simp only[ar.after];rw[if_pos aw];exact hs.2.2
theorem Vc{X:ar}{w:World}(h:RowKit.Below X.w.heap.size X.w w):Ext X (X.after w) where
 ax:=fun _ _=>zof h
 size:=h.size
 os:=h.os
 tape:=h.tape
 output:=h.output
 β0:=rfl
 still:=fun g hg _=>⟨by simp only[ar.after];rw[if_pos hg],h.block g hg⟩
theorem YL{C:af}(h0:∀f,cG P C f){n:FuncId}{g:Pure}(dE:oF P n)
 (h:∀(l:List SV) (b:Option bj) (r:List SV) (b':Option bj),g (List SV×Option bj) l b (fun r b=>some (r,b))=some (r,b')->b'=none/\(∀id t p,SV.ptr id t p∉r)/\r.any SV.bu=false/\
   ∀(X:ar) (args:Array Value),hP X l b args->Calls P n args X.w fun e w'=>∃v,e= .returned v/\RowKit.Below X.w.heap.size X.w w'/\∀Y:ar,Y.w=w'->(∀a v,X.ax a v->Y.ax a v)->ct Y .r r v):∀f,cG P (C.add n [] g) f:=by
 intro f
 by_cases e:f=n
 ·subst e
  intro l b r b' hc
  unfold af.add at hc
  have hb:Nat.beq f f=true:=by simp
  rw[hb] at hc
  have hc:g (List SV×Option bj) (aL [] l) b (fun r b=>some (r,b))=some (r,b'):=hc
  have hl:aL [] l=l:=by cases l<;>rfl
  rw[hl] at hc
  obtain⟨rfl,hp,dn,xY⟩:=h l b r b' hc
  refine⟨dE,fun X args fG=>(xY X args fG).mono fun e w' he=> ?_⟩
  obtain⟨v,rfl,hB,aK⟩:=he
  refine⟨X.after w',rfl,Vc hB,0,aK {X.after w' with β:=fun _=>some 0} rfl (fun a v hs=>(zof hB hs:(X.after w').ax a v)),fun B' dC=>(by cases dC),fun _=>hp,dn⟩
 ·intro l b r b' hc
  unfold af.add at hc
  have:Nat.beq f n=false:=by
   cases hh:Nat.beq f n with
   |false=>rfl
   |true=>exact absurd (Nat.eq_of_beq_eq_true hh) e
  rw[this] at hc
  exact h0 f l b r b' hc
theorem zx0{X:ar}{l:List SV}{b:Option bj}{args:Array Value}(h:hP X l b args){i:Nat}{sv:SV}(hs:l[i]? =some sv){x:ByteArray}(hx:∀(X:ar) (pl:List Nat->Place) (v:Value),ay X pl sv v->∃cs,aY X .str x cs/\v=dk .str cs):args[i]? =some (.string x):=by
 have aw:i<args.size:=by rw[h.size];exact(List.getElem?_eq_some_iff.1 hs).1
 rw[Array.getElem?_eq_getElem aw]
 obtain⟨cs,h1,h2⟩:=hx X _ _ (h.rep i sv _ hs (Array.getElem?_eq_getElem aw))
 rw[h2,lv h1]
theorem VK{X:ar}{l:List SV}{b:Option bj}{args:Array Value}(h:hP X l b args){i:Nat}{sv:SV}(hs:l[i]? =some sv){k:IntKind}{n:Int}(hx:∀(X:ar) (pl:List Nat->Place) (v:Value),ay X pl sv v->∃cs,aY X (.int k) n cs/\v=dk (.int k) cs):args[i]? =some (.int k n):=by
 have aw:i<args.size:=by rw[h.size];exact(List.getElem?_eq_some_iff.1 hs).1
 rw[Array.getElem?_eq_getElem aw]
 obtain⟨cs,h1,h2⟩:=hx X _ _ (h.rep i sv _ hs (Array.getElem?_eq_getElem aw))
 rw[h2,jG h1]
theorem Yj{args:Array Value}{v:Value}(hs:args.size=1)(h:args[0]? =some v):args= #[v]:=by
 apply Array.ext'
 match hl:args.toList,(show args.toList.length=1 by simpa using hs) with
 | [x],_=>
   have:args.toList[0]? =some v:=by simpa using h
   rw[hl] at this
   simpa using this
theorem Fb{args:Array Value}{u v:Value}(hs:args.size=2)(h:args[0]? =some u)(h1:args[1]? =some v):args= #[u,v]:=by
 apply Array.ext'
 match hl:args.toList,(show args.toList.length=2 by simpa using hs) with
 | [x,y],_=>
   have a:args.toList[0]? =some u:=by simpa using h
   have b:args.toList[1]? =some v:=by simpa using h1
   rw[hl] at a b
   simp at a b
   rw[a,b]
theorem YM{C:af}(h0:∀f,cG P C f){n:FuncId}(dE:oF P n)(F:ByteArray->Int->Option ByteArray)
 (h:∀(s:ByteArray) (k:Int) (r:ByteArray),F s k=some r->∀w:World,Calls P n #[.string s,.int .i64 k] w fun e w'=>e= .returned (.string r)/\RowKit.Below w.heap.size w w'):
 ∀f,cG P (C.add n [] fun R l b K=>eW b (ep .str (.int .i64) l fun x0 x1=>(F x0 x1).bind fun r=>K [.ai .str r []] none)) f:=by
 refine YL h0 dE fun l b r b' hc=> ?_
 obtain⟨hb,hc2⟩:=zL hc
 clear hc
 subst hb
 have hc:=hc2
 clear hc2
 unfold ep at hc
 split at hc
 case h_2=>cases hc
 rename_i sa sb
 obtain⟨s,hc,hs⟩:=zt hc
 obtain⟨k,hc,hk⟩:=zt hc
 have hc:((F s k).bind fun r=>some (([SV.ai .str r []]:List SV),(none:Option bj)))=some (r,b'):=hc
 cases hF:F s k with
 |none=>rw[hF] at hc;cases hc
 |some x=>
  rw[hF] at hc
  cases hc
  refine⟨rfl,(fun id t p hm=>by simp at hm),rfl,fun X args fG=> ?_⟩
  have e:=Fb fG.size (zx0 fG rfl hs) (VK fG rfl hk)
  rw[e]
  exact(h s k x hF X.w).mono fun e w' ⟨he,hB⟩=>⟨_,he,hB,fun Y _ _=>wH⟩
end Go.Ref
namespace bA
open Go Go.Ref
def strings_Repeat(s:ByteArray)(k:Int):Option ByteArray:=
 bif decide (0<=k) then bif decide (k<=9223372036854775807) then bif decide ((s.size:Int)*k<=140737488355328) then some ⟨(Go.Lib.repeatL s.data.toList k.toNat).toArray⟩ else none else none else none
theorem zam{P:Program}{ρ:Go.Shelf.Ren}(L:Go.Proofs.Lays.n105 P ρ)(B:Go.Proofs.Builder.Extra P ρ){n:FuncId}(hn:ρ.f 105=n)(s:ByteArray)(k:Int)(r:ByteArray)(h:strings_Repeat s k=some r)(w:World):
 Calls P n #[.string s,.int .i64 k] w fun e w'=>e= .returned (.string r)/\RowKit.Below w.heap.size w w':=by
 subst hn
 unfold strings_Repeat at h
 by_cases h0:0<=k
 ·by_cases h1:k<=9223372036854775807
  ·by_cases h2:(s.size:Int)*k<=140737488355328
   ·rw[decide_eq_true h0,decide_eq_true h1,decide_eq_true h2] at h
    cases h
    obtain⟨c,rfl⟩:∃c:Nat,k=(c:Int):=⟨k.toNat,by omega⟩
    exact Go.Proofs.Any.strings_Repeat L B s c w (by omega) (by rw[<-Int.natCast_mul] at h2;omega)
   ·rw[decide_eq_true h0,decide_eq_true h1,decide_eq_false h2] at h;cases h
  ·rw[decide_eq_true h0,decide_eq_false h1] at h;cases h
 ·rw[decide_eq_false h0] at h;cases h
end bA

namespace Go.Ref
open Go Go.Shelf Go.RowKit Go.Proofs
variable {P:Program} {E:Env} {ρ:Ren}
abbrev tQ(T e:TypeId):Ty:= .aI (.fe T e) .unit .unit
def z26(x s:ByteArray):Option (Int×ByteArray):=bif decide (x.size+s.size<=140737488355328) then some ((s.size:Int),x++s) else none
def z47(x:ByteArray):Option (ByteArray×ByteArray):=some (x,x)
def Io(T e:TypeId):Pure:=fun R l b K=>ic (tQ T e) [[]] l b fun x0 l=>eM .str l fun x1=>(z26 x0 x1).bind fun r=>K [.ai (.int .i64) r.1 [],.undef] (some ⟨tQ T e,r.2,[[]]⟩)
def Im(T e:TypeId):Pure:=fun R l b K=>ic (tQ T e) [[]] l b fun x0 l=>eL l ((z47 x0).bind fun r=>K [.ai .str r.1 []] (some ⟨tQ T e,r.2,[]⟩))
theorem acC(T e:TypeId):(Io T e).Nat:=fun R S l b F G K h=>Hx fun _ _=>zds fun _=>oq fun _=>h _ _
theorem acB(T e:TypeId):(Im T e).Nat:=fun R S l b F G K h=>Hx fun _ _=>zdr (oq fun _=>h _ _)
theorem Si(x s:ByteArray):Lib.strCells (x++s)=Lib.strCells x++Lib.strCells s:=by
 simp [Lib.strCells,ByteArray.data_append]
def ar.fe(X:ar)(w:World)(r:Nat)(g:Option Nat):ar:=⟨w,fun k=>if k=r then .box 0 else if g=some k then .row (.b 0 []) 0 else if k<X.w.heap.size then X.ow k else .ro 0,X.β⟩
theorem z141{X:ar}{w:World}{r:Nat}{g0 g:Option Nat}(how:X.ow r= .box 0)(h0:∀k,g0=some k->X.ow k= .row (.b 0 []) 0)(h:fc r g0 X.w w)(hg:∀k,g=some k->g0=some k\/X.w.heap.size<=k):Ext X (X.fe w r g):=by
 have cS:∀k,k<X.w.heap.size->X.ow k≠ .box 0->X.ow k≠ .row (.b 0 []) 0->(X.fe w r g).ow k=X.ow k/\w.heap[k]? =X.w.heap[k]? :=fun k hk h1 h2=>by
  have hr:k≠r:=fun e=>h1 (by rw[e];exact how)
  have hg1:g≠some k:=fun e=>by
   rcases hg k e with e2|e2
   ·exact h2 (h0 k e2)
   ·omega
  have hg2:some k≠g0:=fun e=>h2 (h0 k e.symm)
  refine⟨?_,h.block k hk hr hg2⟩
  simp only[ar.fe]
  rw[if_neg hr,if_neg hg1,if_pos hk]
 refine⟨fun a v hs=> ?_,h.size,h.os,h.tape,h.output,rfl,fun k hk bL=> ?_⟩
 ·have aw:=ar.fW hs
  have hu:=hs.2.2
  obtain⟨k1,k2⟩:=cS a.block aw (fun e=>by rw[e] at hu;exact hu) (fun e=>by rw[e] at hu;exact Nat.not_lt_zero _ hu)
  refine⟨hs.1,?_,by rw[k1];exact hu⟩
  have:=hs.2.1
  simp only[World.cell?] at this⊢
  rw[show(X.fe w r g).w.heap=w.heap from rfl,k2];exact this
 ·exact cS k hk (fun e=>by rw[e] at bL;exact bL) (fun e=>by rw[e] at bL;exact bL)
theorem Ff(n:Nat):Nat.beq n n=true:=by simp
theorem GZ{f n:Nat}(e:f≠n):Nat.beq f n=false:=by
 cases hh:Nat.beq f n with
 |false=>rfl
 |true=>exact absurd (Nat.eq_of_beq_eq_true hh) e
theorem Vm{C:af}(h0:∀f,cG P C f){n T e:TypeId}(dE:oF P n)(L:Lays.n166 P ρ)(X0:Builder.Extra P ρ)(hn:ρ.f 166=n)(hT:ρ.t 72=T)(he:ρ.t 5=e):∀f,cG P (C.add n [] (Io T e)) f:=by
 subst hT he
 intro f
 by_cases ef:f=n
 ·subst ef
  intro l b r b' hc
  unfold af.add at hc
  rw[Ff] at hc
  have hc:Io (ρ.t 72) (ρ.t 5) (List SV×Option bj) (aL [] l) b (fun r b=>some (r,b))=some (r,b'):=hc
  have hl:aL [] l=l:=by cases l<;>rfl
  rw[hl] at hc
  unfold Io at hc
  obtain⟨x,q,rfl,rfl,DW⟩:=zdq hc
  clear hc
  have hc:=DW
  clear DW
  unfold eM at hc
  split at hc
  case h_2=>cases hc
  rename_i a
  obtain⟨s,hc,hs⟩:=zt hc
  unfold z26 at hc
  cases hd:decide (ByteArray.size x+s.size<=140737488355328) with
  |false=>rw[hd] at hc;cases hc
  |true=>
   rw[hd] at hc
   cases hc
   have hlen:=of_decide_eq_true hd
   refine⟨dE,fun X args fG=> ?_⟩
   obtain⟨r0,hβ,how,⟨o,ho⟩,hb⟩:=fG.box _ rfl
   obtain⟨v,hB,hv⟩:=hb (by simp)
   have fa:args.size=2:=by rw[fG.size];rfl
   have a0:args[0]? =some (.pointer (some ⟨r0,0,none⟩)):=by
    rw[Array.getElem?_eq_getElem (by omega)]
    obtain⟨r1,g1,g2⟩:=fG.rep 0 _ _ rfl (Array.getElem?_eq_getElem (by omega))
    rw[hβ] at g1
    cases g1
    rw[((HA rfl).1 g2).1];rfl
   have a1:args[1]? =some (.string s):=zx0 fG (i:=1) rfl hs
   rw[Fb fa a0 a1,<-hn]
   refine(Vo L X0 r0 v (Lib.strCells x) s X.w hB (by rw[Lib.strCells_length];exact hlen)).mono ?_
   rintro e w' ⟨rfl,v',dC,tj,fy⟩
   have hY:(X.fe w' r0 v'.ownBlock).ow r0= .box 0:=by simp [ar.fe]
   refine⟨X.fe w' r0 v'.ownBlock,rfl,z141 how hv tj fy,r0,⟨_,rfl,rfl,fun j sv u hj hu=> ?_⟩,fun B' cE=> ?_,(fun _ id t p hm=>by simp at hm),rfl⟩
   ·match j with
    |0=>cases hj;cases hu;exact zu
    |1=>cases hj;trivial
    |j+2=>simp at hj
   ·cases cE
    refine⟨⟨hY,?_,fun _=>⟨v',by rw[Si];exact dC,fun g hg=> ?_⟩⟩,fun _=>hβ⟩
    ·rcases dC.kG with h|h<;>exact⟨_,h⟩
    ·simp only[ar.fe]
     rw[if_neg (fun e=>dC.ne (by rw[hg,e])),if_pos hg]
 ·intro l b r b' hc
  unfold af.add at hc
  rw[GZ ef] at hc
  exact h0 f l b r b' hc
theorem Vl{C:af}(h0:∀f,cG P C f){n T e:TypeId}(dE:oF P n)(L:Lays.n169 P ρ)(X0:Builder.Extra P ρ)(hn:ρ.f 169=n)(hT:ρ.t 72=T)(he:ρ.t 5=e):∀f,cG P (C.add n [] (Im T e)) f:=by
 subst hT he
 intro f
 by_cases ef:f=n
 ·subst ef
  intro l b r b' hc
  unfold af.add at hc
  rw[Ff] at hc
  have hc:Im (ρ.t 72) (ρ.t 5) (List SV×Option bj) (aL [] l) b (fun r b=>some (r,b))=some (r,b'):=hc
  have hl:aL [] l=l:=by cases l<;>rfl
  rw[hl] at hc
  unfold Im at hc
  obtain⟨x,q,rfl,rfl,DW⟩:=zdq hc
  clear hc
  have hc:=DW
  clear DW
  unfold eL at hc
  split at hc
  case h_2=>cases hc
  cases hc
  refine⟨dE,fun X args fG=> ?_⟩
  obtain⟨r0,hβ,how,⟨o,ho⟩,hb⟩:=fG.box _ rfl
  obtain⟨v,hB,hv⟩:=hb (by simp)
  have fa:args.size=1:=by rw[fG.size];rfl
  have a0:args[0]? =some (.pointer (some ⟨r0,0,none⟩)):=by
   rw[Array.getElem?_eq_getElem (by omega)]
   obtain⟨r1,g1,g2⟩:=fG.rep 0 _ _ rfl (Array.getElem?_eq_getElem (by omega))
   rw[hβ] at g1
   cases g1
   rw[((HA rfl).1 g2).1];rfl
  rw[Yj fa a0,<-hn]
  refine(Yn L X0 r0 v (x:ByteArray).data.toList X.w hB).mono ?_
  rintro e w' ⟨rfl,tj⟩
  have hY:(X.fe w' r0 none).ow r0= .box 0:=by simp [ar.fe]
  refine⟨X.fe w' r0 none,rfl,z141 how hv tj (fun k hk=>by cases hk),r0,?_,fun B' cE=> ?_,(fun _ id t p hm=>by simp at hm),rfl⟩
  ·exact wH
  ·cases cE
   refine⟨⟨hY,⟨_,Array.getElem?_eq_getElem (Nat.lt_of_lt_of_le hB.lt tj.size)⟩,fun hm=>by cases hm⟩,fun _=>hβ⟩
 ·intro l b r b' hc
  unfold af.add at hc
  rw[GZ ef] at hc
  exact h0 f l b r b' hc
end Go.Ref

namespace Go.Ref
open Go
variable {P:Program} {R S:Type}
structure aN(P:Program)(T:af):Prop where
 mix:P.follows .mixedOrders=true
 nat:T.Nat
 qQ:∀f,cG P T f
noncomputable abbrev cd (fn:Func):Code:=fn.body.getD .skip
noncomputable abbrev rD (E:Env) (T:af) (R:Type) (k:Nat) (fn:Func) (l:List SV) (b:Option bj) (K:List SV->Option bj->Option R):Option R:=gV E (T R) k fn (cd fn) l b K
abbrev KF(R:Type):Type:=List SV->Option bj->Option R
abbrev KX(R:Type):Type:=Ex->State->Option R
abbrev iM(β:Type):Type 1:=(R:Type)->β->KF R->Option R
def iM.Nat{β:Type}(o:iM β):Prop:=∀(R S:Type) r (F:KF R) (G:KF S) (K:S->Option R),(∀r b,F r b=(G r b).bind K)->o R r F=(o S r G).bind K
def qd(fn:Func):Bool:= !(fn.name== "runtime.NumGoroutine")&&fn.body.isSome
def tI(x:Int):SV:= .ai (.int .i64) x []
def tU(x:Int):SV:= .ai (.int .u8) x []
def tB(x:Bool):SV:= .ai .bool x []
def tS(x:ByteArray):SV:= .ai .str x []
theorem G5{kk:Nat}(hF:kk=ah){R:Type}(f:Unit->Option R):cm kk f=f ():=by rw[hF];exact S9 f
theorem aE:(∀{R S:Type} (c:Bool) (x y:Option S) (F:S->Option R),(bif c then x else y).bind F=bif c then x.bind F else y.bind F)/\(∀{R S:Type} (i:Int) (n:Nat) (x:Option S) (F:S->Option R),(zc i n x).bind F=zc i n (x.bind F))/\
 (∀{R S:Type} (F:S->Option R),(.none:Option S).bind F= .none)/\(∀{R S:Type} (x:S) (F:S->Option R),(some x).bind F=F x)/\(∀{R S α β:Type} (f:α->Option S) (g:β->Option S) (e:α⊕β) (F:S->Option R),(Sum.elim f g e).bind F=Sum.elim (fun x=>(f x).bind F) (fun x=>(g x).bind F) e)/\
 (∀{R S α:Type} (x:Option α) (f:α->Option S) (F:S->Option R),(x.bind f).bind F=x.bind fun y=>(f y).bind F)/\(∀{α β γ:Type} (f:α->γ) (g:β->γ) (x:α),Sum.elim f g (.inl x)=f x)/\(∀{α β γ:Type} (f:α->γ) (g:β->γ) (x:β),Sum.elim f g (.inr x)=g x):=
 ⟨zdz,SC,V0,zf,Y5,Vk,fun _ _ _=>rfl,fun _ _ _=>rfl⟩
theorem aN.none(hm:P.follows .mixedOrders=true):aN P af.none:=⟨hm,YS,V1⟩
theorem aN.add{E:Env}{T:af}(h:aN P T)(hE:aj P E){n:FuncId}{ps:List Ty}{g:Pure}{fn:Func}(fZ:P.funcs[n]? =some fn)(hc:qd fn=true)(hg:g.Nat)
 (h1:∀(l:List SV) (b:Option bj) (r:List SV) (b':Option bj),g (List SV×Option bj) (aL ps l) b (fun r b=>some (r,b))=some (r,b')->∃k,gV E (T (List SV×Option bj)) k fn (cd fn) l b (fun r b=>some (r,b))=some (r,b')):aN P (T.add n ps g):=by
 obtain⟨h2,h3⟩:=Bool.and_eq_true_iff.1 hc
 refine⟨h.mix,My h.nat hg,Yi hE h.mix h.nat h.qQ fZ (by simpa using h2) ?_ h1⟩
 cases e:fn.body with
 |none=>rw[e] at h3;cases h3
 |some c=>simp [cd,e]
def A4{β:Type}(f:Option β)(o:iM β):Pure:=fun R l b K=>eW b (eL l (f.bind fun r=>o R r K))
theorem E1(E:Env){T:af}{n:FuncId}(fn:Func){β:Type}{f:Option β}{o:iM β}(m:(R:Type)->Nat->KF R->Option R)(h0:aN P T)(hE:aj P E)(fZ:P.funcs[n]? =some fn)(hc:qd fn=true)(hp:E.ps=[])(ho:o.Nat)
 (h1:∀(R:Type) k (K:KF R),rD E T R k fn [] .none K=m R k K) (h2:∀(R:Type) kk (e:kk=ah) (K:KF R),m R kk K=f.bind fun r=>o R r K):aN P (T.add n [] (A4 f o)):=
 h0.add hE fZ hc (fun R S l b F G K h=>zO (zdr (oq fun _=>ho _ _ _ _ _ _ h))) fun l b r b' h=>by
  obtain⟨rfl,h5⟩:=zL h
  obtain⟨h3,h4⟩:=tM hp h5
  exact⟨ah,(h4 _ _ _ _ _ _).trans (((h1 _ _ _).trans (h2 _ _ rfl _)).trans h3)⟩
def cr(t:Ty){β:Type}(f:El t->Option β)(o:iM β):Pure:=fun R l b K=>eW b (eM t l (fun x=>(f x).bind fun r=>o R r K))
theorem cw(E:Env){T:af}{n:FuncId}(fn:Func){t:Ty}{β:Type}{f:El t->Option β}{o:iM β}(m:(R:Type)->Nat->El t->KF R->Option R)(h0:aN P T)(hE:aj P E)(fZ:P.funcs[n]? =some fn)(hc:qd fn=true)(hp:E.ps=[t])(ho:o.Nat)
 (h1:∀(R:Type) k x (K:KF R),rD E T R k fn [.ai t x []] .none K=m R k x K) (h2:∀(R:Type) kk (e:kk=ah) x (K:KF R),m R kk x K=(f x).bind fun r=>o R r K):aN P (T.add n [t] (cr t f o)):=
 h0.add hE fZ hc (fun R S l b F G K h=>zO (zds fun _=>oq fun _=>ho _ _ _ _ _ _ h)) fun l b r b' h=>by
  obtain⟨rfl,h5⟩:=zL h
  obtain⟨x,h3,h4⟩:=EM hp h5
  exact⟨ah,(h4 _ _ _ _ _ _).trans (((h1 _ _ x _).trans (h2 _ _ rfl x _)).trans h3)⟩
def dc(t u:Ty){β:Type}(f:El t->El u->Option β)(o:iM β):Pure:=fun R l b K=>eW b (ep t u l (fun x y=>(f x y).bind fun r=>o R r K))
theorem di(E:Env){T:af}{n:FuncId}(fn:Func){t u:Ty}{β:Type}{f:El t->El u->Option β}{o:iM β}(m:(R:Type)->Nat->El t->El u->KF R->Option R)(h0:aN P T)(hE:aj P E)(fZ:P.funcs[n]? =some fn)(hc:qd fn=true)(hp:E.ps=[t,u])(ho:o.Nat)
 (h1:∀(R:Type) k x y (K:KF R),rD E T R k fn [.ai t x [],.ai u y []] .none K=m R k x y K) (h2:∀(R:Type) kk (e:kk=ah) x y (K:KF R),m R kk x y K=(f x y).bind fun r=>o R r K):aN P (T.add n [t,u] (dc t u f o)):=
 h0.add hE fZ hc (fun R S l b F G K h=>zO (zdt fun _ _=>oq fun _=>ho _ _ _ _ _ _ h)) fun l b r b' h=>by
  obtain⟨rfl,h5⟩:=zL h
  obtain⟨x,y,h3,h4⟩:=iI hp h5
  exact⟨ah,(h4 _ _ _ _ _ _).trans (((h1 _ _ x y _).trans (h2 _ _ rfl x y _)).trans h3)⟩
def iW(t u v:Ty){β:Type}(f:El t->El u->El v->Option β)(o:iM β):Pure:=fun R l b K=>eW b (ji t u v l (fun x y a=>(f x y a).bind fun r=>o R r K))
theorem jA(E:Env){T:af}{n:FuncId}(fn:Func){t u v:Ty}{β:Type}{f:El t->El u->El v->Option β}{o:iM β}(m:(R:Type)->Nat->El t->El u->El v->KF R->Option R)(h0:aN P T)(hE:aj P E)(fZ:P.funcs[n]? =some fn)(hc:qd fn=true)(hp:E.ps=[t,u,v])(ho:o.Nat)
 (h1:∀(R:Type) k x y a (K:KF R),rD E T R k fn [.ai t x [],.ai u y [],.ai v a []] .none K=m R k x y a K) (h2:∀(R:Type) kk (e:kk=ah) x y a (K:KF R),m R kk x y a K=(f x y a).bind fun r=>o R r K):aN P (T.add n [t,u,v] (iW t u v f o)):=
 h0.add hE fZ hc (fun R S l b F G K h=>zO (Vg fun _ _ _=>oq fun _=>ho _ _ _ _ _ _ h)) fun l b r b' h=>by
  obtain⟨rfl,h5⟩:=zL h
  obtain⟨x,y,a,h3,h4⟩:=RE hp h5
  exact⟨ah,(h4 _ _ _ _ _ _).trans (((h1 _ _ x y a _).trans (h2 _ _ rfl x y a _)).trans h3)⟩
def Jb(t u v w:Ty){β:Type}(f:El t->El u->El v->El w->Option β)(o:iM β):Pure:=fun R l b K=>eW b (jj t u v w l (fun x y a b=>(f x y a b).bind fun r=>o R r K))
theorem RR(E:Env){T:af}{n:FuncId}(fn:Func){t u v w:Ty}{β:Type}{f:El t->El u->El v->El w->Option β}{o:iM β}(m:(R:Type)->Nat->El t->El u->El v->El w->KF R->Option R)(h0:aN P T)(hE:aj P E)(fZ:P.funcs[n]? =some fn)(hc:qd fn=true)(hp:E.ps=[t,u,v,w])(ho:o.Nat)
 (h1:∀(R:Type) k x y a b (K:KF R),rD E T R k fn [.ai t x [],.ai u y [],.ai v a [],.ai w b []] .none K=m R k x y a b K) (h2:∀(R:Type) kk (e:kk=ah) x y a b (K:KF R),m R kk x y a b K=(f x y a b).bind fun r=>o R r K):aN P (T.add n [t,u,v,w] (Jb t u v w f o)):=
 h0.add hE fZ hc (fun R S l b F G K h=>zO (Vh fun _ _ _ _=>oq fun _=>ho _ _ _ _ _ _ h)) fun l b r b' h=>by
  obtain⟨rfl,h5⟩:=zL h
  obtain⟨x,y,a,b,h3,h4⟩:=RF hp h5
  exact⟨ah,(h4 _ _ _ _ _ _).trans (((h1 _ _ x y a b _).trans (h2 _ _ rfl x y a b _)).trans h3)⟩
def A3(T0:Ty)(wn:List (List Nat)){β:Type}(f:El T0->Option β)(o:iM β):Pure:=fun R l b K=>ic T0 wn l b fun z l=>eL l ((f z).bind fun r=>o R r K)
theorem Jj(E:Env){T:af}{n:FuncId}(fn:Func){T0:Ty}{wn:List (List Nat)}{β:Type}{f:El T0->Option β}{o:iM β}(m:(R:Type)->Nat->El T0->KF R->Option R)(h0:aN P T)(hE:aj P E)(fZ:P.funcs[n]? =some fn)(hc:qd fn=true)(hp:E.ps=[.unit])(ho:o.Nat)
 (h1:∀(R:Type) k z (K:KF R),rD E T R k fn [.ptr 0 T0 []] (some ⟨T0,z,wn⟩) K=m R k z K) (h2:∀(R:Type) kk (e:kk=ah) z (K:KF R),m R kk z K=(f z).bind fun r=>o R r K):aN P (T.add n [.unit] (A3 T0 wn f o)):=
 h0.add hE fZ hc (fun R S l b F G K h=>Hx fun _ _=>zdr (oq fun _=>ho _ _ _ _ _ _ h)) fun l b r b' h=>by
  unfold A3 at h
  obtain⟨z,q,rfl,rfl,h5⟩:=yt h
  obtain⟨h3,h4⟩:=EN hp h5
  exact⟨ah,(h4 _ _ _ _ _ _).trans (((h1 _ _ z _).trans (h2 _ _ rfl z _)).trans h3)⟩
def yx(T0:Ty)(wn:List (List Nat))(t:Ty){β:Type}(f:El T0->El t->Option β)(o:iM β):Pure:=fun R l b K=>ic T0 wn l b fun z l=>eM t l (fun x=>(f z x).bind fun r=>o R r K)
theorem EZ(E:Env){T:af}{n:FuncId}(fn:Func){T0:Ty}{wn:List (List Nat)}{t:Ty}{β:Type}{f:El T0->El t->Option β}{o:iM β}(m:(R:Type)->Nat->El T0->El t->KF R->Option R)(h0:aN P T)(hE:aj P E)(fZ:P.funcs[n]? =some fn)(hc:qd fn=true)(hp:E.ps=[.unit,t])(ho:o.Nat)
 (h1:∀(R:Type) k z x (K:KF R),rD E T R k fn [.ptr 0 T0 [],.ai t x []] (some ⟨T0,z,wn⟩) K=m R k z x K) (h2:∀(R:Type) kk (e:kk=ah) z x (K:KF R),m R kk z x K=(f z x).bind fun r=>o R r K):aN P (T.add n [.unit,t] (yx T0 wn t f o)):=
 h0.add hE fZ hc (fun R S l b F G K h=>Hx fun _ _=>zds fun _=>oq fun _=>ho _ _ _ _ _ _ h) fun l b r b' h=>by
  unfold yx at h
  obtain⟨z,q,rfl,rfl,h5⟩:=yt h
  obtain⟨x,h3,h4⟩:=EO hp h5
  exact⟨ah,(h4 _ _ _ _ _ _).trans (((h1 _ _ z x _).trans (h2 _ _ rfl z x _)).trans h3)⟩
def RG(T0:Ty)(wn:List (List Nat))(t u:Ty){β:Type}(f:El T0->El t->El u->Option β)(o:iM β):Pure:=fun R l b K=>ic T0 wn l b fun z l=>ep t u l (fun x y=>(f z x y).bind fun r=>o R r K)
theorem sb2(E:Env){T:af}{n:FuncId}(fn:Func){T0:Ty}{wn:List (List Nat)}{t u:Ty}{β:Type}{f:El T0->El t->El u->Option β}{o:iM β}(m:(R:Type)->Nat->El T0->El t->El u->KF R->Option R)(h0:aN P T)(hE:aj P E)(fZ:P.funcs[n]? =some fn)(hc:qd fn=true)(hp:E.ps=[.unit,t,u])(ho:o.Nat)
 (h1:∀(R:Type) k z x y (K:KF R),rD E T R k fn [.ptr 0 T0 [],.ai t x [],.ai u y []] (some ⟨T0,z,wn⟩) K=m R k z x y K) (h2:∀(R:Type) kk (e:kk=ah) z x y (K:KF R),m R kk z x y K=(f z x y).bind fun r=>o R r K):aN P (T.add n [.unit,t,u] (RG T0 wn t u f o)):=
 h0.add hE fZ hc (fun R S l b F G K h=>Hx fun _ _=>zdt fun _ _=>oq fun _=>ho _ _ _ _ _ _ h) fun l b r b' h=>by
  unfold RG at h
  obtain⟨z,q,rfl,rfl,h5⟩:=yt h
  obtain⟨x,y,h3,h4⟩:=EP hp h5
  exact⟨ah,(h4 _ _ _ _ _ _).trans (((h1 _ _ z x y _).trans (h2 _ _ rfl z x y _)).trans h3)⟩
def pz(t pt bt:Ty)(wn:List (List Nat)){β:Type}(f:El t->El bt->Option β)(o:iM β):Pure:=fun R l b K=>jh t pt bt wn l b fun x y=>(f x y).bind fun r=>o R r K
theorem sz(E:Env){T:af}{n:FuncId}(fn:Func){t pt bt:Ty}{wn:List (List Nat)}{β:Type}{f:El t->El bt->Option β}{o:iM β}(m:(R:Type)->Nat->El t->El bt->KF R->Option R)(h0:aN P T)(hE:aj P E)(fZ:P.funcs[n]? =some fn)(hc:qd fn=true)(hp:E.ps=[t,.unit])(ho:o.Nat)
 (h1:∀(R:Type) k x y (K:KF R),rD E T R k fn [.ai t x [],.ptr 0 pt []] (some ⟨bt,y,wn⟩) K=m R k x y K) (h2:∀(R:Type) kk (e:kk=ah) x y (K:KF R),m R kk x y K=(f x y).bind fun r=>o R r K):aN P (T.add n [t,.unit] (pz t pt bt wn f o)):=
 h0.add hE fZ hc (fun R S l b F G K h=>Vf fun _ _=>oq fun _=>ho _ _ _ _ _ _ h) fun l b r b' h=>by
  obtain⟨x,y,rfl,h3,h4⟩:=ER hp h
  exact⟨ah,(h4 _ _ _ _ _ _).trans (((h1 _ _ x y _).trans (h2 _ _ rfl x y _)).trans h3)⟩
def pv(t u v w:Ty){β:Type}(f:El t->El u->El v->El w->Option β)(o:iM β):Pure:=fun R l b K=>eW b (BS t u v w l (fun x y a b=>(f x y a b).bind fun r=>o R r K))
theorem sv(E:Env){T:af}{n:FuncId}(fn:Func){t u v w:Ty}{β:Type}{f:El t->El u->El v->El w->Option β}{o:iM β}(m:(R:Type)->Nat->El t->El u->El v->El w->KF R->Option R)(h0:aN P T)(hE:aj P E)(fZ:P.funcs[n]? =some fn)(hc:qd fn=true)(hp:E.ps=[t,u,.unit,.unit])(ho:o.Nat)
 (h1:∀(R:Type) k x y a b (K:KF R),rD E T R k fn [.ai t x [],.ai u y [],.view v a,.view w b] .none K=m R k x y a b K) (h2:∀(R:Type) kk (e:kk=ah) x y a b (K:KF R),m R kk x y a b K=(f x y a b).bind fun r=>o R r K):aN P (T.add n [t,u,.unit,.unit] (pv t u v w f o)):=
 h0.add hE fZ hc (fun R S l b F G K h=>zO (SQ fun _ _ _ _=>oq fun _=>ho _ _ _ _ _ _ h)) fun l b r b' h=>by
  unfold pv at h
  obtain⟨rfl,h5⟩:=zL h
  obtain⟨x,y,a,b,h3,h4⟩:=EQ hp h5
  exact⟨ah,(h4 _ _ _ _ _ _).trans (((h1 _ _ x y a b _).trans (h2 _ _ rfl x y a b _)).trans h3)⟩
end Go.Ref

namespace bA
open Go.IntKind renaming wrap->zW,i64->zI,u8->zU
open Go Go.Ref
abbrev nj:Type:=(ByteArray×Nat)
abbrev gS:Type:=(Int×Int×Int)
abbrev IK:Type:=(ByteArray×Int)
abbrev Zt3:Type:=(Int×ByteArray)
abbrev td:Type:=(List (List Int))
abbrev ib:Type:=(ByteArray×Bool)
abbrev aO:Type:=(Int×Int×Unit)
abbrev xB:Type:=(List (Int×Bool))
abbrev OT:Type:=(ByteArray×Int×Int)
abbrev aZ:Type:=(Int×ByteArray×Unit)
abbrev fM:Type:=(List ib)
abbrev cY:Type:=(ByteArray×ByteArray×Unit)
abbrev au:Type:=(List aZ)
abbrev ak:Type:=(Int×Bool×(List Int)×Unit)
abbrev aP:Type:=(Int×Int×Int×Int×Int×Unit)
abbrev jP:Type:=(Int×Int×ByteArray×Int×Unit)
abbrev aM:Type:=(List cY)
abbrev qa:Type:=(Int×ak)
abbrev fp:Type:=(List aP)
abbrev bZ:Type:=(List jP)
abbrev gT:Type:=(au×Int×Int)
abbrev aq:Type:=(ByteArray×au×Unit)
abbrev ae:Type:=(Int×Int×fp×Unit)
abbrev lS:Type:=(List ae)
abbrev aD:Type:=(Int×Int×Int×ByteArray×aM×Unit)
abbrev nT:Type:=(au×Int×Int×au)
abbrev bD:Type:=(List aD)
abbrev nU:Type:=(aq×aO×aq)
abbrev av:Type:=(aM×bD×Unit)
abbrev nV:Type:=(ByteArray×Int×aq×aO×aq)
abbrev al:Type:=(ae×av×(List Int)×au×Unit)
abbrev kF:Type:=(List al)
abbrev jQ:Type:=(av×ae×ae)
abbrev aB:Type:=(kF×Int×Unit)
abbrev jR:Type:=(Int×Int×Int×av×ae×ae)
def zur{R:Type}(a:ByteArray)(b:Int)(c:ByteArray->Int->Option R):Option R:=
 c a b
def zus{R:Type}(a:ByteArray)(b:Int)(c:ByteArray->Int->Option R)(d:ByteArray->Option R):Option R:=
 bif 0<(a.size:Int) then zc (zW zI ((a.size:Int)-1)) a.size (bif zd a (zW zI ((a.size:Int)-(1:Int))).toNat=b then bif 0<=zW zI ((a.size:Int)-1) then bif zW zI ((a.size:Int)-1)<=(a.size:Int) then c (a.extract 0 (zW zI ((a.size:Int)-(1:Int))).toNat) b else none else none else d a) else d a
def zut{R:Type}(a:ByteArray)(b:ByteArray->Option R):Option R:=
 b a
def Mb:Nat->ByteArray->Int->Option ByteArray
 |0,_,_=>none
 |k+1,v0,v1=>zus v0 v1 (fun a0 a1=>Mb k a0 a1) (fun a0=>some a0)
def xt(a:ByteArray)(b:Int):Option ByteArray:=
 zur a b (fun a0 a1=>(Mb ah a0 a1).bind fun e=>zut e (fun a0=>some a0))
def zuo{R:Type}(a:ByteArray)(b:Int)(c:ByteArray->Int->Option R):Option R:=
 c a b
def zup{R:Type}(a:ByteArray)(b:Int)(c:ByteArray->Int->Option R)(d:ByteArray->Option R):Option R:=
 bif 0<(a.size:Int) then zc 0 a.size (bif zd a ((0:Int)).toNat=b then bif 1<=(a.size:Int) then c (a.extract ((1:Int)).toNat a.size) b else none else d a) else d a
def zuq{R:Type}(a:ByteArray)(b:ByteArray->Option R):Option R:=
 b a
def L9:Nat->ByteArray->Int->Option ByteArray
 |0,_,_=>none
 |k+1,v0,v1=>zup v0 v1 (fun a0 a1=>L9 k a0 a1) (fun a0=>some a0)
def xr(a:ByteArray)(b:Int):Option ByteArray:=
 zuo a b (fun a0 a1=>(L9 ah a0 a1).bind fun e=>zuq e (fun a0=>some a0))
def zun{R:Type}(a b:ByteArray)(c:ByteArray->Option R):Option R:=
 bif a=bs [] then c a else bif b=bs [] then c a else bif(b.size:Int)=1 then zc 0 b.size (bif zd b ((0:Int)).toNat<128 then zc 0 b.size ((xt a (zd b ((0:Int)).toNat)).bind fun r1=>zc 0 b.size ((xr r1 (zd b ((0:Int)).toNat)).bind fun r2=>c r2)) else none) else none
def xq(a b:ByteArray):Option ByteArray:=
 zun a b (fun a0=>some a0)
def ND{R:Type}(a:ByteArray)(b:nj->Option R):Option R:=
 b (a,0)
def NE{R:Type}(a:nj)(b:Bool->Option R)(c:nj->Option R)(d:Option R):Option R:=
 bif a.2<a.1.size then bif(((Utf8.decode a.1 a.2).1:Nat):Int)<48 then b false else bif 57<(((Utf8.decode a.1 a.2).1:Nat):Int) then b false else c (a.1,a.2+(Utf8.decode a.1 a.2).2) else d
def zzf{R:Type}(a:Bool)(b:Bool->Option R):Option R:=
 b a
def zzg{R:Type}(a:Bool->Option R):Option R:=
 a true
def BO:Nat->nj->Option (Sum Bool Unit)
 |0,_=>none
 |k+1,v0=>NE v0 (fun a0=>some (.inl a0)) (fun a0=>BO k a0) (some (.inr ()))
def uC(a:ByteArray):Option Bool:=
 ND a (fun a0=>(BO ah a0).bind fun e=>Sum.elim (fun(we:Bool)=>zzf we (fun a0=>some a0)) (fun(we:Unit)=>zzg (fun a0=>some a0)) e)
def zzh{R:Type}(a:ByteArray)(b:Int->Bool->Option R)(c:Int->nj->Option R):Option R:=
 bif a=bs [] then b 0 false else bif 18<(a.size:Int) then b 0 false else(uC a).bind fun r1=>bif !r1 then b 0 false else c 0 (a,0)
def zzi{R:Type}(a:Int)(b:nj)(c:Int->nj->Option R)(d:Int->Option R):Option R:=
 bif b.2<b.1.size then c (zW zI (zW zI (10*a)+zW zI (IntKind.i32.wrap ((((Utf8.decode b.1 b.2).1:Nat):Int)-48)))) (b.1,b.2+(Utf8.decode b.1 b.2).2) else d a
def zzj{R:Type}(a:Int)(b:Int->Bool->Option R):Option R:=
 b a true
def NG:Nat->Int->nj->Option Int
 |0,_,_=>none
 |k+1,v0,v1=>zzi v0 v1 (fun a0 a1=>NG k a0 a1) (fun a0=>some a0)
def AE(a:ByteArray):Option (Int×Bool):=
 zzh a (fun a0 a1=>some (a0,a1)) (fun a0 a1=>(NG ah a0 a1).bind fun e=>zzj e (fun a0 a1=>some (a0,a1)))
def zzl{R:Type}(a b:Int)(c:ByteArray->Bool->Option R)(d:Int->Nat->Int->Nat->(List Int)->Option R):Option R:=
 bif a<0 then c (bs []) false else bif b<1 then c (bs []) false else bif 18<b then c (bs []) false else bif b=b then bif 0<=b then bif b*1<=140737488355328 then d a b.toNat (zW zI (b-1)) b.toNat (List.replicate b.toNat 0) else none else none else none
def zzm{R:Type}(a:Int)(b:Nat)(c:Int)(d:Nat)(e:(List Int))(f:Int->Nat->Int->Nat->(List Int)->Option R)(g:Int->Nat->Nat->(List Int)->Option R):Option R:=
 bif 0<=c then zc c b (bif Nat.ble (c.toNat+1) (List.length e) then f (zW zI (Int.tdiv a 10)) b (zW zI (c-1)) d (List.set e c.toNat (zW zU (zW zI (48+Int.tmod a 10)))) else none) else g a b d e
def zzn{R:Type}(a:Int)(b c:Nat)(d:(List Int))(e:ByteArray->Bool->Option R):Option R:=
 bif 0<a then e (bs []) false else bif Nat.beq b (List.length d) then e (strOf d) true else none
def NI:Nat->Int->Nat->Int->Nat->(List Int)->Option (Int×Nat×Nat×(List Int))
 |0,_,_,_,_,_=>none
 |k+1,v0,v1,v2,v3,v4=>zzm v0 v1 v2 v3 v4 (fun a0 a1 a2 a3 a4=>NI k a0 a1 a2 a3 a4) (fun a0 a1 a2 a3=>some (a0,a1,a2,a3))
def OE(a b:Int):Option ib:=
 zzl a b (fun a0 a1=>some (a0,a1)) (fun a0 a1 a2 a3 a4=>(NI ah a0 a1 a2 a3 a4).bind fun e=>zzn e.1 e.2.1 e.2.2.1 e.2.2.2 (fun a0 a1=>some (a0,a1)))
def zzk{R:Type}(a:ByteArray)(b:Int)(c:ByteArray->Bool->Option R):Option R:=
 bif a=bs [] then c (bs []) false else bif 999<(a.size:Int) then c (bs []) false else(uC a).bind fun r1=>bif !r1 then c (bs []) false else bif b<1 then c (bs []) false else bif 999<b then c (bs []) false else bif(a.size:Int)<=b then(strings_Repeat (bs [48]) (zW zI (b-(a.size:Int)))).bind fun r2=>bif r2.size+a.size<=9223372036854775807 then c (r2++a) true else none else bif 0<=zW zI ((a.size:Int)-b) then bif zW zI ((a.size:Int)-b)<=(a.size:Int) then(xq (a.extract 0 (zW zI ((a.size:Int)-b)).toNat) (bs [48])).bind fun r3=>bif !decide (r3=bs []) then c (bs []) false else bif 0<=zW zI ((a.size:Int)-b) then bif zW zI ((a.size:Int)-b)<=(a.size:Int) then c (a.extract (zW zI ((a.size:Int)-b)).toNat a.size) true else none else none else none else none
def OD(a:ByteArray)(b:Int):Option ib:=
 zzk a b (fun a0 a1=>some (a0,a1))
def pS{R:Type}(a:Int)(b:Int->Option R):Option R:=
 bif a<1 then b 0 else b (zW zI (zW zI (Int.tdiv a 2)+Int.tmod a 2))
def Q2(a:Int):Option Int:=
 pS a (fun a0=>some a0)
def oW{R:Type}(a:ByteArray)(b:Int)(c:ByteArray->Int->Int->Option R)(d:ByteArray->Int->(List Int)->Int->Int->Option R):Option R:=
 bif b<0 then c (bs []) 1 0 else bif 999<b then c (bs []) 1 0 else(Q2 b).bind fun r1=>bif(a.size:Int)<r1 then c (bs []) 2 (a.size:Int) else bif 0<=zW zI (b+1) then bif zW zI (b+1)*1<=140737488355328 then(Q2 b).bind fun r2=>d a b [] r2 0 else none else none
def oY{R:Type}(a:ByteArray)(b:Int)(c:(List Int))(d e:Int)(f:Int->ByteArray->Int->Int->(List Int)->Option R)(g:ByteArray->Int->(List Int)->Int->Int->Option R)(h:Int->(List Int)->Option R):Option R:=
 bif e<d then zc e a.size (zc e a.size (bif e=0 then bif !decide (Int.tmod b 2=0) then bif !decide (Int.fdiv (zd a e.toNat) (2^min ((4:Int)).toNat 8)=0) then f b (bs []) 4 0 c else bif 9<Int.fdiv (zd a e.toNat) (2^min ((4:Int)).toNat 8) then f b (bs []) 3 e c else bif 9<aU .and .u8 (zd a e.toNat) 15 then f b (bs []) 3 e c else bif(List.length c+List.length ([(zW zU ((48:Int)+Int.fdiv (zd a e.toNat) (2^min ((4:Int)).toNat 8))),(zW zU ((48:Int)+aU .and .u8 (zd a e.toNat) (15:Int)))]:List Int))*1<=140737488355328 then g a b (c++([(zW zU (48+Int.fdiv (zd a e.toNat) (2^min ((4:Int)).toNat 8))),(zW zU (48+aU .and .u8 (zd a e.toNat) 15))]:List Int)) d (zW zI (e+1)) else none else bif 9<Int.fdiv (zd a e.toNat) (2^min ((4:Int)).toNat 8) then f b (bs []) 3 e c else bif 9<aU .and .u8 (zd a e.toNat) 15 then f b (bs []) 3 e c else bif(List.length c+List.length ([(zW zU ((48:Int)+Int.fdiv (zd a e.toNat) (2^min ((4:Int)).toNat 8))),(zW zU ((48:Int)+aU .and .u8 (zd a e.toNat) (15:Int)))]:List Int))*1<=140737488355328 then g a b (c++([(zW zU (48+Int.fdiv (zd a e.toNat) (2^min ((4:Int)).toNat 8))),(zW zU (48+aU .and .u8 (zd a e.toNat) 15))]:List Int)) d (zW zI (e+1)) else none else bif 9<Int.fdiv (zd a e.toNat) (2^min ((4:Int)).toNat 8) then f b (bs []) 3 e c else bif 9<aU .and .u8 (zd a e.toNat) 15 then f b (bs []) 3 e c else bif(List.length c+List.length ([(zW zU ((48:Int)+Int.fdiv (zd a e.toNat) (2^min ((4:Int)).toNat 8))),(zW zU ((48:Int)+aU .and .u8 (zd a e.toNat) (15:Int)))]:List Int))*1<=140737488355328 then g a b (c++([(zW zU (48+Int.fdiv (zd a e.toNat) (2^min ((4:Int)).toNat 8))),(zW zU (48+aU .and .u8 (zd a e.toNat) 15))]:List Int)) d (zW zI (e+1)) else none)) else h b c
def oZ{R:Type}(a:Int)(b:ByteArray)(c d:Int)(e:(List Int))(f:ByteArray->Int->Int->Option R):Option R:=
 f b c d
def pa{R:Type}(a:Int)(b:(List Int))(c:ByteArray->Int->Int->Option R):Option R:=
 bif 0<=Int.tmod a 2 then bif Int.tmod a 2<=(((List.length b):Nat):Int) then c (strOf (List.drop (Int.tmod a (2:Int)).toNat (List.take (List.length b) b))) 0 0 else none else none
def mi:Nat->ByteArray->Int->(List Int)->Int->Int->Option (Sum (Int×ByteArray×Int×Int×(List Int)) (Int×(List Int)))
 |0,_,_,_,_,_=>none
 |k+1,v0,v1,v2,v3,v4=>oY v0 v1 v2 v3 v4 (fun a0 a1 a2 a3 a4=>some (.inl (a0,a1,a2,a3,a4))) (fun a0 a1 a2 a3 a4=>mi k a0 a1 a2 a3 a4) (fun a0 a1=>some (.inr (a0,a1)))
def Q0(a:ByteArray)(b:Int):Option OT:=
 oW a b (fun a0 a1 a2=>some (a0,a1,a2)) (fun a0 a1 a2 a3 a4=>(mi ah a0 a1 a2 a3 a4).bind fun e=>Sum.elim (fun(we:(Int×ByteArray×Int×Int×(List Int)))=>oZ we.1 we.2.1 we.2.2.1 we.2.2.2.1 we.2.2.2.2 (fun a0 a1 a2=>some (a0,a1,a2))) (fun(we:(Int×(List Int)))=>pa we.1 we.2 (fun a0 a1 a2=>some (a0,a1,a2))) e)
def kB{R:Type}(a:ByteArray)(b:ByteArray->Bool->Option R)(c:ByteArray->(List Int)->Int->Option R):Option R:=
 bif 999<(a.size:Int) then b (bs []) false else(uC a).bind fun r1=>bif !r1 then b (bs []) false else bif !decide (Int.tmod (a.size:Int) 2=0) then bif(bs [48]).size+a.size<=9223372036854775807 then bif 0<=zW zI (Int.tdiv ((bs [48]++a).size:Int) 2) then bif zW zI (Int.tdiv ((bs [48]++a).size:Int) 2)*1<=140737488355328 then c (bs [48]++a) [] 0 else none else none else none else bif 0<=zW zI (Int.tdiv (a.size:Int) 2) then bif zW zI (Int.tdiv (a.size:Int) 2)*1<=140737488355328 then c a [] 0 else none else none
theorem SL{R S:Type}(F:R->Option S)(a)(b)(c):(kB a b c).bind F=kB a (fun a0 a1=>(b a0 a1).bind F) (fun a0 a1 a2=>(c a0 a1 a2).bind F):=by
 simp only[kB,aE]
def pE{R:Type}(a:ByteArray)(b:(List Int))(c:Int)(d:ByteArray->(List Int)->Int->Option R)(e:(List Int)->Option R):Option R:=
 bif c<(a.size:Int) then zc c a.size (zc (zW zI (c+1)) a.size (bif(List.length b+List.length ([(aU .or .u8 (zW zU (zW zU (zd a c.toNat-(48:Int))*2^min ((4:Int)).toNat 8)) (zW zU (zd a (zW zI (c+(1:Int))).toNat-(48:Int))))]:List Int))*1<=140737488355328 then d a (b++([(aU .or .u8 (zW zU (zW zU (zd a c.toNat-48)*2^min ((4:Int)).toNat 8)) (zW zU (zd a (zW zI (c+(1:Int))).toNat-48)))]:List Int)) (zW zI (c+2)) else none)) else e b
def pF{R:Type}(a:(List Int))(b:ByteArray->Bool->Option R):Option R:=
 b (strOf a) true
def mm:Nat->ByteArray->(List Int)->Int->Option (List Int)
 |0,_,_,_=>none
 |k+1,v0,v1,v2=>pE v0 v1 v2 (fun a0 a1 a2=>mm k a0 a1 a2) (fun a0=>some a0)
def Q1(a:ByteArray):Option ib:=
 kB a (fun a0 a1=>some (a0,a1)) (fun a0 a1 a2=>(mm ah a0 a1 a2).bind fun e=>pF e (fun a0 a1=>some (a0,a1)))
def mC{R:Type}(a:Int)(b:Int->Option R):Option R:=
 bif a<0 then b 0 else bif 65535<a then b 0 else bif 255<a then b (zW zI (zW zI (zW zI (0+1)+1)+1)) else bif 127<a then b (zW zI (zW zI (0+1)+1)) else b (zW zI (0+1))
def Q4(a:Int):Option Int:=
 mC a (fun a0=>some a0)
def ja{R:Type}(a:ByteArray)(b:Int)(c:Int->Int->Int->Option R)(d:ByteArray->Int->Int->Int->Int->Int->Option R):Option R:=
 bif b<0 then c 0 0 1 else bif(a.size:Int)<b then c 0 0 1 else bif b=(a.size:Int) then c 0 0 2 else zc b a.size (bif 127<zW zI (zd a b.toNat) then bif zW zI (zd a b.toNat)=128 then c 0 0 14 else bif 130<zW zI (zd a b.toNat) then c 0 0 14 else bif zW zI ((a.size:Int)-zW zI (b+1))<zW zI (zW zI (zd a b.toNat)-128) then c 0 0 2 else d a (zW zI (b+1)) 0 (zW zI (zW zI (zd a b.toNat)-128)) (zW zI (zW zI (zd a b.toNat)-128)) 0 else bif zW zI ((a.size:Int)-zW zI (b+1))<0 then c 0 0 2 else d a (zW zI (b+1)) (zW zI (zd a b.toNat)) 0 0 0)
theorem SM{R S:Type}(F:R->Option S)(a)(b)(c)(d):(ja a b c d).bind F=ja a b (fun a0 a1 a2=>(c a0 a1 a2).bind F) (fun a0 a1 a2 a3 a4 a5=>(d a0 a1 a2 a3 a4 a5).bind F):=by
 simp only[ja,aE]
def jb{R:Type}(a:ByteArray)(b c d e f:Int)(g:ByteArray->Int->Int->Int->Int->Int->Option R)(h:Int->Int->Int->Option R):Option R:=
 bif f<e then zc (zW zI (b+f)) a.size (g a b (aU .or .i64 (zW zI (c*2^min ((8:Int)).toNat 64)) (zW zI (zd a (zW zI (b+f)).toNat))) d e (zW zI (f+1))) else h b c d
def jc{R:Type}(a b c:Int)(d:Int->Int->Int->Option R):Option R:=
 (Q4 b).bind fun r1=>bif !decide (r1=zW zI (c+1)) then d 0 0 14 else d b (zW zI (a+c)) 0
def dR:Nat->ByteArray->Int->Int->Int->Int->Int->Option gS
 |0,_,_,_,_,_,_=>none
 |k+1,v0,v1,v2,v3,v4,v5=>jb v0 v1 v2 v3 v4 v5 (fun a0 a1 a2 a3 a4 a5=>dR k a0 a1 a2 a3 a4 a5) (fun a0 a1 a2=>some (a0,a1,a2))
def Q3(a:ByteArray)(b:Int):Option gS:=
 ja a b (fun a0 a1 a2=>some (a0,a1,a2)) (fun a0 a1 a2 a3 a4 a5=>(dR ah a0 a1 a2 a3 a4 a5).bind fun e=>jc e.1 e.2.1 e.2.2 (fun a0 a1 a2=>some (a0,a1,a2)))
def zsi{R:Type}(a:Int)(b:Int->Option R):Option R:=
 bif 4294967296<=a then bif 65536<=Int.fdiv a (2^min ((32:Int)).toNat 64) then bif 256<=Int.fdiv (Int.fdiv a (2^min ((32:Int)).toNat 64)) (2^min ((16:Int)).toNat 64) then zc (zW zU (Int.fdiv (Int.fdiv (Int.fdiv a (2^min ((32:Int)).toNat 64)) (2^min ((16:Int)).toNat 64)) (2^min ((8:Int)).toNat 64))) (bs [0,1,2,2,3,3,3,3,4,4,4,4,4,4,4,4,5,5,5,5,5,5,5,5,5,5,5,5,5,5,5,5,6,6,6,6,6,6,6,6,6,6,6,6,6,6,6,6,6,6,6,6,6,6,6,6,6,6,6,6,6,6,6,6,7,7,7,7,7,7,7,7,7,7,7,7,7,7,7,7,7,7,7,7,7,7,7,7,7,7,7,7,7,7,7,7,7,7,7,7,7,7,7,7,7,7,7,7,7,7,7,7,7,7,7,7,7,7,7,7,7,7,7,7,7,7,7,7,8,8,8,8,8,8,8,8,8,8,8,8,8,8,8,8,8,8,8,8,8,8,8,8,8,8,8,8,8,8,8,8,8,8,8,8,8,8,8,8,8,8,8,8,8,8,8,8,8,8,8,8,8,8,8,8,8,8,8,8,8,8,8,8,8,8,8,8,8,8,8,8,8,8,8,8,8,8,8,8,8,8,8,8,8,8,8,8,8,8,8,8,8,8,8,8,8,8,8,8,8,8,8,8,8,8,8,8,8,8,8,8,8,8,8,8,8,8,8,8,8,8,8,8,8,8,8,8]).size (b (zW zI (zW zI (zW zI (32+16)+8)+zW zI (zd (bs [0,1,2,2,3,3,3,3,4,4,4,4,4,4,4,4,5,5,5,5,5,5,5,5,5,5,5,5,5,5,5,5,6,6,6,6,6,6,6,6,6,6,6,6,6,6,6,6,6,6,6,6,6,6,6,6,6,6,6,6,6,6,6,6,7,7,7,7,7,7,7,7,7,7,7,7,7,7,7,7,7,7,7,7,7,7,7,7,7,7,7,7,7,7,7,7,7,7,7,7,7,7,7,7,7,7,7,7,7,7,7,7,7,7,7,7,7,7,7,7,7,7,7,7,7,7,7,7,8,8,8,8,8,8,8,8,8,8,8,8,8,8,8,8,8,8,8,8,8,8,8,8,8,8,8,8,8,8,8,8,8,8,8,8,8,8,8,8,8,8,8,8,8,8,8,8,8,8,8,8,8,8,8,8,8,8,8,8,8,8,8,8,8,8,8,8,8,8,8,8,8,8,8,8,8,8,8,8,8,8,8,8,8,8,8,8,8,8,8,8,8,8,8,8,8,8,8,8,8,8,8,8,8,8,8,8,8,8,8,8,8,8,8,8,8,8,8,8,8,8,8,8,8,8,8,8]) (zW zU (Int.fdiv (Int.fdiv (Int.fdiv a (2^min ((32:Int)).toNat 64)) (2^min ((16:Int)).toNat 64)) (2^min ((8:Int)).toNat 64))).toNat)))) else zc (zW zU (Int.fdiv (Int.fdiv a (2^min ((32:Int)).toNat 64)) (2^min ((16:Int)).toNat 64))) (bs [0,1,2,2,3,3,3,3,4,4,4,4,4,4,4,4,5,5,5,5,5,5,5,5,5,5,5,5,5,5,5,5,6,6,6,6,6,6,6,6,6,6,6,6,6,6,6,6,6,6,6,6,6,6,6,6,6,6,6,6,6,6,6,6,7,7,7,7,7,7,7,7,7,7,7,7,7,7,7,7,7,7,7,7,7,7,7,7,7,7,7,7,7,7,7,7,7,7,7,7,7,7,7,7,7,7,7,7,7,7,7,7,7,7,7,7,7,7,7,7,7,7,7,7,7,7,7,7,8,8,8,8,8,8,8,8,8,8,8,8,8,8,8,8,8,8,8,8,8,8,8,8,8,8,8,8,8,8,8,8,8,8,8,8,8,8,8,8,8,8,8,8,8,8,8,8,8,8,8,8,8,8,8,8,8,8,8,8,8,8,8,8,8,8,8,8,8,8,8,8,8,8,8,8,8,8,8,8,8,8,8,8,8,8,8,8,8,8,8,8,8,8,8,8,8,8,8,8,8,8,8,8,8,8,8,8,8,8,8,8,8,8,8,8,8,8,8,8,8,8,8,8,8,8,8,8]).size (b (zW zI (zW zI (32+16)+zW zI (zd (bs [0,1,2,2,3,3,3,3,4,4,4,4,4,4,4,4,5,5,5,5,5,5,5,5,5,5,5,5,5,5,5,5,6,6,6,6,6,6,6,6,6,6,6,6,6,6,6,6,6,6,6,6,6,6,6,6,6,6,6,6,6,6,6,6,7,7,7,7,7,7,7,7,7,7,7,7,7,7,7,7,7,7,7,7,7,7,7,7,7,7,7,7,7,7,7,7,7,7,7,7,7,7,7,7,7,7,7,7,7,7,7,7,7,7,7,7,7,7,7,7,7,7,7,7,7,7,7,7,8,8,8,8,8,8,8,8,8,8,8,8,8,8,8,8,8,8,8,8,8,8,8,8,8,8,8,8,8,8,8,8,8,8,8,8,8,8,8,8,8,8,8,8,8,8,8,8,8,8,8,8,8,8,8,8,8,8,8,8,8,8,8,8,8,8,8,8,8,8,8,8,8,8,8,8,8,8,8,8,8,8,8,8,8,8,8,8,8,8,8,8,8,8,8,8,8,8,8,8,8,8,8,8,8,8,8,8,8,8,8,8,8,8,8,8,8,8,8,8,8,8,8,8,8,8,8,8]) (zW zU (Int.fdiv (Int.fdiv a (2^min ((32:Int)).toNat 64)) (2^min ((16:Int)).toNat 64))).toNat)))) else bif 256<=Int.fdiv a (2^min ((32:Int)).toNat 64) then zc (zW zU (Int.fdiv (Int.fdiv a (2^min ((32:Int)).toNat 64)) (2^min ((8:Int)).toNat 64))) (bs [0,1,2,2,3,3,3,3,4,4,4,4,4,4,4,4,5,5,5,5,5,5,5,5,5,5,5,5,5,5,5,5,6,6,6,6,6,6,6,6,6,6,6,6,6,6,6,6,6,6,6,6,6,6,6,6,6,6,6,6,6,6,6,6,7,7,7,7,7,7,7,7,7,7,7,7,7,7,7,7,7,7,7,7,7,7,7,7,7,7,7,7,7,7,7,7,7,7,7,7,7,7,7,7,7,7,7,7,7,7,7,7,7,7,7,7,7,7,7,7,7,7,7,7,7,7,7,7,8,8,8,8,8,8,8,8,8,8,8,8,8,8,8,8,8,8,8,8,8,8,8,8,8,8,8,8,8,8,8,8,8,8,8,8,8,8,8,8,8,8,8,8,8,8,8,8,8,8,8,8,8,8,8,8,8,8,8,8,8,8,8,8,8,8,8,8,8,8,8,8,8,8,8,8,8,8,8,8,8,8,8,8,8,8,8,8,8,8,8,8,8,8,8,8,8,8,8,8,8,8,8,8,8,8,8,8,8,8,8,8,8,8,8,8,8,8,8,8,8,8,8,8,8,8,8,8]).size (b (zW zI (zW zI (32+8)+zW zI (zd (bs [0,1,2,2,3,3,3,3,4,4,4,4,4,4,4,4,5,5,5,5,5,5,5,5,5,5,5,5,5,5,5,5,6,6,6,6,6,6,6,6,6,6,6,6,6,6,6,6,6,6,6,6,6,6,6,6,6,6,6,6,6,6,6,6,7,7,7,7,7,7,7,7,7,7,7,7,7,7,7,7,7,7,7,7,7,7,7,7,7,7,7,7,7,7,7,7,7,7,7,7,7,7,7,7,7,7,7,7,7,7,7,7,7,7,7,7,7,7,7,7,7,7,7,7,7,7,7,7,8,8,8,8,8,8,8,8,8,8,8,8,8,8,8,8,8,8,8,8,8,8,8,8,8,8,8,8,8,8,8,8,8,8,8,8,8,8,8,8,8,8,8,8,8,8,8,8,8,8,8,8,8,8,8,8,8,8,8,8,8,8,8,8,8,8,8,8,8,8,8,8,8,8,8,8,8,8,8,8,8,8,8,8,8,8,8,8,8,8,8,8,8,8,8,8,8,8,8,8,8,8,8,8,8,8,8,8,8,8,8,8,8,8,8,8,8,8,8,8,8,8,8,8,8,8,8,8]) (zW zU (Int.fdiv (Int.fdiv a (2^min ((32:Int)).toNat 64)) (2^min ((8:Int)).toNat 64))).toNat)))) else zc (zW zU (Int.fdiv a (2^min ((32:Int)).toNat 64))) (bs [0,1,2,2,3,3,3,3,4,4,4,4,4,4,4,4,5,5,5,5,5,5,5,5,5,5,5,5,5,5,5,5,6,6,6,6,6,6,6,6,6,6,6,6,6,6,6,6,6,6,6,6,6,6,6,6,6,6,6,6,6,6,6,6,7,7,7,7,7,7,7,7,7,7,7,7,7,7,7,7,7,7,7,7,7,7,7,7,7,7,7,7,7,7,7,7,7,7,7,7,7,7,7,7,7,7,7,7,7,7,7,7,7,7,7,7,7,7,7,7,7,7,7,7,7,7,7,7,8,8,8,8,8,8,8,8,8,8,8,8,8,8,8,8,8,8,8,8,8,8,8,8,8,8,8,8,8,8,8,8,8,8,8,8,8,8,8,8,8,8,8,8,8,8,8,8,8,8,8,8,8,8,8,8,8,8,8,8,8,8,8,8,8,8,8,8,8,8,8,8,8,8,8,8,8,8,8,8,8,8,8,8,8,8,8,8,8,8,8,8,8,8,8,8,8,8,8,8,8,8,8,8,8,8,8,8,8,8,8,8,8,8,8,8,8,8,8,8,8,8,8,8,8,8,8,8]).size (b (zW zI (32+zW zI (zd (bs [0,1,2,2,3,3,3,3,4,4,4,4,4,4,4,4,5,5,5,5,5,5,5,5,5,5,5,5,5,5,5,5,6,6,6,6,6,6,6,6,6,6,6,6,6,6,6,6,6,6,6,6,6,6,6,6,6,6,6,6,6,6,6,6,7,7,7,7,7,7,7,7,7,7,7,7,7,7,7,7,7,7,7,7,7,7,7,7,7,7,7,7,7,7,7,7,7,7,7,7,7,7,7,7,7,7,7,7,7,7,7,7,7,7,7,7,7,7,7,7,7,7,7,7,7,7,7,7,8,8,8,8,8,8,8,8,8,8,8,8,8,8,8,8,8,8,8,8,8,8,8,8,8,8,8,8,8,8,8,8,8,8,8,8,8,8,8,8,8,8,8,8,8,8,8,8,8,8,8,8,8,8,8,8,8,8,8,8,8,8,8,8,8,8,8,8,8,8,8,8,8,8,8,8,8,8,8,8,8,8,8,8,8,8,8,8,8,8,8,8,8,8,8,8,8,8,8,8,8,8,8,8,8,8,8,8,8,8,8,8,8,8,8,8,8,8,8,8,8,8,8,8,8,8,8,8]) (zW zU (Int.fdiv a (2^min ((32:Int)).toNat 64))).toNat)))) else bif 65536<=a then bif 256<=Int.fdiv a (2^min ((16:Int)).toNat 64) then zc (zW zU (Int.fdiv (Int.fdiv a (2^min ((16:Int)).toNat 64)) (2^min ((8:Int)).toNat 64))) (bs [0,1,2,2,3,3,3,3,4,4,4,4,4,4,4,4,5,5,5,5,5,5,5,5,5,5,5,5,5,5,5,5,6,6,6,6,6,6,6,6,6,6,6,6,6,6,6,6,6,6,6,6,6,6,6,6,6,6,6,6,6,6,6,6,7,7,7,7,7,7,7,7,7,7,7,7,7,7,7,7,7,7,7,7,7,7,7,7,7,7,7,7,7,7,7,7,7,7,7,7,7,7,7,7,7,7,7,7,7,7,7,7,7,7,7,7,7,7,7,7,7,7,7,7,7,7,7,7,8,8,8,8,8,8,8,8,8,8,8,8,8,8,8,8,8,8,8,8,8,8,8,8,8,8,8,8,8,8,8,8,8,8,8,8,8,8,8,8,8,8,8,8,8,8,8,8,8,8,8,8,8,8,8,8,8,8,8,8,8,8,8,8,8,8,8,8,8,8,8,8,8,8,8,8,8,8,8,8,8,8,8,8,8,8,8,8,8,8,8,8,8,8,8,8,8,8,8,8,8,8,8,8,8,8,8,8,8,8,8,8,8,8,8,8,8,8,8,8,8,8,8,8,8,8,8,8]).size (b (zW zI (zW zI (zW zI (0+16)+8)+zW zI (zd (bs [0,1,2,2,3,3,3,3,4,4,4,4,4,4,4,4,5,5,5,5,5,5,5,5,5,5,5,5,5,5,5,5,6,6,6,6,6,6,6,6,6,6,6,6,6,6,6,6,6,6,6,6,6,6,6,6,6,6,6,6,6,6,6,6,7,7,7,7,7,7,7,7,7,7,7,7,7,7,7,7,7,7,7,7,7,7,7,7,7,7,7,7,7,7,7,7,7,7,7,7,7,7,7,7,7,7,7,7,7,7,7,7,7,7,7,7,7,7,7,7,7,7,7,7,7,7,7,7,8,8,8,8,8,8,8,8,8,8,8,8,8,8,8,8,8,8,8,8,8,8,8,8,8,8,8,8,8,8,8,8,8,8,8,8,8,8,8,8,8,8,8,8,8,8,8,8,8,8,8,8,8,8,8,8,8,8,8,8,8,8,8,8,8,8,8,8,8,8,8,8,8,8,8,8,8,8,8,8,8,8,8,8,8,8,8,8,8,8,8,8,8,8,8,8,8,8,8,8,8,8,8,8,8,8,8,8,8,8,8,8,8,8,8,8,8,8,8,8,8,8,8,8,8,8,8,8]) (zW zU (Int.fdiv (Int.fdiv a (2^min ((16:Int)).toNat 64)) (2^min ((8:Int)).toNat 64))).toNat)))) else zc (zW zU (Int.fdiv a (2^min ((16:Int)).toNat 64))) (bs [0,1,2,2,3,3,3,3,4,4,4,4,4,4,4,4,5,5,5,5,5,5,5,5,5,5,5,5,5,5,5,5,6,6,6,6,6,6,6,6,6,6,6,6,6,6,6,6,6,6,6,6,6,6,6,6,6,6,6,6,6,6,6,6,7,7,7,7,7,7,7,7,7,7,7,7,7,7,7,7,7,7,7,7,7,7,7,7,7,7,7,7,7,7,7,7,7,7,7,7,7,7,7,7,7,7,7,7,7,7,7,7,7,7,7,7,7,7,7,7,7,7,7,7,7,7,7,7,8,8,8,8,8,8,8,8,8,8,8,8,8,8,8,8,8,8,8,8,8,8,8,8,8,8,8,8,8,8,8,8,8,8,8,8,8,8,8,8,8,8,8,8,8,8,8,8,8,8,8,8,8,8,8,8,8,8,8,8,8,8,8,8,8,8,8,8,8,8,8,8,8,8,8,8,8,8,8,8,8,8,8,8,8,8,8,8,8,8,8,8,8,8,8,8,8,8,8,8,8,8,8,8,8,8,8,8,8,8,8,8,8,8,8,8,8,8,8,8,8,8,8,8,8,8,8,8]).size (b (zW zI (zW zI (0+16)+zW zI (zd (bs [0,1,2,2,3,3,3,3,4,4,4,4,4,4,4,4,5,5,5,5,5,5,5,5,5,5,5,5,5,5,5,5,6,6,6,6,6,6,6,6,6,6,6,6,6,6,6,6,6,6,6,6,6,6,6,6,6,6,6,6,6,6,6,6,7,7,7,7,7,7,7,7,7,7,7,7,7,7,7,7,7,7,7,7,7,7,7,7,7,7,7,7,7,7,7,7,7,7,7,7,7,7,7,7,7,7,7,7,7,7,7,7,7,7,7,7,7,7,7,7,7,7,7,7,7,7,7,7,8,8,8,8,8,8,8,8,8,8,8,8,8,8,8,8,8,8,8,8,8,8,8,8,8,8,8,8,8,8,8,8,8,8,8,8,8,8,8,8,8,8,8,8,8,8,8,8,8,8,8,8,8,8,8,8,8,8,8,8,8,8,8,8,8,8,8,8,8,8,8,8,8,8,8,8,8,8,8,8,8,8,8,8,8,8,8,8,8,8,8,8,8,8,8,8,8,8,8,8,8,8,8,8,8,8,8,8,8,8,8,8,8,8,8,8,8,8,8,8,8,8,8,8,8,8,8,8]) (zW zU (Int.fdiv a (2^min ((16:Int)).toNat 64))).toNat)))) else bif 256<=a then zc (zW zU (Int.fdiv a (2^min ((8:Int)).toNat 64))) (bs [0,1,2,2,3,3,3,3,4,4,4,4,4,4,4,4,5,5,5,5,5,5,5,5,5,5,5,5,5,5,5,5,6,6,6,6,6,6,6,6,6,6,6,6,6,6,6,6,6,6,6,6,6,6,6,6,6,6,6,6,6,6,6,6,7,7,7,7,7,7,7,7,7,7,7,7,7,7,7,7,7,7,7,7,7,7,7,7,7,7,7,7,7,7,7,7,7,7,7,7,7,7,7,7,7,7,7,7,7,7,7,7,7,7,7,7,7,7,7,7,7,7,7,7,7,7,7,7,8,8,8,8,8,8,8,8,8,8,8,8,8,8,8,8,8,8,8,8,8,8,8,8,8,8,8,8,8,8,8,8,8,8,8,8,8,8,8,8,8,8,8,8,8,8,8,8,8,8,8,8,8,8,8,8,8,8,8,8,8,8,8,8,8,8,8,8,8,8,8,8,8,8,8,8,8,8,8,8,8,8,8,8,8,8,8,8,8,8,8,8,8,8,8,8,8,8,8,8,8,8,8,8,8,8,8,8,8,8,8,8,8,8,8,8,8,8,8,8,8,8,8,8,8,8,8,8]).size (b (zW zI (zW zI (0+8)+zW zI (zd (bs [0,1,2,2,3,3,3,3,4,4,4,4,4,4,4,4,5,5,5,5,5,5,5,5,5,5,5,5,5,5,5,5,6,6,6,6,6,6,6,6,6,6,6,6,6,6,6,6,6,6,6,6,6,6,6,6,6,6,6,6,6,6,6,6,7,7,7,7,7,7,7,7,7,7,7,7,7,7,7,7,7,7,7,7,7,7,7,7,7,7,7,7,7,7,7,7,7,7,7,7,7,7,7,7,7,7,7,7,7,7,7,7,7,7,7,7,7,7,7,7,7,7,7,7,7,7,7,7,8,8,8,8,8,8,8,8,8,8,8,8,8,8,8,8,8,8,8,8,8,8,8,8,8,8,8,8,8,8,8,8,8,8,8,8,8,8,8,8,8,8,8,8,8,8,8,8,8,8,8,8,8,8,8,8,8,8,8,8,8,8,8,8,8,8,8,8,8,8,8,8,8,8,8,8,8,8,8,8,8,8,8,8,8,8,8,8,8,8,8,8,8,8,8,8,8,8,8,8,8,8,8,8,8,8,8,8,8,8,8,8,8,8,8,8,8,8,8,8,8,8,8,8,8,8,8,8]) (zW zU (Int.fdiv a (2^min ((8:Int)).toNat 64))).toNat)))) else zc (zW zU a) (bs [0,1,2,2,3,3,3,3,4,4,4,4,4,4,4,4,5,5,5,5,5,5,5,5,5,5,5,5,5,5,5,5,6,6,6,6,6,6,6,6,6,6,6,6,6,6,6,6,6,6,6,6,6,6,6,6,6,6,6,6,6,6,6,6,7,7,7,7,7,7,7,7,7,7,7,7,7,7,7,7,7,7,7,7,7,7,7,7,7,7,7,7,7,7,7,7,7,7,7,7,7,7,7,7,7,7,7,7,7,7,7,7,7,7,7,7,7,7,7,7,7,7,7,7,7,7,7,7,8,8,8,8,8,8,8,8,8,8,8,8,8,8,8,8,8,8,8,8,8,8,8,8,8,8,8,8,8,8,8,8,8,8,8,8,8,8,8,8,8,8,8,8,8,8,8,8,8,8,8,8,8,8,8,8,8,8,8,8,8,8,8,8,8,8,8,8,8,8,8,8,8,8,8,8,8,8,8,8,8,8,8,8,8,8,8,8,8,8,8,8,8,8,8,8,8,8,8,8,8,8,8,8,8,8,8,8,8,8,8,8,8,8,8,8,8,8,8,8,8,8,8,8,8,8,8,8]).size (b (zW zI (0+zW zI (zd (bs [0,1,2,2,3,3,3,3,4,4,4,4,4,4,4,4,5,5,5,5,5,5,5,5,5,5,5,5,5,5,5,5,6,6,6,6,6,6,6,6,6,6,6,6,6,6,6,6,6,6,6,6,6,6,6,6,6,6,6,6,6,6,6,6,7,7,7,7,7,7,7,7,7,7,7,7,7,7,7,7,7,7,7,7,7,7,7,7,7,7,7,7,7,7,7,7,7,7,7,7,7,7,7,7,7,7,7,7,7,7,7,7,7,7,7,7,7,7,7,7,7,7,7,7,7,7,7,7,8,8,8,8,8,8,8,8,8,8,8,8,8,8,8,8,8,8,8,8,8,8,8,8,8,8,8,8,8,8,8,8,8,8,8,8,8,8,8,8,8,8,8,8,8,8,8,8,8,8,8,8,8,8,8,8,8,8,8,8,8,8,8,8,8,8,8,8,8,8,8,8,8,8,8,8,8,8,8,8,8,8,8,8,8,8,8,8,8,8,8,8,8,8,8,8,8,8,8,8,8,8,8,8,8,8,8,8,8,8,8,8,8,8,8,8,8,8,8,8,8,8,8,8,8,8,8,8]) (zW zU a).toNat))))
def xa(a:Int):Option Int:=
 zsi a (fun a0=>some a0)
def zsh{R:Type}(a:Int)(b:Int->Option R):Option R:=
 (xa a).bind fun r1=>b (zW zI (64-r1))
def pG(a:Int):Option Int:=
 zsh a (fun a0=>some a0)
def NP{R:Type}(a:Int)(b:aO->Option R):Option R:=
 bif a<1 then b (0,0,()) else bif 128<a then b (0,0,()) else bif a<=64 then bif zW zI (64-a)<0 then none else b (IntKind.u64.wrap (1*2^min (zW zI (64-a)).toNat 64),0,()) else bif zW zI (128-a)<0 then none else b (0,IntKind.u64.wrap (1*2^min (zW zI (128-a)).toNat 64),())
def AG(a:Int):Option aO:=
 NP a (fun a0=>some a0)
def NN{R:Type}(a b:aO)(c:aO->Option R):Option R:=
 c (aU .or .u64 a.1 b.1,aU .or .u64 a.2.1 b.2.1,())
def pU(a b:aO):Option aO:=
 NN a b (fun a0=>some a0)
def NO{R:Type}(a:aO)(b:Int)(c:aO->Option R):Option R:=
 (AG b).bind fun r1=>(pU a r1).bind fun r2=>c r2
def AF(a:aO)(b:Int):Option aO:=
 NO a b (fun a0=>some a0)
def NK{R:Type}(a:(List Int))(b:(List Int)->Int->Int->aO->aO->Option R):Option R:=
 b a ((List.length a):Int) 0 (0,0,()) (0,0,())
def Ij{R:Type}(a:(List Int))(b c:Int)(d e:aO)(f:(List Int)->Int->Int->aO->aO->Option R)(g:aO->aO->Option R):Option R:=
 bif c<b then zc c (List.length a) ((AF e (List.getD a c.toNat (0:Int))).bind fun r1=>f a b (zW zI (c+1)) d r1) else g d e
def NL{R:Type}(a b:aO)(c:aO->Option R):Option R:=
 c b
def wN:Nat->(List Int)->Int->Int->aO->aO->Option (aO×aO)
 |0,_,_,_,_,_=>none
 |k+1,v0,v1,v2,v3,v4=>Ij v0 v1 v2 v3 v4 (fun a0 a1 a2 a3 a4=>wN k a0 a1 a2 a3 a4) (fun a0 a1=>some (a0,a1))
def rA(a:(List Int)):Option aO:=
 NK a (fun a0 a1 a2 a3 a4=>(wN ah a0 a1 a2 a3 a4).bind fun e=>NL e.1 e.2 (fun a0=>some a0))
def zzp{R:Type}(a:aO)(b:Int->Int->Option R):Option R:=
 b a.1 a.2.1
def OG(a:aO):Option (Int×Int):=
 zzp a (fun a0 a1=>some (a0,a1))
def zzr{R:Type}(a:aO)(b:Int)(c:Int->Option R):Option R:=
 bif(if b<0 then 0 else b)<64 then bif(if b<0 then 0 else b)<0 then none else bif !decide (IntKind.u64.wrap (a.1*2^min (if b<0 then 0 else b).toNat 64)=0) then(pG (IntKind.u64.wrap (a.1*2^min (if b<0 then 0 else b).toNat 64))).bind fun r1=>c (zW zI (zW zI ((if b<0 then 0 else b)+r1)+1)) else bif(if 64<zW zI (64-64) then 64 else zW zI (64-64))<0 then none else bif !decide (IntKind.u64.wrap (a.2.1*2^min (if 64<zW zI (64-64) then 64 else zW zI (64-(64:Int))).toNat 64)=0) then(pG (IntKind.u64.wrap (a.2.1*2^min (if 64<zW zI (64-64) then 64 else zW zI (64-(64:Int))).toNat 64))).bind fun r2=>c (zW zI (zW zI (64+r2)+1)) else c 0 else bif(if 64<zW zI ((if b<0 then 0 else b)-64) then 64 else zW zI ((if b<0 then 0 else b)-64))<0 then none else bif !decide (IntKind.u64.wrap (a.2.1*2^min (if 64<zW zI ((if b<0 then 0 else b)-64) then 64 else zW zI ((if b<0 then 0 else b)-(64:Int))).toNat 64)=0) then(pG (IntKind.u64.wrap (a.2.1*2^min (if 64<zW zI ((if b<0 then 0 else b)-64) then 64 else zW zI ((if b<0 then 0 else b)-(64:Int))).toNat 64))).bind fun r3=>c (zW zI (zW zI ((if b<0 then 0 else b)+r3)+1)) else c 0
def IC(a:aO)(b:Int):Option Int:=
 zzr a b (fun a0=>some a0)
def NM{R:Type}(a b:aO)(c:aO->Option R):Option R:=
 c (aU .and .u64 a.1 b.1,aU .and .u64 a.2.1 b.2.1,())
def pT(a b:aO):Option aO:=
 NM a b (fun a0=>some a0)
def zzq{R:Type}(a:aO)(b:Int)(c:Bool->Option R):Option R:=
 (AG b).bind fun r1=>(pT a r1).bind fun r2=>c (!(decide (r2.1=0)&&(decide (r2.2.1=0)&&true)))
def OH(a:aO)(b:Int):Option Bool:=
 zzq a b (fun a0=>some a0)
def zzo{R:Type}(a b:Int)(c:aO->Option R):Option R:=
 c (a,b,())
def IB(a b:Int):Option aO:=
 zzo a b (fun a0=>some a0)
def zs7{R:Type}(a:Int)(b:Int->Bool->Option R):Option R:=
 bif 48<=a then bif a<=57 then b (zW zI (zW zU (a-48))) true else bif 65<=a then bif a<=70 then b (zW zI (zW zI (zW zU (a-65))+10)) true else b 0 false else b 0 false else bif 65<=a then bif a<=70 then b (zW zI (zW zI (zW zU (a-65))+10)) true else b 0 false else b 0 false
def wZ(a:Int):Option (Int×Bool):=
 zs7 a (fun a0 a1=>some (a0,a1))
def zs9{R:Type}(a:ByteArray)(b:ByteArray->(List Int)->Int->Int->Option R):Option R:=
 bif 0<=zW zI (Int.tdiv (a.size:Int) 2) then bif zW zI (Int.tdiv (a.size:Int) 2)*1<=140737488355328 then b a [] 0 0 else none else none
def zsa{R:Type}(a:ByteArray)(b:(List Int))(c d:Int)(e:ByteArray->ByteArray->Int->Bool->(List Int)->Option R)(f:ByteArray->(List Int)->Int->Int->Option R)(g:ByteArray->(List Int)->Option R):Option R:=
 bif d<(a.size:Int) then zc d a.size ((wZ (zd a d.toNat)).bind fun r1=>bif !r1.2 then e a (bs []) d false b else bif Int.tmod d 2=0 then f a b r1.1 (zW zI (d+1)) else bif(List.length b+List.length ([(zW zU (aU .or .i64 (zW zI (c*2^min ((4:Int)).toNat 64)) r1.1))]:List Int))*1<=140737488355328 then f a (b++([(zW zU (aU .or .i64 (zW zI (c*2^min ((4:Int)).toNat 64)) r1.1))]:List Int)) c (zW zI (d+1)) else none) else g a b
def zsb{R:Type}(a b:ByteArray)(c:Int)(d:Bool)(e:(List Int))(f:ByteArray->Int->Bool->Option R):Option R:=
 f b c d
def zsc{R:Type}(a:ByteArray)(b:(List Int))(c:ByteArray->Int->Bool->Option R):Option R:=
 bif !decide (Int.tmod (a.size:Int) 2=0) then c (bs []) (a.size:Int) false else c (strOf b) 0 true
def Lc:Nat->ByteArray->(List Int)->Int->Int->Option (Sum (ByteArray×ByteArray×Int×Bool×(List Int)) (ByteArray×(List Int)))
 |0,_,_,_,_=>none
 |k+1,v0,v1,v2,v3=>zsa v0 v1 v2 v3 (fun a0 a1 a2 a3 a4=>some (.inl (a0,a1,a2,a3,a4))) (fun a0 a1 a2 a3=>Lc k a0 a1 a2 a3) (fun a0 a1=>some (.inr (a0,a1)))
def iP(a:ByteArray):Option (ByteArray×Int×Bool):=
 zs9 a (fun a0 a1 a2 a3=>(Lc ah a0 a1 a2 a3).bind fun e=>Sum.elim (fun(we:(ByteArray×ByteArray×Int×Bool×(List Int)))=>zsb we.1 we.2.1 we.2.2.1 we.2.2.2.1 we.2.2.2.2 (fun a0 a1 a2=>some (a0,a1,a2))) (fun(we:(ByteArray×(List Int)))=>zsc we.1 we.2 (fun a0 a1 a2=>some (a0,a1,a2))) e)
def zsd{R:Type}(a:ByteArray)(b:ByteArray->(List Int)->Int->Option R):Option R:=
 bif 0<=zW zI (2*(a.size:Int)) then bif zW zI (2*(a.size:Int))*1<=140737488355328 then b a [] 0 else none else none
def zse{R:Type}(a:ByteArray)(b:(List Int))(c:Int)(d:ByteArray->(List Int)->Int->Option R)(e:(List Int)->Option R):Option R:=
 bif c<(a.size:Int) then zc c a.size (zc (Int.fdiv (zd a c.toNat) (2^min ((4:Int)).toNat 8)) (bs [48,49,50,51,52,53,54,55,56,57,65,66,67,68,69,70]).size (zc c a.size (zc (aU .and .u8 (zd a c.toNat) 15) (bs [48,49,50,51,52,53,54,55,56,57,65,66,67,68,69,70]).size (bif(List.length b+List.length ([(zd (bs [48,49,50,51,52,53,54,55,56,57,65,66,67,68,69,70]) (Int.fdiv (zd a c.toNat) (2^min ((4:Int)).toNat 8)).toNat),(zd (bs [48,49,50,51,52,53,54,55,56,57,65,66,67,68,69,70]) (aU .and .u8 (zd a c.toNat) (15:Int)).toNat)]:List Int))*1<=140737488355328 then d a (b++([(zd (bs [48,49,50,51,52,53,54,55,56,57,65,66,67,68,69,70]) (Int.fdiv (zd a c.toNat) (2^min ((4:Int)).toNat 8)).toNat),(zd (bs [48,49,50,51,52,53,54,55,56,57,65,66,67,68,69,70]) (aU .and .u8 (zd a c.toNat) (15:Int)).toNat)]:List Int)) (zW zI (c+1)) else none)))) else e b
def zsf{R:Type}(a:(List Int))(b:ByteArray->Option R):Option R:=
 b (strOf a)
def Le:Nat->ByteArray->(List Int)->Int->Option (List Int)
 |0,_,_,_=>none
 |k+1,v0,v1,v2=>zse v0 v1 v2 (fun a0 a1 a2=>Le k a0 a1 a2) (fun a0=>some a0)
def nL(a:ByteArray):Option ByteArray:=
 zsd a (fun a0 a1 a2=>(Le ah a0 a1 a2).bind fun e=>zsf e (fun a0=>some a0))
def p8{R:Type}(a:Int)(b:Bool->Option R):Option R:=
 bif a=1 then b true else b (decide (a=2))
def Q9(a:Int):Option Bool:=
 p8 a (fun a0=>some a0)
def zyk{R:Type}(a:Int)(b:ByteArray)(c:Int)(d:(List Int)->Int->Int->Option R):Option R:=
 bif a=1 then bif zW zI ((b.size:Int)-c)<zW zI (8*2) then d (List.replicate 8 0) 0 2 else bif 0<=zW zI (c+zW zI (8*2)) then bif zW zI (c+zW zI (8*2))<=(b.size:Int) then bif 0<=c then bif c<=(((zW zI (c+zW zI (8*(2:Int)))).toNat:Nat):Int) then bif a=1 then(iP (b.extract c.toNat (zW zI (c+zW zI (8*(2:Int)))).toNat)).bind fun r1=>bif !r1.2.2 then d (List.replicate 8 0) 0 3 else bif Nat.beq 8 (List.length (List.replicate 8 (0:Int))) then bif Nat.beq 8 (List.length (cu (List.replicate 8 (0:Int)) (List.take 8 (nA r1.1)) 0)) then d (cu (List.replicate 8 0) (List.take 8 (nA r1.1)) 0) (zW zI (c+zW zI (8*2))) 0 else none else none else bif Nat.beq 8 (List.length (List.replicate 8 (0:Int))) then bif Nat.beq 8 (List.length (cu (List.replicate 8 (0:Int)) (List.take 8 (nA (b.extract c.toNat (zW zI (c+zW zI ((8:Int)*(2:Int)))).toNat))) 0)) then d (cu (List.replicate 8 0) (List.take 8 (nA (b.extract c.toNat (zW zI (c+zW zI (8*(2:Int)))).toNat))) 0) (zW zI (c+zW zI (8*2))) 0 else none else none else none else none else none else none else bif zW zI ((b.size:Int)-c)<8 then d (List.replicate 8 0) 0 2 else bif 0<=zW zI (c+8) then bif zW zI (c+8)<=(b.size:Int) then bif 0<=c then bif c<=(((zW zI (c+(8:Int))).toNat:Nat):Int) then bif a=1 then(iP (b.extract c.toNat (zW zI (c+(8:Int))).toNat)).bind fun r2=>bif !r2.2.2 then d (List.replicate 8 0) 0 3 else bif Nat.beq 8 (List.length (List.replicate 8 (0:Int))) then bif Nat.beq 8 (List.length (cu (List.replicate 8 (0:Int)) (List.take 8 (nA r2.1)) 0)) then d (cu (List.replicate 8 0) (List.take 8 (nA r2.1)) 0) (zW zI (c+8)) 0 else none else none else bif Nat.beq 8 (List.length (List.replicate 8 (0:Int))) then bif Nat.beq 8 (List.length (cu (List.replicate 8 (0:Int)) (List.take 8 (nA (b.extract c.toNat (zW zI (c+(8:Int))).toNat))) 0)) then d (cu (List.replicate 8 0) (List.take 8 (nA (b.extract c.toNat (zW zI (c+(8:Int))).toNat))) 0) (zW zI (c+8)) 0 else none else none else none else none else none else none
def Iz(a:Int)(b:ByteArray)(c:Int):Option ((List Int)×Int×Int):=
 zyk a b c (fun a0 a1 a2=>some (a0,a1,a2))
def pX{R:Type}(a:(List Int))(b:Int->(List Int)->Int->Option R):Option R:=
 b 0 a 0
def pY{R:Type}(a:Int)(b:(List Int))(c:Int)(d:Int->(List Int)->Int->Option R)(e:Int->Option R):Option R:=
 bif c<8 then zc c 8 (d (aU .or .u64 (IntKind.u64.wrap (a*2^min ((8:Int)).toNat 64)) (IntKind.u64.wrap (List.getD b c.toNat 0))) b (zW zI (c+1))) else e a
def pZ{R:Type}(a:Int)(b:Int->Option R):Option R:=
 b a
def mI:Nat->Int->(List Int)->Int->Option Int
 |0,_,_,_=>none
 |k+1,v0,v1,v2=>pY v0 v1 v2 (fun a0 a1 a2=>mI k a0 a1 a2) (fun a0=>some a0)
def Q7(a:(List Int)):Option Int:=
 pX a (fun a0 a1 a2=>(mI ah a0 a1 a2).bind fun e=>pZ e (fun a0=>some a0))
def pV{R:Type}(a:Int)(b:ByteArray)(c:Int)(d:aO->Int->Int->Option R):Option R:=
 (Q9 a).bind fun r1=>bif !r1 then d (0,0,()) 0 1 else bif c<0 then d (0,0,()) 0 1 else bif(b.size:Int)<c then d (0,0,()) 0 1 else(Iz a b c).bind fun r2=>bif !decide (r2.2.2=0) then d (0,0,()) 0 r2.2.2 else(Q7 r2.1).bind fun r3=>bif aU .and .u64 r3 9223372036854775808=0 then(IB r3 (0:Int)).bind fun r4=>d r4 r2.2.1 0 else(Iz a b r2.2.1).bind fun r5=>bif !decide (r5.2.2=0) then d (0,0,()) 0 r5.2.2 else bif r5.1=([0,0,0,0,0,0,0,0]:List Int) then d (0,0,()) 0 8 else(Q7 r5.1).bind fun r6=>(IB (aU .andNot .u64 r3 9223372036854775808) r6).bind fun r7=>d r7 r5.2.1 0
def Q5(a:Int)(b:ByteArray)(c:Int):Option (aO×Int×Int):=
 pV a b c (fun a0 a1 a2=>some (a0,a1,a2))
def p5{R:Type}(a:Int)(b:Int->Int->(List Int)->(List Int)->Option R):Option R:=
 b a 0 (List.replicate 8 0) (List.replicate 8 0)
def p6{R:Type}(a b:Int)(c d:(List Int))(e:Int->Int->(List Int)->(List Int)->Option R)(f:(List Int)->(List Int)->Option R):Option R:=
 bif b<8 then bif zW zI (8*zW zI (7-b))<0 then none else zc b 8 (e a (zW zI (b+1)) c (List.set d b.toNat (zW zU (Int.fdiv a (2^min (zW zI (8*zW zI (7-b))).toNat 64))))) else f c d
def p7{R:Type}(a b:(List Int))(c:(List Int)->Option R):Option R:=
 c b
def mM:Nat->Int->Int->(List Int)->(List Int)->Option ((List Int)×(List Int))
 |0,_,_,_,_=>none
 |k+1,v0,v1,v2,v3=>p6 v0 v1 v2 v3 (fun a0 a1 a2 a3=>mM k a0 a1 a2 a3) (fun a0 a1=>some (a0,a1))
def Q8(a:Int):Option (List Int):=
 p5 a (fun a0 a1 a2 a3=>(mM ah a0 a1 a2 a3).bind fun e=>p7 e.1 e.2 (fun a0=>some a0))
def pW{R:Type}(a:Int)(b:aO)(c:ByteArray->Int->Option R):Option R:=
 (Q9 a).bind fun r1=>bif !r1 then c (bs []) 1 else(OH b (1:Int)).bind fun r2=>bif r2 then c (bs []) 1 else(OG b).bind fun r3=>(Q8 r3.2).bind fun r4=>bif !decide (r4=([0,0,0,0,0,0,0,0]:List Int)) then bif Nat.beq 8 (List.length r4) then(Q8 (aU .or .u64 r3.1 (9223372036854775808:Int))).bind fun r5=>bif Nat.beq 8 (List.length r5) then bif(strOf r5).size+(strOf r4).size<=9223372036854775807 then bif a=1 then(nL (strOf r5++strOf r4)).bind fun r6=>c r6 0 else c (strOf r5++strOf r4) 0 else none else none else none else(Q8 r3.1).bind fun r7=>bif Nat.beq 8 (List.length r7) then bif(strOf r7).size+(bs []).size<=9223372036854775807 then bif a=1 then(nL (strOf r7++bs [])).bind fun r8=>c r8 0 else c (strOf r7++bs []) 0 else none else none
def Q6(a:Int)(b:aO):Option IK:=
 pW a b (fun a0 a1=>some (a0,a1))
def zt8{R:Type}(a:Int)(b:Int->Option R):Option R:=
 bif a=2 then b 2 else bif a=3 then b 3 else b 0
def jK(a:Int):Option Int:=
 zt8 a (fun a0=>some a0)
def zt3{R:Type}(a:Int)(b:Int->Int->Int->Option R):Option R:=
 (jK a).bind fun r1=>b 0 r1 0
def zt4{R:Type}(a b c:Int)(d:Int->Int->Int->Option R)(e:Int->Option R):Option R:=
 bif c<b then d (zW zI (zW zI (10*a)+9)) b (zW zI (c+1)) else e a
def zt5{R:Type}(a:Int)(b:Int->Option R):Option R:=
 b a
def Lr:Nat->Int->Int->Int->Option Int
 |0,_,_,_=>none
 |k+1,v0,v1,v2=>zt4 v0 v1 v2 (fun a0 a1 a2=>Lr k a0 a1 a2) (fun a0=>some a0)
def nN(a:Int):Option Int:=
 zt3 a (fun a0 a1 a2=>(Lr ah a0 a1 a2).bind fun e=>zt5 e (fun a0=>some a0))
def zt7{R:Type}(a b:Int)(c:Bool->Option R):Option R:=
 bif a=1 then(jK b).bind fun r1=>c (decide (0<r1)) else bif a=2 then(jK b).bind fun r2=>c (decide (0<r2)) else c false
def si(a b:Int):Option Bool:=
 zt7 a b (fun a0=>some a0)
def zt2{R:Type}(a b:Int)(c:ByteArray)(d:Int)(e:Int->Int->Int->Option R):Option R:=
 (si a b).bind fun r1=>bif !r1 then e 0 0 1 else bif d<0 then e 0 0 1 else bif(c.size:Int)<d then e 0 0 1 else(jK b).bind fun r2=>bif a=2 then(Q2 r2).bind fun r3=>bif zW zI ((c.size:Int)-d)<r3 then e 0 0 2 else bif 0<=zW zI (d+r3) then bif zW zI (d+r3)<=(c.size:Int) then bif 0<=d then bif d<=(((zW zI (d+r3)).toNat:Nat):Int) then bif a=2 then(jK b).bind fun r4=>(Q0 (c.extract d.toNat (zW zI (d+r3)).toNat) r4).bind fun r5=>bif !decide (r5.2.1=0) then e 0 0 3 else(AE r5.1).bind fun r6=>bif !r6.2 then e 0 0 3 else e r6.1 (zW zI (d+r3)) 0 else(AE (c.extract d.toNat (zW zI (d+r3)).toNat)).bind fun r7=>bif !r7.2 then e 0 0 3 else e r7.1 (zW zI (d+r3)) 0 else none else none else none else none else bif zW zI ((c.size:Int)-d)<r2 then e 0 0 2 else bif 0<=zW zI (d+r2) then bif zW zI (d+r2)<=(c.size:Int) then bif 0<=d then bif d<=(((zW zI (d+r2)).toNat:Nat):Int) then bif a=2 then(jK b).bind fun r8=>(Q0 (c.extract d.toNat (zW zI (d+r2)).toNat) r8).bind fun r9=>bif !decide (r9.2.1=0) then e 0 0 3 else(AE r9.1).bind fun j9=>bif !j9.2 then e 0 0 3 else e j9.1 (zW zI (d+r2)) 0 else(AE (c.extract d.toNat (zW zI (d+r2)).toNat)).bind fun ll=>bif !ll.2 then e 0 0 3 else e ll.1 (zW zI (d+r2)) 0 else none else none else none else none
def xg(a b:Int)(c:ByteArray)(d:Int):Option gS:=
 zt2 a b c d (fun a0 a1 a2=>some (a0,a1,a2))
def zt6{R:Type}(a b c:Int)(d:ByteArray->Int->Option R):Option R:=
 (si a b).bind fun r1=>bif !r1 then d (bs []) 1 else(jK b).bind fun r2=>(OE c r2).bind fun r3=>bif !r3.2 then d (bs []) 5 else bif a=2 then(Q1 r3.1).bind fun r4=>d r4.1 0 else d r3.1 0
def xh(a b c:Int):Option IK:=
 zt6 a b c (fun a0 a1=>some (a0,a1))
def Na{R:Type}(a:Int)(b:Int->Option R):Option R:=
 bif a=1 then b 1 else bif a=2 then b 2 else bif a=3 then b 3 else bif a=4 then b 7 else bif a=5 then b 15 else bif a=6 then b 15 else b 0
def uA(a:Int):Option Int:=
 Na a (fun a0=>some a0)
def M0{R:Type}(a:Int)(b:Bool->Option R):Option R:=
 (uA a).bind fun r1=>b (!decide (r1=0))
def wW(a:Int):Option Bool:=
 M0 a (fun a0=>some a0)
def zz3{R:Type}(a:Int)(b:Int->Option R):Option R:=
 bif 48<=a then bif a<=57 then b 1 else bif 65<=a then bif a<=90 then b 2 else bif 97<=a then bif a<=122 then b 2 else bif 32<=a then bif a<=126 then b 4 else b 8 else b 8 else bif 32<=a then bif a<=126 then b 4 else b 8 else b 8 else bif 97<=a then bif a<=122 then b 2 else bif 32<=a then bif a<=126 then b 4 else b 8 else b 8 else bif 32<=a then bif a<=126 then b 4 else b 8 else b 8 else bif 65<=a then bif a<=90 then b 2 else bif 97<=a then bif a<=122 then b 2 else bif 32<=a then bif a<=126 then b 4 else b 8 else b 8 else bif 32<=a then bif a<=126 then b 4 else b 8 else b 8 else bif 97<=a then bif a<=122 then b 2 else bif 32<=a then bif a<=126 then b 4 else b 8 else b 8 else bif 32<=a then bif a<=126 then b 4 else b 8 else b 8
def wY(a:Int):Option Int:=
 zz3 a (fun a0=>some a0)
def MX{R:Type}(a:Int)(b:ByteArray)(c:ByteArray->Int->Int->Option R):Option R:=
 (uA a).bind fun r1=>c b r1 0
def Ih{R:Type}(a:ByteArray)(b c:Int)(d:Int->Option R)(e:ByteArray->Int->Int->Option R)(f:Option R):Option R:=
 bif c<(a.size:Int) then zc c a.size ((wY (zd a c.toNat)).bind fun r2=>bif aU .and .i64 b r2=0 then d c else e a b (zW zI (c+1))) else f
def zz1{R:Type}(a:Int)(b:Int->Option R):Option R:=
 b a
def zz2{R:Type}(a:Int->Option R):Option R:=
 a (-1:Int)
def Au:Nat->ByteArray->Int->Int->Option (Sum Int Unit)
 |0,_,_,_=>none
 |k+1,v0,v1,v2=>Ih v0 v1 v2 (fun a0=>some (.inl a0)) (fun a0 a1 a2=>Au k a0 a1 a2) (some (.inr ()))
def Ca(a:Int)(b:ByteArray):Option Int:=
 MX a b (fun a0 a1 a2=>(Au ah a0 a1 a2).bind fun e=>Sum.elim (fun(we:Int)=>zz1 we (fun a0=>some a0)) (fun(we:Unit)=>zz2 (fun a0=>some a0)) e)
def M4{R:Type}(a b:Int)(c:Bool->Option R):Option R:=
 (wW a).bind fun r1=>bif r1 then(wW b).bind fun r2=>bif r2 then(uA b).bind fun r3=>(uA a).bind fun r4=>c (decide (aU .andNot .i64 r3 r4=0)) else c false else c false
def Cc(a b:Int):Option Bool:=
 M4 a b (fun a0=>some a0)
def zuu{R:Type}(a:Int)(b:Bool->Option R):Option R:=
 bif 0<a then bif a<=255 then b (decide (aU .and .i64 a 32=0)) else b false else b false
def lN(a:Int):Option Bool:=
 zuu a (fun a0=>some a0)
def Md{R:Type}(a:Int)(b:Bool->Option R):Option R:=
 bif a<=255 then(lN a).bind fun r1=>bif r1 then b (!decide (aU .and .i64 a 31=31)) else b false else bif a<=65535 then(lN (Int.fdiv a (2^min ((8:Int)).toNat 64))).bind fun r2=>bif r2 then bif aU .and .i64 (Int.fdiv a (2^min ((8:Int)).toNat 64)) 31=31 then bif 1<=aU .and .i64 a 255 then b (decide (aU .and .i64 a 255<=127)) else b false else b false else b false else b false
def pP(a:Int):Option Bool:=
 Md a (fun a0=>some a0)
def Mc{R:Type}(a:ByteArray)(b:Int)(c:Int->Int->Int->Option R):Option R:=
 bif b<0 then c 0 0 1 else bif(a.size:Int)<b then c 0 0 1 else bif b=(a.size:Int) then c 0 0 2 else zc b a.size ((lN (zW zI (zd a b.toNat))).bind fun r1=>bif !r1 then c 0 0 13 else bif !decide (aU .and .i64 (zW zI (zd a b.toNat)) 31=31) then c (zW zI (zd a b.toNat)) (zW zI (b+1)) 0 else bif zW zI (b+1)=(a.size:Int) then c 0 0 2 else zc (zW zI (b+1)) a.size ((pP (aU .or .i64 (zW zI (zW zI (zd a b.toNat)*2^min ((8:Int)).toNat 64)) (zW zI (zd a (zW zI (b+(1:Int))).toNat)))).bind fun r2=>bif !r2 then c 0 0 13 else c (aU .or .i64 (zW zI (zW zI (zd a b.toNat)*2^min ((8:Int)).toNat 64)) (zW zI (zd a (zW zI (b+(1:Int))).toNat))) (zW zI (b+2)) 0))
def pO(a:ByteArray)(b:Int):Option gS:=
 Mc a b (fun a0 a1 a2=>some (a0,a1,a2))
def Mf{R:Type}(a:ByteArray)(b:ByteArray->au->Int->xB->Option R):Option R:=
 b a [] 0 []
def Mg{R:Type}(a:ByteArray)(b:au)(c:Int)(d:xB)(e:au->Int->Int->au->Option R)(f:ByteArray->au->Int->xB->Option R)(g:au->Option R):Option R:=
 bif c<(a.size:Int) then(pO a c).bind fun r1=>bif !decide (r1.2.2=(0:Int)) then e ([]:List aZ) r1.2.2 c b else(Q3 a r1.2.1).bind fun r2=>bif !decide (r2.2.2=(0:Int)) then e ([]:List aZ) r2.2.2 r1.2.1 b else bif zW zI ((a.size:Int)-r2.2.1)<r2.1 then e ([]:List aZ) (2:Int) (a.size:Int) b else bif dY (eP (.int .i64)) false d r1.1 then e ([]:List aZ) (10:Int) c b else bif dZ (eP (.int .i64)) d r1.1 then none else bif(0:Int)<=zW zI (r2.2.1+r2.1) then bif zW zI (r2.2.1+r2.1)<=((a.size:Nat):Int) then bif(0:Int)<=r2.2.1 then bif r2.2.1<=(((zW zI (r2.2.1+r2.1)).toNat:Nat):Int) then bif(List.length b+List.length ([(r1.1,a.extract r2.2.1.toNat (zW zI (r2.2.1+r2.1)).toNat,())]:List aZ))*24<=140737488355328 then f a (b++([(r1.1,a.extract r2.2.1.toNat (zW zI (r2.2.1+r2.1)).toNat,())]:List aZ)) (zW zI (r2.2.1+r2.1)) (d++ [(r1.1,true)]) else none else none else none else none else none else g b
def zuw{R:Type}(a:au)(b c:Int)(d:au)(e:au->Int->Int->Option R):Option R:=
 e a b c
def zux{R:Type}(a:au)(b:au->Int->Int->Option R):Option R:=
 b a 0 0
def BE:Nat->ByteArray->au->Int->xB->Option (Sum nT au)
 |0,_,_,_,_=>none
 |k+1,v0,v1,v2,v3=>Mg v0 v1 v2 v3 (fun a0 a1 a2 a3=>some (.inl (a0,a1,a2,a3))) (fun a0 a1 a2 a3=>BE k a0 a1 a2 a3) (fun a0=>some (.inr a0))
def pQ(a:ByteArray):Option (Sum gT gT):=
 Mf a (fun a0 a1 a2 a3=>(BE ah a0 a1 a2 a3).bind fun e=>Sum.elim (fun(we:nT)=>zuw we.1 we.2.1 we.2.2.1 we.2.2.2 (fun a0 a1 a2=>some (.inl (a0,a1,a2)))) (fun(we:au)=>zux we (fun a0 a1 a2=>some (.inr (a0,a1,a2)))) e)
def L2{R:Type}(a:aP)(b:Int->Option R):Option R:=
 bif a.1<2 then b 1 else bif 128<a.1 then b 1 else(wW a.2.1).bind fun r1=>bif !r1 then b 6 else bif a.2.2.1<1 then b 3 else bif 3<a.2.2.1 then b 3 else bif a.2.2.2.1<1 then b 5 else bif a.2.2.2.2.1<a.2.2.2.1 then b 5 else bif 999<a.2.2.2.2.1 then b 5 else bif a.2.2.1=1 then bif !decide (a.2.2.2.1=a.2.2.2.2.1) then b 5 else bif !decide (a.2.2.1=1) then(nN a.2.2.1).bind fun r2=>bif r2<a.2.2.2.2.1 then b 5 else bif a.2.2.1=1 then bif a.2.1=6 then b 13 else b 0 else b 0 else bif a.2.2.1=1 then bif a.2.1=6 then b 13 else b 0 else b 0 else bif !decide (a.2.2.1=1) then(nN a.2.2.1).bind fun r3=>bif r3<a.2.2.2.2.1 then b 5 else bif a.2.2.1=1 then bif a.2.1=6 then b 13 else b 0 else b 0 else bif a.2.2.1=1 then bif a.2.1=6 then b 13 else b 0 else b 0
def jL(a:aP):Option Int:=
 L2 a (fun a0=>some a0)
def L3{R:Type}(a:aP)(b:ByteArray)(c:Int->Option R):Option R:=
 (jL a).bind fun r1=>bif !decide (r1=0) then c 1 else bif(b.size:Int)<a.2.2.2.1 then c 5 else bif a.2.2.2.2.1<(b.size:Int) then c 5 else(Ca a.2.1 b).bind fun r2=>bif 0<=r2 then c 6 else bif a.2.1=6 then(pQ b).bind fun r3=>Sum.elim (fun(oO:gT)=>bif !decide (oO.2.1=0) then c 13 else c 0) (fun(oO:gT)=>bif !decide (oO.2.1=0) then c 13 else c 0) r3 else c 0
def cn(a:aP)(b:ByteArray):Option Int:=
 L3 a b (fun a0=>some a0)
def L5{R:Type}(a b:Int)(c:Bool->Option R):Option R:=
 bif a=5 then c true else bif a=6 then c (decide (a=b)) else bif b=6 then c (decide (a=b)) else(Cc a b).bind fun r1=>c r1
def sm(a b:Int):Option Bool:=
 L5 a b (fun a0=>some a0)
def L4{R:Type}(a b:aP)(c:Bool->Option R):Option R:=
 (jL a).bind fun r1=>bif r1=0 then(jL b).bind fun r2=>bif r2=0 then bif a.2.2.2.1<=b.2.2.2.1 then bif b.2.2.2.2.1<=a.2.2.2.2.1 then(sm a.2.1 b.2.1).bind fun r3=>c r3 else c false else c false else c false else c false
def jM(a b:aP):Option Bool:=
 L4 a b (fun a0=>some a0)
def zyp{R:Type}(a:Int)(b:Bool->Option R):Option R:=
 bif a=1 then b true else b (decide (a=2))
def IA(a:Int):Option Bool:=
 zyp a (fun a0=>some a0)
def zyo{R:Type}(a b:Int)(c:Int->Option R):Option R:=
 bif a=2 then bif b=1 then c 1 else bif a=1 then bif b=5 then c 2 else bif b=6 then c 2 else c 0 else c 0 else bif a=1 then bif b=5 then c 2 else bif b=6 then c 2 else c 0 else c 0
def oG(a b:Int):Option Int:=
 zyo a b (fun a0=>some a0)
def zyl{R:Type}(a:Int)(b:aP)(c:ByteArray)(d:Int)(e:ByteArray->Int->Int->Option R):Option R:=
 (IA a).bind fun r1=>bif !r1 then e (bs []) 0 1 else(jL b).bind fun r2=>bif !decide (r2=0) then e (bs []) 0 1 else bif d<0 then e (bs []) 0 1 else bif(c.size:Int)<d then e (bs []) 0 1 else bif !decide (b.2.2.1=1) then(xg a b.2.2.1 c d).bind fun r3=>bif !decide (r3.2.2=0) then e (bs []) 0 r3.2.2 else bif r3.1<b.2.2.2.1 then e (bs []) 0 5 else bif b.2.2.2.2.1<r3.1 then e (bs []) 0 5 else(oG a b.2.1).bind fun r4=>bif r4=1 then(Q2 r3.1).bind fun r5=>bif zW zI ((c.size:Int)-r3.2.1)<r5 then e (bs []) 0 2 else bif 0<=zW zI (r3.2.1+r5) then bif zW zI (r3.2.1+r5)<=(c.size:Int) then bif 0<=r3.2.1 then bif r3.2.1<=(((zW zI (r3.2.1+r5)).toNat:Nat):Int) then(oG a b.2.1).bind fun r6=>bif r6=1 then(Q0 (c.extract r3.2.1.toNat (zW zI (r3.2.1+r5)).toNat) r3.1).bind fun r7=>bif !decide (r7.2.1=0) then e (bs []) 0 r7.2.1 else(cn b r7.1).bind fun r8=>bif !decide (r8=0) then e (bs []) 0 r8 else e r7.1 (zW zI (r3.2.1+r5)) 0 else bif r6=2 then(iP (c.extract r3.2.1.toNat (zW zI (r3.2.1+r5)).toNat)).bind fun r9=>bif !r9.2.2 then e (bs []) 0 3 else(cn b r9.1).bind fun j9=>bif !decide (j9=0) then e (bs []) 0 j9 else e r9.1 (zW zI (r3.2.1+r5)) 0 else(cn b (c.extract r3.2.1.toNat (zW zI (r3.2.1+r5)).toNat)).bind fun ll=>bif !decide (ll=0) then e (bs []) 0 ll else e (c.extract r3.2.1.toNat (zW zI (r3.2.1+r5)).toNat) (zW zI (r3.2.1+r5)) 0 else none else none else none else none else bif r4=2 then bif zW zI ((c.size:Int)-r3.2.1)<zW zI (2*r3.1) then e (bs []) 0 2 else bif 0<=zW zI (r3.2.1+zW zI (2*r3.1)) then bif zW zI (r3.2.1+zW zI (2*r3.1))<=(c.size:Int) then bif 0<=r3.2.1 then bif r3.2.1<=(((zW zI (r3.2.1+zW zI (2*r3.1))).toNat:Nat):Int) then(oG a b.2.1).bind fun qS=>bif qS=1 then(Q0 (c.extract r3.2.1.toNat (zW zI (r3.2.1+zW zI (2*r3.1))).toNat) r3.1).bind fun oN=>bif !decide (oN.2.1=0) then e (bs []) 0 oN.2.1 else(cn b oN.1).bind fun yA=>bif !decide (yA=0) then e (bs []) 0 yA else e oN.1 (zW zI (r3.2.1+zW zI (2*r3.1))) 0 else bif qS=2 then(iP (c.extract r3.2.1.toNat (zW zI (r3.2.1+zW zI (2*r3.1))).toNat)).bind fun wh=>bif !wh.2.2 then e (bs []) 0 3 else(cn b wh.1).bind fun A5=>bif !decide (A5=0) then e (bs []) 0 A5 else e wh.1 (zW zI (r3.2.1+zW zI (2*r3.1))) 0 else(cn b (c.extract r3.2.1.toNat (zW zI (r3.2.1+zW zI (2*r3.1))).toNat)).bind fun Jc=>bif !decide (Jc=0) then e (bs []) 0 Jc else e (c.extract r3.2.1.toNat (zW zI (r3.2.1+zW zI (2*r3.1))).toNat) (zW zI (r3.2.1+zW zI (2*r3.1))) 0 else none else none else none else none else bif zW zI ((c.size:Int)-r3.2.1)<r3.1 then e (bs []) 0 2 else bif 0<=zW zI (r3.2.1+r3.1) then bif zW zI (r3.2.1+r3.1)<=(c.size:Int) then bif 0<=r3.2.1 then bif r3.2.1<=(((zW zI (r3.2.1+r3.1)).toNat:Nat):Int) then(oG a b.2.1).bind fun Jd=>bif Jd=1 then(Q0 (c.extract r3.2.1.toNat (zW zI (r3.2.1+r3.1)).toNat) r3.1).bind fun A6=>bif !decide (A6.2.1=0) then e (bs []) 0 A6.2.1 else(cn b A6.1).bind fun Je=>bif !decide (Je=0) then e (bs []) 0 Je else e A6.1 (zW zI (r3.2.1+r3.1)) 0 else bif Jd=2 then(iP (c.extract r3.2.1.toNat (zW zI (r3.2.1+r3.1)).toNat)).bind fun EV=>bif !EV.2.2 then e (bs []) 0 3 else(cn b EV.1).bind fun r22=>bif !decide (r22=0) then e (bs []) 0 r22 else e EV.1 (zW zI (r3.2.1+r3.1)) 0 else(cn b (c.extract r3.2.1.toNat (zW zI (r3.2.1+r3.1)).toNat)).bind fun r23=>bif !decide (r23=0) then e (bs []) 0 r23 else e (c.extract r3.2.1.toNat (zW zI (r3.2.1+r3.1)).toNat) (zW zI (r3.2.1+r3.1)) 0 else none else none else none else none else(oG a b.2.1).bind fun r24=>bif r24=1 then(Q2 b.2.2.2.1).bind fun qT=>bif zW zI ((c.size:Int)-d)<qT then e (bs []) 0 2 else bif 0<=zW zI (d+qT) then bif zW zI (d+qT)<=(c.size:Int) then bif 0<=d then bif d<=(((zW zI (d+qT)).toNat:Nat):Int) then(oG a b.2.1).bind fun r26=>bif r26=1 then(Q0 (c.extract d.toNat (zW zI (d+qT)).toNat) b.2.2.2.1).bind fun Jf=>bif !decide (Jf.2.1=0) then e (bs []) 0 Jf.2.1 else(cn b Jf.1).bind fun r28=>bif !decide (r28=0) then e (bs []) 0 r28 else e Jf.1 (zW zI (d+qT)) 0 else bif r26=2 then(iP (c.extract d.toNat (zW zI (d+qT)).toNat)).bind fun RK=>bif !RK.2.2 then e (bs []) 0 3 else(cn b RK.1).bind fun r30=>bif !decide (r30=0) then e (bs []) 0 r30 else e RK.1 (zW zI (d+qT)) 0 else(cn b (c.extract d.toNat (zW zI (d+qT)).toNat)).bind fun r31=>bif !decide (r31=0) then e (bs []) 0 r31 else e (c.extract d.toNat (zW zI (d+qT)).toNat) (zW zI (d+qT)) 0 else none else none else none else none else bif r24=2 then bif zW zI ((c.size:Int)-d)<zW zI (2*b.2.2.2.1) then e (bs []) 0 2 else bif 0<=zW zI (d+zW zI (2*b.2.2.2.1)) then bif zW zI (d+zW zI (2*b.2.2.2.1))<=(c.size:Int) then bif 0<=d then bif d<=(((zW zI (d+zW zI (2*b.2.2.2.1))).toNat:Nat):Int) then(oG a b.2.1).bind fun r32=>bif r32=1 then(Q0 (c.extract d.toNat (zW zI (d+zW zI (2*b.2.2.2.1))).toNat) b.2.2.2.1).bind fun Jg=>bif !decide (Jg.2.1=0) then e (bs []) 0 Jg.2.1 else(cn b Jg.1).bind fun r34=>bif !decide (r34=0) then e (bs []) 0 r34 else e Jg.1 (zW zI (d+zW zI (2*b.2.2.2.1))) 0 else bif r32=2 then(iP (c.extract d.toNat (zW zI (d+zW zI (2*b.2.2.2.1))).toNat)).bind fun RL=>bif !RL.2.2 then e (bs []) 0 3 else(cn b RL.1).bind fun r36=>bif !decide (r36=0) then e (bs []) 0 r36 else e RL.1 (zW zI (d+zW zI (2*b.2.2.2.1))) 0 else(cn b (c.extract d.toNat (zW zI (d+zW zI (2*b.2.2.2.1))).toNat)).bind fun r37=>bif !decide (r37=0) then e (bs []) 0 r37 else e (c.extract d.toNat (zW zI (d+zW zI (2*b.2.2.2.1))).toNat) (zW zI (d+zW zI (2*b.2.2.2.1))) 0 else none else none else none else none else bif zW zI ((c.size:Int)-d)<b.2.2.2.1 then e (bs []) 0 2 else bif 0<=zW zI (d+b.2.2.2.1) then bif zW zI (d+b.2.2.2.1)<=(c.size:Int) then bif 0<=d then bif d<=(((zW zI (d+b.2.2.2.1)).toNat:Nat):Int) then(oG a b.2.1).bind fun r38=>bif r38=1 then(Q0 (c.extract d.toNat (zW zI (d+b.2.2.2.1)).toNat) b.2.2.2.1).bind fun Jh=>bif !decide (Jh.2.1=0) then e (bs []) 0 Jh.2.1 else(cn b Jh.1).bind fun r40=>bif !decide (r40=0) then e (bs []) 0 r40 else e Jh.1 (zW zI (d+b.2.2.2.1)) 0 else bif r38=2 then(iP (c.extract d.toNat (zW zI (d+b.2.2.2.1)).toNat)).bind fun RM=>bif !RM.2.2 then e (bs []) 0 3 else(cn b RM.1).bind fun r42=>bif !decide (r42=0) then e (bs []) 0 r42 else e RM.1 (zW zI (d+b.2.2.2.1)) 0 else(cn b (c.extract d.toNat (zW zI (d+b.2.2.2.1)).toNat)).bind fun r43=>bif !decide (r43=0) then e (bs []) 0 r43 else e (c.extract d.toNat (zW zI (d+b.2.2.2.1)).toNat) (zW zI (d+b.2.2.2.1)) 0 else none else none else none else none
def Oz(a:Int)(b:aP)(c:ByteArray)(d:Int):Option OT:=
 zyl a b c d (fun a0 a1 a2=>some (a0,a1,a2))
def zyn{R:Type}(a:Int)(b:aP)(c:ByteArray)(d:ByteArray->Int->Option R):Option R:=
 (IA a).bind fun r1=>bif !r1 then d (bs []) 1 else(cn b c).bind fun r2=>bif !decide (r2=0) then d (bs []) r2 else bif !decide (b.2.2.1=1) then(xh a b.2.2.1 (c.size:Int)).bind fun r3=>(oG a b.2.1).bind fun r4=>bif r4=1 then(Q1 c).bind fun r5=>bif r3.1.size+r5.1.size<=9223372036854775807 then d (r3.1++r5.1) 0 else none else bif r4=2 then(nL c).bind fun r6=>bif r3.1.size+r6.size<=9223372036854775807 then d (r3.1++r6) 0 else none else bif r3.1.size+c.size<=9223372036854775807 then d (r3.1++c) 0 else none else(oG a b.2.1).bind fun r7=>bif r7=1 then(Q1 c).bind fun r8=>bif(bs []).size+r8.1.size<=9223372036854775807 then d (bs []++r8.1) 0 else none else bif r7=2 then(nL c).bind fun r9=>bif(bs []).size+r9.size<=9223372036854775807 then d (bs []++r9) 0 else none else bif(bs []).size+c.size<=9223372036854775807 then d (bs []++c) 0 else none
def OA(a:Int)(b:aP)(c:ByteArray):Option IK:=
 zyn a b c (fun a0 a1=>some (a0,a1))
def Nl{R:Type}(a:aM)(b:Int->Int->Option R)(c:aM->Int->Int->fM->Option R):Option R:=
 bif 256<((List.length a):Int) then b 5 256 else c a ((List.length a):Int) 0 []
def zza{R:Type}(a:aM)(b c:Int)(d:fM)(e:Int->Int->Option R)(f:aM->Int->Int->fM->Option R)(g:Option R):Option R:=
 bif c<b then zc c (List.length a) (bif dY (eP .str) false d (List.getD a c.toNat (bs [],bs [],())).1 then e (10:Int) c else bif dZ (eP .str) d (List.getD a c.toNat (bs [],bs [],())).1 then none else f a b (zW zI (c+(1:Int))) (d++ [((List.getD a c.toNat (bs [],bs [],())).1,true)])) else g
def zzb{R:Type}(a b:Int)(c:Int->Int->Option R):Option R:=
 c a b
def zzc{R:Type}(a:Int->Int->Option R):Option R:=
 a 0 0
def Ii:Nat->aM->Int->Int->fM->Option (Sum (Int×Int) Unit)
 |0,_,_,_,_=>none
 |k+1,v0,v1,v2,v3=>zza v0 v1 v2 v3 (fun a0 a1=>some (.inl (a0,a1))) (fun a0 a1 a2 a3=>Ii k a0 a1 a2 a3) (some (.inr ()))
def Ch(a:aM):Option (Int×Int):=
 Nl a (fun a0 a1=>some (a0,a1)) (fun a0 a1 a2 a3=>(Ii ah a0 a1 a2 a3).bind fun e=>Sum.elim (fun(we:(Int×Int))=>zzb we.1 we.2 (fun a0 a1=>some (a0,a1))) (fun(we:Unit)=>zzc (fun a0 a1=>some (a0,a1))) e)
def zz5{R:Type}(a:aM)(b:ByteArray)(c:ByteArray->aM->Int->Int->Option R):Option R:=
 c b a ((List.length a):Int) 0
def zz6{R:Type}(a:ByteArray)(b:aM)(c d:Int)(e:ByteArray->Bool->Option R)(f:ByteArray->aM->Int->Int->Option R)(g:Option R):Option R:=
 bif d<c then zc d (List.length b) (bif(List.getD b d.toNat (bs [],bs [],())).1=a then e (List.getD b d.toNat (bs [],bs [],())).2.1 true else f a b c (zW zI (d+1))) else g
def zz7{R:Type}(a:ByteArray)(b:Bool)(c:ByteArray->Bool->Option R):Option R:=
 c a b
def zz8{R:Type}(a:ByteArray->Bool->Option R):Option R:=
 a (bs []) false
def Nd:Nat->ByteArray->aM->Int->Int->Option (Sum ib Unit)
 |0,_,_,_,_=>none
 |k+1,v0,v1,v2,v3=>zz6 v0 v1 v2 v3 (fun a0 a1=>some (.inl (a0,a1))) (fun a0 a1 a2 a3=>Nd k a0 a1 a2 a3) (some (.inr ()))
def OB(a:aM)(b:ByteArray):Option ib:=
 zz5 a b (fun a0 a1 a2 a3=>(Nd ah a0 a1 a2 a3).bind fun e=>Sum.elim (fun(we:ib)=>zz7 we.1 we.2 (fun a0 a1=>some (a0,a1))) (fun(we:Unit)=>zz8 (fun a0 a1=>some (a0,a1))) e)
def NS{R:Type}(a:Int)(b:Int->Option R)(c:Int->ak->Option R):Option R:=
 bif a<1 then b 5 else bif 65535<a then b 5 else c 0 (a,false,[],())
def Cw(a:Int):Option (Sum Int qa):=
 NS a (fun a0=>some (.inl a0)) (fun a0 a1=>some (.inr (a0,a1)))
def zzz{R:Type}(a:ak)(b:Int->ak->Option R):Option R:=
 bif((List.length a.2.2.1):Int)<2 then b 0 a else zc 0 (List.length a.2.2.1) (zc 1 (List.length a.2.2.1) (b (aU .or .i64 (zW zI (zW zI (List.getD a.2.2.1 ((0:Int)).toNat 0)*2^min ((8:Int)).toNat 64)) (zW zI (List.getD a.2.2.1 ((1:Int)).toNat 0))) a))
def OL(a:ak):Option qa:=
 zzz a (fun a0 a1=>some (a0,a1))
def zzu{R:Type}(a:ak)(b:ByteArray)(c:ByteArray->(List ByteArray)->Int->ak->Option R):Option R:=
 c b [] 0 a
def zzv{R:Type}(a:ByteArray)(b:(List ByteArray))(c:Int)(d:ak)(e:(List ByteArray)->Bool->(List ByteArray)->ak->Option R)(f:ByteArray->(List ByteArray)->Int->ak->Option R)(g:(List ByteArray)->ak->Option R):Option R:=
 bif c<(a.size:Int) then bif !d.2.1 then zc c a.size (bif(List.length d.2.2.1+List.length ([(zd a c.toNat)]:List Int))*1<=140737488355328 then(OL (d.1,d.2.1,d.2.2.1++([(zd a c.toNat)]:List Int),())).bind fun r1=>bif((List.length r1.2.2.2.1):Int)=2 then bif r1.1=0 then e b true b (r1.2.1,true,[],()) else bif r1.2.1<r1.1 then e b true b (r1.2.1,true,[],()) else bif((List.length r1.2.2.2.1):Int)=zW zI (2+r1.1) then bif 0<r1.1 then bif 2<=(((List.length r1.2.2.2.1):Nat):Int) then bif(List.length b+List.length ([(strOf (List.drop ((2:Int)).toNat (List.take (List.length r1.2.2.2.1) r1.2.2.2.1)))]:List ByteArray))*16<=140737488355328 then f a (b++([(strOf (List.drop ((2:Int)).toNat (List.take (List.length r1.2.2.2.1) r1.2.2.2.1)))]:List ByteArray)) (zW zI (c+1)) (r1.2.1,r1.2.2.1,[],()) else none else none else f a b (zW zI (c+1)) r1.2 else f a b (zW zI (c+1)) r1.2 else bif((List.length r1.2.2.2.1):Int)=zW zI (2+r1.1) then bif 0<r1.1 then bif 2<=(((List.length r1.2.2.2.1):Nat):Int) then bif(List.length b+List.length ([(strOf (List.drop ((2:Int)).toNat (List.take (List.length r1.2.2.2.1) r1.2.2.2.1)))]:List ByteArray))*16<=140737488355328 then f a (b++([(strOf (List.drop ((2:Int)).toNat (List.take (List.length r1.2.2.2.1) r1.2.2.2.1)))]:List ByteArray)) (zW zI (c+1)) (r1.2.1,r1.2.2.1,[],()) else none else none else f a b (zW zI (c+1)) r1.2 else f a b (zW zI (c+1)) r1.2 else none) else g b d else g b d
def zzw{R:Type}(a:(List ByteArray))(b:Bool)(c:(List ByteArray))(d:ak)(e:(List ByteArray)->Bool->ak->Option R):Option R:=
 e a b d
def zzx{R:Type}(a:(List ByteArray))(b:ak)(c:(List ByteArray)->Bool->ak->Option R):Option R:=
 c a false b
def NR:Nat->ByteArray->(List ByteArray)->Int->ak->Option (Sum ((List ByteArray)×Bool×(List ByteArray)×ak) ((List ByteArray)×ak))
 |0,_,_,_,_=>none
 |k+1,v0,v1,v2,v3=>zzv v0 v1 v2 v3 (fun a0 a1 a2 a3=>some (.inl (a0,a1,a2,a3))) (fun a0 a1 a2 a3=>NR k a0 a1 a2 a3) (fun a0 a1=>some (.inr (a0,a1)))
def OJ(a:ak)(b:ByteArray):Option ((List ByteArray)×Bool×ak):=
 zzu a b (fun a0 a1 a2 a3=>(NR ah a0 a1 a2 a3).bind fun e=>Sum.elim (fun(we:((List ByteArray)×Bool×(List ByteArray)×ak))=>zzw we.1 we.2.1 we.2.2.1 we.2.2.2 (fun a0 a1 a2=>some (a0,a1,a2))) (fun(we:((List ByteArray)×ak))=>zzx we.1 we.2 (fun a0 a1 a2=>some (a0,a1,a2))) e)
def yF{R:Type}(a:ByteArray)(b:ByteArray->Int->Option R):Option R:=
 bif(a.size:Int)<1 then b (bs []) 5 else bif 65535<(a.size:Int) then b (bs []) 5 else bif(strOf ([(zW zU (Int.fdiv (a.size:Int) (2^min ((8:Int)).toNat 64))),(zW zU (a.size:Int))]:List Int)).size+a.size<=9223372036854775807 then b (strOf ([(zW zU (Int.fdiv (a.size:Int) (2^min ((8:Int)).toNat 64))),(zW zU (a.size:Int))]:List Int)++a) 0 else none
def ID(a:ByteArray):Option IK:=
 yF a (fun a0 a1=>some (a0,a1))
def zzs{R:Type}(a:ak)(b:Bool->ak->Option R):Option R:=
 b a.2.1 a
def OI(a:ak):Option (Bool×ak):=
 zzs a (fun a0 a1=>some (a0,a1))
def zzy{R:Type}(a:ak)(b:Int->ak->Option R):Option R:=
 b ((List.length a.2.2.1):Int) a
def OK(a:ak):Option qa:=
 zzy a (fun a0 a1=>some (a0,a1))
def LS{R:Type}(a:ae)(b:Int)(c:Int->fp->Int->Int->aP->Option R):Option R:=
 c b a.2.2.1 ((List.length a.2.2.1):Int) 0 (0,0,0,0,0,())
def zu1{R:Type}(a:Int)(b:fp)(c d:Int)(e:aP)(f:Bool->aP->Option R)(g:Int->fp->Int->Int->aP->Option R)(h:aP->Option R):Option R:=
 bif d<c then zc d (List.length b) (bif(List.getD b d.toNat (0,0,0,0,0,())).1=a then f true (List.getD b d.toNat (0,0,0,0,0,())) else g a b c (zW zI (d+1)) e) else h e
def zu2{R:Type}(a:Bool)(b:aP)(c:aP->Bool->Option R):Option R:=
 c b a
def zu3{R:Type}(a:aP)(b:aP->Bool->Option R):Option R:=
 b (0,0,0,0,0,()) false
def H0:Nat->Int->fp->Int->Int->aP->Option (Sum (Bool×aP) aP)
 |0,_,_,_,_,_=>none
 |k+1,v0,v1,v2,v3,v4=>zu1 v0 v1 v2 v3 v4 (fun a0 a1=>some (.inl (a0,a1))) (fun a0 a1 a2 a3 a4=>H0 k a0 a1 a2 a3 a4) (fun a0=>some (.inr a0))
def gb(a:ae)(b:Int):Option (aP×Bool):=
 LS a b (fun a0 a1 a2 a3 a4=>(H0 ah a0 a1 a2 a3 a4).bind fun e=>Sum.elim (fun(we:(Bool×aP))=>zu2 we.1 we.2 (fun a0 a1=>some (a0,a1))) (fun(we:aP)=>zu3 we (fun a0 a1=>some (a0,a1))) e)
def BD{R:Type}(a:ae)(b:Int->Int->Option R)(c:fp->Int->Int->ae->Option R):Option R:=
 bif !decide (a.1=1) then bif !decide (a.1=2) then b 1 (-1:Int) else bif a.2.1<0 then b 7 (-1:Int) else bif 9<a.2.1 then b 7 (-1:Int) else c a.2.2.1 ((List.length a.2.2.1):Int) 0 a else bif a.2.1<0 then b 7 (-1:Int) else bif 9<a.2.1 then b 7 (-1:Int) else c a.2.2.1 ((List.length a.2.2.1):Int) 0 a
theorem zzd{R S:Type}(F:R->Option S)(a)(b)(c):(BD a b c).bind F=BD a (fun a0 a1=>(b a0 a1).bind F) (fun a0 a1 a2 a3=>(c a0 a1 a2 a3).bind F):=by
 simp only[BD,aE]
def HZ{R:Type}(a:fp)(b c:Int)(d:ae)(e:Int->Int->Option R)(f:fp->Int->Int->ae->Option R)(g:Option R):Option R:=
 bif c<b then zc c (List.length a) ((jL (List.getD a c.toNat (0,0,0,0,0,()))).bind fun r1=>bif !decide (r1=0) then e r1 c else bif 0<c then zc (zW zI (c-1)) (List.length d.2.2.1) (bif(List.getD a c.toNat (0,0,0,0,0,())).1<=(List.getD d.2.2.1 (zW zI (c-(1:Int))).toNat (0,0,0,0,0,())).1 then e 11 c else f a b (zW zI (c+1)) d) else f a b (zW zI (c+1)) d) else g
def LP{R:Type}(a b:Int)(c:Int->Int->Option R):Option R:=
 c a b
def LQ{R:Type}(a:Int->Int->Option R):Option R:=
 a 0 0
def wK:Nat->fp->Int->Int->ae->Option (Sum (Int×Int) Unit)
 |0,_,_,_,_=>none
 |k+1,v0,v1,v2,v3=>HZ v0 v1 v2 v3 (fun a0 a1=>some (.inl (a0,a1))) (fun a0 a1 a2 a3=>wK k a0 a1 a2 a3) (some (.inr ()))
def kD(a:ae):Option (Int×Int):=
 BD a (fun a0 a1=>some (a0,a1)) (fun a0 a1 a2 a3=>(wK ah a0 a1 a2 a3).bind fun e=>Sum.elim (fun(we:(Int×Int))=>LP we.1 we.2 (fun a0 a1=>some (a0,a1))) (fun(we:Unit)=>LQ (fun a0 a1=>some (a0,a1))) e)
def Lo{R:Type}(a:ByteArray)(b:Bool->Option R):Option R:=
 bif(a.size:Int)=4 then(uC a).bind fun r1=>b r1 else b false
def lL(a:ByteArray):Option Bool:=
 Lo a (fun a0=>some a0)
def Lp{R:Type}(a:ByteArray)(b:Int->Bool->Option R):Option R:=
 (lL a).bind fun r1=>bif !r1 then b 0 false else zc 0 a.size (b (zW zI (zW zU (zd a ((0:Int)).toNat-48))) true)
def ia(a:ByteArray):Option (Int×Bool):=
 Lp a (fun a0 a1=>some (a0,a1))
def Ln{R:Type}(a:ByteArray)(b:Bool->Option R):Option R:=
 (lL a).bind fun r1=>bif r1 then zc 2 a.size (bif zd a ((2:Int)).toNat=48 then b true else zc 2 a.size (b (decide (zd a ((2:Int)).toNat=50)))) else b false
def lK(a:ByteArray):Option Bool:=
 Ln a (fun a0=>some a0)
def zt1{R:Type}(a:ByteArray)(b:ByteArray->Bool->Option R):Option R:=
 (lK a).bind fun r1=>bif !r1 then b (bs []) false else bif 2<=(a.size:Int) then zc 2 a.size (bif(a.extract 0 ((2:Int)).toNat).size+(strOf ([(zW zU (zd a ((2:Int)).toNat+1))]:List Int)).size<=9223372036854775807 then bif 3<=(a.size:Int) then bif(a.extract 0 ((2:Int)).toNat++strOf ([(zW zU (zd a ((2:Int)).toNat+1))]:List Int)).size+(a.extract ((3:Int)).toNat a.size).size<=9223372036854775807 then b ((a.extract 0 ((2:Int)).toNat++strOf ([(zW zU (zd a ((2:Int)).toNat+1))]:List Int))++a.extract ((3:Int)).toNat a.size) true else none else none else none) else none
def xf(a:ByteArray):Option ib:=
 zt1 a (fun a0 a1=>some (a0,a1))
def zsp{R:Type}(a:aq)(b:Int)(c:Int->au->Int->Int->Option R):Option R:=
 c b a.2.1 ((List.length a.2.1):Int) 0
def zsq{R:Type}(a:Int)(b:au)(c d:Int)(e:ByteArray->Bool->Option R)(f:Int->au->Int->Int->Option R)(g:Option R):Option R:=
 bif d<c then zc d (List.length b) (bif(List.getD b d.toNat (0,bs [],())).1=a then e (List.getD b d.toNat (0,bs [],())).2.1 true else f a b c (zW zI (d+1))) else g
def zsr{R:Type}(a:ByteArray)(b:Bool)(c:ByteArray->Bool->Option R):Option R:=
 c a b
def zss{R:Type}(a:ByteArray->Bool->Option R):Option R:=
 a (bs []) false
def Li:Nat->Int->au->Int->Int->Option (Sum ib Unit)
 |0,_,_,_,_=>none
 |k+1,v0,v1,v2,v3=>zsq v0 v1 v2 v3 (fun a0 a1=>some (.inl (a0,a1))) (fun a0 a1 a2 a3=>Li k a0 a1 a2 a3) (some (.inr ()))
def xb(a:aq)(b:Int):Option ib:=
 zsp a b (fun a0 a1 a2 a3=>(Li ah a0 a1 a2 a3).bind fun e=>Sum.elim (fun(we:ib)=>zsr we.1 we.2 (fun a0 a1=>some (a0,a1))) (fun(we:Unit)=>zss (fun a0 a1=>some (a0,a1))) e)
def zsy{R:Type}(a:aq)(b:Int)(c:Int->au->Int->Int->aq->aq->Option R):Option R:=
 c b a.2.1 ((List.length a.2.1):Int) 0 (bs [],[],()) (a.1,[],())
def zsz{R:Type}(a:Int)(b:au)(c d:Int)(e f:aq)(g:Int->au->Int->Int->aq->aq->Option R)(h:aq->aq->Option R):Option R:=
 bif d<c then zc d (List.length b) (bif !decide ((List.getD b d.toNat (0,bs [],())).1=a) then bif(List.length f.2.1+List.length ([(List.getD b d.toNat ((0:Int),bs [],()))]:List aZ))*24<=140737488355328 then g a b c (zW zI (d+1)) e (f.1,f.2.1++([(List.getD b d.toNat (0,bs [],()))]:List aZ),()) else none else g a b c (zW zI (d+1)) e f) else h e f
def zt0{R:Type}(a b:aq)(c:aq->Option R):Option R:=
 c b
def Lm:Nat->Int->au->Int->Int->aq->aq->Option (aq×aq)
 |0,_,_,_,_,_,_=>none
 |k+1,v0,v1,v2,v3,v4,v5=>zsz v0 v1 v2 v3 v4 v5 (fun a0 a1 a2 a3 a4 a5=>Lm k a0 a1 a2 a3 a4 a5) (fun a0 a1=>some (a0,a1))
def xe(a:aq)(b:Int):Option aq:=
 zsy a b (fun a0 a1 a2 a3 a4 a5=>(Lm ah a0 a1 a2 a3 a4 a5).bind fun e=>zt0 e.1 e.2 (fun a0=>some a0))
def zsx{R:Type}(a:aZ)(b:Int)(c:Bool->Int->Option R):Option R:=
 c (decide (b<a.1)) b
def xd(a:aZ)(b:Int):Option (Bool×Int):=
 zsx a b (fun a0 a1=>some (a0,a1))
def zu9{R:Type}(a:au)(b:Int)(c:au->Int->Int->Int->Option R):Option R:=
 c a ((List.length a):Int) 0 b
def zua{R:Type}(a:au)(b c d:Int)(e:Int->Int->Option R)(f:au->Int->Int->Int->Option R)(g:Int->Option R):Option R:=
 bif c<b then zc c (List.length a) ((xd (List.getD a c.toNat (0,bs [],())) d).bind fun r1=>bif r1.1 then e c r1.2 else f a b (zW zI (c+1)) r1.2) else g d
def zub{R:Type}(a b:Int)(c:Int->Int->Option R):Option R:=
 c a b
def zuc{R:Type}(a:Int)(b:Int->Int->Option R):Option R:=
 b (-1:Int) a
def LZ:Nat->au->Int->Int->Int->Option (Sum (Int×Int) Int)
 |0,_,_,_,_=>none
 |k+1,v0,v1,v2,v3=>zua v0 v1 v2 v3 (fun a0 a1=>some (.inl (a0,a1))) (fun a0 a1 a2 a3=>LZ k a0 a1 a2 a3) (fun a0=>some (.inr a0))
def xm(a:au)(b:Int):Option (Int×Int):=
 zu9 a b (fun a0 a1 a2 a3=>(LZ ah a0 a1 a2 a3).bind fun e=>Sum.elim (fun(we:(Int×Int))=>zub we.1 we.2 (fun a0 a1=>some (a0,a1))) (fun(we:Int)=>zuc we (fun a0 a1=>some (a0,a1))) e)
def zsw{R:Type}(a:aq)(b:Int)(c:ByteArray)(d:aq->Option R):Option R:=
 (xe a b).bind fun r1=>(xm r1.2.1 b).bind fun r2=>bif r2.1<0 then bif zW zI (((List.length r1.2.1):Int)+1)=zW zI (((List.length r1.2.1):Int)+1) then bif 0<=zW zI (((List.length r1.2.1):Int)+1) then bif zW zI (((List.length r1.2.1):Int)+1)*24<=140737488355328 then bif 0<=((List.length r1.2.1):Int) then bif((List.length r1.2.1):Int)<=(((List.length r1.2.1):Nat):Int) then bif Nat.beq (zW zI (((List.length r1.2.1):Int)+(1:Int))).toNat (List.length (List.replicate (zW zI (((List.length r1.2.1):Int)+(1:Int))).toNat ((0:Int),bs [],()))) then zc ((List.length r1.2.1):Int) (zW zI (((List.length r1.2.1):Int)+(1:Int))).toNat (bif Nat.ble ((((List.length r1.2.1):Int)).toNat+1) (List.length (cu (List.replicate (zW zI (((List.length r1.2.1):Int)+(1:Int))).toNat ((0:Int),bs [],())) (List.take (zW zI (((List.length r1.2.1):Int)+(1:Int))).toNat (List.drop 0 (List.take (((List.length r1.2.1):Int)).toNat r1.2.1))) 0)) then bif 0<=zW zI (((List.length r1.2.1):Int)+1) then bif zW zI (((List.length r1.2.1):Int)+1)<=(((zW zI (((List.length r1.2.1):Int)+(1:Int))).toNat:Nat):Int) then bif 0<=((List.length r1.2.1):Int) then bif((List.length r1.2.1):Int)<=(((List.length r1.2.1):Nat):Int) then bif Nat.beq (zW zI (((List.length r1.2.1):Int)+(1:Int))).toNat (List.length (List.set (cu (List.replicate (zW zI (((List.length r1.2.1):Int)+(1:Int))).toNat ((0:Int),bs [],())) (List.take (zW zI (((List.length r1.2.1):Int)+(1:Int))).toNat (List.drop 0 (List.take (((List.length r1.2.1):Int)).toNat r1.2.1))) 0) (((List.length r1.2.1):Int)).toNat (r2.2,c,()))) then bif Nat.ble (zW zI (((List.length r1.2.1):Int)+(1:Int))).toNat (zW zI (((List.length r1.2.1):Int)+(1:Int))).toNat then bif Nat.beq (zW zI (((List.length r1.2.1):Int)+(1:Int))).toNat (List.length (cu (List.set (cu (List.replicate (zW zI (((List.length r1.2.1):Int)+(1:Int))).toNat ((0:Int),bs [],())) (List.take (zW zI (((List.length r1.2.1):Int)+(1:Int))).toNat (List.drop 0 (List.take (((List.length r1.2.1):Int)).toNat r1.2.1))) 0) (((List.length r1.2.1):Int)).toNat (r2.2,c,())) (List.take ((zW zI (((List.length r1.2.1):Int)+(1:Int))).toNat-(zW zI (((List.length r1.2.1):Int)+(1:Int))).toNat) (List.drop (((List.length r1.2.1):Int)).toNat (List.take (List.length r1.2.1) r1.2.1))) (zW zI (((List.length r1.2.1):Int)+(1:Int))).toNat)) then d (a.1,cu (List.set (cu (List.replicate (zW zI (((List.length r1.2.1):Int)+(1:Int))).toNat (0,bs [],())) (List.take (zW zI (((List.length r1.2.1):Int)+(1:Int))).toNat (List.drop 0 (List.take (((List.length r1.2.1):Int)).toNat r1.2.1))) 0) (((List.length r1.2.1):Int)).toNat (r2.2,c,())) (List.take ((zW zI (((List.length r1.2.1):Int)+(1:Int))).toNat-(zW zI (((List.length r1.2.1):Int)+(1:Int))).toNat) (List.drop (((List.length r1.2.1):Int)).toNat (List.take (List.length r1.2.1) r1.2.1))) (zW zI (((List.length r1.2.1):Int)+(1:Int))).toNat,()) else none else none else none else none else none else none else none else none) else none else none else none else none else none else none else bif zW zI (((List.length r1.2.1):Int)+1)=zW zI (((List.length r1.2.1):Int)+1) then bif 0<=zW zI (((List.length r1.2.1):Int)+1) then bif zW zI (((List.length r1.2.1):Int)+1)*24<=140737488355328 then bif 0<=r2.1 then bif r2.1<=(((List.length r1.2.1):Nat):Int) then bif Nat.beq (zW zI (((List.length r1.2.1):Int)+(1:Int))).toNat (List.length (List.replicate (zW zI (((List.length r1.2.1):Int)+(1:Int))).toNat ((0:Int),bs [],()))) then zc r2.1 (zW zI (((List.length r1.2.1):Int)+(1:Int))).toNat (bif Nat.ble (r2.1.toNat+1) (List.length (cu (List.replicate (zW zI (((List.length r1.2.1):Int)+(1:Int))).toNat ((0:Int),bs [],())) (List.take (zW zI (((List.length r1.2.1):Int)+(1:Int))).toNat (List.drop 0 (List.take r2.1.toNat r1.2.1))) 0)) then bif 0<=zW zI (r2.1+1) then bif zW zI (r2.1+1)<=(((zW zI (((List.length r1.2.1):Int)+(1:Int))).toNat:Nat):Int) then bif 0<=r2.1 then bif r2.1<=(((List.length r1.2.1):Nat):Int) then bif Nat.beq (zW zI (((List.length r1.2.1):Int)+(1:Int))).toNat (List.length (List.set (cu (List.replicate (zW zI (((List.length r1.2.1):Int)+(1:Int))).toNat ((0:Int),bs [],())) (List.take (zW zI (((List.length r1.2.1):Int)+(1:Int))).toNat (List.drop 0 (List.take r2.1.toNat r1.2.1))) 0) r2.1.toNat (r2.2,c,()))) then bif Nat.ble (zW zI (r2.1+(1:Int))).toNat (zW zI (((List.length r1.2.1):Int)+(1:Int))).toNat then bif Nat.beq (zW zI (((List.length r1.2.1):Int)+(1:Int))).toNat (List.length (cu (List.set (cu (List.replicate (zW zI (((List.length r1.2.1):Int)+(1:Int))).toNat ((0:Int),bs [],())) (List.take (zW zI (((List.length r1.2.1):Int)+(1:Int))).toNat (List.drop 0 (List.take r2.1.toNat r1.2.1))) 0) r2.1.toNat (r2.2,c,())) (List.take ((zW zI (((List.length r1.2.1):Int)+(1:Int))).toNat-(zW zI (r2.1+(1:Int))).toNat) (List.drop r2.1.toNat (List.take (List.length r1.2.1) r1.2.1))) (zW zI (r2.1+(1:Int))).toNat)) then d (a.1,cu (List.set (cu (List.replicate (zW zI (((List.length r1.2.1):Int)+(1:Int))).toNat (0,bs [],())) (List.take (zW zI (((List.length r1.2.1):Int)+(1:Int))).toNat (List.drop 0 (List.take r2.1.toNat r1.2.1))) 0) r2.1.toNat (r2.2,c,())) (List.take ((zW zI (((List.length r1.2.1):Int)+(1:Int))).toNat-(zW zI (r2.1+(1:Int))).toNat) (List.drop r2.1.toNat (List.take (List.length r1.2.1) r1.2.1))) (zW zI (r2.1+(1:Int))).toNat,()) else none else none else none else none else none else none else none else none) else none else none else none else none else none else none
def nM(a:aq)(b:Int)(c:ByteArray):Option aq:=
 zsw a b c (fun a0=>some a0)
def zsk{R:Type}(a:ae)(b:aq)(c:aO->Option R)(d:Int->au->Int->Int->ae->aO->Option R):Option R:=
 (kD a).bind fun r1=>bif !decide (r1.1=0) then c (1,(-1:Int),()) else(ia b.1).bind fun r2=>bif !r2.2 then c (7,0,()) else bif !decide (r2.1=a.2.1) then c (7,0,()) else d 0 b.2.1 ((List.length b.2.1):Int) 0 a (0,0,())
def zsl{R:Type}(a:Int)(b:au)(c d:Int)(e:ae)(f:aO)(g:aO->Option R)(h:Int->au->Int->Int->ae->aO->Option R)(i:aO->Option R):Option R:=
 bif d<c then zc d (List.length b) (bif(List.getD b d.toNat (0,bs [],())).1<=a then g (11,(List.getD b d.toNat (0,bs [],())).1,()) else(gb e (List.getD b d.toNat (0,bs [],())).1).bind fun r3=>bif !r3.2 then g (9,(List.getD b d.toNat (0,bs [],())).1,()) else(cn r3.1 (List.getD b d.toNat (0,bs [],())).2.1).bind fun r4=>bif !decide (r4=0) then g (r4,(List.getD b d.toNat (0,bs [],())).1,()) else h (List.getD b d.toNat (0,bs [],())).1 b c (zW zI (d+1)) e f) else i f
def zsm{R:Type}(a:aO)(b:aO->Option R):Option R:=
 b a
def zsn{R:Type}(a:aO)(b:aO->Option R):Option R:=
 b (0,0,())
def Lg:Nat->Int->au->Int->Int->ae->aO->Option (Sum aO aO)
 |0,_,_,_,_,_,_=>none
 |k+1,v0,v1,v2,v3,v4,v5=>zsl v0 v1 v2 v3 v4 v5 (fun a0=>some (.inl a0)) (fun a0 a1 a2 a3 a4 a5=>Lg k a0 a1 a2 a3 a4 a5) (fun a0=>some (.inr a0))
def sf(a:ae)(b:aq):Option aO:=
 zsk a b (fun a0=>some a0) (fun a0 a1 a2 a3 a4 a5=>(Lg ah a0 a1 a2 a3 a4 a5).bind fun e=>Sum.elim (fun(we:aO)=>zsm we (fun a0=>some a0)) (fun(we:aO)=>zsn we (fun a0=>some a0)) e)
def zst{R:Type}(a:aq)(b:au->Int->Int->aO->aO->Option R):Option R:=
 b a.2.1 ((List.length a.2.1):Int) 0 (0,0,()) (0,0,())
def zsu{R:Type}(a:au)(b c:Int)(d e:aO)(f:au->Int->Int->aO->aO->Option R)(g:aO->aO->Option R):Option R:=
 bif c<b then zc c (List.length a) ((AF e (List.getD a c.toNat (0,bs [],())).1).bind fun r1=>f a b (zW zI (c+1)) d r1) else g d e
def zsv{R:Type}(a b:aO)(c:aO->Option R):Option R:=
 c b
def Lk:Nat->au->Int->Int->aO->aO->Option (aO×aO)
 |0,_,_,_,_,_=>none
 |k+1,v0,v1,v2,v3,v4=>zsu v0 v1 v2 v3 v4 (fun a0 a1 a2 a3 a4=>Lk k a0 a1 a2 a3 a4) (fun a0 a1=>some (a0,a1))
def xc(a:aq):Option aO:=
 zst a (fun a0 a1 a2 a3 a4=>(Lk ah a0 a1 a2 a3 a4).bind fun e=>zsv e.1 e.2 (fun a0=>some a0))
def LK{R:Type}(a:aD)(b c:ae)(d:aP->aP->Int->Option R):Option R:=
 (gb b a.2.1).bind fun r1=>(gb c a.2.2.1).bind fun r2=>bif a.1=3 then bif a.1=2 then bif !decide (a.2.1=0) then d r1.1 r2.1 9 else bif !decide (a.2.2.1=0) then d r1.1 r2.1 9 else d r1.1 r2.1 0 else bif !decide (a.2.1=0) then d r1.1 r2.1 9 else bif !r2.2 then d r1.1 r2.1 9 else d r1.1 r2.1 0 else bif a.1=2 then bif !r1.2 then d r1.1 r2.1 9 else bif !decide (a.2.2.1=0) then d r1.1 r2.1 9 else d r1.1 r2.1 0 else bif !r1.2 then d r1.1 r2.1 9 else bif !r2.2 then d r1.1 r2.1 9 else d r1.1 r2.1 0
def pL(a:aD)(b c:ae):Option (aP×aP×Int):=
 LK a b c (fun a0 a1 a2=>some (a0,a1,a2))
def LL{R:Type}(a:aP)(b:Bool->Option R):Option R:=
 bif a.2.1=1 then b (decide (a.2.2.1=1)) else b false
def gR(a:aP):Option Bool:=
 LL a (fun a0=>some a0)
def LN{R:Type}(a:aM)(b c:aP)(d:Int->Option R)(e:aM->Int->Int->aP->aP->Option R):Option R:=
 (Ch a).bind fun r1=>bif !decide (r1.1=0) then d 15 else bif((List.length a):Int)=0 then d 15 else e a ((List.length a):Int) 0 b c
def ztw{R:Type}(a:aM)(b c:Int)(d e:aP)(f:Int->Option R)(g:aM->Int->Int->aP->aP->Option R)(h:Option R):Option R:=
 bif c<b then zc c (List.length a) ((cn d (List.getD a c.toNat (bs [],bs [],())).1).bind fun r2=>bif !decide (r2=0) then f r2 else(cn e (List.getD a c.toNat (bs [],bs [],())).2.1).bind fun r3=>bif !decide (r3=0) then f r3 else g a b (zW zI (c+1)) d e) else h
def ztx{R:Type}(a:Int)(b:Int->Option R):Option R:=
 b a
def zty{R:Type}(a:Int->Option R):Option R:=
 a 0
def HY:Nat->aM->Int->Int->aP->aP->Option (Sum Int Unit)
 |0,_,_,_,_,_=>none
 |k+1,v0,v1,v2,v3,v4=>ztw v0 v1 v2 v3 v4 (fun a0=>some (.inl a0)) (fun a0 a1 a2 a3 a4=>HY k a0 a1 a2 a3 a4) (some (.inr ()))
def kC(a:aM)(b c:aP):Option Int:=
 LN a b c (fun a0=>some a0) (fun a0 a1 a2 a3 a4=>(HY ah a0 a1 a2 a3 a4).bind fun e=>Sum.elim (fun(we:Int)=>ztx we (fun a0=>some a0)) (fun(we:Unit)=>zty (fun a0=>some a0)) e)
def LJ{R:Type}(a:aD)(b c:ae)(d:Int->Option R):Option R:=
 bif a.1<1 then d 1 else bif 5<a.1 then d 1 else(pL a b c).bind fun r1=>bif !decide (r1.2.2=0) then d r1.2.2 else bif !decide (a.2.2.2.1=bs []) then bif !decide (a.1=3) then d 3 else bif 0<((List.length a.2.2.2.2.1):Int) then bif !decide (a.1=5) then d 3 else bif a.1=1 then(jM r1.2.1 r1.1).bind fun r2=>bif !r2 then d 6 else d 0 else bif a.1=3 then(cn r1.2.1 a.2.2.2.1).bind fun r3=>d r3 else bif a.1=4 then(gR r1.1).bind fun r4=>bif !r4 then d 6 else(gR r1.2.1).bind fun r5=>bif !r5 then d 6 else d 0 else bif a.1=5 then(kC a.2.2.2.2.1 r1.1 r1.2.1).bind fun r6=>d r6 else d 0 else bif a.1=1 then(jM r1.2.1 r1.1).bind fun r7=>bif !r7 then d 6 else d 0 else bif a.1=3 then(cn r1.2.1 a.2.2.2.1).bind fun r8=>d r8 else bif a.1=4 then(gR r1.1).bind fun r9=>bif !r9 then d 6 else(gR r1.2.1).bind fun j9=>bif !j9 then d 6 else d 0 else bif a.1=5 then(kC a.2.2.2.2.1 r1.1 r1.2.1).bind fun ll=>d ll else d 0 else bif 0<((List.length a.2.2.2.2.1):Int) then bif !decide (a.1=5) then d 3 else bif a.1=1 then(jM r1.2.1 r1.1).bind fun qS=>bif !qS then d 6 else d 0 else bif a.1=3 then(cn r1.2.1 a.2.2.2.1).bind fun oN=>d oN else bif a.1=4 then(gR r1.1).bind fun yA=>bif !yA then d 6 else(gR r1.2.1).bind fun wh=>bif !wh then d 6 else d 0 else bif a.1=5 then(kC a.2.2.2.2.1 r1.1 r1.2.1).bind fun A5=>d A5 else d 0 else bif a.1=1 then(jM r1.2.1 r1.1).bind fun Jc=>bif !Jc then d 6 else d 0 else bif a.1=3 then(cn r1.2.1 a.2.2.2.1).bind fun Jd=>d Jd else bif a.1=4 then(gR r1.1).bind fun A6=>bif !A6 then d 6 else(gR r1.2.1).bind fun Je=>bif !Je then d 6 else d 0 else bif a.1=5 then(kC a.2.2.2.2.1 r1.1 r1.2.1).bind fun EV=>d EV else d 0
def lM(a:aD)(b c:ae):Option Int:=
 LJ a b c (fun a0=>some a0)
def ztu{R:Type}(a:aD)(b:ae)(c:ByteArray)(d:aZ->Int->Option R):Option R:=
 bif a.1=1 then d (a.2.2.1,c,()) 0 else bif a.1=2 then d (0,bs [],()) 0 else bif a.1=3 then d (a.2.2.1,a.2.2.2.1,()) 0 else bif a.1=4 then(gb b a.2.2.1).bind fun r1=>bif !r1.2 then d (0,bs [],()) 9 else(OD c r1.1.2.2.2.1).bind fun r2=>bif !r2.2 then d (0,bs [],()) 5 else d (a.2.2.1,r2.1,()) 0 else bif a.1=5 then(OB a.2.2.2.2.1 c).bind fun r3=>bif !r3.2 then d (0,bs [],()) 15 else d (a.2.2.1,r3.1,()) 0 else d (0,bs [],()) 1
def xl(a:aD)(b:ae)(c:ByteArray):Option (aZ×Int):=
 ztu a b c (fun a0 a1=>some (a0,a1))
def Mx{R:Type}(a:cY)(b c:ae)(d:Bool->Option R):Option R:=
 (ia a.1).bind fun r1=>(ia a.2.1).bind fun r2=>bif r1.2 then bif r2.2 then bif r1.1=b.2.1 then bif r2.1=c.2.1 then(lK a.1).bind fun r3=>(lK a.2.1).bind fun r4=>d (r3==r4) else d false else d false else d false else d false
def lO(a:cY)(b c:ae):Option Bool:=
 Mx a b c (fun a0=>some a0)
def Ml{R:Type}(a:av)(b c:ae)(d:lS->Int->Int->av->ae->ae->Option R):Option R:=
 d ([b,c]:List ae) ((List.length ([b,c]:List ae)):Int) 0 a b c
def Mm{R:Type}(a:lS)(b c:Int)(d:av)(e f:ae)(g:Int->Int->Int->av->ae->ae->Option R)(h:lS->Int->Int->av->ae->ae->Option R)(i:av->ae->ae->Option R):Option R:=
 bif c<b then zc c (List.length a) ((kD (List.getD a c.toNat (0,0,[],()))).bind fun r1=>bif !decide (r1.1=0) then g 1 1 c d e f else h a b (zW zI (c+1)) d e f) else i d e f
def zv6{R:Type}(a b c:Int)(d:av)(e f:ae)(g:Int->Int->Int->Option R):Option R:=
 g a b c
def Mn{R:Type}(a:av)(b c:ae)(d:Int->Int->Int->Option R)(e:aM->Int->Int->av->ae->ae->fM->Option R):Option R:=
 bif 256<((List.length a.1):Int) then d 5 2 256 else e a.1 ((List.length a.1):Int) 0 a b c []
def zv7{R:Type}(a:aM)(b c:Int)(d:av)(e f:ae)(g:fM)(h:Int->Int->Int->av->ae->ae->Option R)(i:aM->Int->Int->av->ae->ae->fM->Option R)(j:av->ae->ae->Option R):Option R:=
 bif c<b then zc c (List.length a) ((lO (List.getD a c.toNat (bs [],bs [],())) e f).bind fun r2=>bif !r2 then h (7:Int) (2:Int) c d e f else bif dY (eP .str) false g (List.getD a c.toNat (bs [],bs [],())).1 then h (10:Int) (2:Int) c d e f else bif dZ (eP .str) g (List.getD a c.toNat (bs [],bs [],())).1 then none else i a b (zW zI (c+(1:Int))) d e f (g++ [((List.getD a c.toNat (bs [],bs [],())).1,true)])) else j d e f
def zv8{R:Type}(a b c:Int)(d:av)(e f:ae)(g:Int->Int->Int->Option R):Option R:=
 g a b c
def Mo{R:Type}(a:av)(b c:ae)(d:Int->Int->Int->Option R)(e:bD->Int->Int->ae->ae->aO->aO->Option R):Option R:=
 bif 256<((List.length a.2.1):Int) then d 5 3 256 else e a.2.1 ((List.length a.2.1):Int) 0 b c (0,0,()) (0,0,())
def zv9{R:Type}(a:bD)(b c:Int)(d e:ae)(f g:aO)(h:Int->Int->Int->Option R)(i:bD->Int->Int->ae->ae->aO->aO->Option R)(j:Option R):Option R:=
 bif c<b then zc c (List.length a) ((lM (List.getD a c.toNat (0,0,0,bs [],[],())) d e).bind fun r3=>bif !decide (r3=0) then h r3 3 c else(rA ([(List.getD a c.toNat (0,0,0,bs [],[],())).2.1]:List Int)).bind fun r4=>(rA ([(List.getD a c.toNat (0,0,0,bs [],[],())).2.2.1]:List Int)).bind fun r5=>(pT f r4).bind fun r6=>bif !(decide (r6.1=0)&&(decide (r6.2.1=0)&&true)) then h 10 3 c else(pT g r5).bind fun r7=>bif !(decide (r7.1=0)&&(decide (r7.2.1=0)&&true)) then h 10 3 c else(pU f r4).bind fun r8=>(pU g r5).bind fun r9=>i a b (zW zI (c+1)) d e r8 r9) else j
def zva{R:Type}(a b c:Int)(d:Int->Int->Int->Option R):Option R:=
 d a b c
def zvb{R:Type}(a:Int->Int->Int->Option R):Option R:=
 a 0 0 0
def BF:Nat->lS->Int->Int->av->ae->ae->Option (Sum jR jQ)
 |0,_,_,_,_,_,_=>none
 |k+1,v0,v1,v2,v3,v4,v5=>Mm v0 v1 v2 v3 v4 v5 (fun a0 a1 a2 a3 a4 a5=>some (.inl (a0,a1,a2,a3,a4,a5))) (fun a0 a1 a2 a3 a4 a5=>BF k a0 a1 a2 a3 a4 a5) (fun a0 a1 a2=>some (.inr (a0,a1,a2)))
def BG:Nat->aM->Int->Int->av->ae->ae->fM->Option (Sum jR jQ)
 |0,_,_,_,_,_,_,_=>none
 |k+1,v0,v1,v2,v3,v4,v5,v6=>zv7 v0 v1 v2 v3 v4 v5 v6 (fun a0 a1 a2 a3 a4 a5=>some (.inl (a0,a1,a2,a3,a4,a5))) (fun a0 a1 a2 a3 a4 a5 a6=>BG k a0 a1 a2 a3 a4 a5 a6) (fun a0 a1 a2=>some (.inr (a0,a1,a2)))
def H4:Nat->bD->Int->Int->ae->ae->aO->aO->Option (Sum gS Unit)
 |0,_,_,_,_,_,_,_=>none
 |k+1,v0,v1,v2,v3,v4,v5,v6=>zv9 v0 v1 v2 v3 v4 v5 v6 (fun a0 a1 a2=>some (.inl (a0,a1,a2))) (fun a0 a1 a2 a3 a4 a5 a6=>H4 k a0 a1 a2 a3 a4 a5 a6) (some (.inr ()))
def nQ(a:av)(b c:ae):Option gS:=
 Ml a b c (fun a0 a1 a2 a3 a4 a5=>(BF ah a0 a1 a2 a3 a4 a5).bind fun e=>Sum.elim (fun(we:jR)=>zv6 we.1 we.2.1 we.2.2.1 we.2.2.2.1 we.2.2.2.2.1 we.2.2.2.2.2 (fun a0 a1 a2=>some (a0,a1,a2))) (fun(we:jQ)=>Mn we.1 we.2.1 we.2.2 (fun a0 a1 a2=>some (a0,a1,a2)) (fun a0 a1 a2 a3 a4 a5 a6=>(BG ah a0 a1 a2 a3 a4 a5 a6).bind fun e=>Sum.elim (fun(we:jR)=>zv8 we.1 we.2.1 we.2.2.1 we.2.2.2.1 we.2.2.2.2.1 we.2.2.2.2.2 (fun a0 a1 a2=>some (a0,a1,a2))) (fun(we:jQ)=>Mo we.1 we.2.1 we.2.2 (fun a0 a1 a2=>some (a0,a1,a2)) (fun a0 a1 a2 a3 a4 a5 a6=>(H4 ah a0 a1 a2 a3 a4 a5 a6).bind fun e=>Sum.elim (fun(we:gS)=>zva we.1 we.2.1 we.2.2 (fun a0 a1 a2=>some (a0,a1,a2))) (fun(we:Unit)=>zvb (fun a0 a1 a2=>some (a0,a1,a2))) e)) e)) e)
def zvp{R:Type}(a:av)(b:ByteArray)(c:ByteArray->aM->Int->Int->Option R):Option R:=
 c b a.1 ((List.length a.1):Int) 0
def zvq{R:Type}(a:ByteArray)(b:aM)(c d:Int)(e:ByteArray->Bool->Option R)(f:ByteArray->aM->Int->Int->Option R)(g:Option R):Option R:=
 bif d<c then zc d (List.length b) (bif(List.getD b d.toNat (bs [],bs [],())).1=a then e (List.getD b d.toNat (bs [],bs [],())).2.1 true else f a b c (zW zI (d+1))) else g
def zvr{R:Type}(a:ByteArray)(b:Bool)(c:ByteArray->Bool->Option R):Option R:=
 c a b
def zvs{R:Type}(a:ByteArray->Bool->Option R):Option R:=
 a (bs []) false
def Mw:Nat->ByteArray->aM->Int->Int->Option (Sum ib Unit)
 |0,_,_,_,_=>none
 |k+1,v0,v1,v2,v3=>zvq v0 v1 v2 v3 (fun a0 a1=>some (.inl (a0,a1))) (fun a0 a1 a2 a3=>Mw k a0 a1 a2 a3) (some (.inr ()))
def xx(a:av)(b:ByteArray):Option ib:=
 zvp a b (fun a0 a1 a2 a3=>(Mw ah a0 a1 a2 a3).bind fun e=>Sum.elim (fun(we:ib)=>zvr we.1 we.2 (fun a0 a1=>some (a0,a1))) (fun(we:Unit)=>zvs (fun a0 a1=>some (a0,a1))) e)
def zvk{R:Type}(a:av)(b:Int)(c:Int->bD->Int->Int->aD->Option R):Option R:=
 c b a.2.1 ((List.length a.2.1):Int) 0 (0,0,0,bs [],[],())
def zvl{R:Type}(a:Int)(b:bD)(c d:Int)(e:aD)(f:Bool->aD->Option R)(g:Int->bD->Int->Int->aD->Option R)(h:aD->Option R):Option R:=
 bif d<c then zc d (List.length b) (bif(List.getD b d.toNat (0,0,0,bs [],[],())).2.1=a then f true (List.getD b d.toNat (0,0,0,bs [],[],())) else g a b c (zW zI (d+1)) e) else h e
def zvm{R:Type}(a:Bool)(b:aD)(c:aD->Bool->Option R):Option R:=
 c b a
def zvn{R:Type}(a:aD)(b:aD->Bool->Option R):Option R:=
 b (0,0,0,bs [],[],()) false
def Mu:Nat->Int->bD->Int->Int->aD->Option (Sum (Bool×aD) aD)
 |0,_,_,_,_,_=>none
 |k+1,v0,v1,v2,v3,v4=>zvl v0 v1 v2 v3 v4 (fun a0 a1=>some (.inl (a0,a1))) (fun a0 a1 a2 a3 a4=>Mu k a0 a1 a2 a3 a4) (fun a0=>some (.inr a0))
def xw(a:av)(b:Int):Option (aD×Bool):=
 zvk a b (fun a0 a1 a2 a3 a4=>(Mu ah a0 a1 a2 a3 a4).bind fun e=>Sum.elim (fun(we:(Bool×aD))=>zvm we.1 we.2 (fun a0 a1=>some (a0,a1))) (fun(we:aD)=>zvn we (fun a0 a1=>some (a0,a1))) e)
def zvd{R:Type}(a:av)(b c:ae)(d:aq)(e:aq->aO->Option R)(f:bD->Int->Int->av->ae->aq->aq->aO->aq->Option R):Option R:=
 (nQ a b c).bind fun r1=>bif !decide (r1.1=0) then e (bs [],[],()) (1,(-1:Int),()) else(sf b d).bind fun r2=>bif !decide (r2.1=0) then e (bs [],[],()) r2 else(xx a d.1).bind fun r3=>bif !r3.2 then e (bs [],[],()) (7,0,()) else f a.2.1 ((List.length a.2.1):Int) 0 a c d (bs [],[],()) (0,0,()) (r3.1,[],())
def zve{R:Type}(a:bD)(b c:Int)(d:av)(e:ae)(f g:aq)(h:aO)(i:aq)(j:bD->Int->Int->av->ae->aq->aq->aO->aq->Option R)(l:av->ae->aq->aq->aO->aq->Option R):Option R:=
 bif c<b then zc c (List.length a) (bif(List.getD a c.toNat (0,0,0,bs [],[],())).1=3 then(nM i (List.getD a c.toNat (0,0,0,bs [],[],())).2.2.1 (List.getD a c.toNat (0,0,0,bs [],[],())).2.2.2.1).bind fun r4=>j a b (zW zI (c+1)) d e f g h r4 else j a b (zW zI (c+1)) d e f g h i) else l d e f g h i
def zvf{R:Type}(a:av)(b:ae)(c d:aq)(e:aO)(f:aq)(g:au->Int->Int->av->ae->aq->aO->aq->Option R):Option R:=
 g c.2.1 ((List.length c.2.1):Int) 0 a b d e f
def zvg{R:Type}(a:au)(b c:Int)(d:av)(e:ae)(f:aq)(g:aO)(h:aq)(i:aq->aO->aq->Option R)(j:au->Int->Int->av->ae->aq->aO->aq->Option R)(l:aq->aO->aq->Option R):Option R:=
 bif c<b then zc c (List.length a) ((xw d (List.getD a c.toNat (0,bs [],())).1).bind fun r5=>bif !r5.2 then i (bs [],[],()) (9,(List.getD a c.toNat (0,bs [],())).1,()) h else(xl r5.1 e (List.getD a c.toNat (0,bs [],())).2.1).bind fun r6=>bif !decide (r6.2=0) then i (bs [],[],()) (r6.2,(List.getD a c.toNat (0,bs [],())).1,()) h else bif !decide (r6.1.1=0) then(nM h r6.1.1 r6.1.2.1).bind fun r7=>j a b (zW zI (c+1)) d e f g r7 else j a b (zW zI (c+1)) d e f g h) else l f g h
def zvh{R:Type}(a:aq)(b:aO)(c:aq)(d:aq->aO->Option R):Option R:=
 d a b
def zvi{R:Type}(a:aq)(b:aO)(c:aq)(d:aq->aO->Option R):Option R:=
 d c (0,0,())
def Mr:Nat->bD->Int->Int->av->ae->aq->aq->aO->aq->Option (av×ae×aq×aq×aO×aq)
 |0,_,_,_,_,_,_,_,_,_=>none
 |k+1,v0,v1,v2,v3,v4,v5,v6,v7,v8=>zve v0 v1 v2 v3 v4 v5 v6 v7 v8 (fun a0 a1 a2 a3 a4 a5 a6 a7 a8=>Mr k a0 a1 a2 a3 a4 a5 a6 a7 a8) (fun a0 a1 a2 a3 a4 a5=>some (a0,a1,a2,a3,a4,a5))
def Ms:Nat->au->Int->Int->av->ae->aq->aO->aq->Option (Sum nU nU)
 |0,_,_,_,_,_,_,_,_=>none
 |k+1,v0,v1,v2,v3,v4,v5,v6,v7=>zvg v0 v1 v2 v3 v4 v5 v6 v7 (fun a0 a1 a2=>some (.inl (a0,a1,a2))) (fun a0 a1 a2 a3 a4 a5 a6 a7=>Ms k a0 a1 a2 a3 a4 a5 a6 a7) (fun a0 a1 a2=>some (.inr (a0,a1,a2)))
def xv(a:av)(b c:ae)(d:aq):Option (aq×aO):=
 zvd a b c d (fun a0 a1=>some (a0,a1)) (fun a0 a1 a2 a3 a4 a5 a6 a7 a8=>(Mr ah a0 a1 a2 a3 a4 a5 a6 a7 a8).bind fun e=>zvf e.1 e.2.1 e.2.2.1 e.2.2.2.1 e.2.2.2.2.1 e.2.2.2.2.2 (fun a0 a1 a2 a3 a4 a5 a6 a7=>(Ms ah a0 a1 a2 a3 a4 a5 a6 a7).bind fun e=>Sum.elim (fun(we:nU)=>zvh we.1 we.2.1 we.2.2 (fun a0 a1=>some (a0,a1))) (fun(we:nU)=>zvi we.1 we.2.1 we.2.2 (fun a0 a1=>some (a0,a1))) e))
def L1{R:Type}(a:(List Int))(b:Int)(c:(List Int)->Int->Int->Int->Option R):Option R:=
 c a b ((List.length a):Int) 0
def zue{R:Type}(a:(List Int))(b c d:Int)(e:Int->Option R)(f:(List Int)->Int->Int->Int->Option R)(g:Option R):Option R:=
 bif d<c then zc d (List.length a) (bif b=List.getD a d.toNat 0 then e d else f a b c (zW zI (d+1))) else g
def zuf{R:Type}(a:Int)(b:Int->Option R):Option R:=
 b a
def zug{R:Type}(a:Int->Option R):Option R:=
 a (-1:Int)
def H3:Nat->(List Int)->Int->Int->Int->Option (Sum Int Unit)
 |0,_,_,_,_=>none
 |k+1,v0,v1,v2,v3=>zue v0 v1 v2 v3 (fun a0=>some (.inl a0)) (fun a0 a1 a2 a3=>H3 k a0 a1 a2 a3) (some (.inr ()))
def sk(a:(List Int))(b:Int):Option Int:=
 L1 a b (fun a0 a1 a2 a3=>(H3 ah a0 a1 a2 a3).bind fun e=>Sum.elim (fun(we:Int)=>zuf we (fun a0=>some a0)) (fun(we:Unit)=>zug (fun a0=>some a0)) e)
def LV{R:Type}(a:(List Int))(b:Int)(c:Bool->Option R):Option R:=
 (sk a b).bind fun r1=>c (decide (0<=r1))
def pN(a:(List Int))(b:Int):Option Bool:=
 LV a b (fun a0=>some a0)
def LG{R:Type}(a:al)(b:Int)(c:Int->Option R):Option R:=
 zc b (List.length a.2.2.1) ((gb a.1 (List.getD a.2.2.1 b.toNat (0:Int))).bind fun r1=>bif !r1.2 then c 9 else bif List.getD a.2.2.1 b.toNat 0=39 then c 1 else bif 0<=b then bif b<=(((List.length a.2.2.1):Nat):Int) then(pN (List.drop 0 (List.take b.toNat a.2.2.1)) (List.getD a.2.2.1 b.toNat (0:Int))).bind fun r2=>bif r2 then c 10 else c 0 else none else none)
def pJ(a:al)(b:Int):Option Int:=
 LG a b (fun a0=>some a0)
def LF{R:Type}(a b:aZ)(c:Bool->aZ->Option R):Option R:=
 c (decide (a.1=b.1)) b
def nO(a b:aZ):Option (Bool×aZ):=
 LF a b (fun a0 a1=>some (a0,a1))
def LX{R:Type}(a:au)(b:aZ)(c:au->Int->Int->aZ->Option R):Option R:=
 c a ((List.length a):Int) 0 b
def zu5{R:Type}(a:au)(b c:Int)(d:aZ)(e:Int->aZ->Option R)(f:au->Int->Int->aZ->Option R)(g:aZ->Option R):Option R:=
 bif c<b then zc c (List.length a) ((nO (List.getD a c.toNat (0,bs [],())) d).bind fun r1=>bif r1.1 then e c r1.2 else f a b (zW zI (c+1)) r1.2) else g d
def zu6{R:Type}(a:Int)(b:aZ)(c:Int->aZ->Option R):Option R:=
 c a b
def zu7{R:Type}(a:aZ)(b:Int->aZ->Option R):Option R:=
 b (-1:Int) a
def H2:Nat->au->Int->Int->aZ->Option (Sum (Int×aZ) aZ)
 |0,_,_,_,_=>none
 |k+1,v0,v1,v2,v3=>zu5 v0 v1 v2 v3 (fun a0 a1=>some (.inl (a0,a1))) (fun a0 a1 a2 a3=>H2 k a0 a1 a2 a3) (fun a0=>some (.inr a0))
def sj(a:au)(b:aZ):Option (Int×aZ):=
 LX a b (fun a0 a1 a2 a3=>(H2 ah a0 a1 a2 a3).bind fun e=>Sum.elim (fun(we:(Int×aZ))=>zu6 we.1 we.2 (fun a0 a1=>some (a0,a1))) (fun(we:aZ)=>zu7 we (fun a0 a1=>some (a0,a1))) e)
def LU{R:Type}(a:au)(b:aZ)(c:Bool->aZ->Option R):Option R:=
 (sj a b).bind fun r1=>c (decide (0<=r1.1)) r1.2
def pM(a:au)(b:aZ):Option (Bool×aZ):=
 LU a b (fun a0 a1=>some (a0,a1))
def LD{R:Type}(a:al)(b:Int)(c:aP)(d:Int->Option R):Option R:=
 zc b (List.length a.2.2.2.1) (bif(List.getD a.2.2.2.1 b.toNat (0,bs [],())).1<0 then d 1 else bif 16<(List.getD a.2.2.2.1 b.toNat (0,bs [],())).1 then d 1 else bif 0<=b then bif b<=(((List.length a.2.2.2.1):Nat):Int) then(pM (List.drop 0 (List.take b.toNat a.2.2.2.1)) (List.getD a.2.2.2.1 b.toNat (0,bs [],()))).bind fun r1=>bif r1.1 then d 10 else(cn c r1.2.2.1).bind fun r2=>d r2 else none else none)
def pI(a:al)(b:Int)(c:aP):Option Int:=
 LD a b c (fun a0=>some a0)
def Lw{R:Type}(a:al)(b:Int->Int->Int->Option R)(c:Int->Int->al->aP->Option R):Option R:=
 (kD a.1).bind fun r1=>bif !decide (r1.1=0) then b 1 1 0 else(gb a.1 (39:Int)).bind fun r2=>bif !r2.2 then b 9 1 1 else c ((List.length a.2.2.1):Int) 0 a r2.1
def HW{R:Type}(a b:Int)(c:al)(d:aP)(e:Int->Int->Int->al->aP->Option R)(f:Int->Int->al->aP->Option R)(g:al->aP->Option R):Option R:=
 bif b<a then(pJ c b).bind fun r3=>bif !decide (r3=0) then e r3 2 b c d else f a (zW zI (b+1)) c d else g c d
def zte{R:Type}(a b c:Int)(d:al)(e:aP)(f:Int->Int->Int->Option R):Option R:=
 f a b c
def Lx{R:Type}(a:al)(b:aP)(c:Bool->au->Int->Int->al->aP->Option R):Option R:=
 c false a.2.2.2.1 ((List.length a.2.2.2.1):Int) 0 a b
def HX{R:Type}(a:Bool)(b:au)(c d:Int)(e:al)(f:aP)(g:Int->Int->Int->Bool->al->Option R)(h:Bool->au->Int->Int->al->aP->Option R)(i:Bool->al->Option R):Option R:=
 bif d<c then zc d (List.length b) ((pI e d f).bind fun r4=>bif !decide (r4=0) then g r4 3 d a e else bif a then h true b c (zW zI (d+1)) e f else h (decide ((List.getD b d.toNat (0,bs [],())).1=0)) b c (zW zI (d+1)) e f) else i a e
def ztf{R:Type}(a b c:Int)(d:Bool)(e:al)(f:Int->Int->Int->Option R):Option R:=
 f a b c
def Ly{R:Type}(a:Bool)(b:al)(c:Int->Int->Int->Option R):Option R:=
 bif !a then c 15 3 ((List.length b.2.2.2.1):Int) else c 0 0 0
def Ak:Nat->Int->Int->al->aP->Option (Sum (Int×Int×Int×al×aP) (al×aP))
 |0,_,_,_,_=>none
 |k+1,v0,v1,v2,v3=>HW v0 v1 v2 v3 (fun a0 a1 a2 a3 a4=>some (.inl (a0,a1,a2,a3,a4))) (fun a0 a1 a2 a3=>Ak k a0 a1 a2 a3) (fun a0 a1=>some (.inr (a0,a1)))
def Al:Nat->Bool->au->Int->Int->al->aP->Option (Sum (Int×Int×Int×Bool×al) (Bool×al))
 |0,_,_,_,_,_,_=>none
 |k+1,v0,v1,v2,v3,v4,v5=>HX v0 v1 v2 v3 v4 v5 (fun a0 a1 a2 a3 a4=>some (.inl (a0,a1,a2,a3,a4))) (fun a0 a1 a2 a3 a4 a5=>Al k a0 a1 a2 a3 a4 a5) (fun a0 a1=>some (.inr (a0,a1)))
def pH(a:al):Option gS:=
 Lw a (fun a0 a1 a2=>some (a0,a1,a2)) (fun a0 a1 a2 a3=>(Ak ah a0 a1 a2 a3).bind fun e=>Sum.elim (fun(we:(Int×Int×Int×al×aP))=>zte we.1 we.2.1 we.2.2.1 we.2.2.2.1 we.2.2.2.2 (fun a0 a1 a2=>some (a0,a1,a2))) (fun(we:(al×aP))=>Lx we.1 we.2 (fun a0 a1 a2 a3 a4 a5=>(Al ah a0 a1 a2 a3 a4 a5).bind fun e=>Sum.elim (fun(we:(Int×Int×Int×Bool×al))=>ztf we.1 we.2.1 we.2.2.1 we.2.2.2.1 we.2.2.2.2 (fun a0 a1 a2=>some (a0,a1,a2))) (fun(we:(Bool×al))=>Ly we.1 we.2 (fun a0 a1 a2=>some (a0,a1,a2))) e)) e)
def zti{R:Type}(a:al)(b:Int)(c:(List Int)->Int->Int->al->Option R):Option R:=
 c ([b,0]:List Int) ((List.length ([b,(0:Int)]:List Int)):Int) 0 a
def ztj{R:Type}(a:(List Int))(b c:Int)(d:al)(e:Int->(List Int)->Int->Int->au->Int->Int->al->Option R)(f:Option R):Option R:=
 bif c<b then zc c (List.length a) (e (List.getD a c.toNat 0) a b c d.2.2.2.1 ((List.length d.2.2.2.1):Int) 0 d) else f
def ztk{R:Type}(a:ByteArray->Option R):Option R:=
 a (bs [])
def ztl{R:Type}(a:Int)(b:(List Int))(c d:Int)(e:au)(f g:Int)(h:al)(i:ByteArray->(List Int)->Int->Int->al->Option R)(j:Int->(List Int)->Int->Int->au->Int->Int->al->Option R)(l:(List Int)->Int->Int->al->Option R):Option R:=
 bif g<f then zc g (List.length e) (bif(List.getD e g.toNat (0,bs [],())).1=a then i (List.getD e g.toNat (0,bs [],())).2.1 b c d h else j a b c d e f (zW zI (g+1)) h) else l b c d h
def ztm{R:Type}(a:ByteArray)(b:(List Int))(c d:Int)(e:al)(f:ByteArray->Option R):Option R:=
 f a
def ztn{R:Type}(a:(List Int))(b c:Int)(d:al)(e:(List Int)->Int->Int->al->Option R):Option R:=
 e a b (zW zI (c+1)) d
def zto{R:Type}(a:ByteArray)(b:ByteArray->Option R):Option R:=
 b a
def LC:Nat->Int->(List Int)->Int->Int->au->Int->Int->al->Option (Sum (ByteArray×(List Int)×Int×Int×al) ((List Int)×Int×Int×al))
 |0,_,_,_,_,_,_,_,_=>none
 |k+1,v0,v1,v2,v3,v4,v5,v6,v7=>ztl v0 v1 v2 v3 v4 v5 v6 v7 (fun a0 a1 a2 a3 a4=>some (.inl (a0,a1,a2,a3,a4))) (fun a0 a1 a2 a3 a4 a5 a6 a7=>LC k a0 a1 a2 a3 a4 a5 a6 a7) (fun a0 a1 a2 a3=>some (.inr (a0,a1,a2,a3)))
def LB:Nat->(List Int)->Int->Int->al->Option (Sum Unit ByteArray)
 |0,_,_,_,_=>none
 |k+1,v0,v1,v2,v3=>ztj v0 v1 v2 v3 (fun a0 a1 a2 a3 a4 a5 a6 a7=>(LC ah a0 a1 a2 a3 a4 a5 a6 a7).bind fun e=>Sum.elim (fun(we:(ByteArray×(List Int)×Int×Int×al))=>ztm we.1 we.2.1 we.2.2.1 we.2.2.2.1 we.2.2.2.2 (fun a0=>some (.inr a0))) (fun(we:((List Int)×Int×Int×al))=>ztn we.1 we.2.1 we.2.2.1 we.2.2.2 (fun a0 a1 a2 a3=>LB k a0 a1 a2 a3)) e) (some (.inl ()))
def xj(a:al)(b:Int):Option ByteArray:=
 zti a b (fun a0 a1 a2 a3=>(LB ah a0 a1 a2 a3).bind fun e=>Sum.elim (fun(we:Unit)=>ztk (fun a0=>some a0)) (fun(we:ByteArray)=>zto we (fun a0=>some a0)) e)
def zt9{R:Type}(a:al)(b:aq)(c:aO)(d:aq->Bool->Option R)(e:(List Int)->Int->Int->al->aq->aO->aq->aq->Option R):Option R:=
 (xf b.1).bind fun r1=>bif !r1.2 then d (bs [],[],()) false else e a.2.2.1 ((List.length a.2.2.1):Int) 0 a b c (bs [],[],()) (r1.1,[],())
def zta{R:Type}(a:(List Int))(b c:Int)(d:al)(e:aq)(f:aO)(g h:aq)(i:(List Int)->Int->Int->al->aq->aO->aq->aq->Option R)(j:al->aO->aq->aq->Option R):Option R:=
 bif c<b then zc c (List.length a) ((xb e (List.getD a c.toNat (0:Int))).bind fun r2=>bif r2.2 then(nM h (List.getD a c.toNat 0) r2.1).bind fun r3=>i a b (zW zI (c+1)) d e f g r3 else i a b (zW zI (c+1)) d e f g h) else j d f g h
def ztb{R:Type}(a:al)(b:aO)(c d:aq)(e:aq->Bool->Option R):Option R:=
 (xj a b.1).bind fun r4=>(nM d 39 r4).bind fun r5=>e r5 true
def Lt:Nat->(List Int)->Int->Int->al->aq->aO->aq->aq->Option (al×aO×aq×aq)
 |0,_,_,_,_,_,_,_,_=>none
 |k+1,v0,v1,v2,v3,v4,v5,v6,v7=>zta v0 v1 v2 v3 v4 v5 v6 v7 (fun a0 a1 a2 a3 a4 a5 a6 a7=>Lt k a0 a1 a2 a3 a4 a5 a6 a7) (fun a0 a1 a2 a3=>some (a0,a1,a2,a3))
def xi(a:al)(b:aq)(c:aO):Option (aq×Bool):=
 zt9 a b c (fun a0 a1=>some (a0,a1)) (fun a0 a1 a2 a3 a4 a5 a6 a7=>(Lt ah a0 a1 a2 a3 a4 a5 a6 a7).bind fun e=>ztb e.1 e.2.1 e.2.2.1 e.2.2.2 (fun a0 a1=>some (a0,a1)))
def zum{R:Type}(a:ae)(b:ByteArray)(c:ByteArray->Int->Int->Option R):Option R:=
 bif a.1=2 then(Q2 (4:Int)).bind fun r1=>bif(b.size:Int)<r1 then c (bs []) 0 2 else bif 0<=r1 then bif r1<=(b.size:Int) then bif a.1=2 then(Q0 (b.extract 0 r1.toNat) (4:Int)).bind fun r2=>(ia r2.1).bind fun r3=>bif !r3.2 then c (bs []) 0 7 else bif !decide (r3.1=a.2.1) then c (bs []) 0 7 else c r2.1 r1 0 else(ia (b.extract 0 r1.toNat)).bind fun r4=>bif !r4.2 then c (bs []) 0 7 else bif !decide (r4.1=a.2.1) then c (bs []) 0 7 else c (b.extract 0 r1.toNat) r1 0 else none else none else bif(b.size:Int)<4 then c (bs []) 0 2 else bif 4<=(b.size:Int) then bif a.1=2 then(Q0 (b.extract 0 ((4:Int)).toNat) (4:Int)).bind fun r5=>(ia r5.1).bind fun r6=>bif !r6.2 then c (bs []) 0 7 else bif !decide (r6.1=a.2.1) then c (bs []) 0 7 else c r5.1 4 0 else(ia (b.extract 0 ((4:Int)).toNat)).bind fun r7=>bif !r7.2 then c (bs []) 0 7 else bif !decide (r7.1=a.2.1) then c (bs []) 0 7 else c (b.extract 0 ((4:Int)).toNat) 4 0 else none
def xp(a:ae)(b:ByteArray):Option OT:=
 zum a b (fun a0 a1 a2=>some (a0,a1,a2))
def zui{R:Type}(a:ae)(b:ByteArray)(c:aq->aO->Option R)(d:ByteArray->Int->Int->ae->aq->aO->aq->aO->Option R):Option R:=
 (kD a).bind fun r1=>bif !decide (r1.1=0) then c (bs [],[],()) (1,(-1:Int),()) else(xp a b).bind fun r2=>bif !decide (r2.2.2=0) then c (bs [],[],()) (r2.2.2,0,()) else(Q5 a.1 b r2.2.1).bind fun r3=>bif !decide (r3.2.2=0) then c (r2.1,[],()) (r3.2.2,1,()) else(IC r3.1 (0:Int)).bind fun r4=>d b r3.2.1 r4 a (bs [],[],()) (0,0,()) (r2.1,[],()) r3.1
def zuj{R:Type}(a:ByteArray)(b c:Int)(d:ae)(e:aq)(f:aO)(g:aq)(h:aO)(i:ByteArray->Int->aq->aO->aq->Option R)(j:ByteArray->Int->Int->ae->aq->aO->aq->aO->Option R)(l:ByteArray->Int->aq->aO->aq->Option R):Option R:=
 bif !decide (c=0) then(gb d c).bind fun r5=>bif !r5.2 then i a b g (9,c,()) g else(Oz d.1 r5.1 a b).bind fun r6=>bif !decide (r6.2.2=0) then i a b g (r6.2.2,c,()) g else bif(List.length g.2.1+List.length ([(c,r6.1,())]:List aZ))*24<=140737488355328 then(IC h c).bind fun r7=>j a r6.2.1 r7 d e f (g.1,g.2.1++([(c,r6.1,())]:List aZ),()) h else none else l a b e f g
def zuk{R:Type}(a:ByteArray)(b:Int)(c:aq)(d:aO)(e:aq)(f:aq->aO->Option R):Option R:=
 f c d
def zul{R:Type}(a:ByteArray)(b:Int)(c:aq)(d:aO)(e:aq)(f:aq->aO->Option R):Option R:=
 bif b<(a.size:Int) then f e (12,129,()) else f e (0,0,())
def L7:Nat->ByteArray->Int->Int->ae->aq->aO->aq->aO->Option (Sum nV nV)
 |0,_,_,_,_,_,_,_,_=>none
 |k+1,v0,v1,v2,v3,v4,v5,v6,v7=>zuj v0 v1 v2 v3 v4 v5 v6 v7 (fun a0 a1 a2 a3 a4=>some (.inl (a0,a1,a2,a3,a4))) (fun a0 a1 a2 a3 a4 a5 a6 a7=>L7 k a0 a1 a2 a3 a4 a5 a6 a7) (fun a0 a1 a2 a3 a4=>some (.inr (a0,a1,a2,a3,a4)))
def xn(a:ae)(b:ByteArray):Option (aq×aO):=
 zui a b (fun a0 a1=>some (a0,a1)) (fun a0 a1 a2 a3 a4 a5 a6 a7=>(L7 ah a0 a1 a2 a3 a4 a5 a6 a7).bind fun e=>Sum.elim (fun(we:nV)=>zuk we.1 we.2.1 we.2.2.1 we.2.2.2.1 we.2.2.2.2 (fun a0 a1=>some (a0,a1))) (fun(we:nV)=>zul we.1 we.2.1 we.2.2.1 we.2.2.2.1 we.2.2.2.2 (fun a0 a1=>some (a0,a1))) e)
def zv2{R:Type}(a:Int)(b:ByteArray)(c:ByteArray->Bool->Option R):Option R:=
 (lL b).bind fun r1=>bif !r1 then c (bs []) false else bif a=1 then c b true else bif a=2 then(Q1 b).bind fun r2=>c r2.1 r2.2 else c (bs []) false
def xu(a:Int)(b:ByteArray):Option ib:=
 zv2 a b (fun a0 a1=>some (a0,a1))
def zv1{R:Type}(a b:ByteArray)(c:ByteArray->Option R):Option R:=
 (z26 b a).bind fun r1=>c r1.2
def pR(a b:ByteArray):Option ByteArray:=
 zv1 a b (fun a0=>some a0)
def zuy{R:Type}(a:ae)(b:aq)(c:ByteArray->aO->Option R)(d:au->Int->Int->ae->aO->ByteArray->Option R):Option R:=
 (sf a b).bind fun r1=>bif !decide (r1.1=0) then c (bs []) r1 else(xu a.1 b.1).bind fun r2=>(pR r2.1 (bs [])).bind fun r3=>(xc b).bind fun r4=>(Q6 a.1 r4).bind fun r5=>(pR r5.1 r3).bind fun r6=>d b.2.1 ((List.length b.2.1):Int) 0 a (0,0,()) r6
def zuz{R:Type}(a:au)(b c:Int)(d:ae)(e:aO)(f:ByteArray)(g:au->Int->Int->ae->aO->ByteArray->Option R)(h:aO->ByteArray->Option R):Option R:=
 bif c<b then zc c (List.length a) ((gb d (List.getD a c.toNat (0,bs [],())).1).bind fun r7=>(OA d.1 r7.1 (List.getD a c.toNat (0,bs [],())).2.1).bind fun r8=>(pR r8.1 f).bind fun r9=>g a b (zW zI (c+1)) d e r9) else h e f
def zv0{R:Type}(a:aO)(b:ByteArray)(c:ByteArray->aO->Option R):Option R:=
 (z47 b).bind fun j9=>c j9.1 (0,0,())
def Mi:Nat->au->Int->Int->ae->aO->ByteArray->Option (aO×ByteArray)
 |0,_,_,_,_,_,_=>none
 |k+1,v0,v1,v2,v3,v4,v5=>zuz v0 v1 v2 v3 v4 v5 (fun a0 a1 a2 a3 a4 a5=>Mi k a0 a1 a2 a3 a4 a5) (fun a0 a1=>some (a0,a1))
def sn(a:ae)(b:aq):Option (ByteArray×aO):=
 zuy a b (fun a0 a1=>some (a0,a1)) (fun a0 a1 a2 a3 a4 a5=>(Mi ah a0 a1 a2 a3 a4 a5).bind fun e=>zv0 e.1 e.2 (fun a0 a1=>some (a0,a1)))
def LI{R:Type}(a:aB)(b:Int->Int->Int->Option R)(c:kF->Int->aB->Option R):Option R:=
 bif a.2.1<1 then b 5 2 0 else bif 65535<a.2.1 then b 5 2 0 else c a.1 0 a
def BC{R:Type}(a:kF)(b:Int)(c:aB)(d:Int->Int->Int->Option R)(e:kF->Int->aB->Option R)(f:Option R):Option R:=
 bif b<2 then zc b 2 ((pH (List.getD a b.toNat ((0,0,[],()),([],[],()),[],[],()))).bind fun r1=>bif !decide (r1.1=0) then d r1.1 b 1 else zc (zW zI (1-b)) 2 ((nQ (List.getD a b.toNat ((0,0,[],()),([],[],()),[],[],())).2.1 (List.getD a b.toNat ((0,0,[],()),([],[],()),[],[],())).1 (List.getD c.1 (zW zI (1-b)).toNat ((0,0,[],()),([],[],()),[],[],())).1).bind fun r2=>bif !decide (r2.1=0) then d r2.1 b 2 else e a (zW zI (b+1)) c)) else f
def ztq{R:Type}(a b c:Int)(d:Int->Int->Int->Option R):Option R:=
 d a b c
def ztr{R:Type}(a:Int->Int->Int->Option R):Option R:=
 a 0 0 0
def Am:Nat->kF->Int->aB->Option (Sum gS Unit)
 |0,_,_,_=>none
 |k+1,v0,v1,v2=>BC v0 v1 v2 (fun a0 a1 a2=>some (.inl (a0,a1,a2))) (fun a0 a1 a2=>Am k a0 a1 a2) (some (.inr ()))
def nP(a:aB):Option gS:=
 LI a (fun a0 a1 a2=>some (a0,a1,a2)) (fun a0 a1 a2=>(Am ah a0 a1 a2).bind fun e=>Sum.elim (fun(we:gS)=>ztq we.1 we.2.1 we.2.2 (fun a0 a1 a2=>some (a0,a1,a2))) (fun(we:Unit)=>ztr (fun a0 a1 a2=>some (a0,a1,a2))) e)
def ztt{R:Type}(a:aq)(b:aO)(c:al)(d:aB)(e:Int->ByteArray->Option R):Option R:=
 (xi c a b).bind fun r1=>bif !r1.2 then e 3 (bs []) else(sn c.1 r1.1).bind fun r2=>bif r2.1=bs [] then e 3 (bs []) else bif d.2.1<(r2.1.size:Int) then e 3 (bs []) else e 2 r2.1
def pK(a:aq)(b:aO)(c:al)(d:aB):Option Zt3:=
 ztt a b c d (fun a0 a1=>some (a0,a1))
def zts{R:Type}(a:aB)(b:Int)(c:ByteArray)(d:Int->ByteArray->Option R):Option R:=
 (nP a).bind fun r1=>bif !decide (r1.1=0) then d 0 (bs []) else bif b<0 then d 0 (bs []) else bif 1<b then d 0 (bs []) else zc b 2 (zc (zW zI (1-b)) 2 ((xn (List.getD a.1 b.toNat ((0,0,[],()),([],[],()),[],[],())).1 c).bind fun r2=>bif !decide (r2.2.1=0) then(pK r2.1 r2.2 (List.getD a.1 b.toNat ((0,0,[],()),([],[],()),[],[],())) a).bind fun r3=>d r3.1 r3.2 else(xv (List.getD a.1 b.toNat ((0,0,[],()),([],[],()),[],[],())).2.1 (List.getD a.1 b.toNat ((0,0,[],()),([],[],()),[],[],())).1 (List.getD a.1 (zW zI (1-b)).toNat ((0,0,[],()),([],[],()),[],[],())).1 r2.1).bind fun r4=>bif !decide (r4.2.1=0) then(pK r2.1 r4.2 (List.getD a.1 b.toNat ((0,0,[],()),([],[],()),[],[],())) a).bind fun r5=>d r5.1 r5.2 else(sn (List.getD a.1 (zW zI (1-b)).toNat ((0,0,[],()),([],[],()),[],[],())).1 r4.1).bind fun r6=>bif a.2.1<(r6.1.size:Int) then(pK r2.1 (5,129,()) (List.getD a.1 b.toNat ((0,0,[],()),([],[],()),[],[],())) a).bind fun r7=>d r7.1 r7.2 else d 1 r6.1))
def xk(a:aB)(b:Int)(c:ByteArray):Option Zt3:=
 zts a b c (fun a0 a1=>some (a0,a1))
def N4{R:Type}(a:al)(b:bD->bD->Int->Int->al->al->Option R):Option R:=
 bif List.length a.1.2.2.1*40<=140737488355328 then bif List.length a.2.1.1*32<=140737488355328 then bif 0<=((List.length a.2.1.2.1):Int) then bif((List.length a.2.1.2.1):Int)*64<=140737488355328 then b [] a.2.1.2.1 ((List.length a.2.1.2.1):Int) 0 ((a.1.1,a.1.2.1,a.1.2.2.1,()),(a.2.1.1,a.2.1.2.1,()),a.2.2.1,a.2.2.2.1,()) ((0,0,[],()),([],[],()),[],[],()) else none else none else none else none
def yN{R:Type}(a b:bD)(c d:Int)(e f:al)(g:bD->bD->Int->Int->al->al->Option R)(h:bD->al->al->Option R):Option R:=
 bif d<c then zc d (List.length b) (bif List.length (List.getD b d.toNat ((0:Int),(0:Int),(0:Int),bs [],([]:List cY),())).2.2.2.2.1*32<=140737488355328 then bif(List.length a+List.length ([((List.getD b d.toNat ((0:Int),(0:Int),(0:Int),bs [],([]:List cY),())).1,(List.getD b d.toNat ((0:Int),(0:Int),(0:Int),bs [],([]:List cY),())).2.1,(List.getD b d.toNat ((0:Int),(0:Int),(0:Int),bs [],([]:List cY),())).2.2.1,(List.getD b d.toNat ((0:Int),(0:Int),(0:Int),bs [],([]:List cY),())).2.2.2.1,(List.getD b d.toNat ((0:Int),(0:Int),(0:Int),bs [],([]:List cY),())).2.2.2.2.1,())]:List aD))*64<=140737488355328 then g (a++([((List.getD b d.toNat (0,0,0,bs [],[],())).1,(List.getD b d.toNat (0,0,0,bs [],[],())).2.1,(List.getD b d.toNat (0,0,0,bs [],[],())).2.2.1,(List.getD b d.toNat (0,0,0,bs [],[],())).2.2.2.1,(List.getD b d.toNat (0,0,0,bs [],[],())).2.2.2.2.1,())]:List aD)) b c (zW zI (d+1)) e f else none else none) else h a e f
def N5{R:Type}(a:bD)(b c:al)(d:al->Option R):Option R:=
 bif List.length b.2.2.1*8<=140737488355328 then bif List.length b.2.2.2.1*24<=140737488355328 then d (b.1,(b.2.1.1,a,()),b.2.2.1,b.2.2.2.1,()) else none else none
def Ik:Nat->bD->bD->Int->Int->al->al->Option (bD×al×al)
 |0,_,_,_,_,_,_=>none
 |k+1,v0,v1,v2,v3,v4,v5=>yN v0 v1 v2 v3 v4 v5 (fun a0 a1 a2 a3 a4 a5=>Ik k a0 a1 a2 a3 a4 a5) (fun a0 a1 a2=>some (a0,a1,a2))
def CE(a:al):Option al:=
 N4 a (fun a0 a1 a2 a3 a4 a5=>(Ik ah a0 a1 a2 a3 a4 a5).bind fun e=>N5 e.1 e.2.1 e.2.2 (fun a0=>some a0))
def N1{R:Type}(a:aB)(b:Int->Option R)(c:Int->aB->(aB×(Option ak×Option ak)×Int)->Option R):Option R:=
 (nP a).bind fun r1=>bif !decide (r1.1=0) then b 1 else c 0 a (a,((none,none),0))
def BP{R:Type}(a:Int)(b:aB)(c:(aB×(Option ak×Option ak)×Int))(d:Int->aB->(aB×(Option ak×Option ak)×Int)->Option R)(e:(aB×(Option ak×Option ak)×Int)->Option R):Option R:=
 bif a<2 then zc a 2 ((CE (List.getD b.1 a.toNat ((0,0,[],()),([],[],()),[],[],()))).bind fun r2=>zc a 2 ((Cw b.2.1).bind fun r3=>Sum.elim (fun(oO:Int)=>zc a 2 (d (zW zI (a+1)) b ((List.set c.1.1 a.toNat r2,c.1.2.1,()),(fE a.toNat none c.2.1,c.2.2)))) (fun(oO:qa)=>zc a 2 (d (zW zI (a+1)) b ((List.set c.1.1 a.toNat r2,c.1.2.1,()),(fE a.toNat (some oO.2) c.2.1,c.2.2)))) r3)) else e c
def yM{R:Type}(a:(aB×(Option ak×Option ak)×Int))(b:Int->(aB×(Option ak×Option ak)×Int)->Option R):Option R:=
 b 0 a
def Az:Nat->Int->aB->(aB×(Option ak×Option ak)×Int)->Option (aB×(Option ak×Option ak)×Int)
 |0,_,_,_=>none
 |k+1,v0,v1,v2=>BP v0 v1 v2 (fun a0 a1 a2=>Az k a0 a1 a2) (fun a0=>some a0)
def uE(a:aB):Option (Sum Int (Int×(aB×(Option ak×Option ak)×Int))):=
 N1 a (fun a0=>some (.inl a0)) (fun a0 a1 a2=>(Az ah a0 a1 a2).bind fun e=>yM e (fun a0 a1=>some (.inr (a0,a1))))
def N2{R:Type}(a:Int)(b:Bool->Option R):Option R:=
 bif a=0 then b true else b (decide (a=1))
def xA(a:Int):Option Bool:=
 N2 a (fun a0=>some a0)
def yL{R:Type}(a:(aB×(Option ak×Option ak)×Int))(b:Int)(c:ByteArray)(d:jP->(aB×(Option ak×Option ak)×Int)->Option R):Option R:=
 (xk a.1 b c).bind fun r1=>bif r1.1=3 then d (b,r1.1,bs [],zW zI (a.2.2+1),()) (a.1,(a.2.1,zW zI (a.2.2+1))) else bif r1.1=1 then(ID r1.2).bind fun r2=>d (zW zI (1-b),r1.1,r2.1,a.2.2,()) a else(ID r1.2).bind fun r3=>d (b,r1.1,r3.1,a.2.2,()) a
def OO(a:(aB×(Option ak×Option ak)×Int))(b:Int)(c:ByteArray):Option (jP×(aB×(Option ak×Option ak)×Int)):=
 yL a b c (fun a0 a1=>some (a0,a1))
def yH{R:Type}(a:(aB×(Option ak×Option ak)×Int))(b:aZ)(c:bZ->(aB×(Option ak×Option ak)×Int)->Option R)(d:bZ->Bool->(List ByteArray)->Int->Int->(aB×(Option ak×Option ak)×Int)->aZ->Option R):Option R:=
 (xA b.1).bind fun r1=>bif !r1 then c [] a else zc b.1 2 ((getM b.1.toNat a.2.1).bind fun m2=>(OJ m2 b.2.1).bind fun r3=>d [] r3.2.1 r3.1 ((List.length r3.1):Int) 0 (a.1,(fE b.1.toNat (some r3.2.2) a.2.1,a.2.2)) b)
def yI{R:Type}(a:bZ)(b:Bool)(c:(List ByteArray))(d e:Int)(f:(aB×(Option ak×Option ak)×Int))(g:aZ)(h:bZ->Bool->(List ByteArray)->Int->Int->(aB×(Option ak×Option ak)×Int)->aZ->Option R)(i:bZ->Bool->(aB×(Option ak×Option ak)×Int)->aZ->Option R):Option R:=
 bif e<d then zc e (List.length c) ((OO f g.1 (List.getD c e.toNat (bs []))).bind fun r4=>bif(List.length a+List.length ([r4.1]:List jP))*40<=140737488355328 then h (a++([r4.1]:List jP)) b c d (zW zI (e+1)) r4.2 g else none) else i a b f g
def yJ{R:Type}(a:bZ)(b:Bool)(c:(aB×(Option ak×Option ak)×Int))(d:aZ)(e:bZ->(aB×(Option ak×Option ak)×Int)->Option R):Option R:=
 bif b then bif(List.length a+List.length ([(d.1,(4:Int),bs [],c.2.2,())]:List jP))*40<=140737488355328 then e (a++([(d.1,4,bs [],c.2.2,())]:List jP)) c else none else e a c
def NV:Nat->bZ->Bool->(List ByteArray)->Int->Int->(aB×(Option ak×Option ak)×Int)->aZ->Option (bZ×Bool×(aB×(Option ak×Option ak)×Int)×aZ)
 |0,_,_,_,_,_,_,_=>none
 |k+1,v0,v1,v2,v3,v4,v5,v6=>yI v0 v1 v2 v3 v4 v5 v6 (fun a0 a1 a2 a3 a4 a5 a6=>NV k a0 a1 a2 a3 a4 a5 a6) (fun a0 a1 a2 a3=>some (a0,a1,a2,a3))
def ON(a:(aB×(Option ak×Option ak)×Int))(b:aZ):Option (bZ×(aB×(Option ak×Option ak)×Int)):=
 yH a b (fun a0 a1=>some (a0,a1)) (fun a0 a1 a2 a3 a4 a5 a6=>(NV ah a0 a1 a2 a3 a4 a5 a6).bind fun e=>yJ e.1 e.2.1 e.2.2.1 e.2.2.2 (fun a0 a1=>some (a0,a1)))
def z105{R:Type}(a:(aB×(Option ak×Option ak)×Int))(b:au)(c:bZ->au->Int->Int->(aB×(Option ak×Option ak)×Int)->Option R):Option R:=
 c [] b ((List.length b):Int) 0 a
def yK{R:Type}(a:bZ)(b:au)(c d:Int)(e:(aB×(Option ak×Option ak)×Int))(f:bZ->au->Int->Int->(aB×(Option ak×Option ak)×Int)->Option R)(g:bZ->(aB×(Option ak×Option ak)×Int)->Option R):Option R:=
 bif d<c then zc d (List.length b) ((ON e (List.getD b d.toNat (0,bs [],()))).bind fun r1=>bif(List.length a+List.length r1.1)*40<=140737488355328 then f (a++r1.1) b c (zW zI (d+1)) r1.2 else none) else g a e
def z107{R:Type}(a:bZ)(b:(aB×(Option ak×Option ak)×Int))(c:bZ->(aB×(Option ak×Option ak)×Int)->Option R):Option R:=
 c a b
def NZ:Nat->bZ->au->Int->Int->(aB×(Option ak×Option ak)×Int)->Option (bZ×(aB×(Option ak×Option ak)×Int))
 |0,_,_,_,_,_=>none
 |k+1,v0,v1,v2,v3,v4=>yK v0 v1 v2 v3 v4 (fun a0 a1 a2 a3 a4=>NZ k a0 a1 a2 a3 a4) (fun a0 a1=>some (a0,a1))
def IE(a:(aB×(Option ak×Option ak)×Int))(b:au):Option (bZ×(aB×(Option ak×Option ak)×Int)):=
 z105 a b (fun a0 a1 a2 a3 a4=>(NZ ah a0 a1 a2 a3 a4).bind fun e=>z107 e.1 e.2 (fun a0 a1=>some (a0,a1)))
def yG{R:Type}(a:(aB×(Option ak×Option ak)×Int))(b:Int->(aB×(Option ak×Option ak)×Int)->Option R):Option R:=
 b a.2.2 a
def AH(a:(aB×(Option ak×Option ak)×Int)):Option (Int×(aB×(Option ak×Option ak)×Int)):=
 yG a (fun a0 a1=>some (a0,a1))
def NT{R:Type}(a:(aB×(Option ak×Option ak)×Int))(b:Int)(c:Bool->(aB×(Option ak×Option ak)×Int)->Option R):Option R:=
 (xA b).bind fun r1=>bif r1 then zc b 2 ((getM b.toNat a.2.1).bind fun m2=>(OI m2).bind fun r3=>c r3.1 (a.1,(fE b.toNat (some r3.2) a.2.1,a.2.2))) else c false a
def ss(a:(aB×(Option ak×Option ak)×Int))(b:Int):Option (Bool×(aB×(Option ak×Option ak)×Int)):=
 NT a b (fun a0 a1=>some (a0,a1))
def NW{R:Type}(a:(aB×(Option ak×Option ak)×Int))(b:Int)(c:Int->(aB×(Option ak×Option ak)×Int)->Option R):Option R:=
 (xA b).bind fun r1=>bif !r1 then c 0 a else zc b 2 ((getM b.toNat a.2.1).bind fun m2=>(OK m2).bind fun r3=>c r3.1 (a.1,(fE b.toNat (some r3.2) a.2.1,a.2.2)))
def xy(a:(aB×(Option ak×Option ak)×Int))(b:Int):Option (Int×(aB×(Option ak×Option ak)×Int)):=
 NW a b (fun a0 a1=>some (a0,a1))
def J4{R:Type}(a:(List Int))(b:Int)(c:(List Int)->Int->Int->Option R):Option R:=
 c a b 0
def HB{R:Type}(a:(List Int))(b c:Int)(d:Bool->Option R)(e:(List Int)->Int->Int->Option R)(f:Option R):Option R:=
 bif c<((List.length a):Int) then zc c (List.length a) (bif List.getD a c.toNat 0=b then d true else e a b (zW zI (c+1))) else f
def zpv{R:Type}(a:Bool)(b:Bool->Option R):Option R:=
 b a
def zpw{R:Type}(a:Bool->Option R):Option R:=
 a false
def zY:Nat->(List Int)->Int->Int->Option (Sum Bool Unit)
 |0,_,_,_=>none
 |k+1,v0,v1,v2=>HB v0 v1 v2 (fun a0=>some (.inl a0)) (fun a0 a1 a2=>zY k a0 a1 a2) (some (.inr ()))
def pc(a:(List Int))(b:Int):Option Bool:=
 J4 a b (fun a0 a1 a2=>(zY ah a0 a1 a2).bind fun e=>Sum.elim (fun(we:Bool)=>zpv we (fun a0=>some a0)) (fun(we:Unit)=>zpw (fun a0=>some a0)) e)
def Oh{R:Type}(a b:Int)(c:Bool->Option R):Option R:=
 bif 48<=b then bif 65<=b then bif b<=90 then bif a=1 then c (decide (b<=57)) else bif a=2 then c true else bif a=3 then bif b<=57 then c true else c true else bif a=4 then bif 32<=b then c (decide (b<=126)) else c false else bif a=5 then c true else c (decide (a=6)) else bif 97<=b then bif a=1 then c (decide (b<=57)) else bif a=2 then c (decide (b<=122)) else bif a=3 then bif b<=57 then c true else c (decide (b<=122)) else bif a=4 then bif 32<=b then c (decide (b<=126)) else c false else bif a=5 then c true else c (decide (a=6)) else bif a=1 then c (decide (b<=57)) else bif a=2 then c false else bif a=3 then bif b<=57 then c true else c false else bif a=4 then bif 32<=b then c (decide (b<=126)) else c false else bif a=5 then c true else c (decide (a=6)) else bif 97<=b then bif a=1 then c (decide (b<=57)) else bif a=2 then c (decide (b<=122)) else bif a=3 then bif b<=57 then c true else c (decide (b<=122)) else bif a=4 then bif 32<=b then c (decide (b<=126)) else c false else bif a=5 then c true else c (decide (a=6)) else bif a=1 then c (decide (b<=57)) else bif a=2 then c false else bif a=3 then bif b<=57 then c true else c false else bif a=4 then bif 32<=b then c (decide (b<=126)) else c false else bif a=5 then c true else c (decide (a=6)) else bif 65<=b then bif b<=90 then bif a=1 then c false else bif a=2 then c true else bif a=3 then c true else bif a=4 then bif 32<=b then c (decide (b<=126)) else c false else bif a=5 then c true else c (decide (a=6)) else bif 97<=b then bif a=1 then c false else bif a=2 then c (decide (b<=122)) else bif a=3 then c (decide (b<=122)) else bif a=4 then bif 32<=b then c (decide (b<=126)) else c false else bif a=5 then c true else c (decide (a=6)) else bif a=1 then c false else bif a=2 then c false else bif a=3 then c false else bif a=4 then bif 32<=b then c (decide (b<=126)) else c false else bif a=5 then c true else c (decide (a=6)) else bif 97<=b then bif a=1 then c false else bif a=2 then c (decide (b<=122)) else bif a=3 then c (decide (b<=122)) else bif a=4 then bif 32<=b then c (decide (b<=126)) else c false else bif a=5 then c true else c (decide (a=6)) else bif a=1 then c false else bif a=2 then c false else bif a=3 then c false else bif a=4 then bif 32<=b then c (decide (b<=126)) else c false else bif a=5 then c true else c (decide (a=6))
def uH(a b:Int):Option Bool:=
 Oh a b (fun a0=>some a0)
def Og{R:Type}(a:Int)(b:ByteArray)(c:Int->ByteArray->Int->Option R):Option R:=
 c a b 0
def Il{R:Type}(a:Int)(b:ByteArray)(c:Int)(d:Int->Option R)(e:Int->ByteArray->Int->Option R)(f:Option R):Option R:=
 bif c<(b.size:Int) then zc c b.size ((uH a (zd b c.toNat)).bind fun r1=>bif !r1 then d c else e a b (zW zI (c+1))) else f
def yU{R:Type}(a:Int)(b:Int->Option R):Option R:=
 b a
def yV{R:Type}(a:Int->Option R):Option R:=
 a (-1:Int)
def AA:Nat->Int->ByteArray->Int->Option (Sum Int Unit)
 |0,_,_,_=>none
 |k+1,v0,v1,v2=>Il v0 v1 v2 (fun a0=>some (.inl a0)) (fun a0 a1 a2=>AA k a0 a1 a2) (some (.inr ()))
def CN(a:Int)(b:ByteArray):Option Int:=
 Og a b (fun a0 a1 a2=>(AA ah a0 a1 a2).bind fun e=>Sum.elim (fun(we:Int)=>yU we (fun a0=>some a0)) (fun(we:Unit)=>yV (fun a0=>some a0)) e)
def J2{R:Type}(a b:Int)(c:Bool->Option R)(d:Int->Int->Int->Option R):Option R:=
 bif a<1 then c false else bif 6<a then c false else bif b<1 then c false else bif 6<b then c false else d a b 0
def zpr{R:Type}(a b c:Int)(d:Bool->Option R)(e:Int->Int->Int->Option R)(f:Option R):Option R:=
 bif c<256 then(uH b (zW zU c)).bind fun r1=>bif r1 then(uH a (zW zU c)).bind fun r2=>bif !r2 then d false else e a b (zW zI (c+1)) else e a b (zW zI (c+1)) else f
def zps{R:Type}(a:Bool)(b:Bool->Option R):Option R:=
 b a
def zpt{R:Type}(a:Bool->Option R):Option R:=
 a true
def J1:Nat->Int->Int->Int->Option (Sum Bool Unit)
 |0,_,_,_=>none
 |k+1,v0,v1,v2=>zpr v0 v1 v2 (fun a0=>some (.inl a0)) (fun a0 a1 a2=>J1 k a0 a1 a2) (some (.inr ()))
def nD(a b:Int):Option Bool:=
 J2 a b (fun a0=>some a0) (fun a0 a1 a2=>(J1 ah a0 a1 a2).bind fun e=>Sum.elim (fun(we:Bool)=>zps we (fun a0=>some a0)) (fun(we:Unit)=>zpt (fun a0=>some a0)) e)
def zpx{R:Type}(a:Int)(b:Int->Option R):Option R:=
 bif a=0 then b 0 else bif Int.tmod (zW zU (Int.tdiv a 32)) 2=1 then b 0 else bif Int.tmod a 32=31 then b 2 else b 1
def kr(a:Int):Option Int:=
 zpx a (fun a0=>some a0)
def HC{R:Type}(a:ByteArray)(b:Int)(c:Int->Int->Int->Option R):Option R:=
 bif b<0 then c 0 0 1 else bif(a.size:Int)<b then c 0 0 1 else bif b=(a.size:Int) then c 0 0 2 else zc b a.size ((kr (zd a b.toNat)).bind fun r1=>bif r1=0 then c 0 0 13 else bif r1=1 then zc b a.size (c (zW zI (zd a b.toNat)) (zW zI (b+1)) 0) else bif zW zI ((a.size:Int)-b)<2 then c 0 0 2 else zc (zW zI (b+1)) a.size (bif zd a (zW zI (b+(1:Int))).toNat=0 then c 0 0 13 else zc (zW zI (b+1)) a.size (bif 127<zd a (zW zI (b+(1:Int))).toNat then c 0 0 13 else zc b a.size (zc (zW zI (b+1)) a.size (c (zW zI (zW zI (256*zW zI (zd a b.toNat))+zW zI (zd a (zW zI (b+(1:Int))).toNat))) (zW zI (b+2)) 0)))))
def ku(a:ByteArray)(b:Int):Option gS:=
 HC a b (fun a0 a1 a2=>some (a0,a1,a2))
def HD{R:Type}(a:ByteArray)(b:Int)(c:Int->Int->Int->Option R):Option R:=
 bif b<0 then c 0 0 1 else bif(a.size:Int)<b then c 0 0 1 else bif b=(a.size:Int) then c 0 0 2 else zc b a.size (bif zW zI (zd a b.toNat)<128 then c (zW zI (zd a b.toNat)) (zW zI (b+1)) 0 else bif !decide (zW zI (zd a b.toNat)=129) then bif !decide (zW zI (zd a b.toNat)=130) then c 0 0 14 else bif zW zI ((a.size:Int)-b)<zW zI (zW zI (zd a b.toNat)-127) then c 0 0 2 else bif zW zI (zd a b.toNat)=129 then zc (zW zI (b+1)) a.size (bif zd a (zW zI (b+(1:Int))).toNat<128 then c 0 0 14 else zc (zW zI (b+1)) a.size (c (zW zI (zd a (zW zI (b+(1:Int))).toNat)) (zW zI (b+2)) 0)) else zc (zW zI (b+1)) a.size (bif zd a (zW zI (b+(1:Int))).toNat=0 then c 0 0 14 else zc (zW zI (b+1)) a.size (zc (zW zI (b+2)) a.size (c (zW zI (zW zI (256*zW zI (zd a (zW zI (b+(1:Int))).toNat))+zW zI (zd a (zW zI (b+(2:Int))).toNat))) (zW zI (b+3)) 0))) else bif zW zI ((a.size:Int)-b)<zW zI (zW zI (zd a b.toNat)-127) then c 0 0 2 else bif zW zI (zd a b.toNat)=129 then zc (zW zI (b+1)) a.size (bif zd a (zW zI (b+(1:Int))).toNat<128 then c 0 0 14 else zc (zW zI (b+1)) a.size (c (zW zI (zd a (zW zI (b+(1:Int))).toNat)) (zW zI (b+2)) 0)) else zc (zW zI (b+1)) a.size (bif zd a (zW zI (b+(1:Int))).toNat=0 then c 0 0 14 else zc (zW zI (b+1)) a.size (zc (zW zI (b+2)) a.size (c (zW zI (zW zI (256*zW zI (zd a (zW zI (b+(1:Int))).toNat))+zW zI (zd a (zW zI (b+(2:Int))).toNat))) (zW zI (b+3)) 0))))
def kv(a:ByteArray)(b:Int):Option gS:=
 HD a b (fun a0 a1 a2=>some (a0,a1,a2))
def J7{R:Type}(a:au)(b c:Int)(d:au->Int->Int->Int->Option R):Option R:=
 d a b c 0
def HG{R:Type}(a:au)(b c d:Int)(e:Bool->Option R)(f:au->Int->Int->Int->Option R)(g:Option R):Option R:=
 bif d<b then zc d (List.length a) (bif(List.getD a d.toNat (0,bs [],())).1=c then e true else f a b c (zW zI (d+1))) else g
def zq2{R:Type}(a:Bool)(b:Bool->Option R):Option R:=
 b a
def zq3{R:Type}(a:Bool->Option R):Option R:=
 a false
def zZ:Nat->au->Int->Int->Int->Option (Sum Bool Unit)
 |0,_,_,_,_=>none
 |k+1,v0,v1,v2,v3=>HG v0 v1 v2 v3 (fun a0=>some (.inl a0)) (fun a0 a1 a2 a3=>zZ k a0 a1 a2 a3) (some (.inr ()))
def pd(a:au)(b c:Int):Option Bool:=
 J7 a b c (fun a0 a1 a2 a3=>(zZ ah a0 a1 a2 a3).bind fun e=>Sum.elim (fun(we:Bool)=>zq2 we (fun a0=>some a0)) (fun(we:Unit)=>zq3 (fun a0=>some a0)) e)
def HE{R:Type}(a:ByteArray)(b:ByteArray->au->Int->Option R):Option R:=
 b a [] 0
def HF{R:Type}(a:ByteArray)(b:au)(c:Int)(d:au->Int->Int->au->Option R)(e:ByteArray->au->Int->Option R)(f:au->Option R):Option R:=
 bif c<(a.size:Int) then(ku a c).bind fun r1=>bif !decide (r1.2.2=0) then d [] r1.2.2 c b else(kv a r1.2.1).bind fun r2=>bif !decide (r2.2.2=0) then d [] r2.2.2 r1.2.1 b else bif zW zI ((a.size:Int)-r2.2.1)<r2.1 then d [] 2 (a.size:Int) b else(pd b ((List.length b):Int) r1.1).bind fun r3=>bif r3 then d [] 10 c b else bif 0<=zW zI (r2.2.1+r2.1) then bif zW zI (r2.2.1+r2.1)<=(a.size:Int) then bif 0<=r2.2.1 then bif r2.2.1<=(((zW zI (r2.2.1+r2.1)).toNat:Nat):Int) then bif(List.length b+List.length ([(r1.1,a.extract r2.2.1.toNat (zW zI (r2.2.1+r2.1)).toNat,())]:List aZ))*24<=140737488355328 then e a (b++([(r1.1,a.extract r2.2.1.toNat (zW zI (r2.2.1+r2.1)).toNat,())]:List aZ)) (zW zI (r2.2.1+r2.1)) else none else none else none else none else none else f b
def zpz{R:Type}(a:au)(b c:Int)(d:au)(e:au->Int->Int->Option R):Option R:=
 e a b c
def zq0{R:Type}(a:au)(b:au->Int->Int->Option R):Option R:=
 b a 0 0
def wI:Nat->ByteArray->au->Int->Option (Sum nT au)
 |0,_,_,_=>none
 |k+1,v0,v1,v2=>HF v0 v1 v2 (fun a0 a1 a2 a3=>some (.inl (a0,a1,a2,a3))) (fun a0 a1 a2=>wI k a0 a1 a2) (fun a0=>some (.inr a0))
def kx(a:ByteArray):Option (Sum gT gT):=
 HE a (fun a0 a1 a2=>(wI ah a0 a1 a2).bind fun e=>Sum.elim (fun(we:nT)=>zpz we.1 we.2.1 we.2.2.1 we.2.2.2 (fun a0 a1 a2=>some (.inl (a0,a1,a2)))) (fun(we:au)=>zq0 we (fun a0 a1 a2=>some (.inr (a0,a1,a2)))) e)
def J8{R:Type}(a:aP)(b:Int->Option R):Option R:=
 bif a.1<2 then b 1 else bif 128<a.1 then b 1 else bif a.2.1<1 then b 6 else bif 6<a.2.1 then b 6 else bif a.2.2.1<1 then b 3 else bif 3<a.2.2.1 then b 3 else bif a.2.2.1=2 then bif a.2.2.2.1<1 then b 5 else bif a.2.2.2.2.1<a.2.2.2.1 then b 5 else bif 99<a.2.2.2.2.1 then b 5 else bif a.2.2.1=1 then bif !decide (a.2.2.2.1=a.2.2.2.2.1) then b 5 else bif a.2.2.1=1 then bif a.2.1=6 then b 13 else b 0 else b 0 else bif a.2.2.1=1 then bif a.2.1=6 then b 13 else b 0 else b 0 else bif a.2.2.2.1<1 then b 5 else bif a.2.2.2.2.1<a.2.2.2.1 then b 5 else bif 999<a.2.2.2.2.1 then b 5 else bif a.2.2.1=1 then bif !decide (a.2.2.2.1=a.2.2.2.2.1) then b 5 else bif a.2.2.1=1 then bif a.2.1=6 then b 13 else b 0 else b 0 else bif a.2.2.1=1 then bif a.2.1=6 then b 13 else b 0 else b 0
def ky(a:aP):Option Int:=
 J8 a (fun a0=>some a0)
def Bp{R:Type}(a:aP)(b:ByteArray)(c:Int->Option R):Option R:=
 (ky a).bind fun r1=>bif !decide (r1=0) then c 1 else bif(b.size:Int)<a.2.2.2.1 then c 5 else bif a.2.2.2.2.1<(b.size:Int) then c 5 else(CN a.2.1 b).bind fun r2=>bif 0<=r2 then c 6 else bif a.2.1=6 then(kx b).bind fun r3=>Sum.elim (fun(oO:gT)=>bif !decide (oO.2.1=0) then c 13 else c 0) (fun(oO:gT)=>bif !decide (oO.2.1=0) then c 13 else c 0) r3 else c 0
def eK(a:aP)(b:ByteArray):Option Int:=
 Bp a b (fun a0=>some a0)
def Bq{R:Type}(a b:aP)(c:Bool->Option R):Option R:=
 (ky a).bind fun r1=>bif !decide (r1=0) then c false else(ky b).bind fun r2=>bif !decide (r2=0) then c false else bif b.2.2.2.1<a.2.2.2.1 then c false else bif a.2.2.2.2.1<b.2.2.2.2.1 then c false else bif a.2.1=5 then c true else bif a.2.1=6 then c (decide (a.2.1=b.2.1)) else bif b.2.1=6 then c (decide (a.2.1=b.2.1)) else(nD a.2.1 b.2.1).bind fun r3=>c r3
def iO(a b:aP):Option Bool:=
 Bq a b (fun a0=>some a0)
def Ke{R:Type}(a:ae)(b:Int)(c:Int->Int->ae->Option R):Option R:=
 c b 0 a
def zq6{R:Type}(a b:Int)(c:ae)(d:Int->Option R)(e:Int->Int->ae->Option R)(f:Option R):Option R:=
 bif b<((List.length c.2.2.1):Int) then zc b (List.length c.2.2.1) (bif(List.getD c.2.2.1 b.toNat (0,0,0,0,0,())).1=a then d b else e a (zW zI (b+1)) c) else f
def zq7{R:Type}(a:Int)(b:Int->Option R):Option R:=
 b a
def zq8{R:Type}(a:Int->Option R):Option R:=
 a (-1:Int)
def HI:Nat->Int->Int->ae->Option (Sum Int Unit)
 |0,_,_,_=>none
 |k+1,v0,v1,v2=>zq6 v0 v1 v2 (fun a0=>some (.inl a0)) (fun a0 a1 a2=>HI k a0 a1 a2) (some (.inr ()))
def kz(a:ae)(b:Int):Option Int:=
 Ke a b (fun a0 a1 a2=>(HI ah a0 a1 a2).bind fun e=>Sum.elim (fun(we:Int)=>zq7 we (fun a0=>some a0)) (fun(we:Unit)=>zq8 (fun a0=>some a0)) e)
def Kc{R:Type}(a:ae)(b:ae->Option R):Option R:=
 bif(List.length ([]:List aP)+List.length a.2.2.1)*40<=140737488355328 then b (a.1,a.2.1,[]++a.2.2.1,()) else none
def pg(a:ae):Option ae:=
 Kc a (fun a0=>some a0)
def Br{R:Type}(a:ae)(b:Int->Int->Option R)(c:Int->Int->ae->Option R):Option R:=
 bif !decide (a.1=1) then bif !decide (a.1=2) then b 1 (-1:Int) else bif a.2.1<0 then b 7 (-1:Int) else bif 9<a.2.1 then b 7 (-1:Int) else c 0 0 a else bif a.2.1<0 then b 7 (-1:Int) else bif 9<a.2.1 then b 7 (-1:Int) else c 0 0 a
theorem zym{R S:Type}(F:R->Option S)(a)(b)(c):(Br a b c).bind F=Br a (fun a0 a1=>(b a0 a1).bind F) (fun a0 a1 a2=>(c a0 a1 a2).bind F):=by
 simp only[Br,aE]
def HH{R:Type}(a b:Int)(c:ae)(d:Int->Int->Option R)(e:Int->Int->ae->Option R)(f:Option R):Option R:=
 bif b<((List.length c.2.2.1):Int) then zc b (List.length c.2.2.1) ((ky (List.getD c.2.2.1 b.toNat (0,0,0,0,0,()))).bind fun r1=>bif !decide (r1=0) then d r1 b else zc b (List.length c.2.2.1) (bif(List.getD c.2.2.1 b.toNat (0,0,0,0,0,())).1<=a then d 11 b else zc b (List.length c.2.2.1) (e (List.getD c.2.2.1 b.toNat (0,0,0,0,0,())).1 (zW zI (b+1)) c))) else f
def Ka{R:Type}(a b:Int)(c:Int->Int->Option R):Option R:=
 c a b
def Kb{R:Type}(a:Int->Int->Option R):Option R:=
 a 0 0
def ud:Nat->Int->Int->ae->Option (Sum (Int×Int) Unit)
 |0,_,_,_=>none
 |k+1,v0,v1,v2=>HH v0 v1 v2 (fun a0 a1=>some (.inl (a0,a1))) (fun a0 a1 a2=>ud k a0 a1 a2) (some (.inr ()))
def pf(a:ae):Option (Int×Int):=
 Br a (fun a0 a1=>some (a0,a1)) (fun a0 a1 a2=>(ud ah a0 a1 a2).bind fun e=>Sum.elim (fun(we:(Int×Int))=>Ka we.1 we.2 (fun a0 a1=>some (a0,a1))) (fun(we:Unit)=>Kb (fun a0 a1=>some (a0,a1))) e)
def Kf{R:Type}(a:ae)(b:Bool->Option R):Option R:=
 (pf a).bind fun r1=>b (decide (r1.1=0))
def lH(a:ae):Option Bool:=
 Kf a (fun a0=>some a0)
def zqd{R:Type}(a:td->Option R):Option R:=
 a ([([2,1,2,12,19,1,2,12,19]:List Int),([3,1,1,6,6,1,1,6,6]:List Int),([4,1,1,12,12,1,1,12,12]:List Int),([7,1,1,10,10,1,1,10,10]:List Int),([11,1,1,6,6,1,1,6,6]:List Int),([12,1,1,6,6,1,1,12,12]:List Int),([13,1,1,4,4,0,0,0,0]:List Int),([14,1,1,4,4,1,1,4,4]:List Int),([18,1,1,4,4,0,0,0,0]:List Int),([22,1,1,3,3,3,1,12,12]:List Int),([23,1,1,3,3,1,1,3,3]:List Int),([26,0,0,0,0,1,1,4,4]:List Int),([32,1,2,1,11,1,2,1,11]:List Int),([35,4,2,1,37,4,2,1,37]:List Int),([37,3,1,12,12,3,1,12,12]:List Int),([38,3,1,6,6,3,1,6,6]:List Int),([39,3,1,2,2,1,1,3,3]:List Int),([41,4,1,8,8,4,1,8,8]:List Int),([42,4,1,15,15,4,1,15,15]:List Int),([43,4,1,40,40,4,2,1,99]:List Int),([48,4,3,1,999,4,3,1,999]:List Int),([49,1,1,3,3,1,1,3,3]:List Int),([52,5,1,8,8,5,1,8,8]:List Int),([55,6,3,1,255,6,3,1,255]:List Int),([64,5,1,8,8,5,1,8,8]:List Int),([70,1,1,3,3,1,1,3,3]:List Int),([90,1,1,42,42,0,0,0,0]:List Int),([102,4,2,1,28,4,2,1,28]:List Int),([128,5,1,8,8,5,1,8,8]:List Int)]:List (List Int))
def wV:Option td:=
 zqd (fun a0=>some a0)
def zqa{R:Type}(a:Int)(b:Int->td->Int->ae->ae->Option R):Option R:=
 wV.bind fun r1=>b a r1 0 (0,0,[],()) (zW zI (a+1),a,[],())
def zqb{R:Type}(a:Int)(b:td)(c:Int)(d e:ae)(f:Int->td->Int->ae->ae->Option R)(g:ae->ae->Option R):Option R:=
 bif c<((List.length b):Int) then zc c (List.length b) (bif 0<=zW zI (5+zW zI (4*a)) then bif zW zI (5+zW zI (4*a))<=(((List.length (List.getD b c.toNat ([]:List Int))):Nat):Int) then bif 0<=zW zI (1+zW zI (4*a)) then bif zW zI (1+zW zI (4*a))<=(((zW zI (5+zW zI (4*a))).toNat:Nat):Int) then zc 0 (List.length (List.drop (zW zI ((1:Int)+zW zI ((4:Int)*a))).toNat (List.take (zW zI ((5:Int)+zW zI ((4:Int)*a))).toNat (List.getD b c.toNat ([]:List Int))))) (bif 0<List.getD (List.drop (zW zI (1+zW zI (4*a))).toNat (List.take (zW zI (5+zW zI (4*a))).toNat (List.getD b c.toNat []))) ((0:Int)).toNat 0 then zc c (List.length b) (zc 0 (List.length (List.getD b c.toNat ([]:List Int))) (zc 0 (List.length (List.drop (zW zI ((1:Int)+zW zI ((4:Int)*a))).toNat (List.take (zW zI ((5:Int)+zW zI ((4:Int)*a))).toNat (List.getD b c.toNat ([]:List Int))))) (zc 1 (List.length (List.drop (zW zI ((1:Int)+zW zI ((4:Int)*a))).toNat (List.take (zW zI ((5:Int)+zW zI ((4:Int)*a))).toNat (List.getD b c.toNat ([]:List Int))))) (zc 2 (List.length (List.drop (zW zI ((1:Int)+zW zI ((4:Int)*a))).toNat (List.take (zW zI ((5:Int)+zW zI ((4:Int)*a))).toNat (List.getD b c.toNat ([]:List Int))))) (zc 3 (List.length (List.drop (zW zI ((1:Int)+zW zI ((4:Int)*a))).toNat (List.take (zW zI ((5:Int)+zW zI ((4:Int)*a))).toNat (List.getD b c.toNat ([]:List Int))))) (bif(List.length e.2.2.1+List.length ([(List.getD (List.getD b c.toNat ([]:List Int)) ((0:Int)).toNat (0:Int),List.getD (List.drop (zW zI ((1:Int)+zW zI ((4:Int)*a))).toNat (List.take (zW zI ((5:Int)+zW zI ((4:Int)*a))).toNat (List.getD b c.toNat ([]:List Int)))) ((0:Int)).toNat (0:Int),List.getD (List.drop (zW zI ((1:Int)+zW zI ((4:Int)*a))).toNat (List.take (zW zI ((5:Int)+zW zI ((4:Int)*a))).toNat (List.getD b c.toNat ([]:List Int)))) ((1:Int)).toNat (0:Int),List.getD (List.drop (zW zI ((1:Int)+zW zI ((4:Int)*a))).toNat (List.take (zW zI ((5:Int)+zW zI ((4:Int)*a))).toNat (List.getD b c.toNat ([]:List Int)))) ((2:Int)).toNat (0:Int),List.getD (List.drop (zW zI ((1:Int)+zW zI ((4:Int)*a))).toNat (List.take (zW zI ((5:Int)+zW zI ((4:Int)*a))).toNat (List.getD b c.toNat ([]:List Int)))) ((3:Int)).toNat (0:Int),())]:List aP))*40<=140737488355328 then f a b (zW zI (c+1)) d (e.1,e.2.1,e.2.2.1++([(List.getD (List.getD b c.toNat []) ((0:Int)).toNat 0,List.getD (List.drop (zW zI (1+zW zI (4*a))).toNat (List.take (zW zI (5+zW zI (4*a))).toNat (List.getD b c.toNat []))) ((0:Int)).toNat 0,List.getD (List.drop (zW zI (1+zW zI (4*a))).toNat (List.take (zW zI (5+zW zI (4*a))).toNat (List.getD b c.toNat []))) ((1:Int)).toNat 0,List.getD (List.drop (zW zI (1+zW zI (4*a))).toNat (List.take (zW zI (5+zW zI (4*a))).toNat (List.getD b c.toNat []))) ((2:Int)).toNat 0,List.getD (List.drop (zW zI (1+zW zI (4*a))).toNat (List.take (zW zI (5+zW zI (4*a))).toNat (List.getD b c.toNat []))) ((3:Int)).toNat 0,())]:List aP),()) else none)))))) else f a b (zW zI (c+1)) d e) else none else none else none else none) else g d e
def zqc{R:Type}(a b:ae)(c:ae->Option R):Option R:=
 c b
def Kh:Nat->Int->td->Int->ae->ae->Option (ae×ae)
 |0,_,_,_,_,_=>none
 |k+1,v0,v1,v2,v3,v4=>zqb v0 v1 v2 v3 v4 (fun a0 a1 a2 a3 a4=>Kh k a0 a1 a2 a3 a4) (fun a0 a1=>some (a0,a1))
def rY(a:Int):Option ae:=
 zqa a (fun a0 a1 a2 a3 a4=>(Kh ah a0 a1 a2 a3 a4).bind fun e=>zqc e.1 e.2 (fun a0=>some a0))
def zq9{R:Type}(a:(List Int)->Option R):Option R:=
 a ([2,3,4,7,11,12,14,23,32,35,37,38,41,42,49,52,55,64,70,102,128]:List Int)
def wU:Option (List Int):=
 zq9 (fun a0=>some a0)
def Oa{R:Type}(a:Int)(b:Bool->Option R):Option R:=
 bif 48<=a then b (decide (a<=57)) else b false
def CJ(a:Int):Option Bool:=
 Oa a (fun a0=>some a0)
def N8{R:Type}(a:ByteArray)(b:ByteArray->Int->Option R):Option R:=
 b a 0
def N9{R:Type}(a:ByteArray)(b:Int)(c:Bool->Option R)(d:ByteArray->Int->Option R)(e:Option R):Option R:=
 bif b<(a.size:Int) then zc b a.size ((CJ (zd a b.toNat)).bind fun r1=>bif !r1 then c false else d a (zW zI (b+1))) else e
def yQ{R:Type}(a:Bool)(b:Bool->Option R):Option R:=
 b a
def yR{R:Type}(a:Bool->Option R):Option R:=
 a true
def BQ:Nat->ByteArray->Int->Option (Sum Bool Unit)
 |0,_,_=>none
 |k+1,v0,v1=>N9 v0 v1 (fun a0=>some (.inl a0)) (fun a0 a1=>BQ k a0 a1) (some (.inr ()))
def AK(a:ByteArray):Option Bool:=
 N8 a (fun a0 a1=>(BQ ah a0 a1).bind fun e=>Sum.elim (fun(we:Bool)=>yQ we (fun a0=>some a0)) (fun(we:Unit)=>yR (fun a0=>some a0)) e)
def Oc{R:Type}(a:ByteArray)(b:Int->Bool->Option R)(c:ByteArray->Int->Int->Option R):Option R:=
 bif(a.size:Int)<1 then b 0 false else bif 18<(a.size:Int) then b 0 false else(AK a).bind fun r1=>bif !r1 then b 0 false else c a 0 0
def Od{R:Type}(a:ByteArray)(b c:Int)(d:ByteArray->Int->Int->Option R)(e:Int->Option R):Option R:=
 bif c<(a.size:Int) then zc c a.size (d a (zW zI (zW zI (zW zI (10*b)+zW zI (zd a c.toNat))-48)) (zW zI (c+1))) else e b
def yS{R:Type}(a:Int)(b:Int->Bool->Option R):Option R:=
 b a true
def BR:Nat->ByteArray->Int->Int->Option Int
 |0,_,_,_=>none
 |k+1,v0,v1,v2=>Od v0 v1 v2 (fun a0 a1 a2=>BR k a0 a1 a2) (fun a0=>some a0)
def CL(a:ByteArray):Option (Int×Bool):=
 Oc a (fun a0 a1=>some (a0,a1)) (fun a0 a1 a2=>(BR ah a0 a1 a2).bind fun e=>yS e (fun a0 a1=>some (a0,a1)))
def Kj{R:Type}(a:ByteArray)(b:Bool->Option R):Option R:=
 bif(a.size:Int)=4 then(AK a).bind fun r1=>b r1 else b false
def ph(a:ByteArray):Option Bool:=
 Kj a (fun a0=>some a0)
def Ki{R:Type}(a:ByteArray)(b:Bool->Option R):Option R:=
 (CL a).bind fun r1=>bif r1.2 then bif(a.size:Int)=4 then bif Int.tmod (zW zI (Int.tdiv r1.1 10)) 10=0 then b true else b (decide (Int.tmod (zW zI (Int.tdiv r1.1 10)) 10=2)) else b false else b false
def nE(a:ByteArray):Option Bool:=
 Ki a (fun a0=>some a0)
def zqh{R:Type}(a:aM)(b:aM->aM->Int->Option R):Option R:=
 b a [] 0
def zqi{R:Type}(a b:aM)(c:Int)(d:aM->aM->Int->Option R)(e:aM->Option R):Option R:=
 bif c<((List.length a):Int) then zc c (List.length a) (zc c (List.length a) (bif(List.length b+List.length ([((List.getD a c.toNat (bs [],bs [],())).2.1,(List.getD a c.toNat (bs [],bs [],())).1,())]:List cY))*32<=140737488355328 then d a (b++([((List.getD a c.toNat (bs [],bs [],())).2.1,(List.getD a c.toNat (bs [],bs [],())).1,())]:List cY)) (zW zI (c+1)) else none)) else e b
def zqj{R:Type}(a:aM)(b:aM->Option R):Option R:=
 b a
def Kp:Nat->aM->aM->Int->Option aM
 |0,_,_,_=>none
 |k+1,v0,v1,v2=>zqi v0 v1 v2 (fun a0 a1 a2=>Kp k a0 a1 a2) (fun a0=>some a0)
def pn(a:aM):Option aM:=
 zqh a (fun a0 a1 a2=>(Kp ah a0 a1 a2).bind fun e=>zqj e (fun a0=>some a0))
def Kn{R:Type}(a:aM)(b:aM->Option R):Option R:=
 bif(List.length ([]:List cY)+List.length a)*32<=140737488355328 then b ([]++a) else none
def nF(a:aM):Option aM:=
 Kn a (fun a0=>some a0)
def Kr{R:Type}(a:aM)(b:Int)(c:ByteArray)(d:aM->Int->ByteArray->Int->Option R):Option R:=
 d a b c 0
def HK{R:Type}(a:aM)(b:Int)(c:ByteArray)(d:Int)(e:Int->Option R)(f:aM->Int->ByteArray->Int->Option R)(g:Option R):Option R:=
 bif d<b then zc d (List.length a) (bif(List.getD a d.toNat (bs [],bs [],())).1=c then e d else f a b c (zW zI (d+1))) else g
def zql{R:Type}(a:Int)(b:Int->Option R):Option R:=
 b a
def zqm{R:Type}(a:Int->Option R):Option R:=
 a (-1:Int)
def z59:Nat->aM->Int->ByteArray->Int->Option (Sum Int Unit)
 |0,_,_,_,_=>none
 |k+1,v0,v1,v2,v3=>HK v0 v1 v2 v3 (fun a0=>some (.inl a0)) (fun a0 a1 a2 a3=>z59 k a0 a1 a2 a3) (some (.inr ()))
def nG(a:aM)(b:Int)(c:ByteArray):Option Int:=
 Kr a b c (fun a0 a1 a2 a3=>(z59 ah a0 a1 a2 a3).bind fun e=>Sum.elim (fun(we:Int)=>zql we (fun a0=>some a0)) (fun(we:Unit)=>zqm (fun a0=>some a0)) e)
def Kk{R:Type}(a:aM)(b:ByteArray)(c:ByteArray->Bool->Option R):Option R:=
 (nG a ((List.length a):Int) b).bind fun r1=>bif r1<0 then c (bs []) false else zc r1 (List.length a) (c (List.getD a r1.toNat (bs [],bs [],())).2.1 true)
def pj(a:aM)(b:ByteArray):Option ib:=
 Kk a b (fun a0 a1=>some (a0,a1))
def Km{R:Type}(a:aM)(b:Int->Int->Option R)(c:aM->Int->Option R):Option R:=
 bif 256<((List.length a):Int) then b 5 256 else c a 0
def HJ{R:Type}(a:aM)(b:Int)(c:Int->Int->Option R)(d:aM->Int->Option R)(e:Option R):Option R:=
 bif b<((List.length a):Int) then zc b (List.length a) ((nG a b (List.getD a b.toNat (bs [],bs [],())).1).bind fun r1=>bif 0<=r1 then c 10 b else d a (zW zI (b+1))) else e
def zqf{R:Type}(a b:Int)(c:Int->Int->Option R):Option R:=
 c a b
def zqg{R:Type}(a:Int->Int->Option R):Option R:=
 a 0 0
def Aa:Nat->aM->Int->Option (Sum (Int×Int) Unit)
 |0,_,_=>none
 |k+1,v0,v1=>HJ v0 v1 (fun a0 a1=>some (.inl (a0,a1))) (fun a0 a1=>Aa k a0 a1) (some (.inr ()))
def pk(a:aM):Option (Int×Int):=
 Km a (fun a0 a1=>some (a0,a1)) (fun a0 a1=>(Aa ah a0 a1).bind fun e=>Sum.elim (fun(we:(Int×Int))=>zqf we.1 we.2 (fun a0 a1=>some (a0,a1))) (fun(we:Unit)=>zqg (fun a0 a1=>some (a0,a1))) e)
def Ky{R:Type}(a:aD)(b:Bool->Option R)(c:Int->aD->Option R):Option R:=
 bif 1200<(a.2.2.2.1.size:Int) then b true else bif 300<((List.length a.2.2.2.2.1):Int) then b true else c 0 a
def HN{R:Type}(a:Int)(b:aD)(c:Bool->Option R)(d:Int->aD->Option R)(e:Option R):Option R:=
 bif a<((List.length b.2.2.2.2.1):Int) then zc a (List.length b.2.2.2.2.1) (bif 1200<(((List.getD b.2.2.2.2.1 a.toNat (bs [],bs [],())).1).size:Int) then c true else zc a (List.length b.2.2.2.2.1) (bif 1200<(((List.getD b.2.2.2.2.1 a.toNat (bs [],bs [],())).2.1).size:Int) then c true else d (zW zI (a+1)) b)) else e
def zqy{R:Type}(a:Bool)(b:Bool->Option R):Option R:=
 b a
def zqz{R:Type}(a:Bool->Option R):Option R:=
 a false
def ue:Nat->Int->aD->Option (Sum Bool Unit)
 |0,_,_=>none
 |k+1,v0,v1=>HN v0 v1 (fun a0=>some (.inl a0)) (fun a0 a1=>ue k a0 a1) (some (.inr ()))
def lJ(a:aD):Option Bool:=
 Ky a (fun a0=>some a0) (fun a0 a1=>(ue ah a0 a1).bind fun e=>Sum.elim (fun(we:Bool)=>zqy we (fun a0=>some a0)) (fun(we:Unit)=>zqz (fun a0=>some a0)) e)
def Kw{R:Type}(a:aD)(b:aD->Option R):Option R:=
 (nF a.2.2.2.2.1).bind fun r1=>b (a.1,a.2.1,a.2.2.1,a.2.2.2.1,r1,())
def lI(a:aD):Option aD:=
 Kw a (fun a0=>some a0)
def Bs{R:Type}(a:aD)(b c:ae)(d:Bool->aD->ae->ae->Option R):Option R:=
 bif a.1<1 then d true a b c else d (decide (5<a.1)) a b c
theorem zyv{R S:Type}(F:R->Option S)(a)(b)(c)(d):(Bs a b c d).bind F=Bs a b c (fun a0 a1 a2 a3=>(d a0 a1 a2 a3).bind F):=by
 simp only[Bs,aE]
def zqs{R:Type}(a:Bool)(b:aD)(c d:ae)(e:Int->Option R)(f:aD->ae->ae->Option R):Option R:=
 bif a then e 1 else f b c d
def Bu{R:Type}(a:aD)(b c:ae)(d:Int->Int->Bool->aD->ae->ae->Option R):Option R:=
 (kz b a.2.1).bind fun r1=>(kz c a.2.2.1).bind fun r2=>bif a.1=3 then bif !decide (a.2.1=0) then d r1 r2 true a b c else bif !decide (a.1=3) then d r1 r2 (decide (r1<0)) a b c else d r1 r2 false a b c else bif !decide (a.1=3) then d r1 r2 (decide (r1<0)) a b c else d r1 r2 false a b c
theorem zyw{R S:Type}(F:R->Option S)(a)(b)(c)(d):(Bu a b c d).bind F=Bu a b c (fun a0 a1 a2 a3 a4 a5=>(d a0 a1 a2 a3 a4 a5).bind F):=by
 simp only[Bu,aE]
def zqt{R:Type}(a b:Int)(c:Bool)(d:aD)(e f:ae)(g:Int->Option R)(h:Int->Int->aD->ae->ae->Option R):Option R:=
 bif c then g 9 else h a b d e f
def Bv{R:Type}(a b:Int)(c:aD)(d e:ae)(f:Int->Int->Bool->aD->ae->ae->Option R):Option R:=
 bif c.1=2 then bif !decide (c.2.2.1=0) then f a b true c d e else bif !decide (c.1=2) then f a b (decide (b<0)) c d e else f a b false c d e else bif !decide (c.1=2) then f a b (decide (b<0)) c d e else f a b false c d e
theorem zyx{R S:Type}(F:R->Option S)(a)(b)(c)(d)(e)(f):(Bv a b c d e f).bind F=Bv a b c d e (fun a0 a1 a2 a3 a4 a5=>(f a0 a1 a2 a3 a4 a5).bind F):=by
 simp only[Bv,aE]
def zqu{R:Type}(a b:Int)(c:Bool)(d:aD)(e f:ae)(g:Int->Option R)(h:Int->Int->aD->ae->ae->Option R):Option R:=
 bif c then g 9 else h a b d e f
def Bw{R:Type}(a b:Int)(c:aD)(d e:ae)(f:Int->Int->Bool->aD->ae->ae->Option R):Option R:=
 bif !decide (c.2.2.2.1=bs []) then bif !decide (c.1=3) then f a b true c d e else bif 0<((List.length c.2.2.2.2.1):Int) then f a b (!decide (c.1=5)) c d e else f a b false c d e else bif 0<((List.length c.2.2.2.2.1):Int) then f a b (!decide (c.1=5)) c d e else f a b false c d e
theorem zyy{R S:Type}(F:R->Option S)(a)(b)(c)(d)(e)(f):(Bw a b c d e f).bind F=Bw a b c d e (fun a0 a1 a2 a3 a4 a5=>(f a0 a1 a2 a3 a4 a5).bind F):=by
 simp only[Bw,aE]
def zqv{R:Type}(a b:Int)(c:Bool)(d:aD)(e f:ae)(g:Int->Option R)(h:Int->Int->aD->ae->ae->Option R):Option R:=
 bif c then g 3 else h a b d e f
def Bz{R:Type}(a b:Int)(c:aD)(d e:ae)(f:Int->Option R)(g:Option R)(h:Bool->Option R)(i:Int->Int->Bool->aD->ae->ae->Option R):Option R:=
 bif c.1=1 then zc b (List.length e.2.2.1) (zc a (List.length d.2.2.1) ((iO (List.getD e.2.2.1 b.toNat (0,0,0,0,0,())) (List.getD d.2.2.1 a.toNat (0,0,0,0,0,()))).bind fun r3=>bif !r3 then f 6 else g)) else bif c.1=3 then zc b (List.length e.2.2.1) ((eK (List.getD e.2.2.1 b.toNat (0,0,0,0,0,())) c.2.2.2.1).bind fun r4=>f r4) else bif c.1=4 then zc a (List.length d.2.2.1) (zc b (List.length e.2.2.1) (bif !decide ((List.getD d.2.2.1 a.toNat (0,0,0,0,0,())).2.1=1) then h true else bif !decide ((List.getD d.2.2.1 a.toNat (0,0,0,0,0,())).2.2.1=1) then h true else bif !decide ((List.getD e.2.2.1 b.toNat (0,0,0,0,0,())).2.1=1) then h true else h (!decide ((List.getD e.2.2.1 b.toNat (0,0,0,0,0,())).2.2.1=1)))) else bif c.1=5 then(pk c.2.2.2.2.1).bind fun r5=>bif !decide (r5.1=0) then i a b true c d e else i a b (decide (((List.length c.2.2.2.2.1):Int)=0)) c d e else g
theorem zyz{R S:Type}(F:R->Option S)(a)(b)(c)(d)(e)(f)(g)(h)(i):(Bz a b c d e f g h i).bind F=Bz a b c d e (fun a0=>(f a0).bind F) ((g).bind F) (fun a0=>(h a0).bind F) (fun a0 a1 a2 a3 a4 a5=>(i a0 a1 a2 a3 a4 a5).bind F):=by
 simp only[Bz,aE]
def zqw{R:Type}(a:Int->Option R):Option R:=
 a 0
def zkc{R:Type}(a:Bool)(b:Int->Option R)(c:Option R):Option R:=
 bif a then b 6 else c
def zkd{R:Type}(a b:Int)(c:Bool)(d:aD)(e f:ae)(g:Int->Option R)(h:Int->Int->aD->ae->ae->Option R):Option R:=
 bif c then g 15 else h a b d e f
def JQ{R:Type}(a b:Int)(c:aD)(d e:ae)(f:Int->Int->Int->aD->ae->ae->Option R):Option R:=
 f a b 0 c d e
def Hv{R:Type}(a b c:Int)(d:aD)(e f:ae)(g:Int->Int->Int->aD->ae->ae->Option R)(h:Option R):Option R:=
 bif c<((List.length d.2.2.2.2.1):Int) then g a b c d e f else h
def JR{R:Type}(a b c:Int)(d:aD)(e f:ae)(g:Int->Option R)(h:Int->Int->Int->aD->ae->ae->Option R):Option R:=
 zc a (List.length e.2.2.1) (zc c (List.length d.2.2.2.2.1) ((eK (List.getD e.2.2.1 a.toNat (0,0,0,0,0,())) (List.getD d.2.2.2.2.1 c.toNat (bs [],bs [],())).1).bind fun r6=>bif !decide (r6=0) then g r6 else h a b c d e f))
def zke{R:Type}(a:Option R):Option R:=
 a
def zkf{R:Type}(a:Int)(b:Int->Option R):Option R:=
 b a
def JS{R:Type}(a b c:Int)(d:aD)(e f:ae)(g:Int->Option R)(h:Int->Int->Int->aD->ae->ae->Option R):Option R:=
 zc b (List.length f.2.2.1) (zc c (List.length d.2.2.2.2.1) ((eK (List.getD f.2.2.1 b.toNat (0,0,0,0,0,())) (List.getD d.2.2.2.2.1 c.toNat (bs [],bs [],())).2.1).bind fun r7=>bif !decide (r7=0) then g r7 else h a b c d e f))
def JT{R:Type}(a b c:Int)(d:aD)(e f:ae)(g:Int->Int->Int->aD->ae->ae->Option R):Option R:=
 g a b (zW zI (c+1)) d e f
def rQ:Nat->Int->Int->Int->aD->ae->ae->Option (Sum Unit Int)
 |0,_,_,_,_,_,_=>none
 |k+1,v0,v1,v2,v3,v4,v5=>Hv v0 v1 v2 v3 v4 v5 (fun a0 a1 a2 a3 a4 a5=>JR a0 a1 a2 a3 a4 a5 (fun a0=>some (.inr a0)) (fun a0 a1 a2 a3 a4 a5=>JS a0 a1 a2 a3 a4 a5 (fun a0=>some (.inr a0)) (fun a0 a1 a2 a3 a4 a5=>JT a0 a1 a2 a3 a4 a5 (fun a0 a1 a2 a3 a4 a5=>rQ k a0 a1 a2 a3 a4 a5)))) (some (.inl ()))
def Kv:Option Int:=
 zqw (fun a0=>some a0)
def zqr(a:Bool):Option Int:=
 zkc a (fun a0=>some a0) Kv
def Hu(a b:Int)(c:aD)(d f:ae):Option Int:=
 JQ a b c d f (fun a0 a1 a2 a3 a4 a5=>(rQ ah a0 a1 a2 a3 a4 a5).bind fun e=>Sum.elim (fun(we:Unit)=>zke Kv) (fun(we:Int)=>zkf we (fun a0=>some a0)) e)
def zkb(a b:Int)(c:Bool)(d:aD)(e f:ae):Option Int:=
 zkd a b c d e f (fun a0=>some a0) (fun a0 a1 a2 a3 a4=>Hu a0 a1 a2 a3 a4)
def HM(a b:Int)(c:aD)(d e:ae):Option Int:=
 Bz a b c d e (fun a0=>some a0) Kv (fun a0=>zqr a0) (fun a0 a1 a2 a3 a4 a5=>zkb a0 a1 a2 a3 a4 a5)
def zqq(a b:Int)(c:Bool)(d:aD)(e f:ae):Option Int:=
 zqv a b c d e f (fun a0=>some a0) (fun a0 a1 a2 a3 a4=>HM a0 a1 a2 a3 a4)
def Ab(a b:Int)(c:aD)(d e:ae):Option Int:=
 Bw a b c d e (fun a0 a1 a2 a3 a4 a5=>zqq a0 a1 a2 a3 a4 a5)
def zqp(a b:Int)(c:Bool)(d:aD)(e f:ae):Option Int:=
 zqu a b c d e f (fun a0=>some a0) (fun a0 a1 a2 a3 a4=>Ab a0 a1 a2 a3 a4)
def HL(a b:Int)(c:aD)(d e:ae):Option Int:=
 Bv a b c d e (fun a0 a1 a2 a3 a4 a5=>zqp a0 a1 a2 a3 a4 a5)
def wJ(a b:Int)(c:Bool)(d:aD)(e f:ae):Option Int:=
 zqt a b c d e f (fun a0=>some a0) (fun a0 a1 a2 a3 a4=>HL a0 a1 a2 a3 a4)
def Ku(a:aD)(b c:ae):Option Int:=
 Bu a b c (fun a0 a1 a2 a3 a4 a5=>wJ a0 a1 a2 a3 a4 a5)
def zqo(a:Bool)(b:aD)(c d:ae):Option Int:=
 zqs a b c d (fun a0=>some a0) (fun a0 a1 a2=>Ku a0 a1 a2)
def po(a:aD)(b c:ae):Option Int:=
 Bs a b c (fun a0 a1 a2 a3=>zqo a0 a1 a2 a3)
def KK{R:Type}(a:av)(b:Bool->Option R)(c:Int->av->Option R):Option R:=
 bif 300<((List.length a.1):Int) then b true else bif 300<((List.length a.2.1):Int) then b true else c 0 a
def HR{R:Type}(a:Int)(b:av)(c:Bool->av->Option R)(d:Int->av->Option R)(e:av->Option R):Option R:=
 bif a<((List.length b.1):Int) then zc a (List.length b.1) (bif 100<(((List.getD b.1 a.toNat (bs [],bs [],())).1).size:Int) then c true b else zc a (List.length b.1) (bif 100<(((List.getD b.1 a.toNat (bs [],bs [],())).2.1).size:Int) then c true b else d (zW zI (a+1)) b)) else e b
def zrb{R:Type}(a:Bool)(b:av)(c:Bool->Option R):Option R:=
 c a
def KL{R:Type}(a:av)(b:Int->av->Option R):Option R:=
 b 0 a
def zrc{R:Type}(a:Int)(b:av)(c:Bool->Option R)(d:Int->av->Option R)(e:Option R):Option R:=
 bif a<((List.length b.2.1):Int) then zc a (List.length b.2.1) ((lJ (List.getD b.2.1 a.toNat (0,0,0,bs [],[],()))).bind fun r1=>bif r1 then c true else d (zW zI (a+1)) b) else e
def zrd{R:Type}(a:Bool)(b:Bool->Option R):Option R:=
 b a
def zre{R:Type}(a:Bool->Option R):Option R:=
 a false
def uf:Nat->Int->av->Option (Sum (Bool×av) av)
 |0,_,_=>none
 |k+1,v0,v1=>HR v0 v1 (fun a0 a1=>some (.inl (a0,a1))) (fun a0 a1=>uf k a0 a1) (fun a0=>some (.inr a0))
def z93:Nat->Int->av->Option (Sum Bool Unit)
 |0,_,_=>none
 |k+1,v0,v1=>zrc v0 v1 (fun a0=>some (.inl a0)) (fun a0 a1=>z93 k a0 a1) (some (.inr ()))
def jJ(a:av):Option Bool:=
 KK a (fun a0=>some a0) (fun a0 a1=>(uf ah a0 a1).bind fun e=>Sum.elim (fun(we:(Bool×av))=>zrb we.1 we.2 (fun a0=>some a0)) (fun(we:av)=>KL we (fun a0 a1=>(z93 ah a0 a1).bind fun e=>Sum.elim (fun(we:Bool)=>zrd we (fun a0=>some a0)) (fun(we:Unit)=>zre (fun a0=>some a0)) e)) e)
def KH{R:Type}(a:av)(b:Int->av->av->av->Option R):Option R:=
 (nF a.1).bind fun r1=>b 0 a ([],[],()) (r1,[],())
def zr7{R:Type}(a:Int)(b c d:av)(e:Int->av->av->av->Option R)(f:av->av->Option R):Option R:=
 bif a<((List.length b.2.1):Int) then zc a (List.length b.2.1) ((lI (List.getD b.2.1 a.toNat (0,0,0,bs [],[],()))).bind fun r2=>bif(List.length d.2.1+List.length ([r2]:List aD))*64<=140737488355328 then e (zW zI (a+1)) b c (d.1,d.2.1++([r2]:List aD),()) else none) else f c d
def zr8{R:Type}(a b:av)(c:av->Option R):Option R:=
 c b
def HQ:Nat->Int->av->av->av->Option (av×av)
 |0,_,_,_,_=>none
 |k+1,v0,v1,v2,v3=>zr7 v0 v1 v2 v3 (fun a0 a1 a2 a3=>HQ k a0 a1 a2 a3) (fun a0 a1=>some (a0,a1))
def pr(a:av):Option av:=
 KH a (fun a0 a1 a2 a3=>(HQ ah a0 a1 a2 a3).bind fun e=>zr8 e.1 e.2 (fun a0=>some a0))
def KN{R:Type}(a:ByteArray)(b:Int)(c:Bool->Option R):Option R:=
 (ph a).bind fun r1=>bif r1 then zc 0 a.size (c (decide (zW zI (zW zI (zd a ((0:Int)).toNat)-48)=b))) else c false
def nH(a:ByteArray)(b:Int):Option Bool:=
 KN a b (fun a0=>some a0)
def KM{R:Type}(a b:aD)(c:Bool->Option R):Option R:=
 bif !decide (a.2.1=0) then bif a.2.1=b.2.1 then c true else bif !decide (a.2.2.1=0) then c (decide (a.2.2.1=b.2.2.1)) else c false else bif !decide (a.2.2.1=0) then c (decide (a.2.2.1=b.2.2.1)) else c false
def pu(a b:aD):Option Bool:=
 KM a b (fun a0=>some a0)
def KC{R:Type}(a:av)(b c:ae)(d:Int->Int->Int->Option R)(e:Int->av->ae->ae->Option R):Option R:=
 (lH b).bind fun r1=>bif !r1 then d 1 1 0 else(lH c).bind fun r2=>bif !r2 then d 1 1 1 else bif 256<((List.length a.1):Int) then d 5 2 256 else e 0 a b c
def HO{R:Type}(a:Int)(b:av)(c d:ae)(e:Int->Int->Int->av->ae->ae->Option R)(f:Int->av->ae->ae->Option R)(g:av->ae->ae->Option R):Option R:=
 bif a<((List.length b.1):Int) then zc a (List.length b.1) ((nH (List.getD b.1 a.toNat (bs [],bs [],())).1 c.2.1).bind fun r3=>bif !r3 then e 7 2 a b c d else(nH (List.getD b.1 a.toNat (bs [],bs [],())).2.1 d.2.1).bind fun r4=>bif !r4 then e 7 2 a b c d else(nE (List.getD b.1 a.toNat (bs [],bs [],())).1).bind fun r5=>(nE (List.getD b.1 a.toNat (bs [],bs [],())).2.1).bind fun r6=>bif !(r5==r6) then e 7 2 a b c d else bif 0<=a then bif a<=(((List.length b.1):Nat):Int) then(pj (List.drop 0 (List.take a.toNat b.1)) (List.getD b.1 a.toNat (bs [],bs [],())).1).bind fun r7=>bif r7.2 then e 10 2 a b c d else f (zW zI (a+1)) b c d else none else none) else g b c d
def zr3{R:Type}(a b c:Int)(d:av)(e f:ae)(g:Int->Int->Int->Option R):Option R:=
 g a b c
def KD{R:Type}(a:av)(b c:ae)(d:Int->Int->Int->Option R)(e:Int->av->ae->ae->Option R):Option R:=
 bif 256<((List.length a.2.1):Int) then d 5 3 256 else e 0 a b c
def HP{R:Type}(a:Int)(b:av)(c d:ae)(e:Int->Int->Int->Option R)(f:Int->Int->av->ae->ae->Option R)(g:Option R):Option R:=
 bif a<((List.length b.2.1):Int) then zc a (List.length b.2.1) ((po (List.getD b.2.1 a.toNat (0,0,0,bs [],[],())) c d).bind fun r8=>bif !decide (r8=0) then e r8 3 a else f a 0 b c d) else g
def zr4{R:Type}(a b c:Int)(d:Int->Int->Int->Option R):Option R:=
 d a b c
def zr5{R:Type}(a:Int->Int->Int->Option R):Option R:=
 a 0 0 0
def z91{R:Type}(a b:Int)(c:av)(d e:ae)(f:Int->Int->Int->Int->av->ae->ae->Option R)(g:Int->Int->av->ae->ae->Option R)(h:Int->av->ae->ae->Option R):Option R:=
 bif b<a then zc b (List.length c.2.1) (zc a (List.length c.2.1) ((pu (List.getD c.2.1 b.toNat (0,0,0,bs [],[],())) (List.getD c.2.1 a.toNat (0,0,0,bs [],[],()))).bind fun r9=>bif r9 then f 10 3 a a c d e else g a (zW zI (b+1)) c d e)) else h a c d e
def zr6{R:Type}(a b c d:Int)(e:av)(f g:ae)(h:Int->Int->Int->Option R):Option R:=
 h a b c
def KE{R:Type}(a:Int)(b:av)(c d:ae)(e:Int->av->ae->ae->Option R):Option R:=
 e (zW zI (a+1)) b c d
def Ac:Nat->Int->av->ae->ae->Option (Sum jR jQ)
 |0,_,_,_,_=>none
 |k+1,v0,v1,v2,v3=>HO v0 v1 v2 v3 (fun a0 a1 a2 a3 a4 a5=>some (.inl (a0,a1,a2,a3,a4,a5))) (fun a0 a1 a2 a3=>Ac k a0 a1 a2 a3) (fun a0 a1 a2=>some (.inr (a0,a1,a2)))
def Ae:Nat->Int->Int->av->ae->ae->Option (Sum (Int×Int×Int×Int×av×ae×ae) (Int×av×ae×ae))
 |0,_,_,_,_,_=>none
 |k+1,v0,v1,v2,v3,v4=>z91 v0 v1 v2 v3 v4 (fun a0 a1 a2 a3 a4 a5 a6=>some (.inl (a0,a1,a2,a3,a4,a5,a6))) (fun a0 a1 a2 a3 a4=>Ae k a0 a1 a2 a3 a4) (fun a0 a1 a2 a3=>some (.inr (a0,a1,a2,a3)))
def Ad:Nat->Int->av->ae->ae->Option (Sum gS Unit)
 |0,_,_,_,_=>none
 |k+1,v0,v1,v2,v3=>HP v0 v1 v2 v3 (fun a0 a1 a2=>some (.inl (a0,a1,a2))) (fun a0 a1 a2 a3 a4=>(Ae ah a0 a1 a2 a3 a4).bind fun e=>Sum.elim (fun(we:(Int×Int×Int×Int×av×ae×ae))=>zr6 we.1 we.2.1 we.2.2.1 we.2.2.2.1 we.2.2.2.2.1 we.2.2.2.2.2.1 we.2.2.2.2.2.2 (fun a0 a1 a2=>some (.inl (a0,a1,a2)))) (fun(we:(Int×av×ae×ae))=>KE we.1 we.2.1 we.2.2.1 we.2.2.2 (fun a0 a1 a2 a3=>Ad k a0 a1 a2 a3)) e) (some (.inr ()))
def pq(a:av)(b c:ae):Option gS:=
 KC a b c (fun a0 a1 a2=>some (a0,a1,a2)) (fun a0 a1 a2 a3=>(Ac ah a0 a1 a2 a3).bind fun e=>Sum.elim (fun(we:jR)=>zr3 we.1 we.2.1 we.2.2.1 we.2.2.2.1 we.2.2.2.2.1 we.2.2.2.2.2 (fun a0 a1 a2=>some (a0,a1,a2))) (fun(we:jQ)=>KD we.1 we.2.1 we.2.2 (fun a0 a1 a2=>some (a0,a1,a2)) (fun a0 a1 a2 a3=>(Ad ah a0 a1 a2 a3).bind fun e=>Sum.elim (fun(we:gS)=>zr4 we.1 we.2.1 we.2.2 (fun a0 a1 a2=>some (a0,a1,a2))) (fun(we:Unit)=>zr5 (fun a0 a1 a2=>some (a0,a1,a2))) e)) e)
def KV{R:Type}(a:al)(b:Bool->Option R)(c:Int->al->Option R):Option R:=
 bif 200<((List.length a.1.2.2.1):Int) then b true else bif 300<((List.length a.2.2.1):Int) then b true else bif 300<((List.length a.2.2.2.1):Int) then b true else c 0 a
def zrk{R:Type}(a:Int)(b:al)(c:Bool->Option R)(d:Int->al->Option R)(e:Option R):Option R:=
 bif a<((List.length b.2.2.2.1):Int) then zc a (List.length b.2.2.2.1) (bif 1200<(((List.getD b.2.2.2.1 a.toNat (0,bs [],())).2.1).size:Int) then c true else d (zW zI (a+1)) b) else e
def zrl{R:Type}(a:Bool)(b:Bool->Option R):Option R:=
 b a
def zrm{R:Type}(a:Bool->Option R):Option R:=
 a false
def HU:Nat->Int->al->Option (Sum Bool Unit)
 |0,_,_=>none
 |k+1,v0,v1=>zrk v0 v1 (fun a0=>some (.inl a0)) (fun a0 a1=>HU k a0 a1) (some (.inr ()))
def kA(a:al):Option Bool:=
 KV a (fun a0=>some a0) (fun a0 a1=>(HU ah a0 a1).bind fun e=>Sum.elim (fun(we:Bool)=>zrl we (fun a0=>some a0)) (fun(we:Unit)=>zrm (fun a0=>some a0)) e)
def KT{R:Type}(a:al)(b:al->Option R):Option R:=
 (pg a.1).bind fun r1=>bif(List.length ([]:List Int)+List.length a.2.2.1)*8<=140737488355328 then bif(List.length ([]:List aZ)+List.length a.2.2.2.1)*24<=140737488355328 then b (r1,a.2.1,[]++a.2.2.1,[]++a.2.2.2.1,()) else none else none
def pA(a:al):Option al:=
 KT a (fun a0=>some a0)
def KY{R:Type}(a:au)(b c:Int)(d:au->Int->Int->Int->Option R):Option R:=
 d a b c 0
def HV{R:Type}(a:au)(b c d:Int)(e:Int->Option R)(f:au->Int->Int->Int->Option R)(g:Option R):Option R:=
 bif d<b then zc d (List.length a) (bif(List.getD a d.toNat (0,bs [],())).1=c then e d else f a b c (zW zI (d+1))) else g
def zro{R:Type}(a:Int)(b:Int->Option R):Option R:=
 b a
def zrp{R:Type}(a:Int->Option R):Option R:=
 a (-1:Int)
def Ah:Nat->au->Int->Int->Int->Option (Sum Int Unit)
 |0,_,_,_,_=>none
 |k+1,v0,v1,v2,v3=>HV v0 v1 v2 v3 (fun a0=>some (.inl a0)) (fun a0 a1 a2 a3=>Ah k a0 a1 a2 a3) (some (.inr ()))
def nI(a:au)(b c:Int):Option Int:=
 KY a b c (fun a0 a1 a2 a3=>(Ah ah a0 a1 a2 a3).bind fun e=>Sum.elim (fun(we:Int)=>zro we (fun a0=>some a0)) (fun(we:Unit)=>zrp (fun a0=>some a0)) e)
def KQ{R:Type}(a:al)(b:Int->Int->Int->Option R)(c:Int->Int->al->Option R):Option R:=
 (lH a.1).bind fun r1=>bif !r1 then b 1 1 0 else(kz a.1 (39:Int)).bind fun r2=>bif r2<0 then b 9 1 1 else c r2 0 a
def HS{R:Type}(a b:Int)(c:al)(d:Int->Int->Int->Int->al->Option R)(e:Int->Int->al->Option R)(f:Int->al->Option R):Option R:=
 bif b<((List.length c.2.2.1):Int) then zc b (List.length c.2.2.1) ((kz c.1 (List.getD c.2.2.1 b.toNat (0:Int))).bind fun r3=>bif r3<0 then d 9 2 b a c else zc b (List.length c.2.2.1) (bif List.getD c.2.2.1 b.toNat 0=39 then d 1 2 b a c else bif 0<=b then bif b<=(((List.length c.2.2.1):Nat):Int) then zc b (List.length c.2.2.1) ((pc (List.drop 0 (List.take b.toNat c.2.2.1)) (List.getD c.2.2.1 b.toNat (0:Int))).bind fun r4=>bif r4 then d 10 2 b a c else e a (zW zI (b+1)) c) else none else none)) else f a c
def zrh{R:Type}(a b c d:Int)(e:al)(f:Int->Int->Int->Option R):Option R:=
 f a b c
def KR{R:Type}(a:Int)(b:al)(c:Int->Int->al->Option R):Option R:=
 c a 0 b
def HT{R:Type}(a b:Int)(c:al)(d:Int->Int->Int->al->Option R)(e:Int->Int->al->Option R)(f:al->Option R):Option R:=
 bif b<((List.length c.2.2.2.1):Int) then zc b (List.length c.2.2.2.1) (bif(List.getD c.2.2.2.1 b.toNat (0,bs [],())).1<0 then d 1 3 b c else zc b (List.length c.2.2.2.1) (bif 16<(List.getD c.2.2.2.1 b.toNat (0,bs [],())).1 then d 1 3 b c else zc b (List.length c.2.2.2.1) ((nI c.2.2.2.1 b (List.getD c.2.2.2.1 b.toNat (0,bs [],())).1).bind fun r5=>bif 0<=r5 then d 10 3 b c else zc a (List.length c.1.2.2.1) (zc b (List.length c.2.2.2.1) ((eK (List.getD c.1.2.2.1 a.toNat (0,0,0,0,0,())) (List.getD c.2.2.2.1 b.toNat (0,bs [],())).2.1).bind fun r6=>bif !decide (r6=0) then d r6 3 b c else e a (zW zI (b+1)) c))))) else f c
def zri{R:Type}(a b c:Int)(d:al)(e:Int->Int->Int->Option R):Option R:=
 e a b c
def KS{R:Type}(a:al)(b:Int->Int->Int->Option R):Option R:=
 (nI a.2.2.2.1 ((List.length a.2.2.2.1):Int) (0:Int)).bind fun r7=>bif r7<0 then b 15 3 ((List.length a.2.2.2.1):Int) else b 0 0 0
def Af:Nat->Int->Int->al->Option (Sum (Int×Int×Int×Int×al) (Int×al))
 |0,_,_,_=>none
 |k+1,v0,v1,v2=>HS v0 v1 v2 (fun a0 a1 a2 a3 a4=>some (.inl (a0,a1,a2,a3,a4))) (fun a0 a1 a2=>Af k a0 a1 a2) (fun a0 a1=>some (.inr (a0,a1)))
def Ag:Nat->Int->Int->al->Option (Sum (Int×Int×Int×al) al)
 |0,_,_,_=>none
 |k+1,v0,v1,v2=>HT v0 v1 v2 (fun a0 a1 a2 a3=>some (.inl (a0,a1,a2,a3))) (fun a0 a1 a2=>Ag k a0 a1 a2) (fun a0=>some (.inr a0))
def pw(a:al):Option gS:=
 KQ a (fun a0 a1 a2=>some (a0,a1,a2)) (fun a0 a1 a2=>(Af ah a0 a1 a2).bind fun e=>Sum.elim (fun(we:(Int×Int×Int×Int×al))=>zrh we.1 we.2.1 we.2.2.1 we.2.2.2.1 we.2.2.2.2 (fun a0 a1 a2=>some (a0,a1,a2))) (fun(we:(Int×al))=>KR we.1 we.2 (fun a0 a1 a2=>(Ag ah a0 a1 a2).bind fun e=>Sum.elim (fun(we:(Int×Int×Int×al))=>zri we.1 we.2.1 we.2.2.1 we.2.2.2 (fun a0 a1 a2=>some (a0,a1,a2))) (fun(we:al)=>KS we (fun a0 a1 a2=>some (a0,a1,a2))) e)) e)
def zrz{R:Type}(a:(List ByteArray))(b:(List ByteArray)->aM->Int->Option R):Option R:=
 b a [] 0
def zs0{R:Type}(a:(List ByteArray))(b:aM)(c:Int)(d:(List ByteArray)->aM->Int->Option R)(e:aM->Option R):Option R:=
 bif c<((List.length a):Int) then zc c (List.length a) (zc (zW zI (c+1)) (List.length a) (bif(List.length b+List.length ([(List.getD a c.toNat (bs []),List.getD a (zW zI (c+(1:Int))).toNat (bs []),())]:List cY))*32<=140737488355328 then d a (b++([(List.getD a c.toNat (bs []),List.getD a (zW zI (c+(1:Int))).toNat (bs []),())]:List cY)) (zW zI (c+2)) else none)) else e b
def zs1{R:Type}(a:aM)(b:aM->Option R):Option R:=
 b a
def K8:Nat->(List ByteArray)->aM->Int->Option aM
 |0,_,_,_=>none
 |k+1,v0,v1,v2=>zs0 v0 v1 v2 (fun a0 a1 a2=>K8 k a0 a1 a2) (fun a0=>some a0)
def pD(a:(List ByteArray)):Option aM:=
 zrz a (fun a0 a1 a2=>(K8 ah a0 a1 a2).bind fun e=>zs1 e (fun a0=>some a0))
def zrw{R:Type}(a:bD->(List Int)->Int->Option R):Option R:=
 wU.bind fun r1=>a [] r1 0
def zrx{R:Type}(a:bD)(b:(List Int))(c:Int)(d:bD->(List Int)->Int->Option R)(e:bD->Option R):Option R:=
 bif c<((List.length b):Int) then zc c (List.length b) (bif List.getD b c.toNat 0=12 then zc c (List.length b) (zc c (List.length b) (bif(List.length a+List.length ([((4:Int),List.getD b c.toNat (0:Int),List.getD b c.toNat (0:Int),bs [],([]:List cY),())]:List aD))*64<=140737488355328 then d (a++([(4,List.getD b c.toNat 0,List.getD b c.toNat 0,bs [],[],())]:List aD)) b (zW zI (c+1)) else none)) else zc c (List.length b) (zc c (List.length b) (bif(List.length a+List.length ([((1:Int),List.getD b c.toNat (0:Int),List.getD b c.toNat (0:Int),bs [],([]:List cY),())]:List aD))*64<=140737488355328 then d (a++([(1,List.getD b c.toNat 0,List.getD b c.toNat 0,bs [],[],())]:List aD)) b (zW zI (c+1)) else none))) else e a
def zry{R:Type}(a:bD)(b:bD->Option R):Option R:=
 b a
def K6:Nat->bD->(List Int)->Int->Option bD
 |0,_,_,_=>none
 |k+1,v0,v1,v2=>zrx v0 v1 v2 (fun a0 a1 a2=>K6 k a0 a1 a2) (fun a0=>some a0)
def sc:Option bD:=
 zrw (fun a0 a1 a2=>(K6 ah a0 a1 a2).bind fun e=>zry e (fun a0=>some a0))
def zrv{R:Type}(a b c:ByteArray)(d:au->Option R):Option R:=
 d ([(0,a,()),(2,b,()),(3,b,()),(12,b,()),(9,b,()),(15,c,())]:List aZ)
def rZ(a b c:ByteArray):Option au:=
 zrv a b c (fun a0=>some a0)
def zrq{R:Type}(a:aB->Option R):Option R:=
 (pD ([(bs [48,49,48,48]),bs [49,49,48,48],bs [48,49,49,48],bs [49,49,49,48],bs [48,50,48,48],bs [49,50,48,48],bs [48,50,49,48],bs [49,50,49,48],bs [48,50,50,48],bs [49,50,50,48],bs [48,50,51,48],bs [49,50,51,48],bs [48,52,48,48],bs [49,52,48,48],bs [48,52,49,48],bs [49,52,49,48],bs [48,52,50,48],bs [49,52,50,48],bs [48,52,51,48],bs [49,52,51,48],bs [48,56,48,48],bs [49,56,48,52],bs [48,56,49,48],(bs [49,56,49,52])]:List ByteArray)).bind fun r1=>(pD ([(bs [48,53,49]),bs [53,49,48,49,48,49,53,49,49,51,52,52],bs [48,50,49],bs [50,49,48,49,48,49,50,49,49,51,52,52],bs [48,49,50],(bs [49,48,48,49,52,48,49,48,48,49,49,48])]:List ByteArray)).bind fun r2=>(pD ([(bs [48,48]),bs [48,48,48],bs [48,53],bs [49,48,48],bs [49,52],bs [49,49,49],bs [53,49],bs [49,49,54],bs [53,52],bs [49,48,49],bs [57,49],bs [57,48,55],bs [57,54],(bs [57,48,57])]:List ByteArray)).bind fun r3=>sc.bind fun r4=>bif(List.length r4+List.length ([((2:Int),(13:Int),(0:Int),bs [],([]:List cY),()),((2:Int),(18:Int),(0:Int),bs [],([]:List cY),()),((2:Int),(90:Int),(0:Int),bs [],([]:List cY),()),((5:Int),(22:Int),(22:Int),bs [],r2,()),((5:Int),(39:Int),(39:Int),bs [],r3,()),((1:Int),(43:Int),(43:Int),bs [],([]:List cY),()),((1:Int),(48:Int),(48:Int),bs [],([]:List cY),()),((3:Int),(0:Int),(26:Int),bs [53,57,57,57],([]:List cY),())]:List aD))*64<=140737488355328 then sc.bind fun r5=>(pn r2).bind fun r6=>(pn r3).bind fun r7=>bif(List.length r5+List.length ([((2:Int),(26:Int),(0:Int),bs [],([]:List cY),()),((2:Int),(43:Int),(0:Int),bs [],([]:List cY),()),((5:Int),(22:Int),(22:Int),bs [],r6,()),((5:Int),(39:Int),(39:Int),bs [],r7,()),((1:Int),(48:Int),(48:Int),bs [],([]:List cY),())]:List aD))*64<=140737488355328 then(rY (0:Int)).bind fun r8=>(rZ (bs [57,54]) (bs [51,48]) (bs [49,50])).bind fun r9=>zc 0 2 ((rY (1:Int)).bind fun j9=>(pn r1).bind fun ll=>bif(List.length ([]:List Int)+List.length ([(2:Int),(3:Int),(4:Int),(7:Int),(11:Int),(12:Int),(32:Int),(37:Int),(41:Int),(42:Int),(70:Int)]:List Int))*8<=140737488355328 then(rZ (bs [57,48,57]) (bs [57,48,52]) (bs [57,48,50])).bind fun qS=>zc 1 2 (a (List.set (List.set (List.replicate 2 ((0,0,[],()),([],[],()),[],[],())) ((0:Int)).toNat (r8,(r1,r4++([(2,13,0,bs [],[],()),(2,18,0,bs [],[],()),(2,90,0,bs [],[],()),(5,22,22,bs [],r2,()),(5,39,39,bs [],r3,()),(1,43,43,bs [],[],()),(1,48,48,bs [],[],()),(3,0,26,bs [53,57,57,57],[],())]:List aD),()),([2,3,4,7,11,12,32,37,41,42,70]:List Int),r9,())) ((1:Int)).toNat (j9,(ll,r5++([(2,26,0,bs [],[],()),(2,43,0,bs [],[],()),(5,22,22,bs [],r6,()),(5,39,39,bs [],r7,()),(1,48,48,bs [],[],())]:List aD),()),[]++([2,3,4,7,11,12,32,37,41,42,70]:List Int),qS,()),4096,())) else none) else none else none
def wX:Option aB:=
 zrq (fun a0=>some a0)
def K3{R:Type}(a:aB)(b:Bool->Option R):Option R:=
 zc 0 2 ((kA (List.getD a.1 ((0:Int)).toNat ((0,0,[],()),([],[],()),[],[],()))).bind fun r1=>bif r1 then b true else zc 1 2 ((kA (List.getD a.1 ((1:Int)).toNat ((0,0,[],()),([],[],()),[],[],()))).bind fun r2=>bif r2 then b true else zc 0 2 ((jJ (List.getD a.1 ((0:Int)).toNat ((0,0,[],()),([],[],()),[],[],())).2.1).bind fun r3=>bif r3 then b true else zc 1 2 ((jJ (List.getD a.1 ((1:Int)).toNat ((0,0,[],()),([],[],()),[],[],())).2.1).bind fun r4=>b r4))))
def nJ(a:aB):Option Bool:=
 K3 a (fun a0=>some a0)
def K2{R:Type}(a:aB)(b:Int->aB->aB->Option R):Option R:=
 b 0 a (List.replicate 2 ((0,0,[],()),([],[],()),[],[],()),0,())
def BB{R:Type}(a:Int)(b c:aB)(d:Int->aB->aB->Option R)(e:aB->aB->Option R):Option R:=
 bif a<2 then zc a 2 ((pr (List.getD b.1 a.toNat ((0,0,[],()),([],[],()),[],[],())).2.1).bind fun r1=>zc a 2 ((pA (List.getD b.1 a.toNat ((0,0,[],()),([],[],()),[],[],()))).bind fun r2=>zc a 2 (zc a 2 (d (zW zI (a+1)) (List.set (List.set b.1 a.toNat r2) a.toNat ((List.getD (List.set b.1 a.toNat r2) a.toNat ((0,0,[],()),([],[],()),[],[],())).1,r1,(List.getD (List.set b.1 a.toNat r2) a.toNat ((0,0,[],()),([],[],()),[],[],())).2.2.1,(List.getD (List.set b.1 a.toNat r2) a.toNat ((0,0,[],()),([],[],()),[],[],())).2.2.2.1,()),b.2.1,()) c)))) else e b c
def zru{R:Type}(a b:aB)(c:aB->Option R):Option R:=
 c a
def Aj:Nat->Int->aB->aB->Option (aB×aB)
 |0,_,_,_=>none
 |k+1,v0,v1,v2=>BB v0 v1 v2 (fun a0 a1 a2=>Aj k a0 a1 a2) (fun a0 a1=>some (a0,a1))
def pC(a:aB):Option aB:=
 K2 a (fun a0 a1 a2=>(Aj ah a0 a1 a2).bind fun e=>zru e.1 e.2 (fun a0=>some a0))
def K0{R:Type}(a:aB)(b:Int->Int->Int->Option R)(c:Int->aB->Option R):Option R:=
 bif a.2.1<1 then b 5 2 0 else bif 65535<a.2.1 then b 5 2 0 else c 0 a
def BA{R:Type}(a:Int)(b:aB)(c:Int->Int->Int->Option R)(d:Int->aB->Option R)(e:Option R):Option R:=
 bif a<2 then zc a 2 ((pw (List.getD b.1 a.toNat ((0,0,[],()),([],[],()),[],[],()))).bind fun r1=>bif !decide (r1.1=0) then c r1.1 a 1 else zc a 2 (zc a 2 (zc (zW zI (1-a)) 2 ((pq (List.getD b.1 a.toNat ((0,0,[],()),([],[],()),[],[],())).2.1 (List.getD b.1 a.toNat ((0,0,[],()),([],[],()),[],[],())).1 (List.getD b.1 (zW zI (1-a)).toNat ((0,0,[],()),([],[],()),[],[],())).1).bind fun r2=>bif !decide (r2.1=0) then c r2.1 a 2 else d (zW zI (a+1)) b)))) else e
def zrs{R:Type}(a b c:Int)(d:Int->Int->Int->Option R):Option R:=
 d a b c
def zrt{R:Type}(a:Int->Int->Int->Option R):Option R:=
 a 0 0 0
def Ai:Nat->Int->aB->Option (Sum gS Unit)
 |0,_,_=>none
 |k+1,v0,v1=>BA v0 v1 (fun a0 a1 a2=>some (.inl (a0,a1,a2))) (fun a0 a1=>Ai k a0 a1) (some (.inr ()))
def pB(a:aB):Option gS:=
 K0 a (fun a0 a1 a2=>some (a0,a1,a2)) (fun a0 a1=>(Ai ah a0 a1).bind fun e=>Sum.elim (fun(we:gS)=>zrs we.1 we.2.1 we.2.2 (fun a0 a1 a2=>some (a0,a1,a2))) (fun(we:Unit)=>zrt (fun a0 a1 a2=>some (a0,a1,a2))) e)
def K4{R:Type}(a:aB)(b:Bool->Option R):Option R:=
 (pB a).bind fun r1=>b (decide (r1.1=0))
def nK(a:aB):Option Bool:=
 K4 a (fun a0=>some a0)
def zs3{R:Type}(a b:bZ)(c:Bool->Option R)(d:bZ->bZ->Int->Option R):Option R:=
 bif !decide (((List.length a):Int)=((List.length b):Int)) then c false else d a b 0
def zs4{R:Type}(a b:bZ)(c:Int)(d:Bool->Option R)(e:bZ->bZ->Int->Option R)(f:Option R):Option R:=
 bif c<((List.length a):Int) then zc c (List.length a) (zc c (List.length b) (bif !(decide ((List.getD a c.toNat (0,0,bs [],0,())).1=(List.getD b c.toNat (0,0,bs [],0,())).1)&&(decide ((List.getD a c.toNat (0,0,bs [],0,())).2.1=(List.getD b c.toNat (0,0,bs [],0,())).2.1)&&(decide ((List.getD a c.toNat (0,0,bs [],0,())).2.2.1=(List.getD b c.toNat (0,0,bs [],0,())).2.2.1)&&(decide ((List.getD a c.toNat (0,0,bs [],0,())).2.2.2.1=(List.getD b c.toNat (0,0,bs [],0,())).2.2.2.1)&&true)))) then d false else e a b (zW zI (c+1)))) else f
def zs5{R:Type}(a:Bool)(b:Bool->Option R):Option R:=
 b a
def zs6{R:Type}(a:Bool->Option R):Option R:=
 a true
def La:Nat->bZ->bZ->Int->Option (Sum Bool Unit)
 |0,_,_,_=>none
 |k+1,v0,v1,v2=>zs4 v0 v1 v2 (fun a0=>some (.inl a0)) (fun a0 a1 a2=>La k a0 a1 a2) (some (.inr ()))
def sd(a b:bZ):Option Bool:=
 zs3 a b (fun a0=>some a0) (fun a0 a1 a2=>(La ah a0 a1 a2).bind fun e=>Sum.elim (fun(we:Bool)=>zs5 we (fun a0=>some a0)) (fun(we:Unit)=>zs6 (fun a0=>some a0)) e)
def yO{R:Type}(a:Bool->Option R):Option R:=
 wX.bind fun r1=>(uE r1).bind fun r2=>Sum.elim (fun(yE:Int)=>(uE (List.replicate 2 ((0,0,[],()),([],[],()),[],[],()),0,())).bind fun r3=>Sum.elim (fun(oO:Int)=>bif !decide (yE=0) then a false else a false) (fun(oO:(Int×(aB×(Option ak×Option ak)×Int)))=>bif !decide (yE=0) then a false else a false) r3) (fun(yE:(Int×(aB×(Option ak×Option ak)×Int)))=>(uE (List.replicate 2 ((0,0,[],()),([],[],()),[],[],()),0,())).bind fun r4=>Sum.elim (fun(RZ:Int)=>bif !decide (yE.1=0) then a false else(IE yE.2 ([(0,bs [0],()),(1,bs [0,1,65],()),(0,bs [0],())]:List aZ)).bind fun r5=>bif RZ=1 then(sd r5.1 ([(1,3,bs [],1,()),(0,4,bs [],1,())]:List jP)).bind fun r6=>bif r6 then(AH r5.2).bind fun r7=>bif r7.1=1 then(ss r7.2 (0:Int)).bind fun r8=>bif r8.1 then(ss r8.2 (1:Int)).bind fun r9=>bif !r9.1 then(xy r9.2 (1:Int)).bind fun j9=>a (decide (j9.1=0)) else a false else a false else a false else a false else a false) (fun(RZ:(Int×(aB×(Option ak×Option ak)×Int)))=>bif !decide (yE.1=0) then a false else(IE yE.2 ([(0,bs [0],()),(1,bs [0,1,65],()),(0,bs [0],())]:List aZ)).bind fun ll=>bif RZ.1=1 then(sd ll.1 ([(1,3,bs [],1,()),(0,4,bs [],1,())]:List jP)).bind fun qS=>bif qS then(AH ll.2).bind fun oN=>bif oN.1=1 then(ss oN.2 (0:Int)).bind fun yA=>bif yA.1 then(ss yA.2 (1:Int)).bind fun wh=>bif !wh.1 then(xy wh.2 (1:Int)).bind fun A5=>a (decide (A5.1=0)) else a false else a false else a false else a false else a false) r4) r2
def AJ:Option Bool:=
 yO (fun a0=>some a0)
def N6{R:Type}(a:aB)(b:Bool->Option R):Option R:=
 AJ.bind fun r1=>bif !r1 then AJ.bind fun r2=>b r2 else(nJ a).bind fun r3=>bif r3 then AJ.bind fun r4=>b r4 else(pC a).bind fun r5=>(uE r5).bind fun r6=>Sum.elim (fun(Jm:Int)=>(nK a).bind fun r7=>bif r7 then b false else b (decide (Jm=1))) (fun(Jm:(Int×(aB×(Option ak×Option ak)×Int)))=>(nK a).bind fun r8=>bif r8 then bif Jm.1=0 then(AH Jm.2).bind fun r9=>bif r9.1=0 then(xy r9.2 (0:Int)).bind fun j9=>bif j9.1=0 then(ss j9.2 (1:Int)).bind fun ll=>b (!ll.1) else b false else b false else b false else b false) r6
def CG(a:aB):Option Bool:=
 N6 a (fun a0=>some a0)
end bA

namespace bA
open Go.IntKind renaming wrap->zW,i64->zI,u8->zU
theorem zT{p:Prop}[Decidable p](h:p):decide p=true:=_root_.decide_eq_true h
theorem zF{p:Prop}[Decidable p](h:¬p):decide p=false:=_root_.decide_eq_false h
theorem zC{α:Type}{a b:α}:(bif true then a else b)=a:=rfl
theorem zD{α:Type}{a b:α}:(bif false then a else b)=b:=rfl
open Go Go.Ref
theorem hM:ah=18446744073709551616:=by unfold ah;rfl
theorem zk:maxLen=9223372036854775807:=rfl
theorem zo{x:Int}(h1: -9223372036854775808<=x)(h2:x<=9223372036854775807):zW zI x=x:=zE h1 h2
theorem Ib{n:Nat}(h:n<=9223372036854775807):zW zI (n:Int)=n:=zE (by omega) (by omega)
theorem jF{j:Nat}(h:j<9223372036854775807):zW zI ((j:Int)+1)=((j+1:Nat):Int):=by
 rw[zE (by omega) (by omega)];rfl
theorem aa7(x:Int):IntKind.u64.wrap x=x % 18446744073709551616:=by
 simp [IntKind.wrap,IntKind.signed,IntKind.bits]
theorem acO(x:Int):zW zU x=x % 256:=by
 simp [IntKind.wrap,IntKind.signed,IntKind.bits]
theorem acN{x:Int}(h1:0<=x)(h2:x<18446744073709551616):IntKind.u64.wrap x=x:=by rw[aa7];omega
theorem E7{x:Int}(h1:0<=x)(h2:x<256):zW zU x=x:=by rw[acO];omega
theorem zm{R:Type}{j n:Nat}{x:Option R}(h:j<n):zc (j:Int) n x=x:=Wy h
theorem zj{R:Type}{i:Int}{n:Nat}{x:Option R}(h0:0<=i)(h:i<n):zc i n x=x:=by
 unfold zc
 rw[zT h0,zT h];rfl
theorem aaI{R:Type}{p:Prop}[Decidable p](x y:R):(bif decide p then x else y)=if p then x else y:=by
 by_cases h:p<;>simp [h]
def bl(s:ByteArray):List Int:=s.data.toList.map fun b=>(b.toNat:Int)
theorem lr(s:ByteArray):(bl s).length=s.size:=by unfold bl;rw[List.length_map];rfl
theorem tZ(s:ByteArray)(i:Nat):zd s i=(bl s).getD i 0:=by
 unfold zd bl
 split
 ·rename_i h
  have h':i<s.data.toList.length:=h
  rw[List.getD_eq_getElem?_getD,List.getElem?_map,List.getElem?_eq_getElem h']
  rfl
 ·rename_i h
  have h':s.data.toList.length<=i:=Nat.le_of_not_lt h
  rw[List.getD_eq_getElem?_getD,List.getElem?_eq_none (by simpa using h')]
  rfl
def jH(n:Int):Prop:=0<=n/\n<256
theorem zvz{s:ByteArray}{x:Int}(h:x∈bl s):jH x:=by
 unfold bl at h
 obtain⟨b,_,rfl⟩:=List.mem_map.1 h
 have:=b.toNat_lt
 unfold jH
 omega
theorem Fg{xs:List Int}(h:∀x∈xs,jH x):bl (strOf xs)=xs:=by
 simp only[bl,strOf,List.map_map]
 conv=>rhs;rw[<-List.map_id xs]
 apply List.map_congr_left
 intro x hx
 have:=h x hx
 unfold jH at this
 simp only[Function.comp,id]
 rw[UInt8.toNat_ofNat_of_lt' (by show x.toNat<256;omega)]
 omega
theorem zpj(xs:List Int):(strOf xs).size=xs.length:=by rw[<-lr];unfold bl strOf;simp
section
variable {α σ ρ:Type}
end
end bA
namespace bA
open Go.IntKind renaming wrap->zW,i64->zI,u8->zU
open Go Go.Ref
section
variable {α σ ρ:Type}
def cg(g:Int->α->σ->(σ->Option ρ)->Option ρ)(fin:σ->Option ρ):List α->Int->σ->Option ρ
 | [],_,s=>fin s
 |x::r,i,s=>g i x s fun s'=>cg g fin r (i+1) s'
theorem G7(d:α)(xs:List α)(hlen:xs.length<=9223372036854775807)(g:Int->α->σ->(σ->Option ρ)->Option ρ)(fin:σ->Option ρ)(L:Nat->Int->σ->Option ρ)
 (step:∀k (i:Int) s,L (k+1) i s=bif decide (i<(xs.length:Int)) then zc i xs.length (g i (xs.getD i.toNat d) s fun s'=>L k (zW zI (i+1)) s') else fin s):
 ∀(m j k:Nat) (s:σ),j+m=xs.length->m<k->L k j s=cg g fin (xs.drop j) j s
 |0,j,k,s,hj,hk=>by
  obtain⟨k,rfl⟩:∃k',k=k'+1:=⟨k-1,by omega⟩
  rw[step,zF (by omega),List.drop_eq_nil_of_le (by omega)];rfl
 |m+1,j,k,s,hj,hk=>by
  obtain⟨k,rfl⟩:∃k',k=k'+1:=⟨k-1,by omega⟩
  have aw:j<xs.length:=by omega
  rw[step,zT (by omega),zC,zm aw,List.drop_eq_getElem_cons aw,cg]
  have hx:xs.getD ((j:Int)).toNat d=xs[j]:=by rw[Int.toNat_natCast,List.getD_eq_getElem?_getD,List.getElem?_eq_getElem aw];rfl
  rw[hx]
  congr 1
  funext s'
  rw[jF (by omega),G7 d xs hlen g fin L step m (j+1) k s' (by omega) (by omega)]
  rfl
theorem eB(d:α)(xs:List α)(hlen:xs.length<=maxLen)(g:Int->α->σ->(σ->Option ρ)->Option ρ)(fin:σ->Option ρ)(L:Nat->Int->σ->Option ρ)
 (step:∀k (i:Int) s,L (k+1) i s=bif decide (i<(xs.length:Int)) then zc i xs.length (g i (xs.getD i.toNat d) s fun s'=>L k (zW zI (i+1)) s') else fin s) (s:σ):L ah 0 s=cg g fin xs 0 s:=by
 rw[zk] at hlen
 have:=G7 d xs hlen g fin L step xs.length 0 ah s (by omega) (by rw[hM];omega)
 rw[List.drop_zero] at this
 exact this
theorem G8(d:α)(xs:List α)(hlen:xs.length<=9223372036854775807)(g:Int->α->σ->(σ->Option ρ)->Option ρ)(fin:σ->Option ρ)(L:Nat->Int->σ->Option ρ)
 (step:∀k (i:Int) s,0<=i->i<(xs.length:Int)->L (k+1) i s=g i (xs.getD i.toNat d) s fun s'=>L k (zW zI (i+1)) s') (stop:∀k s,L (k+1) (xs.length:Int) s=fin s):
 ∀(m j k:Nat) (s:σ),j+m=xs.length->m<k->L k j s=cg g fin (xs.drop j) j s
 |0,j,k,s,hj,hk=>by
  obtain⟨k,rfl⟩:∃k',k=k'+1:=⟨k-1,by omega⟩
  have:j=xs.length:=by omega
  subst this
  rw[stop,List.drop_length];rfl
 |m+1,j,k,s,hj,hk=>by
  obtain⟨k,rfl⟩:∃k',k=k'+1:=⟨k-1,by omega⟩
  have aw:j<xs.length:=by omega
  rw[step k j s (by omega) (by omega),List.drop_eq_getElem_cons aw,cg]
  have hx:xs.getD ((j:Int)).toNat d=xs[j]:=by rw[Int.toNat_natCast,List.getD_eq_getElem?_getD,List.getElem?_eq_getElem aw];rfl
  rw[hx]
  congr 1
  funext s'
  rw[jF (by omega),G8 d xs hlen g fin L step stop m (j+1) k s' (by omega) (by omega)]
  rfl
theorem np(d:α)(xs:List α)(hlen:xs.length<=maxLen)(g:Int->α->σ->(σ->Option ρ)->Option ρ)(fin:σ->Option ρ)(L:Nat->Int->σ->Option ρ)
 (step:∀k (i:Int) s,0<=i->i<(xs.length:Int)->L (k+1) i s=g i (xs.getD i.toNat d) s fun s'=>L k (zW zI (i+1)) s') (stop:∀k s,L (k+1) (xs.length:Int) s=fin s) (s:σ):L ah 0 s=cg g fin xs 0 s:=by
 rw[zk] at hlen
 have:=G8 d xs hlen g fin L step stop xs.length 0 ah s (by omega) (by rw[hM];omega)
 rw[List.drop_zero] at this
 exact this
end
end bA

namespace bA
open Go.IntKind renaming wrap->zW,i64->zI,u8->zU
open Go Go.Ref
theorem Bd(n a:Nat)(h:a<2^n):(BitVec.ofInt n (a:Int)).toNat=a:=by
 rw[BitVec.toNat_ofInt]
 have h2:((a:Int)% ((2^n:Nat):Int))=((a % 2^n:Nat):Int):=by rfl
 rw[h2,Int.toNat_natCast,Nat.mod_eq_of_lt h]
theorem zwh{a:Nat}(h:a<18446744073709551616):IntKind.u64.wrap (a:Int)=a:=acN (by omega) (by omega)
theorem vA{a b:Nat}(ha:a<18446744073709551616)(hb:b<18446744073709551616):aU .and .u64 a b=((a&&&b:Nat):Int):=by
 simp only[aU,BitVec.toNat_and,Bd IntKind.u64.bits a ha,Bd IntKind.u64.bits b hb]
 exact zwh (Nat.lt_of_le_of_lt Nat.and_le_left ha)
theorem EL{a b:Nat}(ha:a<18446744073709551616)(hb:b<18446744073709551616):aU .or .u64 a b=((a|||b:Nat):Int):=by
 simp only[aU,BitVec.toNat_or,Bd IntKind.u64.bits a ha,Bd IntKind.u64.bits b hb]
 exact zwh (Nat.or_lt_two_pow (n:=64) ha hb)
theorem aaF{a b:Nat}(ha:a<9223372036854775808)(hb:b<9223372036854775808):aU .and .i64 a b=((a&&&b:Nat):Int):=by
 simp only[aU,BitVec.toNat_and,Bd IntKind.i64.bits a (Nat.lt_trans ha (by decide)),Bd IntKind.i64.bits b (Nat.lt_trans hb (by decide))]
 have:=Nat.lt_of_le_of_lt (Nat.and_le_left (n:=a) (m:=b)) ha
 exact Ib (by omega)
theorem YC(a:Nat)(k:Nat)(hk:k<=64):Int.fdiv (a:Int) (2^min ((k:Int)).toNat 64)=((a/2^k:Nat):Int):=by
 rw[Int.fdiv_eq_ediv_of_nonneg _ (Int.pow_nonneg (by decide)),Int.toNat_natCast,Nat.min_eq_left hk]
 rfl
section
variable {c0 c1 c2 c3 c4 c5 c6 c7:Nat}
end
end bA

