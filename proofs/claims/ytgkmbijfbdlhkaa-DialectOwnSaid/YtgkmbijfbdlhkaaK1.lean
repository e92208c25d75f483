/- No condition. -/
import Derived.Test.YtgkmbijfbdlhkaaK0
import Derived.OpenShut
import Derived.Deep.Slices
import Derived.Shelf.Strings.Repeat
import Derived.KernelRfl
import Derived.Test.YtgkmbijfbdlhkaaProg
set_option linter.unusedVariables false
set_option linter.unusedSimpArgs false
set_option maxRecDepth 100000
namespace Go.Ref
open Go
variable {P:Program} {E:Env} {X:ag} {s:State} {a:Act} {o:Oper} {u:Out}
structure gm(X:ag)(l:List SV)(b:Option aH)(args:Array Value):Prop where
 size:args.size=l.length
 rep:∀(i:Nat) sv v,l[i]? =some sv->args[i]? =some v->ah X (.c i 0) sv v
 ptr:∀id t p,SV.ptr id t p∈l->id=0/\b.isSome=true
 box:∀B,b=some B->∃r,X.β 0=some r/\aG X 0 r B
 rows:b=none->∀g pl n,X.ow g≠ .row pl n
def jj(X Y:ag)(b:Option aH)(r:List SV)(b':Option aH)(v:Value):Prop:=
 ∃r0,bj {Y with β:=fun _=>some r0} .r r v/\
  (∀B',b'=some B'->aG Y 0 r0 B'/\(b.isSome=true->X.β 0=some r0))/\
  ((b'=none\/b.isSome=true)->∀id t p,SV.ptr id t p∉r)
def lk(P:Program)(f:FuncId):Prop:=∃fn c,P.funcs[f]? =some fn/\(fn.name== "runtime.NumGoroutine")=false/\fn.body=some c
def bV(P:Program)(C:ax)(f:FuncId):Prop:=
 ∀(l:List SV) (b:Option aH) (r:List SV) (b':Option aH),C (List SV×Option aH) f l b (fun r b=>some (r,b))=some (r,b')->lk P f/\
  ∀(X:ag) (args:Array Value),gm X l b args->Calls P f args X.w fun e w'=>match e with
   | .returned v=>∃Y,Y.w=w'/\Ext X Y/\jj X Y b r b' v
   |_=>False
def dd(k:Option Nat):Ow->Bool
 | .box id=>decide (k=some id)
 | .row (.b id _) _=>decide (k=some id)
 |_=>false
def cF(k:Option Nat):Ow->Ow
 | .all=> .all
 | .ro n=> .ro n
 | .box id=>if k=some id then .box 0 else .ro 0
 | .row (.b id p) n=>if k=some id then .row (.b 0 p) n else .ro n
 | .row _ n=> .ro n
def cW(k:Option Nat)(d:Nat):Ow->Ow
 | .all=> .all
 | .ro n=> .ro n
 | .box 0=>match k with
   |some id=> .box id
   |none=> .ro 0
 | .box _=> .ro 0
 | .row (.r j p) n=> .row (.c d j p) n
 | .row (.b 0 p) n=>match k with
   |some id=> .row (.b id p) n
   |none=> .ro n
 | .row _ n=> .ro n
theorem uy{k:Option Nat}{w:Ow}{i:Nat}:(cF k w).used i↔w.used i:=by
 cases w with
 |all=>rfl
 |ro n=>rfl
 |box id=>simp only[cF];split<;>simp [Ow.used]
 |row pl n=>
  cases pl with
  |b id p=>simp only[cF];split<;>simp [Ow.used]
  |_=>rfl
theorem yu{k:Option Nat}{d:Nat}{w:Ow}{i:Nat}(h:w.used i):(cW k d w).used i:=by
 cases w with
 |all=>exact h
 |ro n=>exact h
 |box id=>exact h.elim
 |row pl n=>
  cases pl with
  |b id p=>
   cases id with
   |zero=>simp only[cW];split<;>exact h
   |succ id=>exact h
  |c i j p=>exact h
  |r j p=>exact h
theorem z70{k:Option Nat}{w:Ow}(h:dd k w=false):(cF k w).still:=by
 cases w with
 |all=>trivial
 |ro n=>trivial
 |box id=>simp only[dd,decide_eq_false_iff_not] at h;simp only[cF];rw[if_neg h];trivial
 |row pl n=>
  cases pl with
  |b id p=>simp only[dd,decide_eq_false_iff_not] at h;simp only[cF];rw[if_neg h];trivial
  |_=>trivial
def ag.bf(X:ag)(k:Option Nat):ag:=⟨X.w,fun g=>cF k (X.ow g),match k with
 |some id=>fun _=>X.β id
 |none=>X.β⟩
theorem ii{k:Option Nat}{ad:Addr}{v:Value}:(X.bf k).ai ad v↔X.ai ad v:=by
 simp only[ag.ai,ag.bf,uy]
def ag.back(X Y:ag)(k k':Option Nat)(d:Nat)(β:Nat->Option Nat):ag:=
 ⟨Y.w,fun g=>if g<X.w.heap.size/\dd k (X.ow g)=false then X.ow g else cW k' d (Y.ow g),β⟩
section
variable {k k':Option Nat} {d:Nat} {β:Nat->Option Nat} {Y:ag}
theorem kW(h:Ext (X.bf k) Y){g:Nat}(hg:g<X.w.heap.size)(hm:dd k (X.ow g)=false):(X.back Y k k' d β).ow g=X.ow g/\(X.back Y k k' d β).w.heap[g]? =X.w.heap[g]? /\(Y.ow g).still/\Y.ow g=cF k (X.ow g):=by
 obtain⟨h1,h2⟩:=h.still g hg (z70 hm)
 refine⟨by simp only[ag.back];rw[if_pos ⟨hg,hm⟩],h2,?_,h1⟩
 rw[h1];exact z70 hm
theorem qC(h:Ext (X.bf k) Y){g:Nat}(hs:¬(Y.ow g).still):(X.back Y k k' d β).ow g=cW k' d (Y.ow g):=by
 simp only[ag.back]
 rw[if_neg]
 rintro⟨hg,hm⟩
 exact hs (kW (k':=k') (d:=d) (β:=β) h hg hm).2.2.1
theorem zy(h:Ext (X.bf k) Y){ad:Addr}{v:Value}(hs:Y.ai ad v):(X.back Y k k' d β).ai ad v:=by
 refine⟨hs.1,hs.2.1,?_⟩
 simp only[ag.back]
 split
 ·rename_i hc
  have:=(kW (k':=k') (d:=d) (β:=β) h hc.1 hc.2).2.2.2
  have hu:=hs.2.2
  rw[this,uy] at hu
  exact hu
 ·exact yu hs.2.2
theorem q7(h:Ext (X.bf k) Y)(hβ:β 0=X.β 0):Ext X (X.back Y k k' d β) where
 ai:=fun ad v hs=>zy h (h.ai ad v (ii.2 hs))
 size:=h.size
 os:=h.os
 tape:=h.tape
 output:=h.output
 β0:=hβ
 still:=fun g hg bm=>by
  have hm:dd k (X.ow g)=false:=by cases hx:X.ow g<;>rw[hx] at bm<;>first|rfl|exact bm.elim
  obtain⟨h1,h2,_⟩:=kW (k':=k') (d:=d) (β:=β) h hg hm
  exact⟨h1,h2⟩
theorem aD.back(h:Ext (X.bf k) Y){pl:Place}(dg:∀n,dd k (.row pl n)=false){e:TypeId}{m n:Nat}{v:Value}(ho:aD X pl e m n v):aD (X.back Y k k' d β) pl e m n v:=by
 rcases ho with ho|⟨g,cap,cur,h1,h2,h3,h4,h5,h6⟩
 ·exact .inl ho
 ·obtain⟨k1,k2,_⟩:=kW (k':=k') (d:=d) (β:=β) h (kZ h2) (by rw[h6];exact dg _)
  exact .inr ⟨g,cap,cur,h1,k2.trans h2,h3,h4,h5,k1.trans h6⟩
theorem aC.back(h:Ext (X.bf k) Y){pl:List Nat->Place}(dg:∀p n,dd k (.row (pl p) n)=false){t:Ty}{x:El t}{cs:List Value}{own:List (List Nat)}(ho:aC X pl t x cs own):aC (X.back Y k k' d β) pl t x cs own:=fun p hp=>by
 obtain⟨e,t',xs,v,g0,g1,g2,g3⟩:=ho p hp
 exact⟨e,t',xs,v,g0,g1,g2,g3.back h (dg p)⟩
theorem aC.out(h:Ext (X.bf k) Y){pl de:List Nat->Place}(dg:∀p n,cW k' d (.row (pl p) n)= .row (de p) n){t:Ty}{x:El t}{cs:List Value}{own:List (List Nat)}(ho:aC Y pl t x cs own):aC (X.back Y k k' d β) de t x cs own:=fun p hp=>by
 obtain⟨e,t',xs,v,g0,g1,g2,g3⟩:=ho p hp
 refine⟨e,t',xs,v,g0,g1,g2,?_⟩
 rcases g3 with ho|⟨g,cap,cur,h1,h2,h3,h4,h5,h6⟩
 ·exact .inl ho
 ·refine .inr ⟨g,cap,cur,h1,h2,h3,h4,h5,?_⟩
  rw[qC h (by rw[h6];exact fun e=>e),h6,dg]
theorem ah.back(h:Ext (X.bf k) Y){i j:Nat}{sv:SV}{v:Value}(hβ:∀id t p,sv= .ptr id t p->β id=X.β id)(hr:ah X (.c i j) sv v):ah (X.back Y k k' d β) (.c i j) sv v:=by
 cases sv with
 |undef=>trivial
 |skip=>exact hr
 |bc=>exact hr
 |cH=>exact hr
 |over=>exact hr
 |aj t x own=>
  obtain⟨cs,h1,h2,h3⟩:=hr
  exact⟨cs,h1.af (fun _ _ hs=>zy h (h.ai _ _ (ii.2 hs))),h2,h3.back h (fun _ _=>rfl)⟩
 |ptr id t p=>
  obtain⟨r,h1,h2⟩:=hr
  exact⟨r,(hβ id t p rfl).trans h1,h2⟩
 |view t x=>
  obtain⟨ad,cs,h1,h2,h3,h4⟩:=hr
  exact⟨ad,cs,h1,h2,h3.af (fun _ _ hs=>zy h (h.ai _ _ (ii.2 hs))),fun i u hi=>zy h (h.ai _ _ (ii.2 (h4 i u hi)))⟩
 |cap f t x u y=>exact ij (fun _ _ hs=>zy h (h.ai _ _ (ii.2 hs))) hr
theorem aG.back(h:Ext (X.bf k) Y){id r:Nat}{B:aH}(hk:k≠some id)(hb:aG X id r B):aG (X.back Y k k' d β) id r B:=by
 obtain⟨h3,h1⟩:=hb
 have hm:dd k (X.ow r)=false:=by rw[h3];simp [dd,hk]
 obtain⟨k1,k2,_⟩:=kW (k':=k') (d:=d) (β:=β) h h1.lt hm
 exact⟨k1.trans h3,h1.move (fun _ _ hs=>zy h (h.ai _ _ (ii.2 hs))) k2 (fun cs h4=>h4.back h (fun _ _=>by simp [dd,hk])) fun _ g o ho hw=>by
  obtain⟨e1,e2,_⟩:=kW (k':=k') (d:=d) (β:=β) h (kZ ho) (by rw[hw];simp [dd,hk])
  exact⟨e2.trans ho,e1.trans hw⟩⟩
theorem aG.out(h:Ext (X.bf k) Y){id r:Nat}{B:aH}(hk:k'=some id)(hb:aG Y 0 r B):aG (X.back Y k k' d β) id r B:=by
 obtain⟨h3,h1⟩:=hb
 refine⟨?_,h1.move (fun _ _ hs=>zy h hs) rfl (fun cs h4=>h4.out h (fun p n=>by simp [cW,hk])) fun _ g o ho hw=>⟨ho,by rw[qC h (by rw[hw];exact fun hh=>hh),hw];simp [cW,hk]⟩⟩
 rw[qC h (by rw[h3];exact fun e=>e),h3]
 simp [cW,hk]
theorem ah.out(h:Ext (X.bf k) Y){r0 id j:Nat}{sv:SV}{v:Value}(hβ:∀aS t p,sv= .ptr aS t p->β id=some r0)(hr:ah {Y with β:=fun _=>some r0} (.r j) sv v):ah (X.back Y k k' d β) (.c d j) (sv.cJ id) v:=by
 cases sv with
 |undef=>trivial
 |skip=>exact hr
 |bc=>exact hr
 |cH=>exact hr
 |over=>exact hr
 |aj t x own=>
  obtain⟨cs,h1,h2,h3⟩:=hr
  have h3:aC Y (.r j) t x cs own:=h3
  exact⟨cs,az.af (fun ad v (hs:({Y with β:=fun _=>some r0}:ag).ai ad v)=>zy (Y:=Y) h hs) h1,h2,h3.out h (fun _ _=>rfl)⟩
 |ptr aS t p=>
  obtain⟨r,h1,h2⟩:=hr
  have h1:some r0=some r:=h1
  cases h1
  exact⟨r0,hβ aS t p rfl,h2⟩
 |view t x=>
  obtain⟨ad,cs,h1,h2,h3,h4⟩:=hr
  exact⟨ad,cs,h1,h2,az.af (fun ad v (hs:({Y with β:=fun _=>some r0}:ag).ai ad v)=>zy (Y:=Y) h hs) h3,fun i u hi=>zy h (show Y.ai _ _ from h4 i u hi)⟩
 |cap f t x u y=>exact ij (X:={Y with β:=fun _=>some r0}) (fun ad v (hs:({Y with β:=fun _=>some r0}:ag).ai ad v)=>zy (Y:=Y) h hs) hr
theorem Rel.back(h:Ext (X.bf k) Y)(hr:Rel X s a)(hβ:∀(id:Nat) B,s.bs[id]? =some (some B)->β id=X.β id)(hk:∀(id:Nat) B,s.bs[id]? =some (some B)->k≠some id):Rel (X.back Y k k' d β) s a where
 size:=hr.size
 cL:=hr.cL
 aL:=fun i l v hl hv=>(hr.aL i l v hl hv).dE fun j sv u hm dC=>dC.back h (fun id t p e=>by
  obtain⟨B,hB⟩:=hr.live i l id t p hl (e▸List.mem_of_getElem? hm)
  exact hβ id B hB)
 boxes:=fun id B hB=>by
  obtain⟨r,h1,h2⟩:=hr.boxes id B hB
  exact⟨r,(hβ id B hB).trans h1,h2.back h (hk id B hB)⟩
 live:=hr.live
 defers:=hr.defers
theorem Rel.iC(h:Ext (X.bf k) Y)(hr:Rel X s a){id r:Nat}{B B':aH}(hb:s.bs[id]? =some (some B))(hk:k=some id)(lZ:k'=some id)(hβ:X.β id=some r)(hB:aG Y 0 r B'):Rel (X.back Y k k' d X.β) (s.ao (some (id,B'))) a where
 size:=hr.size
 cL:=by simpa [State.ao] using hr.cL
 aL:=fun i l v hl hv=>(hr.aL i l v hl hv).dE fun j sv u hm dC=>dC.back h (fun _ _ _ _=>rfl)
 boxes:=fun aS B2 bB=>by
  have aw:id<s.bs.length:=(List.getElem?_eq_some_iff.1 hb).1
  simp only[State.ao,List.getElem?_set] at bB
  by_cases e:id=aS
  ·subst e
   rw[if_pos rfl,if_pos aw] at bB
   cases bB;exact⟨r,hβ,hB.out h lZ⟩
  ·rw[if_neg e] at bB
   obtain⟨r',h1,h2⟩:=hr.boxes aS B2 bB
   exact⟨r',h1,h2.back h (by rw[hk];intro e2;cases e2;exact e rfl)⟩
 live:=fun i l aS t p hi hm=>by
  have aw:id<s.bs.length:=(List.getElem?_eq_some_iff.1 hb).1
  obtain⟨B2,bB⟩:=hr.live i l aS t p hi hm
  simp only[State.ao,List.getElem?_set]
  by_cases e:id=aS
  ·subst e;exact⟨B',by rw[if_pos rfl,if_pos aw]⟩
  ·rw[if_neg e];exact⟨B2,bB⟩
 defers:=hr.defers
end
theorem ah.bf{k:Option Nat}{pl de:List Nat->Place}{t:Ty}{x:El t}{w:List (List Nat)}{v:Value}(hr:ah X pl (.aj t x w) v):ah (X.bf k) de (.aj t x []) v:=by
 obtain⟨cs,h1,h2,_⟩:=hr
 exact⟨cs,h1.af (fun _ _=>ii.2),h2,zr⟩
theorem aG.bf{id r:Nat}{B:aH}(hb:aG X id r B):aG (X.bf (some id)) 0 r B:=by
 obtain⟨h3,h1⟩:=hb
 refine⟨by simp [ag.bf,h3,cF],h1.move (fun _ _=>ii.2) rfl (fun cs h4 p hp=> ?_) fun _ g o ho hw=>⟨ho,by simp [ag.bf,hw,cF]⟩⟩
 obtain⟨e,t',xs,v,g0,g1,g2,g3⟩:=h4 p hp
 refine⟨e,t',xs,v,g0,g1,g2,?_⟩
 rcases g3 with ho|⟨g,cap,cur,k1,k2,k3,k4,k5,k6⟩
 ·exact .inl ho
 ·exact .inr ⟨g,cap,cur,k1,k2,k3,k4,k5,by simp [ag.bf,k6,cF]⟩
theorem uR(hr:Rel X s a):∀(vs:List (SV×Value)) (l:List SV) (b:Option (Nat×aH)),(∀x∈vs,∃q,ah X q x.1 x.2)->zx s (vs.map (·.1))=some (l,b)->l.length=vs.length/\
 (∀id B,b=some (id,B)->s.bs[id]? =some (some B))/\
 (∀id t p,SV.ptr id t p∈l->id=0/\b.isSome=true)/\
 ∀k,(∀id B,b=some (id,B)->k=some id)->∀(i:Nat) sv x,l[i]? =some sv->vs[i]? =some x->∀q,ah (X.bf k) q sv x.2:=by
 intro vs
 induction vs with
 |nil=>
  intro l b _ h
  simp only[List.map_nil,zx,Option.some.injEq,Prod.mk.injEq] at h
  obtain⟨rfl,rfl⟩:=h
  refine⟨rfl,(fun id B e=>by cases e),(fun id t p hm=>by cases hm),fun k _ i sv x hl=>by simp at hl⟩
 |cons x r ih=>
  intro l b fW h
  simp only[List.map_cons,zx] at h
  split at h
  ·cases h
  rename_i l1 b1 h1
  obtain⟨i1,i2,i3,i4⟩:=ih l1 b1 (fun y hy=>fW y (List.mem_cons_of_mem _ hy)) h1
  obtain⟨q0,hx⟩:=fW x List.mem_cons_self
  have fin:∀(sv:SV),l=sv::l1->(∀id B,b1=some (id,B)->b=b1)->(∀id B,b=some (id,B)->s.bs[id]? =some (some B))->(∀id t p,sv= .ptr id t p->id=0/\b.isSome=true)->
   (∀k,(∀id B,b=some (id,B)->k=some id)->∀q,ah (X.bf k) q sv x.2)->l.length=(x::r).length/\
   (∀id B,b=some (id,B)->s.bs[id]? =some (some B))/\
   (∀id t p,SV.ptr id t p∈l->id=0/\b.isSome=true)/\
   ∀k,(∀id B,b=some (id,B)->k=some id)->∀(i:Nat) sv y,l[i]? =some sv->(x::r)[i]? =some y->∀q,ah (X.bf k) q sv y.2:=by
   intro sv hl hb aU bp au
   subst hl
   refine⟨by simp [i1],aU,fun id t p hm=> ?_,fun k hk i xm y hl hv=> ?_⟩
   ·rcases List.mem_cons.1 hm with e|hm
    ·exact bp id t p e.symm
    ·obtain⟨j1,j2⟩:=i3 id t p hm
     cases nu:b1 with
     |none=>rw[nu] at j2;cases j2
     |some bb=>rw[hb bb.1 bb.2 nu];exact⟨j1,j2⟩
   ·cases i with
    |zero=>
     simp only[List.getElem?_cons_zero,Option.some.injEq] at hl hv
     subst hl hv
     exact au k hk
    |succ i=>
     simp only[List.getElem?_cons_succ] at hl hv
     exact i4 k (fun id B e=>hk id B (by rw[hb id B e];exact e)) i xm y hl hv
  obtain⟨x1,x2⟩:=x
  simp only at h hx fin
  split at h
  ·cases h
   exact fin _ rfl (fun _ _ _=>rfl) i2 (fun _ _ _ e=>by cases e) (fun k _ q=>hx.bf)
  ·cases h
   exact fin _ rfl (fun _ _ _=>rfl) i2 (fun _ _ _ e=>by cases e) (fun k _ q=>hx)
  ·cases h
   refine fin _ rfl (fun _ _ _=>rfl) i2 (fun _ _ _ e=>by cases e) (fun k _ q=> ?_)
   obtain⟨ad,cs,g1,g2,g3,g4⟩:=hx
   exact⟨ad,cs,g1,g2,g3.af (fun _ _=>ii.2),fun i w hi=>ii.2 (g4 i w hi)⟩
  ·rename_i id t
   split at h
   case h_2=>cases h
   rename_i B hB
   split at h
   case isFalse=>cases h
   cases h
   obtain⟨rr,g1,g2⟩:=hx
   refine fin _ rfl (fun _ _ e=>by cases e) (fun id B e=>by cases e;exact gk hB) (fun _ _ _ e=>by cases e;exact⟨rfl,rfl⟩) (fun k hk q=> ?_)
   have:=hk id B rfl
   subst this
   exact⟨rr,g1,g2⟩
  ·cases h
def dZ(P:Program)(X:ag)(s:State)(a:Act)(o:Oper)(u:Out):Prop:=
 ∀(next:Act->World->Prop) (Q:Exit->Act->World->Prop),(∀Y v,Ext X Y->Rel Y (s.apply o.dst u) (a.put o.dst v)->next (a.put o.dst v) Y.w)->o.wp P a X.w next Q
theorem al.does(h:al P X s a o u):dZ P X s a o u:=fun next Q hn=>by
 obtain⟨Y,v,h1,h2,h3⟩:=h
 unfold Oper.wp
 rcases h1 with h1|⟨h1,rfl⟩
 ·rw[h1,Oper.upon_value];exact hn Y v h2 h3
 ·rw[h1,Oper.upon_skip];exact hn Y _ h2 h3
theorem zH{f:FuncId}(h:lk P f){bR:Array Operand}{ts:Array TypeId}(ho:o.op= .call ⟨.value (.func f),bR,ts⟩)(w:World):(execOp a.eval o).run P w= .ok (.enter f (bR.map a.eval)) w:=by
 obtain⟨fn,c,h1,h2,h3⟩:=h
 simp [execOp,ho,resolve,Deferred.ofValue,Act.eval,invoke,callFunc,h1,h3]
 simpa using h2
theorem uh{l:List SV}{id:Nat}(h:∀id t p,SV.ptr id t p∉l):l.map (SV.cJ id)=l:=by
 induction l with
 |nil=>rfl
 |cons v r ih=>
  rw[List.map_cons,ih (fun id t p hm=>h id t p (List.mem_cons_of_mem _ hm))]
  congr 1
  cases v<;>first|rfl|skip
  exact absurd (List.mem_cons_self) (h _ _ _)
theorem rC{k k':Option Nat}{d:Nat}{β:Nat->Option Nat}{Y:ag}(h:Ext (X.bf k) Y){r0 id:Nat}{r:List SV}{v:Value}(hβ:∀aS t p,SV.ptr aS t p∈r->β id=some r0)(hr:bj {Y with β:=fun _=>some r0} .r r v):bj (X.back Y k k' d β) (.c d) (r.map (SV.cJ id)) v:=by
 match r,hr with
 | [sv],hr=>exact ah.out h (fun aS t p e=>hβ aS t p (by simp [e])) hr
 | [],⟨vs,h1,h2,h3⟩=>exact⟨vs,h1,h2,fun j s u hs=>by simp at hs⟩
 |x::y::r,⟨vs,h1,h2,h3⟩=>
  refine⟨vs,h1,by simpa using h2,fun j sv u hs hu=> ?_⟩
  have hs:((x::y::r).map (SV.cJ id))[j]? =some sv:=hs
  rw[List.getElem?_map] at hs
  obtain⟨s0,cz,rfl⟩:=Option.map_eq_some_iff.1 hs
  exact ah.out h (fun aS t p e=>hβ aS t p (e▸List.mem_of_getElem? cz)) (h3 j s0 u cz hu)
theorem yt:∀g pl n,(X.bf none).ow g≠ .row pl n:=fun g pl n=>by
 show cF none (X.ow g)≠_
 cases X.ow g with
 |row q m=>cases q<;>simp [cF]
 |_=>simp [cF]
theorem qF(hr:Rel X s a){C:ax}(hC:C.Nat){f:FuncId}(hf:bV P C f){vs:List (SV×Value)}(kd:∀x∈vs,∃q,ah X q x.1 x.2)(c8:lk P f->(execOp a.eval o).run P X.w= .ok (.enter f (vs.map (·.2)).toArray) X.w)(h:b9 (C Out) s o.dst f (vs.map (·.1)) some=some u):dZ P X s a o u:=by
 have aA:=c8
 clear c8
 unfold b9 at h
 have enter:∀(l:List SV) (b:Option (Nat×aH)) (k:Option Nat),zx s (vs.map (·.1))=some (l,b)->(∀id B,b=some (id,B)->k=some id)->(b=none->k=none)->gm (X.bf k) l (b.map (·.2)) (vs.map (·.2)).toArray:=by
  intro l b k aV hk l4
  obtain⟨i1,i2,i3,i4⟩:=uR hr vs l b kd aV
  refine⟨by simpa using i1.symm,fun i sv v hl hv=> ?_,fun id t p hm=> ?_,fun B hB=> ?_,fun hb=> ?_⟩
  ·rw[List.getElem?_toArray,List.getElem?_map] at hv
   obtain⟨x,hx,rfl⟩:=Option.map_eq_some_iff.1 hv
   exact i4 k hk i sv x hl hx _
  ·obtain⟨j1,j2⟩:=i3 id t p hm
   exact⟨j1,by simpa using j2⟩
  ·obtain⟨bb,sT,rfl⟩:=Option.map_eq_some_iff.1 hB
   obtain⟨id,B⟩:=bb
   obtain⟨r,h1,h2⟩:=hr.boxes id B (i2 id B sT)
   have:=hk id B sT
   subst this
   exact⟨r,h1,h2.bf⟩
  ·have hb:b=none:=by cases b<;>simp at hb⊢
   rw[l4 hb]
   exact yt
 split at h
 ·rename_i l aV
  obtain⟨⟨r,b'⟩,gy,h⟩:=zo (hC Out _ f l none _ (fun r b=>some (r,b)) (fun z=>match z.2 with
   |none=>some {v:=z.1}
   |some B=>match o.dst with
    |some d=>match s.bs[d+1]? with
     |some none=>some {v:=z.1.map (SV.cJ (d+1)),bx:=some (d+1,B)}
     |_=>none
    |none=>none) (fun r b=>rfl)) h
  obtain⟨c8,gK⟩:=hf l none r b' gy
  have gi:=enter l none none aV (fun id B e=>by cases e) (fun _=>rfl)
  intro next Q hn
  unfold Oper.wp
  rw[aA c8,Oper.upon_enter]
  refine(gK (X.bf none) _ gi).mono fun e w' he=> ?_
  cases e with
  |returned v=>
   obtain⟨Y,rfl,aB,r0,au,aU,gM⟩:=he
   simp only at h
   cases b' with
   |none=>
    cases h
    have hp:=gM (.inl rfl)
    have aQ:=q7 (k':=none) (d:=o.dst.getD 0) (β:=X.β) aB rfl
    refine hn (X.back Y none none (o.dst.getD 0) X.β) v aQ ?_
    refine(Rel.back (k':=none) aB hr (fun _ _ _=>rfl) (fun _ _ _=>by simp)).fin ?_ (fun id t p hm=>absurd hm (hp id t p))
    have:=rC (k':=none) (d:=o.dst.getD 0) (β:=X.β) (id:=0) aB (fun aS t p hm=>absurd hm (hp aS t p)) au
    rw[uh hp] at this
    exact this
   |some B=>
    simp only at h
    split at h
    case h_2=>cases h
    rename_i d hd
    split at h
    case h_2=>cases h
    rename_i dB
    cases h
    have aw:d+1<s.bs.length:=(List.getElem?_eq_some_iff.1 dB).1
    obtain⟨hB,_⟩:=aU B rfl
    let β:Nat->Option Nat:=fun id=>if id=d+1 then some r0 else X.β id
    have hβd:β (d+1)=some r0:=by simp [β]
    have aQ:=q7 (k':=some (d+1)) (d:=d) (β:=β) aB (by simp [β])
    refine hn (X.back Y none (some (d+1)) d β) v aQ ?_
    have aE:=(Rel.back (k':=some (d+1)) (d:=d) (β:=β) aB hr (fun id B2 bB=>by
     show(if _ then _ else _)=_
     rw[if_neg (fun e=>by rw[e,dB] at bB;cases bB)]) (fun _ _ _=>by simp)).cC aw dB hβd (hB.out aB rfl)
    rw[hd]
    refine aE.put (fun d' e=> ?_) (fun id t p hm=> ?_)
    ·cases e
     exact rC aB (fun _ _ _ _=>hβd) au
    ·obtain⟨s0,_,sX⟩:=List.mem_map.1 hm
     have:id=d+1:=by
      cases s0<;>simp [SV.cJ] at sX
      exact sX.1.symm
     subst this
     exact⟨B,by simp [State.close,State.ao,List.getElem?_set,aw]⟩
  |panicked c=>exact he.elim
  |outgrown=>exact he.elim
 ·rename_i l id B aV
  obtain⟨⟨r,b'⟩,gy,h⟩:=zo (hC Out _ f l (some B) _ (fun r b=>some (r,b)) (fun z=>match z.2 with
   |some B'=>if B'.t.aX B.t=true then some {v:=z.1,bx:=some (id,B')} else none
   |none=>none) (fun r b=>rfl)) h
  obtain⟨c8,gK⟩:=hf l (some B) r b' gy
  have gi:=enter l (some (id,B)) (some id) aV (fun id B e=>by cases e;rfl) (fun e=>by cases e)
  obtain⟨_,i2,_,_⟩:=uR hr vs l _ kd aV
  have hb:=i2 id B rfl
  intro next Q hn
  unfold Oper.wp
  rw[aA c8,Oper.upon_enter]
  refine(gK (X.bf (some id)) _ gi).mono fun e w' he=> ?_
  cases e with
  |returned v=>
   obtain⟨Y,rfl,aB,r0,au,aU,gM⟩:=he
   simp only at h
   cases b' with
   |none=>cases h
   |some B'=>
    simp only at h
    split at h
    case isFalse=>cases h
    cases h
    have hp:=gM (.inr rfl)
    obtain⟨hB,hβ⟩:=aU B' rfl
    have hβ:=hβ rfl
    have aQ:=q7 (k':=some id) (d:=o.dst.getD 0) (β:=X.β) aB rfl
    refine hn (X.back Y (some id) (some id) (o.dst.getD 0) X.β) v aQ ?_
    refine(Rel.iC (k:=some id) (k':=some id) aB hr hb rfl rfl hβ hB).fin ?_ (fun id t p hm=>absurd hm (hp id t p))
    have:=rC (k':=some id) (d:=o.dst.getD 0) (β:=X.β) (id:=0) aB (fun aS t p hm=>absurd hm (hp aS t p)) au
    rw[uh hp] at this
    exact this
  |panicked c=>exact he.elim
  |outgrown=>exact he.elim
 ·cases h
theorem qB(hr:Rel X s a)(bR:Array Operand):∀x∈bR.toList.map (fun x=>(s.ak x,a.eval x)),∃q,ah X q x.1 x.2:=fun x hx=>by
 obtain⟨y,_,rfl⟩:=List.mem_map.1 hx
 exact⟨_,hr.ak y⟩
theorem uL{X:ag}{pl:List Nat->Place}{sv:SV}{v:Value}(h:ah X pl sv v):ah X pl sv.shut v:=by
 cases sv with
 |aj t x own=>
  obtain⟨cs,h1,h2,_⟩:=h
  exact⟨cs,h1,h2,zr⟩
 |_=>exact h
theorem Ae{X:ag}{pl:Nat->List Nat->Place}{l:List SV}{v:Value}(h:bj X pl l v):bj X pl (l.map SV.shut) v:=by
 match l,h with
 | [sv],h=>exact uL (sv:=sv) h
 | [],h=>exact h
 |x::y::r,⟨vs,g1,g2,g3⟩=>
  refine⟨vs,g1,by simpa using g2,fun j sv u eo hu=> ?_⟩
  have eo:((x::y::r).map SV.shut)[j]? =some sv:=eo
  rw[List.getElem?_map] at eo
  obtain⟨s0,cz,rfl⟩:=Option.map_eq_some_iff.1 eo
  exact uL (g3 j s0 u cz hu)
theorem Ad{l:List SV}{j:Nat}{t:Ty}{p:List Nat}(h:SV.ptr j t p∈l.map SV.shut):SV.ptr j t p∈l:=by
 obtain⟨s0,cz,he⟩:=List.mem_map.1 h
 cases s0<;>first|(cases he;done)|(rw[<-he];exact cz)|skip
theorem Rel.aP(hr:Rel X s a){d:Nat}{l:List SV}:Rel X {s with sl:=s.sl.set d l} a->Rel X {s with sl:=s.sl.set d (l.map SV.shut)} a:=fun h=>{
 size:=by simpa using hr.size
 cL:=by simpa using hr.cL
 aL:=fun i l' v hl hv=>by
  replace hl:(s.sl.set d (l.map SV.shut))[i]? =some l':=hl
  rw[List.getElem?_set] at hl
  split at hl
  ·rename_i iH
   split at hl
   ·cases hl
    rename_i aw
    exact Ae (h.aL i l v (by show(s.sl.set d l)[i]? =_;rw[List.getElem?_set,if_pos iH,if_pos aw]) hv)
   ·cases hl
  ·rename_i iH
   exact h.aL i l' v (by show(s.sl.set d l)[i]? =_;rw[List.getElem?_set,if_neg iH];exact hl) hv
 boxes:=h.boxes
 live:=fun i l' id t p hl hm=>by
  replace hl:(s.sl.set d (l.map SV.shut))[i]? =some l':=hl
  rw[List.getElem?_set] at hl
  split at hl
  ·rename_i iH
   split at hl
   ·cases hl
    rename_i aw
    exact h.live i l id t p (by show(s.sl.set d l)[i]? =_;rw[List.getElem?_set,if_pos iH,if_pos aw]) (Ad hm)
   ·cases hl
  ·rename_i iH
   exact h.live i l' id t p (by show(s.sl.set d l)[i]? =_;rw[List.getElem?_set,if_neg iH];exact hl) hm
 defers:=h.defers}
theorem dZ.shut(h:dZ P X s a o u):dZ P X s a o u.shut:=fun next Q hn=>h next Q fun Y v aB aE=>hn Y v aB (by
 unfold State.apply at aE⊢
 show Rel Y (((s.close u.cl).ao u.bx).ar o.dst (u.v.map SV.shut)) _
 generalize(s.close u.cl).ao u.bx=s1 at*
 cases hd:o.dst with
 |none=>rw[hd] at aE;exact aE
 |some d=>
  rw[hd] at aE
  have e:=Rel.aP (X:=Y) (s:={s1 with sl:=s1.sl.set d u.v}) (a:=a.put (some d) v) (d:=d) (l:=u.v) aE (by
   show Rel Y {s1 with sl:=(s1.sl.set d u.v).set d u.v} _
   rw[List.set_set];exact aE)
  show Rel Y {s1 with sl:=s1.sl.set d (u.v.map SV.shut)} _
  have e2:Rel Y {s1 with sl:=(s1.sl.set d u.v).set d (u.v.map SV.shut)} (a.put (some d) v):=e
  rw[List.set_set] at e2
  exact e2)
theorem yZ(hr:Rel X s a){C:ax}(hC:C.Nat){f:FuncId}(hf:bV P C f){ops:List Oper}{bR:Array Operand}{ts:Array TypeId}(ho:o.op= .call ⟨.value (.func f),bR,ts⟩)(h:act E (C Out) ops o s some=some u):dZ P X s a o u:=by
 unfold act at h
 simp only[ho] at h
 obtain⟨u0,h0,h1⟩:=zo (nV hC (F:=fun u=>some (bif bZ E o.dst then u.shut else u)) (G:=some) (K:=fun u=>some (bif bZ E o.dst then u.shut else u)) (fun _=>rfl)) h
 have hd:dZ P X s a o u0:=by
  refine qF hr hC hf (qB hr bR) (fun c8=> ?_) (by rw[List.map_map];exact h0)
  rw[zH c8 ho]
  congr 2
  apply Array.toList_inj.1
  simp [Function.comp_def]
 cases hs:bZ E o.dst with
 |false=>rw[hs] at h1;cases h1;exact hd
 |true=>rw[hs] at h1;cases h1;exact hd.shut
theorem Bx{f:FuncId}(h:lk P f){x:Operand}{v:Value}{bR:Array Operand}{ts:Array TypeId}(ho:o.op= .call ⟨.value x,bR,ts⟩)(hx:a.eval x= .func (.func f) #[] #[v])(w:World):(execOp a.eval o).run P w= .ok (.enter f (bR.map a.eval++ #[v])) w:=by
 obtain⟨fn,c,h1,h2,h3⟩:=h
 simp [execOp,ho,resolve,Deferred.ofValue,hx,invoke,callFunc,h1,h3]
 simpa using h2
theorem AD{f:FuncId}(h:lk P f){x:Operand}{v v2:Value}{bR:Array Operand}{ts:Array TypeId}(ho:o.op= .call ⟨.value x,bR,ts⟩)(hx:a.eval x= .func (.func f) #[] #[v,v2])(w:World):(execOp a.eval o).run P w= .ok (.enter f (bR.map a.eval++ #[v,v2])) w:=by
 obtain⟨fn,c,h1,h2,h3⟩:=h
 simp [execOp,ho,resolve,Deferred.ofValue,hx,invoke,callFunc,h1,h3]
 simpa using h2
theorem yd(hr:Rel X s a){C:ax}(hC:C.Nat)(hf:∀f,bV P C f){ops:List Oper}{y:Nat}{bR:Array Operand}{ts:Array TypeId}(ho:o.op= .call ⟨.value (.tmp y),bR,ts⟩)(h:act E (C Out) ops o s some=some u):dZ P X s a o u:=by
 unfold act at h
 simp only[ho] at h
 split at h
 case h_3=>cases h
 case h_2=>
  rename_i f t x1 u' y1 bK
  have hx:=hr.ak (.tmp y)
  rw[bK] at hx
  obtain⟨ad,fC,cs,bS,hv,⟨g2,g3,g4⟩,k2,k3,k4⟩:=hx
  refine qF hr hC (hf f) (vs:=bR.toList.map (fun x=>(s.ak x,a.eval x))++ [(.view t x1,.pointer (some ad)),(.view u' y1,.pointer (some fC))]) (fun x hx=> ?_) (fun c8=> ?_) (by rw[List.map_append,List.map_map];exact h)
  ·rcases List.mem_append.1 hx with hx|hx
   ·exact qB hr bR x hx
   ·rcases List.mem_cons.1 hx with rfl|hx
    ·exact⟨.r 0,ad,cs,rfl,g2,g3,g4⟩
    ·rw[List.mem_singleton.1 hx]
     exact⟨.r 0,fC,bS,rfl,k2,k3,k4⟩
  ·rw[AD c8 ho hv]
   congr 2
   apply Array.toList_inj.1
   simp [Function.comp_def]
 rename_i id f t b bK
 have hx:=hr.ak (.tmp y)
 rw[bK] at hx
 obtain⟨r0,hβ,hv⟩:=hx
 have hv:a.eval (.tmp y)= .func (.func f) #[] #[.pointer (some ⟨r0,0,none⟩)]:=hv
 split at h
 case isTrue=>cases h
 rename_i hs
 refine qF hr hC (hf f) (vs:=bR.toList.map (fun x=>(s.ak x,a.eval x))++ [(.ptr id t [],.pointer (some ⟨r0,0,none⟩))]) (fun x hx=> ?_) (fun c8=> ?_) (by rw[List.map_append,List.map_map];exact h)
 ·rcases List.mem_append.1 hx with hx|hx
  ·exact qB hr bR x hx
  ·rw[List.mem_singleton.1 hx]
   exact⟨.r 0,r0,hβ,(rA (by simpa using hs)).2 ⟨by simp [Ty.off],by simp [Ty.b5]⟩⟩
 ·rw[Bx c8 ho hv]
  congr 2
  apply Array.toList_inj.1
  simp [Function.comp_def]
end Go.Ref

namespace Go.Ref
open Go
variable {P:Program} {E:Env} {X:ag} {s:State} {a:Act} {o:Oper} {u:Out}
theorem Aw(hE:ae P E)(hr:Rel X s a){C:ax}(hC:C.Nat)(hf:∀f,bV P C f){ops:List Oper}(h:act E (C Out) ops o s some=some u):dZ P X s a o u:=by
 cases ho:o.op with
 |move x=>exact(zA hr ho h).does
 |assign x=>exact(xU hr ho h).does
 |pick c x y=>exact(zE hr ho h).does
 |binOp op T x y T'=>exact(AJ hE hr ho h).does
 |unOp op T x=>exact(BB hr ho h).does
 |convert S T x=>exact(y6 hE hr ho h).does
 |load T x=>exact(y9 hE hr ho h).does
 |store T x y=>exact(yk hE hr ho h).does
 |nilCheck x=>exact(xC hr ho h).does
 |fieldAddr T x j=>exact(xx hE hr ho h).does
 |indexAddr T x i=>exact(xy hE hr ho h).does
 |index T x i=>exact(yi hE hr ho h).does
 |field T x j=>exact(yh hE hr ho h).does
 |slice T x lo hi mx=>
  cases mx with
  |none=>exact(AL hE hr ho h).does
  |some m=>unfold act at h;simp only[ho] at h;cases h
 |alloc T=>exact(yb hE hr ho h).does
 |box T x=>exact(AK hE hr ho h).does
 |build T parts=>exact(yc hE hr ho h).does
 |buildSlice T n parts=>exact(xw hE hr ho h).does
 |extract x j=>exact(xH hr ho h).does
 |makeMap T r=>exact(xK hE hr ho h).does
 |lookup T x i ok=>exact(xV hE hr ho h).does
 |mapUpdate T m k x=>exact(tF hE hr (.inl ho) h).does
 |insert T m k x=>exact(tF hE hr (.inr ho) h).does
 |range T x=>exact(yj hE hr ho h).does
 |next x str=>exact(zB hr ho h).does
 |makeSlice T l c=>exact(xA hE hr ho h).does
 |makeFunc fn fi ca=>exact(xB hr ho h).does
 |call c=>
  obtain⟨callee,args,ts⟩:=c
  cases callee with
  |value x=>
   cases x with
   |func f=>exact yZ hr hC (hf f) ho h
   |tmp y=>exact yd hr hC hf ho h
   |_=>unfold act at h;simp only[ho] at h;cases h
  |builtin b=>
   cases b with
   |len=>exact(AM (x:= .const Go.undef) (T:=0) hE hr ho h).does
   |append=>exact(xT hE hr ho h).does
   |copy=>exact(y7 hE hr ho h).does
   |max=>exact(uu (g:=true) hr ho h).does
   |min=>exact(uu (g:=false) hr ho h).does
   |_=>unfold act at h;simp only[ho] at h;cases h
  |_=>unfold act at h;simp only[ho] at h;cases h
 |_=>unfold act at h;simp only[ho] at h;cases h
theorem Rel.know(hr:Rel X s a){d:Nat}{p:Bool}{o:List (List Nat)}(h:s.slot d=[.aj .bool p o]):Rel X (s.ar (some d) (bl p)) a/\a.tmps[d]? =some (.bool p):=by
 have hd:d<s.sl.length:=by
  rcases Nat.lt_or_ge d s.sl.length with h1|h1
  ·exact h1
  ·simp [State.slot,List.getElem?_eq_none h1] at h
 have gA:d<a.tmps.size:=by rw[<-hr.size];exact hd
 have hv:a.tmps[d]? =some (a.tmps.getD d Go.undef):=by simp [Array.getElem?_eq_getElem gA]
 have hs:=hr.slot d
 rw[h] at hs
 have hb:=mK (X:=X) hs
 rw[hb] at hv
 refine⟨?_,hv⟩
 have pN:a.put (some d) (.bool p)=a:=by
  cases a with
  |mk tmps defers=>
   simp only[Act.put,Act.mk.injEq,and_true]
   apply Array.ext_getElem?
   intro i
   rw[Array.getElem?_setIfInBounds]
   split
   ·rename_i e
    subst e
    first
     |exact hv.symm
     |(rw[if_pos gA];exact hv.symm)
   ·rfl
 have:=hr.put (d:=some d) (l:=bl p) (v:= .bool p) (fun _ _=>zm) (fun id t q hm=>by simp [bl] at hm)
 rw[pN] at this
 exact this
theorem rW(hE:ae P E)(hr:Rel X s a){C:ax}(hC:C.Nat)(hf:∀f,bV P C f){ops:Array Oper}{i:Nat}(hi:ops[i]? =some o){s':State}(h:step E (C State) ops.toList o s some=some s'){Q:Exit->Act->World->Prop}{K:Act->World->Prop}
 (hK:∀Y a',Ext X Y->Rel Y s' a'->K a' Y.w):wpOp P ops Q i K a X.w:=by
 unfold wpOp
 simp only[hi]
 have ib:∀{s1:State},Rel X s1 a->(act E (C State) ops.toList o s1 fun u=>some (s1.apply o.dst u))=some s'->o.wp P a X.w K Q:=by
  intro s1 cN h1
  obtain⟨u,hu,h2⟩:=zo (je hC (F:=fun u=>some (s1.apply o.dst u)) (G:=some) (K:=fun u=>some (s1.apply o.dst u)) (fun _=>rfl)) h1
  cases h2
  exact Aw hE cN hC hf hu K Q (fun Y v aB aE=>hK Y _ aB aE)
 have dp:∀{s1:State},Rel X s1 a->some (s1.ar o.dst [.skip])=some s'->K (a.put o.dst Go.undef) X.w:=by
  intro s1 cN h1
  cases h1
  exact hK X _ (Ext.refl X) (cN.skip o.dst)
 unfold step at h
 simp only at h
 split at h
 ·rename_i hg
  have hw:Region.wanted o (yielded ops a.tmps)=true:=by simp [Region.wanted,hg]
  rw[if_pos hw]
  exact .inl (ib hr h)
 ·rename_i g want hg
  split at h
  ·cases h
  rename_i d hd
  have sW:(ops[g]?).bind (·.dst)=some d:=by simpa [m6] using hd
  split at h
  ·rename_i p hs
   obtain⟨cN,hv⟩:=hr.know hs
   have hy:yielded ops a.tmps g=some p:=by simp [yielded,sW,hv]
   have hw:Region.wanted o (yielded ops a.tmps)=(p==want):=by simp [Region.wanted,hg,hy]
   cases p<;>cases want<;>simp only[cond_true,cond_false] at h<;>rw[hw]
   ·exact .inl (ib cN h)
   ·exact dp cN h
   ·exact dp cN h
   ·exact .inl (ib cN h)
  ·rename_i hs
   have dq:=hr.slot d
   rw[hs] at dq
   have eQ:a.tmps.getD d Go.undef=Go.undef:=dq
   have hy:yielded ops a.tmps g=none:=by
    simp only[yielded,sW,Option.bind_some]
    cases ht:a.tmps[d]? with
    |none=>rfl
    |some v=>
     have:v=Go.undef:=by
      rw[<-eQ]
      simp [Array.getD_eq_getD_getElem?,ht]
     subst this
     rfl
   have hw:Region.wanted o (yielded ops a.tmps)=false:=by simp [Region.wanted,hg,hy]
   rw[hw]
   exact dp hr h
  ·cases h
theorem vi(hE:ae P E){C:ax}(hC:C.Nat)(hf:∀f,bV P C f){ops:Array Oper}{s':State}{Q:Exit->Act->World->Prop}:∀(l:List Nat) (X:ag) (s:State) (a:Act),Rel X s a->(∀i∈l,i<ops.size)->
 steps E (C State) ops.toList (l.map fun i=>ops.getD i default) s some=some s'->(∀Y a',Ext X Y->Rel Y s' a'->Q .normal a' Y.w)->wpOps P ops Q l a X.w
 | [],X,s,a,hr,_,h,hQ=>by
   cases h
   exact hQ X a (Ext.refl X) hr
 |i::r,X,s,a,hr,hl,h,hQ=>by
  simp only[List.map_cons,steps] at h
  obtain⟨s1,h1,h2⟩:=zo (rD hC (F:=fun s=>steps E (C State) ops.toList (r.map fun i=>ops.getD i default) s some) (G:=some) (K:=fun s=>steps E (C State) ops.toList (r.map fun i=>ops.getD i default) s some) (fun _=>rfl)) h
  have hi:ops[i]? =some (ops.getD i default):=by
   have:=hl i (by simp)
   simp [this]
  rw[wpOps_cons]
  refine rW hE hr hC hf hi h1 fun Y a' aB aE=> ?_
  exact vi hE hC hf r Y s1 a' aE (fun j hj=>hl j (List.mem_cons_of_mem _ hj)) h2 fun Z a2 aQ bC=>hQ Z a2 (aB.trans aQ) bC
end Go.Ref

namespace Go.Ref
open Go
variable {P:Program} {E:Env} {X:ag} {s:State} {a:Act} {o:Oper} {u:Out}
theorem ri(i j:Nat):(bit i).testBit j=decide (i=j):=by
 simp [bit,Nat.shiftLeft_eq,Nat.testBit_two_pow]
theorem ja:∀(l:List Nat) (j:Nat),(cU l).testBit j=decide (j∈l)
 | [],j=>by simp [cU]
 |i::r,j=>by
  rw[cU,Nat.testBit_or,ri,ja r j]
  by_cases h:i=j
  ·subst h;simp
  ·have h':¬j=i:=fun e=>h e.symm
   simp [h,h']
theorem nY{a b:Nat}(h:Nat.beq (a&&&b) 0=true)(j:Nat):a.testBit j=true->b.testBit j=false:=by
 intro ha
 have h0:=Nat.eq_of_beq_eq_true h
 have:=congrArg (fun n=>Nat.testBit n j) h0
 simp only[Nat.testBit_and,Nat.zero_testBit,ha,Bool.true_and] at this
 exact this
theorem z40:∀(l:List Edge) (j:Nat),(zk l).testBit j=true->∃e∈l,Region.binds .any e=true/\e.on=j
 | [],j,h=>by simp [zk] at h
 |e::r,j,h=>by
  simp only[zk] at h
  cases hb:Region.binds .any e with
  |false=>
   rw[hb] at h
   obtain⟨e',h1,h2⟩:=z40 r j h
   exact⟨e',List.mem_cons_of_mem _ h1,h2⟩
  |true=>
   rw[hb] at h
   simp only[cond_true,Nat.testBit_or,ri,Bool.or_eq_true,decide_eq_true_eq] at h
   rcases h with h|h
   ·exact⟨e,by simp,hb,h⟩
   ·obtain⟨e',h1,h2⟩:=z40 r j h
    exact⟨e',List.mem_cons_of_mem _ h1,h2⟩
theorem uq:∀(l:List Edge) (e:Edge),e∈l->Region.binds .any e=true->(zk l).testBit e.on=true
 |e'::r,e,h,hb=>by
  simp only[zk]
  rcases List.mem_cons.1 h with rfl|h
  ·rw[hb];simp [Nat.testBit_or,ri]
  ·have:=uq r e h hb
   cases Region.binds .any e'<;>simp [Nat.testBit_or,this]
theorem yP{m i j:Nat}(h:Nat.ble (m+1) (bit i)=true)(hj:m.testBit j=true):j<i:=by
 have h1:m<2^i:=by
  have:=Nat.le_of_ble_eq_true h
  simp only[bit,Nat.shiftLeft_eq,Nat.one_mul] at this
  omega
 rcases Nat.lt_or_ge j i with h2|h2
 ·exact h2
 ·have h3:m<2^j:=Nat.lt_of_lt_of_le h1 (Nat.pow_le_pow_right (by omega) h2)
  rw[Nat.testBit_lt_two_pow h3] at hj
  cases hj
def bU(E:Env)(C:ax)(ops:List Oper)(o:Oper)(s:State):Option Out:=
 match o.guard with
 |none=>act E (C Out) ops o s some
 |some (g,want)=>match m6 ops g with
  |none=>none
  |some d=>match s.slot d with
   | [.aj .bool p []]=>if p=want then act E (C Out) ops o s some else some {v:=[.skip]}
   | [.skip]=>some {v:=[.skip]}
   |_=>none
theorem kX{d:Nat}{l:List SV}(h:s.slot d=l):s.ar (some d) l=s:=by
 cases s with
 |mk sl bs=>
  simp only[State.ar,State.mk.injEq,and_true]
  simp only[State.slot] at h
  apply List.ext_getElem?
  intro i
  rw[List.getElem?_set]
  split
  ·rename_i e
   subst e
   split
   ·rename_i aw
    rw[List.getD_eq_getElem?_getD,List.getElem?_eq_getElem aw] at h
    rw[List.getElem?_eq_getElem aw]
    simpa using h.symm
   ·rename_i aw
    rw[List.getElem?_eq_none (by omega)]
  ·rfl
theorem Ai{C:ax}(hC:C.Nat){R:Type}{ops:List Oper}{i:Nat}{tr:List bI}{K:State->List bI->Option R}{z:R}(h:dX E (C R) ops o i s tr K=some z):
 ∃u,bU E C ops o s=some u/\fits (zk o.after.toList) (zf ops o i s u) tr=true/\K (s.apply o.dst u) (zf ops o i s u::tr)=some z:=by
 have ib:(act E (C R) ops o s fun u=>bif fits (zk o.after.toList) (zf ops o i s u) tr then K (s.apply o.dst u) (zf ops o i s u::tr) else none)=some z->
  ∃u,act E (C Out) ops o s some=some u/\fits (zk o.after.toList) (zf ops o i s u) tr=true/\K (s.apply o.dst u) (zf ops o i s u::tr)=some z:=by
  intro h
  obtain⟨u,h1,h2⟩:=zo (je hC (F:=fun u=>bif fits (zk o.after.toList) (zf ops o i s u) tr then K (s.apply o.dst u) (zf ops o i s u::tr) else none) (G:=some) (K:=fun u=>bif fits (zk o.after.toList) (zf ops o i s u) tr then K (s.apply o.dst u) (zf ops o i s u::tr) else none) (fun _=>rfl)) h
  cases hf:fits (zk o.after.toList) (zf ops o i s u) tr with
  |false=>rw[hf] at h2;cases h2
  |true=>rw[hf] at h2;exact⟨u,h1,hf,h2⟩
 have dp:(bif fits (zk o.after.toList) (zf ops o i s {v:=[.skip]}) tr then K (s.apply o.dst {v:=[.skip]}) (zf ops o i s {v:=[.skip]}::tr) else none)=some z->
  fits (zk o.after.toList) (zf ops o i s {v:=[.skip]}) tr=true/\K (s.apply o.dst {v:=[.skip]}) (zf ops o i s {v:=[.skip]}::tr)=some z:=by
  intro h
  cases hf:fits (zk o.after.toList) (zf ops o i s {v:=[.skip]}) tr with
  |false=>rw[hf] at h;cases h
  |true=>rw[hf] at h;exact⟨rfl,h⟩
 unfold dX at h
 unfold bU
 simp only at h
 split at h
 ·rename_i hg
  try simp only[hg]
  exact ib h
 ·rename_i g want hg
  try simp only[hg]
  split at h
  ·cases h
  rename_i d hd
  try simp only[hd]
  split at h
  ·rename_i p hs
   have eo:s.slot d=bl p:=hs
   try simp only[hs]
   cases p<;>cases want<;>simp only[cond_true,cond_false] at h
   ·rw[kX eo] at h;rw[if_pos rfl];exact ib h
   ·rw[kX eo] at h;rw[if_neg (by simp)];exact⟨_,rfl,dp h⟩
   ·rw[kX eo] at h;rw[if_neg (by simp)];exact⟨_,rfl,dp h⟩
   ·rw[kX eo] at h;rw[if_pos rfl];exact ib h
  ·rename_i hs
   try simp only[hs]
   exact⟨_,rfl,dp h⟩
  ·cases h
theorem x3{C:ax}(hC:C.Nat){ops:List Oper}(h:bU E C ops o s=some u):step E (C State) ops o s some=some (s.apply o.dst u):=by
 have ib:act E (C Out) ops o s some=some u->(act E (C State) ops o s fun u=>some (s.apply o.dst u))=some (s.apply o.dst u):=by
  intro h
  rw[je hC (F:=fun u=>some (s.apply o.dst u)) (G:=some) (K:=fun u=>some (s.apply o.dst u)) (fun _=>rfl),h]
  rfl
 unfold bU at h
 unfold step
 simp only
 split at h
 ·rename_i hg
  try simp only[hg]
  exact ib h
 ·rename_i g want hg
  try simp only[hg]
  split at h
  ·cases h
  rename_i d hd
  try simp only[hd]
  split at h
  ·rename_i p hs
   have eo:s.slot d=bl p:=hs
   try simp only[hs]
   split at h
   ·rename_i e
    subst e
    cases p<;>simp only[cond_true,cond_false]<;>rw[kX eo]<;>exact ib h
   ·rename_i e
    cases h
    cases p<;>cases want<;>simp only[cond_true,cond_false]<;>first|exact absurd rfl e|(rw[kX eo];rfl)
  ·rename_i hs
   try simp only[hs]
   cases h
   rfl
  ·cases h
structure eG(ts bs:List Nat)(s s':State):Prop where
 sl:∀t∈ts,s.slot t=s'.slot t
 bs:∀id∈bs,s.bs[id]? =s'.bs[id]?
theorem Bf{l:List Operand}{t:Nat}:Operand.tmp t∈l->t∈gd l:=by
 induction l with
 |nil=>intro h;cases h
 |cons x r ih=>
  intro h
  rcases List.mem_cons.1 h with e|h
  ·subst e;simp [gd]
  ·have:=ih h
   cases x<;>simp [gd,this]
theorem qY{s s':State}{ts:List Nat}(h:∀t∈ts,s.slot t=s'.slot t){l:List Operand}(hl:∀t∈gd l,t∈ts){x:Operand}(hx:x∈l):s.ak x=s'.ak x:=by
 cases x with
 |tmp t=>simp only[State.ak,State.iS,h t (hl t (Bf hx))]
 |_=>rfl
theorem yx(j:Nat):aP [SV.undef] j=[SV.undef]:=by
 cases j<;>rfl
theorem qx{s:State}{i j t:Nat}:(s.bh i j).slot t=if t=i then aP (s.slot t) j else s.slot t:=by
 simp only[State.bh,State.slot,List.getD_eq_getElem?_getD,List.getElem?_set]
 by_cases e:t=i
 ·subst e
  rw[if_pos rfl,if_pos rfl]
  by_cases aw:t<s.sl.length
  ·rw[if_pos aw];rfl
  ·rw[if_neg aw,List.getElem?_eq_none (by omega)]
   simp [yx]
 ·rw[if_neg e,if_neg (fun h=>e h.symm)]
theorem tO{t:Nat}:∀{c:List (Nat×Nat)} {s s':State},s.slot t=s'.slot t->(s.close c).slot t=(s'.close c).slot t
 | [],s,s',h=>h
 |(i,j)::r,s,s',h=>by
  rw[z21,z21]
  refine tO (c:=r) ?_
  rw[qx,qx,h]
theorem tU{ts:List Nat}:∀{l:List (Nat×Operand)} {s s':State},(∀t∈ts,s.slot t=s'.slot t)->(∀t∈gd (l.map (·.2)),t∈ts)->zt s l=zt s' l
 | [],s,s',h,hl=>rfl
 |(i,x)::r,s,s',h,hl=>by
  have hx:s.ak x=s'.ak x:=qY h hl (by simp)
  have hr:∀c:List (Nat×Nat),zt (s.close c) r=zt (s'.close c) r:=fun c=>tU (fun t ht=>tO (h t ht)) (fun t ht=>hl t (by
   cases x<;>simp [gd,ht]))
  simp only[zt,hx,hr]
theorem nQ{s s':State}:∀{l:List SV},(∀id∈l.flatMap aR,s.box id=s'.box id)->zx s l=zx s' l
 | [],h=>rfl
 |v::r,h=>by
  have hr:zx s r=zx s' r:=nQ fun id cn=>h id (by simp only[List.flatMap_cons,List.mem_append];exact .inr cn)
  simp only[zx,hr]
  split
  ·rfl
  ·rename_i l b _
   cases v with
   |ptr id t p=>
    have hb:s.box id=s'.box id:=h id (by simp [aR])
    cases p with
    |nil=>cases b<;>simp only[hb]
    |cons _ _=>rfl
   |_=>rfl
theorem yK{C:FuncId->aJ Out}{ops:List Oper}{s s':State}(h:eG (looks ops o) (ze s o) s s'):act E C ops o s some=act E C ops o s' some:=by
 have dq:∀t∈gd o.op.operands.toList,s.slot t=s'.slot t:=fun t ht=>h.sl t (by simp only[looks,List.mem_append];exact .inl ht)
 have aW:∀x∈o.op.operands.toList,s.ak x=s'.ak x:=fun x hx=>qY dq (fun _ ht=>ht) hx
 have aU:∀id∈ze s o,s.box id=s'.box id:=fun id cn=>by
  simp only[State.box,List.getD_eq_getElem?_getD,h.bs id cn]
 unfold act
 cases ho:o.op with
 |move x=>
  have ht:eZ s x=eZ s' x:=by
   cases x with
   |tmp t=>
    have:s.slot t=s'.slot t:=dq t (by simp [ho,Op.operands,gd])
    simp only[eZ,this]
   |_=>rfl
  simp only;rw[aW x (by simp [ho,Op.operands]),ht]
 |assign x=>simp only;rw[aW x (by simp [ho,Op.operands])]
 |pick c x y=>simp only;rw[aW c (by simp [ho,Op.operands]),aW x (by simp [ho,Op.operands]),aW y (by simp [ho,Op.operands])]
 |binOp op T x y T'=>simp only;rw[aW x (by simp [ho,Op.operands]),aW y (by simp [ho,Op.operands])]
 |unOp op T x=>simp only;rw[aW x (by simp [ho,Op.operands])]
 |convert S T x=>
  have hx:=aW x (by simp [ho,Op.operands])
  simp only
  rw[<-hx]
  split
  ·rename_i id n ta tb e
   simp only[di,aU id (by simp [ze,ho,e,aR])]
  ·rfl
 |makeMap T r=>
  cases r with
  |some r=>rfl
  |none=>
   simp only
   cases hd:o.dst with
   |none=>rfl
   |some d=>
    have:=h.bs (d+1) (by simp [ze,ho,hd])
    simp only[dy,this]
 |lookup T x i ok=>
  cases ok with
  |true=>rfl
  |false=>
   simp only
   rw[<-aW x (by simp [ho,Op.operands]),<-aW i (by simp [ho,Op.operands])]
   unfold dS iw
   split
   ·split
    ·rename_i e
     simp only[aU _ (by simp only[ze,ho,e,aR];exact List.mem_singleton.2 rfl)]
    ·rfl
   ·rfl
 |mapUpdate T m k x=>
  simp only
  rw[<-aW m (by simp [ho,Op.operands]),<-aW k (by simp [ho,Op.operands]),<-aW x (by simp [ho,Op.operands])]
  unfold eB iw
  split
  ·split
   ·rename_i e
    simp only[aU _ (by simp only[ze,ho,e,aR];exact List.mem_singleton.2 rfl)]
   ·rfl
  ·rfl
 |insert T m k x=>
  simp only
  rw[<-aW m (by simp [ho,Op.operands]),<-aW k (by simp [ho,Op.operands]),<-aW x (by simp [ho,Op.operands])]
  unfold eB iw
  split
  ·split
   ·rename_i e
    simp only[aU _ (by simp only[ze,ho,e,aR];exact List.mem_singleton.2 rfl)]
   ·rfl
  ·rfl
 |range T x=>
  simp only
  rw[<-aW x (by simp [ho,Op.operands])]
  cases hd:o.dst with
  |none=>rfl
  |some d=>
   have:=h.bs (d+1) (by simp [ze,ho,hd])
   simp only[dy,this]
 |next x str=>
  cases str with
  |false=>rfl
  |true=>
   simp only
   rw[<-aW x (by simp [ho,Op.operands])]
   unfold dU
   split
   ·rename_i e
    simp only[aU _ (by simp only[ze,ho,e,aR];exact List.mem_singleton.2 rfl)]
   ·rfl
 |makeSlice T l c=>
  simp only
  rw[<-aW l (by simp [ho,Op.operands]),<-aW c (by simp [ho,Op.operands])]
  cases hd:o.dst with
  |none=>rfl
  |some d=>
   have:=h.bs (d+1) (by simp [ze,ho,hd])
   simp only[dT,dy,this]
 |load T x=>
  have hx:=aW x (by simp [ho,Op.operands])
  simp only
  rw[<-hx]
  unfold load
  split
  ·split
   ·rfl
   ·rename_i id t p e
    simp only[kq,aU id (by simp [ze,ho,e,aR])]
   ·rfl
  ·rfl
 |store T x y=>
  have hx:=aW x (by simp [ho,Op.operands])
  have hy:=aW y (by simp [ho,Op.operands])
  simp only
  rw[<-hx]
  unfold store
  rw[<-hy]
  split
  ·split
   ·rename_i id t p e
    simp only[kp,aU id (by simp [ze,ho,e,aR])]
   ·rfl
  ·rfl
 |nilCheck x=>simp only;rw[aW x (by simp [ho,Op.operands])]
 |fieldAddr T x j=>simp only;rw[aW x (by simp [ho,Op.operands])]
 |indexAddr T x i=>simp only;rw[aW x (by simp [ho,Op.operands]),aW i (by simp [ho,Op.operands])]
 |index T x i=>simp only;rw[aW x (by simp [ho,Op.operands]),aW i (by simp [ho,Op.operands])]
 |field T x j=>simp only;rw[aW x (by simp [ho,Op.operands])]
 |slice T x lo hi mx=>
  cases mx with
  |none=>
   simp only
   have j7:lo.map s.ak=lo.map s'.ak:=by
    cases lo with
    |none=>rfl
    |some l=>simp only[Option.map_some,aW l (by simp [ho,Op.operands])]
   have lY:hi.map s.ak=hi.map s'.ak:=by
    cases hi with
    |none=>rfl
    |some l=>simp only[Option.map_some,aW l (by simp [ho,Op.operands])]
   rw[<-aW x (by simp [ho,Op.operands]),j7,lY]
   split
   ·rfl
   ·rename_i id n t e
    simp only[fR,aU id (by simp [ze,ho,e,aR])]
   ·rfl
  |some m=>rfl
 |makeFunc fn fi ca=>
  cases fn with
  |func f=>
   simp only
   split
   ·rename_i x e1 e2
    have hm:x∈o.op.operands.toList:=by
     simp only[ho,Op.operands,Array.toList_append,List.mem_append,e2]
     exact .inr (by simp)
    rw[aW x hm]
   ·rename_i x y e1 e2
    have hm:∀z∈ [x,y],z∈o.op.operands.toList:=fun z hz=>by
     simp only[ho,Op.operands,Array.toList_append,List.mem_append,e2]
     exact .inr hz
    rw[aW x (hm x (by simp)),aW y (hm y (by simp))]
   ·rfl
  |_=>rfl
 |alloc T=>
  simp only
  cases hd:o.dst with
  |none=>split<;>simp_all
  |some d=>
   have:=h.bs (d+1) (by simp [ze,ho,hd])
   cases E.ty T<;>simp only[this]
 |box T x=>
  have hx:=aW x (by simp [ho,Op.operands])
  simp only
  cases hd:o.dst with
  |none=>split<;>simp_all
  |some d=>
   have:=h.bs (d+1) (by simp [ze,ho,hd])
   cases E.ty T<;>simp only[this,hx]
 |build T parts=>
  have hp:zt s parts.toList=zt s' parts.toList:=tU dq (fun t ht=>by simpa [ho,Op.operands] using ht)
  simp only[hp]
 |buildSlice T n parts=>
  have hp:(parts.toList.map fun p=>(p.1,s.ak p.2))=parts.toList.map fun p=>(p.1,s'.ak p.2):=List.map_congr_left fun p hp=>by
   rw[aW p.2 (by
    simp only[ho,Op.operands]
    exact List.mem_map.2 ⟨p,hp,rfl⟩)]
  simp only[hp]
 |extract x j=>
  cases x with
  |tmp t=>
   have:s.slot t=s'.slot t:=dq t (by simp [ho,Op.operands,gd])
   simp only[this]
  |_=>rfl
 |call c=>
  obtain⟨callee,args,ts⟩:=c
  cases callee with
  |value x=>
   cases x with
   |func f=>
    have aV:args.toList.map s.ak=args.toList.map s'.ak:=List.map_congr_left fun x hx=>aW x (by
     simp only[ho,Op.operands,Call.operands,Array.toList_append,List.mem_append]
     exact .inr hx)
    have dB:zx s (args.toList.map s'.ak)=zx s' (args.toList.map s'.ak):=nQ fun id cn=>aU id (by
     simp only[ze,ho,List.mem_append]
     refine .inl ?_
     rw[<-aV,List.flatMap_map] at cn
     exact cn)
    simp only[b9,aV,dB]
    cases hd:o.dst with
    |none=>rfl
    |some d=>
     have:=h.bs (d+1) (by simp [ze,ho,hd])
     simp only[this]
   |tmp y=>
    have hy:s.ak (.tmp y)=s'.ak (.tmp y):=aW (.tmp y) (by
     simp only[ho,Op.operands,Call.operands,Array.toList_append,List.mem_append]
     exact .inl (by simp))
    have aV:args.toList.map s.ak=args.toList.map s'.ak:=List.map_congr_left fun x hx=>aW x (by
     simp only[ho,Op.operands,Call.operands,Array.toList_append,List.mem_append]
     exact .inr hx)
    simp only
    rw[<-hy]
    split
    ·rename_i id f t b e
     have dB:zx s (args.toList.map s'.ak++ [.ptr id t []])=zx s' (args.toList.map s'.ak++ [.ptr id t []]):=nQ fun aS cn=>aU aS (by
      simp only[ze,ho,List.mem_append,e]
      rw[List.flatMap_append,List.mem_append] at cn
      rcases cn with cn|cn
      ·refine .inl ?_
       rw[<-aV,List.flatMap_map] at cn
       exact cn
      ·exact .inr (.inl (by simpa [aR] using cn)))
     simp only[b9,aV,dB]
     cases hd:o.dst with
     |none=>rfl
     |some d=>
      have:=h.bs (d+1) (by simp [ze,ho,hd])
      simp only[this]
    ·rename_i f t x u y e
     have dB:zx s (args.toList.map s'.ak++ [.view t x,.view u y])=zx s' (args.toList.map s'.ak++ [.view t x,.view u y]):=nQ fun aS cn=>aU aS (by
      simp only[ze,ho,List.mem_append]
      rw[List.flatMap_append,List.mem_append] at cn
      rcases cn with cn|cn
      ·refine .inl ?_
       rw[<-aV,List.flatMap_map] at cn
       exact cn
      ·simp [aR] at cn)
     simp only[b9,aV,dB]
     cases hd:o.dst with
     |none=>rfl
     |some d=>
      have:=h.bs (d+1) (by simp [ze,ho,hd])
      simp only[this]
    ·rfl
   |_=>rfl
  |builtin b=>
   have aV:∀x∈args.toList,s.ak x=s'.ak x:=fun x hx=>aW x (by
    simp only[ho,Op.operands,Call.operands,Array.toList_append,List.mem_append]
    exact .inr hx)
   cases b with
   |copy=>
    simp only
    split
    ·rename_i d x T r e1 e2
     rw[aV x (by rw[e1];simp),<-aV d (by rw[e1];simp)]
     unfold copyV
     split
     ·rename_i e0 t0 id n ta tb hT e
      have hb:s.box id=s'.box id:=aU id (by simp only[ze,ho,e1,List.flatMap_cons,e,aR];exact List.mem_append_left _ (List.mem_singleton.2 rfl))
      simp only[cD,dj,hb]
     ·rename_i e0 t0 id n ta tb l hT e
      have hb:s.box id=s'.box id:=aU id (by simp only[ze,ho,e1,List.flatMap_cons,e,aR];exact List.mem_append_left _ (List.mem_singleton.2 rfl))
      simp only[cD,hb]
     ·rfl
    ·rfl
   |len=>
    simp only
    split
    ·rename_i x T e1 e2
     rw[aV x (by rw[e1];simp)]
    ·rfl
   |append=>
    simp only
    split
    ·rename_i x y T U e1 e2
     rw[aV x (by rw[e1];simp),aV y (by rw[e1];simp)]
    ·rfl
   |max=>
    simp only
    split
    ·rename_i x y e1
     rw[aV x (by rw[e1];simp),aV y (by rw[e1];simp)]
    ·rfl
   |min=>
    simp only
    split
    ·rename_i x y e1
     rw[aV x (by rw[e1];simp),aV y (by rw[e1];simp)]
    ·rfl
   |_=>rfl
  |_=>rfl
 |_=>rfl
end Go.Ref

namespace Go.Ref
open Go
variable {P:Program} {E:Env} {X:ag} {s:State} {a:Act} {o:Oper} {u:Out}
def z59:List (Nat×Nat)->Nat->List SV->List SV
 | [],_,l=>l
 |(i,j)::r,t,l=>z59 r t (if t=i then aP l j else l)
theorem nR{t:Nat}:∀{c:List (Nat×Nat)} {s:State},(s.close c).slot t=z59 c t (s.slot t)
 | [],s=>rfl
 |(i,j)::r,s=>by rw[z21,nR (c:=r),qx];rfl
theorem zp{t:Nat}:∀{c:List (Nat×Nat)} {l:List SV},t∉c.map (·.1)->z59 c t l=l
 | [],l,h=>rfl
 |(i,j)::r,l,h=>by
  simp only[List.map_cons,List.mem_cons,not_or] at h
  simp only[z59]
  rw[if_neg h.1]
  exact zp h.2
theorem kU{d:Option Nat}:(s.apply d u).sl.length=s.sl.length:=by
 cases d with
 |none=>simp only[State.apply,State.ar];cases u.bx<;>simp [State.ao,mQ]
 |some d=>simp only[State.apply,State.ar,List.length_set];cases u.bx<;>simp [State.ao,mQ]
theorem mL{d:Option Nat}{t:Nat}:(s.apply d u).slot t=if d=some t/\t<s.sl.length then u.v else z59 u.cl t (s.slot t):=by
 have hb:∀(s:State) b,(s.ao b).slot t=s.slot t:=fun s b=>by cases b<;>rfl
 cases d with
 |none=>
  simp only[State.apply,State.ar,hb,nR]
  rw[if_neg (by simp)]
 |some d=>
  simp only[State.apply]
  by_cases e:d=t
  ·subst e
   by_cases aw:d<s.sl.length
   ·rw[if_pos ⟨rfl,aw⟩]
    have:d<((s.close u.cl).ao u.bx).sl.length:=by
     have:((s.close u.cl).ao u.bx).sl.length=s.sl.length:=by cases u.bx<;>simp [State.ao,mQ]
     omega
    simp only[State.ar,State.slot,List.getD_eq_getElem?_getD,List.getElem?_set_self this,Option.getD_some]
   ·rw[if_neg (fun h=>aw h.2)]
    have:((s.close u.cl).ao u.bx).sl.length<=d:=by
     have:((s.close u.cl).ao u.bx).sl.length=s.sl.length:=by cases u.bx<;>simp [State.ao,mQ]
     omega
    have h2:(((s.close u.cl).ao u.bx).ar (some d) u.v).slot d=((s.close u.cl).ao u.bx).slot d:=by
     simp only[State.ar,State.slot]
     rw[List.set_eq_of_length_le this]
    rw[h2,hb,nR]
  ·rw[if_neg (fun h=>e (by injection h.1))]
   have h2:(((s.close u.cl).ao u.bx).ar (some d) u.v).slot t=((s.close u.cl).ao u.bx).slot t:=by
    simp only[State.ar,State.slot,List.getD_eq_getElem?_getD,List.getElem?_set_ne e]
   rw[h2,hb,nR]
theorem mW{d:Option Nat}{id:Nat}:(s.apply d u).bs[id]? =match u.bx with
 |some (aS,B)=>if aS=id then(s.bs[id]?).map (fun _=>some B) else s.bs[id]?
 |none=>s.bs[id]? :=by
 have hs:∀(s:State) d l,(s.ar d l).bs=s.bs:=fun s d l=>by cases d<;>rfl
 simp only[State.apply,hs]
 cases hb:u.bx with
 |none=>simp only[State.ao,jc]
 |some b=>
  obtain⟨aS,B⟩:=b
  simp only[State.ao,jc]
  rw[List.getElem?_set]
  by_cases e:aS=id
  ·subst e
   rw[if_pos rfl,if_pos rfl]
   by_cases aw:aS<s.bs.length
   ·rw[if_pos aw,List.getElem?_eq_getElem aw];rfl
   ·rw[if_neg aw,List.getElem?_eq_none (by omega)];rfl
  ·rw[if_neg e,if_neg e]
theorem Ag{s s':State}(h1:s.sl.length=s'.sl.length)(h2:∀t,s.slot t=s'.slot t)(h3:∀id:Nat,s.bs[id]? =s'.bs[id]?):s=s':=by
 cases s with
 |mk sl bs=>
  cases s' with
  |mk B8 BS=>
   simp only[State.mk.injEq]
   refine⟨List.ext_getElem? fun i=> ?_,List.ext_getElem? h3⟩
   have:=h2 i
   simp only[State.slot,List.getD_eq_getElem?_getD] at this h1
   by_cases aw:i<sl.length
   ·rw[List.getElem?_eq_getElem aw,List.getElem?_eq_getElem (by omega)] at this⊢
    simpa using this
   ·rw[List.getElem?_eq_none (by omega),List.getElem?_eq_none (by omega)]
structure jM(R1 W1 b1 c1 R2 W2 b2 c2:List Nat):Prop where
 h1:∀t∈W1,t∉R2/\t∉W2
 h2:∀t∈W2,t∉R1
 h3:∀id∈c1,id∉b2/\id∉c2
 h4:∀id∈c2,id∉b1
theorem xG{o1 o2:Oper}{ops:List Oper}{i1 i2:Nat}{s1 s2:State}{u1 u2:Out}(h:(zf ops o1 i1 s1 u1).apart (zf ops o2 i2 s2 u2)=true):
 jM (looks ops o1) (o1.dst.toList++u1.cl.map (·.1)) (ze s1 o1) (u1.bx.toList.map (·.1)) (looks ops o2) (o2.dst.toList++u2.cl.map (·.1)) (ze s2 o2) (u2.bx.toList.map (·.1)):=by
 simp only[bI.apart,zf,Bool.and_eq_true] at h
 obtain⟨g1,g2,g3,g4⟩:=h
 refine⟨fun t ht=> ?_,fun t ht=> ?_,fun t ht=> ?_,fun t ht=> ?_⟩
 ·have:=nY g1 t (by rw[ja];exact decide_eq_true ht)
  simp only[Nat.testBit_or,ja,Bool.or_eq_false_iff,decide_eq_false_iff_not] at this
  exact this
 ·have:=nY g2 t (by rw[ja];exact decide_eq_true ht)
  simpa only[ja,decide_eq_false_iff_not] using this
 ·have:=nY g3 t (by rw[ja];exact decide_eq_true ht)
  simp only[Nat.testBit_or,ja,Bool.or_eq_false_iff,decide_eq_false_iff_not] at this
  exact this
 ·have:=nY g4 t (by rw[ja];exact decide_eq_true ht)
  simpa only[ja,decide_eq_false_iff_not] using this
theorem tM{d:Option Nat}{ts bs:List Nat}(h1:∀t∈ts,t∉d.toList++u.cl.map (·.1))(h2:∀id∈bs,id∉u.bx.toList.map (·.1)):eG ts bs (s.apply d u) s where
 sl:=fun t ht=>by
  have h:=h1 t ht
  simp only[List.mem_append,not_or] at h
  rw[mL,if_neg (fun hc=>h.1 (by rw[hc.1];simp)),zp h.2]
 bs:=fun id cn=>by
  have h:=h2 id cn
  rw[mW]
  cases hb:u.bx with
  |none=>rfl
  |some b=>
   obtain⟨aS,B⟩:=b
   rw[hb] at h
   simp only
   rw[if_neg (fun e=>h (by simp [e]))]
theorem x9{d1 d2:Option Nat}{u1 u2:Out}(h1:∀t∈d1.toList++u1.cl.map (·.1),t∉d2.toList++u2.cl.map (·.1))(h2:∀id∈u1.bx.toList.map (·.1),id∉u2.bx.toList.map (·.1)):
 (s.apply d1 u1).apply d2 u2=(s.apply d2 u2).apply d1 u1:=by
 refine Ag (by rw[kU,kU,kU,kU]) (fun t=> ?_) (fun id=> ?_)
 ·rw[mL,mL,mL,mL,kU,kU]
  by_cases kC:d1=some t
  ·have hm:t∈d1.toList++u1.cl.map (·.1):=by rw[kC];simp
   have hn:=h1 t hm
   simp only[List.mem_append,not_or] at hn
   have gA:¬d2=some t:=fun e=>hn.1 (by rw[e];simp)
   by_cases aw:t<s.sl.length
   ·rw[if_neg (fun h=>gA h.1),if_pos ⟨kC,aw⟩,zp hn.2,if_pos ⟨kC,aw⟩]
   ·rw[if_neg (fun h=>gA h.1),if_neg (fun h=>aw h.2),if_neg (fun h=>aw h.2),if_neg (fun h=>aw h.2),zp hn.2,zp hn.2]
  ·by_cases gA:d2=some t
   ·have hn:t∉d1.toList++u1.cl.map (·.1):=fun hm=>h1 t hm (by rw[gA];simp)
    simp only[List.mem_append,not_or] at hn
    by_cases aw:t<s.sl.length
    ·rw[if_pos ⟨gA,aw⟩,if_neg (fun h=>kC h.1),if_pos ⟨gA,aw⟩,zp hn.2]
    ·rw[if_neg (fun h=>aw h.2),if_neg (fun h=>aw h.2),if_neg (fun h=>aw h.2),if_neg (fun h=>aw h.2),zp hn.2,zp hn.2]
   ·rw[if_neg (fun h=>gA h.1),if_neg (fun h=>kC h.1),if_neg (fun h=>kC h.1),if_neg (fun h=>gA h.1)]
    by_cases hm:t∈u1.cl.map (·.1)
    ·have hn:=h1 t (by simp only[List.mem_append];exact .inr hm)
     simp only[List.mem_append,not_or] at hn
     rw[zp hn.2,zp hn.2]
    ·rw[zp hm,zp hm]
 ·rw[mW,mW,mW,mW]
  cases nu:u1.bx with
  |none=>rfl
  |some b1=>
   obtain⟨p4,B1⟩:=b1
   cases pk:u2.bx with
   |none=>rfl
   |some b2=>
    obtain⟨tk,B2⟩:=b2
    rw[nu,pk] at h2
    have bp:p4≠tk:=fun e=>h2 p4 (by simp) (by simp [e])
    simp only
    by_cases e1:p4=id
    ·subst e1
     rw[if_neg (fun e=>bp e.symm),if_pos rfl,if_pos rfl,if_neg (fun e=>bp e.symm)]
    ·by_cases e2:tk=id
     ·subst e2
      rw[if_pos rfl,if_neg e1,if_neg e1,if_pos rfl]
     ·rw[if_neg e2,if_neg e1,if_neg e1,if_neg e2]
theorem tV{ops:List Oper}{s s':State}(h:∀t∈looks ops o,s.slot t=s'.slot t):ze s o=ze s' o:=by
 have aW:∀x∈o.op.operands.toList,s.ak x=s'.ak x:=fun x hx=>qY (ts:=gd o.op.operands.toList) (fun t ht=>h t (by simp only[looks,List.mem_append];exact .inl ht)) (fun _ ht=>ht) hx
 unfold ze
 cases ho:o.op with
 |load T x=>simp only;rw[aW x (by simp [ho,Op.operands])]
 |store T x y=>simp only;rw[aW x (by simp [ho,Op.operands])]
 |convert S T x=>simp only;rw[aW x (by simp [ho,Op.operands])]
 |slice T x lo hi mx=>simp only;rw[aW x (by simp [ho,Op.operands])]
 |lookup T x i ok=>simp only;rw[aW x (by simp [ho,Op.operands])]
 |mapUpdate T m k x=>simp only;rw[aW m (by simp [ho,Op.operands])]
 |insert T m k x=>simp only;rw[aW m (by simp [ho,Op.operands])]
 |next x str=>simp only;rw[aW x (by simp [ho,Op.operands])]
 |call c=>
  obtain⟨callee,args,ts⟩:=c
  have:(args.toList.map fun x=>aR (s.ak x))=args.toList.map fun x=>aR (s'.ak x):=List.map_congr_left fun x hx=>by
   rw[aW x (by
    simp only[ho,Op.operands,Call.operands,Array.toList_append,List.mem_append]
    exact .inr hx)]
  cases callee with
  |value f=>
   simp only
   have hf:s.ak f=s'.ak f:=aW f (by
    simp only[ho,Op.operands,Call.operands,Array.toList_append,List.mem_append]
    exact .inl (by simp))
   rw[hf,List.flatMap_def,List.flatMap_def,this]
  |builtin b=>
   cases b with
   |copy=>simp only;rw[List.flatMap_def,List.flatMap_def,this]
   |_=>rfl
  |_=>rfl
 |_=>rfl
theorem uI{C:ax}{ops:List Oper}{s s':State}(h:eG (looks ops o) (ze s o) s s'):bU E C ops o s=bU E C ops o s':=by
 unfold bU
 rw[yK h]
 split
 ·rfl
 ·rename_i g want hg
  split
  ·rfl
  ·rename_i d hd
   rw[h.sl d (by simp [looks,hg,hd])]
theorem swap{C:ax}{ops:List Oper}{o1 o2:Oper}{i1 i2:Nat}{u1 u2:Out}(h1:bU E C ops o1 s=some u1)(h2:bU E C ops o2 (s.apply o1.dst u1)=some u2)(h:(zf ops o1 i1 s u1).apart (zf ops o2 i2 (s.apply o1.dst u1) u2)=true):
 bU E C ops o2 s=some u2/\zf ops o2 i2 s u2=zf ops o2 i2 (s.apply o1.dst u1) u2/\bU E C ops o1 (s.apply o2.dst u2)=some u1/\zf ops o1 i1 (s.apply o2.dst u2) u1=zf ops o1 i1 s u1/\
  (s.apply o2.dst u2).apply o1.dst u1=(s.apply o1.dst u1).apply o2.dst u2:=by
 have hp:=xG h
 have sH:eG (looks ops o2) (ze (s.apply o1.dst u1) o2) (s.apply o1.dst u1) s:=tM (fun t ht hm=>(hp.h1 t hm).1 ht) (fun id cn hm=>(hp.h3 id hm).1 cn)
 have cN:=tV (ops:=ops) (o:=o2) sH.sl
 have oV:eG (looks ops o1) (ze s o1) (s.apply o2.dst u2) s:=tM (fun t ht hm=>hp.h2 t hm ht) (fun id cn hm=>hp.h4 id hm cn)
 have cq:=tV (ops:=ops) (o:=o1) oV.sl
 refine⟨by rw[<-uI sH];exact h2,by simp only[zf,cN],?_,by simp only[zf,cq],(x9 (fun t ht=>(hp.h1 t ht).2) (fun id cn=>(hp.h3 id cn).2)).symm⟩
 rw[uI (s:=s.apply o2.dst u2) (s':=s) ⟨oV.sl,fun id cn=>oV.bs id (by rw[<-cq];exact cn)⟩]
 exact h1
end Go.Ref

namespace Go.Ref
open Go
variable {P:Program} {E:Env} {X:ag} {s:State} {a:Act} {o:Oper} {u:Out}
def fM(E:Env)(C:ax)(ops:Array Oper):List Nat->State->List bI->State->Prop
 | [],s,tr,z=>s=z/\tr=[]
 |i::r,s,f::tr,z=>∃u,bU E C ops.toList (ops.getD i default) s=some u/\f=zf ops.toList (ops.getD i default) i s u/\fM E C ops r (s.apply (ops.getD i default).dst u) tr z
 |_::_,_,[],_=>False
def oU(ops:Array Oper)(i:Nat):Nat:=zk (ops.getD i default).after.toList
def jL(ops:Array Oper)(a b:bI):Prop:=(oU ops b.i).testBit a.i=true\/a.apart b=true
theorem vM{C:ax}{ops:Array Oper}:∀{l:List Nat} {s z:State} {tr:List bI},fM E C ops l s tr z->tr.map (·.i)=l
 | [],s,z,tr,h=>by rw[h.2];rfl
 |i::r,s,z,f::tr,h=>by
  obtain⟨u,_,rfl,h3⟩:=h
  simp only[List.map_cons,vM h3]
  rfl
 |_::_,s,z,[],h=>h.elim
theorem tW{C:ax}(hC:C.Nat){ops:Array Oper}{z:State}:∀(l:List Nat) (i:Nat) (s:State) (tr:List bI),(∀(j:Nat) k,l[j]? =some k->k=i+j)->
 z31 E (C State) ops.toList (l.map fun k=>ops.getD k default) i s tr some=some z->∃kl,fM E C ops l s kl z/\(∀a∈tr,∀b∈kl,jL ops a b)/\kl.Pairwise (jL ops)/\∀k∈l,Nat.ble (oU ops k+1) (bit k)=true
 | [],i,s,tr,hl,h=>by
   cases h
   exact⟨[],⟨rfl,rfl⟩,(fun a _ b hb=>by cases hb),List.Pairwise.nil,fun k hk=>by cases hk⟩
 |k::r,i,s,tr,hl,h=>by
  have hk:k=i:=by simpa using hl 0 k rfl
  subst hk
  simp only[List.map_cons,z31] at h
  obtain⟨u,h1,h2,h3⟩:=Ai hC h
  obtain⟨kl,r1,r2,r3,r4⟩:=tW hC r (k+1) _ _ (fun j k' hj=>by
   have:=hl (j+1) k' hj
   omega) h3
  simp only[fits,Bool.and_eq_true] at h2
  obtain⟨vQ,pf⟩:=h2
  have pf:=List.all_eq_true.1 pf
  refine⟨zf ops.toList (ops.getD k default) k s u::kl,⟨u,h1,rfl,r1⟩,fun a ha b hb=> ?_,?_,fun k' lZ=> ?_⟩
  ·rcases List.mem_cons.1 hb with rfl|hb
   ·have:=pf a ha
    simp only[Bool.or_eq_true] at this
    exact this
   ·exact r2 a (List.mem_cons_of_mem _ ha) b hb
  ·exact List.pairwise_cons.2 ⟨fun b hb=>r2 _ (by simp) b hb,r3⟩
  ·rcases List.mem_cons.1 lZ with rfl|lZ
   ·exact vQ
   ·exact r4 k' lZ
theorem vl{C:ax}{ops:Array Oper}{z:State}{i:Nat}{q:List Nat}:∀(p:List Nat) (s:State) (tr:List bI),fM E C ops (p++i::q) s tr z->(∀(tp:List bI) f tq,tr=tp++f::tq->tp.length=p.length->∀a∈tp,a.apart f=true)->
 ∃tp f tq u,tr=tp++f::tq/\tp.length=p.length/\bU E C ops.toList (ops.getD i default) s=some u/\f=zf ops.toList (ops.getD i default) i s u/\fM E C ops (p++q) (s.apply (ops.getD i default).dst u) (tp++tq) z
 | [],s,[],h,lR=>h.elim
 | [],s,f::tr,h,lR=>by
   obtain⟨u,h1,h2,h3⟩:=h
   exact⟨[],f,tr,u,rfl,rfl,h1,h2,h3⟩
 |j::p,s,[],h,lR=>h.elim
 |j::p,s,g::tr,h,lR=>by
  obtain⟨uj,h1,h2,h3⟩:=h
  obtain⟨tp,f,tq,u,e1,e2,k1,k2,k3⟩:=vl p _ tr h3 (fun tp f tq e hl a ha=>lR (g::tp) f tq (by rw[e];rfl) (by simp [hl]) a (List.mem_cons_of_mem _ ha))
  have hg:=lR (g::tp) f tq (by rw[e1];rfl) (by simp [e2]) g (by simp)
  rw[h2,k2] at hg
  obtain⟨w1,w2,w3,w4,w5⟩:=swap h1 k1 hg
  refine⟨g::tp,f,tq,u,by rw[e1];rfl,by simp [e2],w1,by rw[k2,w2],uj,w3,by rw[h2,w4],?_⟩
  rw[w5]
  exact k3
theorem Bb{l:List Nat}{i:Nat}(h:i∈l):∃p q,l=p++i::q:=List.append_of_mem h
theorem ym{p q:List Nat}{i:Nat}(h:(p++i::q).Nodup):(p++i::q).filter (fun j=> !(Nat.beq j i))=p++q:=by
 have h':=List.nodup_append.1 h
 have hp:∀j∈p,j≠i:=fun j hj=>h'.2.2 j hj i (by simp)
 have hq:∀j∈q,j≠i:=fun j hj e=>by
  have:=(List.nodup_cons.1 h'.2.1).1
  rw[e] at hj;exact this hj
 rw[List.filter_append,List.filter_cons]
 have hb:∀j,j≠i->(!(Nat.beq j i))=true:=fun j hj=>by
  cases hh:Nat.beq j i with
  |false=>rfl
  |true=>exact absurd (Nat.eq_of_beq_eq_true hh) hj
 rw[List.filter_eq_self.2 (fun j hj=>hb j (hp j hj)),List.filter_eq_self.2 (fun j hj=>hb j (hq j hj))]
 have:(!(Nat.beq i i))=false:=by simp
 rw[this]
 simp
def rest(n:Nat)(aq:Array Bool):List Nat:=(List.range n).filter fun i=> !aq.getD i true
theorem A7{n:Nat}{aq:Array Bool}(hs:aq.size=n){i:Nat}{p q:List Nat}(h:rest n aq=p++i::q):rest n (aq.setIfInBounds i true)=p++q:=by
 have pH:(rest n aq).Nodup:=List.nodup_range.filter _
 rw[h] at pH
 rw[<-ym pH,<-h]
 simp only[rest,List.filter_filter]
 refine List.filter_congr fun j hj=> ?_
 have wj:=List.mem_range.1 hj
 by_cases e:j=i
 ·subst e
  have:(aq.setIfInBounds j true).getD j true=true:=by simp [Array.getD_eq_getD_getElem?,hs,wj]
  rw[this];simp
 ·have h1:(aq.setIfInBounds i true).getD j true=aq.getD j true:=by
   simp only[Array.getD_eq_getD_getElem?]
   rw[Array.getElem?_setIfInBounds_ne (fun h=>e h.symm)]
  have h2:Nat.beq j i=false:=by
   cases hh:Nat.beq j i with
   |false=>rfl
   |true=>exact absurd (Nat.eq_of_beq_eq_true hh) e
  rw[h1,h2];simp
theorem uK{ops:Array Oper}{aq:Array Bool}{i:Nat}(h:i∈Region.ready .any ops aq):i∈rest ops.size aq/\∀e∈(ops.getD i default).after.toList,Region.binds .any e=true->aq.getD e.on false=true:=by
 unfold Region.ready at h
 obtain⟨h1,h2⟩:=List.mem_filter.1 h
 have hi:=List.mem_range.1 h1
 rw[Bool.and_eq_true] at h2
 refine⟨List.mem_filter.2 ⟨h1,h2.1⟩,fun e he hb=> ?_⟩
 have h3:=h2.2
 rw[Array.getElem?_eq_getElem hi] at h3
 simp only[Option.map_some,Option.getD_some] at h3
 have bd:ops.getD i default=ops[i]:=by simp [hi]
 rw[bd] at he
 have h4:=Array.all_eq_true_iff_forall_mem.1 h3 e (by simpa using he)
 rw[hb] at h4
 simpa using h4
theorem A6{ops:Array Oper}{aq:Array Bool}{i:Nat}(h:i∈rest ops.size aq)(ha:∀e∈(ops.getD i default).after.toList,Region.binds .any e=true->aq.getD e.on false=true):i∈Region.ready .any ops aq:=by
 obtain⟨h1,h2⟩:=List.mem_filter.1 h
 have hi:=List.mem_range.1 h1
 refine List.mem_filter.2 ⟨h1,?_⟩
 rw[Bool.and_eq_true]
 refine⟨h2,?_⟩
 have bd:ops.getD i default=ops[i]:=by simp [hi]
 rw[Array.getElem?_eq_getElem hi]
 simp only[Option.map_some,Option.getD_some]
 refine Array.all_eq_true_iff_forall_mem.2 fun e he=> ?_
 cases hb:Region.binds .any e with
 |false=>rfl
 |true=>
  rw[ha e (by rw[bd];simpa using he) hb]
  simp
theorem AN(hE:ae P E){C:ax}(hC:C.Nat)(hf:∀f,bV P C f){ops:Array Oper}{z:State}{Q:Exit->Act->World->Prop}(pC:∀k,k<ops.size->Nat.ble (oU ops k+1) (bit k)=true):
 ∀(aZ:Nat) (aq:Array Bool) (X:ag) (s:State) (a:Act) (tr:List bI),Rel X s a->aq.size=ops.size->aZ=(rest ops.size aq).length->fM E C ops (rest ops.size aq) s tr z->tr.Pairwise (jL ops)->
  (∀Y a',Ext X Y->Rel Y z a'->Q .normal a' Y.w)->wpAny P .any ops Q aZ aq a X.w:=by
 intro aZ
 have done:∀(aq:Array Bool),aq.size=ops.size->Region.ready .any ops aq=[]->rest ops.size aq=[]:=by
  intro aq hs hr
  rcases hl:rest ops.size aq with _|⟨i,r⟩
  ·rfl
  have dn:i∈rest ops.size aq:=by rw[hl];simp
  have cw:=List.mem_range.1 (List.mem_filter.1 dn).1
  have gN:i∈Region.ready .any ops aq:=by
   refine A6 dn fun e he hb=> ?_
   have aw:e.on<i:=yP (pC i cw) (uq _ e he hb)
   cases hx:aq.getD e.on false with
   |true=>rfl
   |false=>
    exfalso
    have gE:e.on<aq.size:=by omega
    have wW:aq.getD e.on true=false:=by
     simp only[Array.getD_eq_getD_getElem?,Array.getElem?_eq_getElem gE,Option.getD_some] at hx⊢
     exact hx
    have hm:e.on∈rest ops.size aq:=List.mem_filter.2 ⟨List.mem_range.2 (by omega),by rw[wW];rfl⟩
    have fG:(rest ops.size aq).Pairwise (· < ·):=List.pairwise_lt_range.filter _
    rw[hl] at fG hm
    rcases List.mem_cons.1 hm with e1|hm
    ·omega
    ·have:=(List.pairwise_cons.1 fG).1 _ hm
     omega
  rw[hr] at gN
  cases gN
 induction aZ with
 |zero=>
  intro aq X s a tr hr hs kD dQ mg hQ
  have gI:rest ops.size aq=[]:=List.eq_nil_of_length_eq_zero kD.symm
  rw[gI] at dQ
  obtain⟨rfl,_⟩:=dQ
  refine⟨?_,hQ X a (Ext.refl X) hr⟩
  rcases wL:Region.ready .any ops aq with _|⟨i,r⟩
  ·rfl
  ·have:=(uK (i:=i) (by rw[wL];simp)).1
   rw[gI] at this
   cases this
 |succ aZ ih=>
  intro aq X s a tr hr hs kD dQ mg hQ
  refine⟨fun l9=> ?_,fun i hi=> ?_⟩
  ·rw[done aq hs l9] at kD
   cases kD
  ·obtain⟨dn,pj⟩:=uK hi
   obtain⟨p,q,nE⟩:=Bb dn
   have cw:=List.mem_range.1 (List.mem_filter.1 dn).1
   rw[nE] at dQ
   have iM:=vM dQ
   obtain⟨tp,f,tq,u,e1,e2,k1,k2,k3⟩:=vl p s tr dQ (fun tp f tq e hl a' sS=>by
    have iI:f.i=i:=by
     rw[e,List.map_append,List.map_cons] at iM
     have:=List.append_inj iM (by simp [hl])
     injection this.2
    have vU:a'.i∈p:=by
     rw[e,List.map_append,List.map_cons] at iM
     have:=List.append_inj iM (by simp [hl])
     rw[<-this.1]
     exact List.mem_map.2 ⟨a',sS,rfl⟩
    rw[e] at mg
    have lV:=(List.pairwise_append.1 mg).2.2 a' sS f (by simp)
    rcases lV with hb|hb
    ·exfalso
     rw[iI] at hb
     obtain⟨ed,vX,vY,vZ⟩:=z40 _ _ hb
     have gD:=pj ed vX vY
     have bX:a'.i∈rest ops.size aq:=by rw[nE];exact List.mem_append_left _ vU
     have fk:=(List.mem_filter.1 bX).2
     have aw:=List.mem_range.1 (List.mem_filter.1 bX).1
     have gE:a'.i<aq.size:=by omega
     rw[vZ] at gD
     simp only[Array.getD_eq_getD_getElem?,Array.getElem?_eq_getElem gE,Option.getD_some] at gD fk
     rw[gD] at fk
     cases fk
    ·exact hb)
   have bX:=A7 hs nE
   have wh:ops[i]? =some (ops.getD i default):=by simp [cw]
   refine rW hE hr hC hf wh (x3 hC k1) fun Y a' aB aE=> ?_
   refine ih (aq.setIfInBounds i true) Y _ a' (tp++tq) aE (by simp [hs]) ?_ (by rw[bX];exact k3) ?_ (fun Z a2 aQ bC=>hQ Z a2 (aB.trans aQ) bC)
   ·rw[bX]
    rw[nE] at kD
    simp only[List.length_append,List.length_cons] at kD⊢
    omega
   ·rw[e1] at mg
    obtain⟨a1,a2,a3⟩:=List.pairwise_append.1 mg
    exact List.pairwise_append.2 ⟨a1,(List.pairwise_cons.1 a2).2,fun x hx y hy=>a3 x hx y (List.mem_cons_of_mem _ hy)⟩
theorem zG(hE:ae P E)(hm:P.follows .mixedOrders=true){C:ax}(hC:C.Nat)(hf:∀f,bV P C f){id:Nat}{ops:Array Oper}{z:State}{Q:Exit->Act->World->Prop}(hr:Rel X s a)(h:z31 E (C State) ops.toList ops.toList 0 s [] some=some z)
 (hQ:∀Y a',Ext X Y->Rel Y z a'->Q .normal a' Y.w):(Code.region id ops true).wp P Q a X.w:=by
 have fq:(List.range ops.size).map (fun i=>ops.getD i default)=ops.toList:=by
  apply List.ext_getElem?
  intro i
  rw[List.getElem?_map]
  by_cases hi:i<ops.size
  ·simp [hi]
  ·simp [hi]
 have bX:rest ops.size (Array.replicate ops.size false)=List.range ops.size:=by
  refine List.filter_eq_self.2 fun i hi=> ?_
  have:=List.mem_range.1 hi
  simp [this]
 obtain⟨kl,r1,_,r3,r4⟩:=tW hC (List.range ops.size) 0 s [] (fun j k hj=>by
  have:=(List.getElem?_eq_some_iff.1 hj)
  obtain⟨h1,h2⟩:=this
  simp at h2
  omega) (by rw[fq];exact h)
 have hk:b3 s X {X with w:={X.w with drawn:=X.w.drawn+1}}:=⟨Nat.le_refl _,rfl,rfl,rfl,fun g _=>⟨rfl,rfl⟩,rfl,fun _ _ _=>rfl⟩
 refine wp_region_any hm ?_
 exact AN hE hC hf (fun k hk=>r4 k (List.mem_range.2 hk)) ops.size (Array.replicate ops.size false) _ s a kl (hr.bP hk) (by simp) (by rw[bX];simp) (by rw[bX];exact r1) r3 (fun Y a' aB aE=>hQ Y a' (hk.ext.trans aB) aE)
end Go.Ref

namespace Go.Ref
open Go
variable {P:Program} {E:Env} {X:ag} {s:State} {a:Act}
theorem az.flat{X Y:ag}:∀{t:Ty} {x:El t} {cs:List Value},t.flat=true->az X t x cs->az Y t x cs
 | .bool,_,_,_,hr=>hr
 | .int _,_,_,_,hr=>hr
 | .str,_,_,_,hr=>hr
 | .unit,_,_,_,hr=>hr
 | .sl _ _,_,_,hf,_=>by cases hf
 | .aF _ _ _,_,_,hf,_=>by cases hf
 | .aK n t,xs,cs,hf,⟨h1,h2,h3⟩=>⟨h1,h2,fun j x hj=>az.flat (t:=t) hf (h3 j x hj)⟩
 | .pair a b,x,cs,hf,⟨c1,c2,h1,h2,h3⟩=>by
   have hf:(a.flat&&b.flat)=true:=hf
   rw[Bool.and_eq_true] at hf
   exact⟨c1,c2,h1,az.flat hf.1 h2,az.flat hf.2 h3⟩
theorem ah.flat{X Y:ag}{pl:List Nat->Place}{sv:SV}{v:Value}(hf:sv.flat=true)(hr:ah X pl sv v):ah Y pl sv v:=by
 cases sv with
 |aj t x own=>
  have hf:(t.flat&&own.isEmpty)=true:=hf
  rw[Bool.and_eq_true] at hf
  obtain⟨cs,h1,h2,_⟩:=hr
  have:own=[]:=List.isEmpty_iff.1 hf.2
  subst this
  exact⟨cs,h1.flat hf.1,h2,zr⟩
 |undef=>trivial
 |skip=>exact hr
 |bc=>exact hr
 |cH=>exact hr
 |over=>exact hr
 |_=>cases hf
theorem qU{o:Nat}:∀{sl:List (List SV)} {i:Nat},dP o i sl=true->∀(j:Nat) l,sl[j]? =some l->i+j≠o->∀sv∈l,SV.flat sv=true
 | [],i,_,j,l,h,_=>by simp at h
 |l0::r,i,h,j,l,hl,bp=>by
  rw[dP,Bool.and_eq_true,Bool.or_eq_true] at h
  cases j with
  |zero=>
   cases hl
   rcases h.1 with h1|h1
   ·exact absurd (Nat.eq_of_beq_eq_true h1) bp
   ·exact fun sv hm=>List.all_eq_true.1 h1 sv hm
  |succ j=>exact qU h.2 j l hl (by omega)
structure ff(X:ag)(a:Act)(o:Nat)(e:TypeId)(xs:List Int)(own:List (List Nat))(g c:Nat)(cur:Array Value):Prop where
 val:a.tmps.getD o Go.undef= .slice (some ⟨g,0,none⟩) xs.length c
 heap:X.w.heap[g]? =some (.cells cur e (0,0))
 cell:∀(j:Nat) x,xs[j]? =some x->X.w.cell? ⟨g,j,none⟩=some (.int .u8 x)
 le:xs.length<=c
 most:c<=maxLen
 size:cur.size=c
 ow:X.ow g= .row (.c o 0 []) (xs.length*1)
 own:∀p∈own,p=[]
theorem BH{o:Nat}{e:TypeId}{xs:List Int}{own:List (List Nat)}(hr:Rel X s a)(hs:s.slot o=[.aj (.sl e (.int .u8)) xs own])(bk:fc own []=true){i:Nat}(hi:i<xs.length):∃g c cur,ff X a o e xs own g c cur:=by
 have dq:=hr.slot o
 rw[hs] at dq
 obtain⟨cs,au,hv,hO⟩:=(show ah X (.c o 0) (.aj (.sl e (.int .u8)) xs own) (a.tmps.getD o Go.undef) from dq)
 have dn:([]:List Nat)∈own:=by
  unfold fc at bk
  obtain⟨q,h1,h2⟩:=List.any_eq_true.1 bk
  have:q=[]:=by simpa using h2
  rw[<-this];exact h1
 have cP:∀p∈own,p=[]:=fun p hp=>by
  obtain⟨e2,t2,Ce,v2,g1,g2,g3,g4⟩:=hO p hp
  cases p with
  |cons q r=>simp [El.get] at g2
  |nil=>rfl
 obtain⟨e1,t1,tD,v1,_,hg,hc,aT⟩:=hO [] dn
 simp only[El.get,Option.some.injEq] at hg
 cases hg
 obtain⟨A,c,cu,hle,b6⟩:=au
 subst cu
 have hv:a.tmps.getD o Go.undef= .slice A xs.length c:=hv
 have ju:v1= .slice A xs.length c:=by
  have:([Value.slice A xs.length c]:List Value)[0]? =some v1:=hc
  simpa using this.symm
 subst ju
 rcases aT with⟨_,h0⟩|⟨g,cap,cur,h1,h2,h3,h4,h5,h6⟩
 ·have h0:List.length xs=0:=h0
  omega
 injection h1 with k1 k2 k3
 subst k1 k3
 have h5:cur.size=c*1:=h5
 have h6:X.ow g= .row (.c o 0 []) (List.length xs*1):=h6
 have cE:∀(j:Nat) x,xs[j]? =some x->X.w.cell? ⟨g,j,none⟩=some (.int .u8 x):=fun j x hj=>by
  obtain⟨ad,bS,e1,_,e2,e3⟩:=b6 j x hj
  cases e1
  have e2:bS=[.int .u8 x]:=e2
  subst e2
  have:=(e3 0 (.int .u8 x) rfl).2.1
  rw[zn] at this
  simpa [Ty.cells] using this
 exact⟨g,c,cur,hv,h2,cE,hle,h4,by omega,h6,cP⟩
theorem A5{o:Nat}{e:TypeId}{xs:List Int}{own:List (List Nat)}{X0:ag}(hF:∀g pl n,X0.ow g≠ .row pl n)(hx:Ext X0 X)(hr:Rel X s a)(ho:o<s.sl.length)(ia:dP o 0 s.sl=true)(dB:s.bs.all Option.isNone=true)
 {g c:Nat} {cur:Array Value} (hR:ff X a o e xs own g c cur) {i:Nat} (hi:i<xs.length) (z:Int):
   Ext X0 (X.row g (cur.toList.take i++ [Value.int .u8 z]++cur.toList.drop (i+1)).toArray)/\Rel (X.row g (cur.toList.take i++ [Value.int .u8 z]++cur.toList.drop (i+1)).toArray) ⟨s.sl.set o [.aj (.sl e (.int .u8)) (xs.set i z:List Int) own],s.bs⟩ a:=by
 obtain⟨hv,h2,cE,hle,h4,h5,h6,cP⟩:=hR
 refine⟨?_,?_⟩
 ·
  have ej:∀b,b≠g->(X.row g (cur.toList.take i++ [Value.int .u8 z]++cur.toList.drop (i+1)).toArray).w.heap[b]? =X.w.heap[b]? :=fun b hb=>setRow_other X.w g b _ hb
  have ic:∀ad v,X0.ai ad v->ad.block≠g:=fun ad v bH e0=>by
   have aw:=ag.ew bH
   have hu:=bH.2.2
   cases hw:X0.ow ad.block with
   |all=>have:=(hx.still ad.block aw (by rw[hw];trivial)).1;rw[e0,h6] at this;rw[<-e0,hw] at this;cases this
   |ro n=>have:=(hx.still ad.block aw (by rw[hw];trivial)).1;rw[e0,h6] at this;rw[<-e0,hw] at this;cases this
   |box id=>rw[hw] at hu;exact hu
   |row pl n=>exact hF _ _ _ hw
  refine⟨fun ad v bH=> ?_,?_,hx.os,hx.tape,hx.output,hx.β0,fun b hb bm=> ?_⟩
  ·have h7:=hx.ai ad v bH
   refine⟨h7.1,?_,h7.2.2⟩
   have:=h7.2.1
   simp only[World.cell?] at this⊢
   rw[ej _ (ic ad v bH)];exact this
  ·have:=hx.size
   simpa [ag.row] using this
  ·have h7:=hx.still b hb bm
   have bp:b≠g:=fun e0=>by
    have h8:=h7.1
    rw[e0,h6] at h8
    rw[e0,<-h8] at bm
    exact bm
   exact⟨h7.1,(ej b bp).trans h7.2⟩
 ·generalize gH:(cur.toList.take i++ [Value.int .u8 z]++cur.toList.drop (i+1)).toArray=new
  have fk:new.toList=cur.toList.take i++ [Value.int .u8 z]++cur.toList.drop (i+1):=by rw[<-gH]
  have b7:new.size=cur.size:=by
   have:new.toList.length=cur.toList.length:=by rw[fk];simp;omega
   simpa using this
  have ap:(X.row g new).w.heap[g]? =some (.cells new e (0,0)):=setRow_heap X.w g cur new e (0,0) h2
  refine⟨by simpa using hr.size,by simpa using hr.cL,fun j l v hl gS=> ?_,fun id B hB=> ?_,fun j l id t p hl hm=> ?_,hr.defers⟩
  ·rw[List.getElem?_set] at hl
   by_cases me:o=j
   ·subst me
    rw[if_pos rfl,if_pos ho] at hl
    cases hl
    have wR:a.tmps.getD o Go.undef=v:=by rw[Array.getD_eq_getD_getElem?,gS];rfl
    rw[wR] at hv
    subst hv
    refine⟨[.slice (some ⟨g,0,none⟩) xs.length c],?_,rfl,fun p hp=> ?_⟩
    ·refine az.iU (t:= .int .u8) (List.length_set ..) hle fun j x hj=>⟨⟨g,0,none⟩,[.int .u8 x],rfl,rfl,rfl,fun k w hk=> ?_⟩
     have iJ:j<xs.length:=by have:=(List.getElem?_eq_some_iff.1 hj).1;rw[List.length_set] at this;exact this
     cases k with
     |succ k=>simp at hk
     |zero=>
      have hk:Value.int .u8 x=w:=by simpa using hk
      subst hk
      refine⟨jF rfl _,?_,?_⟩
      ·rw[zn]
       show(X.row g new).w.cell? _=_
       simp only[World.cell?,ap,Ty.cells]
       rw[show 0+(j*1+0)=j by omega,<-Array.getElem?_toList,fk]
       have hj:(xs.set i z)[j]? =some x:=hj
       rw[List.getElem?_set] at hj
       have s4:i<cur.toList.length:=by simp;omega
       by_cases s5:i=j
       ·subst s5
        rw[if_pos rfl,if_pos hi] at hj
        cases hj
        rw[List.append_assoc,List.getElem?_append_right (by simp;omega)]
        have:i-(cur.toList.take i).length=0:=by simp;omega
        rw[this];rfl
       ·rw[if_neg s5] at hj
        have hZ:=cE j x hj
        simp only[World.cell?,h2] at hZ
        rw[<-Array.getElem?_toList] at hZ
        rcases Nat.lt_or_ge j i with aw|pw
        ·rw[List.append_assoc,List.getElem?_append_left (by simp;omega),List.getElem?_take,if_pos aw]
         exact hZ
        ·have sZ:i<j:=by omega
         rw[List.getElem?_append_right (by simp;omega),List.getElem?_drop]
         have:i+1+(j-(cur.toList.take i++ [Value.int .u8 z]).length)=j:=by simp;omega
         rw[this]
         exact hZ
      ·rw[zn]
       show Ow.used (X.ow g) _
       rw[h6]
       show _<_
       simp only[Ty.cells]
       omega
    ·have:=cP p hp
     subst this
     refine⟨e,.int .u8,(xs.set i z:List Int),_,by simp [Ty.b5],rfl,rfl,?_⟩
     have wl:List.length (xs.set i z)=xs.length:=List.length_set ..
     rw[wl]
     exact .inr ⟨g,c,new,rfl,ap,hle,h4,by rw[b7,h5];simp [Ty.cells],h6⟩
   ·rw[if_neg me] at hl
    have:=qU ia j l hl (by omega)
    exact(hr.aL j l v hl gS).dE fun k sv u hk hu=>hu.flat (this sv (List.mem_of_getElem? hk))
  ·have:=List.all_eq_true.1 dB (some B) (List.mem_of_getElem? hB)
   cases this
  ·rw[List.getElem?_set] at hl
   by_cases me:o=j
   ·subst me
    rw[if_pos rfl,if_pos ho] at hl
    cases hl
    simp at hm
   ·rw[if_neg me] at hl
    have:=qU ia j l hl (by omega) _ hm
    cases this
theorem fK{a:Act}{d i:Nat}{v:Value}(hd:d<a.tmps.size):(a.put (some d) v).tmps.getD i Go.undef=if d=i then v else a.tmps.getD i Go.undef:=by
 simp only[Act.put,Array.getD_eq_getD_getElem?,Array.getElem?_setIfInBounds]
 split
 ·first|rfl|(rw[if_pos hd];rfl)
 ·rfl
theorem gl{a:Act}{d:Nat}{v:Value}:(a.put (some d) v).tmps.size=a.tmps.size:=by simp [Act.put]
theorem raw{ops:Array Oper}{Q:Exit->Act->World->Prop}{i d:Nat}{rest:List Nat}{a:Act}{w:World}{o:Oper}{v:Value}(hi:ops[i]? =some o)(hd:isDst o d=true)(aA:(execOp a.eval o).run P w= .ok (.value v) w)(K:wpOps P ops Q rest (a.put (some d) v) w):wpOps P ops Q (i::rest) a w:=by
 have gh:o.dst=some d/\o.guard=none:=by
  unfold isDst at hd
  split at hd
  ·rename_i d' h1 h2
   exact⟨by rw[h1,Nat.eq_of_beq_eq_true hd],h2⟩
  ·cases hd
 rw[wpOps_cons]
 unfold wpOp
 simp only[hi]
 have hw:Region.wanted o (yielded ops a.tmps)=true:=by simp [Region.wanted,gh.2]
 rw[if_pos hw]
 refine .inl ?_
 unfold Oper.wp
 rw[aA,Oper.upon_value,gh.1]
 exact K
theorem im{x:Operand}{i:Nat}(h:bY x i=true):x= .tmp i:=by
 unfold bY at h
 split at h
 ·rw[Nat.eq_of_beq_eq_true h]
 ·cases h
theorem vw{T:TypeId}(h:iO E T=true):E.ty T=some (.int .u8):=by
 unfold iO at h
 split at h
 ·assumption
 ·cases h
theorem ue{T:TypeId}(h:oi E T=true):∃e,E.ty T=some (.sl e (.int .u8)):=by
 unfold oi at h
 split at h
 ·exact⟨_,by assumption⟩
 ·cases h
theorem io{o:Oper}{d x:Nat}(h:kx o d x=true):isDst o d=true/\∀(a:Act) (w:World),(execOp a.eval o).run P w= .ok (.value (a.tmps.getD x Go.undef)) w:=by
 unfold kx at h
 rw[Bool.and_eq_true] at h
 refine⟨h.1,fun a w=> ?_⟩
 have h:=h.2
 split at h
 ·rename_i y ho
  have:=im h
  subst this
  simp only[execOp,ho]
  rfl
 ·cases h
theorem om(hE:ae P E){o:Oper}{d x:Nat}(h:isLen E o d x=true):isDst o d=true/\∀(a:Act) (w:World) A n c,a.tmps.getD x Go.undef= .slice A n c->(execOp a.eval o).run P w= .ok (.value (.int .i64 n)) w:=by
 unfold isLen at h
 rw[Bool.and_eq_true] at h
 refine⟨h.1,fun a w A n c hv=> ?_⟩
 have h:=h.2
 split at h
 ·rename_i bR ts ho
  split at h
  ·rename_i y T gT jW
   have has:bR= #[y]:=by rw[<-Array.toArray_toList (xs:=bR),gT]
   have fX:ts= #[T]:=by rw[<-Array.toArray_toList (xs:=ts),jW]
   subst has fX
   rw[Bool.and_eq_true] at h
   have:=im h.1
   subst this
   obtain⟨e,hT⟩:=ue h.2
   have hu:=(hE.ty T _ hT).bu
   have ev:a.eval (.tmp x)= .slice A n c:=hv
   simp [execOp,ho,resolve,invoke,builtin,Builtin.len_,ev,run_underlying hu.1,goInt]
  ·cases h
 ·cases h
theorem n0{o:Oper}{d x:Nat}(h:oF o d x=true):isDst o d=true/\∀(a:Act) (w:World) (n:Int),a.tmps.getD x Go.undef= .int .i64 n->(execOp a.eval o).run P w= .ok (.value (.int .i64 (IntKind.i64.wrap (n-1)))) w:=by
 unfold oF at h
 rw[Bool.and_eq_true] at h
 refine⟨h.1,fun a w n hv=> ?_⟩
 have h:=h.2
 split at h
 ·rename_i T y c T' ho
  rw[Bool.and_eq_true] at h
  have:=im h.1
  subst this
  have hc:=of_decide_eq_true h.2
  subst hc
  have ev:a.eval (.tmp x)= .int .i64 n:=hv
  have ec:a.eval (.const (.int .i64 1))= .int .i64 1:=rfl
  obtain⟨sv,v,hl,mo,_,hr,_⟩:=rf (P:=P) (op:= .sub) (T:=T) (k:= .i64) (k':= .i64) (m:=n) (n:=1) w rfl
  cases hl
  have:=zz (hr ⟨w,fun _=> .all,fun _=>none⟩ (fun _=> .r 0 []))
  subst this
  simp only[execOp,ho,Sem.run_bind,ev,ec,nM,Result.andThen_ok,mo,Sem.run_pure]
 ·cases h
theorem vD{o:Oper}{d x y:Nat}(h:gX o d x y=true):isDst o d=true/\∀(a:Act) (w:World) (n m:Int),a.tmps.getD x Go.undef= .int .u8 n->a.tmps.getD y Go.undef= .int .u8 m->(execOp a.eval o).run P w= .ok (.value (.int .u8 (IntKind.u8.wrap (n+m)))) w:=by
 unfold gX at h
 rw[Bool.and_eq_true] at h
 refine⟨h.1,fun a w n m hv hu=> ?_⟩
 have h:=h.2
 split at h
 ·rename_i T u v T' ho
  rw[Bool.and_eq_true] at h
  have:=im h.1
  subst this
  have:=im h.2
  subst this
  have ev:a.eval (.tmp x)= .int .u8 n:=hv
  have eu:a.eval (.tmp y)= .int .u8 m:=hu
  obtain⟨sv,v,hl,mo,_,hr,_⟩:=rf (P:=P) (op:= .add) (T:=T) (k:= .u8) (k':= .u8) (m:=n) (n:=m) w rfl
  cases hl
  have:=zz (hr ⟨w,fun _=> .all,fun _=>none⟩ (fun _=> .r 0 []))
  subst this
  simp only[execOp,ho,Sem.run_bind,ev,eu,nM,Result.andThen_ok,mo,Sem.run_pure]
 ·cases h
theorem oE(hE:ae P E){o:Oper}{d x i:Nat}(h:iN E o d x i=true):isDst o d=true/\∀(a:Act) (w:World) (g n c:Nat) (j:Int),a.tmps.getD x Go.undef= .slice (some ⟨g,0,none⟩) n c->a.tmps.getD i Go.undef= .int .i64 j->0<=j->j<n->(execOp a.eval o).run P w= .ok (.value (.pointer (some ⟨g,j.toNat,none⟩))) w:=by
 unfold iN at h
 rw[Bool.and_eq_true] at h
 refine⟨h.1,fun a w g n c j hv hj h0 h1=> ?_⟩
 have h:=h.2
 split at h
 ·rename_i T y z ho
  rw[Bool.and_eq_true,Bool.and_eq_true] at h
  have:=im h.1
  subst this
  have:=im h.2.1
  subst this
  obtain⟨e,hT⟩:=ue h.2.2
  have hu:=(hE.ty T _ hT).bu
  have ev:a.eval (.tmp x)= .slice (some ⟨g,0,none⟩) n c:=hv
  have ei:a.eval (.tmp i)= .int .i64 j:=hj
  simp only[execOp,ho,Sem.run_bind,Instr.indexAt,ei,ev,asIntOf,Sem.run_pure,Result.andThen_ok,run_underlying hu.1,Sem.run_ite,h0,h1,and_self,if_true,zh hE hu.2]
  simp [Ty.cells,zn]
 ·cases h
theorem u5(hE:ae P E){o:Oper}{d x:Nat}(h:sr E o d x=true):isDst o d=true/\∀(a:Act) (w:World) (g j:Nat) (y:Int),a.tmps.getD x Go.undef= .pointer (some ⟨g,j,none⟩)->w.cell? ⟨g,j,none⟩=some (.int .u8 y)->(execOp a.eval o).run P w= .ok (.value (.int .u8 y)) w:=by
 unfold sr at h
 rw[Bool.and_eq_true] at h
 refine⟨h.1,fun a w g j y hv hc=> ?_⟩
 have h:=h.2
 split at h
 ·rename_i T z ho
  rw[Bool.and_eq_true] at h
  have:=im h.1
  subst this
  have hT:=vw h.2
  have ev:a.eval (.tmp x)= .pointer (some ⟨g,j,none⟩):=hv
  have hl:=kQ (P:=P) hE hT (X:=⟨w,fun _=> .all,fun _=>none⟩) (x:=y) (cs:=[.int .u8 y]) rfl (ad:=⟨g,j,none⟩) (w:=w) (fun k v hk=>by
   cases k with
   |zero=>rw[zn];have hk:Value.int .u8 y=v:=by simpa using hk
          rw[<-hk];exact hc
   |succ k=>simp at hk)
  simp only[execOp,ho,Sem.run_bind,Instr.loadAt,ev,Instr.sureAddr,Sem.run_pure,Result.andThen_ok,hl]
  rfl
 ·cases h
theorem BJ(hE:ae P E){ops:Array Oper}{Q:Exit->Act->World->Prop}{o:Oper}{x y:Nat}(h:gW E o x y=true){k:Nat}{rest:List Nat}(hi:ops[k]? =some o){a:Act}{X:ag}{g j:Nat}{z:Int}{cur:Array Value}{T':TypeId}(hv:a.tmps.getD x Go.undef= .pointer (some ⟨g,j,none⟩))(hz:a.tmps.getD y Go.undef= .int .u8 z)(hg:X.w.heap[g]? =some (.cells cur T' (0,0)))(hj:j+1<=cur.size)
 (K:wpOps P ops Q rest (a.put none Go.undef) (X.row g (cur.toList.take j++ [Value.int .u8 z]++cur.toList.drop (j+1)).toArray).w):wpOps P ops Q (k::rest) a X.w:=by
 unfold gW at h
 rw[Bool.and_eq_true] at h
 have gh:o.dst=none/\o.guard=none:=by
  have h:=h.1
  split at h
  ·exact⟨by assumption,by assumption⟩
  ·cases h
 have h:=h.2
 rw[wpOps_cons]
 unfold wpOp
 simp only[hi]
 have hw:Region.wanted o (yielded ops a.tmps)=true:=by simp [Region.wanted,gh.2]
 rw[if_pos hw]
 refine .inl ?_
 unfold Oper.wp
 split at h
 ·rename_i T u v ho
  rw[Bool.and_eq_true,Bool.and_eq_true] at h
  have:=im h.1
  subst this
  have:=im h.2.1
  subst this
  have hT:=vw h.2.2
  have ev:a.eval (.tmp x)= .pointer (some ⟨g,j,none⟩):=hv
  have ez:a.eval (.tmp y)= .int .u8 z:=hz
  have bm:=nP (P:=P) hE hT (X:=X) (x:=z) (cs:=[.int .u8 z]) rfl (off:=j) (w:=X.w) (r:=g) (cur:=cur) (T':=T') hg hj
  have l8:bL (.int .u8) [.int .u8 z]= .int .u8 z:=rfl
  rw[l8] at bm
  have aA:(execOp a.eval o).run P X.w= .ok .skip (X.row g (cur.toList.take j++ [Value.int .u8 z]++cur.toList.drop (j+1)).toArray).w:=by
   simp only[execOp,ho,Sem.run_bind,Instr.storeAt,ev,Instr.sureAddr,Sem.run_pure,Result.andThen_ok,ez,bm]
   rfl
  rw[aA,Oper.upon_skip,gh.1]
  exact K
 ·cases h
theorem uC:∀(n m:Nat) (sl:List (List SV)),(dw n m sl).length=sl.length
 |0,m,sl=>rfl
 |n+1,m,sl=>by rw[dw,uC n (m+1),List.length_set]
def dead(s:State)(d:Nat):State:=s.ar (some d) [.undef]
theorem Rel.dead(hr:Rel X s a)(d:Nat)(v:Value):Rel X (Ref.dead s d) (a.put (some d) v):=hr.put (fun _ _=>trivial) (fun id t p hm=>by simp at hm)
theorem Ak(hE:ae P E){X0:ag}(hF:∀g pl n,X0.ow g≠ .row pl n)(hx:Ext X0 X)(hr:Rel X s a){q:Nat×Nat×Nat}{id:Nat}{ops:Array Oper}{s':State}(h:dY E q ops.toList s some=some s'){Q:Exit->Act->World->Prop}(hQ:∀Y a',Ext X0 Y->Rel Y s' a'->Q .normal a' Y.w):(Code.region id ops false).wp P Q a X.w:=by
 obtain⟨o,x,m⟩:=q
 unfold dY at h
 simp only at h
 cases gj:ss E o x m ops.toList with
 |false=>rw[gj] at h;cases h
 |true=>
 rw[gj,cond_true] at h
 cases hb:(Nat.ble (o+1) m&&(Nat.ble (x+1) m&&(!(Nat.beq o x)&&Nat.ble (m+13) s.sl.length))) with
 |false=>rw[hb] at h;cases h
 |true=>
 rw[hb,cond_true] at h
 simp only[Bool.and_eq_true,Bool.not_eq_true',Nat.ble_eq] at hb
 obtain⟨B5,B7,B6,kE⟩:=hb
 split at h
 case h_2=>cases h
 rename_i et xs own y xi c9 pR
 cases bk:fc own [] with
 |false=>rw[bk] at h;cases h
 |true=>
 rw[bk,cond_true] at h
 cases ia:(dP o 0 (dw 13 m s.sl)&&s.bs.all Option.isNone) with
 |false=>rw[ia] at h;cases h
 |true=>
 rw[ia,cond_true] at h
 rw[Bool.and_eq_true] at ia
 obtain⟨h0,h1,h⟩:=jE h
 cases h
 generalize hj:IntKind.i64.wrap ((List.length xs:Int)-1)=j at h0 h1
 have hi:j.toNat<xs.length:=by omega
 obtain⟨g,c,cur,hR⟩:=BH hr c9 bk hi
 have cO:m+13<=a.tmps.size:=by rw[<-hr.size];exact kE
 have hy:a.tmps.getD x Go.undef= .int .u8 y:=by
  have dq:=hr.slot x
  rw[pR] at dq
  exact zz (show ah X (.c x 0) (.aj (.int .u8) y xi) _ from dq)
 have wb:xs[j.toNat]? =some (xs.getD j.toNat 0):=by rw[List.getD_eq_getElem?_getD,List.getElem?_eq_getElem hi];rfl
 have iG:=hR.cell _ _ wb
 unfold ss at gj
 split at gj
 case h_2=>cases gj
 rename_i o0 o1 o2 o3 o4 o5 o6 o7 o8 o9 qb qc qd qe fm
 simp only[Bool.and_eq_true] at gj
 obtain⟨k0,k1,k2,k3,k4,k5,k6,k7,k8,k9,tm,tn,tu,w8⟩:=gj
 have bd:∀i,ops[i]? =([o0,o1,o2,o3,o4,o5,o6,o7,o8,o9,qb,qc,qd,qe]:List Oper)[i]? :=fun i=>by rw[<-Array.getElem?_toList,fm]
 have bz:ops.size=14:=by rw[<-Array.length_toList,fm];rfl
 refine wp_region ?_
 rw[bz,show List.range 14=[0,1,2,3,4,5,6,7,8,9,10,11,12,13] from rfl]
 have vo:=hR.val
 generalize kd:(Value.slice (some ⟨g,0,none⟩) xs.length c)=vs at vo
 refine raw (bd 0) (io (P:=P) k0).1 ((io k0).2 a X.w) ?_
 rw[vo]
 have e1:=fun i=>fK (i:=i) (v:=vs) (show m<a.tmps.size by omega)
 have r1:=hr.dead m vs
 generalize wv:a.put (some m) vs=a1 at e1 r1
 have z1:a1.tmps.size=a.tmps.size:=by rw[<-wv,gl]
 refine raw (bd 1) (io (P:=P) k1).1 ((io k1).2 a1 X.w) ?_
 rw[e1,if_neg (by omega),vo]
 have e2:=fun i=>fK (a:=a1) (i:=i) (v:=vs) (show m+1<a1.tmps.size by omega)
 have r2:=r1.dead (m+1) vs
 generalize wy:a1.put (some (m+1)) vs=a2 at e2 r2
 have z2:a2.tmps.size=a.tmps.size:=by rw[<-wy,gl,z1]
 refine raw (bd 2) (om hE k2).1 ((om hE k2).2 a2 X.w _ _ _ (by rw[e2,if_pos rfl];exact kd.symm)) ?_
 have e3:=fun i=>fK (a:=a2) (i:=i) (v:= .int .i64 (xs.length:Nat)) (show m+2<a2.tmps.size by omega)
 have r3:=r2.dead (m+2) (.int .i64 (xs.length:Nat))
 generalize wA:a2.put (some (m+2)) (.int .i64 (xs.length:Nat))=a3 at e3 r3⊢
 have z3:a3.tmps.size=a.tmps.size:=by rw[<-wA,gl,z2]
 refine raw (bd 3) (n0 (P:=P) k3).1 ((n0 k3).2 a3 X.w _ (by rw[e3,if_pos rfl])) ?_
 rw[hj]
 have e4:=fun i=>fK (a:=a3) (i:=i) (v:= .int .i64 j) (show m+3<a3.tmps.size by omega)
 have r4:=r3.dead (m+3) (.int .i64 j)
 generalize wB:a3.put (some (m+3)) (.int .i64 j)=a4 at e4 r4⊢
 have z4:a4.tmps.size=a.tmps.size:=by rw[<-wB,gl,z3]
 have q4:∀i,i<m->a4.tmps.getD i Go.undef=a.tmps.getD i Go.undef:=fun i hi=>by rw[e4,if_neg (by omega),e3,if_neg (by omega),e2,if_neg (by omega),e1,if_neg (by omega)]
 have qm:a4.tmps.getD m Go.undef=vs:=by rw[e4,if_neg (by omega),e3,if_neg (by omega),e2,if_neg (by omega),e1,if_pos rfl]
 refine raw (bd 4) (io (P:=P) k4).1 ((io k4).2 a4 X.w) ?_
 rw[q4 o (by omega),vo]
 have e5:=fun i=>fK (a:=a4) (i:=i) (v:=vs) (show m+4<a4.tmps.size by omega)
 have r5:=r4.dead (m+4) vs
 generalize wC:a4.put (some (m+4)) vs=a5 at e5 r5⊢
 have z5:a5.tmps.size=a.tmps.size:=by rw[<-wC,gl,z4]
 refine raw (bd 5) (io (P:=P) k5).1 ((io k5).2 a5 X.w) ?_
 rw[e5,if_neg (by omega),q4 o (by omega),vo]
 have e6:=fun i=>fK (a:=a5) (i:=i) (v:=vs) (show m+5<a5.tmps.size by omega)
 have r6:=r5.dead (m+5) vs
 generalize wD:a5.put (some (m+5)) vs=a6 at e6 r6⊢
 have z6:a6.tmps.size=a.tmps.size:=by rw[<-wD,gl,z5]
 refine raw (bd 6) (om hE k6).1 ((om hE k6).2 a6 X.w _ _ _ (by rw[e6,if_pos rfl];exact kd.symm)) ?_
 have e7:=fun i=>fK (a:=a6) (i:=i) (v:= .int .i64 (xs.length:Nat)) (show m+6<a6.tmps.size by omega)
 have r7:=r6.dead (m+6) (.int .i64 (xs.length:Nat))
 generalize wE:a6.put (some (m+6)) (.int .i64 (xs.length:Nat))=a7 at e7 r7⊢
 have z7:a7.tmps.size=a.tmps.size:=by rw[<-wE,gl,z6]
 refine raw (bd 7) (n0 (P:=P) k7).1 ((n0 k7).2 a7 X.w _ (by rw[e7,if_pos rfl])) ?_
 rw[hj]
 have e8:=fun i=>fK (a:=a7) (i:=i) (v:= .int .i64 j) (show m+7<a7.tmps.size by omega)
 have r8:=r7.dead (m+7) (.int .i64 j)
 generalize wF:a7.put (some (m+7)) (.int .i64 j)=a8 at e8 r8⊢
 have z8:a8.tmps.size=a.tmps.size:=by rw[<-wF,gl,z7]
 have q8:∀i,i<=m+3->a8.tmps.getD i Go.undef=a4.tmps.getD i Go.undef:=fun i hi=>by rw[e8,if_neg (by omega),e7,if_neg (by omega),e6,if_neg (by omega),e5,if_neg (by omega)]
 refine raw (bd 8) (oE hE k8).1 ((oE hE k8).2 a8 X.w g xs.length c j (by rw[e8,if_neg (by omega),e7,if_neg (by omega),e6,if_neg (by omega),e5,if_pos rfl];exact kd.symm) (by rw[e8,if_pos rfl]) h0 h1) ?_
 have e9:=fun i=>fK (a:=a8) (i:=i) (v:= .pointer (some ⟨g,j.toNat,none⟩)) (show m+8<a8.tmps.size by omega)
 have r9:=r8.dead (m+8) (.pointer (some ⟨g,j.toNat,none⟩))
 generalize wG:a8.put (some (m+8)) (.pointer (some ⟨g,j.toNat,none⟩))=a9 at e9 r9⊢
 have z9:a9.tmps.size=a.tmps.size:=by rw[<-wG,gl,z8]
 refine raw (bd 9) (u5 hE k9).1 ((u5 hE k9).2 a9 X.w g j.toNat _ (by rw[e9,if_pos rfl]) iG) ?_
 generalize wU:xs.getD j.toNat 0=wx
 have nq:=fun i=>fK (a:=a9) (i:=i) (v:= .int .u8 wx) (show m+9<a9.tmps.size by omega)
 have kK:=r9.dead (m+9) (.int .u8 wx)
 generalize pK:a9.put (some (m+9)) (.int .u8 wx)=jQ at nq kK⊢
 have xt:jQ.tmps.size=a.tmps.size:=by rw[<-pK,gl,z9]
 refine raw (bd 10) (io (P:=P) tm).1 ((io tm).2 jQ X.w) ?_
 rw[nq,if_neg (by omega),e9,if_neg (by omega),q8 x (by omega),q4 x (by omega),hy]
 have nr:=fun i=>fK (a:=jQ) (i:=i) (v:= .int .u8 y) (show m+10<jQ.tmps.size by omega)
 have kL:=kK.dead (m+10) (.int .u8 y)
 generalize pL:jQ.put (some (m+10)) (.int .u8 y)=jR at nr kL⊢
 have xu:jR.tmps.size=a.tmps.size:=by rw[<-pL,gl,xt]
 refine raw (bd 11) (vD (P:=P) tn).1 ((vD tn).2 jR X.w wx y (by rw[nr,if_neg (by omega),nq,if_pos rfl]) (by rw[nr,if_pos rfl])) ?_
 generalize wV:IntKind.u8.wrap (wx+y)=wz
 have oY:=fun i=>fK (a:=jR) (i:=i) (v:= .int .u8 wz) (show m+11<jR.tmps.size by omega)
 have kM:=kL.dead (m+11) (.int .u8 wz)
 generalize pM:jR.put (some (m+11)) (.int .u8 wz)=a12 at oY kM⊢
 have z12:a12.tmps.size=a.tmps.size:=by rw[<-pM,gl,xu]
 have qi:∀i,i<=m+3->a12.tmps.getD i Go.undef=a4.tmps.getD i Go.undef:=fun i hi=>by rw[oY,if_neg (by omega),nr,if_neg (by omega),nq,if_neg (by omega),e9,if_neg (by omega),q8 i hi]
 refine raw (bd 12) (oE hE tu).1 ((oE hE tu).2 a12 X.w g xs.length c j (by rw[qi m (by omega),qm];exact kd.symm) (by rw[qi (m+3) (by omega),e4,if_pos rfl]) h0 h1) ?_
 have ns:=fun i=>fK (a:=a12) (i:=i) (v:= .pointer (some ⟨g,j.toNat,none⟩)) (show m+12<a12.tmps.size by omega)
 have kN:=kM.dead (m+12) (.pointer (some ⟨g,j.toNat,none⟩))
 generalize ww:a12.put (some (m+12)) (.pointer (some ⟨g,j.toNat,none⟩))=lN at ns kN⊢
 have ph:ff X lN o et xs own g c cur:=⟨by rw[ns,if_neg (by omega),qi o (by omega),q4 o (by omega),hR.val],hR.heap,hR.cell,hR.le,hR.most,hR.size,hR.ow,hR.own⟩
 refine BJ hE w8 (bd 13) (by rw[ns,if_pos rfl]) (by rw[ns,if_neg (by omega),oY,if_pos rfl]) hR.heap (by rw[hR.size];have:=hR.le;omega) ?_
 have pQ:Rel X ⟨dw 13 m s.sl,s.bs⟩ lN:=kN
 obtain⟨hX,aE⟩:=A5 hF hx pQ (by rw[uC];omega) ia.1 ia.2 ph hi wz
 have pu:=hQ _ lN hX (by
  unfold jD
  rw[hj,wU,wV]
  exact aE)
 exact pu
end Go.Ref

namespace Go.Ref
open Go
variable {P:Program} {E:Env} {X:ag} {s:State} {a:Act}
structure fh(X Y:ag)(g0:Nat):Prop where
 heap:∀b,b≠g0->Y.w.heap[b]? =X.w.heap[b]?
 ow:Y.ow=X.ow
 β:Y.β=X.β
theorem fh.ai{Y:ag}{g0:Nat}(h:fh X Y g0){ad:Addr}{v:Value}(bp:ad.block≠g0)(hs:X.ai ad v):Y.ai ad v:=by
 refine⟨hs.1,?_,?_⟩
 ·have:=hs.2.1
  simp only[World.cell?] at this⊢
  rw[h.heap _ bp];exact this
 ·rw[h.ow];exact hs.2.2
theorem vr{own:List (List Nat)}{p:List Nat}(h:fc own p=true):p∈own:=by
 unfold fc at h
 obtain⟨q,h1,h2⟩:=List.any_eq_true.1 h
 have:q=p:=by simpa using h2
 rw[<-this];exact h1
def tv(pl:List Nat->Place):List Nat->Place
 |j::p=>pl ((j+1)::p)
 | []=>pl []
theorem A0{pl:List Nat->Place}{a b:Ty}{x:El (.pair a b)}{c1 c2:List Value}{own:List (List Nat)}(hr:az X a x.1 c1)(h:aC X pl (.pair a b) x (c1++c2) own):aC X (fun p=>pl (0::p)) a x.1 c1 (ng own [0]):=fun p hp=>by
 unfold ng at hp
 obtain⟨q,hq,rfl⟩:=List.mem_map.1 hp
 obtain⟨hq,cf⟩:=List.mem_filter.1 hq
 match q,cf with
 |0::q,_=>
  obtain⟨e,t',xs,v,g0,g1,g2,g3⟩:=h (0::q) hq
  have g2:(c1++c2)[a.off q]? =some v:=g2
  refine⟨e,t',xs,v,g0,g1,?_,g3⟩
  show c1[a.off q]? =some v
  rw[<-g2,List.getElem?_append_left]
  obtain⟨_,k2,_⟩:=m5 hr (show a.b5 q from g0) (show El.get a q x.1=_ from g1)
  have k2:a.off q+1<=a.cells:=k2
  have:=hr.len
  omega
 | [],cf=>simp at cf
 |(j+1)::q,cf=>simp at cf
theorem A3{pl:List Nat->Place}{a b:Ty}{x:El (.pair a b)}{c1 c2:List Value}{own:List (List Nat)}(hl:c1.length=a.cells)(h:aC X pl (.pair a b) x (c1++c2) own):aC X (tv pl) b x.2 c2 (iE own):=fun p hp=>by
 unfold iE at hp
 obtain⟨q,hq,he⟩:=List.mem_filterMap.1 hp
 match q,he with
 |(j+1)::q,he=>
  cases he
  obtain⟨e,t',xs,v,g0,g1,g2,g3⟩:=h ((j+1)::q) hq
  refine⟨e,t',xs,v,g0,g1,?_,g3⟩
  have g2:(c1++c2)[a.cells+b.off (j::q)]? =some v:=g2
  rw[List.getElem?_append_right (by omega)] at g2
  rw[<-g2]
  congr 1
  omega
 | [],he=>cases he
 |0::q,he=>cases he
theorem aC.mG{Y:ag}{g0:Nat}(h:fh X Y g0){pl:List Nat->Place}(dg:∀p n,X.ow g0≠ .row (pl p) n){t:Ty}{x:El t}{cs:List Value}{own:List (List Nat)}(ho:aC X pl t x cs own):aC Y pl t x cs own:=fun p hp=>by
 obtain⟨e,t',xs,v,k0,k1,k2,k3⟩:=ho p hp
 refine⟨e,t',xs,v,k0,k1,k2,?_⟩
 rcases k3 with ho|⟨g,cap,cur,h1,h2,h3,h4,h5,h6⟩
 ·exact .inl ho
 ·have bp:g≠g0:=fun e=>dg p _ (e▸h6)
  exact .inr ⟨g,cap,cur,h1,(h.heap g bp).trans h2,h3,h4,h5,by rw[h.ow];exact h6⟩
theorem az.aY{Y:ag}{g0:Nat}(h:fh X Y g0):∀{t:Ty} {x:El t} {cs:List Value} {own:List (List Nat)} {pl:List Nat->Place},(∀p n,X.ow g0≠ .row (pl p) n)->t.aY own=true->az X t x cs->aC X pl t x cs own->az Y t x cs
 | .bool,_,_,_,_,_,_,hr,_=>hr
 | .int _,_,_,_,_,_,_,hr,_=>hr
 | .str,_,_,_,_,_,_,hr,_=>hr
 | .unit,_,_,_,_,_,_,hr,_=>hr
 | .aF _ _ _,_,_,_,_,_,hs,_,_=>by cases hs
 | .aK n t,xs,cs,own,pl,_,hs,hr,_=>az.flat (t:= .aK n t) (show t.flat=true from hs) hr
 | .pair a b,x,cs,own,pl,dg,hs,hr,ho=>by
   have hs:(a.aY (ng own [0])&&b.aY (iE own))=true:=hs
   rw[Bool.and_eq_true] at hs
   obtain⟨c1,c2,h1,h2,h3⟩:=hr
   subst h1
   exact⟨c1,c2,rfl,az.aY h (pl:=fun p=>pl (0::p)) (fun p n=>dg _ n) hs.1 h2 (A0 h2 ho),az.aY h (pl:=tv pl) (fun p n=>by cases p<;>exact dg _ n) hs.2 h3 (A3 h2.len ho)⟩
 | .sl e t,xs,cs,own,pl,dg,hs,hr,ho=>by
   have hs:(t.flat&&fc own [])=true:=hs
   rw[Bool.and_eq_true] at hs
   obtain⟨A,c,cu,hle,b6⟩:=hr
   subst cu
   refine⟨A,c,rfl,hle,fun j x hj=> ?_⟩
   obtain⟨ad,bS,e1,e2,e3,e4⟩:=b6 j x hj
   subst e1
   refine⟨ad,bS,rfl,e2,e3.flat hs.1,fun i v hi=>h.ai ?_ (e4 i v hi)⟩
   obtain⟨e1,t1,tD,v1,_,hg,hc,aT⟩:=ho [] (vr hs.2)
   simp only[El.get,Option.some.injEq] at hg
   cases hg
   have ju:v1= .slice (some ad) xs.length c:=by
    have:([Value.slice (some ad) xs.length c]:List Value)[0]? =some v1:=hc
    simpa using this.symm
   subst ju
   rcases aT with⟨h0,_⟩|⟨g,cap,cur,h1,h2,h3,h4,h5,h6⟩
   ·cases h0
   ·injection h1 with k1 k2 k3
    cases k1
    rw[zn]
    intro e
    have e:g=g0:=e
    exact dg [] _ (e▸h6)
theorem ah.aY{Y:ag}{g0:Nat}(h:fh X Y g0){pl:List Nat->Place}(dg:∀p n,X.ow g0≠ .row (pl p) n){bs:List (Option aH)}{sv:SV}{v:Value}(hs:sv.aY bs=true)(hr:ah X pl sv v):ah Y pl sv v:=by
 cases sv with
 |aj t x own=>
  obtain⟨cs,h1,h2,h3⟩:=hr
  exact⟨cs,h1.aY h dg hs h3,h2,h3.mG h dg⟩
 |undef=>trivial
 |skip=>exact hr
 |bc=>exact hr
 |cH=>exact hr
 |over=>exact hr
 |ptr id t p=>
  obtain⟨r,h1,h2⟩:=hr
  exact⟨r,by rw[h.β];exact h1,h2⟩
 |_=>cases hs
theorem yy{bs:List (Option aH)}{id:Nat}{B:aH}(h:(bs.map oH)[id]? =some (some B)):bs[id]? =some (some B)/\B.aY=true:=by
 rw[List.getElem?_map] at h
 obtain⟨b0,h0,h1⟩:=Option.map_eq_some_iff.1 h
 cases b0 with
 |none=>cases h1
 |some B0=>
  unfold oH at h1
  simp only at h1
  cases hb:B0.aY with
  |false=>rw[hb] at h1;cases h1
  |true=>rw[hb] at h1;cases h1;exact⟨h0,hb⟩
structure oJ(X:ag)(o:Nat)(e:TypeId)(k n:Nat)(v:Value)(g c:Nat)(cur:Array Value):Prop where
 val:v= .slice (some ⟨g,0,none⟩) n c
 heap:X.w.heap[g]? =some (.cells cur e (0,0))
 le:n<=c
 size:cur.size=c*k
 ow:X.ow g= .row (.c o 0 []) (n*k)
theorem mB{o:Nat}{e:TypeId}{t:Ty}{xs:List (El t)}{own:List (List Nat)}(hr:Rel X s a)(hs:s.slot o=[.aj (.sl e t) xs own])(bk:fc own []=true){i:Nat}(hi:i<xs.length):∃g c cur,oJ X o e t.cells xs.length (a.tmps.getD o Go.undef) g c cur:=by
 have dq:=hr.slot o
 rw[hs] at dq
 obtain⟨cs,au,hv,hO⟩:=(show ah X (.c o 0) (.aj (.sl e t) xs own) (a.tmps.getD o Go.undef) from dq)
 obtain⟨e1,t1,tD,v1,_,hg,hc,aT⟩:=hO [] (vr bk)
 simp only[El.get,Option.some.injEq] at hg
 cases hg
 obtain⟨A,c,cu,hle,b6⟩:=au
 subst cu
 have hv:a.tmps.getD o Go.undef= .slice A xs.length c:=hv
 have ju:v1= .slice A xs.length c:=by
  have:([Value.slice A xs.length c]:List Value)[0]? =some v1:=hc
  simpa using this.symm
 subst ju
 rcases aT with⟨_,h0⟩|⟨g,cap,cur,h1,h2,h3,h4,h5,h6⟩
 ·have h0:List.length xs=0:=h0
  omega
 injection h1 with k1 k2 k3
 subst k1 k3
 exact⟨g,c,cur,hv,h2,hle,h5,h6⟩
theorem vg{g:Nat}{new:Array Value}:fh X (X.row g new) g:=⟨fun b hb=>setRow_other X.w g b _ hb,rfl,rfl⟩
theorem A8{X0:ag}(hF:∀g pl n,X0.ow g≠ .row pl n)(hx:Ext X0 X){g m:Nat}{pl:Place}{new:Array Value}(how:X.ow g= .row pl m):Ext X0 (X.row g new):=by
 have ej:∀b,b≠g->(X.row g new).w.heap[b]? =X.w.heap[b]? :=fun b hb=>setRow_other X.w g b _ hb
 have ic:∀ad v,X0.ai ad v->ad.block≠g:=fun ad v bH e0=>by
  have aw:=ag.ew bH
  have hu:=bH.2.2
  cases hw:X0.ow ad.block with
  |all=>have:=(hx.still ad.block aw (by rw[hw];trivial)).1;rw[e0,how] at this;rw[<-e0,hw] at this;cases this
  |ro n=>have:=(hx.still ad.block aw (by rw[hw];trivial)).1;rw[e0,how] at this;rw[<-e0,hw] at this;cases this
  |box id=>rw[hw] at hu;exact hu
  |row pl n=>exact hF _ _ _ hw
 refine⟨fun ad v bH=>vg.ai (ic ad v bH) (hx.ai ad v bH),?_,hx.os,hx.tape,hx.output,hx.β0,fun b hb bm=> ?_⟩
 ·have:=hx.size
  simpa [ag.row] using this
 ·have h7:=hx.still b hb bm
  have bp:b≠g:=fun e0=>by
   have h8:=h7.1
   rw[e0,how] at h8
   rw[e0,<-h8] at bm
   exact bm
  exact⟨h7.1,(ej b bp).trans h7.2⟩
theorem Af(hr:Rel X s a){x g m:Nat}{new:Array Value}(how:X.ow g= .row (.c x 0 []) m):Rel (X.row g new) (s.aY x) a:=by
 have hB:fh X (X.row g new) g:=vg
 refine⟨by simpa [State.aY] using hr.size,by simpa [State.aY] using hr.cL,fun j l v hl hv=> ?_,fun id B hb=> ?_,fun j l id t p hl hm=> ?_,hr.defers⟩
 ·simp only[State.aY,List.getElem?_map] at hl
  obtain⟨l0,h0,rfl⟩:=Option.map_eq_some_iff.1 hl
  unfold hold
  cases cP:l0.all (SV.aY s.bs) with
  |false=>trivial
  |true=>
   rw[cond_true]
   rw[List.getElem?_set] at h0
   by_cases pW:x=j
   ·subst pW
    rw[if_pos rfl] at h0
    split at h0
    ·cases h0;trivial
    ·cases h0
   ·rw[if_neg pW] at h0
    exact(hr.aL j l0 v h0 hv).dE fun k sv u hk hu=>hu.aY hB (fun p n e=>by rw[how] at e;injection e with e _;injection e with e _;exact pW e) (List.all_eq_true.1 cP sv (List.mem_of_getElem? hk))
 ·obtain⟨h1,h2⟩:=yy hb
  obtain⟨r,k1,k2⟩:=hr.boxes id B h1
  unfold aH.aY at h2
  rw[Bool.and_eq_true] at h2
  have b7:B.t.aI=false:=by simpa using h2.1
  obtain⟨cs,T,ap,au,fo,bk⟩:=k2.cells b7
  have bp:r≠g:=fun e=>by rw[e,how] at fo;cases fo
  have dg:∀p n,X.ow g≠ .row (.b id p) n:=fun p n e=>by rw[how] at e;injection e with e _;cases e
  exact⟨r,k1,by rw[hB.ow];exact fo,bD.of b7 ((hB.heap r bp).trans ap) (au.aY hB dg h2.2 bk) (bk.mG hB dg)⟩
 ·simp only[State.aY,List.getElem?_map] at hl
  obtain⟨l0,h0,rfl⟩:=Option.map_eq_some_iff.1 hl
  unfold hold at hm
  cases cP:l0.all (SV.aY s.bs) with
  |false=>rw[cP] at hm;simp at hm
  |true=>
   rw[cP,cond_true] at hm
   have h1:=List.all_eq_true.1 cP _ hm
   unfold SV.aY at h1
   simp only at h1
   split at h1
   case h_2=>cases h1
   rename_i B hB
   have hb:=gk (s:=s) hB
   exact⟨B,by simp only[State.aY,List.getElem?_map,hb,Option.map_some,oH,h1,cond_true]⟩
theorem z76{α:Type}:∀{l r:List α} {x y:α},oj l=some (r,x,y)->l=r++ [x,y]
 | [],_,_,_,h=>by cases h
 | [_],_,_,_,h=>by cases h
 | [a,b],_,_,_,h=>by cases h;rfl
 |a::b::c::r,_,_,_,h=>by
  simp only[oj] at h
  split at h
  case h_2=>cases h
  rename_i l x y hl
  cases h
  have:=z76 (l:=b::c::r) hl
  rw[this];rfl
theorem vh(hE:ae P E){C:ax}(hC:C.Nat)(hf:∀f,bV P C f){ops:Array Oper}{s':State}{Q:Exit->Act->World->Prop}{rest:List Nat}:∀(l:List Nat) (X:ag) (s:State) (a:Act),Rel X s a->(∀i∈l,i<ops.size)->
 steps E (C State) ops.toList (l.map fun i=>ops.getD i default) s some=some s'->(∀Y a',Ext X Y->Rel Y s' a'->wpOps P ops Q rest a' Y.w)->wpOps P ops Q (l++rest) a X.w
 | [],X,s,a,hr,_,h,hQ=>by
   cases h
   exact hQ X a (Ext.refl X) hr
 |i::r,X,s,a,hr,hl,h,hQ=>by
  simp only[List.map_cons,steps] at h
  obtain⟨s1,h1,h2⟩:=zo (rD hC (F:=fun s=>steps E (C State) ops.toList (r.map fun i=>ops.getD i default) s some) (G:=some) (K:=fun s=>steps E (C State) ops.toList (r.map fun i=>ops.getD i default) s some) (fun _=>rfl)) h
  have hi:ops[i]? =some (ops.getD i default):=by
   have:=hl i (by simp)
   simp [this]
  rw[List.cons_append,wpOps_cons]
  refine rW hE hr hC hf hi h1 fun Y a' aB aE=> ?_
  exact vh hE hC hf r Y s1 a' aE (fun j hj=>hl j (List.mem_cons_of_mem _ hj)) h2 fun Z a2 aQ bC=>hQ Z a2 (aB.trans aQ) bC
theorem A4(hE:ae P E){X0:ag}(hF:∀g pl n,X0.ow g≠ .row pl n)(hx:Ext X0 X)(hr:Rel X s a){ops:Array Oper}{k l:Nat}{oA oS:Oper}(hA:ops[k]? =some oA)(hS:ops[l]? =some oS){s':State}(h:cY E oA oS s some=some s'){Q:Exit->Act->World->Prop}(hQ:∀Y a',Ext X0 Y->Rel Y s' a'->Q .normal a' Y.w):wpOps P ops Q [k,l] a X.w:=by
 unfold cY at h
 split at h
 case h_2=>cases h
 rename_i T x i T' d vo wo wq
 cases gj:(isDst oA d&&(!(Nat.beq x d)&&gZ oS)) with
 |false=>rw[gj] at h;cases h
 |true=>
 rw[gj,cond_true] at h
 rw[Bool.and_eq_true,Bool.and_eq_true] at gj
 obtain⟨hd,pV,gh⟩:=gj
 have gh:oS.dst=none/\oS.guard=none:=by
  unfold gZ at gh
  split at gh
  ·exact⟨by assumption,by assumption⟩
  ·cases gh
 have pV:x≠d:=fun e=>by rw[e] at pV;simp at pV
 unfold hG at h
 split at h
 case h_2=>cases h
 rename_i e t xs own pR
 cases hb:fc own [] with
 |false=>rw[hb] at h;cases h
 |true=>
 rw[hb,cond_true] at h
 split at h
 case h_2=>cases h
 rename_i u w hT jm
 cases hu:(u.aX (.sl e t)&&(w.aX t&&Nat.ble (d+1) s.sl.length)) with
 |false=>rw[hu] at h;cases h
 |true=>
 rw[hu,cond_true] at h
 rw[Bool.and_eq_true,Bool.and_eq_true] at hu
 have:=Ty.av hu.1
 subst this
 have:=Ty.av hu.2.1
 subst this
 have vW:d<a.tmps.size:=by rw[<-hr.size];exact Nat.le_of_ble_eq_true hu.2.2
 obtain⟨n,kk,h,hn⟩:=rq h
 obtain⟨y,h,hy⟩:=zi h
 obtain⟨h0,h1,h⟩:=jE h
 cases h
 have hi:n.toNat<xs.length:=by omega
 obtain⟨g,c,cur,hR⟩:=mB hr pR hb hi
 have cw:=hn X _ _ (hr.ak i)
 have hU:=hE.ty T _ hT
 have ev:a.eval (.tmp x)= .slice (some ⟨g,0,none⟩) xs.length c:=hR.val
 have ml:(execOp a.eval oA).run P X.w= .ok (.value (.pointer (some ⟨g,n.toNat*w.cells,none⟩))) X.w:=by
  have aw:n<(xs.length:Int):=h1
  simp only[execOp,wo,Sem.run_bind,Instr.indexAt,cw,ev,asIntOf,Sem.run_pure,Result.andThen_ok,run_underlying hU.bu.1,Sem.run_ite,h0,aw,and_self,if_true,zh hE hU.bu.2]
  simp [zn]
 refine raw hA hd ml ?_
 have cN:Rel X (s.ar (some d) [.undef]) (a.put (some d) (.pointer (some ⟨g,n.toNat*w.cells,none⟩))):=hr.put (fun _ _=>trivial) (fun id t p hm=>by simp at hm)
 have sJ:(a.put (some d) (.pointer (some ⟨g,n.toNat*w.cells,none⟩))).eval (.tmp d)= .pointer (some ⟨g,n.toNat*w.cells,none⟩):=by
  show(a.put (some d) _).tmps.getD d Go.undef=_
  rw[fK vW,if_pos rfl]
 generalize a.put (some d) (.pointer (some ⟨g,n.toNat*w.cells,none⟩))=a1 at cN sJ⊢
 obtain⟨cs,eY,pc⟩:=hy X _ _ (cN.ak vo)
 have hle:(n.toNat+1)*w.cells<=c*w.cells:=Nat.mul_le_mul_right _ (by have:=hR.le;omega)
 rw[Nat.add_mul,Nat.one_mul] at hle
 have bm:=nP (P:=P) hE jm eY (r:=g) (off:=n.toNat*w.cells) (w:=X.w) hR.heap (by rw[hR.size];exact hle)
 rw[wpOps_cons]
 unfold wpOp
 simp only[hS]
 have hw:Region.wanted oS (yielded ops a1.tmps)=true:=by simp [Region.wanted,gh.2]
 rw[if_pos hw]
 refine .inl ?_
 unfold Oper.wp
 generalize gH:(cur.toList.take (n.toNat*w.cells)++cs++cur.toList.drop (n.toNat*w.cells+cs.length)).toArray=new at bm
 have aA:(execOp a1.eval oS).run P X.w= .ok .skip (X.row g new).w:=by
  simp only[execOp,wq,Sem.run_bind,Instr.storeAt,sJ,Instr.sureAddr,Sem.run_pure,Result.andThen_ok,pc,bm]
  rfl
 rw[aA,Oper.upon_skip,gh.1]
 exact hQ _ a1 (A8 hF hx hR.ow) (Af cN hR.ow)
theorem Aa(hE:ae P E){C:ax}(hC:C.Nat)(hf:∀f,bV P C f){X0:ag}(hF:∀g pl n,X0.ow g≠ .row pl n)(hx:Ext X0 X)(hr:Rel X s a){id:Nat}{ops:Array Oper}{s':State}(h:dW E (C State) ops.toList s some=some s'){Q:Exit->Act->World->Prop}(hQ:∀Y a',Ext X0 Y->Rel Y s' a'->Q .normal a' Y.w):(Code.region id ops false).wp P Q a X.w:=by
 unfold dW at h
 split at h
 case h_2=>cases h
 rename_i l oA oS hl
 obtain⟨s1,h1,h2⟩:=zo (mV hC (F:=fun s=>cY E oA oS s some) (G:=some) (K:=fun s=>cY E oA oS s some) (fun _=>rfl) l s) h
 have fm:=z76 hl
 have bz:ops.size=l.length+2:=by rw[<-Array.length_toList,fm];simp
 refine wp_region ?_
 have fq:List.range ops.size=List.range l.length++ [l.length,l.length+1]:=by
  rw[bz,List.range_succ,List.range_succ,List.append_assoc];rfl
 rw[fq]
 have hA:ops[l.length]? =some oA:=by rw[<-Array.getElem?_toList,fm,List.getElem?_append_right (Nat.le_refl _),Nat.sub_self];rfl
 have hS:ops[l.length+1]? =some oS:=by rw[<-Array.getElem?_toList,fm,List.getElem?_append_right (by omega),Nat.add_sub_cancel_left];rfl
 have fV:(List.range l.length).map (fun i=>ops.getD i default)=l:=by
  apply List.ext_getElem?
  intro i
  rw[List.getElem?_map]
  by_cases hi:i<l.length
  ·have h3:ops[i]? =l[i]? :=by rw[<-Array.getElem?_toList,fm,List.getElem?_append_left hi]
   have h4:i<ops.size:=by omega
   rw[List.getElem?_range hi,<-h3]
   simp [h4]
  ·rw[List.getElem?_eq_none (by simpa using hi),List.getElem?_eq_none (by omega)];rfl
 refine vh hE hC hf (List.range l.length) X s a hr (fun i hi=>by have:=List.mem_range.1 hi;omega) (by rw[fV];exact h1) fun Y a' aB aE=> ?_
 exact A4 hE hF (hx.trans aB) aE hA hS h2 hQ
end Go.Ref

namespace Go.Ref
open Go
variable {P:Program} {E:Env} {X:ag} {s:State} {a:Act}
def Ex.exit':Ex->Exit
 | .normal=> .normal
 | .exit id=> .exit id
 | .ret=> .ret
theorem Ao{Q:Exit->Act->World->Prop}{c:Code}(I:Nat->Act->World->Prop)(round:∀n a w,I n a w->∃m,n=m+1/\c.wp P (Exit.then (I m) Q) a w){n:Nat}{a:Act}{w:World}(h₀:I n a w):(Code.loop c).wp P Q a w:=by
 intro b k cs
 have key:∀n a w,I n a w->∃e a' w',Q e a' w'/\Arrives P (lone (b.at a (.code c:: .inLoop c::k)) cs w) b k cs e a' w':=by
  intro n
  induction n with
  |zero=>intro a w h;obtain⟨m,hm,_⟩:=round 0 a w h;cases hm
  |succ n ih=>
   intro a w h
   obtain⟨m,hm,hr⟩:=round (n+1) a w h
   cases hm
   obtain⟨e,a₁,w₁,hq,eJ⟩:=hr b (.inLoop c::k) cs
   cases e with
   |normal=>
    obtain⟨e₂,a₂,w₂,hq₂,harr₂⟩:=ih a₁ w₁ hq
    exact⟨e₂,a₂,w₂,hq₂,.of_steps (Steps.trans eJ (.one step_inLoop)) harr₂⟩
   |exit id=>exact⟨_,a₁,w₁,hq,.pass (x:= .inLoop c) rfl (fun _ _=> .inl (by simp)) eJ⟩
   |goto l=>exact⟨_,a₁,w₁,hq,.pass (x:= .inLoop c) rfl (fun _ _=> .inl (by simp)) eJ⟩
   |ret=>exact⟨_,a₁,w₁,hq,.pass (x:= .inLoop c) rfl (fun _ _=> .inl (by simp)) eJ⟩
   |panic ch=>exact⟨_,a₁,w₁,hq,.pass (x:= .inLoop c) rfl (fun _ _=> .inl (by simp)) eJ⟩
   |outgrown=>exact⟨_,a₁,w₁,hq,.pass (x:= .inLoop c) rfl (fun _ _=> .inl (by simp)) eJ⟩
 obtain⟨e,a',w',hq,eJ⟩:=key n a w h₀
 exact⟨e,a',w',hq,.of_steps (.one step_loop) eJ⟩
theorem mR{α:Type}(z:α)(l:List Nat):∀(xs:List α) (i j:Nat),(cg z l i xs)[j]? =(xs[j]?).map fun x=>bif l.any (Nat.beq (i+j)) then x else z
 | [],i,j=>by simp [cg]
 |x::r,i,0=>by simp [cg]
 |x::r,i,j+1=>by
  simp only[cg,List.getElem?_cons_succ]
  rw[mR z l r (i+1) j,show i+1+j=i+(j+1) by omega]
theorem qV{α:Type}(z:α)(l:List Nat):∀(xs:List α) (i:Nat),(cg z l i xs).length=xs.length
 | [],i=>rfl
 |x::r,i=>by simp [cg,qV z l r]
theorem u7{p q:List Nat}:∀{l:List (List Nat)},q∈gV p l->q=p\/q∈l
 | [],h=>by simp [gV] at h;exact .inl h
 |r::l,h=>by
  simp only[gV] at h
  cases hl:p9 r p with
  |false=>rw[hl] at h;simpa using h
  |true=>
   rw[hl] at h
   rcases List.mem_cons.1 h with h|h
   ·exact .inr (by simp [h])
   ·rcases u7 h with h|h
    ·exact .inl h
    ·exact .inr (List.mem_cons_of_mem _ h)
theorem qW{q:List Nat}:∀{l:List (List Nat)},q∈fI l->q∈l
 | [],h=>h
 |p::l,h=>by
  rcases u7 h with h|h
  ·simp [h]
  ·exact List.mem_cons_of_mem _ (qW h)
theorem AZ{v:SV}{id:Nat}{t:Ty}{p:List Nat}(h:v.norm= .ptr id t p):v= .ptr id t p:=by
 cases v<;>simp [SV.norm] at h
 obtain⟨h1,h2,h3⟩:=h
 rw[h1,h2,h3]
theorem ah.norm{pl:List Nat->Place}{sv:SV}{v:Value}(hr:ah X pl sv v):ah X pl sv.norm v:=by
 cases sv with
 |aj t x own=>
  obtain⟨cs,h1,h2,h3⟩:=hr
  exact⟨cs,h1,h2,fun p hp=>h3 p (qW hp)⟩
 |_=>exact hr
theorem bj.norm{pl:Nat->List Nat->Place}{l:List SV}{v:Value}(hr:bj X pl l v):bj X pl (l.map SV.norm) v:=by
 match l,hr with
 | [s],hr=>exact ah.norm hr
 | [],hr=>exact hr
 |x::y::r,⟨vs,h1,h2,h3⟩=>
  refine⟨vs,h1,by simpa using h2,fun j s u hs hu=> ?_⟩
  have hs:((x::y::r).map SV.norm)[j]? =some s:=hs
  rw[List.getElem?_map] at hs
  obtain⟨s0,cz,rfl⟩:=Option.map_eq_some_iff.1 hs
  exact ah.norm (h3 j s0 u cz hu)
theorem bD.less{r:Nat}{pl:List Nat->Place}{t:Ty}{x:El t}{own eX:List (List Nat)}(ho:∀p∈eX,p∈own)(h:bD X r pl t x own):bD X r pl t x eX:=by
 unfold bD at h⊢
 split at h
 ·exact h
 ·exact h
 ·exact h
 ·exact⟨h.1,fun hm=>h.2 (ho [] hm)⟩
 ·exact h.elim
 ·obtain⟨cs,T,h1,h2,h3⟩:=h
  exact⟨cs,T,h1,h2,fun p hp=>h3 p (ho p hp)⟩
theorem Rel.norm(hr:Rel X s a):Rel X s.norm a where
 size:=by simpa [State.norm] using hr.size
 cL:=by simpa [State.norm] using hr.cL
 aL:=fun i l v hl hv=>by
  simp only[State.norm,List.getElem?_map] at hl
  obtain⟨l0,h0,rfl⟩:=Option.map_eq_some_iff.1 hl
  exact bj.norm (hr.aL i l0 v h0 hv)
 boxes:=fun id B hB=>by
  simp only[State.norm,List.getElem?_map] at hB
  obtain⟨b0,h0,h1⟩:=Option.map_eq_some_iff.1 hB
  obtain⟨B0,rfl,rfl⟩:=Option.map_eq_some_iff.1 h1
  obtain⟨r,g1,g2,g3⟩:=hr.boxes id B0 h0
  exact⟨r,g1,g2,g3.less fun p hp=>qW hp⟩
 live:=fun i l id t p hl hm=>by
  simp only[State.norm,List.getElem?_map] at hl
  obtain⟨l0,h0,rfl⟩:=Option.map_eq_some_iff.1 hl
  obtain⟨v0,tj,he⟩:=List.mem_map.1 hm
  rw[AZ he] at tj
  obtain⟨B,hB⟩:=hr.live i l0 id t p h0 tj
  exact⟨B.norm,by simp [State.norm,hB]⟩
 defers:=hr.defers
theorem mN(hr:Rel X s a){l:List Nat}{R:Type}{K:State->Option R}{z:R}(h:hN l s K=some z):∃s',K s'=some z/\Rel X s' a:=by
 unfold hN at h
 simp only at h
 cases hb:(cg [.undef] l 0 s.sl).all (fun v=>v.all (SV.roots l)) with
 |false=>rw[hb] at h;cases h
 |true=>
  rw[hb] at h
  refine⟨_,h,Rel.norm ?_⟩
  have dB:s.bs=s.bs.headD none::s.bs.tail:=by
   have:=hr.cL
   cases hs:s.bs with
   |nil=>rw[hs] at this;simp at this
   |cons b r=>rfl
  have bd:∀(id:Nat) B,(s.bs.headD none::cg none l 0 s.bs.tail)[id]? =some (some B)->s.bs[id]? =some (some B):=by
   intro id B hB
   rw[dB]
   cases id with
   |zero=>exact hB
   |succ id=>
    simp only[List.getElem?_cons_succ] at hB⊢
    rw[mR] at hB
    obtain⟨x,hx,he⟩:=Option.map_eq_some_iff.1 hB
    rw[hx]
    cases hl:l.any (Nat.beq (0+id))<;>rw[hl] at he
    ·cases he
    ·rw[<-he];rfl
  refine⟨by rw[qV];exact hr.size,?_,fun i v x hv hx=> ?_,fun id B hB=>hr.boxes id B (bd id B hB),fun i v id t p hv hm=> ?_,hr.defers⟩
  ·simp only[List.length_cons,qV,List.length_tail]
   have:=hr.cL
   omega
  ·rw[mR] at hv
   obtain⟨y,hy,rfl⟩:=Option.map_eq_some_iff.1 hv
   cases hl:l.any (Nat.beq (0+i)) with
   |false=>trivial
   |true=>exact hr.aL i y x hy hx
  ·have mi:SV.roots l (.ptr id t p)=true:=by
    have:=List.all_eq_true.1 hb v (List.mem_of_getElem? hv)
    exact List.all_eq_true.1 this _ hm
   rw[mR] at hv
   obtain⟨y,hy,he⟩:=Option.map_eq_some_iff.1 hv
   have pD:SV.ptr id t p∈y:=by
    cases hl:l.any (Nat.beq (0+i)) with
    |false=>rw[hl] at he;subst he;simp at hm
    |true=>rw[hl] at he;subst he;exact hm
   obtain⟨B,hB⟩:=hr.live i y id t p hy pD
   refine⟨B,?_⟩
   rw[dB] at hB
   cases id with
   |zero=>exact hB
   |succ id=>
    simp only[List.getElem?_cons_succ] at hB⊢
    rw[mR,hB]
    have:l.any (Nat.beq id)=true:=mi
    have h2:l.any (Nat.beq (0+id))=true:=by rw[Nat.zero_add];exact this
    simp [this]
theorem AE{Y:ag}{id:Nat}{pl:Nat->List Nat->Place}{l:List SV}{v:Value}(hr:bj Y pl l v):bj Y pl (iD id l) v:=by
 have key:∀(sv:SV) (q:List Nat->Place) (w:Value),ah Y q sv w->ah Y q (match sv with
  | .ptr j _ _=>bif Nat.beq j id then .undef else sv
  |v=>v) w:=by
  intro sv q w h
  cases sv with
  |ptr j t p=>
   simp only
   cases Nat.beq j id with
   |true=>trivial
   |false=>exact h
  |_=>exact h
 match l,hr with
 | [sv],hr=>exact key sv _ _ hr
 | [],hr=>exact hr
 |x::y::r,⟨vs,h1,h2,h3⟩=>
  refine⟨vs,h1,by simpa [iD] using h2,fun j s u hs hu=> ?_⟩
  have hs:(iD id (x::y::r))[j]? =some s:=hs
  unfold iD at hs
  rw[List.getElem?_map] at hs
  obtain⟨s0,cz,rfl⟩:=Option.map_eq_some_iff.1 hs
  exact key s0 _ _ (h3 j s0 u cz hu)
theorem Bz{id:Nat}{l:List SV}{j:Nat}{t:Ty}{p:List Nat}(h:SV.ptr j t p∈iD id l):SV.ptr j t p∈l/\j≠id:=by
 unfold iD at h
 obtain⟨s0,cz,he⟩:=List.mem_map.1 h
 cases s0 with
 |ptr j' t' p'=>
  simp only at he
  cases hb:Nat.beq j' id with
  |true=>rw[hb] at he;cases he
  |false=>
   rw[hb] at he
   cases he
   exact⟨cz,fun e=>Nat.ne_of_beq_eq_false hb e⟩
 |_=>simp only at he;cases he
def ag.still(X:ag)(r n:Nat):ag:={X with ow:=fun g=>if g=r then .ro n else X.ow g}
theorem iZ{r n id:Nat}(h:X.ow r= .box id){ad:Addr}{v:Value}(hs:X.ai ad v):(X.still r n).ai ad v:=by
 have bp:ad.block≠r:=fun e=>by
  have:=hs.2.2
  rw[e,h] at this
  exact this
 refine⟨hs.1,hs.2.1,?_⟩
 simp only[ag.still]
 rw[if_neg bp]
 exact hs.2.2
theorem uM{r n id:Nat}(h:X.ow r= .box id):Ext X (X.still r n) where
 ai:=fun _ _=>iZ h
 size:=Nat.le_refl _
 os:=rfl
 tape:=rfl
 output:=rfl
 β0:=rfl
 still:=fun g _ bm=>by
  have bp:g≠r:=fun e=>by rw[e,h] at bm;exact bm
  exact⟨by simp only[ag.still];rw[if_neg bp],rfl⟩
theorem aD.bM{r n id:Nat}(h:X.ow r= .box id){pl:Place}{e:TypeId}{k m:Nat}{v:Value}(ho:aD X pl e k m v):aD (X.still r n) pl e k m v:=by
 rcases ho with ho|⟨g,cap,cur,h1,h2,h3,h4,h5,h6⟩
 ·exact .inl ho
 ·have bp:g≠r:=fun e=>by rw[e,h] at h6;cases h6
  exact .inr ⟨g,cap,cur,h1,h2,h3,h4,h5,by simp only[ag.still];rw[if_neg bp];exact h6⟩
theorem aC.bM{r n id:Nat}(h:X.ow r= .box id){pl:List Nat->Place}{t:Ty}{x:El t}{c:List Value}{own:List (List Nat)}(ho:aC X pl t x c own):aC (X.still r n) pl t x c own:=fun p hp=>by
 obtain⟨e,t',xs,v,g0,g1,g2,g3⟩:=ho p hp
 exact⟨e,t',xs,v,g0,g1,g2,g3.bM h⟩
theorem ah.bM{r n id:Nat}(h:X.ow r= .box id){pl:List Nat->Place}{sv:SV}{v:Value}(hr:ah X pl sv v):ah (X.still r n) pl sv v:=by
 cases sv with
 |aj t x own=>
  obtain⟨c,h1,h2,h3⟩:=hr
  exact⟨c,h1.af (fun _ _=>iZ h),h2,h3.bM h⟩
 |view t x=>
  obtain⟨ad,c,h1,h2,h3,h4⟩:=hr
  exact⟨ad,c,h1,h2,h3.af (fun _ _=>iZ h),fun i u hi=>iZ h (h4 i u hi)⟩
 |cap f t x u y=>exact ij (fun _ _=>iZ h) hr
 |_=>exact hr
theorem qT(l:List Nat):∀(xs:List (Option aH)) (i j:Nat),(cT l i xs)[j]? =(xs[j]?).map fun b=>bif l.any (Nat.beq (i+j)) then b.map (fun B=>{B with own:=[]}) else b
 | [],i,j=>by simp [cT]
 |x::r,i,0=>by simp [cT]
 |x::r,i,j+1=>by
  simp only[cT,List.getElem?_cons_succ]
  rw[qT l r (i+1) j,show i+1+j=i+(j+1) by omega]
theorem uv(l:List Nat):∀(xs:List (Option aH)) (i:Nat),(cT l i xs).length=xs.length
 | [],i=>rfl
 |x::r,i=>by simp [cT,uv l r]
theorem Rel.drop(hr:Rel X s a)(l:List Nat):Rel X (s.drop l) a where
 size:=hr.size
 cL:=by simp only[State.drop,uv];exact hr.cL
 aL:=hr.aL
 boxes:=fun id B hB=>by
  simp only[State.drop,qT] at hB
  obtain⟨b0,h0,h1⟩:=Option.map_eq_some_iff.1 hB
  cases hl:l.any (Nat.beq (0+id)) with
  |false=>rw[hl] at h1;simp only[cond_false] at h1;subst h1;exact hr.boxes id B h0
  |true=>
   rw[hl] at h1
   simp only[cond_true] at h1
   obtain⟨B0,rfl,rfl⟩:=Option.map_eq_some_iff.1 h1
   obtain⟨r,g1,g2,g3⟩:=hr.boxes id B0 h0
   exact⟨r,g1,g2,g3.less fun p hp=>by cases hp⟩
 live:=fun i v id t p hv hm=>by
  obtain⟨B,hB⟩:=hr.live i v id t p hv hm
  simp only[State.drop,qT,hB,Option.map_some]
  cases l.any (Nat.beq (0+id))<;>exact⟨_,rfl⟩
 defers:=hr.defers
theorem Be(hr:Rel X s a){r:Nat}{R:Type}{K:State->Option R}{z:R}(h:fZ E r s K=some z):∃Y s',Y.w=X.w/\Ext X Y/\K s'=some z/\Rel Y s' a:=by
 unfold fZ at h
 split at h
 ·exact⟨X,s,rfl,Ext.refl X,h,hr⟩
 rename_i d T v8
 split at h
 case h_2=>cases h
 rename_i id n ta tb e t dq hT
 split at h
 case isFalse=>cases h
 rename_i heq
 have:=Ty.av heq
 subst this
 split at h
 case h_2=>cases h
 rename_i B hB
 split at h
 case isFalse=>cases h
 rename_i cj
 obtain⟨hb,rr,h1,how,cs,T',ap,cO,b6⟩:=ku hr hB cj
 generalize(Ty.cast cj B.x:List (El ta))=xs at*
 cases hn:Nat.beq n (List.length xs) with
 |false=>rw[hn] at h;cases h
 |true=>
  rw[hn] at h
  have hn:=Nat.eq_of_beq_eq_true hn
  have hd:d<s.sl.length:=by
   rcases Nat.lt_or_ge d s.sl.length with h1|h1
   ·exact h1
   ·simp [State.slot,List.getElem?_eq_none h1] at dq
  have eP:=hr.slot d
  rw[dq] at eP
  obtain⟨r0,hβ,cap,hv,eL⟩:=(show ah X (.c d 0) (.ptr id (.aF (.dD n) ta tb) []) _ from eP)
  rw[h1] at hβ
  cases hβ
  have aw:id<s.bs.length:=(List.getElem?_eq_some_iff.1 hb).1
  refine⟨X.still rr (xs.length*ta.cells),_,rfl,uM how,h,?_,?_,fun i l v hl hx=> ?_,fun aS B' cM=> ?_,fun i l j t p hl hm=> ?_,hr.defers⟩
  ·simpa using hr.size
  ·simpa using hr.cL
  ·replace hl:((s.sl.map (iD id)).set d [.aj (.sl e ta) xs []])[i]? =some l:=hl
   rw[List.getElem?_set] at hl
   split at hl
   ·rename_i iH
    subst iH
    rw[if_pos (by simpa using hd)] at hl
    cases hl
    have pU:a.tmps.getD d Go.undef=v:=by
     rw[Array.getD_eq_getD_getElem?,hx];rfl
    rw[pU] at hv
    refine⟨[v],?_,rfl,zr⟩
    rw[hv,hn]
    refine az.iU rfl (by omega) (fun j y hj=>⟨⟨rr,0,none⟩,_,rfl,rfl,(b6 j y hj).af (fun _ _=>iZ how),fun i u hi=> ?_⟩)
    have iJ:=(List.getElem?_eq_some_iff.1 hj).1
    have hle:(j+1)*ta.cells<=xs.length*ta.cells:=Nat.mul_le_mul_right _ iJ
    rw[Nat.add_mul,Nat.one_mul] at hle
    rw[List.getElem?_take] at hi
    split at hi
    case isFalse=>cases hi
    rename_i nA
    rw[List.getElem?_drop] at hi
    refine⟨jF rfl _,?_,?_⟩
    ·rw[zn,Nat.zero_add]
     show X.w.cell? _=_
     simp only[World.cell?,ap]
     simpa using hi
    ·rw[zn,Nat.zero_add]
     show Ow.used (if rr=rr then .ro (xs.length*ta.cells) else X.ow rr) _
     rw[if_pos rfl]
     show j*ta.cells+i<_
     omega
   ·rw[List.getElem?_map] at hl
    obtain⟨l0,h0,rfl⟩:=Option.map_eq_some_iff.1 hl
    exact AE ((hr.aL i l0 v h0 hx).dE fun j sv u hm dC=>dC.bM how)
  ·replace cM:(s.bs.set id none)[aS]? =some (some B'):=cM
   rw[List.getElem?_set] at cM
   split at cM
   ·rename_i nz
    cases cM
   ·rename_i nz
    obtain⟨r',g1,g2,g3⟩:=hr.boxes aS B' cM
    have bp:r'≠rr:=fun e2=>by rw[e2,how] at g2;cases g2;exact nz rfl
    exact⟨r',g1,by simp only[ag.still];rw[if_neg bp];exact g2,g3.move (fun _ _=>iZ how) rfl (fun cs h5=>h5.bM how) fun _ g o ho hw=>⟨ho,by simp only[ag.still];rw[if_neg (fun e3=>by rw[e3,how] at hw;cases hw)];exact hw⟩⟩
  ·replace hl:((s.sl.map (iD id)).set d [.aj (.sl e ta) xs []])[i]? =some l:=hl
   rw[List.getElem?_set] at hl
   split at hl
   ·rw[if_pos (by simpa using hd)] at hl
    cases hl
    simp at hm
   ·rw[List.getElem?_map] at hl
    obtain⟨l0,h0,rfl⟩:=Option.map_eq_some_iff.1 hl
    obtain⟨hm,bp⟩:=Bz hm
    obtain⟨B2,bB⟩:=hr.live i l0 j t p h0 hm
    exact⟨B2,by show(s.bs.set id none)[j]? =_;rw[List.getElem?_set,if_neg (fun e=>bp e.symm)];exact bB⟩
theorem uP(hr:Rel X s a){id rr:Nat}{B:aH}(hb:s.bs[id]? =some (some B))(hs:B.t.aI=false)(h1:X.β id=some rr)(how:X.ow rr= .box id){cs:Array Value}{T:TypeId}(ap:X.w.heap[rr]? =some (.cells cs T (0,0)))(au:az X B.t B.x cs.toList){pl:List Nat->Place}{sv:SV}{v:Value}(h:ah X pl sv v):ah (X.still rr cs.size) pl (ji id B sv) v:=by
 have bP:=h.bM (n:=cs.size) how
 cases sv with
 |ptr j t p=>
  unfold ji
  simp only
  cases hj:Nat.beq j id with
  |false=>exact bP
  |true=>
   have:=Nat.eq_of_beq_eq_true hj
   subst this
   simp only[cond_true]
   split
   case isFalse=>trivial
   rename_i heq
   have:=Ty.av heq
   subst this
   split
   case h_2=>trivial
   rename_i u y bd
   obtain⟨r0,hβ,hv⟩:=h
   rw[h1] at hβ
   cases hβ
   obtain⟨hv,cw⟩:=(zq hs).1 hv
   obtain⟨k1,k2,k3⟩:=m5 au cw bd
   refine⟨_,_,hv,rfl,k3.af (fun _ _=>iZ how),fun i w hi=>⟨jF rfl _,?_,?_⟩⟩
   ·exact nZ ap hi
   ·rw[zn]
    show Ow.used (if rr=rr then .ro cs.size else X.ow rr) _
    rw[if_pos rfl]
    rw[List.getElem?_take] at hi
    split at hi
    case isFalse=>cases hi
    rw[List.getElem?_drop] at hi
    have:=(List.getElem?_eq_some_iff.1 hi).1
    show _<cs.size
    simpa using this
 |_=>exact bP
theorem Am(hr:Rel X s a){id rr:Nat}{B:aH}(hb:s.bs[id]? =some (some B))(hs:B.t.aI=false)(h1:X.β id=some rr)(how:X.ow rr= .box id){cs:Array Value}{T:TypeId}(ap:X.w.heap[rr]? =some (.cells cs T (0,0)))(au:az X B.t B.x cs.toList){pl:Nat->List Nat->Place}{l:List SV}{v:Value}(h:bj X pl l v):bj (X.still rr cs.size) pl (l.map (ji id B)) v:=by
 match l,h with
 | [sv],h=>exact uP hr hb hs h1 how ap au h
 | [],⟨vs,g1,g2,g3⟩=>exact⟨vs,g1,g2,fun j sv u eo=>by simp at eo⟩
 |x::y::r,⟨vs,g1,g2,g3⟩=>
  refine⟨vs,g1,by simpa using g2,fun j sv u eo hu=> ?_⟩
  have eo:((x::y::r).map (ji id B))[j]? =some sv:=eo
  rw[List.getElem?_map] at eo
  obtain⟨s0,cz,rfl⟩:=Option.map_eq_some_iff.1 eo
  exact uP hr hb hs h1 how ap au (g3 j s0 u cz hu)
theorem Bh{id:Nat}{B:aH}{l:List SV}{j:Nat}{t:Ty}{p:List Nat}(h:SV.ptr j t p∈l.map (ji id B)):SV.ptr j t p∈l/\j≠id:=by
 obtain⟨s0,cz,he⟩:=List.mem_map.1 h
 unfold ji at he
 cases s0 with
 |ptr j' t' p'=>
  simp only at he
  cases hb:Nat.beq j' id with
  |true=>
   rw[hb] at he
   simp only[cond_true] at he
   split at he
   ·split at he<;>cases he
   ·cases he
  |false=>
   rw[hb] at he
   cases he
   exact⟨cz,fun e=>Nat.ne_of_beq_eq_false hb e⟩
 |_=>simp only at he;cases he
theorem xW(hr:Rel X s a){id:Nat}{R:Type}{K:State->Option R}{z:R}(h:oh id s K=some z):∃Y s',Y.w=X.w/\Ext X Y/\K s'=some z/\Rel Y s' a:=by
 unfold oh at h
 split at h
 case h_2=>cases h
 rename_i B hB
 split at h
 case isTrue=>cases h
 rename_i hs
 have hs:B.t.aI=false:=by simpa using hs
 have hb:=gk hB
 obtain⟨rr,h1,iF⟩:=hr.boxes id B hb
 obtain⟨cs,T,ap,au,how,_⟩:=iF.cells hs
 refine⟨X.still rr cs.size,_,rfl,uM how,h,by simpa using hr.size,by simpa using hr.cL,fun i l v hl hx=> ?_,fun aS B' cM=> ?_,fun i l j t p hl hm=> ?_,hr.defers⟩
 ·replace hl:(s.sl.map fun l=>l.map (ji id B))[i]? =some l:=hl
  rw[List.getElem?_map] at hl
  obtain⟨l0,h0,rfl⟩:=Option.map_eq_some_iff.1 hl
  exact Am hr hb hs h1 how ap au (hr.aL i l0 v h0 hx)
 ·replace cM:(s.bs.set id none)[aS]? =some (some B'):=cM
  rw[List.getElem?_set] at cM
  split at cM
  ·split at cM<;>cases cM
  ·rename_i nz
   obtain⟨r',g1,g2,g3⟩:=hr.boxes aS B' cM
   have bp:r'≠rr:=fun e2=>by rw[e2,how] at g2;cases g2;exact nz rfl
   exact⟨r',g1,by simp only[ag.still];rw[if_neg bp];exact g2,g3.move (fun _ _=>iZ how) rfl (fun cs h5=>h5.bM how) fun _ g o ho hw=>⟨ho,by simp only[ag.still];rw[if_neg (fun e3=>by rw[e3,how] at hw;cases hw)];exact hw⟩⟩
 ·replace hl:(s.sl.map fun l=>l.map (ji id B))[i]? =some l:=hl
  rw[List.getElem?_map] at hl
  obtain⟨l0,h0,rfl⟩:=Option.map_eq_some_iff.1 hl
  obtain⟨hm,bp⟩:=Bh hm
  obtain⟨B2,bB⟩:=hr.live i l0 j t p h0 hm
  exact⟨B2,by show(s.bs.set id none)[j]? =_;rw[List.getElem?_set,if_neg (fun e=>bp e.symm)];exact bB⟩
theorem tS{R:Type}{K:State->Option R}{z:R}:∀(l:List Nat) (X:ag) (s:State),Rel X s a->z37 l s K=some z->∃Y s',Y.w=X.w/\Ext X Y/\K s'=some z/\Rel Y s' a
 | [],X,s,hr,h=>⟨X,s,rfl,Ext.refl X,h,hr⟩
 |id::r,X,s,hr,h=>by
  obtain⟨Y,s1,h1,h2,h3,h4⟩:=xW hr h
  obtain⟨Z,s2,k1,k2,k3,k4⟩:=tS r Y s1 h4 h3
  exact⟨Z,s2,k1.trans h1,h2.trans k2,k3,k4⟩
def Fr(E:Env)(X0:ag):Prop:=E.sp≠none->∀g pl n,X0.ow g≠ .row pl n
def uQ(P:Program)(E:Env)(C:ax)(k:Nat)(c:Code):Prop:=
 ∀(X0 X:ag) (s:State) (a:Act) (e:Ex) (s':State),Fr E X0->Ext X0 X->Rel X s a->ev E (C (Ex×State)) k c s (fun e s=>some (e,s))=some (e,s')->
  ∀(Q:Exit->Act->World->Prop),(∀Y a',Ext X0 Y->Rel Y s' a'->Q e.exit' a' Y.w)->c.wp P Q a X.w
theorem AW(hr:Rel X s a){k r:Nat}{R:Type}{K:State->Option R}{z:R}(h:eW E k r s K=some z):∃s',K s'=some z/\Rel X s' a:=by
 unfold eW at h
 split at h
 ·exact⟨s,h,hr⟩
 ·obtain⟨s',h1,h2⟩:=mN hr h
  refine⟨s',?_,h2⟩
  unfold eU at h1
  split at h1
  ·cases h1
  ·exact h1
theorem zO{C:ax}(hC:C.Nat){k:Nat}{b:Code}(hb:uQ P E C k b){l lx:List Nat}{Q:Exit->Act->World->Prop}{e':Ex}{s':State}{X0:ag}(hF:Fr E X0)(hQ:∀Y a',Ext X0 Y->Rel Y s' a'->Q e'.exit' a' Y.w):
 ∀(n:Nat) (a:Act) (w:World),(∃X s,X.w=w/\Ext X0 X/\Rel X s a/\bT (ev E (C (Ex×State)) k b) l lx n s (fun e s=>some (e,s))=some (e',s'))->
  ∃m,n=m+1/\b.wp P (Exit.then (fun a w=>∃X s,X.w=w/\Ext X0 X/\Rel X s a/\bT (ev E (C (Ex×State)) k b) l lx m s (fun e s=>some (e,s))=some (e',s')) Q) a w:=by
 rintro n a w ⟨X,s,rfl,aB,hr,h⟩
 cases n with
 |zero=>cases h
 |succ m=>
  refine⟨m,rfl,?_⟩
  simp only[bT] at h
  obtain⟨⟨e1,s2⟩,h1,h2⟩:=zo (iv hC b _ (fun e s=>some (e,s)) (K:=fun z=>match z.1 with
   | .normal=>hN l z.2 fun s=>bT (ev E (C (Ex×State)) k b) l lx m s (fun e s=>some (e,s))
   |e=>hN lx z.2 fun s=>some (e,s)) (fun e s=>by cases e<;>rfl) s) h
  refine hb X0 X s a e1 s2 hF aB hr h1 _ fun Y a' aQ aE=> ?_
  cases e1 with
  |normal=>
   obtain⟨s3,h3,ka⟩:=mN aE h2
   exact⟨Y,s3,rfl,aQ,ka,h3⟩
  |exit id=>
   obtain⟨s3,h3,ka⟩:=mN aE h2
   cases h3
   exact hQ Y a' aQ ka
  |ret=>
   obtain⟨s3,h3,ka⟩:=mN aE h2
   cases h3
   exact hQ Y a' aQ ka
theorem tK(hE:ae P E)(hm:P.follows .mixedOrders=true){C:ax}(hC:C.Nat)(hf:∀f,bV P C f){id:Nat}{ops:Array Oper}{d:Bool}{sG X0:ag}{s0:State}{a:Act}{e:Ex}{s':State}(hx:Ext sG X0)(td:Rel X0 s0 a)(h0:lf E (C (Ex×State)) id ops d s0 ((fun e s=>some (e,s)) Ex.normal)=some (e,s')){Q:Exit->Act->World->Prop}(sP:∀Y a',Ext sG Y->Rel Y s' a'->Q e.exit' a' Y.w):(Code.region id ops d).wp P Q a X0.w:=by
 unfold lf at h0
 obtain⟨X1,s1,nI,jo,sL,cN⟩:=Be td h0
 obtain⟨X,s,ig,aQ,h,hr⟩:=tS _ X1 s1 cN sL
 have hw:X.w=X0.w:=ig.trans nI
 have jn:Ext X0 X:=jo.trans aQ
 clear sL cN nI ig jo aQ
 have hQ:∀Y a',Ext X Y->Rel Y s' a'->Q e.exit' a' Y.w:=fun Y a' aB aE=>sP Y a' (hx.trans (jn.trans aB)) aE
 rw[<-hw]
 clear h0 td sP jn hw
 cases d with
 |true=>
  simp only[cond_true] at h
  obtain⟨s1,h1,h2⟩:=zo (qJ hC (F:=fun s=>some (Ex.normal,s)) (G:=some) (K:=fun s=>some (Ex.normal,s)) (fun _=>rfl) ops.toList 0 s []) h
  cases h2
  exact zG hE hm hC hf hr h1 hQ
 |false=>
  simp only[cond_false] at h
  obtain⟨s1,h1,h2⟩:=zo (mV hC (F:=fun s=>some (Ex.normal,s)) (G:=some) (K:=fun s=>some (Ex.normal,s)) (fun _=>rfl) ops.toList s) h
  cases h2
  refine wp_region (vi hE hC hf (List.range ops.size) X s a hr (fun i hi=>List.mem_range.1 hi) ?_ hQ)
  have:(List.range ops.size).map (fun i=>ops.getD i default)=ops.toList:=by
   apply List.ext_getElem?
   intro i
   rw[List.getElem?_map]
   by_cases hi:i<ops.size
   ·simp [hi]
   ·simp [hi]
  rw[this];exact h1
theorem kn(hE:ae P E)(hm:P.follows .mixedOrders=true){C:ax}(hC:C.Nat)(hf:∀f,bV P C f)(k:Nat):∀c:Code,uQ P E C k c
 | .skip=>fun X0 X s a e s' hF hx hr h Q hQ=>by
   simp only[ev,Option.some.injEq,Prod.mk.injEq] at h
   obtain⟨rfl,rfl⟩:=h
   exact wp_skip (hQ X a hx hr)
 | .region id ops d=>fun X0 X s a e s' hF hx hr h Q hQ=>by
   simp only[ev] at h
   split at h
   ·rename_i j q eF
    cases hj:Nat.beq id j with
    |true=>
     rw[hj,cond_true] at h
     cases d with
     |true=>cases h
     |false=>
      cases hq:Nat.beq q.2.2 0 with
      |true=>
       simp only[hq,cond_true] at h
       obtain⟨s1,h1,h2⟩:=zo (ve hC (F:=fun s=>some (Ex.normal,s)) (G:=some) (K:=fun s=>some (Ex.normal,s)) (fun _=>rfl)) h
       cases h2
       exact Aa hE hC hf (hF (by rw[eF];exact fun e=>by cases e)) hx hr h1 hQ
      |false=>
      simp only[hq,cond_false] at h
      obtain⟨s1,h1,h2⟩:=zo (vj (F:=fun s=>some (Ex.normal,s)) (G:=some) (K:=fun s=>some (Ex.normal,s)) (fun _=>rfl)) h
      cases h2
      exact Ak hE (hF (by rw[eF];exact fun e=>by cases e)) hx hr h1 hQ
    |false=>
     rw[hj,cond_false] at h
     exact tK hE hm hC hf hx hr h hQ
   ·exact tK hE hm hC hf hx hr h hQ
 | .seq x y=>fun X0 X s a e s' hF hx hr h Q hQ=>by
   simp only[ev] at h
   obtain⟨⟨e1,s1⟩,h1,h2⟩:=zo (iv hC x _ (fun e s=>some (e,s)) (K:=fun z=>match z.1 with
    | .normal=>eW E k (zu y) z.2 fun s=>ev E (C (Ex×State)) k y s (fun e s=>some (e,s))
    |e=>some (e,z.2)) (fun e s=>by cases e<;>rfl) s) h
   refine wp_seq (kn hE hm hC hf k x X0 X s a e1 s1 hF hx hr h1 _ fun Y a' aB aE=> ?_)
   cases e1 with
   |normal=>
    obtain⟨s2,h2,aE⟩:=AW aE h2
    exact kn hE hm hC hf k y X0 Y s2 a' e s' hF aB aE h2 Q hQ
   |exit id=>cases h2;exact hQ Y a' aB aE
   |ret=>cases h2;exact hQ Y a' aB aE
 | .cond c x y=>fun X0 X s a e s' hF hx hr h Q hQ=>by
   simp only[ev] at h
   have hc:=hr.ak c
   split at h
   case h_2=>cases h
   rename_i p w hs
   rw[hs] at hc
   have hv:=mK hc
   have cN:Rel X (s.ar (hH c) (bl p)) a:=by
    cases c with
    |tmp i=>
     have dq:s.slot i=[.aj .bool p w]:=by
      have hh:one (s.slot i)= .aj .bool p w:=hs
      match hm:s.slot i,hh with
      | [sv],hh=>have wc:sv= .aj .bool p w:=hh;rw[wc]
      | [],hh=>cases hh
      |_::_::_,hh=>cases hh
     exact(hr.know dq).1
    |_=>exact hr
   refine wp_cond_split hv (fun hp=> ?_) (fun hp=> ?_)
   ·subst hp
    exact kn hE hm hC hf k x X0 X _ a e s' hF hx cN h Q hQ
   ·subst hp
    exact kn hE hm hC hf k y X0 X _ a e s' hF hx cN h Q hQ
 | .block id b=>fun X0 X s a e s' hF hx hr h Q hQ=>by
   simp only[ev] at h
   obtain⟨⟨e1,s1⟩,h1,h2⟩:=zo (iv hC b _ (fun e s=>some (e,s)) (K:=fun z=>match z.1 with
    | .exit j=>bif Nat.beq j id then some (.normal,z.2) else some (.exit j,z.2)
    |e=>some (e,z.2)) (fun e s=>by cases e<;>rfl) s) h
   refine wp_block (kn hE hm hC hf k b X0 X s a e1 s1 hF hx hr h1 _ fun Y a' aB aE=> ?_)
   cases e1 with
   |normal=>cases h2;exact hQ Y a' aB aE
   |ret=>cases h2;exact hQ Y a' aB aE
   |exit j=>
    simp only at h2
    show(if j=id then Q .normal a' Y.w else Q (.exit j) a' Y.w)
    cases hj:Nat.beq j id with
    |true=>
     rw[hj] at h2;cases h2
     rw[if_pos (Nat.eq_of_beq_eq_true hj)]
     exact hQ Y a' aB aE
    |false=>
     rw[hj] at h2;cases h2
     rw[if_neg (Nat.ne_of_beq_eq_false hj)]
     exact hQ Y a' aB aE
 | .loop b=>fun X0 X s a e s' hF hx hr h Q hQ=>by
   simp only[ev] at h
   obtain⟨s1,h,cN⟩:=mN (hr.drop _) h
   exact Ao _ (zO hC (kn hE hm hC hf k b) hF (Q:=Q) hQ) ⟨X,s1,rfl,hx,cN,h⟩
 | .exit id=>fun X0 X s a e s' hF hx hr h Q hQ=>by
   simp only[ev,Option.some.injEq,Prod.mk.injEq] at h
   obtain⟨rfl,rfl⟩:=h
   exact wp_exit (hQ X a hx hr)
 | .ret=>fun X0 X s a e s' hF hx hr h Q hQ=>by
   simp only[ev,Option.some.injEq,Prod.mk.injEq] at h
   obtain⟨rfl,rfl⟩:=h
   exact wp_ret (hQ X a hx hr)
 | .rangeFunc .. =>fun X0 X s a e s' hF hx hr h Q hQ=>by simp only[ev] at h;cases h
 | .scope _=>fun X0 X s a e s' hF hx hr h Q hQ=>by simp only[ev] at h;cases h
 | .label _=>fun X0 X s a e s' hF hx hr h Q hQ=>by simp only[ev] at h;cases h
 | .goto _=>fun X0 X s a e s' hF hx hr h Q hQ=>by simp only[ev] at h;cases h
 | .refuse _=>fun X0 X s a e s' hF hx hr h Q hQ=>by simp only[ev] at h;cases h
end Go.Ref

namespace Go.Ref
open Go
variable {P:Program} {E:Env} {X:ag} {s:State} {a:Act}
def bQ(X Y:ag):Prop:=Y.w=X.w/\∀g j p n,X.ow g= .row (.r j p) n->Y.ow g= .row (.r j p) n
theorem bQ.refl(X:ag):bQ X X:=⟨rfl,fun _ _ _ _ h=>h⟩
theorem bQ.trans{X Y Z:ag}(h:bQ X Y)(k:bQ Y Z):bQ X Z:=⟨k.1.trans h.1,fun g j p n e=>k.2 g j p n (h.2 g j p n e)⟩
theorem ah.jC{X Y:ag}(h:bQ X Y)(hx:Ext X Y)(hβ:Y.β=X.β){j:Nat}{sv:SV}{v:Value}(hr:ah X (.r j) sv v):ah Y (.r j) sv v:=by
 cases sv with
 |undef=>trivial
 |skip=>exact hr
 |bc=>exact hr
 |cH=>exact hr
 |over=>exact hr
 |aj t x own=>
  obtain⟨cs,h1,h2,h3⟩:=hr
  refine⟨cs,h1.mono hx,h2,fun p hp=> ?_⟩
  obtain⟨e,t',xs,v,g0,g1,g2,g3⟩:=h3 p hp
  refine⟨e,t',xs,v,g0,g1,g2,?_⟩
  rcases g3 with ho|⟨g,cap,cur,k1,k2,k3,k4,k5,k6⟩
  ·exact .inl ho
  ·exact .inr ⟨g,cap,cur,k1,by rw[h.1];exact k2,k3,k4,k5,h.2 _ _ _ _ k6⟩
 |ptr id t p=>obtain⟨r,h1,h2⟩:=hr;exact⟨r,by rw[hβ];exact h1,h2⟩
 |view t x=>
  obtain⟨ad,cs,h1,h2,h3,h4⟩:=hr
  exact⟨ad,cs,h1,h2,h3.mono hx,fun i u hi=>hx.ai _ _ (h4 i u hi)⟩
 |cap f t x u y=>exact ij hx.ai hr
theorem yA{X:ag}{i j:Nat}{q:List Nat->Place}:bQ X (X.turn i j q):=⟨rfl,fun g j p n h=>by simp only[ag.turn,h]⟩
theorem x4{X:ag}{id:Nat}{p:List Nat}{q:List Nat->Place}:bQ X (X.ct id p q):=⟨rfl,fun g j p n h=>by simp only[ag.ct,h]⟩
theorem rU(hE:ae P E):∀(rs:List ResultVar) (X:ag) (s s':State) (l:List SV) (j0:Nat),Rel X s a->cr E s rs=some (l,s')->
 ∃Y vs,Y.w=X.w/\Ext X Y/\bQ X Y/\Y.β=X.β/\Rel Y s' a/\vs.length=l.length/\(∀(j:Nat) sv v,l[j]? =some sv->vs[j]? =some v->ah Y (.r (j0+j)) sv v)/\
  (rs.mapM (m:=Sem) fun x=>match x with
    | .tmp t=>pure (a.tmps.getD t Go.undef)
    | .cell ad t=>do loadVar t (<-asAddr (a.tmps.getD ad Go.undef))).run P X.w= .ok vs X.w
 | [],X,s,s',l,j0,hr,h=>by
   simp only[cr,Option.some.injEq,Prod.mk.injEq] at h
   obtain⟨rfl,rfl⟩:=h
   exact⟨X,[],rfl,Ext.refl X,bQ.refl X,rfl,hr,rfl,fun j sv v hl=>by simp at hl,by simp⟩
 | .tmp t::r,X,s,s',l,j0,hr,h=>by
   simp only[cr] at h
   split at h
   case h_2=>cases h
   rename_i l1 s1 h1
   cases h
   have key:∃Y,Y.w=X.w/\Ext X Y/\bQ X Y/\Y.β=X.β/\Rel Y (s.close [(t,0)]) a/\ah Y (.r j0) (one (s.slot t)) (a.tmps.getD t Go.undef):=by
    have aW:=hr.ak (.tmp t)
    cases hs:one (s.slot t) with
    |aj ty x w=>
     have aW:ah X (.c t 0) (one (s.slot t)) (a.tmps.getD t Go.undef):=aW
     rw[hs] at aW
     obtain⟨cs,g1,g2,g3⟩:=aW
     have hT:bG (s.close [(t,0)]) X (X.turn t 0 (.r j0)):=uO fun p=>bg.close
     exact⟨X.turn t 0 (.r j0),rfl,hT.ext,yA,rfl,(hr.close _).mod hT.mod,cs,g1.af (fun _ _=>hT.ai.1),g2,g3.eA⟩
    |_=>
     refine⟨X,rfl,Ext.refl X,bQ.refl X,rfl,hr.close _,?_⟩
     have aW:ah X (.c t 0) (one (s.slot t)) (a.tmps.getD t Go.undef):=aW
     rw[hs] at aW
     exact aW
   obtain⟨Y,hw,aB,bm,hβ,aE,au⟩:=key
   obtain⟨Z,vs,ig,aQ,gQ,hβ2,bC,hlen,eO,aA⟩:=rU hE r Y _ s' l1 (j0+1) aE h1
   refine⟨Z,a.tmps.getD t Go.undef::vs,ig.trans hw,aB.trans aQ,bm.trans gQ,hβ2.trans hβ,bC,by simp [hlen],fun j sv v hl hv=> ?_,?_⟩
   ·cases j with
    |zero=>
     simp only[List.getElem?_cons_zero,Option.some.injEq] at hl hv
     subst hl hv
     exact au.jC gQ aQ hβ2
    |succ j=>
     simp only[List.getElem?_cons_succ] at hl hv
     rw[show j0+(j+1)=j0+1+j by omega]
     exact eO j sv v hl hv
   ·rw[hw] at aA
    simp only[List.mapM_cons,Sem.run_bind,Sem.run_pure,Result.andThen_ok,aA]
 | .cell p T::r,X,s,s',l,j0,hr,h=>by
   simp only[cr] at h
   split at h
   case h_2=>cases h
   rename_i id tt t dq hT
   split at h
   case h_2=>cases h
   rename_i B hB
   split at h
   case isFalse=>cases h
   rename_i heq
   rw[Bool.and_eq_true] at heq
   have b7:tt.aI=false:=by simpa using heq.2
   have ti:=Ty.av heq.1
   have tc:B.t.aI=false:=ti▸hE.cR hT
   split at h
   case h_2=>cases h
   rename_i l1 s1 h1
   cases h
   have hb:=gk hB
   obtain⟨r0,hβ,iF⟩:=hr.boxes id B hb
   obtain⟨cs,T',ap,au,how,bk⟩:=iF.cells tc
   have eP:=hr.slot p
   rw[dq] at eP
   obtain⟨r1,hβ1,wQ⟩:ah X (.c p 0) (.ptr id tt []) (a.tmps.getD p Go.undef):=eP
   obtain⟨hv,_⟩:=(zq b7).1 wQ
   rw[hβ] at hβ1
   cases hβ1
   have cN:Rel X (s.ao (some (id,{B with own:=[]}))) a:=hr.fy hb hβ ⟨how,bD.of tc ap au zr⟩
   have kG:∀q,¬bg (s.ao (some (id,{B with own:=[]}))) (.b id ([]++q)):=by
    rintro q ⟨B2,bB,hp⟩
    rw[qG hb] at bB
    cases bB
    cases hp
   have eD:=uo (X:=X) (q:= .r j0) kG
   have mh:ah (X.ct id [] (.r j0)) (.r j0) (.aj B.t B.x B.own) (bL B.t cs.toList):=by
    refine⟨cs.toList,au.af (fun _ _=>eD.ai.1),rfl,fun q hq=> ?_⟩
    obtain⟨e,t',xs,v,g0,g1,g2,g3⟩:=bk q hq
    exact⟨e,t',xs,v,g0,g1,g2,aD.fJ (p:=[]) g3⟩
   obtain⟨Z,vs,ig,aQ,gQ,hβ2,bC,hlen,eO,aA⟩:=rU hE r (X.ct id [] (.r j0)) _ s' l1 (j0+1) (cN.mod eD.mod) h1
   refine⟨Z,bL B.t cs.toList::vs,ig,eD.ext.trans aQ,x4.trans gQ,hβ2,bC,by simp [hlen],fun j sv v hl hv=> ?_,?_⟩
   ·cases j with
    |zero=>
     simp only[List.getElem?_cons_zero,Option.some.injEq] at hl hv
     subst hl hv
     exact mh.jC gQ aQ hβ2
    |succ j=>
     simp only[List.getElem?_cons_succ] at hl hv
     rw[show j0+(j+1)=j0+1+j by omega]
     exact eO j sv v hl hv
   ·have hl:=kQ (P:=P) hE (ti▸hT:E.ty T=some B.t) au (ad:=⟨r0,0,none⟩) (w:=X.w) (fun i v hi=>by
     rw[zn,Nat.zero_add]
     simp only[World.cell?,ap]
     simpa using hi)
    have wT:(X.ct id [] (.r j0)).w=X.w:=rfl
    rw[wT] at aA
    have gS:a.tmps.getD p Go.undef= .pointer (some ⟨r0,0,none⟩):=by simpa [Ty.off] using hv
    have ha:(asAddr (.pointer (some ⟨r0,0,none⟩))).run P X.w= .ok ⟨r0,0,none⟩ X.w:=by simp [asAddr]
    simp only[List.mapM_cons,Sem.run_bind,Sem.run_pure,Result.andThen_ok,aA,gS,ha,hl]
def ag.zero(X:ag)(id:Nat):ag:=
 {X with ow:=fun g=>match X.ow g with
  | .box aS=>if aS=id then .box 0 else .box aS
  | .row (.b aS p) n=>if aS=id then .row (.b 0 p) n else .row (.b aS p) n
  |w=>w}
theorem kV{id:Nat}{ad:Addr}{v:Value}(h:X.ai ad v):(X.zero id).ai ad v:=by
 refine⟨h.1,h.2.1,?_⟩
 have:=h.2.2
 simp only[ag.zero]
 cases hx:X.ow ad.block with
 |box i=>rw[hx] at this;exact this.elim
 |row pl n=>
  rw[hx] at this
  cases pl with
  |b i p=>simp only;split<;>exact this
  |_=>exact this
 |_=>rw[hx] at this;exact this
theorem Bi{id:Nat}:Ext X (X.zero id) where
 ai:=fun _ _=>kV
 size:=Nat.le_refl _
 os:=rfl
 tape:=rfl
 output:=rfl
 β0:=rfl
 still:=fun g _ bm=>by
  refine⟨?_,rfl⟩
  simp only[ag.zero]
  cases hx:X.ow g with
  |box i=>rw[hx] at bm;exact bm.elim
  |row pl n=>rw[hx] at bm;exact bm.elim
  |_=>rfl
theorem aG.zero{id r:Nat}{B:aH}(h:aG X id r B):aG (X.zero id) 0 r B:=by
 obtain⟨h3,h1⟩:=h
 refine⟨by simp [ag.zero,h3],h1.move (fun _ _=>kV) rfl (fun cs h4 p hp=> ?_) fun _ g o ho hw=>⟨ho,by simp [ag.zero,hw]⟩⟩
 obtain⟨e,t',xs,v,g0,g1,g2,g3⟩:=h4 p hp
 refine⟨e,t',xs,v,g0,g1,g2,?_⟩
 rcases g3 with ho|⟨g,cap,cur,k1,k2,k3,k4,k5,k6⟩
 ·exact .inl ho
 ·exact .inr ⟨g,cap,cur,k1,k2,k3,k4,k5,by simp [ag.zero,k6]⟩
theorem ah.zero{id j r0:Nat}{sv:SV}{v:Value}(hp:∀aS t p,sv= .ptr aS t p->X.β aS=some r0)(h:ah X (.r j) sv v):ah {X.zero id with β:=fun _=>some r0} (.r j) (sv.cJ 0) v:=by
 cases sv with
 |undef=>trivial
 |skip=>exact h
 |bc=>exact h
 |cH=>exact h
 |over=>exact h
 |aj t x own=>
  obtain⟨cs,h1,h2,h3⟩:=h
  refine⟨cs,az.af (Y:={X.zero id with β:=fun _=>some r0}) (fun ad v hs=>(kV hs:(X.zero id).ai ad v)) h1,h2,fun p hp=> ?_⟩
  obtain⟨e,t',xs,v,g0,g1,g2,g3⟩:=h3 p hp
  refine⟨e,t',xs,v,g0,g1,g2,?_⟩
  rcases g3 with ho|⟨g,cap,cur,k1,k2,k3,k4,k5,k6⟩
  ·exact .inl ho
  ·exact .inr ⟨g,cap,cur,k1,k2,k3,k4,k5,by simp [ag.zero,k6]⟩
 |ptr aS t p=>
  obtain⟨r,h1,h2⟩:=h
  have:=hp aS t p rfl
  rw[h1] at this
  cases this
  exact⟨r0,rfl,h2⟩
 |view t x=>
  obtain⟨ad,cs,h1,h2,h3,h4⟩:=h
  exact⟨ad,cs,h1,h2,az.af (Y:={X.zero id with β:=fun _=>some r0}) (fun ad v hs=>(kV hs:(X.zero id).ai ad v)) h3,fun i u hi=>(kV (h4 i u hi):(X.zero id).ai _ _)⟩
 |cap f t x u y=>exact ij (Y:={X.zero id with β:=fun _=>some r0}) (fun ad v hs=>(kV hs:(X.zero id).ai ad v)) h
theorem ah.anyβ{j r0:Nat}{sv:SV}{v:Value}(hp:∀aS t p,sv≠ .ptr aS t p)(h:ah X (.r j) sv v):ah {X with β:=fun _=>some r0} (.r j) sv v:=by
 cases sv with
 |undef=>trivial
 |skip=>exact h
 |bc=>exact h
 |cH=>exact h
 |over=>exact h
 |aj t x own=>
  obtain⟨cs,h1,h2,h3⟩:=h
  exact⟨cs,az.af (X:=X) (Y:={X with β:=fun _=>some r0}) (fun ad v (hs:X.ai ad v)=>(hs:({X with β:=fun _=>some r0}:ag).ai ad v)) h1,h2,h3⟩
 |ptr aS t p=>exact absurd rfl (hp aS t p)
 |view t x=>
  obtain⟨ad,cs,h1,h2,h3,h4⟩:=h
  exact⟨ad,cs,h1,h2,az.af (X:=X) (Y:={X with β:=fun _=>some r0}) (fun ad v (hs:X.ai ad v)=>(hs:({X with β:=fun _=>some r0}:ag).ai ad v)) h3,h4⟩
 |cap f t x u y=>exact ij (X:=X) (Y:={X with β:=fun _=>some r0}) (fun ad v (hs:X.ai ad v)=>(hs:({X with β:=fun _=>some r0}:ag).ai ad v)) h
theorem n3:∀{l:List SV} {id:Nat} {t:Ty} {p:List Nat},SV.ptr id t p∈l->id∈jK l
 |v::r,id,t,p,h=>by
  rcases List.mem_cons.1 h with e|h
  ·subst e;simp [jK]
  ·have:=n3 h
   cases v<;>simp [jK,this]
theorem rT{l:List SV}{vs:List Value}(hlen:vs.length=l.length)(h:∀(j:Nat) sv v,l[j]? =some sv->vs[j]? =some v->ah X (.r j) sv v):bj X .r l (if h:vs.toArray.size=1 then vs.toArray[0] else .tuple vs.toArray):=by
 match l,vs,hlen with
 | [sv],[v],_=>exact h 0 sv v rfl rfl
 | [],[],_=>exact⟨#[],rfl,rfl,fun j s u hs=>by simp at hs⟩
 |x::y::r,u::v::w,hlen=>
  refine⟨(u::v::w).toArray,by simp,by simpa using hlen,fun j s z hs hz=>h j s z hs (by simpa using hz)⟩
theorem xL{Z:ag}{s':State}{b:Option aH}{l' r:List SV}{b':Option aH}{vs:List Value}(hX:Ext X Z)(bC:Rel Z s' a)(hlen:vs.length=l'.length)(cQ:∀(j:Nat) sv v,l'[j]? =some sv->vs[j]? =some v->ah Z (.r j) sv v)
 (cq:lj s' b l' (fun r b=>some (r,b))=some (r,b')):∃Y',Y'.w=Z.w/\Ext X Y'/\jj X Y' b r b' (if h:vs.toArray.size=1 then vs.toArray[0] else .tuple vs.toArray):=by
 unfold lj at cq
 cases b with
 |some B=>
  cases hp:jK l' with
  |cons _ _=>rw[hp] at cq;cases cq
  |nil=>
   rw[hp] at cq
   have ic:∀id t p,SV.ptr id t p∉l':=fun id t p hm=>by
    have:=n3 hm
    rw[hp] at this;cases this
   cases cM:s'.box 0 with
   |none=>simp only[cM] at cq;cases cq
   |some B'=>
    simp only[cM] at cq
    cases cq
    obtain⟨r0,h3,h4⟩:=bC.boxes 0 B' (gk cM)
    refine⟨Z,rfl,hX,r0,rT hlen fun j sv v h1 h2=>(cQ j sv v h1 h2).anyβ (fun id t p e=>ic id t p (e▸List.mem_of_getElem? h1)),fun B2 bB=> ?_,fun _=>ic⟩
    cases bB
    exact⟨h4,fun _=>by rw[<-hX.β0];exact h3⟩
 |none=>
  cases hp:jK l' with
  |nil=>
   rw[hp] at cq
   have ic:∀id t p,SV.ptr id t p∉l':=fun id t p hm=>by
    have:=n3 hm
    rw[hp] at this;cases this
   cases cq
   exact⟨Z,rfl,hX,0,rT hlen fun j sv v h1 h2=>(cQ j sv v h1 h2).anyβ (fun id t p e=>ic id t p (e▸List.mem_of_getElem? h1)),(fun B2 bB=>by cases bB),fun _=>ic⟩
  |cons id rest=>
   rw[hp] at cq
   cases rest with
   |cons _ _=>cases cq
   |nil=>
    cases hB:s'.box id with
    |none=>simp only[hB] at cq;cases cq
    |some B=>
     simp only[hB] at cq
     cases cq
     obtain⟨r0,h3,h4⟩:=bC.boxes id B (gk hB)
     refine⟨Z.zero id,rfl,hX.trans Bi,r0,?_,fun B2 bB=> ?_,fun hh=> ?_⟩
     ·refine rT (by simpa using hlen) fun j sv v h1 h2=> ?_
      rw[List.getElem?_map] at h1
      obtain⟨s0,cz,rfl⟩:=Option.map_eq_some_iff.1 h1
      refine(cQ j s0 v cz h2).zero fun aS t p e=> ?_
      have:=n3 (e▸List.mem_of_getElem? cz)
      rw[hp] at this
      simp only[List.mem_singleton] at this
      subst this
      exact h3
     ·cases bB
      exact⟨h4.zero,fun hh=>by cases hh⟩
     ·rcases hh with hh|hh<;>cases hh
theorem nX:∀(ts:List Ty) (l:List SV),(ay ts l).length=l.length
 | [],l=>by simp [ay]
 |t::r,[]=>by simp [ay]
 |t::r,v::q=>by
  cases t<;>cases v<;>simp [ay,nX r q]
theorem uG{X:ag}:∀(ts:List Ty) (l:List SV) (i:Nat) (sv:SV) (v:Value),(ay ts l)[i]? =some sv->(∀sv,l[i]? =some sv->∃pl,ah X pl sv v)->∀q,(∃iV,l[i]? =some iV/\(sv=iV\/sv=iV.shut\/iV= .bc))/\((∀iV,l[i]? =some iV->ah X q iV v)->ah X q sv v)
 | [],l,i,sv,v,h,_,q=>by
   have h:l[i]? =some sv:=by simpa [ay] using h
   exact⟨⟨sv,h,.inl rfl⟩,fun hh=>hh sv h⟩
 |t::r,[],i,sv,v,h,_,q=>by simp [ay] at h
 |t::r,x::y,i,sv,v,h,hx,q=>by
  cases i with
  |zero=>
   have key:(ay (t::r) (x::y))[0]? =some sv->(sv=x.shut)\/(x= .bc/\∃e u,sv= .aj (.sl e u) ([]:List (El u)) []):=by
    intro h
    cases t<;>cases x<;>simp only[ay,List.getElem?_cons_zero,Option.some.injEq] at h<;>first|exact .inl h.symm|exact .inr ⟨rfl,_,_,h.symm⟩
   rcases key h with rfl|⟨rfl,e,u,rfl⟩
   ·exact⟨⟨x,rfl,.inr (.inl rfl)⟩,fun hh=>(hh x rfl).shut⟩
   ·refine⟨⟨_,rfl,.inr (.inr rfl)⟩,fun hh=> ?_⟩
    have:=hh _ rfl
    exact⟨[.slice none 0 0],⟨none,0,rfl,Nat.le_refl _,fun j x hj=>by simp at hj⟩,this,zr⟩
  |succ i=>
   have h':(ay r y)[i]? =some sv:=by
    cases t<;>cases x<;>simpa [ay] using h
   have:=uG r y i sv v h' (fun sv hs=>hx sv (by simpa using hs)) q
   simpa using this
theorem zV{ts:List Ty}{l:List SV}{id:Nat}{t:Ty}{p:List Nat}(h:SV.ptr id t p∈ay ts l):SV.ptr id t p∈l:=by
 induction ts generalizing l with
 |nil=>simpa [ay] using h
 |cons u r ih=>
  cases l with
  |nil=>simp [ay] at h
  |cons v q=>
   have key:SV.ptr id t p=v.shut\/SV.ptr id t p∈ay r q:=by
    cases u<;>cases v<;>simp [ay,SV.shut] at h⊢ <;>first|exact h|exact .inr h|skip
   rcases key with e|hm
   ·rw[n4 e.symm];simp
   ·exact List.mem_cons_of_mem _ (ih hm)
theorem BE(hE:ae P E)(hm:P.follows .mixedOrders=true){C C0:ax}(sN:C0.Nat)(v7:∀f,bV P C0 f){f:FuncId}{fn:Func}{code:Code}(fb:P.funcs[f]? =some fn)(gG:(fn.name== "runtime.NumGoroutine")=false)(fD:fn.body=some code)
 (hC:∀(l:List SV) (b:Option aH) (r:List SV) (b':Option aH),C (List SV×Option aH) f l b (fun r b=>some (r,b))=some (r,b')->∃k,cZ E (C0 (List SV×Option aH)) k fn code l b (fun r b=>some (r,b))=some (r,b')):bV P C f:=by
 intro l b r b' h
 refine⟨⟨fn,code,fb,gG,fD⟩,fun X args gi=> ?_⟩
 obtain⟨k,h⟩:=hC l b r b' h
 unfold cZ at h
 cases hg:(E.sp.isSome&&b.isSome) with
 |true=>rw[hg] at h;cases h
 |false=>
 rw[hg,cond_false] at h
 have hF:Fr E X:=fun bp=>gi.rows (by
  cases sO:E.sp with
  |none=>exact absurd sO bp
  |some z=>
   cases b with
   |none=>rfl
   |some B=>rw[sO] at hg;cases hg)
 simp only at h
 obtain⟨⟨e,s⟩,h1,h2⟩:=zo (iv sN code _ (fun e s=>some (e,s)) (K:=fun z=>match z.1 with
  | .exit _=>none
  |_=>match cr E z.2 fn.results.toList with
   |some (l,s')=>lj s' b (cX E l) (fun r b=>some (r,b))
   |none=>none) (fun e s=>by cases e<;>rfl) _) h
 refine calls_of_wp fb fD ?_
 have cO:=gi.size
 refine kn hE hm sN v7 k code X X _ _ e s hF (Ext.refl X) (?_:Rel X _ _) h1 _ fun Y a' aB aE=> ?_
 ·have fk:=nX E.ps l
  refine⟨by simp [cO,fk],by simp [fk],fun i sl v hs hv=> ?_,fun id B hB=> ?_,fun i sl id t p hs hm=> ?_,rfl⟩
  ·by_cases hi:i<l.length
   ·rw[List.getElem?_append_left (by simpa [fk] using hi),List.getElem?_map] at hs
    obtain⟨sv,dC,rfl⟩:=Option.map_eq_some_iff.1 hs
    rw[Array.getElem?_append_left (by omega)] at hv
    exact(uG E.ps l i sv v dC (fun sv h0=>⟨_,gi.rep i sv v h0 hv⟩) (.c i 0)).2 fun iV h0=>gi.rep i iV v h0 hv
   ·rw[List.getElem?_append_right (by simp [fk];omega),List.getElem?_replicate] at hs
    split at hs
    ·cases hs;trivial
    ·cases hs
  ·cases id with
   |zero=>
    simp only[List.getElem?_cons_zero,Option.some.injEq] at hB
    exact gi.box B hB
   |succ id=>
    simp only[List.getElem?_cons_succ,List.getElem?_replicate] at hB
    split at hB<;>cases hB
  ·by_cases hi:i<l.length
   ·rw[List.getElem?_append_left (by simpa [fk] using hi),List.getElem?_map] at hs
    obtain⟨sv,dC,rfl⟩:=Option.map_eq_some_iff.1 hs
    simp only[List.mem_singleton] at hm
    subst hm
    obtain⟨rfl,hb⟩:=gi.ptr id t p (zV (List.mem_of_getElem? dC))
    cases b with
    |none=>cases hb
    |some B=>exact⟨B,rfl⟩
   ·rw[List.getElem?_append_right (by simp [fk];omega),List.getElem?_replicate] at hs
    split at hs
    ·cases hs;simp at hm
    ·cases hs
 ·
  have pP:∃l s',cr E s fn.results.toList=some (l,s')/\lj s' b (cX E l) (fun r b=>some (r,b))=some (r,b')/\(e= .normal\/e= .ret):=by
   cases e with
   |exit id=>cases h2
   |normal=>
    simp only at h2
    split at h2
    ·exact⟨_,_,by assumption,h2,.inl rfl⟩
    ·cases h2
   |ret=>
    simp only at h2
    split at h2
    ·exact⟨_,_,by assumption,h2,.inr rfl⟩
    ·cases h2
  obtain⟨l',s',cN,cq,he⟩:=pP
  obtain⟨Z,vs,hw,aQ,bm,hβ,bC,hlen,eO,aA⟩:=rU hE fn.results.toList Y s s' l' 0 aE cN
  have jr:(results fn a'.tmps).run P Y.w= .ok (if h:vs.toArray.size=1 then vs.toArray[0] else .tuple vs.toArray) Y.w:=by
   unfold results
   simp only[Array.mapM_eq_mapM_toList,Sem.run_bind,Sem.run_map,Sem.run_pure,Result.andThen_ok]
   exact congrArg (fun r:Result (List Value)=>(r.andThen fun a w'=>Result.ok a.toArray w').andThen fun a w'=>Result.ok (if h:a.size=1 then a[0] else Value.tuple a) w') aA
  have hX:Ext X Z:=aB.trans aQ
  have cQ:∀(j:Nat) sv v,l'[j]? =some sv->vs[j]? =some v->ah Z (.r j) sv v:=fun j sv v h1 h2=>by
   have:=eO j sv v h1 h2
   rwa [Nat.zero_add] at this
  have l5:vs.length=(cX E l').length:=by
   unfold cX
   cases E.ro<;>simpa using hlen
  have kb:∀(j:Nat) sv v,(cX E l')[j]? =some sv->vs[j]? =some v->ah Z (.r j) sv v:=fun j sv v h1 h2=>by
   unfold cX at h1
   cases te:E.ro with
   |false=>rw[te] at h1;exact cQ j sv v h1 h2
   |true=>
    rw[te,cond_true,List.getElem?_map] at h1
    obtain⟨s0,cz,rfl⟩:=Option.map_eq_some_iff.1 h1
    exact ah.bZ (cQ j s0 v cz h2)
  have fin:=xL (b:=b) hX bC l5 kb cq
  obtain⟨Y',nH,sR,hL⟩:=fin
  have nH:=nH.trans hw
  rcases he with rfl|rfl
  ·exact⟨aE.defers,_,jr,Y',nH,sR,hL⟩
  ·exact⟨aE.defers,_,jr,Y',nH,sR,hL⟩
end Go.Ref

namespace Go.Ref
open Go
variable {P:Program} {E:Env}
def Wf:(t:Ty)->El t->Prop
 | .bool,_=>True
 | .int k,n=>(Lit.int k n).wf=true
 | .str,s=>s.size<=maxLen
 | .sl _ t,xs=>List.length xs<=maxLen/\∀x∈(xs:List (El t)),Wf t x
 | .aK n t,xs=>List.length xs=n/\∀x∈(xs:List (El t)),Wf t x
 | .unit,_=>True
 | .pair a b,x=>Wf a x.1/\Wf b x.2
 | .aF _ _ _,_=>False
theorem kS(hE:ae P E){T:TypeId}{t:Ty}(ht:E.ty T=some t):P.cellsOf T=t.cells:=by
 obtain⟨i,h1,h2,_⟩:=(hE.ty T t ht).info
 simp [Program.cellsOf,h1,h2]
def Ty.ci:Ty->Bool
 | .sl _ t=> !(Nat.beq t.cells 0)&&t.ci
 | .aK _ t=>t.ci
 | .pair a b=>a.ci&&b.ci
 |_=>true
def hM(w:World)(β:Nat->Option Nat):ag:=⟨w,fun _=> .all,β⟩
theorem zY{w:World}{β:Nat->Option Nat}{a:Addr}{v:Value}(h:w.cell? a=some v):(hM w β).ai a v:=⟨World.cell?_spot h,h,trivial⟩
theorem tN{α:Type}{n:Nat}{p:Nat->α->Prop}(h:∀i,i<n->∃x,p i x):∃xs:List α,xs.length=n/\∀(i:Nat) x,xs[i]? =some x->p i x:=by
 induction n with
 |zero=>exact⟨[],rfl,fun i x hi=>by simp at hi⟩
 |succ n ih=>
  obtain⟨xs,h1,h2⟩:=ih fun i hi=>h i (by omega)
  obtain⟨y,hy⟩:=h n (by omega)
  refine⟨xs++ [y],by simp [h1],fun i x hi=> ?_⟩
  rw[List.getElem?_append] at hi
  split at hi
  ·exact h2 i x hi
  ·rename_i aw
   have wg:i-xs.length=0:=by
    have:=(List.getElem?_eq_some_iff.1 hi).1
    simp at this
    omega
   rw[wg] at hi
   simp only[List.getElem?_cons_zero,Option.some.injEq] at hi
   subst hi
   have:i=n:=by omega
   subst this
   exact hy
section
variable {H:Type} {enc:TypeId×Value->H} {w:World} {base:Nat} {spare:Nat->Bool} {held:Bool} {β:Nat->Option Nat}
theorem BG(hE:ae P E):∀t:Ty,
 (∀(T:TypeId) (aZ:Nat) (cs:List Value) (x:DataW H×List MemPlace),E.ty T=some t->t.ci=true->DataW.trod enc P w base spare held aZ T cs=some x->∃y:El t,az (hM w β) t y cs/\Wf t y)/\
 (∀(fl:List Field) (off aZ:Nat) (cs:List Value),zl E fl t off->t.ci=true->off+t.cells<=cs.length->(∀f∈fl,∃x,DataW.trod enc P w base spare held aZ f.type ((cs.drop f.offset).take (P.cellsOf f.type))=some x)->
   ∃y:El t,az (hM w β) t y ((cs.drop off).take t.cells)/\Wf t y):=by
 intro t
 have dV:∀{t:Ty},t.bq=false->t≠ .unit->∀(fl:List Field) (off:Nat),¬zl E fl t off:=by
  intro t h1 h2 fl off h
  cases t<;>cases fl<;>simp_all [zl,Ty.bq]
 induction t with
 |aF k a b _ _=>exact⟨fun T aZ cs x hT c9 h=>absurd (hE.cR hT) (by simp [Ty.aI]),fun fl off aZ cs hf=>absurd hf (dV rfl (by simp) fl off)⟩
 |bool=>
  refine⟨fun T aZ cs x hT c9 h=> ?_,fun fl off aZ cs hf=>absurd hf (dV rfl (by simp) fl off)⟩
  have hu:=(hE.ty T _ hT).bu
  cases aZ with
  |zero=>simp [DataW.trod] at h
  |succ m=>
   unfold DataW.trod at h
   rw[hu] at h
   split at h<;>try(first|cases h;done|(simp_all;done))
   rename_i b _
   exact⟨b,rfl,trivial⟩
 |int k=>
  refine⟨fun T aZ cs x hT c9 h=> ?_,fun fl off aZ cs hf=>absurd hf (dV rfl (by simp) fl off)⟩
  have hu:=(hE.ty T _ hT).bu
  cases aZ with
  |zero=>simp [DataW.trod] at h
  |succ m=>
   unfold DataW.trod at h
   rw[hu] at h
   split at h<;>simp_all
   rename_i k1 k2 n hk
   subst hk
   exact⟨n,rfl,h.1.2⟩
 |str=>
  refine⟨fun T aZ cs x hT c9 h=> ?_,fun fl off aZ cs hf=>absurd hf (dV rfl (by simp) fl off)⟩
  have hu:=(hE.ty T _ hT).bu
  cases aZ with
  |zero=>simp [DataW.trod] at h
  |succ m=>
   unfold DataW.trod at h
   rw[hu] at h
   split at h<;>simp_all
   rename_i s
   exact⟨s,rfl,h.1⟩
 |sl e t ih=>
  refine⟨fun T aZ cs x hT c9 h=> ?_,fun fl off aZ cs hf=>absurd hf (dV rfl (by simp) fl off)⟩
  obtain⟨hu,he⟩:=(hE.ty T _ hT).bu
  have hc:=kS hE he
  rcases Go.Deep.open_slice hu h with⟨rfl,_⟩|⟨a,len,cap,m,n,D,Pl,rfl,hb,hl,hm,kF,_,b6⟩
  ·exact⟨[],⟨none,0,rfl,Nat.le_refl _,fun j x hj=>by simp at hj⟩,by simp [maxLen],fun x hx=>by cases hx⟩
  ·have BZ:len<=m:=by rw[kF];split<;>omega
   have hk:0<t.cells/\t.ci=true:=by
    simp only[Ty.ci,Bool.and_eq_true,Bool.not_eq_true'] at c9
    refine⟨?_,c9.2⟩
    rcases Nat.eq_zero_or_pos t.cells with h0|h0
    ·rw[h0] at c9;simp at c9
    ·exact h0
   obtain⟨ys,h1,h2⟩:=tN (n:=len) (p:=fun i (y:El t)=>∃bS,w.cells? base (a.add (i*t.cells)) t.cells=some bS/\az (hM w β) t y bS/\Wf t y) (fun i hi=>by
    obtain⟨bS,g1,g2⟩:=b6 i (by omega)
    rw[hc] at g1
    obtain⟨y,k1,k2⟩:=ih.1 e n bS _ he hk.2 g2
    exact⟨y,bS,g1,k1,k2⟩)
   refine⟨ys,az.iU h1 hl (fun j y hj=> ?_),by show ys.length<=_;omega,fun y hy=> ?_⟩
   ·obtain⟨bS,g1,g2,g3⟩:=h2 j y hj
    obtain⟨_,hlen,cE⟩:=World.cells?_some g1
    have BX:=(List.getElem?_eq_some_iff.1 hj).1
    obtain⟨c0,e1,_⟩:=h2 0 _ (List.getElem?_eq_getElem (by omega))
    obtain⟨_,s6,j4⟩:=World.cells?_some e1
    have jt:a.spot=none:=by
     have:=j4 0 (by omega)
     rw[List.getElem?_eq_getElem (by omega)] at this
     have h3:=World.cell?_spot this
     simpa [Addr.add] using h3
    refine⟨a,bS,rfl,jt,g2,fun i v hi=>zY ?_⟩
    have BW:=(List.getElem?_eq_some_iff.1 hi).1
    have:=cE i (by omega)
    rw[mZ a jt,hi] at this
    exact this
   ·obtain⟨i,hi⟩:=List.mem_iff_getElem?.1 hy
    obtain⟨bS,_,_,g3⟩:=h2 i y hi
    exact g3
 |aK n t ih=>
  refine⟨fun T aZ cs x hT c9 h=> ?_,fun fl off aZ cs hf=>absurd hf (dV rfl (by simp) fl off)⟩
  obtain⟨e,hu,he,_⟩:=(hE.ty T _ hT).bu
  have hc:=kS hE he
  have lS:=kS hE hT
  obtain⟨xs,m,rfl,_,hl,kI,b6⟩:=DataW.trod_array hu h
  obtain⟨ys,h1,h2⟩:=tN (n:=n) (p:=fun i (y:El t)=>az (hM w β) t y ((cs.drop (i*t.cells)).take t.cells)/\Wf t y) (fun i hi=>by
   have g:=b6 i hi
   rw[hc,List.getElem?_eq_getElem (by omega)] at g
   exact ih.1 e m _ _ he c9 g)
  refine⟨ys,⟨h1,by rw[hl,lS];rfl,fun j y hj=>(h2 j y hj).1⟩,h1,fun y hy=> ?_⟩
  obtain⟨i,hi⟩:=List.mem_iff_getElem?.1 hy
  exact(h2 i y hi).2
 |unit=>
  refine⟨fun T aZ cs x hT c9 h=> ?_,fun fl off aZ cs hf c9 hle cP=>⟨(),by simp [Ty.cells,az],trivial⟩⟩
  obtain⟨fs,hu,bn,_⟩:=(hE.ty T _ hT).bu
  have lS:=kS hE hT
  obtain⟨xs,m,rfl,_,hl,_⟩:=DataW.trod_struct hu h
  rw[lS] at hl
  refine⟨(),?_,trivial⟩
  exact List.eq_nil_of_length_eq_zero hl
 |pair ta tb ep er=>
  have step:∀(fl:List Field) (off aZ:Nat) (cs:List Value),zl E fl (.pair ta tb) off->(Ty.pair ta tb).ci=true->off+(Ty.pair ta tb).cells<=cs.length->(∀f∈fl,∃x,DataW.trod enc P w base spare held aZ f.type ((cs.drop f.offset).take (P.cellsOf f.type))=some x)->
   ∃y:El (.pair ta tb),az (hM w β) (.pair ta tb) y ((cs.drop off).take (Ty.pair ta tb).cells)/\Wf (.pair ta tb) y:=by
   intro fl off aZ cs hf c9 hle cP
   cases fl with
   |nil=>simp [zl] at hf
   |cons f fl=>
    obtain⟨f1,f2,f3,f4⟩:=hf
    simp only[Ty.ci,Bool.and_eq_true] at c9
    simp only[Ty.cells] at hle
    obtain⟨x,hx⟩:=cP f (by simp)
    rw[kS hE f2,f1] at hx
    obtain⟨y1,r1,w1⟩:=ep.1 f.type aZ _ x f2 c9.1 hx
    obtain⟨y2,r2,w2⟩:=er.2 fl (off+ta.cells) aZ cs f4 c9.2 (by omega) (fun g hg=>cP g (List.mem_cons_of_mem _ hg))
    refine⟨(y1,y2),⟨_,_,?_,r1,r2⟩,w1,w2⟩
    simp only[Ty.cells]
    rw[<-List.drop_drop]
    exact List.take_add
  refine⟨fun T aZ cs x hT c9 h=> ?_,step⟩
  obtain⟨fs,hu,bn,_⟩:=(hE.ty T _ hT).bu
  have lS:=kS hE hT
  obtain⟨xs,m,rfl,_,hl,kI,b6⟩:=DataW.trod_struct hu h
  rw[lS] at hl
  obtain⟨y,r,wf⟩:=step fs.toList 0 m cs bn c9 (by omega) (fun f hf=>by
   obtain⟨i,hi⟩:=List.mem_iff_getElem?.1 hf
   have pz:fs[i]? =some f:=by simpa using hi
   have:=b6 i f pz
   have aw:=(List.getElem?_eq_some_iff.1 hi).1
   rw[List.getElem?_eq_getElem (by simp at aw;omega)] at this
   exact⟨_,this⟩)
  refine⟨y,?_,wf⟩
  rw[List.drop_zero,<-hl,List.take_length] at r
  exact r
end
end Go.Ref

namespace Go.Ref
open Go
variable {P:Program} {E:Env}
def sq:Value->Value->Bool
 | .bool a,.bool b=>a==b
 | .int k a,.int j b=>decide (k=j)&&decide (a=b)
 | .string a,.string b=>Nat.beq a.size 0&&Nat.beq b.size 0
 | .slice none 0 0,.slice none 0 0=>true
 |_,_=>false
theorem tP{a:ByteArray}(h:a.size=0):a=⟨#[]⟩:=by
 cases a with
 |mk d=>
  have:d.size=0:=h
  have:=Array.eq_empty_of_size_eq_zero this
  rw[this]
theorem yT{a b:Value}(h:sq a b=true):a=b:=by
 unfold sq at h
 split at h
 ·simp at h;rw[h]
 ·simp at h;rw[h.1,h.2]
 ·simp only[Bool.and_eq_true] at h
  rw[tP (Nat.eq_of_beq_eq_true h.1),tP (Nat.eq_of_beq_eq_true h.2)]
 ·rfl
 ·cases h
def m4:List Value->List Value->Bool
 | [],[]=>true
 |a::r,b::q=>sq a b&&m4 r q
 |_,_=>false
theorem z46:∀{a b:List Value},m4 a b=true->a=b
 | [],[],_=>rfl
 |a::r,b::q,h=>by
  simp only[m4,Bool.and_eq_true] at h
  rw[yT h.1,z46 h.2]
def su(t:Ty)(v:Value):Bool:=
 match v with
 | .agg cs=>t.agg&&m4 cs.toList (zb t)
 |v=> !t.agg&&m4 [v] (zb t)
theorem Ap{t:Ty}{v:Value}(h:su t v=true):v=bL t (zb t):=by
 unfold su at h
 split at h
 ·simp only[Bool.and_eq_true] at h
  rw[zj h.1,<-z46 h.2]
 ·simp only[Bool.and_eq_true,Bool.not_eq_true'] at h
  rw[<-z46 h.2,m7 h.1]
def fT(E:Env):List Field->Ty->Nat->Bool
 | [],.unit,_=>true
 |f::r,.pair a b,off=>Nat.beq f.offset off&&((match E.ty f.type with
  |some t=>t.aX a
  |none=>false)&&(!(f.name== "_")&&fT E r b (off+a.cells)))
 |_,_,_=>false
theorem rj:∀{fl:List Field} {t:Ty} {off:Nat},fT E fl t off=true->zl E fl t off
 | [],t,off,h=>by cases t<;>simp_all [fT,zl]
 |f::r,t,off,h=>by
  cases t<;>simp only[fT,Bool.and_eq_true] at h<;>try(cases h;done)
  obtain⟨h1,h2,h3,h4⟩:=h
  refine⟨Nat.eq_of_beq_eq_true h1,?_,?_,rj h4⟩
  ·cases hf:E.ty f.type with
   |none=>rw[hf] at h2;cases h2
   |some u=>rw[hf] at h2;rw[Ty.av h2]
  ·simpa using h3
def iY(E:Env)(T:TypeId)(t:Ty):Bool:=
 match E.ty T with
 |some u=>u.aX t
 |none=>false
theorem vE{T:TypeId}{t:Ty}(h:iY E T t=true):E.ty T=some t:=by
 unfold iY at h
 split at h
 ·rename_i u hu;rw[hu,Ty.av h]
 ·cases h
def km(P:Program)(E:Env)(T:TypeId)(t:Ty):Bool:=
 match P.underlying T,t with
 |some .bool,.bool=>true
 |some (.int k),.int j=>decide (k=j)
 |some .string,.str=>true
 |some (.slice e),.sl e' u=>Nat.beq e e'&&iY E e u
 |some (.array n e),.aK m u=>Nat.beq n m&&(iY E e u&& !P.eqGuardType P.depth T)
 |some (.struct fs),.unit=>fT E fs.toList .unit 0&&(!P.stoodInHeld T&& !P.eqGuardType P.depth T)
 |some (.struct fs),.pair a b=>fT E fs.toList (.pair a b) 0&&(!P.stoodInHeld T&& !P.eqGuardType P.depth T)
 |_,_=>false
theorem Bg{T:TypeId}{t:Ty}(h:km P E T t=true):vJ P E T t:=by
 unfold km at h
 split at h
 ·assumption
 ·rename_i k j hu;rw[<-of_decide_eq_true h];exact hu
 ·assumption
 ·rename_i e e' u hu
  simp only[Bool.and_eq_true] at h
  have:=Nat.eq_of_beq_eq_true h.1
  subst this
  exact⟨hu,vE h.2⟩
 ·rename_i n e m u hu
  simp only[Bool.and_eq_true] at h
  have:=Nat.eq_of_beq_eq_true h.1
  subst this
  exact⟨e,hu,vE h.2.1,by simpa using h.2.2⟩
 ·rename_i fs hu
  simp only[Bool.and_eq_true,Bool.not_eq_true'] at h
  exact⟨fs,hu,rj h.1,h.2.1,h.2.2⟩
 ·rename_i fs a b hu
  simp only[Bool.and_eq_true,Bool.not_eq_true'] at h
  exact⟨fs,hu,rj h.1,h.2.1,h.2.2⟩
 ·cases h
def jw(P:Program)(E:Env)(T:TypeId)(t:Ty):Bool:=
 match P.info? T with
 |some i=>Nat.beq i.size t.cells&&(Nat.beq i.bytes (E.bytes T)&&match i.zero with
  |some v=>su t v
  |none=>false)
 |none=>false
def jV(P:Program)(E:Env)(T:TypeId):Bool:=
 match E.ty T with
 |some t=>jw P E T t&&km P E T t
 |none=>true
theorem AR{T:TypeId}{t:Ty}(h:jV P E T=true)(ht:E.ty T=some t):eb P E T t:=by
 unfold jV at h
 rw[ht] at h
 simp only[Bool.and_eq_true] at h
 refine⟨?_,Bg h.2⟩
 have h1:=h.1
 unfold jw at h1
 split at h1
 ·rename_i i hi
  simp only[Bool.and_eq_true] at h1
  obtain⟨g1,g2,g3⟩:=h1
  split at g3
  ·rename_i v hv
   exact⟨i,hi,Nat.eq_of_beq_eq_true g1,Nat.eq_of_beq_eq_true g2,by rw[hv,Ap g3]⟩
  ·cases g3
 ·cases h1
def tw(P:Program)(T:TypeId):Bool:=
 match P.underlying T with
 |some (.pointer _)=>true
 |_=>false
structure fB where
 kP:List (Option Ty)
 oX:List Nat
 jz:List Bool
 nK:List (TypeId×TypeId×TypeId):=[]
def iR:List (TypeId×TypeId×TypeId)->TypeId->Option (TypeId×TypeId)
 | [],_=>none
 |q::r,T=>bif Nat.beq q.1 T then some q.2 else iR r T
def qa(P:Program)(q:TypeId×TypeId×TypeId):Bool:=
 match P.underlying q.1 with
 |some (.map k e)=>Nat.beq k q.2.1&&Nat.beq e q.2.2
 |_=>false
theorem vz{P:Program}:∀{l:List (TypeId×TypeId×TypeId)},l.all (qa P)=true->∀{T k e:TypeId},iR l T=some (k,e)->P.underlying T=some (.map k e)
 |q::r,hl,T,k,e,h=>by
  simp only[List.all_cons,Bool.and_eq_true] at hl
  unfold iR at h
  cases hq:Nat.beq q.1 T with
  |false=>rw[hq] at h;exact vz hl.2 h
  |true=>
   rw[hq] at h
   have:=Nat.eq_of_beq_eq_true hq
   subst this
   have h1:=hl.1
   unfold qa at h1
   split at h1
   ·rename_i k' e' hu
    simp only[Bool.and_eq_true] at h1
    have a1:=Nat.eq_of_beq_eq_true h1.1
    have a2:=Nat.eq_of_beq_eq_true h1.2
    rw[hu,a1,a2]
    have h:some q.2=some (k,e):=h
    injection h with h
    rw[h]
   ·cases h1
def fB.env(t:fB)(bP dR:Nat->List Nat)(outs:List Nat)(ps:List Ty):Env:=⟨fun T=>t.kP.getD T none,fun T=>t.oX.getD T 0,fun T=>t.jz.getD T false,bP,dR,outs,ps,iR t.nK,fun _=>none,fun _=>none,fun _=>[],[],false,[],fun _=>[],fun _=>none,none⟩
def fB.gx(t:fB):Env:=t.env (fun _=>[]) (fun _=>[]) [] []
def fB.ok(P:Program)(t:fB):Bool:=(List.range t.kP.length).all (jV P t.gx)&&((List.range t.jz.length).all (fun T=> !t.jz.getD T false||tw P T)&&t.nK.all (qa P))
theorem il{E':Env}(h1:E.ty=E'.ty)(h2:E.bytes=E'.bytes){T:TypeId}{t:Ty}(h:eb P E T t):eb P E' T t:=by
 have bn:∀(fl:List Field) (t:Ty) (off:Nat),zl E fl t off->zl E' fl t off:=by
  intro fl
  induction fl with
  |nil=>intro t off h;cases t<;>simp_all [zl]
  |cons f r ih=>
   intro t off h
   cases t<;>simp only[zl] at h⊢ <;>try exact h
   exact⟨h.1,by rw[<-h1];exact h.2.1,h.2.2.1,ih _ _ h.2.2.2⟩
 refine⟨by rw[<-h2];exact h.info,?_⟩
 have hu:=h.bu
 cases t with
 |bool=>exact hu
 |int k=>exact hu
 |str=>exact hu
 |sl e u=>exact⟨hu.1,by rw[<-h1];exact hu.2⟩
 |aK n u=>obtain⟨e,g1,g2⟩:=hu;exact⟨e,g1,by rw[<-h1];exact g2⟩
 |unit=>obtain⟨fs,g1,g2,g3⟩:=hu;exact⟨fs,g1,bn _ _ _ g2,g3⟩
 |pair a b=>obtain⟨fs,g1,g2,g3⟩:=hu;exact⟨fs,g1,bn _ _ _ g2,g3⟩
 |aF k a b=>exact hu.elim
theorem ae.join(h:ae P E)(j:Nat->Option (List Nat)):ae P {E with join:=j}:=
 ⟨fun T u hT=>il (E:=E) (E':={E with join:=j}) rfl rfl (h.ty T u hT),h.pt,h.mp,h.bl⟩
theorem ae.fz(h:ae P E)(j:Nat->Option (Nat×TypeId)):ae P {E with fz:=j}:=
 ⟨fun T u hT=>il (E:=E) (E':={E with fz:=j}) rfl rfl (h.ty T u hT),h.pt,h.mp,h.bl⟩
theorem ae.dr(h:ae P E)(j:Nat->List Nat):ae P {E with dr:=j}:=
 ⟨fun T u hT=>il (E:=E) (E':={E with dr:=j}) rfl rfl (h.ty T u hT),h.pt,h.mp,h.bl⟩
theorem ae.sh(h:ae P E)(j:List Nat):ae P {E with sh:=j}:=
 ⟨fun T u hT=>il (E:=E) (E':={E with sh:=j}) rfl rfl (h.ty T u hT),h.pt,h.mp,h.bl⟩
theorem ae.mv(h:ae P E)(j:List Nat):ae P {E with mv:=j}:=
 ⟨fun T u hT=>il (E:=E) (E':={E with mv:=j}) rfl rfl (h.ty T u hT),h.pt,h.mp,h.bl⟩
theorem ae.fr(h:ae P E)(j:Nat->List Nat):ae P {E with fr:=j}:=
 ⟨fun T u hT=>il (E:=E) (E':={E with fr:=j}) rfl rfl (h.ty T u hT),h.pt,h.mp,h.bl⟩
def sI(P:Program)(T:TypeId):Bool:=
 match P.info? T with
 |some i=>match i.zero with
  |some (.agg a)=>match a.toList with
   | [.pointer none,.slice none 0 0]=>true
   |_=>false
  |_=>false
 |none=>false
theorem ae.gp(h:ae P E)(T e:TypeId)(hT:sI P T=true):ae P {E with bl:=fun t=>bif Nat.beq t T then some e else none}:=
 ⟨fun T' u hT=>il (E:=E) (E':={E with bl:=fun t=>bif Nat.beq t T then some e else none}) rfl rfl (h.ty T' u hT),h.pt,h.mp,fun T' e' he=>by
   have he:(bif Nat.beq T' T then some e else none)=some e':=he
   cases hb:Nat.beq T' T with
   |false=>rw[hb] at he;cases he
   |true=>
    have:=Nat.eq_of_beq_eq_true hb
    subst this
    unfold sI at hT
    split at hT
    case h_2=>cases hT
    rename_i i hi
    split at hT
    case h_2=>cases hT
    rename_i a ha
    split at hT
    case h_2=>cases hT
    rename_i hl
    exact⟨i,hi,by rw[ha];congr 1;congr 1;apply Array.ext';rw[hl]⟩⟩
theorem ae.sp(h:ae P E)(j:Option (Nat×Nat×Nat×Nat)):ae P {E with sp:=j}:=
 ⟨fun T u hT=>il (E:=E) (E':={E with sp:=j}) rfl rfl (h.ty T u hT),h.pt,h.mp,h.bl⟩
theorem ae.ro(h:ae P E)(j:Bool):ae P {E with ro:=j}:=
 ⟨fun T u hT=>il (E:=E) (E':={E with ro:=j}) rfl rfl (h.ty T u hT),h.pt,h.mp,h.bl⟩
theorem fB.ef{t:fB}(h:t.ok P=true)(bP dR:Nat->List Nat)(outs:List Nat)(ps:List Ty):ae P (t.env bP dR outs ps):=by
 unfold fB.ok at h
 simp only[Bool.and_eq_true] at h
 refine⟨fun T u hT=> ?_,fun T hT=> ?_,fun T k e hT=>vz h.2.2 hT,fun T e hT=>by cases hT⟩
 ·refine il (E:=t.gx) (E':=t.env bP dR outs ps) rfl rfl (AR ?_ hT)
  refine List.all_eq_true.1 h.1 T (List.mem_range.2 ?_)
  have jm:t.kP.getD T none=some u:=hT
  rcases Nat.lt_or_ge T t.kP.length with h1|h1
  ·exact h1
  ·rw[List.getD_eq_getElem?_getD,List.getElem?_eq_none h1] at jm;cases jm
 ·have jm:t.jz.getD T false=true:=hT
  have aw:T<t.jz.length:=by
   rcases Nat.lt_or_ge T t.jz.length with h1|h1
   ·exact h1
   ·rw[List.getD_eq_getElem?_getD,List.getElem?_eq_none h1] at jm;cases jm
  have:=List.all_eq_true.1 h.2.1 T (List.mem_range.2 aw)
  rw[jm] at this
  simp only[Bool.not_true,Bool.false_or] at this
  unfold tw at this
  split at this
  ·rename_i e he;exact⟨e,he⟩
  ·cases this
end Go.Ref

namespace Go.Ref
open Go
variable {P:Program} {E:Env}
abbrev Pure:=(R:Type)->List SV->Option aH->(List SV->Option aH->Option R)->Option R
def Pure.Nat(g:Pure):Prop:=∀(R S:Type) l b (F:List SV->Option aH->Option R) (G:List SV->Option aH->Option S) (K:S->Option R),(∀r b,F r b=(G r b).bind K)->g R l b F=(g S l b G).bind K
def ax.none:ax:=fun _ _ _ _ _=> .none
def ax.add(C:ax)(n:FuncId)(ps:List Ty)(g:Pure):ax:=fun R f l b K=>bif Nat.beq f n then g R (ay ps l) b K else C R f l b K
theorem AX:ax.none.Nat:=fun _ _ _ _ _ _ _ _ _=>rfl
theorem zS(f:FuncId):bV P ax.none f:=fun _ _ _ _ h=>by cases h
theorem Bs{C:ax}{n:FuncId}{ps:List Ty}{g:Pure}(hC:C.Nat)(hg:g.Nat):(C.add n ps g).Nat:=fun R S f l b F G K h=>by
 unfold ax.add
 cases Nat.beq f n with
 |false=>exact hC R S f l b F G K h
 |true=>exact hg R S _ b F G K h
theorem Ax(hE:ae P E)(hm:P.follows .mixedOrders=true){C:ax}(hC:C.Nat)(h0:∀f,bV P C f){n:FuncId}{ps:List Ty}{g:Pure}{fn:Func}{code:Code}(fb:P.funcs[n]? =some fn)(gG:(fn.name== "runtime.NumGoroutine")=false)(fD:fn.body=some code)
 (h:∀(l:List SV) (b:Option aH) (r:List SV) (b':Option aH),g (List SV×Option aH) (ay ps l) b (fun r b=>some (r,b))=some (r,b')->∃k,cZ E (C (List SV×Option aH)) k fn code l b (fun r b=>some (r,b))=some (r,b')):∀f,bV P (C.add n ps g) f:=by
 intro f
 by_cases e:f=n
 ·subst e
  refine BE hE hm hC h0 fb gG fD fun l b r b' hc=>h l b r b' ?_
  unfold ax.add at hc
  have:Nat.beq f f=true:=by simp
  rw[this] at hc
  exact hc
 ·intro l b r b' hc
  unfold ax.add at hc
  have:Nat.beq f n=false:=by
   cases hh:Nat.beq f n with
   |false=>rfl
   |true=>exact absurd (Nat.eq_of_beq_eq_true hh) e
  rw[this] at hc
  exact h0 f l b r b' hc
def sub:List Nat->Code->Code
 | [],c=>c
 |0::p,.seq a _=>sub p a
 |_::p,.seq _ b=>sub p b
 |0::p,.cond _ a _=>sub p a
 |_::p,.cond _ _ b=>sub p b
 |_::p,.block _ b=>sub p b
 |_::p,.loop b=>sub p b
 |_,c=>c
section
variable {R:Type}
def z75(id:Nat)(K:Ex->State->Option R):Ex->State->Option R:=fun e s=>match e with
 | .exit j=>bif Nat.beq j id then K .normal s else K (.exit j) s
 |e=>K e s
def iQ(E:Env)(C:FuncId->aJ R)(k:Nat)(b:Code)(K:Ex->State->Option R):Ex->State->Option R:=fun e s=>match e with
 | .normal=>eW E k (zu b) s fun s=>ev E C k b s K
 |e=>K e s
def iP(E:Env)(rs:List ResultVar)(bx:Option aH)(K:List SV->Option aH->Option R):Ex->State->Option R:=fun e s=>match e with
 | .exit _=>none
 |_=>match cr E s rs with
  |some (l,s')=>lj s' bx (cX E l) K
  |none=>none
end
section
variable {R:Type}
def dK(l:List SV)(K:Option R):Option R:=
 match l with
 | []=>K
 |_=>none
def dL(t:Ty)(l:List SV)(K:El t->Option R):Option R:=
 match l with
 | [a]=>a.el t K
 |_=>none
def dM(t u:Ty)(l:List SV)(K:El t->El u->Option R):Option R:=
 match l with
 | [a,b]=>a.el t fun x=>b.el u fun y=>K x y
 |_=>none
def dN(t u v:Ty)(l:List SV)(K:El t->El u->El v->Option R):Option R:=
 match l with
 | [a,b,c]=>a.el t fun x=>b.el u fun y=>c.el v fun z=>K x y z
 |_=>none
end
theorem BC{R:Type}{t:Ty}{v:SV}{r:List Ty}{q:List SV}{K:El t->Option R}{z:R}{v':SV}{q':List SV}(hn:ay (t::r) (v::q)=v'::q')(h:v'.el t K=some z):∃y,v'= .aj t y []/\q'=ay r q/\K y=some z:=by
 have key:v'=v.shut/\q'=ay r q\/(∃e u,t= .sl e u/\v'= .aj (.sl e u) ([]:List (El u)) []/\q'=ay r q):=by
  cases t<;>cases v<;>simp only[ay,List.cons.injEq] at hn<;>first|exact .inl ⟨hn.1.symm,hn.2.symm⟩|exact .inr ⟨_,_,rfl,hn.1.symm,hn.2.symm⟩
 rcases key with⟨rfl,rfl⟩|⟨e,u,rfl,rfl,rfl⟩
 ·cases v with
  |aj t' x own=>
   simp only[SV.shut,SV.el] at h
   split at h
   ·rename_i heq
    have:=Ty.av heq
    subst this
    exact⟨x,rfl,rfl,h⟩
   ·cases h
  |bc=>cases t<;>first|(simp [SV.shut,SV.el] at h;done)|(simp [ay,SV.shut] at hn;done)
  |_=>simp [SV.shut,SV.el] at h
 ·simp only[SV.el,Ty.aO,dite_true] at h
  exact⟨[],rfl,rfl,h⟩
theorem ru(hE:ae P E){H:Type}{enc:TypeId×Value->H}{w:World}{spare:Nat->Bool}{held:Bool}{β:Nat->Option Nat}{base b:Nat}{T:TypeId}{t:Ty}{v:Value}{d:DataW H}{ps:List MemPlace}(hT:E.ty T=some t)(c9:t.ci=true)
 (hv:Value.okWide P w .any b T v) (hd:DataW.Trod enc P w base spare held T v d ps):∃y:El t,Wf t y/\∀q,ah (hM w β) q (.aj t y []) v:=by
 obtain⟨aZ,hd⟩:=hd
 obtain⟨y,r,wf⟩:=(BG (β:=β) hE t).1 T aZ _ _ hT c9 hd
 refine⟨y,wf,fun q=>⟨_,r,?_,zr⟩⟩
 have hu:=(hE.ty T t hT).bu
 have hl:=r.len
 cases ht:t.agg with
 |true=>
  rw[zj ht]
  have:∃cs,v= .agg cs:=by
   unfold Value.okWide at hv
   cases t with
   |aK n t=>obtain⟨e,h1,_⟩:=hu;rw[h1] at hv;obtain⟨cs,h,_⟩:=hv;exact⟨cs,h⟩
   |unit=>obtain⟨fs,h1,_⟩:=hu;rw[h1] at hv;obtain⟨cs,h,_⟩:=hv;exact⟨cs,h⟩
   |pair a b=>obtain⟨fs,h1,_⟩:=hu;rw[h1] at hv;obtain⟨cs,h,_⟩:=hv;exact⟨cs,h⟩
   |aF k a b=>exact absurd (hE.cR hT) (by simp [Ty.aI])
   |_=>simp [Ty.agg] at ht
  obtain⟨cs,rfl⟩:=this
  rfl
 |false=>
  have pI:∀cs,v≠ .agg cs:=by
   rintro cs rfl
   unfold Value.okWide at hv
   cases t with
   |bool=>have hu:P.underlying T=some .bool:=hu;rw[hu] at hv;unfold Cell.okWide at hv;rw[hu] at hv;unfold Cell.ok at hv;rw[hu] at hv;exact hv
   |int k=>have hu:P.underlying T=some (.int k):=hu;rw[hu] at hv;unfold Cell.okWide at hv;rw[hu] at hv;unfold Cell.ok at hv;rw[hu] at hv;exact hv
   |str=>have hu:P.underlying T=some .string:=hu;rw[hu] at hv;unfold Cell.okWide at hv;rw[hu] at hv;unfold Cell.ok at hv;rw[hu] at hv;exact hv
   |sl e t=>have hu:P.underlying T=some (.slice e):=hu.1;rw[hu] at hv;unfold Cell.okWide at hv;rw[hu] at hv;unfold Cell.ok at hv;rw[hu] at hv;exact hv
   |_=>simp [Ty.agg] at ht
  have hc:v.cells.toList=[v]:=by
   cases v<;>first|rfl|exact absurd rfl (pI _)
  rw[hc,m7 ht]
theorem yz{w:World}{β:Nat->Option Nat}{Y:ag}(h:Ext (hM w β) Y):∀g,g<w.heap.size->Y.w.heap[g]? =w.heap[g]? :=fun g hg=>(h.still g hg trivial).2
end Go.Ref

namespace Go.Ref
open Go
theorem vN{x:Int}(h1: -9223372036854775808<=x)(h2:x<=9223372036854775807):IntKind.i64.wrap x=x:=by
 simp [IntKind.wrap,IntKind.signed,IntKind.bits]
 omega
theorem An{R:Type}{j n:Nat}{x:Option R}(h:j<n):zc (j:Int) n x=x:=by
 unfold zc
 rw[decide_eq_true (by omega:(0:Int)<=j),decide_eq_true (by omega:(j:Int)<n)]
 rfl
variable {P:Program} {E:Env}
def m8(X:ag):List SV->List Value->Prop
 | [],[]=>True
 |s::l,v::vs=>(∀q,ah X q s v)/\(∀id t p,s≠ .ptr id t p)/\m8 X l vs
 |_,_=>False
theorem tZ{X:ag}:∀{l:List SV} {vs:List Value},m8 X l vs->vs.length=l.length/\∀(i:Nat) s v,l[i]? =some s->vs[i]? =some v->(∀q,ah X q s v)/\∀id t p,s≠ .ptr id t p
 | [],[],_=>⟨rfl,fun i s v h=>by simp at h⟩
 |s::l,v::vs,h=>by
  obtain⟨h1,h2,h3⟩:=h
  obtain⟨g1,g2⟩:=tZ h3
  refine⟨by simp [g1],fun i s' v' hs hv=> ?_⟩
  cases i with
  |zero=>
   simp only[List.getElem?_cons_zero,Option.some.injEq] at hs hv
   subst hs hv
   exact⟨h1,h2⟩
  |succ i=>
   simp only[List.getElem?_cons_succ] at hs hv
   exact g2 i s' v' hs hv
theorem AO{X:ag}{l:List SV}{args:Array Value}(h:m8 X l args.toList)(hX:∀g pl n,X.ow g≠ .row pl n):gm X l none args:=by
 obtain⟨h1,h2⟩:=tZ h
 refine⟨by simpa using h1,fun i sv v hs hv=>(h2 i sv v hs (by simpa using hv)).1 _,fun id t p hm=> ?_,fun B hB=>(by cases hB),fun _=>hX⟩
 obtain⟨i,hi⟩:=List.mem_iff_getElem?.1 hm
 have aw:=(List.getElem?_eq_some_iff.1 hi).1
 have gE:i<args.toList.length:=by omega
 exact absurd rfl ((h2 i _ _ hi (List.getElem?_eq_getElem gE)).2 id t p)
theorem Ab{C:ax}{f:FuncId}(ho:bV P C f){l:List SV}{args:Array Value}{W:World}{b:Bool}(hc:C (List SV×Option aH) f l none (fun r b=>some (r,b))=some ([.aj .bool b []],none))(gi:m8 (hM W fun _=>none) l args.toList):
 Calls P f args W fun e w'=>e= .returned (.bool b)/\RowKit.Below W.heap.size W w':=by
 refine((ho l none _ _ hc).2 (hM W fun _=>none) args (AO gi fun g pl n e=>by cases e)).mono fun e w' he=> ?_
 cases e with
 |returned v=>
  obtain⟨Y,rfl,aB,r0,au,_,_⟩:=he
  have au:ah {Y with β:=fun _=>some r0} (.r 0) (.aj .bool b []) v:=au
  refine⟨by rw[mK au],aB.os,aB.tape,aB.output,aB.size,fun k hk=>yz aB k hk⟩
 |panicked c=>exact he.elim
 |outgrown=>exact he.elim
end Go.Ref

namespace Go.Ref
open Go
variable {P:Program} {E:Env}
def bs(l:List Nat):ByteArray:=⟨(l.map UInt8.ofNat).toArray⟩
@[irreducible] def bE:Nat:=18446744073709551616
section
variable {R S:Type}
def lg(t u v w:Ty)(l:List SV)(K:El t->El u->El v->El w->Option R):Option R:=
 match l with
 | [a,b,.view v' x,.view w' y]=>if h:v'.aX v=true then if h2:w'.aX w=true then a.el t fun p=>b.el u fun q=>K p q (Ty.cast h x) (Ty.cast h2 y) else none else none
 |_=>none
def cV(b:Option aH)(K:Option R):Option R:=
 match b with
 |none=>K
 |some _=>none
theorem mS{b:Option aH}{F:Option R}{G:Option S}{K:S->Option R}(h:F=G.bind K):cV b F=(cV b G).bind K:=by
 cases b
 ·exact h
 ·rfl
theorem mO{b:Option aH}{F:Option R}{z:R}(h:cV b F=some z):b=none/\F=some z:=by
 cases b
 ·exact⟨rfl,h⟩
 ·cases h
theorem qQ(c:Bool)(x y:Option S)(F:S->Option R):(bif c then x else y).bind F=bif c then x.bind F else y.bind F:=by cases c<;>rfl
theorem x5(i:Int)(n:Nat)(x:Option S)(F:S->Option R):(zc i n x).bind F=zc i n (x.bind F):=by
 unfold zc;rw[qQ,qQ];rfl
theorem zR(F:S->Option R):(none:Option S).bind F=none:=Eq.trans rfl rfl
theorem hI(x:S)(F:S->Option R):(some x).bind F=F x:=Eq.trans rfl rfl
theorem Bc{α β:Type}(f:α->Option S)(g:β->Option S)(e:α⊕β)(F:S->Option R):(Sum.elim f g e).bind F=Sum.elim (fun x=>(f x).bind F) (fun x=>(g x).bind F) e:=by cases e<;>rfl
theorem yQ{α:Type}(x:Option α)(f:α->Option S)(F:S->Option R):(x.bind f).bind F=x.bind fun y=>(f y).bind F:=by cases x<;>rfl
theorem yL{l:List SV}{F:Option R}{G:Option S}{K:S->Option R}(h:F=G.bind K):dK l F=(dK l G).bind K:=by
 unfold dK;split
 ·exact h
 ·rfl
theorem yM{t:Ty}{l:List SV}{F:El t->Option R}{G:El t->Option S}{K:S->Option R}(h:∀x,F x=(G x).bind K):dL t l F=(dL t l G).bind K:=by
 unfold dL;split
 ·exact zd h
 ·rfl
theorem yN{t u:Ty}{l:List SV}{F:El t->El u->Option R}{G:El t->El u->Option S}{K:S->Option R}(h:∀x y,F x y=(G x y).bind K):dM t u l F=(dM t u l G).bind K:=by
 unfold dM;split
 ·exact zd fun x=>zd fun y=>h x y
 ·rfl
theorem yO{t u v:Ty}{l:List SV}{F:El t->El u->El v->Option R}{G:El t->El u->El v->Option S}{K:S->Option R}(h:∀x y z,F x y z=(G x y z).bind K):dN t u v l F=(dN t u v l G).bind K:=by
 unfold dN;split
 ·exact zd fun x=>zd fun y=>zd fun z=>h x y z
 ·rfl
theorem ya{t u v w:Ty}{l:List SV}{F:El t->El u->El v->El w->Option R}{G:El t->El u->El v->El w->Option S}{K:S->Option R}(h:∀x y z a,F x y z a=(G x y z a).bind K):lg t u v w l F=(lg t u v w l G).bind K:=by
 unfold lg;split
 ·split
  ·split
   ·exact zd fun x=>zd fun y=>h x y _ _
   ·rfl
  ·rfl
 ·rfl
theorem mP{α:Type}{m:Option α}{F:α->Option R}{G:α->Option S}{K:S->Option R}(h:∀r,F r=(G r).bind K):m.bind F=(m.bind G).bind K:=by
 cases m with
 |none=>rfl
 |some x=>exact h x
end
section
variable {R:Type}
theorem zK{C:FuncId->aJ R}{k:Nat}{fn:Func}{code:Code}{l q:List SV}{b:Option aH}{K:List SV->Option aH->Option R}(h:ay E.ps l=q)(hq:ay E.ps q=q)(hl:q.length=l.length):cZ E C k fn code l b K=cZ E C k fn code q b K:=by
 unfold cZ
 simp only[h,hq,hl]
theorem uH:∀{ts:List Ty} {q:List SV},(∀s∈q,s.shut=s/\s≠ .bc)->ay ts q=q
 |ts,[],_=>by cases ts<;>simp [ay]
 | [],q,_=>by simp [ay]
 |t::r,v::q,h=>by
  have h1:=h v (by simp)
  have h2:=uH (ts:=r) (q:=q) (fun s hs=>h s (by simp [hs]))
  cases t<;>cases v<;>simp [ay,h2]<;>first|exact h1.1|exact absurd rfl h1.2
theorem AY{ts:List Ty}{l:List SV}(h:ay ts l=[]):l=[]:=by
 have:=nX ts l
 rw[h] at this
 exact List.length_eq_zero_iff.1 this.symm
theorem zX{t:Ty}{r:List Ty}{l:List SV}{v':SV}{q':List SV}(h:ay (t::r) l=v'::q'):∃v q,l=v::q:=by
 cases l with
 |nil=>simp [ay] at h
 |cons v q=>exact⟨v,q,rfl⟩
theorem jH{t:Ty}{r:List Ty}{l:List SV}{a:SV}{q':List SV}{K:El t->Option R}{z:R}(hn:ay (t::r) l=a::q')(h:a.el t K=some z):∃y v q,a= .aj t y []/\l=v::q/\ay r q=q'/\K y=some z:=by
 obtain⟨v,q,rfl⟩:=zX hn
 obtain⟨y,h1,h2,h3⟩:=BC hn h
 exact⟨y,v,q,h1,rfl,h2.symm,h3⟩
theorem mU{l q:List SV}(hn:ay E.ps l=q)(hd:∀s∈q,s.shut=s/\s≠ .bc){C:FuncId->aJ R}{k:Nat}{fn:Func}{code:Code}{b:Option aH}{K:List SV->Option aH->Option R}:cZ E C k fn code l b K=cZ E C k fn code q b K:=
 zK hn (uH hd) (by rw[<-hn,nX])
theorem m9{t:Ty}{x:El t}:(SV.aj t x []).shut=SV.aj t x []/\SV.aj t x []≠ .bc:=⟨rfl,by simp⟩
def fg(E:Env)(l q:List SV):Prop:=∀{R:Type} (C:FuncId->aJ R) (k:Nat) (fn:Func) (code:Code) (b:Option aH) (K:List SV->Option aH->Option R),cZ E C k fn code l b K=cZ E C k fn code q b K
theorem iT{l:List SV}{F:Option R}{z:R}(fW:E.ps=[])(h:dK (ay [] l) F=some z):F=some z/\fg E l []:=by
 unfold dK at h
 split at h
 ·rename_i hn
  have:=AY hn
  subst this
  exact⟨h,fun C k fn code b K=>rfl⟩
 ·cases h
theorem qf{t:Ty}{l:List SV}{F:El t->Option R}{z:R}(fW:E.ps=[t])(h:dL t (ay [t] l) F=some z):∃x,F x=some z/\fg E l [.aj t x []]:=by
 unfold dL at h
 split at h
 ·rename_i a hn
  obtain⟨x,v,q,rfl,rfl,h1,h⟩:=jH hn h
  refine⟨x,h,fun C k fn code b K=>mU (by rw[fW];exact hn) ?_⟩
  intro s hs
  simp only[List.mem_cons,List.not_mem_nil,or_false] at hs
  subst hs;exact m9
 ·cases h
theorem hD{t u:Ty}{l:List SV}{F:El t->El u->Option R}{z:R}(fW:E.ps=[t,u])(h:dM t u (ay [t,u] l) F=some z):∃x y,F x y=some z/\fg E l [.aj t x [],.aj u y []]:=by
 unfold dM at h
 split at h
 ·rename_i a b hn
  obtain⟨x,v,q,rfl,rfl,h1,h⟩:=jH hn h
  obtain⟨y,v',q',rfl,rfl,h2,h⟩:=jH h1 h
  refine⟨x,y,h,fun C k fn code b K=>mU (by rw[fW];exact hn) ?_⟩
  intro s hs
  simp only[List.mem_cons,List.not_mem_nil,or_false] at hs
  rcases hs with rfl|rfl<;>exact m9
 ·cases h
theorem qg{t u v:Ty}{l:List SV}{F:El t->El u->El v->Option R}{z:R}(fW:E.ps=[t,u,v])(h:dN t u v (ay [t,u,v] l) F=some z):∃x y a,F x y a=some z/\fg E l [.aj t x [],.aj u y [],.aj v a []]:=by
 unfold dN at h
 split at h
 ·rename_i a b c hn
  obtain⟨x,v,q,rfl,rfl,h1,h⟩:=jH hn h
  obtain⟨y,v',q',rfl,rfl,h2,h⟩:=jH h1 h
  obtain⟨w,v',q',rfl,rfl,h3,h⟩:=jH h2 h
  refine⟨x,y,w,h,fun C k fn code b K=>mU (by rw[fW];exact hn) ?_⟩
  intro s hs
  simp only[List.mem_cons,List.not_mem_nil,or_false] at hs
  rcases hs with rfl|rfl|rfl<;>exact m9
 ·cases h
theorem BR{t:Ty}:(SV.ptr 0 t []).shut=SV.ptr 0 t []/\SV.ptr 0 t []≠ .bc:=⟨rfl,by simp⟩
theorem fg.ptr{t:Ty}{ts:List Ty}{q q':List SV}(fW:E.ps= .unit::ts)(hn:ay ts q=q')(hd:∀s∈q',s.shut=s/\s≠ .bc):fg E (.ptr 0 t []::q) (.ptr 0 t []::q'):=fun C k fn code b K=>
 mU (by rw[fW];simp [ay,SV.shut,hn]) (fun s hs=>by
  rcases List.mem_cons.1 hs with rfl|hs
  ·exact BR
  ·exact hd s hs)
theorem vF{t:Ty}{x:El t}:(SV.view t x).shut=SV.view t x/\SV.view t x≠ .bc:=⟨rfl,by simp⟩
theorem mA{t u v w:Ty}{l:List SV}{F:El t->El u->El v->El w->Option R}{z:R}(fW:E.ps=[t,u,.unit,.unit])(h:lg t u v w (ay [t,u,.unit,.unit] l) F=some z):
 ∃p q x y,F p q x y=some z/\fg E l [.aj t p [],.aj u q [],.view v x,.view w y]:=by
 unfold lg at h
 split at h
 ·rename_i a b v' x w' y hn
  split at h
  ·rename_i hv
   split at h
   ·rename_i hw
    have:=Ty.av hv
    have h3:=Ty.av hw
    subst this
    subst h3
    obtain⟨p,v1,q1,rfl,rfl,h4,h⟩:=jH hn h
    obtain⟨q,v2,q2,rfl,rfl,h5,h⟩:=jH h4 h
    refine⟨p,q,x,y,h,fun C k fn code b K=>mU (by rw[fW];exact hn) ?_⟩
    intro s hs
    simp only[List.mem_cons,List.not_mem_nil,or_false] at hs
    rcases hs with rfl|rfl|rfl|rfl
    ·exact m9
    ·exact m9
    ·exact vF
    ·exact vF
   ·cases h
  ·cases h
 ·cases h
end
end Go.Ref

namespace Go.Ref
open Go
variable {P:Program} {E:Env}
def ag.after(X:ag)(w:World):ag:=⟨w,fun g=>if g<X.w.heap.size then X.ow g else .ro 0,X.β⟩
end Go.Ref
namespace bF
open Go Go.Ref
end bF

namespace Go.Ref
open Go Go.Shelf Go.RowKit Go.Proofs
variable {P:Program} {E:Env} {ρ:Ren}
def ag.gp(X:ag)(w:World)(r:Nat)(g:Option Nat):ag:=⟨w,fun k=>if k=r then .box 0 else if g=some k then .row (.b 0 []) 0 else if k<X.w.heap.size then X.ow k else .ro 0,X.β⟩
end Go.Ref

namespace Go.Ref
open Go
variable {P:Program} {R S:Type}
structure cm(P:Program)(T:ax):Prop where
 mix:P.follows .mixedOrders=true
 nat:T.Nat
 mz:∀f,bV P T f
noncomputable abbrev cd (fn:Func):Code:=fn.body.getD .skip
noncomputable abbrev lQ (E:Env) (T:ax) (R:Type) (k:Nat) (fn:Func) (l:List SV) (b:Option aH) (K:List SV->Option aH->Option R):Option R:=cZ E (T R) k fn (cd fn) l b K
abbrev KF(R:Type):Type:=List SV->Option aH->Option R
abbrev KX(R:Type):Type:=Ex->State->Option R
abbrev gg(β:Type):Type 1:=(R:Type)->β->KF R->Option R
def gg.Nat{β:Type}(o:gg β):Prop:=∀(R S:Type) r (F:KF R) (G:KF S) (K:S->Option R),(∀r b,F r b=(G r b).bind K)->o R r F=(o S r G).bind K
def kz(fn:Func):Bool:= !(fn.name== "runtime.NumGoroutine")&&fn.body.isSome
def tI(x:Int):SV:= .aj (.int .i64) x []
def tB(x:Bool):SV:= .aj .bool x []
theorem dJ:(∀{R S:Type} (c:Bool) (x y:Option S) (F:S->Option R),(bif c then x else y).bind F=bif c then x.bind F else y.bind F)/\(∀{R S:Type} (i:Int) (n:Nat) (x:Option S) (F:S->Option R),(zc i n x).bind F=zc i n (x.bind F))/\
 (∀{R S:Type} (F:S->Option R),(.none:Option S).bind F= .none)/\(∀{R S:Type} (x:S) (F:S->Option R),(some x).bind F=F x)/\(∀{R S α β:Type} (f:α->Option S) (g:β->Option S) (e:α⊕β) (F:S->Option R),(Sum.elim f g e).bind F=Sum.elim (fun x=>(f x).bind F) (fun x=>(g x).bind F) e)/\
 (∀{R S α:Type} (x:Option α) (f:α->Option S) (F:S->Option R),(x.bind f).bind F=x.bind fun y=>(f y).bind F)/\(∀{α β γ:Type} (f:α->γ) (g:β->γ) (x:α),Sum.elim f g (.inl x)=f x)/\(∀{α β γ:Type} (f:α->γ) (g:β->γ) (x:β),Sum.elim f g (.inr x)=g x):=
 ⟨qQ,x5,zR,hI,Bc,yQ,fun _ _ _=>rfl,fun _ _ _=>rfl⟩
theorem cm.none(hm:P.follows .mixedOrders=true):cm P ax.none:=⟨hm,AX,zS⟩
theorem cm.add{E:Env}{T:ax}(h:cm P T)(hE:ae P E){n:FuncId}{ps:List Ty}{g:Pure}{fn:Func}(fb:P.funcs[n]? =some fn)(hc:kz fn=true)(hg:g.Nat)
 (h1:∀(l:List SV) (b:Option aH) (r:List SV) (b':Option aH),g (List SV×Option aH) (ay ps l) b (fun r b=>some (r,b))=some (r,b')->∃k,cZ E (T (List SV×Option aH)) k fn (cd fn) l b (fun r b=>some (r,b))=some (r,b')):cm P (T.add n ps g):=by
 obtain⟨h2,h3⟩:=Bool.and_eq_true_iff.1 hc
 refine⟨h.mix,Bs h.nat hg,Ax hE h.mix h.nat h.mz fb (by simpa using h2) ?_ h1⟩
 cases e:fn.body with
 |none=>rw[e] at h3;cases h3
 |some c=>simp [cd,e]
def kJ{β:Type}(f:Option β)(o:gg β):Pure:=fun R l b K=>cV b (dK l (f.bind fun r=>o R r K))
theorem mH(E:Env){T:ax}{n:FuncId}(fn:Func){β:Type}{f:Option β}{o:gg β}(m:(R:Type)->Nat->KF R->Option R)(h0:cm P T)(hE:ae P E)(fb:P.funcs[n]? =some fn)(hc:kz fn=true)(hp:E.ps=[])(ho:o.Nat)
 (h1:∀(R:Type) k (K:KF R),lQ E T R k fn [] .none K=m R k K) (h2:∀(R:Type) kk (e:kk=bE) (K:KF R),m R kk K=f.bind fun r=>o R r K):cm P (T.add n [] (kJ f o)):=
 h0.add hE fb hc (fun R S l b F G K h=>mS (yL (mP fun _=>ho _ _ _ _ _ _ h))) fun l b r b' h=>by
  obtain⟨rfl,h5⟩:=mO h
  obtain⟨h3,h4⟩:=iT hp h5
  exact⟨bE,(h4 _ _ _ _ _ _).trans (((h1 _ _ _).trans (h2 _ _ rfl _)).trans h3)⟩
def mC(t:Ty){β:Type}(f:El t->Option β)(o:gg β):Pure:=fun R l b K=>cV b (dL t l (fun x=>(f x).bind fun r=>o R r K))
theorem nL(E:Env){T:ax}{n:FuncId}(fn:Func){t:Ty}{β:Type}{f:El t->Option β}{o:gg β}(m:(R:Type)->Nat->El t->KF R->Option R)(h0:cm P T)(hE:ae P E)(fb:P.funcs[n]? =some fn)(hc:kz fn=true)(hp:E.ps=[t])(ho:o.Nat)
 (h1:∀(R:Type) k x (K:KF R),lQ E T R k fn [.aj t x []] .none K=m R k x K) (h2:∀(R:Type) kk (e:kk=bE) x (K:KF R),m R kk x K=(f x).bind fun r=>o R r K):cm P (T.add n [t] (mC t f o)):=
 h0.add hE fb hc (fun R S l b F G K h=>mS (yM fun _=>mP fun _=>ho _ _ _ _ _ _ h)) fun l b r b' h=>by
  obtain⟨rfl,h5⟩:=mO h
  obtain⟨x,h3,h4⟩:=qf hp h5
  exact⟨bE,(h4 _ _ _ _ _ _).trans (((h1 _ _ x _).trans (h2 _ _ rfl x _)).trans h3)⟩
def ki(t u:Ty){β:Type}(f:El t->El u->Option β)(o:gg β):Pure:=fun R l b K=>cV b (dM t u l (fun x y=>(f x y).bind fun r=>o R r K))
theorem kO(E:Env){T:ax}{n:FuncId}(fn:Func){t u:Ty}{β:Type}{f:El t->El u->Option β}{o:gg β}(m:(R:Type)->Nat->El t->El u->KF R->Option R)(h0:cm P T)(hE:ae P E)(fb:P.funcs[n]? =some fn)(hc:kz fn=true)(hp:E.ps=[t,u])(ho:o.Nat)
 (h1:∀(R:Type) k x y (K:KF R),lQ E T R k fn [.aj t x [],.aj u y []] .none K=m R k x y K) (h2:∀(R:Type) kk (e:kk=bE) x y (K:KF R),m R kk x y K=(f x y).bind fun r=>o R r K):cm P (T.add n [t,u] (ki t u f o)):=
 h0.add hE fb hc (fun R S l b F G K h=>mS (yN fun _ _=>mP fun _=>ho _ _ _ _ _ _ h)) fun l b r b' h=>by
  obtain⟨rfl,h5⟩:=mO h
  obtain⟨x,y,h3,h4⟩:=hD hp h5
  exact⟨bE,(h4 _ _ _ _ _ _).trans (((h1 _ _ x y _).trans (h2 _ _ rfl x y _)).trans h3)⟩
def qh(t u v:Ty){β:Type}(f:El t->El u->El v->Option β)(o:gg β):Pure:=fun R l b K=>cV b (dN t u v l (fun x y a=>(f x y a).bind fun r=>o R r K))
theorem tz(E:Env){T:ax}{n:FuncId}(fn:Func){t u v:Ty}{β:Type}{f:El t->El u->El v->Option β}{o:gg β}(m:(R:Type)->Nat->El t->El u->El v->KF R->Option R)(h0:cm P T)(hE:ae P E)(fb:P.funcs[n]? =some fn)(hc:kz fn=true)(hp:E.ps=[t,u,v])(ho:o.Nat)
 (h1:∀(R:Type) k x y a (K:KF R),lQ E T R k fn [.aj t x [],.aj u y [],.aj v a []] .none K=m R k x y a K) (h2:∀(R:Type) kk (e:kk=bE) x y a (K:KF R),m R kk x y a K=(f x y a).bind fun r=>o R r K):cm P (T.add n [t,u,v] (qh t u v f o)):=
 h0.add hE fb hc (fun R S l b F G K h=>mS (yO fun _ _ _=>mP fun _=>ho _ _ _ _ _ _ h)) fun l b r b' h=>by
  obtain⟨rfl,h5⟩:=mO h
  obtain⟨x,y,a,h3,h4⟩:=qg hp h5
  exact⟨bE,(h4 _ _ _ _ _ _).trans (((h1 _ _ x y a _).trans (h2 _ _ rfl x y a _)).trans h3)⟩
def pv(t u v w:Ty){β:Type}(f:El t->El u->El v->El w->Option β)(o:gg β):Pure:=fun R l b K=>cV b (lg t u v w l (fun x y a b=>(f x y a b).bind fun r=>o R r K))
theorem sv(E:Env){T:ax}{n:FuncId}(fn:Func){t u v w:Ty}{β:Type}{f:El t->El u->El v->El w->Option β}{o:gg β}(m:(R:Type)->Nat->El t->El u->El v->El w->KF R->Option R)(h0:cm P T)(hE:ae P E)(fb:P.funcs[n]? =some fn)(hc:kz fn=true)(hp:E.ps=[t,u,.unit,.unit])(ho:o.Nat)
 (h1:∀(R:Type) k x y a b (K:KF R),lQ E T R k fn [.aj t x [],.aj u y [],.view v a,.view w b] .none K=m R k x y a b K) (h2:∀(R:Type) kk (e:kk=bE) x y a b (K:KF R),m R kk x y a b K=(f x y a b).bind fun r=>o R r K):cm P (T.add n [t,u,.unit,.unit] (pv t u v w f o)):=
 h0.add hE fb hc (fun R S l b F G K h=>mS (ya fun _ _ _ _=>mP fun _=>ho _ _ _ _ _ _ h)) fun l b r b' h=>by
  unfold pv at h
  obtain⟨rfl,h5⟩:=mO h
  obtain⟨x,y,a,b,h3,h4⟩:=mA hp h5
  exact⟨bE,(h4 _ _ _ _ _ _).trans (((h1 _ _ x y a b _).trans (h2 _ _ rfl x y a b _)).trans h3)⟩
end Go.Ref

namespace bF
open Go.IntKind renaming wrap->zW,i64->zI,u8->zU
open Go Go.Ref
abbrev iB:Type:=(List (List Int))
abbrev b4:Type:=(Int×Int×Unit)
abbrev b8:Type:=(Int×Int×Int×Int×Int×Unit)
abbrev gn:Type:=(List b8)
abbrev aN:Type:=(Int×Int×gn×Unit)
def sk{R:Type}(a:Int)(b:b4->Option R):Option R:=
 bif a<1 then b (0,0,()) else bif 128<a then b (0,0,()) else bif a<=64 then bif zW zI (64-a)<0 then none else b (IntKind.u64.wrap (1*2^min (zW zI (64-a)).toNat 64),0,()) else bif zW zI (128-a)<0 then none else b (0,IntKind.u64.wrap (1*2^min (zW zI (128-a)).toNat 64),())
def nj(a:Int):Option b4:=
 sk a (fun a0=>some a0)
def sg{R:Type}(a b:b4)(c:b4->Option R):Option R:=
 c (eS .or .u64 a.1 b.1,eS .or .u64 a.2.1 b.2.1,())
def oP(a b:b4):Option b4:=
 sg a b (fun a0=>some a0)
def sj{R:Type}(a:b4)(b:Int)(c:b4->Option R):Option R:=
 (nj b).bind fun r1=>(oP a r1).bind fun r2=>c r2
def oQ(a:b4)(b:Int):Option b4:=
 sj a b (fun a0=>some a0)
def sc{R:Type}(a:(List Int))(b:(List Int)->Int->Int->b4->b4->Option R):Option R:=
 b a ((List.length a):Int) 0 (0,0,()) (0,0,())
def sd{R:Type}(a:(List Int))(b c:Int)(d e:b4)(f:(List Int)->Int->Int->b4->b4->Option R)(g:b4->b4->Option R):Option R:=
 bif c<b then zc c (List.length a) ((oQ e (List.getD a c.toNat (0:Int))).bind fun r1=>f a b (zW zI (c+1)) d r1) else g d e
def se{R:Type}(a b:b4)(c:b4->Option R):Option R:=
 c b
def oB:Nat->(List Int)->Int->Int->b4->b4->Option (b4×b4)
 |0,_,_,_,_,_=>none
 |k+1,v0,v1,v2,v3,v4=>sd v0 v1 v2 v3 v4 (fun a0 a1 a2 a3 a4=>oB k a0 a1 a2 a3 a4) (fun a0 a1=>some (a0,a1))
def oN(a:(List Int)):Option b4:=
 sc a (fun a0 a1 a2 a3 a4=>(oB bE a0 a1 a2 a3 a4).bind fun e=>se e.1 e.2 (fun a0=>some a0))
def sf{R:Type}(a b:b4)(c:b4->Option R):Option R:=
 c (eS .and .u64 a.1 b.1,eS .and .u64 a.2.1 b.2.1,())
def oO(a b:b4):Option b4:=
 sf a b (fun a0=>some a0)
def si{R:Type}(a:b4)(b:Int)(c:Bool->Option R):Option R:=
 (nj b).bind fun r1=>(oO a r1).bind fun r2=>c (!(decide (r2.1=0)&&(decide (r2.2.1=0)&&true)))
def ni(a:b4)(b:Int):Option Bool:=
 si a b (fun a0=>some a0)
def z93{R:Type}(a b c:Int)(d:b8->Option R):Option R:=
 d (a,b,1,c,c,())
def bO(a b c:Int):Option b8:=
 z93 a b c (fun a0=>some a0)
def z91{R:Type}(a:aN->Option R):Option R:=
 (bO 3 1 (6:Int)).bind fun r1=>(bO 4 1 (12:Int)).bind fun r2=>(bO 7 1 (10:Int)).bind fun r3=>(bO 11 1 (6:Int)).bind fun r4=>(bO 12 1 (12:Int)).bind fun r5=>(bO 14 1 (4:Int)).bind fun r6=>(bO 22 3 (12:Int)).bind fun r7=>(bO 23 1 (3:Int)).bind fun r8=>(bO 26 1 (4:Int)).bind fun r9=>(bO 37 3 (12:Int)).bind fun kK=>(bO 38 3 (6:Int)).bind fun kL=>(bO 39 1 (3:Int)).bind fun kM=>(bO 41 4 (8:Int)).bind fun kN=>(bO 42 4 (15:Int)).bind fun qj=>(bO 49 1 (3:Int)).bind fun qk=>(bO 52 5 (8:Int)).bind fun ql=>(bO 64 5 (8:Int)).bind fun qn=>(bO 70 1 (3:Int)).bind fun qo=>(bO 128 5 (8:Int)).bind fun qp=>a (2,1,([(2,1,2,12,19,()),r1,r2,r3,r4,r5,r6,r7,r8,r9,(32,1,2,1,11,()),(35,4,2,1,37,()),kK,kL,kM,kN,qj,(43,4,2,1,99,()),(48,4,3,1,999,()),qk,ql,(55,6,3,1,255,()),qn,qo,(102,4,2,1,28,()),qp]:List b8),())
def lq:Option aN:=
 z91 (fun a0=>some a0)
def rY{R:Type}(a:aN->Option R):Option R:=
 (bO 3 1 (6:Int)).bind fun r1=>(bO 4 1 (12:Int)).bind fun r2=>(bO 7 1 (10:Int)).bind fun r3=>(bO 11 1 (6:Int)).bind fun r4=>(bO 12 1 (6:Int)).bind fun r5=>(bO 13 1 (4:Int)).bind fun r6=>(bO 14 1 (4:Int)).bind fun r7=>(bO 18 1 (4:Int)).bind fun r8=>(bO 22 1 (3:Int)).bind fun r9=>(bO 23 1 (3:Int)).bind fun kK=>(bO 37 3 (12:Int)).bind fun kL=>(bO 38 3 (6:Int)).bind fun kM=>(bO 39 3 (2:Int)).bind fun kN=>(bO 41 4 (8:Int)).bind fun qj=>(bO 42 4 (15:Int)).bind fun qk=>(bO 43 4 (40:Int)).bind fun ql=>(bO 49 1 (3:Int)).bind fun qn=>(bO 52 5 (8:Int)).bind fun qo=>(bO 64 5 (8:Int)).bind fun qp=>(bO 70 1 (3:Int)).bind fun xj=>(bO 90 1 (42:Int)).bind fun xk=>(bO 128 5 (8:Int)).bind fun xl=>a (1,0,([(2,1,2,12,19,()),r1,r2,r3,r4,r5,r6,r7,r8,r9,kK,(32,1,2,1,11,()),(35,4,2,1,37,()),kL,kM,kN,qj,qk,ql,(48,4,3,1,999,()),qn,qo,(55,6,3,1,255,()),qp,xj,xk,(102,4,2,1,28,()),xl]:List b8),())
def ln:Option aN:=
 rY (fun a0=>some a0)
def rZ{R:Type}(a:b4->Option R):Option R:=
 (oN ([2,3,4,7,11,12,14,23,32,35,37,38,41,42,49,52,55,64,70,102,128]:List Int)).bind fun r1=>a r1
def nh:Option b4:=
 rZ (fun a0=>some a0)
def n7{R:Type}(a b:aN)(c:Bool->Option R)(d:Int->aN->aN->Option R):Option R:=
 bif !decide (a.1=b.1) then c false else bif !decide (a.2.1=b.2.1) then c false else bif !decide (((List.length a.2.2.1):Int)=((List.length b.2.2.1):Int)) then c false else d 0 a b
def rG{R:Type}(a:Int)(b c:aN)(d:Bool->Option R)(e:Int->aN->aN->Option R)(f:Option R):Option R:=
 bif a<((List.length b.2.2.1):Int) then zc a (List.length b.2.2.1) (zc a (List.length c.2.2.1) (bif !(decide ((List.getD b.2.2.1 a.toNat (0,0,0,0,0,())).1=(List.getD c.2.2.1 a.toNat (0,0,0,0,0,())).1)&&(decide ((List.getD b.2.2.1 a.toNat (0,0,0,0,0,())).2.1=(List.getD c.2.2.1 a.toNat (0,0,0,0,0,())).2.1)&&(decide ((List.getD b.2.2.1 a.toNat (0,0,0,0,0,())).2.2.1=(List.getD c.2.2.1 a.toNat (0,0,0,0,0,())).2.2.1)&&(decide ((List.getD b.2.2.1 a.toNat (0,0,0,0,0,())).2.2.2.1=(List.getD c.2.2.1 a.toNat (0,0,0,0,0,())).2.2.2.1)&&(decide ((List.getD b.2.2.1 a.toNat (0,0,0,0,0,())).2.2.2.2.1=(List.getD c.2.2.1 a.toNat (0,0,0,0,0,())).2.2.2.2.1)&&true))))) then d false else e (zW zI (a+1)) b c)) else f
def n8{R:Type}(a:Bool)(b:Bool->Option R):Option R:=
 b a
def n9{R:Type}(a:Bool->Option R):Option R:=
 a true
def mY:Nat->Int->aN->aN->Option (Sum Bool Unit)
 |0,_,_,_=>none
 |k+1,v0,v1,v2=>rG v0 v1 v2 (fun a0=>some (.inl a0)) (fun a0 a1 a2=>mY k a0 a1 a2) (some (.inr ()))
def eH(a b:aN):Option Bool:=
 n7 a b (fun a0=>some a0) (fun a0 a1 a2=>(mY bE a0 a1 a2).bind fun e=>Sum.elim (fun(we:Bool)=>n8 we (fun a0=>some a0)) (fun(we:Unit)=>n9 (fun a0=>some a0)) e)
def rK{R:Type}(a:iB->Option R):Option R:=
 a ([([2,1,2,12,19,1,2,12,19]:List Int),([3,1,1,6,6,1,1,6,6]:List Int),([4,1,1,12,12,1,1,12,12]:List Int),([7,1,1,10,10,1,1,10,10]:List Int),([11,1,1,6,6,1,1,6,6]:List Int),([12,1,1,6,6,1,1,12,12]:List Int),([13,1,1,4,4,0,0,0,0]:List Int),([14,1,1,4,4,1,1,4,4]:List Int),([18,1,1,4,4,0,0,0,0]:List Int),([22,1,1,3,3,3,1,12,12]:List Int),([23,1,1,3,3,1,1,3,3]:List Int),([26,0,0,0,0,1,1,4,4]:List Int),([32,1,2,1,11,1,2,1,11]:List Int),([35,4,2,1,37,4,2,1,37]:List Int),([37,3,1,12,12,3,1,12,12]:List Int),([38,3,1,6,6,3,1,6,6]:List Int),([39,3,1,2,2,1,1,3,3]:List Int),([41,4,1,8,8,4,1,8,8]:List Int),([42,4,1,15,15,4,1,15,15]:List Int),([43,4,1,40,40,4,2,1,99]:List Int),([48,4,3,1,999,4,3,1,999]:List Int),([49,1,1,3,3,1,1,3,3]:List Int),([52,5,1,8,8,5,1,8,8]:List Int),([55,6,3,1,255,6,3,1,255]:List Int),([64,5,1,8,8,5,1,8,8]:List Int),([70,1,1,3,3,1,1,3,3]:List Int),([90,1,1,42,42,0,0,0,0]:List Int),([102,4,2,1,28,4,2,1,28]:List Int),([128,5,1,8,8,5,1,8,8]:List Int)]:List (List Int))
def jN:Option iB:=
 rK (fun a0=>some a0)
def rH{R:Type}(a:Int)(b:Int->iB->Int->aN->aN->Option R):Option R:=
 jN.bind fun r1=>b a r1 0 (0,0,[],()) (zW zI (a+1),a,[],())
def rI{R:Type}(a:Int)(b:iB)(c:Int)(d e:aN)(f:Int->iB->Int->aN->aN->Option R)(g:aN->aN->Option R):Option R:=
 bif c<((List.length b):Int) then zc c (List.length b) (bif 0<=zW zI (5+zW zI (4*a)) then bif zW zI (5+zW zI (4*a))<=(((List.length (List.getD b c.toNat ([]:List Int))):Nat):Int) then bif 0<=zW zI (1+zW zI (4*a)) then bif zW zI (1+zW zI (4*a))<=(((zW zI (5+zW zI (4*a))).toNat:Nat):Int) then zc 0 (List.length (List.drop (zW zI ((1:Int)+zW zI ((4:Int)*a))).toNat (List.take (zW zI ((5:Int)+zW zI ((4:Int)*a))).toNat (List.getD b c.toNat ([]:List Int))))) (bif 0<List.getD (List.drop (zW zI (1+zW zI (4*a))).toNat (List.take (zW zI (5+zW zI (4*a))).toNat (List.getD b c.toNat []))) ((0:Int)).toNat 0 then zc c (List.length b) (zc 0 (List.length (List.getD b c.toNat ([]:List Int))) (zc 0 (List.length (List.drop (zW zI ((1:Int)+zW zI ((4:Int)*a))).toNat (List.take (zW zI ((5:Int)+zW zI ((4:Int)*a))).toNat (List.getD b c.toNat ([]:List Int))))) (zc 1 (List.length (List.drop (zW zI ((1:Int)+zW zI ((4:Int)*a))).toNat (List.take (zW zI ((5:Int)+zW zI ((4:Int)*a))).toNat (List.getD b c.toNat ([]:List Int))))) (zc 2 (List.length (List.drop (zW zI ((1:Int)+zW zI ((4:Int)*a))).toNat (List.take (zW zI ((5:Int)+zW zI ((4:Int)*a))).toNat (List.getD b c.toNat ([]:List Int))))) (zc 3 (List.length (List.drop (zW zI ((1:Int)+zW zI ((4:Int)*a))).toNat (List.take (zW zI ((5:Int)+zW zI ((4:Int)*a))).toNat (List.getD b c.toNat ([]:List Int))))) (bif(List.length e.2.2.1+List.length ([(List.getD (List.getD b c.toNat ([]:List Int)) ((0:Int)).toNat (0:Int),List.getD (List.drop (zW zI ((1:Int)+zW zI ((4:Int)*a))).toNat (List.take (zW zI ((5:Int)+zW zI ((4:Int)*a))).toNat (List.getD b c.toNat ([]:List Int)))) ((0:Int)).toNat (0:Int),List.getD (List.drop (zW zI ((1:Int)+zW zI ((4:Int)*a))).toNat (List.take (zW zI ((5:Int)+zW zI ((4:Int)*a))).toNat (List.getD b c.toNat ([]:List Int)))) ((1:Int)).toNat (0:Int),List.getD (List.drop (zW zI ((1:Int)+zW zI ((4:Int)*a))).toNat (List.take (zW zI ((5:Int)+zW zI ((4:Int)*a))).toNat (List.getD b c.toNat ([]:List Int)))) ((2:Int)).toNat (0:Int),List.getD (List.drop (zW zI ((1:Int)+zW zI ((4:Int)*a))).toNat (List.take (zW zI ((5:Int)+zW zI ((4:Int)*a))).toNat (List.getD b c.toNat ([]:List Int)))) ((3:Int)).toNat (0:Int),())]:List b8))*40<=140737488355328 then f a b (zW zI (c+1)) d (e.1,e.2.1,e.2.2.1++([(List.getD (List.getD b c.toNat []) ((0:Int)).toNat 0,List.getD (List.drop (zW zI (1+zW zI (4*a))).toNat (List.take (zW zI (5+zW zI (4*a))).toNat (List.getD b c.toNat []))) ((0:Int)).toNat 0,List.getD (List.drop (zW zI (1+zW zI (4*a))).toNat (List.take (zW zI (5+zW zI (4*a))).toNat (List.getD b c.toNat []))) ((1:Int)).toNat 0,List.getD (List.drop (zW zI (1+zW zI (4*a))).toNat (List.take (zW zI (5+zW zI (4*a))).toNat (List.getD b c.toNat []))) ((2:Int)).toNat 0,List.getD (List.drop (zW zI (1+zW zI (4*a))).toNat (List.take (zW zI (5+zW zI (4*a))).toNat (List.getD b c.toNat []))) ((3:Int)).toNat 0,())]:List b8),()) else none)))))) else f a b (zW zI (c+1)) d e) else none else none else none else none) else g d e
def rJ{R:Type}(a b:aN)(c:aN->Option R):Option R:=
 c b
def ob:Nat->Int->iB->Int->aN->aN->Option (aN×aN)
 |0,_,_,_,_,_=>none
 |k+1,v0,v1,v2,v3,v4=>rI v0 v1 v2 v3 v4 (fun a0 a1 a2 a3 a4=>ob k a0 a1 a2 a3 a4) (fun a0 a1=>some (a0,a1))
def fL(a:Int):Option aN:=
 rH a (fun a0 a1 a2 a3 a4=>(ob bE a0 a1 a2 a3 a4).bind fun e=>rJ e.1 e.2 (fun a0=>some a0))
def vH{R:Type}(a:Int)(b:Int->Option R):Option R:=
 bif a=1 then b 1 else bif a=2 then b 2 else bif a=3 then b 3 else bif a=4 then b 7 else bif a=5 then b 15 else bif a=6 then b 15 else b 0
def oM(a:Int):Option Int:=
 vH a (fun a0=>some a0)
def vG{R:Type}(a:Int)(b:Bool->Option R):Option R:=
 (oM a).bind fun r1=>b (!decide (r1=0))
def oK(a:Int):Option Bool:=
 vG a (fun a0=>some a0)
def Bp{R:Type}(a:Int)(b:Int->Option R):Option R:=
 bif a=2 then b 2 else bif a=3 then b 3 else b 0
def oL(a:Int):Option Int:=
 Bp a (fun a0=>some a0)
def Bm{R:Type}(a:Int)(b:Int->Int->Int->Option R):Option R:=
 (oL a).bind fun r1=>b 0 r1 0
def Bn{R:Type}(a b c:Int)(d:Int->Int->Int->Option R)(e:Int->Option R):Option R:=
 bif c<b then d (zW zI (zW zI (10*a)+9)) b (zW zI (c+1)) else e a
def Bo{R:Type}(a:Int)(b:Int->Option R):Option R:=
 b a
def vp:Nat->Int->Int->Int->Option Int
 |0,_,_,_=>none
 |k+1,v0,v1,v2=>Bn v0 v1 v2 (fun a0 a1 a2=>vp k a0 a1 a2) (fun a0=>some a0)
def ix(a:Int):Option Int:=
 Bm a (fun a0 a1 a2=>(vp bE a0 a1 a2).bind fun e=>Bo e (fun a0=>some a0))
def vq{R:Type}(a:b8)(b:Int->Option R):Option R:=
 bif a.1<2 then b 1 else bif 128<a.1 then b 1 else(oK a.2.1).bind fun r1=>bif !r1 then b 6 else bif a.2.2.1<1 then b 3 else bif 3<a.2.2.1 then b 3 else bif a.2.2.2.1<1 then b 5 else bif a.2.2.2.2.1<a.2.2.2.1 then b 5 else bif 999<a.2.2.2.2.1 then b 5 else bif a.2.2.1=1 then bif !decide (a.2.2.2.1=a.2.2.2.2.1) then b 5 else bif !decide (a.2.2.1=1) then(ix a.2.2.1).bind fun r2=>bif r2<a.2.2.2.2.1 then b 5 else bif a.2.2.1=1 then bif a.2.1=6 then b 13 else b 0 else b 0 else bif a.2.2.1=1 then bif a.2.1=6 then b 13 else b 0 else b 0 else bif !decide (a.2.2.1=1) then(ix a.2.2.1).bind fun r3=>bif r3<a.2.2.2.2.1 then b 5 else bif a.2.2.1=1 then bif a.2.1=6 then b 13 else b 0 else b 0 else bif a.2.2.1=1 then bif a.2.1=6 then b 13 else b 0 else b 0
def jP(a:b8):Option Int:=
 vq a (fun a0=>some a0)
def rN{R:Type}(a:aN)(b:Int)(c:Int->gn->Int->Int->b8->Option R):Option R:=
 c b a.2.2.1 ((List.length a.2.2.1):Int) 0 (0,0,0,0,0,())
def rO{R:Type}(a:Int)(b:gn)(c d:Int)(e:b8)(f:Bool->b8->Option R)(g:Int->gn->Int->Int->b8->Option R)(h:b8->Option R):Option R:=
 bif d<c then zc d (List.length b) (bif(List.getD b d.toNat (0,0,0,0,0,())).1=a then f true (List.getD b d.toNat (0,0,0,0,0,())) else g a b c (zW zI (d+1)) e) else h e
def rP{R:Type}(a:Bool)(b:b8)(c:b8->Bool->Option R):Option R:=
 c b a
def rQ{R:Type}(a:b8)(b:b8->Bool->Option R):Option R:=
 b (0,0,0,0,0,()) false
def oe:Nat->Int->gn->Int->Int->b8->Option (Sum (Bool×b8) b8)
 |0,_,_,_,_,_=>none
 |k+1,v0,v1,v2,v3,v4=>rO v0 v1 v2 v3 v4 (fun a0 a1=>some (.inl (a0,a1))) (fun a0 a1 a2 a3 a4=>oe k a0 a1 a2 a3 a4) (fun a0=>some (.inr a0))
def jO(a:aN)(b:Int):Option (b8×Bool):=
 rN a b (fun a0 a1 a2 a3 a4=>(oe bE a0 a1 a2 a3 a4).bind fun e=>Sum.elim (fun(we:(Bool×b8))=>rP we.1 we.2 (fun a0 a1=>some (a0,a1))) (fun(we:b8)=>rQ we (fun a0 a1=>some (a0,a1))) e)
def rL{R:Type}(a:gn)(b c:Int)(d:aN)(e:Int->Int->Option R)(f:gn->Int->Int->aN->Option R)(g:Option R):Option R:=
 bif c<b then zc c (List.length a) ((jP (List.getD a c.toNat (0,0,0,0,0,()))).bind fun r1=>bif !decide (r1=0) then e r1 c else bif 0<c then zc (zW zI (c-1)) (List.length d.2.2.1) (bif(List.getD a c.toNat (0,0,0,0,0,())).1<=(List.getD d.2.2.1 (zW zI (c-(1:Int))).toNat (0,0,0,0,0,())).1 then e 11 c else f a b (zW zI (c+1)) d) else f a b (zW zI (c+1)) d) else g
def oc:Nat->gn->Int->Int->aN->Option (Sum (Int×Int) Unit)
 |0,_,_,_,_=>none
 |k+1,v0,v1,v2,v3=>rL v0 v1 v2 v3 (fun a0 a1=>some (.inl (a0,a1))) (fun a0 a1 a2 a3=>oc k a0 a1 a2 a3) (some (.inr ()))
def oD{R:Type}(a:Bool)(b:aN->aN->Option R):Option R:=
 bif a then lq.bind fun r1=>(fL (1:Int)).bind fun r2=>b r1 r2 else ln.bind fun r3=>(fL (0:Int)).bind fun r4=>b r3 r4
def jk(a:Bool):Option (aN×aN):=
 oD a (fun a0 a1=>some (a0,a1))
def sm{R:Type}(a:Bool->Option R):Option R:=
 lq.bind fun r1=>(jO r1 (22:Int)).bind fun r2=>bif r2.2 then bif decide (r2.1.1=22)&&(decide (r2.1.2.1=3)&&(decide (r2.1.2.2.1=1)&&(decide (r2.1.2.2.2.1=12)&&(decide (r2.1.2.2.2.2.1=12)&&true)))) then ln.bind fun r3=>bif r3.1=1 then nh.bind fun r4=>(ni r4 (55:Int)).bind fun r5=>bif r5 then nh.bind fun r6=>(ni r6 (39:Int)).bind fun r7=>a (!r7) else a false else a false else a false else a false
def nk:Option Bool:=
 sm (fun a0=>some a0)
def oC{R:Type}(a:Bool)(b:Int)(c:b8)(d:Bool->Option R):Option R:=
 (jk a).bind fun r1=>nk.bind fun r2=>bif !r2 then d false else bif !decide (((List.length r1.1.2.2.1):Int)=((List.length r1.2.2.2.1):Int)) then d false else bif 0<=b then bif b<((List.length r1.1.2.2.1):Int) then zc b (List.length r1.1.2.2.1) ((jk a).bind fun r3=>(eH r3.1 r1.2).bind fun r4=>d r4) else(jk a).bind fun r5=>(eH r5.1 r1.2).bind fun r6=>d r6 else(jk a).bind fun r7=>(eH r7.1 r1.2).bind fun r8=>d r8
def lD(a:Bool)(b:Int)(c:b8):Option Bool:=
 oC a b c (fun a0=>some a0)
end bF

namespace bF
open Go.IntKind renaming wrap->zW,i64->zI,u8->zU
theorem zT{p:Prop}[Decidable p](h:p):decide p=true:=_root_.decide_eq_true h
theorem zF{p:Prop}[Decidable p](h:¬p):decide p=false:=_root_.decide_eq_false h
theorem zC{α:Type}{a b:α}:(bif true then a else b)=a:=rfl
theorem zD{α:Type}{a b:α}:(bif false then a else b)=b:=rfl
open Go Go.Ref
theorem BF:bE=18446744073709551616:=by unfold bE;rfl
theorem z53:maxLen=9223372036854775807:=rfl
theorem BQ{x:Int}(h1: -9223372036854775808<=x)(h2:x<=9223372036854775807):zW zI x=x:=vN h1 h2
theorem u3{j:Nat}(h:j<9223372036854775807):zW zI ((j:Int)+1)=((j+1:Nat):Int):=by
 rw[vN (by omega) (by omega)];rfl
theorem nO{R:Type}{j n:Nat}{x:Option R}(h:j<n):zc (j:Int) n x=x:=An h
theorem yC{R:Type}{i:Int}{n:Nat}{x:Option R}(h0:0<=i)(h:i<n):zc i n x=x:=by
 unfold zc
 rw[zT h0,zT h];rfl
theorem Bu{R:Type}{p:Prop}[Decidable p](x y:R):(bif decide p then x else y)=if p then x else y:=by
 by_cases h:p<;>simp [h]
def bl(s:ByteArray):List Int:=s.data.toList.map fun b=>(b.toNat:Int)
section
variable {α σ ρ:Type}
end
end bF
namespace bF
open Go.IntKind renaming wrap->zW,i64->zI,u8->zU
open Go Go.Ref
section
variable {α σ ρ:Type}
end
end bF

namespace bF
open Go.IntKind renaming wrap->zW,i64->zI,u8->zU
open Go Go.Ref
section
variable {c0 c1 c2 c3 c4 c5 c6 c7:Nat}
end
end bF

namespace bF
open Go.IntKind renaming wrap->zW,i64->zI,u8->zU
open Go Go.Ref
abbrev Fr:=Int×Bool×List Int×Unit
section
variable {α:Type} [DecidableEq α]
theorem ui(d:α)(eq:α->α->Bool)(heq:∀x y,eq x y=true↔x=y)(a b:List α)(hl:a.length=b.length)(h:a.length<=9223372036854775807)(L:Nat->Int->Option (Sum Bool Unit))
 (step:∀k (i:Int),L (k+1) i=bif decide (i<(a.length:Int)) then zc i a.length (zc i b.length (bif !(eq (a.getD i.toNat d) (b.getD i.toNat d)) then some (.inl false) else L k (zW zI (i+1)))) else some (.inr ())):
 ∀(m j k:Nat),j+m=a.length->m<k->L k j=some (if a.drop j=b.drop j then .inr () else .inl false)
 |0,j,k,hj,hk=>by
  obtain⟨k,rfl⟩:∃k',k=k'+1:=⟨k-1,by omega⟩
  rw[step,zF (by omega),List.drop_eq_nil_of_le (by omega),List.drop_eq_nil_of_le (by omega)]
  simp
 |m+1,j,k,hj,hk=>by
  obtain⟨k,rfl⟩:∃k',k=k'+1:=⟨k-1,by omega⟩
  have ha:j<a.length:=by omega
  have hb:j<b.length:=by omega
  rw[step,zT (by omega),zC,nO ha,nO hb,u3 (by omega),ui d eq heq a b hl h L step m (j+1) k (by omega) (by omega),List.drop_eq_getElem_cons ha,List.drop_eq_getElem_cons hb,Int.toNat_natCast]
  have h1:a.getD j d=a[j]:=by rw[List.getD_eq_getElem?_getD,List.getElem?_eq_getElem ha];rfl
  have h2:b.getD j d=b[j]:=by rw[List.getD_eq_getElem?_getD,List.getElem?_eq_getElem hb];rfl
  rw[h1,h2]
  by_cases e:a[j]=b[j]
  ·rw[(heq _ _).2 e,e]
   simp only[List.cons.injEq,true_and,Bool.not_true,zD]
  ·have:eq a[j] b[j]=false:=by
    cases hh:eq a[j] b[j] with
    |false=>rfl
    |true=>exact absurd ((heq _ _).1 hh) e
   rw[this]
   simp only[List.cons.injEq,e,false_and,if_false,Bool.not_false,zC]
theorem Ac(d:α)(eq:α->α->Bool)(heq:∀x y,eq x y=true↔x=y)(a b:List α)(hl:a.length=b.length)(h:a.length<=maxLen)(L:Nat->Int->Option (Sum Bool Unit))
 (step:∀k (i:Int),L (k+1) i=bif decide (i<(a.length:Int)) then zc i a.length (zc i b.length (bif !(eq (a.getD i.toNat d) (b.getD i.toNat d)) then some (.inl false) else L k (zW zI (i+1)))) else some (.inr ())):
 L bE 0=some (if a=b then .inr () else .inl false):=by
 have:=ui d eq heq a b hl (by rw[z53] at h;exact h) L step a.length 0 bE (by omega) (by rw[BF];rw[z53] at h;omega)
 simpa using this
end
end bF

namespace bF
open Go.IntKind renaming wrap->zW,i64->zI,u8->zU
open Go Go.Ref
abbrev Spec:=Int×Int×Int×Int×Int×Unit
abbrev kv:=Int×Int×List Spec×Unit
abbrev jB:Spec:=(0,0,0,0,0,())
theorem BK(c:Int):oM c=some (if c=1 then 1 else if c=2 then 2 else if c=3 then 3 else if c=4 then 7 else if c=5 then 15 else if c=6 then 15 else 0):=by
 unfold oM vH
 simp only[Bu]
 repeat' split
 all_goals rfl
theorem Ar(c:Int):oK c=some (decide (1<=c/\c<=6)):=by
 unfold oK vG
 rw[BK,hI]
 congr 1
 by_cases h1:c=1
 ·subst h1;rfl
 by_cases h2:c=2
 ·subst h2;rfl
 by_cases h3:c=3
 ·subst h3;rfl
 by_cases h4:c=4
 ·subst h4;rfl
 by_cases h5:c=5
 ·subst h5;rfl
 by_cases h6:c=6
 ·subst h6;rfl
 rw[if_neg h1,if_neg h2,if_neg h3,if_neg h4,if_neg h5,if_neg h6,zF (p:=1<=c/\c<=6) (by omega)]
 rfl
theorem ll:ix 2=some 99:=by kernel_rfl
theorem lm:ix 3=some 999:=by kernel_rfl
def cK(s:Spec):Int:=
 if s.1<2\/128<s.1 then 1 else if s.2.1<1\/6<s.2.1 then 6 else if s.2.2.1<1\/3<s.2.2.1 then 3
 else if s.2.2.2.1<1\/s.2.2.2.2.1<s.2.2.2.1\/(s.2.2.1=2/\99<s.2.2.2.2.1)\/999<s.2.2.2.2.1\/(s.2.2.1=1/\¬s.2.2.2.1=s.2.2.2.2.1) then 5
 else if s.2.2.1=1/\s.2.1=6 then 13 else 0
theorem xN(s:Spec):jP s=some (cK s):=by
 obtain⟨no,c,f,mn,mx,u⟩:=s
 unfold jP vq cK
 simp only[Ar,hI]
 by_cases h1:no<2\/128<no
 ·rw[if_pos h1]
  rcases h1 with h|h
  ·rw[zT h];rfl
  ·rw[zT h];cases decide (no<2)<;>rfl
 rw[if_neg h1,zF (by omega),zF (by omega)]
 by_cases h2:c<1\/6<c
 ·rw[if_pos h2,zF (p:=1<=c/\c<=6) (by omega)];rfl
 rw[if_neg h2,zT (p:=1<=c/\c<=6) (by omega)]
 simp only[zD,Bool.not_true]
 by_cases h3:f<1\/3<f
 ·rw[if_pos h3]
  rcases h3 with h|h
  ·rw[zT h];rfl
  ·rw[zT h];cases decide (f<1)<;>rfl
 rw[if_neg h3,zF (by omega),zF (by omega)]
 simp only[zD]
 by_cases h4:mn<1\/mx<mn\/999<mx
 ·rw[if_pos (by omega)]
  by_cases a:mn<1
  ·rw[zT a];rfl
  rw[zF a]
  by_cases b:mx<mn
  ·rw[zT b];rfl
  rw[zF b,zT (by omega)];rfl
 rw[zF (by omega),zF (by omega),zF (by omega)]
 simp only[zD]
 by_cases f1:f=1
 ·rw[zT f1]
  simp only[zC,Bool.not_true,zD]
  by_cases e:mn=mx
  ·rw[zT e,if_neg (by omega)]
   by_cases e6:c=6
   ·rw[zT e6,if_pos (by omega)];rfl
   ·rw[zF e6,if_neg (by omega)];rfl
  ·rw[zF e,if_pos (by omega)];rfl
 ·rw[zF f1]
  simp only[zD,Bool.not_false,zC]
  by_cases f2:f=2
  ·subst f2
   rw[ll,hI]
   by_cases h:99<mx
   ·rw[zT h,if_pos (by omega)];rfl
   ·rw[zF h,if_neg (by omega),if_neg (by omega)];rfl
  ·have f3:f=3:=by omega
   subst f3
   rw[lm,hI,zF (by omega),if_neg (by omega),if_neg (by omega)];rfl
def gb:List Spec->Int->Int->Int×Int
 | [],_,_=>(0,0)
 |x::r,i,last=>if cK x≠0 then(cK x,i) else if x.1<=last then(11,i) else gb r (i+1) x.1
theorem Ba{x:Spec}(h:cK x=0):2<=x.1/\x.1<=128:=by
 unfold cK at h
 split at h
 ·cases h
 ·omega
theorem zL{l:List Spec}{j:Nat}(h:j<l.length):l.getD ((j:Int)).toNat ((0:Int),(0:Int),(0:Int),(0:Int),(0:Int),())=l[j]:=by
 rw[Int.toNat_natCast,List.getD_eq_getElem?_getD,List.getElem?_eq_getElem h];rfl
theorem dh(s:kv)(hl:s.2.2.1.length<=9223372036854775807):∀(m j k:Nat) (last:Int),j+m=s.2.2.1.length->m<k->(j=0->last=0)->(∀h:0<j,last=(s.2.2.1.getD (j-1) jB).1)->
 oc k s.2.2.1 (s.2.2.1.length:Int) j s=some (if(gb (s.2.2.1.drop j) j last).1=0 then .inr () else .inl (gb (s.2.2.1.drop j) j last)):=by
 intro m
 induction m with
 |zero=>
  intro j k last hj hk h0 h1
  obtain⟨k,rfl⟩:∃k',k=k'+1:=⟨k-1,by omega⟩
  rw[oc,rL,zF (by omega),List.drop_eq_nil_of_le (by omega)];rfl
 |succ m ih=>
  intro j k last hj hk h0 h1
  obtain⟨k,rfl⟩:∃k',k=k'+1:=⟨k-1,by omega⟩
  have aw:j<s.2.2.1.length:=by omega
  have p5:=ih (j+1) k (s.2.2.1[j]).1 (by omega) (by omega) (by omega) (fun _=>by
   rw[Nat.add_sub_cancel,List.getD_eq_getElem?_getD,List.getElem?_eq_getElem aw];rfl)
  rw[oc,rL,zT (by omega),zC,nO aw,zL aw,xN,hI,u3 (by omega),List.drop_eq_getElem_cons aw]
  rw[show((j+1:Nat):Int)=(j:Int)+1 from rfl] at p5⊢
  by_cases hc:cK s.2.2.1[j]=0
  ·rw[zT hc]
   simp only[Bool.not_true,zD]
   have ic:=Ba hc
   by_cases hz:j=0
   ·have gC:=h0 hz
    have e:gb (s.2.2.1[j]::s.2.2.1.drop (j+1)) j last=gb (s.2.2.1.drop (j+1)) ((j:Int)+1) (s.2.2.1[j]).1:=by
     rw[gb,if_neg (fun h=>h hc),if_neg (by omega)]
    rw[zF (by omega),zD,e]
    exact p5
   ·have gC:=h1 (by omega)
    have hi:zW zI ((j:Int)-1)=((j-1:Nat):Int):=by rw[BQ (by omega) (by omega)];omega
    rw[zT (by omega),zC,hi,nO (by omega),Int.toNat_natCast]
    by_cases hn:(s.2.2.1[j]).1<=last
    ·have e:gb (s.2.2.1[j]::s.2.2.1.drop (j+1)) j last=(11,(j:Int)):=by
      rw[gb,if_neg (fun h=>h hc),if_pos hn]
     rw[e,zT (by rw[<-gC];exact hn)];rfl
    ·have e:gb (s.2.2.1[j]::s.2.2.1.drop (j+1)) j last=gb (s.2.2.1.drop (j+1)) ((j:Int)+1) (s.2.2.1[j]).1:=by
      rw[gb,if_neg (fun h=>h hc),if_neg hn]
     rw[e,zF (by rw[<-gC];exact hn)]
     exact p5
  ·have e:gb (s.2.2.1[j]::s.2.2.1.drop (j+1)) j last=(cK s.2.2.1[j],(j:Int)):=by
    rw[gb,if_pos hc]
   rw[zF hc,e,if_neg hc];rfl
def pa(x y:Spec):Bool:=decide (x.1=y.1)&&(decide (x.2.1=y.2.1)&&(decide (x.2.2.1=y.2.2.1)&&(decide (x.2.2.2.1=y.2.2.2.1)&&(decide (x.2.2.2.2.1=y.2.2.2.2.1)&&true))))
theorem BD(x y:Spec):pa x y=true↔x=y:=by
 obtain⟨a,b,c,d,e,u⟩:=x
 obtain⟨a',b',c',d',e',u'⟩:=y
 simp [pa]
theorem qI{a b:kv}:a=b↔a.1=b.1/\a.2.1=b.2.1/\a.2.2.1=b.2.2.1:=by
 obtain⟨x,y,z,u⟩:=a
 obtain⟨x',y',z',u'⟩:=b
 simp
instance:DecidableEq kv:=fun a b=>decidable_of_iff _ qI.symm
theorem yJ(a b:kv)(h:a.2.2.1.length<=maxLen):eH a b=some (decide (a=b)):=by
 unfold eH n7
 dsimp only
 by_cases h1:a.1=b.1
 ·rw[zT h1]
  by_cases h2:a.2.1=b.2.1
  ·rw[zT h2]
   by_cases hl:a.2.2.1.length=b.2.2.1.length
   ·rw[zT (by omega)]
    simp only[Bool.not_true,zD]
    rw[Ac jB pa BD a.2.2.1 b.2.2.1 hl h (fun k i=>mY k i a b) (fun k i=>rfl)]
    by_cases e:a.2.2.1=b.2.2.1
    ·simp [qI,h1,h2,e,n9]
    ·simp [qI,h1,h2,e,n8]
   ·rw[zF (by omega)]
    have:¬a=b:=fun e=>hl (by rw[e])
    simp [this]
  ·have:¬a=b:=fun e=>h2 (by rw[e])
   rw[zF h2,zF this];rfl
 ·have:¬a=b:=fun e=>h1 (by rw[e])
  rw[zF h1,zF this];rfl
def rE(l:List Spec)(last:Int):Prop:=(∀x∈l,cK x=0)/\(l.Pairwise fun x y=>x.1<y.1)/\∀x∈l,last<x.1
theorem rE.filter{l:List Spec}{last:Int}(h:rE l last)(p:Spec->Bool):rE (l.filter p) last:=
 ⟨fun x hx=>h.1 x (List.mem_filter.1 hx).1,h.2.1.filter p,fun x hx=>h.2.2 x (List.mem_filter.1 hx).1⟩
def fx(no c n:Int):Spec:=(no,c,1,n,n,())
def oT:List Spec:=[(2,1,2,12,19,()),fx 3 1 6,fx 4 1 12,fx 7 1 10,fx 11 1 6,fx 12 1 6,fx 13 1 4,fx 14 1 4,fx 18 1 4,fx 22 1 3,fx 23 1 3,(32,1,2,1,11,()),(35,4,2,1,37,()),fx 37 3 12,fx 38 3 6,fx 39 3 2,fx 41 4 8,fx 42 4 15,fx 43 4 40,(48,4,3,1,999,()),fx 49 1 3,fx 52 5 8,(55,6,3,1,255,()),fx 64 5 8,fx 70 1 3,fx 90 1 42,(102,4,2,1,28,()),fx 128 5 8]
def p7:List Spec:=[(2,1,2,12,19,()),fx 3 1 6,fx 4 1 12,fx 7 1 10,fx 11 1 6,fx 12 1 12,fx 14 1 4,fx 22 3 12,fx 23 1 3,fx 26 1 4,(32,1,2,1,11,()),(35,4,2,1,37,()),fx 37 3 12,fx 38 3 6,fx 39 1 3,fx 41 4 8,fx 42 4 15,(43,4,2,1,99,()),(48,4,3,1,999,()),fx 49 1 3,fx 52 5 8,(55,6,3,1,255,()),fx 64 5 8,fx 70 1 3,(102,4,2,1,28,()),fx 128 5 8]
def jS:kv:=(1,0,oT,())
def ke:kv:=(2,1,p7,())
theorem xQ:ln=some jS:=by kernel_rfl
theorem yD:lq=some ke:=by kernel_rfl
theorem x6:fL 0=some jS:=by kernel_rfl
theorem x7:fL 1=some ke:=by kernel_rfl
theorem Bt:nk=some true:=by kernel_rfl
def jl(i:Bool):kv:=bif i then ke else jS
theorem of_eq(i:Bool):jk i=some (jl i,jl i):=by
 unfold jk oD
 cases i
 ·simp only[zD,xQ,hI,x6,jl]
 ·simp only[zC,yD,hI,x7,jl]
theorem BA(i:Bool):(jl i).2.2.1.length<=100:=by cases i<;>decide
def mI:Ty:= .pair (.int .i64) (.pair (.int .i64) (.pair (.int .i64) (.pair (.int .i64) (.pair (.int .i64) .unit))))
theorem A9(i:Bool):eH (jl i) (jl i)=some true:=by
 have hl:=BA i
 rw[yJ _ _ (by rw[z53];omega),zT rfl]
theorem df(i:Bool)(n:Int)(x:Spec)(hi:Wf .bool i)(hn:Wf (.int .i64) n)(hx:Wf (mI) x):lD i n x=some true:=by
 unfold lD oC
 rw[of_eq,hI,Bt,hI]
 dsimp only
 simp only[hI,A9,Bool.not_true,zD,decide_true]
 by_cases h0:(0:Int)<=n
 ·by_cases h1:n<((jl i).2.2.1.length:Int)
  ·rw[zT h0,zT h1,zC,zC,yC h0 h1]
  ·rw[zT h0,zF h1,zC,zD]
 ·rw[zF h0,zD]
end bF

namespace Go.Proofs.Ytgkmbijfbdlhkaa
noncomputable section
open Go Go.Ref bF
abbrev y0:Go.Ref.Ty:=(.pair (.int .i64) (.pair (.int .i64) (.pair (.int .i64) .unit)))
abbrev y1:Go.Ref.Ty:=(.pair (.int .i64) y0)
abbrev y2:Go.Ref.Ty:=(.pair (.int .i64) y1)
abbrev y3:Go.Ref.Ty:=(.pair (.sl 28 y2) .unit)
abbrev y4:Go.Ref.Ty:=(.pair (.int .i64) y3)
abbrev y5:Go.Ref.Ty:=(.pair (.int .i64) y4)
def kP:List (Option Ty):=[none,none,some (.int .i64),some (.int .i64),some .bool,some (.int .u8),some (.int .u8),some (.pair (.int .i64) (.pair (.int .i64) (.pair .bool (.pair (.int .u8) .unit)))),some (.pair (.int .i64) (.pair (.int .i64) (.pair .bool (.pair (.int .u8) .unit)))),some .str,some .str,some .str,some (.int .u64),none,none,none,none,none,none,none,none,some (.int .i32),some (.sl 28 y2),some y5,some y5,none,none,some y2,some y2,none,none,none,none,none,none,none,some (.int .u64),some (.pair (.int .u64) (.pair (.int .u64) .unit)),some (.pair (.int .u64) (.pair (.int .u64) .unit)),none,none,none,some (.sl 3 (.int .i64)),none,none,some (.int .i64),none,none,none,none,none,none,none,none,none,none,none,some (.sl 42 (.sl 3 (.int .i64))),none,none,none,none,none,none,none,none,none,some (.int .u32),some (.int .u8),some (.int .u8),none,none,some (.int .i32),some (.int .i32),none,none,none]
def oX:List Nat:=[0,8,8,8,1,1,1,24,24,16,16,16,8,24,24,8,8,8,8,8,16,4,24,40,40,0,8,40,40,0,8,8,8,8,8,8,8,16,16,8,8,8,24,8,8,8,0,8,8,8,8,8,8,8,8,8,8,24,8,8,8,40,40,0,0,0,8,4,1,1,8,8,4,4,48,48,8]
def jz:List Bool:=[false,false,false,false,false,false,false,false,false,false,false,false,false,false,false,true,true,true,false,false,false,false,false,false,false,false,false,false,false,false,false,false,false,false,false,false,false,false,false,false,false,false,false,false,false,false,false,false,false,false,false,false,false,false,false,false,false,false,false,false,false,false,false,false,false,false,false,false,false,false,false,true,false,false,false,false,false]
def nK:List (TypeId×TypeId×TypeId):=[]
def ey:fB:=⟨kP,oX,jz,nK⟩
theorem oI:ey.ok Try.prog=true:=by kernel_rfl
theorem ek:∀a b c d,ae Try.prog (ey.env a b c d):=fB.ef oI
abbrev e0(ps:List Ty):Env:=ey.env (fun _=>[]) (fun _=>[]) [] ps
abbrev uS(n:Nat)(l:List (List SV)):List (List SV):=Nat.rec (motive:=fun _=>List (List SV)) l (fun _ r=>[.undef]::r) n
abbrev nS(n:Nat)(l:List (Option aH)):List (Option aH):=Nat.rec (motive:=fun _=>List (Option aH)) l (fun _ r=>none::r) n
def sw:ax:=ax.none
theorem o0:cm Try.prog sw:= .none (by kernel_rfl)
variable (R:Type) (kk k:Nat) (K:KF R) (J:KX R)
def lv:Env:=ey.env (fun _=>[]) (fun _=>[]) [6] [(.int .i64),(.int .i64),(.int .i64)]
def sz:ax:=sw.add 25 [(.int .i64),(.int .i64),(.int .i64)] (qh (.int .i64) (.int .i64) (.int .i64) bO (fun _ r K=>K [.aj y2 r []] none))
theorem o1:cm Try.prog sz:=tz lv Try.f25 (fun R kk x0 x1 x2 K=>z93 x0 x1 x2 (fun a0=>K [.aj y2 a0 []] none)) o0 (ek _ _ _ _) Try.func25 (by kernel_rfl) rfl (fun _ _ _ _ _ _ h=>h _ _) (fun _ _ _ _ _ _=>by kernel_rfl) fun R kk e x0 x1 x2 K=>by
 simp only[bO,z93,dJ]
def lr:Env:=ey.env (fun _=>[]) (fun _=>[]) [0] []
def sA:ax:=sz.add 17 [] (kJ lq (fun _ r K=>K [.aj y5 r [[2]]] none))
theorem o2:cm Try.prog sA:=mH lr Try.f17 (fun R kk K=>z91 (fun a0=>K [.aj y5 a0 [[2]]] none)) o1 (ek _ _ _ _) Try.func17 (by kernel_rfl) rfl (fun _ _ _ _ _ _ h=>h _ _) (fun _ _ _=>by kernel_rfl) fun R kk e K=>by
 simp only[lq,z91,dJ]
def BM:Env:=e0 []
def nm:ax:=sA.add 27 [] (kJ jN (fun _ r K=>K [.aj (.sl 42 (.sl 3 (.int .i64))) r [[]]] none))
theorem o3:cm Try.prog nm:=mH BM Try.f27 (fun R kk K=>rK (fun a0=>K [.aj (.sl 42 (.sl 3 (.int .i64))) a0 [[]]] none)) o2 (ek _ _ _ _) Try.func27 (by kernel_rfl) rfl (fun _ _ _ _ _ _ h=>h _ _) (fun _ _ _=>by kernel_rfl) fun R kk e K=>by
 simp only[jN,rK,dJ]
def ou:Env:=ey.env (fun i=>bif Nat.beq i 4 then [0,2,3,4,5] else []) (fun i=>bif Nat.beq i 4 then [2,3] else []) [2] [(.int .i64)]
def oa(a:Int)(b:iB)(c:Int)(d e:aN):Option R:=bT (ev ou (nm R) kk (sub [1,1,1,0,1,0,0] (cd Try.f21))) [0,2,3,4,5] [2,3] k ⟨[tI a]::uS 1 ([.ptr 3 y5 []]::[.ptr 4 y5 []]::[.aj (.sl 42 (.sl 3 (.int .i64))) b [[]]]::[tI c]::uS 52 []),nS 3 ((some ⟨y5,d,[[2]]⟩)::(some ⟨y5,e,[[2]]⟩)::nS 54 [])⟩ J
def qN(a b:aN):State:=⟨uS 2 ([.ptr 3 y5 []]::[.ptr 4 y5 []]::uS 54 []),nS 3 ((some ⟨y5,a,[[2]]⟩)::(some ⟨y5,b,[[2]]⟩)::nS 54 [])⟩
def vn:KX R:=(z75 0 (iQ ou (nm R) kk (sub [1,1,1,1] (cd Try.f21)) (iP ou Try.f21.results.toList none K)))
theorem Bl(a:Int)(b:iB)(c:Int)(d e:aN):oa R kk (k+1) J a b c d e=
 rI a b c d e (oa R kk k J) (fun a0 a1=>J (.exit 0) (qN a0 a1)):=by kernel_rfl
theorem yG(a b:aN):vn R kk K (.exit 0) (qN a b)=
 rJ a b (fun a0=>K [.aj y5 a0 [[2]]] none):=by kernel_rfl
theorem At{kk:Nat}(hF:kk=bE)(eC:Int)(t4:iB)(t5:Int)(gq gu:aN):oa R kk k J eC t4 t5 gq gu=(ob k eC t4 t5 gq gu).bind fun e=>J (.exit 0) (qN e.1 e.2):=by
 induction k generalizing eC t4 t5 gq gu with
 |zero=>rfl
 |succ k ih=>
  rw[Bl]
  simp only[ob,rI,ih,dJ]
def sB:ax:=nm.add 21 [(.int .i64)] (mC (.int .i64) fL (fun _ r K=>K [.aj y5 r [[2]]] none))
theorem o4:cm Try.prog sB:=nL ou Try.f21 (fun R kk x0 K=>rH x0 (oa R kk kk (vn R kk K))) o3 (ek _ _ _ _) Try.func21 (by kernel_rfl) rfl (fun _ _ _ _ _ _ h=>h _ _) (fun _ _ _ _=>by kernel_rfl) fun R kk e x0 K=>by
 simp only[fL,rH,rJ,At (hF:=e),yG,dJ,<-e]
def lp:Env:=ey.env (fun _=>[]) (fun _=>[]) [0] []
def sC:ax:=sB.add 16 [] (kJ ln (fun _ r K=>K [.aj y5 r [[2]]] none))
theorem o5:cm Try.prog sC:=mH lp Try.f16 (fun R kk K=>rY (fun a0=>K [.aj y5 a0 [[2]]] none)) o4 (ek _ _ _ _) Try.func16 (by kernel_rfl) rfl (fun _ _ _ _ _ _ h=>h _ _) (fun _ _ _=>by kernel_rfl) fun R kk e K=>by
 simp only[ln,rY,dJ]
def lG:Env:=ey.env (fun _=>[]) (fun _=>[]) [2,3] [.bool]
def nn:ax:=sC.add 7 [.bool] (mC .bool jk (fun _ r K=>K [.aj y5 r.1 [[2]],.aj y5 r.2 [[2]]] none))
theorem o6:cm Try.prog nn:=nL lG Try.f7 (fun R kk x0 K=>oD x0 (fun a0 a1=>K [.aj y5 a0 [[2]],.aj y5 a1 [[2]]] none)) o5 (ek _ _ _ _) Try.func7 (by kernel_rfl) rfl (fun _ _ _ _ _ _ h=>h _ _) (fun _ _ _ _=>by kernel_rfl) fun R kk e x0 K=>by
 simp only[jk,oD,dJ]
def ox:Env:=ey.env (fun i=>bif Nat.beq i 2 then [1,4,9,10,11] else []) (fun i=>bif Nat.beq i 2 then [4,5] else []) [4] [y5,(.int .i64)]
def od(a:Int)(b:gn)(c d:Int)(e:b8):Option R:=bT (ev ox (nn R) kk (sub [1,0,1,0,0] (cd Try.f8))) [1,4,9,10,11] [4,5] k ⟨uS 1 ([tI a]::uS 2 ([.ptr 5 y2 []]::uS 4 ([.aj (.sl 28 y2) b []]::[tI c]::[tI d]::uS 10 []))),nS 5 ((some ⟨y2,e,[]⟩)::nS 17 [])⟩ J
def qO(a:Bool)(b:b8):State:=⟨uS 4 ([.ptr 5 y2 []]::[tB a]::uS 16 []),nS 5 ((some ⟨y2,b,[]⟩)::nS 17 [])⟩
def qP(a:b8):State:=⟨uS 4 ([.ptr 5 y2 []]::uS 17 []),nS 5 ((some ⟨y2,a,[]⟩)::nS 17 [])⟩
def rM:KX R:=(z75 0 (iQ ox (nn R) kk (sub [1,1] (cd Try.f8)) (iP ox Try.f8.results.toList none K)))
theorem Bq(a:Int)(b:gn)(c d:Int)(e:b8):od R kk (k+1) J a b c d e=
 rO a b c d e (fun a0 a1=>J .ret (qO a0 a1)) (od R kk k J) (fun a0=>J (.exit 0) (qP a0)):=by kernel_rfl
theorem yH(a:Bool)(b:b8):rM R kk K .ret (qO a b)=
 rP a b (fun a0 a1=>K [.aj y2 a0 [],tB a1] none):=by kernel_rfl
theorem yI(a:b8):rM R kk K (.exit 0) (qP a)=
 rQ a (fun a0 a1=>K [.aj y2 a0 [],tB a1] none):=by kernel_rfl
theorem Au{kk:Nat}(hF:kk=bE)(kg:Int)(t9:gn)(t10 t11:Int)(oW:b8):od R kk k J kg t9 t10 t11 oW=(oe k kg t9 t10 t11 oW).bind fun e=>(Sum.elim (fun(we:(Bool×b8))=>J .ret (qO we.1 we.2)) (fun(we:b8)=>J (.exit 0) (qP we)) e):=by
 induction k generalizing kg t9 t10 t11 oW with
 |zero=>rfl
 |succ k ih=>
  rw[Bq]
  simp only[oe,rO,ih,dJ]
def sD:ax:=nn.add 8 [y5,(.int .i64)] (ki y5 (.int .i64) jO (fun _ r K=>K [.aj y2 r.1 [],tB r.2] none))
theorem o7:cm Try.prog sD:=kO ox Try.f8 (fun R kk x0 x1 K=>rN x0 x1 (od R kk kk (rM R kk K))) o6 (ek _ _ _ _) Try.func8 (by kernel_rfl) rfl (fun _ _ _ _ _ _ h=>h _ _) (fun _ _ _ _ _=>by kernel_rfl) fun R kk e x0 x1 K=>by
 simp only[jO,rN,rP,rQ,Au (hF:=e),yH,yI,dJ,<-e]
def lC:Env:=ey.env (fun _=>[]) (fun _=>[]) [2] [(.int .i64)]
def sE:ax:=sD.add 24 [(.int .i64)] (mC (.int .i64) nj (fun _ r K=>K [.aj (.pair (.int .u64) (.pair (.int .u64) .unit)) r []] none))
theorem o8:cm Try.prog sE:=nL lC Try.f24 (fun R kk x0 K=>sk x0 (fun a0=>K [.aj (.pair (.int .u64) (.pair (.int .u64) .unit)) a0 []] none)) o7 (ek _ _ _ _) Try.func24 (by kernel_rfl) rfl (fun _ _ _ _ _ _ h=>h _ _) (fun _ _ _ _=>by kernel_rfl) fun R kk e x0 K=>by
 simp only[nj,sk,dJ]
def lz:Env:=ey.env (fun _=>[]) (fun _=>[]) [4] [(.pair (.int .u64) (.pair (.int .u64) .unit)),(.pair (.int .u64) (.pair (.int .u64) .unit))]
def sF:ax:=sE.add 31 [(.pair (.int .u64) (.pair (.int .u64) .unit)),(.pair (.int .u64) (.pair (.int .u64) .unit))] (ki (.pair (.int .u64) (.pair (.int .u64) .unit)) (.pair (.int .u64) (.pair (.int .u64) .unit)) oP (fun _ r K=>K [.aj (.pair (.int .u64) (.pair (.int .u64) .unit)) r []] none))
theorem o9:cm Try.prog sF:=kO lz Try.f31 (fun R kk x0 x1 K=>sg x0 x1 (fun a0=>K [.aj (.pair (.int .u64) (.pair (.int .u64) .unit)) a0 []] none)) o8 (ek _ _ _ _) Try.func31 (by kernel_rfl) rfl (fun _ _ _ _ _ _ h=>h _ _) (fun _ _ _ _ _=>by kernel_rfl) fun R kk e x0 x1 K=>by
 simp only[oP,sg,dJ]
def lB:Env:=ey.env (fun _=>[]) (fun _=>[]) [4] [(.pair (.int .u64) (.pair (.int .u64) .unit)),(.int .i64)]
def iz:ax:=sF.add 28 [(.pair (.int .u64) (.pair (.int .u64) .unit)),(.int .i64)] (ki (.pair (.int .u64) (.pair (.int .u64) .unit)) (.int .i64) oQ (fun _ r K=>K [.aj (.pair (.int .u64) (.pair (.int .u64) .unit)) r []] none))
theorem qb:cm Try.prog iz:=kO lB Try.f28 (fun R kk x0 x1 K=>sj x0 x1 (fun a0=>K [.aj (.pair (.int .u64) (.pair (.int .u64) .unit)) a0 []] none)) o9 (ek _ _ _ _) Try.func28 (by kernel_rfl) rfl (fun _ _ _ _ _ _ h=>h _ _) (fun _ _ _ _ _=>by kernel_rfl) fun R kk e x0 x1 K=>by
 simp only[oQ,sj,dJ]
def fA:Env:=ey.env (fun i=>bif Nat.beq i 3 then [2,3,6,7,8] else []) (fun i=>bif Nat.beq i 3 then [2,3] else []) [2] [(.sl 3 (.int .i64))]
def oz(a:(List Int))(b c:Int)(d e:b4):Option R:=bT (ev fA (iz R) kk (sub [1,1,0,1,0,0] (cd Try.f22))) [2,3,6,7,8] [2,3] k ⟨uS 2 ([.ptr 3 (.pair (.int .u64) (.pair (.int .u64) .unit)) []]::[.ptr 4 (.pair (.int .u64) (.pair (.int .u64) .unit)) []]::uS 2 ([.aj (.sl 3 (.int .i64)) a []]::[tI b]::[tI c]::uS 8 [])),nS 3 ((some ⟨(.pair (.int .u64) (.pair (.int .u64) .unit)),d,[]⟩)::(some ⟨(.pair (.int .u64) (.pair (.int .u64) .unit)),e,[]⟩)::nS 13 [])⟩ J
def q6(a b:b4):State:=⟨uS 2 ([.ptr 3 (.pair (.int .u64) (.pair (.int .u64) .unit)) []]::[.ptr 4 (.pair (.int .u64) (.pair (.int .u64) .unit)) []]::uS 13 []),nS 3 ((some ⟨(.pair (.int .u64) (.pair (.int .u64) .unit)),a,[]⟩)::(some ⟨(.pair (.int .u64) (.pair (.int .u64) .unit)),b,[]⟩)::nS 13 [])⟩
def vI:KX R:=(z75 0 (iQ fA (iz R) kk (sub [1,1,1] (cd Try.f22)) (iP fA Try.f22.results.toList none K)))
theorem BN(a:(List Int))(b c:Int)(d e:b4):oz R kk (k+1) J a b c d e=
 sd a b c d e (oz R kk k J) (fun a0 a1=>J (.exit 0) (q6 a0 a1)):=by kernel_rfl
theorem Av(a b:b4):vI R kk K (.exit 0) (q6 a b)=
 se a b (fun a0=>K [.aj (.pair (.int .u64) (.pair (.int .u64) .unit)) a0 []] none):=by kernel_rfl
theorem Br{kk:Nat}(hF:kk=bE)(t6:(List Int))(t7 t8:Int)(gq gu:b4):oz R kk k J t6 t7 t8 gq gu=(oB k t6 t7 t8 gq gu).bind fun e=>J (.exit 0) (q6 e.1 e.2):=by
 induction k generalizing t6 t7 t8 gq gu with
 |zero=>rfl
 |succ k ih=>
  rw[BN]
  simp only[oB,sd,ih,dJ]
def lH:ax:=iz.add 22 [(.sl 3 (.int .i64))] (mC (.sl 3 (.int .i64)) oN (fun _ r K=>K [.aj (.pair (.int .u64) (.pair (.int .u64) .unit)) r []] none))
theorem qc:cm Try.prog lH:=nL fA Try.f22 (fun R kk x0 K=>sc x0 (oz R kk kk (vI R kk K))) qb (ek _ _ _ _) Try.func22 (by kernel_rfl) rfl (fun _ _ _ _ _ _ h=>h _ _) (fun _ _ _ _=>by kernel_rfl) fun R kk e x0 K=>by
 simp only[oN,sc,se,Br (hF:=e),Av,dJ,<-e]
def lu:Env:=ey.env (fun _=>[]) (fun _=>[]) [0] []
def lI:ax:=lH.add 12 [] (kJ nh (fun _ r K=>K [.aj (.pair (.int .u64) (.pair (.int .u64) .unit)) r []] none))
theorem qd:cm Try.prog lI:=mH lu Try.f12 (fun R kk K=>rZ (fun a0=>K [.aj (.pair (.int .u64) (.pair (.int .u64) .unit)) a0 []] none)) qc (ek _ _ _ _) Try.func12 (by kernel_rfl) rfl (fun _ _ _ _ _ _ h=>h _ _) (fun _ _ _=>by kernel_rfl) fun R kk e K=>by
 simp only[nh,rZ,dJ]
def ly:Env:=ey.env (fun _=>[]) (fun _=>[]) [4] [(.pair (.int .u64) (.pair (.int .u64) .unit)),(.pair (.int .u64) (.pair (.int .u64) .unit))]
def lJ:ax:=lI.add 23 [(.pair (.int .u64) (.pair (.int .u64) .unit)),(.pair (.int .u64) (.pair (.int .u64) .unit))] (ki (.pair (.int .u64) (.pair (.int .u64) .unit)) (.pair (.int .u64) (.pair (.int .u64) .unit)) oO (fun _ r K=>K [.aj (.pair (.int .u64) (.pair (.int .u64) .unit)) r []] none))
theorem qe:cm Try.prog lJ:=kO ly Try.f23 (fun R kk x0 x1 K=>sf x0 x1 (fun a0=>K [.aj (.pair (.int .u64) (.pair (.int .u64) .unit)) a0 []] none)) qd (ek _ _ _ _) Try.func23 (by kernel_rfl) rfl (fun _ _ _ _ _ _ h=>h _ _) (fun _ _ _ _ _=>by kernel_rfl) fun R kk e x0 x1 K=>by
 simp only[oO,sf,dJ]
def lA:Env:=e0 [(.pair (.int .u64) (.pair (.int .u64) .unit)),(.int .i64)]
def lK:ax:=lJ.add 13 [(.pair (.int .u64) (.pair (.int .u64) .unit)),(.int .i64)] (ki (.pair (.int .u64) (.pair (.int .u64) .unit)) (.int .i64) ni (fun _ r K=>K [tB r] none))
theorem xe:cm Try.prog lK:=kO lA Try.f13 (fun R kk x0 x1 K=>si x0 x1 (fun a0=>K [tB a0] none)) qe (ek _ _ _ _) Try.func13 (by kernel_rfl) rfl (fun _ _ _ _ _ _ h=>h _ _) (fun _ _ _ _ _=>by kernel_rfl) fun R kk e x0 x1 K=>by
 simp only[ni,si,dJ]
def lF:Env:=e0 []
def iA:ax:=lK.add 10 [] (kJ nk (fun _ r K=>K [tB r] none))
theorem xf:cm Try.prog iA:=mH lF Try.f10 (fun R kk K=>sm (fun a0=>K [tB a0] none)) xe (ek _ _ _ _) Try.func10 (by kernel_rfl) rfl (fun _ _ _ _ _ _ h=>h _ _) (fun _ _ _=>by kernel_rfl) fun R kk e K=>by
 simp only[nk,sm,dJ]
def ot:Env:=ey.env (fun i=>bif Nat.beq i 4 then [2,3,5] else []) (fun i=>bif Nat.beq i 4 then [4] else []) [] [y5,y5]
def n6(a:Int)(b c:aN):Option R:=bT (ev ot (iA R) kk (sub [1,1,0,1,0,0] (cd Try.f11))) [2,3,5] [4] k ⟨uS 2 ([.ptr 3 y5 []]::[.ptr 4 y5 []]::uS 1 ([tI a]::uS 39 [])),nS 3 ((some ⟨y5,b,[]⟩)::(some ⟨y5,c,[]⟩)::nS 41 [])⟩ J
def qL(a:Bool):State:=⟨uS 4 ([tB a]::uS 40 []),nS 46 []⟩
def qM:State:=⟨uS 45 [],nS 46 []⟩
def rF:KX R:=(z75 0 (iQ ot (iA R) kk (sub [1,1,1] (cd Try.f11)) (iP ot Try.f11.results.toList none K)))
theorem Bk(a:Int)(b c:aN):n6 R kk (k+1) J a b c=
 rG a b c (fun a0=>J .ret (qL a0)) (n6 R kk k J) (J (.exit 0) (qM)):=by kernel_rfl
theorem yE(a:Bool):rF R kk K .ret (qL a)=
 n8 a (fun a0=>K [tB a0] none):=by kernel_rfl
theorem yF:rF R kk K (.exit 0) (qM)=
 n9 (fun a0=>K [tB a0] none):=by kernel_rfl
theorem As{kk:Nat}(hF:kk=bE)(t5:Int)(gq gu:aN):n6 R kk k J t5 gq gu=(mY k t5 gq gu).bind fun e=>(Sum.elim (fun(we:Bool)=>J .ret (qL we)) (fun(we:Unit)=>J (.exit 0) (qM)) e):=by
 induction k generalizing t5 gq gu with
 |zero=>rfl
 |succ k ih=>
  rw[Bk]
  simp only[mY,rG,ih,dJ]
def lL:ax:=iA.add 11 [y5,y5] (ki y5 y5 eH (fun _ r K=>K [tB r] none))
theorem xg:cm Try.prog lL:=kO ot Try.f11 (fun R kk x0 x1 K=>n7 x0 x1 (fun a0=>K [tB a0] none) (n6 R kk kk (rF R kk K))) xf (ek _ _ _ _) Try.func11 (by kernel_rfl) rfl (fun _ _ _ _ _ _ h=>h _ _) (fun _ _ _ _ _=>by kernel_rfl) fun R kk e x0 x1 K=>by
 simp only[eH,n7,n8,n9,As (hF:=e),yE,yF,dJ,<-e]
def lE:Env:={e0 [.bool,(.int .i64),y2] with sp:=some (5,37,40,0)}
def lM:ax:=lL.add 4 [.bool,(.int .i64),y2] (qh .bool (.int .i64) y2 lD (fun _ r K=>K [tB r] none))
theorem xh:cm Try.prog lM:=tz lE Try.f4 (fun R kk x0 x1 x2 K=>oC x0 x1 x2 (fun a0=>K [tB a0] none)) xg ((ek _ _ _ _).sp _) Try.func4 (by kernel_rfl) rfl (fun _ _ _ _ _ _ h=>h _ _) (fun _ _ _ _ _ _=>by kernel_rfl) fun R kk e x0 x1 x2 K=>by
 simp only[lD,oC,dJ]
end
end Go.Proofs.Ytgkmbijfbdlhkaa

