/- No condition. -/
import Derived.Test.YtjlgmoneaehejaaK0
import Derived.OpenShut
import Derived.Deep.Slices
import Derived.Shelf.Strings.Repeat
import Derived.KernelRfl
import Derived.Test.YtjlgmoneaehejaaProg
set_option linter.unusedVariables false
set_option linter.unusedSimpArgs false
set_option maxRecDepth 100000
namespace Go.Ref
open Go
variable {P:Program} {E:Env} {X:ah} {s:State} {a:Act} {o:Oper} {u:Out}
structure gk(X:ah)(l:List SV)(b:Option aI)(args:Array Value):Prop where
 size:args.size=l.length
 rep:∀(i:Nat) sv v,l[i]? =some sv->args[i]? =some v->ai X (.c i 0) sv v
 ptr:∀id t p,SV.ptr id t p∈l->id=0/\b.isSome=true
 box:∀B,b=some B->∃r,X.β 0=some r/\aH X 0 r B
 rows:b=none->∀g pl n,X.ow g≠ .row pl n
def jm(X Y:ah)(b:Option aI)(r:List SV)(b':Option aI)(v:Value):Prop:=
 ∃r0,bm {Y with β:=fun _=>some r0} .r r v/\
  (∀B',b'=some B'->aH Y 0 r0 B'/\(b.isSome=true->X.β 0=some r0))/\
  ((b'=none\/b.isSome=true)->∀id t p,SV.ptr id t p∉r)
def ll(P:Program)(f:FuncId):Prop:=∃fn c,P.funcs[f]? =some fn/\(fn.name== "runtime.NumGoroutine")=false/\fn.body=some c
def bW(P:Program)(C:ay)(f:FuncId):Prop:=
 ∀(l:List SV) (b:Option aI) (r:List SV) (b':Option aI),C (List SV×Option aI) f l b (fun r b=>some (r,b))=some (r,b')->ll P f/\
  ∀(X:ah) (args:Array Value),gk X l b args->Calls P f args X.w fun e w'=>match e with
   | .returned v=>∃Y,Y.w=w'/\Ext X Y/\jm X Y b r b' v
   |_=>False
def di(k:Option Nat):Ow->Bool
 | .box id=>decide (k=some id)
 | .row (.b id _) _=>decide (k=some id)
 |_=>false
def cH(k:Option Nat):Ow->Ow
 | .all=> .all
 | .ro n=> .ro n
 | .box id=>if k=some id then .box 0 else .ro 0
 | .row (.b id p) n=>if k=some id then .row (.b 0 p) n else .ro n
 | .row _ n=> .ro n
def cZ(k:Option Nat)(d:Nat):Ow->Ow
 | .all=> .all
 | .ro n=> .ro n
 | .box 0=>match k with
   |some id=> .box id
   |none=> .ro 0
 | .box _=> .ro 0
 | .row (.r j p) n=> .row (.c d j p) n
 | .row (.b 0 p) n=>match k with
   |some id=> .row (.b id p) n
   |none=> .ro n
 | .row _ n=> .ro n
theorem uf{k:Option Nat}{w:Ow}{i:Nat}:(cH k w).used i↔w.used i:=by
 cases w with
 |all=>rfl
 |ro n=>rfl
 |box id=>simp only[cH];split<;>simp [Ow.used]
 |row pl n=>
  cases pl with
  |b id p=>simp only[cH];split<;>simp [Ow.used]
  |_=>rfl
theorem ya{k:Option Nat}{d:Nat}{w:Ow}{i:Nat}(h:w.used i):(cZ k d w).used i:=by
 cases w with
 |all=>exact h
 |ro n=>exact h
 |box id=>exact h.elim
 |row pl n=>
  cases pl with
  |b id p=>
   cases id with
   |zero=>simp only[cZ];split<;>exact h
   |succ id=>exact h
  |c i j p=>exact h
  |r j p=>exact h
theorem tM{k:Option Nat}{w:Ow}(h:di k w=false):(cH k w).still:=by
 cases w with
 |all=>trivial
 |ro n=>trivial
 |box id=>simp only[di,decide_eq_false_iff_not] at h;simp only[cH];rw[if_neg h];trivial
 |row pl n=>
  cases pl with
  |b id p=>simp only[di,decide_eq_false_iff_not] at h;simp only[cH];rw[if_neg h];trivial
  |_=>trivial
def ah.bg(X:ah)(k:Option Nat):ah:=⟨X.w,fun g=>cH k (X.ow g),match k with
 |some id=>fun _=>X.β id
 |none=>X.β⟩
theorem ig{k:Option Nat}{ad:Addr}{v:Value}:(X.bg k).aj ad v↔X.aj ad v:=by
 simp only[ah.aj,ah.bg,uf]
def ah.back(X Y:ah)(k k':Option Nat)(d:Nat)(β:Nat->Option Nat):ah:=
 ⟨Y.w,fun g=>if g<X.w.heap.size/\di k (X.ow g)=false then X.ow g else cZ k' d (Y.ow g),β⟩
section
variable {k k':Option Nat} {d:Nat} {β:Nat->Option Nat} {Y:ah}
theorem kX(h:Ext (X.bg k) Y){g:Nat}(hg:g<X.w.heap.size)(hm:di k (X.ow g)=false):(X.back Y k k' d β).ow g=X.ow g/\(X.back Y k k' d β).w.heap[g]? =X.w.heap[g]? /\(Y.ow g).still/\Y.ow g=cH k (X.ow g):=by
 obtain⟨h1,h2⟩:=h.still g hg (tM hm)
 refine⟨by simp only[ah.back];rw[if_pos ⟨hg,hm⟩],h2,?_,h1⟩
 rw[h1];exact tM hm
theorem z46(h:Ext (X.bg k) Y){g:Nat}(hs:¬(Y.ow g).still):(X.back Y k k' d β).ow g=cZ k' d (Y.ow g):=by
 simp only[ah.back]
 rw[if_neg]
 rintro⟨hg,hm⟩
 exact hs (kX (k':=k') (d:=d) (β:=β) h hg hm).2.2.1
theorem zz(h:Ext (X.bg k) Y){ad:Addr}{v:Value}(hs:Y.aj ad v):(X.back Y k k' d β).aj ad v:=by
 refine⟨hs.1,hs.2.1,?_⟩
 simp only[ah.back]
 split
 ·rename_i hc
  have:=(kX (k':=k') (d:=d) (β:=β) h hc.1 hc.2).2.2.2
  have hu:=hs.2.2
  rw[this,uf] at hu
  exact hu
 ·exact ya hs.2.2
theorem qP(h:Ext (X.bg k) Y)(hβ:β 0=X.β 0):Ext X (X.back Y k k' d β) where
 aj:=fun ad v hs=>zz h (h.aj ad v (ig.2 hs))
 size:=h.size
 os:=h.os
 tape:=h.tape
 output:=h.output
 β0:=hβ
 still:=fun g hg bp=>by
  have hm:di k (X.ow g)=false:=by cases hx:X.ow g<;>rw[hx] at bp<;>first|rfl|exact bp.elim
  obtain⟨h1,h2,_⟩:=kX (k':=k') (d:=d) (β:=β) h hg hm
  exact⟨h1,h2⟩
theorem aE.back(h:Ext (X.bg k) Y){pl:Place}(dm:∀n,di k (.row pl n)=false){e:TypeId}{m n:Nat}{v:Value}(ho:aE X pl e m n v):aE (X.back Y k k' d β) pl e m n v:=by
 rcases ho with ho|⟨g,cap,cur,h1,h2,h3,h4,h5,h6⟩
 ·exact .inl ho
 ·obtain⟨k1,k2,_⟩:=kX (k':=k') (d:=d) (β:=β) h (lf h2) (by rw[h6];exact dm _)
  exact .inr ⟨g,cap,cur,h1,k2.trans h2,h3,h4,h5,k1.trans h6⟩
theorem aD.back(h:Ext (X.bg k) Y){pl:List Nat->Place}(dm:∀p n,di k (.row (pl p) n)=false){t:Ty}{x:El t}{cs:List Value}{own:List (List Nat)}(ho:aD X pl t x cs own):aD (X.back Y k k' d β) pl t x cs own:=fun p hp=>by
 obtain⟨e,t',xs,v,g0,g1,g2,g3⟩:=ho p hp
 exact⟨e,t',xs,v,g0,g1,g2,g3.back h (dm p)⟩
theorem aD.out(h:Ext (X.bg k) Y){pl dj:List Nat->Place}(dm:∀p n,cZ k' d (.row (pl p) n)= .row (dj p) n){t:Ty}{x:El t}{cs:List Value}{own:List (List Nat)}(ho:aD Y pl t x cs own):aD (X.back Y k k' d β) dj t x cs own:=fun p hp=>by
 obtain⟨e,t',xs,v,g0,g1,g2,g3⟩:=ho p hp
 refine⟨e,t',xs,v,g0,g1,g2,?_⟩
 rcases g3 with ho|⟨g,cap,cur,h1,h2,h3,h4,h5,h6⟩
 ·exact .inl ho
 ·refine .inr ⟨g,cap,cur,h1,h2,h3,h4,h5,?_⟩
  rw[z46 h (by rw[h6];exact fun e=>e),h6,dm]
theorem ai.back(h:Ext (X.bg k) Y){i j:Nat}{sv:SV}{v:Value}(hβ:∀id t p,sv= .ptr id t p->β id=X.β id)(hr:ai X (.c i j) sv v):ai (X.back Y k k' d β) (.c i j) sv v:=by
 cases sv with
 |undef=>trivial
 |skip=>exact hr
 |bc=>exact hr
 |cK=>exact hr
 |over=>exact hr
 |al t x own=>
  obtain⟨cs,h1,h2,h3⟩:=hr
  exact⟨cs,h1.af (fun _ _ hs=>zz h (h.aj _ _ (ig.2 hs))),h2,h3.back h (fun _ _=>rfl)⟩
 |ptr id t p=>
  obtain⟨r,h1,h2⟩:=hr
  exact⟨r,(hβ id t p rfl).trans h1,h2⟩
 |view t x=>
  obtain⟨ad,cs,h1,h2,h3,h4⟩:=hr
  exact⟨ad,cs,h1,h2,h3.af (fun _ _ hs=>zz h (h.aj _ _ (ig.2 hs))),fun i u hi=>zz h (h.aj _ _ (ig.2 (h4 i u hi)))⟩
 |cap f t x u y=>exact ii (fun _ _ hs=>zz h (h.aj _ _ (ig.2 hs))) hr
theorem aH.back(h:Ext (X.bg k) Y){id r:Nat}{B:aI}(hk:k≠some id)(hb:aH X id r B):aH (X.back Y k k' d β) id r B:=by
 obtain⟨h3,h1⟩:=hb
 have hm:di k (X.ow r)=false:=by rw[h3];simp [di,hk]
 obtain⟨k1,k2,_⟩:=kX (k':=k') (d:=d) (β:=β) h h1.lt hm
 exact⟨k1.trans h3,h1.move (fun _ _ hs=>zz h (h.aj _ _ (ig.2 hs))) k2 (fun cs h4=>h4.back h (fun _ _=>by simp [di,hk])) fun _ g o ho hw=>by
  obtain⟨e1,e2,_⟩:=kX (k':=k') (d:=d) (β:=β) h (lf ho) (by rw[hw];simp [di,hk])
  exact⟨e2.trans ho,e1.trans hw⟩⟩
theorem aH.out(h:Ext (X.bg k) Y){id r:Nat}{B:aI}(hk:k'=some id)(hb:aH Y 0 r B):aH (X.back Y k k' d β) id r B:=by
 obtain⟨h3,h1⟩:=hb
 refine⟨?_,h1.move (fun _ _ hs=>zz h hs) rfl (fun cs h4=>h4.out h (fun p n=>by simp [cZ,hk])) fun _ g o ho hw=>⟨ho,by rw[z46 h (by rw[hw];exact fun hh=>hh),hw];simp [cZ,hk]⟩⟩
 rw[z46 h (by rw[h3];exact fun e=>e),h3]
 simp [cZ,hk]
theorem ai.out(h:Ext (X.bg k) Y){r0 id j:Nat}{sv:SV}{v:Value}(hβ:∀aS t p,sv= .ptr aS t p->β id=some r0)(hr:ai {Y with β:=fun _=>some r0} (.r j) sv v):ai (X.back Y k k' d β) (.c d j) (sv.cM id) v:=by
 cases sv with
 |undef=>trivial
 |skip=>exact hr
 |bc=>exact hr
 |cK=>exact hr
 |over=>exact hr
 |al t x own=>
  obtain⟨cs,h1,h2,h3⟩:=hr
  have h3:aD Y (.r j) t x cs own:=h3
  exact⟨cs,aA.af (fun ad v (hs:({Y with β:=fun _=>some r0}:ah).aj ad v)=>zz (Y:=Y) h hs) h1,h2,h3.out h (fun _ _=>rfl)⟩
 |ptr aS t p=>
  obtain⟨r,h1,h2⟩:=hr
  have h1:some r0=some r:=h1
  cases h1
  exact⟨r0,hβ aS t p rfl,h2⟩
 |view t x=>
  obtain⟨ad,cs,h1,h2,h3,h4⟩:=hr
  exact⟨ad,cs,h1,h2,aA.af (fun ad v (hs:({Y with β:=fun _=>some r0}:ah).aj ad v)=>zz (Y:=Y) h hs) h3,fun i u hi=>zz h (show Y.aj _ _ from h4 i u hi)⟩
 |cap f t x u y=>exact ii (X:={Y with β:=fun _=>some r0}) (fun ad v (hs:({Y with β:=fun _=>some r0}:ah).aj ad v)=>zz (Y:=Y) h hs) hr
theorem Rel.back(h:Ext (X.bg k) Y)(hr:Rel X s a)(hβ:∀(id:Nat) B,s.bs[id]? =some (some B)->β id=X.β id)(hk:∀(id:Nat) B,s.bs[id]? =some (some B)->k≠some id):Rel (X.back Y k k' d β) s a where
 size:=hr.size
 cN:=hr.cN
 aM:=fun i l v hl hv=>(hr.aM i l v hl hv).dJ fun j sv u hm dH=>dH.back h (fun id t p e=>by
  obtain⟨B,hB⟩:=hr.live i l id t p hl (e▸List.mem_of_getElem? hm)
  exact hβ id B hB)
 boxes:=fun id B hB=>by
  obtain⟨r,h1,h2⟩:=hr.boxes id B hB
  exact⟨r,(hβ id B hB).trans h1,h2.back h (hk id B hB)⟩
 live:=hr.live
 defers:=hr.defers
theorem Rel.iB(h:Ext (X.bg k) Y)(hr:Rel X s a){id r:Nat}{B B':aI}(hb:s.bs[id]? =some (some B))(hk:k=some id)(lW:k'=some id)(hβ:X.β id=some r)(hB:aH Y 0 r B'):Rel (X.back Y k k' d X.β) (s.ap (some (id,B'))) a where
 size:=hr.size
 cN:=by simpa [State.ap] using hr.cN
 aM:=fun i l v hl hv=>(hr.aM i l v hl hv).dJ fun j sv u hm dH=>dH.back h (fun _ _ _ _=>rfl)
 boxes:=fun aS B2 bD=>by
  have aw:id<s.bs.length:=(List.getElem?_eq_some_iff.1 hb).1
  simp only[State.ap,List.getElem?_set] at bD
  by_cases e:id=aS
  ·subst e
   rw[if_pos rfl,if_pos aw] at bD
   cases bD;exact⟨r,hβ,hB.out h lW⟩
  ·rw[if_neg e] at bD
   obtain⟨r',h1,h2⟩:=hr.boxes aS B2 bD
   exact⟨r',h1,h2.back h (by rw[hk];intro e2;cases e2;exact e rfl)⟩
 live:=fun i l aS t p hi hm=>by
  have aw:id<s.bs.length:=(List.getElem?_eq_some_iff.1 hb).1
  obtain⟨B2,bD⟩:=hr.live i l aS t p hi hm
  simp only[State.ap,List.getElem?_set]
  by_cases e:id=aS
  ·subst e;exact⟨B',by rw[if_pos rfl,if_pos aw]⟩
  ·rw[if_neg e];exact⟨B2,bD⟩
 defers:=hr.defers
end
theorem ai.bg{k:Option Nat}{pl dj:List Nat->Place}{t:Ty}{x:El t}{w:List (List Nat)}{v:Value}(hr:ai X pl (.al t x w) v):ai (X.bg k) dj (.al t x []) v:=by
 obtain⟨cs,h1,h2,_⟩:=hr
 exact⟨cs,h1.af (fun _ _=>ig.2),h2,zr⟩
theorem aH.bg{id r:Nat}{B:aI}(hb:aH X id r B):aH (X.bg (some id)) 0 r B:=by
 obtain⟨h3,h1⟩:=hb
 refine⟨by simp [ah.bg,h3,cH],h1.move (fun _ _=>ig.2) rfl (fun cs h4 p hp=> ?_) fun _ g o ho hw=>⟨ho,by simp [ah.bg,hw,cH]⟩⟩
 obtain⟨e,t',xs,v,g0,g1,g2,g3⟩:=h4 p hp
 refine⟨e,t',xs,v,g0,g1,g2,?_⟩
 rcases g3 with ho|⟨g,cap,cur,k1,k2,k3,k4,k5,k6⟩
 ·exact .inl ho
 ·exact .inr ⟨g,cap,cur,k1,k2,k3,k4,k5,by simp [ah.bg,k6,cH]⟩
theorem uF(hr:Rel X s a):∀(vs:List (SV×Value)) (l:List SV) (b:Option (Nat×aI)),(∀x∈vs,∃q,ai X q x.1 x.2)->zy s (vs.map (·.1))=some (l,b)->l.length=vs.length/\
 (∀id B,b=some (id,B)->s.bs[id]? =some (some B))/\
 (∀id t p,SV.ptr id t p∈l->id=0/\b.isSome=true)/\
 ∀k,(∀id B,b=some (id,B)->k=some id)->∀(i:Nat) sv x,l[i]? =some sv->vs[i]? =some x->∀q,ai (X.bg k) q sv x.2:=by
 intro vs
 induction vs with
 |nil=>
  intro l b _ h
  simp only[List.map_nil,zy,Option.some.injEq,Prod.mk.injEq] at h
  obtain⟨rfl,rfl⟩:=h
  refine⟨rfl,(fun id B e=>by cases e),(fun id t p hm=>by cases hm),fun k _ i sv x hl=>by simp at hl⟩
 |cons x r ih=>
  intro l b gJ h
  simp only[List.map_cons,zy] at h
  split at h
  ·cases h
  rename_i l1 b1 h1
  obtain⟨i1,i2,i3,i4⟩:=ih l1 b1 (fun y hy=>gJ y (List.mem_cons_of_mem _ hy)) h1
  obtain⟨q0,hx⟩:=gJ x List.mem_cons_self
  have fin:∀(sv:SV),l=sv::l1->(∀id B,b1=some (id,B)->b=b1)->(∀id B,b=some (id,B)->s.bs[id]? =some (some B))->(∀id t p,sv= .ptr id t p->id=0/\b.isSome=true)->
   (∀k,(∀id B,b=some (id,B)->k=some id)->∀q,ai (X.bg k) q sv x.2)->l.length=(x::r).length/\
   (∀id B,b=some (id,B)->s.bs[id]? =some (some B))/\
   (∀id t p,SV.ptr id t p∈l->id=0/\b.isSome=true)/\
   ∀k,(∀id B,b=some (id,B)->k=some id)->∀(i:Nat) sv y,l[i]? =some sv->(x::r)[i]? =some y->∀q,ai (X.bg k) q sv y.2:=by
   intro sv hl hb aU bu av
   subst hl
   refine⟨by simp [i1],aU,fun id t p hm=> ?_,fun k hk i xa y hl hv=> ?_⟩
   ·rcases List.mem_cons.1 hm with e|hm
    ·exact bu id t p e.symm
    ·obtain⟨j1,j2⟩:=i3 id t p hm
     cases nk:b1 with
     |none=>rw[nk] at j2;cases j2
     |some bb=>rw[hb bb.1 bb.2 nk];exact⟨j1,j2⟩
   ·cases i with
    |zero=>
     simp only[List.getElem?_cons_zero,Option.some.injEq] at hl hv
     subst hl hv
     exact av k hk
    |succ i=>
     simp only[List.getElem?_cons_succ] at hl hv
     exact i4 k (fun id B e=>hk id B (by rw[hb id B e];exact e)) i xa y hl hv
  obtain⟨x1,x2⟩:=x
  simp only at h hx fin
  split at h
  ·cases h
   exact fin _ rfl (fun _ _ _=>rfl) i2 (fun _ _ _ e=>by cases e) (fun k _ q=>hx.bg)
  ·cases h
   exact fin _ rfl (fun _ _ _=>rfl) i2 (fun _ _ _ e=>by cases e) (fun k _ q=>hx)
  ·cases h
   refine fin _ rfl (fun _ _ _=>rfl) i2 (fun _ _ _ e=>by cases e) (fun k _ q=> ?_)
   obtain⟨ad,cs,g1,g2,g3,g4⟩:=hx
   exact⟨ad,cs,g1,g2,g3.af (fun _ _=>ig.2),fun i w hi=>ig.2 (g4 i w hi)⟩
  ·rename_i id t
   split at h
   case h_2=>cases h
   rename_i B hB
   split at h
   case isFalse=>cases h
   cases h
   obtain⟨rr,g1,g2⟩:=hx
   refine fin _ rfl (fun _ _ e=>by cases e) (fun id B e=>by cases e;exact gi hB) (fun _ _ _ e=>by cases e;exact⟨rfl,rfl⟩) (fun k hk q=> ?_)
   have:=hk id B rfl
   subst this
   exact⟨rr,g1,g2⟩
  ·cases h
def ef(P:Program)(X:ah)(s:State)(a:Act)(o:Oper)(u:Out):Prop:=
 ∀(next:Act->World->Prop) (Q:Exit->Act->World->Prop),(∀Y v,Ext X Y->Rel Y (s.apply o.dst u) (a.put o.dst v)->next (a.put o.dst v) Y.w)->o.wp P a X.w next Q
theorem ao.does(h:ao P X s a o u):ef P X s a o u:=fun next Q hn=>by
 obtain⟨Y,v,h1,h2,h3⟩:=h
 unfold Oper.wp
 rcases h1 with h1|⟨h1,rfl⟩
 ·rw[h1,Oper.upon_value];exact hn Y v h2 h3
 ·rw[h1,Oper.upon_skip];exact hn Y _ h2 h3
theorem yI{f:FuncId}(h:ll P f){bS:Array Operand}{ts:Array TypeId}(ho:o.op= .call ⟨.value (.func f),bS,ts⟩)(w:World):(execOp a.eval o).run P w= .ok (.enter f (bS.map a.eval)) w:=by
 obtain⟨fn,c,h1,h2,h3⟩:=h
 simp [execOp,ho,resolve,Deferred.ofValue,Act.eval,invoke,callFunc,h1,h3]
 simpa using h2
theorem tT{l:List SV}{id:Nat}(h:∀id t p,SV.ptr id t p∉l):l.map (SV.cM id)=l:=by
 induction l with
 |nil=>rfl
 |cons v r ih=>
  rw[List.map_cons,ih (fun id t p hm=>h id t p (List.mem_cons_of_mem _ hm))]
  congr 1
  cases v<;>first|rfl|skip
  exact absurd (List.mem_cons_self) (h _ _ _)
theorem q9{k k':Option Nat}{d:Nat}{β:Nat->Option Nat}{Y:ah}(h:Ext (X.bg k) Y){r0 id:Nat}{r:List SV}{v:Value}(hβ:∀aS t p,SV.ptr aS t p∈r->β id=some r0)(hr:bm {Y with β:=fun _=>some r0} .r r v):bm (X.back Y k k' d β) (.c d) (r.map (SV.cM id)) v:=by
 match r,hr with
 | [sv],hr=>exact ai.out h (fun aS t p e=>hβ aS t p (by simp [e])) hr
 | [],⟨vs,h1,h2,h3⟩=>exact⟨vs,h1,h2,fun j s u hs=>by simp at hs⟩
 |x::y::r,⟨vs,h1,h2,h3⟩=>
  refine⟨vs,h1,by simpa using h2,fun j sv u hs hu=> ?_⟩
  have hs:((x::y::r).map (SV.cM id))[j]? =some sv:=hs
  rw[List.getElem?_map] at hs
  obtain⟨s0,cz,rfl⟩:=Option.map_eq_some_iff.1 hs
  exact ai.out h (fun aS t p e=>hβ aS t p (e▸List.mem_of_getElem? cz)) (h3 j s0 u cz hu)
theorem x9:∀g pl n,(X.bg none).ow g≠ .row pl n:=fun g pl n=>by
 show cH none (X.ow g)≠_
 cases X.ow g with
 |row q m=>cases q<;>simp [cH]
 |_=>simp [cH]
theorem qs(hr:Rel X s a){C:ay}(hC:C.Nat){f:FuncId}(hf:bW P C f){vs:List (SV×Value)}(kl:∀x∈vs,∃q,ai X q x.1 x.2)(de:ll P f->(execOp a.eval o).run P X.w= .ok (.enter f (vs.map (·.2)).toArray) X.w)(h:b9 (C Out) s o.dst f (vs.map (·.1)) some=some u):ef P X s a o u:=by
 have aB:=de
 clear de
 unfold b9 at h
 have enter:∀(l:List SV) (b:Option (Nat×aI)) (k:Option Nat),zy s (vs.map (·.1))=some (l,b)->(∀id B,b=some (id,B)->k=some id)->(b=none->k=none)->gk (X.bg k) l (b.map (·.2)) (vs.map (·.2)).toArray:=by
  intro l b k aV hk lX
  obtain⟨i1,i2,i3,i4⟩:=uF hr vs l b kl aV
  refine⟨by simpa using i1.symm,fun i sv v hl hv=> ?_,fun id t p hm=> ?_,fun B hB=> ?_,fun hb=> ?_⟩
  ·rw[List.getElem?_toArray,List.getElem?_map] at hv
   obtain⟨x,hx,rfl⟩:=Option.map_eq_some_iff.1 hv
   exact i4 k hk i sv x hl hx _
  ·obtain⟨j1,j2⟩:=i3 id t p hm
   exact⟨j1,by simpa using j2⟩
  ·obtain⟨bb,sB,rfl⟩:=Option.map_eq_some_iff.1 hB
   obtain⟨id,B⟩:=bb
   obtain⟨r,h1,h2⟩:=hr.boxes id B (i2 id B sB)
   have:=hk id B sB
   subst this
   exact⟨r,h1,h2.bg⟩
  ·have hb:b=none:=by cases b<;>simp at hb⊢
   rw[lX hb]
   exact x9
 split at h
 ·rename_i l aV
  obtain⟨⟨r,b'⟩,gw,h⟩:=zo (hC Out _ f l none _ (fun r b=>some (r,b)) (fun z=>match z.2 with
   |none=>some {v:=z.1}
   |some B=>match o.dst with
    |some d=>match s.bs[d+1]? with
     |some none=>some {v:=z.1.map (SV.cM (d+1)),bx:=some (d+1,B)}
     |_=>none
    |none=>none) (fun r b=>rfl)) h
  obtain⟨de,gH⟩:=hf l none r b' gw
  have gg:=enter l none none aV (fun id B e=>by cases e) (fun _=>rfl)
  intro next Q hn
  unfold Oper.wp
  rw[aB de,Oper.upon_enter]
  refine(gH (X.bg none) _ gg).mono fun e w' he=> ?_
  cases e with
  |returned v=>
   obtain⟨Y,rfl,aC,r0,av,aU,gK⟩:=he
   simp only at h
   cases b' with
   |none=>
    cases h
    have hp:=gK (.inl rfl)
    have aQ:=qP (k':=none) (d:=o.dst.getD 0) (β:=X.β) aC rfl
    refine hn (X.back Y none none (o.dst.getD 0) X.β) v aQ ?_
    refine(Rel.back (k':=none) aC hr (fun _ _ _=>rfl) (fun _ _ _=>by simp)).fin ?_ (fun id t p hm=>absurd hm (hp id t p))
    have:=q9 (k':=none) (d:=o.dst.getD 0) (β:=X.β) (id:=0) aC (fun aS t p hm=>absurd hm (hp aS t p)) av
    rw[tT hp] at this
    exact this
   |some B=>
    simp only at h
    split at h
    case h_2=>cases h
    rename_i d hd
    split at h
    case h_2=>cases h
    rename_i dG
    cases h
    have aw:d+1<s.bs.length:=(List.getElem?_eq_some_iff.1 dG).1
    obtain⟨hB,_⟩:=aU B rfl
    let β:Nat->Option Nat:=fun id=>if id=d+1 then some r0 else X.β id
    have hβd:β (d+1)=some r0:=by simp [β]
    have aQ:=qP (k':=some (d+1)) (d:=d) (β:=β) aC (by simp [β])
    refine hn (X.back Y none (some (d+1)) d β) v aQ ?_
    have aF:=(Rel.back (k':=some (d+1)) (d:=d) (β:=β) aC hr (fun id B2 bD=>by
     show(if _ then _ else _)=_
     rw[if_neg (fun e=>by rw[e,dG] at bD;cases bD)]) (fun _ _ _=>by simp)).cC aw dG hβd (hB.out aC rfl)
    rw[hd]
    refine aF.put (fun d' e=> ?_) (fun id t p hm=> ?_)
    ·cases e
     exact q9 aC (fun _ _ _ _=>hβd) av
    ·obtain⟨s0,_,sF⟩:=List.mem_map.1 hm
     have:id=d+1:=by
      cases s0<;>simp [SV.cM] at sF
      exact sF.1.symm
     subst this
     exact⟨B,by simp [State.close,State.ap,List.getElem?_set,aw]⟩
  |panicked c=>exact he.elim
  |outgrown=>exact he.elim
 ·rename_i l id B aV
  obtain⟨⟨r,b'⟩,gw,h⟩:=zo (hC Out _ f l (some B) _ (fun r b=>some (r,b)) (fun z=>match z.2 with
   |some B'=>if B'.t.aX B.t=true then some {v:=z.1,bx:=some (id,B')} else none
   |none=>none) (fun r b=>rfl)) h
  obtain⟨de,gH⟩:=hf l (some B) r b' gw
  have gg:=enter l (some (id,B)) (some id) aV (fun id B e=>by cases e;rfl) (fun e=>by cases e)
  obtain⟨_,i2,_,_⟩:=uF hr vs l _ kl aV
  have hb:=i2 id B rfl
  intro next Q hn
  unfold Oper.wp
  rw[aB de,Oper.upon_enter]
  refine(gH (X.bg (some id)) _ gg).mono fun e w' he=> ?_
  cases e with
  |returned v=>
   obtain⟨Y,rfl,aC,r0,av,aU,gK⟩:=he
   simp only at h
   cases b' with
   |none=>cases h
   |some B'=>
    simp only at h
    split at h
    case isFalse=>cases h
    cases h
    have hp:=gK (.inr rfl)
    obtain⟨hB,hβ⟩:=aU B' rfl
    have hβ:=hβ rfl
    have aQ:=qP (k':=some id) (d:=o.dst.getD 0) (β:=X.β) aC rfl
    refine hn (X.back Y (some id) (some id) (o.dst.getD 0) X.β) v aQ ?_
    refine(Rel.iB (k:=some id) (k':=some id) aC hr hb rfl rfl hβ hB).fin ?_ (fun id t p hm=>absurd hm (hp id t p))
    have:=q9 (k':=some id) (d:=o.dst.getD 0) (β:=X.β) (id:=0) aC (fun aS t p hm=>absurd hm (hp aS t p)) av
    rw[tT hp] at this
    exact this
  |panicked c=>exact he.elim
  |outgrown=>exact he.elim
 ·cases h
theorem qo(hr:Rel X s a)(bS:Array Operand):∀x∈bS.toList.map (fun x=>(s.ak x,a.eval x)),∃q,ai X q x.1 x.2:=fun x hx=>by
 obtain⟨y,_,rfl⟩:=List.mem_map.1 hx
 exact⟨_,hr.ak y⟩
theorem uz{X:ah}{pl:List Nat->Place}{sv:SV}{v:Value}(h:ai X pl sv v):ai X pl sv.shut v:=by
 cases sv with
 |al t x own=>
  obtain⟨cs,h1,h2,_⟩:=h
  exact⟨cs,h1,h2,zr⟩
 |_=>exact h
theorem y0{X:ah}{pl:Nat->List Nat->Place}{l:List SV}{v:Value}(h:bm X pl l v):bm X pl (l.map SV.shut) v:=by
 match l,h with
 | [sv],h=>exact uz (sv:=sv) h
 | [],h=>exact h
 |x::y::r,⟨vs,g1,g2,g3⟩=>
  refine⟨vs,g1,by simpa using g2,fun j sv u er hu=> ?_⟩
  have er:((x::y::r).map SV.shut)[j]? =some sv:=er
  rw[List.getElem?_map] at er
  obtain⟨s0,cz,rfl⟩:=Option.map_eq_some_iff.1 er
  exact uz (g3 j s0 u cz hu)
theorem yZ{l:List SV}{j:Nat}{t:Ty}{p:List Nat}(h:SV.ptr j t p∈l.map SV.shut):SV.ptr j t p∈l:=by
 obtain⟨s0,cz,he⟩:=List.mem_map.1 h
 cases s0<;>first|(cases he;done)|(rw[<-he];exact cz)|skip
theorem Rel.aP(hr:Rel X s a){d:Nat}{l:List SV}:Rel X {s with sl:=s.sl.set d l} a->Rel X {s with sl:=s.sl.set d (l.map SV.shut)} a:=fun h=>{
 size:=by simpa using hr.size
 cN:=by simpa using hr.cN
 aM:=fun i l' v hl hv=>by
  replace hl:(s.sl.set d (l.map SV.shut))[i]? =some l':=hl
  rw[List.getElem?_set] at hl
  split at hl
  ·rename_i iH
   split at hl
   ·cases hl
    rename_i aw
    exact y0 (h.aM i l v (by show(s.sl.set d l)[i]? =_;rw[List.getElem?_set,if_pos iH,if_pos aw]) hv)
   ·cases hl
  ·rename_i iH
   exact h.aM i l' v (by show(s.sl.set d l)[i]? =_;rw[List.getElem?_set,if_neg iH];exact hl) hv
 boxes:=h.boxes
 live:=fun i l' id t p hl hm=>by
  replace hl:(s.sl.set d (l.map SV.shut))[i]? =some l':=hl
  rw[List.getElem?_set] at hl
  split at hl
  ·rename_i iH
   split at hl
   ·cases hl
    rename_i aw
    exact h.live i l id t p (by show(s.sl.set d l)[i]? =_;rw[List.getElem?_set,if_pos iH,if_pos aw]) (yZ hm)
   ·cases hl
  ·rename_i iH
   exact h.live i l' id t p (by show(s.sl.set d l)[i]? =_;rw[List.getElem?_set,if_neg iH];exact hl) hm
 defers:=h.defers}
theorem ef.shut(h:ef P X s a o u):ef P X s a o u.shut:=fun next Q hn=>h next Q fun Y v aC aF=>hn Y v aC (by
 unfold State.apply at aF⊢
 show Rel Y (((s.close u.cl).ap u.bx).au o.dst (u.v.map SV.shut)) _
 generalize(s.close u.cl).ap u.bx=s1 at*
 cases hd:o.dst with
 |none=>rw[hd] at aF;exact aF
 |some d=>
  rw[hd] at aF
  have e:=Rel.aP (X:=Y) (s:={s1 with sl:=s1.sl.set d u.v}) (a:=a.put (some d) v) (d:=d) (l:=u.v) aF (by
   show Rel Y {s1 with sl:=(s1.sl.set d u.v).set d u.v} _
   rw[List.set_set];exact aF)
  show Rel Y {s1 with sl:=s1.sl.set d (u.v.map SV.shut)} _
  have e2:Rel Y {s1 with sl:=(s1.sl.set d u.v).set d (u.v.map SV.shut)} (a.put (some d) v):=e
  rw[List.set_set] at e2
  exact e2)
theorem yz(hr:Rel X s a){C:ay}(hC:C.Nat){f:FuncId}(hf:bW P C f){ops:List Oper}{bS:Array Operand}{ts:Array TypeId}(ho:o.op= .call ⟨.value (.func f),bS,ts⟩)(h:act E (C Out) ops o s some=some u):ef P X s a o u:=by
 unfold act at h
 simp only[ho] at h
 obtain⟨u0,h0,h1⟩:=zo (nL hC (F:=fun u=>some (bif b4 E o.dst then u.shut else u)) (G:=some) (K:=fun u=>some (bif b4 E o.dst then u.shut else u)) (fun _=>rfl)) h
 have hd:ef P X s a o u0:=by
  refine qs hr hC hf (qo hr bS) (fun de=> ?_) (by rw[List.map_map];exact h0)
  rw[yI de ho]
  congr 2
  apply Array.toList_inj.1
  simp [Function.comp_def]
 cases hs:b4 E o.dst with
 |false=>rw[hs] at h1;cases h1;exact hd
 |true=>rw[hs] at h1;cases h1;exact hd.shut
theorem AX{f:FuncId}(h:ll P f){x:Operand}{v:Value}{bS:Array Operand}{ts:Array TypeId}(ho:o.op= .call ⟨.value x,bS,ts⟩)(hx:a.eval x= .func (.func f) #[] #[v])(w:World):(execOp a.eval o).run P w= .ok (.enter f (bS.map a.eval++ #[v])) w:=by
 obtain⟨fn,c,h1,h2,h3⟩:=h
 simp [execOp,ho,resolve,Deferred.ofValue,hx,invoke,callFunc,h1,h3]
 simpa using h2
theorem zX{f:FuncId}(h:ll P f){x:Operand}{v v2:Value}{bS:Array Operand}{ts:Array TypeId}(ho:o.op= .call ⟨.value x,bS,ts⟩)(hx:a.eval x= .func (.func f) #[] #[v,v2])(w:World):(execOp a.eval o).run P w= .ok (.enter f (bS.map a.eval++ #[v,v2])) w:=by
 obtain⟨fn,c,h1,h2,h3⟩:=h
 simp [execOp,ho,resolve,Deferred.ofValue,hx,invoke,callFunc,h1,h3]
 simpa using h2
theorem xS(hr:Rel X s a){C:ay}(hC:C.Nat)(hf:∀f,bW P C f){ops:List Oper}{y:Nat}{bS:Array Operand}{ts:Array TypeId}(ho:o.op= .call ⟨.value (.tmp y),bS,ts⟩)(h:act E (C Out) ops o s some=some u):ef P X s a o u:=by
 unfold act at h
 simp only[ho] at h
 split at h
 case h_3=>cases h
 case h_2=>
  rename_i f t x1 u' y1 bM
  have hx:=hr.ak (.tmp y)
  rw[bM] at hx
  obtain⟨ad,fA,cs,bT,hv,⟨g2,g3,g4⟩,k2,k3,k4⟩:=hx
  refine qs hr hC (hf f) (vs:=bS.toList.map (fun x=>(s.ak x,a.eval x))++ [(.view t x1,.pointer (some ad)),(.view u' y1,.pointer (some fA))]) (fun x hx=> ?_) (fun de=> ?_) (by rw[List.map_append,List.map_map];exact h)
  ·rcases List.mem_append.1 hx with hx|hx
   ·exact qo hr bS x hx
   ·rcases List.mem_cons.1 hx with rfl|hx
    ·exact⟨.r 0,ad,cs,rfl,g2,g3,g4⟩
    ·rw[List.mem_singleton.1 hx]
     exact⟨.r 0,fA,bT,rfl,k2,k3,k4⟩
  ·rw[zX de ho hv]
   congr 2
   apply Array.toList_inj.1
   simp [Function.comp_def]
 rename_i id f t b bM
 have hx:=hr.ak (.tmp y)
 rw[bM] at hx
 obtain⟨r0,hβ,hv⟩:=hx
 have hv:a.eval (.tmp y)= .func (.func f) #[] #[.pointer (some ⟨r0,0,none⟩)]:=hv
 split at h
 case isTrue=>cases h
 rename_i hs
 refine qs hr hC (hf f) (vs:=bS.toList.map (fun x=>(s.ak x,a.eval x))++ [(.ptr id t [],.pointer (some ⟨r0,0,none⟩))]) (fun x hx=> ?_) (fun de=> ?_) (by rw[List.map_append,List.map_map];exact h)
 ·rcases List.mem_append.1 hx with hx|hx
  ·exact qo hr bS x hx
  ·rw[List.mem_singleton.1 hx]
   exact⟨.r 0,r0,hβ,(q6 (by simpa using hs)).2 ⟨by simp [Ty.off],by simp [Ty.b6]⟩⟩
 ·rw[AX de ho hv]
  congr 2
  apply Array.toList_inj.1
  simp [Function.comp_def]
end Go.Ref

namespace Go.Ref
open Go
variable {P:Program} {E:Env} {X:ah} {s:State} {a:Act} {o:Oper} {u:Out}
theorem zO(hE:ag P E)(hr:Rel X s a){C:ay}(hC:C.Nat)(hf:∀f,bW P C f){ops:List Oper}(h:act E (C Out) ops o s some=some u):ef P X s a o u:=by
 cases ho:o.op with
 |move x=>exact(yE hr ho h).does
 |assign x=>exact(xD hr ho h).does
 |pick c x y=>exact(yG hr ho h).does
 |binOp op T x y T'=>exact(Ac hE hr ho h).does
 |unOp op T x=>exact(AZ hr ho h).does
 |convert S T x=>exact(yA hE hr ho h).does
 |load T x=>exact(yD hE hr ho h).does
 |store T x y=>exact(xZ hE hr ho h).does
 |nilCheck x=>exact(xl hr ho h).does
 |fieldAddr T x j=>exact(xh hE hr ho h).does
 |indexAddr T x i=>exact(xi hE hr ho h).does
 |index T x i=>exact(xX hE hr ho h).does
 |field T x j=>exact(xW hE hr ho h).does
 |slice T x lo hi mx=>
  cases mx with
  |none=>exact(Ae hE hr ho h).does
  |some m=>unfold act at h;simp only[ho] at h;cases h
 |alloc T=>exact(xQ hE hr ho h).does
 |box T x=>exact(Ad hE hr ho h).does
 |build T parts=>exact(xR hE hr ho h).does
 |buildSlice T n parts=>exact(z72 hE hr ho h).does
 |extract x j=>exact(xq hr ho h).does
 |makeMap T r=>exact(xu hE hr ho h).does
 |lookup T x i ok=>exact(xE hE hr ho h).does
 |mapUpdate T m k x=>exact(te hE hr (.inl ho) h).does
 |insert T m k x=>exact(te hE hr (.inr ho) h).does
 |range T x=>exact(xY hE hr ho h).does
 |next x str=>exact(yF hr ho h).does
 |makeSlice T l c=>exact(xj hE hr ho h).does
 |makeFunc fn fi ca=>exact(xk hr ho h).does
 |call c=>
  obtain⟨callee,args,ts⟩:=c
  cases callee with
  |value x=>
   cases x with
   |func f=>exact yz hr hC (hf f) ho h
   |tmp y=>exact xS hr hC hf ho h
   |_=>unfold act at h;simp only[ho] at h;cases h
  |builtin b=>
   cases b with
   |len=>exact(Af (x:= .const Go.undef) (T:=0) hE hr ho h).does
   |append=>exact(xC hE hr ho h).does
   |copy=>exact(yB hE hr ho h).does
   |max=>exact(ub (g:=true) hr ho h).does
   |min=>exact(ub (g:=false) hr ho h).does
   |_=>unfold act at h;simp only[ho] at h;cases h
  |_=>unfold act at h;simp only[ho] at h;cases h
 |_=>unfold act at h;simp only[ho] at h;cases h
theorem Rel.know(hr:Rel X s a){d:Nat}{p:Bool}{o:List (List Nat)}(h:s.slot d=[.al .bool p o]):Rel X (s.au (some d) (bl p)) a/\a.tmps[d]? =some (.bool p):=by
 have hd:d<s.sl.length:=by
  rcases Nat.lt_or_ge d s.sl.length with h1|h1
  ·exact h1
  ·simp [State.slot,List.getElem?_eq_none h1] at h
 have gx:d<a.tmps.size:=by rw[<-hr.size];exact hd
 have hv:a.tmps[d]? =some (a.tmps.getD d Go.undef):=by simp [Array.getElem?_eq_getElem gx]
 have hs:=hr.slot d
 rw[h] at hs
 have hb:=mG (X:=X) hs
 rw[hb] at hv
 refine⟨?_,hv⟩
 have pJ:a.put (some d) (.bool p)=a:=by
  cases a with
  |mk tmps defers=>
   simp only[Act.put,Act.mk.injEq,and_true]
   apply Array.ext_getElem?
   intro i
   rw[Array.getElem?_setIfInBounds]
   split
   ·rename_i e
    subst e
    first
     |exact hv.symm
     |(rw[if_pos gx];exact hv.symm)
   ·rfl
 have:=hr.put (d:=some d) (l:=bl p) (v:= .bool p) (fun _ _=>zm) (fun id t q hm=>by simp [bl] at hm)
 rw[pJ] at this
 exact this
theorem z85(hE:ag P E)(hr:Rel X s a){C:ay}(hC:C.Nat)(hf:∀f,bW P C f){ops:Array Oper}{i:Nat}(hi:ops[i]? =some o){s':State}(h:step E (C State) ops.toList o s some=some s'){Q:Exit->Act->World->Prop}{K:Act->World->Prop}
 (hK:∀Y a',Ext X Y->Rel Y s' a'->K a' Y.w):wpOp P ops Q i K a X.w:=by
 unfold wpOp
 simp only[hi]
 have ia:∀{s1:State},Rel X s1 a->(act E (C State) ops.toList o s1 fun u=>some (s1.apply o.dst u))=some s'->o.wp P a X.w K Q:=by
  intro s1 cP h1
  obtain⟨u,hu,h2⟩:=zo (jh hC (F:=fun u=>some (s1.apply o.dst u)) (G:=some) (K:=fun u=>some (s1.apply o.dst u)) (fun _=>rfl)) h1
  cases h2
  exact zO hE cP hC hf hu K Q (fun Y v aC aF=>hK Y _ aC aF)
 have dv:∀{s1:State},Rel X s1 a->some (s1.au o.dst [.skip])=some s'->K (a.put o.dst Go.undef) X.w:=by
  intro s1 cP h1
  cases h1
  exact hK X _ (Ext.refl X) (cP.skip o.dst)
 unfold step at h
 simp only at h
 split at h
 ·rename_i hg
  have hw:Region.wanted o (yielded ops a.tmps)=true:=by simp [Region.wanted,hg]
  rw[if_pos hw]
  exact .inl (ia hr h)
 ·rename_i g want hg
  split at h
  ·cases h
  rename_i d hd
  have sE:(ops[g]?).bind (·.dst)=some d:=by simpa [mV] using hd
  split at h
  ·rename_i p hs
   obtain⟨cP,hv⟩:=hr.know hs
   have hy:yielded ops a.tmps g=some p:=by simp [yielded,sE,hv]
   have hw:Region.wanted o (yielded ops a.tmps)=(p==want):=by simp [Region.wanted,hg,hy]
   cases p<;>cases want<;>simp only[cond_true,cond_false] at h<;>rw[hw]
   ·exact .inl (ia cP h)
   ·exact dv cP h
   ·exact dv cP h
   ·exact .inl (ia cP h)
  ·rename_i hs
   have dw:=hr.slot d
   rw[hs] at dw
   have fm:a.tmps.getD d Go.undef=Go.undef:=dw
   have hy:yielded ops a.tmps g=none:=by
    simp only[yielded,sE,Option.bind_some]
    cases ht:a.tmps[d]? with
    |none=>rfl
    |some v=>
     have:v=Go.undef:=by
      rw[<-fm]
      simp [Array.getD_eq_getD_getElem?,ht]
     subst this
     rfl
   have hw:Region.wanted o (yielded ops a.tmps)=false:=by simp [Region.wanted,hg,hy]
   rw[hw]
   exact dv hr h
  ·cases h
theorem u4(hE:ag P E){C:ay}(hC:C.Nat)(hf:∀f,bW P C f){ops:Array Oper}{s':State}{Q:Exit->Act->World->Prop}:∀(l:List Nat) (X:ah) (s:State) (a:Act),Rel X s a->(∀i∈l,i<ops.size)->
 steps E (C State) ops.toList (l.map fun i=>ops.getD i default) s some=some s'->(∀Y a',Ext X Y->Rel Y s' a'->Q .normal a' Y.w)->wpOps P ops Q l a X.w
 | [],X,s,a,hr,_,h,hQ=>by
   cases h
   exact hQ X a (Ext.refl X) hr
 |i::r,X,s,a,hr,hl,h,hQ=>by
  simp only[List.map_cons,steps] at h
  obtain⟨s1,h1,h2⟩:=zo (re hC (F:=fun s=>steps E (C State) ops.toList (r.map fun i=>ops.getD i default) s some) (G:=some) (K:=fun s=>steps E (C State) ops.toList (r.map fun i=>ops.getD i default) s some) (fun _=>rfl)) h
  have hi:ops[i]? =some (ops.getD i default):=by
   have:=hl i (by simp)
   simp [this]
  rw[wpOps_cons]
  refine z85 hE hr hC hf hi h1 fun Y a' aC aF=> ?_
  exact u4 hE hC hf r Y s1 a' aF (fun j hj=>hl j (List.mem_cons_of_mem _ hj)) h2 fun Z a2 aQ bE=>hQ Z a2 (aC.trans aQ) bE
end Go.Ref

namespace Go.Ref
open Go
variable {P:Program} {E:Env} {X:ah} {s:State} {a:Act} {o:Oper} {u:Out}
theorem qU(i j:Nat):(bit i).testBit j=decide (i=j):=by
 simp [bit,Nat.shiftLeft_eq,Nat.testBit_two_pow]
theorem jd:∀(l:List Nat) (j:Nat),(cY l).testBit j=decide (j∈l)
 | [],j=>by simp [cY]
 |i::r,j=>by
  rw[cY,Nat.testBit_or,qU,jd r j]
  by_cases h:i=j
  ·subst h;simp
  ·have h':¬j=i:=fun e=>h e.symm
   simp [h,h']
theorem nQ{a b:Nat}(h:Nat.beq (a&&&b) 0=true)(j:Nat):a.testBit j=true->b.testBit j=false:=by
 intro ha
 have h0:=Nat.eq_of_beq_eq_true h
 have:=congrArg (fun n=>Nat.testBit n j) h0
 simp only[Nat.testBit_and,Nat.zero_testBit,ha,Bool.true_and] at this
 exact this
theorem qn:∀(l:List Edge) (j:Nat),(zk l).testBit j=true->∃e∈l,Region.binds .any e=true/\e.on=j
 | [],j,h=>by simp [zk] at h
 |e::r,j,h=>by
  simp only[zk] at h
  cases hb:Region.binds .any e with
  |false=>
   rw[hb] at h
   obtain⟨e',h1,h2⟩:=qn r j h
   exact⟨e',List.mem_cons_of_mem _ h1,h2⟩
  |true=>
   rw[hb] at h
   simp only[cond_true,Nat.testBit_or,qU,Bool.or_eq_true,decide_eq_true_eq] at h
   rcases h with h|h
   ·exact⟨e,by simp,hb,h⟩
   ·obtain⟨e',h1,h2⟩:=qn r j h
    exact⟨e',List.mem_cons_of_mem _ h1,h2⟩
theorem z87:∀(l:List Edge) (e:Edge),e∈l->Region.binds .any e=true->(zk l).testBit e.on=true
 |e'::r,e,h,hb=>by
  simp only[zk]
  rcases List.mem_cons.1 h with rfl|h
  ·rw[hb];simp [Nat.testBit_or,qU]
  ·have:=z87 r e h hb
   cases Region.binds .any e'<;>simp [Nat.testBit_or,this]
theorem ym{m i j:Nat}(h:Nat.ble (m+1) (bit i)=true)(hj:m.testBit j=true):j<i:=by
 have h1:m<2^i:=by
  have:=Nat.le_of_ble_eq_true h
  simp only[bit,Nat.shiftLeft_eq,Nat.one_mul] at this
  omega
 rcases Nat.lt_or_ge j i with h2|h2
 ·exact h2
 ·have h3:m<2^j:=Nat.lt_of_lt_of_le h1 (Nat.pow_le_pow_right (by omega) h2)
  rw[Nat.testBit_lt_two_pow h3] at hj
  cases hj
def bV(E:Env)(C:ay)(ops:List Oper)(o:Oper)(s:State):Option Out:=
 match o.guard with
 |none=>act E (C Out) ops o s some
 |some (g,want)=>match mV ops g with
  |none=>none
  |some d=>match s.slot d with
   | [.al .bool p []]=>if p=want then act E (C Out) ops o s some else some {v:=[.skip]}
   | [.skip]=>some {v:=[.skip]}
   |_=>none
theorem kY{d:Nat}{l:List SV}(h:s.slot d=l):s.au (some d) l=s:=by
 cases s with
 |mk sl bs=>
  simp only[State.au,State.mk.injEq,and_true]
  simp only[State.slot] at h
  apply List.ext_getElem?
  intro i
  rw[List.getElem?_set]
  split
  ·rename_i e
   subst e
   split
   ·rename_i aw
    rw[List.getD_eq_getElem?_getD,List.getElem?_eq_getElem aw] at h
    rw[List.getElem?_eq_getElem aw]
    simpa using h.symm
   ·rename_i aw
    rw[List.getElem?_eq_none (by omega)]
  ·rfl
theorem y6{C:ay}(hC:C.Nat){R:Type}{ops:List Oper}{i:Nat}{tr:List bK}{K:State->List bK->Option R}{z:R}(h:ea E (C R) ops o i s tr K=some z):
 ∃u,bV E C ops o s=some u/\fits (zk o.after.toList) (ze ops o i s u) tr=true/\K (s.apply o.dst u) (ze ops o i s u::tr)=some z:=by
 have ia:(act E (C R) ops o s fun u=>bif fits (zk o.after.toList) (ze ops o i s u) tr then K (s.apply o.dst u) (ze ops o i s u::tr) else none)=some z->
  ∃u,act E (C Out) ops o s some=some u/\fits (zk o.after.toList) (ze ops o i s u) tr=true/\K (s.apply o.dst u) (ze ops o i s u::tr)=some z:=by
  intro h
  obtain⟨u,h1,h2⟩:=zo (jh hC (F:=fun u=>bif fits (zk o.after.toList) (ze ops o i s u) tr then K (s.apply o.dst u) (ze ops o i s u::tr) else none) (G:=some) (K:=fun u=>bif fits (zk o.after.toList) (ze ops o i s u) tr then K (s.apply o.dst u) (ze ops o i s u::tr) else none) (fun _=>rfl)) h
  cases hf:fits (zk o.after.toList) (ze ops o i s u) tr with
  |false=>rw[hf] at h2;cases h2
  |true=>rw[hf] at h2;exact⟨u,h1,hf,h2⟩
 have dv:(bif fits (zk o.after.toList) (ze ops o i s {v:=[.skip]}) tr then K (s.apply o.dst {v:=[.skip]}) (ze ops o i s {v:=[.skip]}::tr) else none)=some z->
  fits (zk o.after.toList) (ze ops o i s {v:=[.skip]}) tr=true/\K (s.apply o.dst {v:=[.skip]}) (ze ops o i s {v:=[.skip]}::tr)=some z:=by
  intro h
  cases hf:fits (zk o.after.toList) (ze ops o i s {v:=[.skip]}) tr with
  |false=>rw[hf] at h;cases h
  |true=>rw[hf] at h;exact⟨rfl,h⟩
 unfold ea at h
 unfold bV
 simp only at h
 split at h
 ·rename_i hg
  try simp only[hg]
  exact ia h
 ·rename_i g want hg
  try simp only[hg]
  split at h
  ·cases h
  rename_i d hd
  try simp only[hd]
  split at h
  ·rename_i p hs
   have er:s.slot d=bl p:=hs
   try simp only[hs]
   cases p<;>cases want<;>simp only[cond_true,cond_false] at h
   ·rw[kY er] at h;rw[if_pos rfl];exact ia h
   ·rw[kY er] at h;rw[if_neg (by simp)];exact⟨_,rfl,dv h⟩
   ·rw[kY er] at h;rw[if_neg (by simp)];exact⟨_,rfl,dv h⟩
   ·rw[kY er] at h;rw[if_pos rfl];exact ia h
  ·rename_i hs
   try simp only[hs]
   exact⟨_,rfl,dv h⟩
  ·cases h
theorem xJ{C:ay}(hC:C.Nat){ops:List Oper}(h:bV E C ops o s=some u):step E (C State) ops o s some=some (s.apply o.dst u):=by
 have ia:act E (C Out) ops o s some=some u->(act E (C State) ops o s fun u=>some (s.apply o.dst u))=some (s.apply o.dst u):=by
  intro h
  rw[jh hC (F:=fun u=>some (s.apply o.dst u)) (G:=some) (K:=fun u=>some (s.apply o.dst u)) (fun _=>rfl),h]
  rfl
 unfold bV at h
 unfold step
 simp only
 split at h
 ·rename_i hg
  try simp only[hg]
  exact ia h
 ·rename_i g want hg
  try simp only[hg]
  split at h
  ·cases h
  rename_i d hd
  try simp only[hd]
  split at h
  ·rename_i p hs
   have er:s.slot d=bl p:=hs
   try simp only[hs]
   split at h
   ·rename_i e
    subst e
    cases p<;>simp only[cond_true,cond_false]<;>rw[kY er]<;>exact ia h
   ·rename_i e
    cases h
    cases p<;>cases want<;>simp only[cond_true,cond_false]<;>first|exact absurd rfl e|(rw[kY er];rfl)
  ·rename_i hs
   try simp only[hs]
   cases h
   rfl
  ·cases h
structure eG(ts bs:List Nat)(s s':State):Prop where
 sl:∀t∈ts,s.slot t=s'.slot t
 bs:∀id∈bs,s.bs[id]? =s'.bs[id]?
theorem AG{l:List Operand}{t:Nat}:Operand.tmp t∈l->t∈gb l:=by
 induction l with
 |nil=>intro h;cases h
 |cons x r ih=>
  intro h
  rcases List.mem_cons.1 h with e|h
  ·subst e;simp [gb]
  ·have:=ih h
   cases x<;>simp [gb,this]
theorem qG{s s':State}{ts:List Nat}(h:∀t∈ts,s.slot t=s'.slot t){l:List Operand}(hl:∀t∈gb l,t∈ts){x:Operand}(hx:x∈l):s.ak x=s'.ak x:=by
 cases x with
 |tmp t=>simp only[State.ak,State.iT,h t (hl t (AG hx))]
 |_=>rfl
theorem yc(j:Nat):aP [SV.undef] j=[SV.undef]:=by
 cases j<;>rfl
theorem qi{s:State}{i j t:Nat}:(s.bk i j).slot t=if t=i then aP (s.slot t) j else s.slot t:=by
 simp only[State.bk,State.slot,List.getD_eq_getElem?_getD,List.getElem?_set]
 by_cases e:t=i
 ·subst e
  rw[if_pos rfl,if_pos rfl]
  by_cases aw:t<s.sl.length
  ·rw[if_pos aw];rfl
  ·rw[if_neg aw,List.getElem?_eq_none (by omega)]
   simp [yc]
 ·rw[if_neg e,if_neg (fun h=>e h.symm)]
theorem tv{t:Nat}:∀{c:List (Nat×Nat)} {s s':State},s.slot t=s'.slot t->(s.close c).slot t=(s'.close c).slot t
 | [],s,s',h=>h
 |(i,j)::r,s,s',h=>by
  rw[z21,z21]
  refine tv (c:=r) ?_
  rw[qi,qi,h]
theorem tE{ts:List Nat}:∀{l:List (Nat×Operand)} {s s':State},(∀t∈ts,s.slot t=s'.slot t)->(∀t∈gb (l.map (·.2)),t∈ts)->zu s l=zu s' l
 | [],s,s',h,hl=>rfl
 |(i,x)::r,s,s',h,hl=>by
  have hx:s.ak x=s'.ak x:=qG h hl (by simp)
  have hr:∀c:List (Nat×Nat),zu (s.close c) r=zu (s'.close c) r:=fun c=>tE (fun t ht=>tv (h t ht)) (fun t ht=>hl t (by
   cases x<;>simp [gb,ht]))
  simp only[zu,hx,hr]
theorem nG{s s':State}:∀{l:List SV},(∀id∈l.flatMap aR,s.box id=s'.box id)->zy s l=zy s' l
 | [],h=>rfl
 |v::r,h=>by
  have hr:zy s r=zy s' r:=nG fun id cm=>h id (by simp only[List.flatMap_cons,List.mem_append];exact .inr cm)
  simp only[zy,hr]
  split
  ·rfl
  ·rename_i l b _
   cases v with
   |ptr id t p=>
    have hb:s.box id=s'.box id:=h id (by simp [aR])
    cases p with
    |nil=>cases b<;>simp only[hb]
    |cons _ _=>rfl
   |_=>rfl
theorem yi{C:FuncId->aK Out}{ops:List Oper}{s s':State}(h:eG (looks ops o) (zc s o) s s'):act E C ops o s some=act E C ops o s' some:=by
 have dw:∀t∈gb o.op.operands.toList,s.slot t=s'.slot t:=fun t ht=>h.sl t (by simp only[looks,List.mem_append];exact .inl ht)
 have aW:∀x∈o.op.operands.toList,s.ak x=s'.ak x:=fun x hx=>qG dw (fun _ ht=>ht) hx
 have aU:∀id∈zc s o,s.box id=s'.box id:=fun id cm=>by
  simp only[State.box,List.getD_eq_getElem?_getD,h.bs id cm]
 unfold act
 cases ho:o.op with
 |move x=>
  have ht:eX s x=eX s' x:=by
   cases x with
   |tmp t=>
    have:s.slot t=s'.slot t:=dw t (by simp [ho,Op.operands,gb])
    simp only[eX,this]
   |_=>rfl
  simp only;rw[aW x (by simp [ho,Op.operands]),ht]
 |assign x=>simp only;rw[aW x (by simp [ho,Op.operands])]
 |pick c x y=>simp only;rw[aW c (by simp [ho,Op.operands]),aW x (by simp [ho,Op.operands]),aW y (by simp [ho,Op.operands])]
 |binOp op T x y T'=>simp only;rw[aW x (by simp [ho,Op.operands]),aW y (by simp [ho,Op.operands])]
 |unOp op T x=>simp only;rw[aW x (by simp [ho,Op.operands])]
 |convert S T x=>
  have hx:=aW x (by simp [ho,Op.operands])
  simp only
  rw[<-hx]
  split
  ·rename_i id n ta tb e
   simp only[dn,aU id (by simp [zc,ho,e,aR])]
  ·rfl
 |makeMap T r=>
  cases r with
  |some r=>rfl
  |none=>
   simp only
   cases hd:o.dst with
   |none=>rfl
   |some d=>
    have:=h.bs (d+1) (by simp [zc,ho,hd])
    simp only[dC,this]
 |lookup T x i ok=>
  cases ok with
  |true=>rfl
  |false=>
   simp only
   rw[<-aW x (by simp [ho,Op.operands]),<-aW i (by simp [ho,Op.operands])]
   unfold dV iv
   split
   ·split
    ·rename_i e
     simp only[aU _ (by simp only[zc,ho,e,aR];exact List.mem_singleton.2 rfl)]
    ·rfl
   ·rfl
 |mapUpdate T m k x=>
  simp only
  rw[<-aW m (by simp [ho,Op.operands]),<-aW k (by simp [ho,Op.operands]),<-aW x (by simp [ho,Op.operands])]
  unfold eC iv
  split
  ·split
   ·rename_i e
    simp only[aU _ (by simp only[zc,ho,e,aR];exact List.mem_singleton.2 rfl)]
   ·rfl
  ·rfl
 |insert T m k x=>
  simp only
  rw[<-aW m (by simp [ho,Op.operands]),<-aW k (by simp [ho,Op.operands]),<-aW x (by simp [ho,Op.operands])]
  unfold eC iv
  split
  ·split
   ·rename_i e
    simp only[aU _ (by simp only[zc,ho,e,aR];exact List.mem_singleton.2 rfl)]
   ·rfl
  ·rfl
 |range T x=>
  simp only
  rw[<-aW x (by simp [ho,Op.operands])]
  cases hd:o.dst with
  |none=>rfl
  |some d=>
   have:=h.bs (d+1) (by simp [zc,ho,hd])
   simp only[dC,this]
 |next x str=>
  cases str with
  |false=>rfl
  |true=>
   simp only
   rw[<-aW x (by simp [ho,Op.operands])]
   unfold dX
   split
   ·rename_i e
    simp only[aU _ (by simp only[zc,ho,e,aR];exact List.mem_singleton.2 rfl)]
   ·rfl
 |makeSlice T l c=>
  simp only
  rw[<-aW l (by simp [ho,Op.operands]),<-aW c (by simp [ho,Op.operands])]
  cases hd:o.dst with
  |none=>rfl
  |some d=>
   have:=h.bs (d+1) (by simp [zc,ho,hd])
   simp only[dW,dC,this]
 |load T x=>
  have hx:=aW x (by simp [ho,Op.operands])
  simp only
  rw[<-hx]
  unfold load
  split
  ·split
   ·rfl
   ·rename_i id t p e
    simp only[kx,aU id (by simp [zc,ho,e,aR])]
   ·rfl
  ·rfl
 |store T x y=>
  have hx:=aW x (by simp [ho,Op.operands])
  have hy:=aW y (by simp [ho,Op.operands])
  simp only
  rw[<-hx]
  unfold store
  rw[<-hy]
  split
  ·split
   ·rename_i id t p e
    simp only[kv,aU id (by simp [zc,ho,e,aR])]
   ·rfl
  ·rfl
 |nilCheck x=>simp only;rw[aW x (by simp [ho,Op.operands])]
 |fieldAddr T x j=>simp only;rw[aW x (by simp [ho,Op.operands])]
 |indexAddr T x i=>simp only;rw[aW x (by simp [ho,Op.operands]),aW i (by simp [ho,Op.operands])]
 |index T x i=>simp only;rw[aW x (by simp [ho,Op.operands]),aW i (by simp [ho,Op.operands])]
 |field T x j=>simp only;rw[aW x (by simp [ho,Op.operands])]
 |slice T x lo hi mx=>
  cases mx with
  |none=>
   simp only
   have ke:lo.map s.ak=lo.map s'.ak:=by
    cases lo with
    |none=>rfl
    |some l=>simp only[Option.map_some,aW l (by simp [ho,Op.operands])]
   have lV:hi.map s.ak=hi.map s'.ak:=by
    cases hi with
    |none=>rfl
    |some l=>simp only[Option.map_some,aW l (by simp [ho,Op.operands])]
   rw[<-aW x (by simp [ho,Op.operands]),ke,lV]
   split
   ·rfl
   ·rename_i id n t e
    simp only[fS,aU id (by simp [zc,ho,e,aR])]
   ·rfl
  |some m=>rfl
 |makeFunc fn fi ca=>
  cases fn with
  |func f=>
   simp only
   split
   ·rename_i x e1 e2
    have hm:x∈o.op.operands.toList:=by
     simp only[ho,Op.operands,Array.toList_append,List.mem_append,e2]
     exact .inr (by simp)
    rw[aW x hm]
   ·rename_i x y e1 e2
    have hm:∀z∈ [x,y],z∈o.op.operands.toList:=fun z hz=>by
     simp only[ho,Op.operands,Array.toList_append,List.mem_append,e2]
     exact .inr hz
    rw[aW x (hm x (by simp)),aW y (hm y (by simp))]
   ·rfl
  |_=>rfl
 |alloc T=>
  simp only
  cases hd:o.dst with
  |none=>split<;>simp_all
  |some d=>
   have:=h.bs (d+1) (by simp [zc,ho,hd])
   cases E.ty T<;>simp only[this]
 |box T x=>
  have hx:=aW x (by simp [ho,Op.operands])
  simp only
  cases hd:o.dst with
  |none=>split<;>simp_all
  |some d=>
   have:=h.bs (d+1) (by simp [zc,ho,hd])
   cases E.ty T<;>simp only[this,hx]
 |build T parts=>
  have hp:zu s parts.toList=zu s' parts.toList:=tE dw (fun t ht=>by simpa [ho,Op.operands] using ht)
  simp only[hp]
 |buildSlice T n parts=>
  have hp:(parts.toList.map fun p=>(p.1,s.ak p.2))=parts.toList.map fun p=>(p.1,s'.ak p.2):=List.map_congr_left fun p hp=>by
   rw[aW p.2 (by
    simp only[ho,Op.operands]
    exact List.mem_map.2 ⟨p,hp,rfl⟩)]
  simp only[hp]
 |extract x j=>
  cases x with
  |tmp t=>
   have:s.slot t=s'.slot t:=dw t (by simp [ho,Op.operands,gb])
   simp only[this]
  |_=>rfl
 |call c=>
  obtain⟨callee,args,ts⟩:=c
  cases callee with
  |value x=>
   cases x with
   |func f=>
    have aV:args.toList.map s.ak=args.toList.map s'.ak:=List.map_congr_left fun x hx=>aW x (by
     simp only[ho,Op.operands,Call.operands,Array.toList_append,List.mem_append]
     exact .inr hx)
    have dG:zy s (args.toList.map s'.ak)=zy s' (args.toList.map s'.ak):=nG fun id cm=>aU id (by
     simp only[zc,ho,List.mem_append]
     refine .inl ?_
     rw[<-aV,List.flatMap_map] at cm
     exact cm)
    simp only[b9,aV,dG]
    cases hd:o.dst with
    |none=>rfl
    |some d=>
     have:=h.bs (d+1) (by simp [zc,ho,hd])
     simp only[this]
   |tmp y=>
    have hy:s.ak (.tmp y)=s'.ak (.tmp y):=aW (.tmp y) (by
     simp only[ho,Op.operands,Call.operands,Array.toList_append,List.mem_append]
     exact .inl (by simp))
    have aV:args.toList.map s.ak=args.toList.map s'.ak:=List.map_congr_left fun x hx=>aW x (by
     simp only[ho,Op.operands,Call.operands,Array.toList_append,List.mem_append]
     exact .inr hx)
    simp only
    rw[<-hy]
    split
    ·rename_i id f t b e
     have dG:zy s (args.toList.map s'.ak++ [.ptr id t []])=zy s' (args.toList.map s'.ak++ [.ptr id t []]):=nG fun aS cm=>aU aS (by
      simp only[zc,ho,List.mem_append,e]
      rw[List.flatMap_append,List.mem_append] at cm
      rcases cm with cm|cm
      ·refine .inl ?_
       rw[<-aV,List.flatMap_map] at cm
       exact cm
      ·exact .inr (.inl (by simpa [aR] using cm)))
     simp only[b9,aV,dG]
     cases hd:o.dst with
     |none=>rfl
     |some d=>
      have:=h.bs (d+1) (by simp [zc,ho,hd])
      simp only[this]
    ·rename_i f t x u y e
     have dG:zy s (args.toList.map s'.ak++ [.view t x,.view u y])=zy s' (args.toList.map s'.ak++ [.view t x,.view u y]):=nG fun aS cm=>aU aS (by
      simp only[zc,ho,List.mem_append]
      rw[List.flatMap_append,List.mem_append] at cm
      rcases cm with cm|cm
      ·refine .inl ?_
       rw[<-aV,List.flatMap_map] at cm
       exact cm
      ·simp [aR] at cm)
     simp only[b9,aV,dG]
     cases hd:o.dst with
     |none=>rfl
     |some d=>
      have:=h.bs (d+1) (by simp [zc,ho,hd])
      simp only[this]
    ·rfl
   |_=>rfl
  |builtin b=>
   have aV:∀x∈args.toList,s.ak x=s'.ak x:=fun x hx=>aW x (by
    simp only[ho,Op.operands,Call.operands,Array.toList_append,List.mem_append]
    exact .inr hx)
   cases b with
   |copy=>
    simp only
    split
    ·rename_i d x T r e1 e2
     rw[aV x (by rw[e1];simp),<-aV d (by rw[e1];simp)]
     unfold copyV
     split
     ·rename_i e0 t0 id n ta tb hT e
      have hb:s.box id=s'.box id:=aU id (by simp only[zc,ho,e1,List.flatMap_cons,e,aR];exact List.mem_append_left _ (List.mem_singleton.2 rfl))
      simp only[cF,dp,hb]
     ·rename_i e0 t0 id n ta tb l hT e
      have hb:s.box id=s'.box id:=aU id (by simp only[zc,ho,e1,List.flatMap_cons,e,aR];exact List.mem_append_left _ (List.mem_singleton.2 rfl))
      simp only[cF,hb]
     ·rfl
    ·rfl
   |len=>
    simp only
    split
    ·rename_i x T e1 e2
     rw[aV x (by rw[e1];simp)]
    ·rfl
   |append=>
    simp only
    split
    ·rename_i x y T U e1 e2
     rw[aV x (by rw[e1];simp),aV y (by rw[e1];simp)]
    ·rfl
   |max=>
    simp only
    split
    ·rename_i x y e1
     rw[aV x (by rw[e1];simp),aV y (by rw[e1];simp)]
    ·rfl
   |min=>
    simp only
    split
    ·rename_i x y e1
     rw[aV x (by rw[e1];simp),aV y (by rw[e1];simp)]
    ·rfl
   |_=>rfl
  |_=>rfl
 |_=>rfl
end Go.Ref

namespace Go.Ref
open Go
variable {P:Program} {E:Env} {X:ah} {s:State} {a:Act} {o:Oper} {u:Out}
def z59:List (Nat×Nat)->Nat->List SV->List SV
 | [],_,l=>l
 |(i,j)::r,t,l=>z59 r t (if t=i then aP l j else l)
theorem z31{t:Nat}:∀{c:List (Nat×Nat)} {s:State},(s.close c).slot t=z59 c t (s.slot t)
 | [],s=>rfl
 |(i,j)::r,s=>by rw[z21,z31 (c:=r),qi];rfl
theorem zp{t:Nat}:∀{c:List (Nat×Nat)} {l:List SV},t∉c.map (·.1)->z59 c t l=l
 | [],l,h=>rfl
 |(i,j)::r,l,h=>by
  simp only[List.map_cons,List.mem_cons,not_or] at h
  simp only[z59]
  rw[if_neg h.1]
  exact zp h.2
theorem kV{d:Option Nat}:(s.apply d u).sl.length=s.sl.length:=by
 cases d with
 |none=>simp only[State.apply,State.au];cases u.bx<;>simp [State.ap,mK]
 |some d=>simp only[State.apply,State.au,List.length_set];cases u.bx<;>simp [State.ap,mK]
theorem mH{d:Option Nat}{t:Nat}:(s.apply d u).slot t=if d=some t/\t<s.sl.length then u.v else z59 u.cl t (s.slot t):=by
 have hb:∀(s:State) b,(s.ap b).slot t=s.slot t:=fun s b=>by cases b<;>rfl
 cases d with
 |none=>
  simp only[State.apply,State.au,hb,z31]
  rw[if_neg (by simp)]
 |some d=>
  simp only[State.apply]
  by_cases e:d=t
  ·subst e
   by_cases aw:d<s.sl.length
   ·rw[if_pos ⟨rfl,aw⟩]
    have:d<((s.close u.cl).ap u.bx).sl.length:=by
     have:((s.close u.cl).ap u.bx).sl.length=s.sl.length:=by cases u.bx<;>simp [State.ap,mK]
     omega
    simp only[State.au,State.slot,List.getD_eq_getElem?_getD,List.getElem?_set_self this,Option.getD_some]
   ·rw[if_neg (fun h=>aw h.2)]
    have:((s.close u.cl).ap u.bx).sl.length<=d:=by
     have:((s.close u.cl).ap u.bx).sl.length=s.sl.length:=by cases u.bx<;>simp [State.ap,mK]
     omega
    have h2:(((s.close u.cl).ap u.bx).au (some d) u.v).slot d=((s.close u.cl).ap u.bx).slot d:=by
     simp only[State.au,State.slot]
     rw[List.set_eq_of_length_le this]
    rw[h2,hb,z31]
  ·rw[if_neg (fun h=>e (by injection h.1))]
   have h2:(((s.close u.cl).ap u.bx).au (some d) u.v).slot t=((s.close u.cl).ap u.bx).slot t:=by
    simp only[State.au,State.slot,List.getD_eq_getElem?_getD,List.getElem?_set_ne e]
   rw[h2,hb,z31]
theorem mO{d:Option Nat}{id:Nat}:(s.apply d u).bs[id]? =match u.bx with
 |some (aS,B)=>if aS=id then(s.bs[id]?).map (fun _=>some B) else s.bs[id]?
 |none=>s.bs[id]? :=by
 have hs:∀(s:State) d l,(s.au d l).bs=s.bs:=fun s d l=>by cases d<;>rfl
 simp only[State.apply,hs]
 cases hb:u.bx with
 |none=>simp only[State.ap,jf]
 |some b=>
  obtain⟨aS,B⟩:=b
  simp only[State.ap,jf]
  rw[List.getElem?_set]
  by_cases e:aS=id
  ·subst e
   rw[if_pos rfl,if_pos rfl]
   by_cases aw:aS<s.bs.length
   ·rw[if_pos aw,List.getElem?_eq_getElem aw];rfl
   ·rw[if_neg aw,List.getElem?_eq_none (by omega)];rfl
  ·rw[if_neg e,if_neg e]
theorem y4{s s':State}(h1:s.sl.length=s'.sl.length)(h2:∀t,s.slot t=s'.slot t)(h3:∀id:Nat,s.bs[id]? =s'.bs[id]?):s=s':=by
 cases s with
 |mk sl bs=>
  cases s' with
  |mk BA Bo=>
   simp only[State.mk.injEq]
   refine⟨List.ext_getElem? fun i=> ?_,List.ext_getElem? h3⟩
   have:=h2 i
   simp only[State.slot,List.getD_eq_getElem?_getD] at this h1
   by_cases aw:i<sl.length
   ·rw[List.getElem?_eq_getElem aw,List.getElem?_eq_getElem (by omega)] at this⊢
    simpa using this
   ·rw[List.getElem?_eq_none (by omega),List.getElem?_eq_none (by omega)]
structure jU(R1 W1 b1 c1 R2 W2 b2 c2:List Nat):Prop where
 h1:∀t∈W1,t∉R2/\t∉W2
 h2:∀t∈W2,t∉R1
 h3:∀id∈c1,id∉b2/\id∉c2
 h4:∀id∈c2,id∉b1
theorem xp{o1 o2:Oper}{ops:List Oper}{i1 i2:Nat}{s1 s2:State}{u1 u2:Out}(h:(ze ops o1 i1 s1 u1).apart (ze ops o2 i2 s2 u2)=true):
 jU (looks ops o1) (o1.dst.toList++u1.cl.map (·.1)) (zc s1 o1) (u1.bx.toList.map (·.1)) (looks ops o2) (o2.dst.toList++u2.cl.map (·.1)) (zc s2 o2) (u2.bx.toList.map (·.1)):=by
 simp only[bK.apart,ze,Bool.and_eq_true] at h
 obtain⟨g1,g2,g3,g4⟩:=h
 refine⟨fun t ht=> ?_,fun t ht=> ?_,fun t ht=> ?_,fun t ht=> ?_⟩
 ·have:=nQ g1 t (by rw[jd];exact decide_eq_true ht)
  simp only[Nat.testBit_or,jd,Bool.or_eq_false_iff,decide_eq_false_iff_not] at this
  exact this
 ·have:=nQ g2 t (by rw[jd];exact decide_eq_true ht)
  simpa only[jd,decide_eq_false_iff_not] using this
 ·have:=nQ g3 t (by rw[jd];exact decide_eq_true ht)
  simp only[Nat.testBit_or,jd,Bool.or_eq_false_iff,decide_eq_false_iff_not] at this
  exact this
 ·have:=nQ g4 t (by rw[jd];exact decide_eq_true ht)
  simpa only[jd,decide_eq_false_iff_not] using this
theorem tn{d:Option Nat}{ts bs:List Nat}(h1:∀t∈ts,t∉d.toList++u.cl.map (·.1))(h2:∀id∈bs,id∉u.bx.toList.map (·.1)):eG ts bs (s.apply d u) s where
 sl:=fun t ht=>by
  have h:=h1 t ht
  simp only[List.mem_append,not_or] at h
  rw[mH,if_neg (fun hc=>h.1 (by rw[hc.1];simp)),zp h.2]
 bs:=fun id cm=>by
  have h:=h2 id cm
  rw[mO]
  cases hb:u.bx with
  |none=>rfl
  |some b=>
   obtain⟨aS,B⟩:=b
   rw[hb] at h
   simp only
   rw[if_neg (fun e=>h (by simp [e]))]
theorem xN{d1 d2:Option Nat}{u1 u2:Out}(h1:∀t∈d1.toList++u1.cl.map (·.1),t∉d2.toList++u2.cl.map (·.1))(h2:∀id∈u1.bx.toList.map (·.1),id∉u2.bx.toList.map (·.1)):
 (s.apply d1 u1).apply d2 u2=(s.apply d2 u2).apply d1 u1:=by
 refine y4 (by rw[kV,kV,kV,kV]) (fun t=> ?_) (fun id=> ?_)
 ·rw[mH,mH,mH,mH,kV,kV]
  by_cases kJ:d1=some t
  ·have hm:t∈d1.toList++u1.cl.map (·.1):=by rw[kJ];simp
   have hn:=h1 t hm
   simp only[List.mem_append,not_or] at hn
   have gx:¬d2=some t:=fun e=>hn.1 (by rw[e];simp)
   by_cases aw:t<s.sl.length
   ·rw[if_neg (fun h=>gx h.1),if_pos ⟨kJ,aw⟩,zp hn.2,if_pos ⟨kJ,aw⟩]
   ·rw[if_neg (fun h=>gx h.1),if_neg (fun h=>aw h.2),if_neg (fun h=>aw h.2),if_neg (fun h=>aw h.2),zp hn.2,zp hn.2]
  ·by_cases gx:d2=some t
   ·have hn:t∉d1.toList++u1.cl.map (·.1):=fun hm=>h1 t hm (by rw[gx];simp)
    simp only[List.mem_append,not_or] at hn
    by_cases aw:t<s.sl.length
    ·rw[if_pos ⟨gx,aw⟩,if_neg (fun h=>kJ h.1),if_pos ⟨gx,aw⟩,zp hn.2]
    ·rw[if_neg (fun h=>aw h.2),if_neg (fun h=>aw h.2),if_neg (fun h=>aw h.2),if_neg (fun h=>aw h.2),zp hn.2,zp hn.2]
   ·rw[if_neg (fun h=>gx h.1),if_neg (fun h=>kJ h.1),if_neg (fun h=>kJ h.1),if_neg (fun h=>gx h.1)]
    by_cases hm:t∈u1.cl.map (·.1)
    ·have hn:=h1 t (by simp only[List.mem_append];exact .inr hm)
     simp only[List.mem_append,not_or] at hn
     rw[zp hn.2,zp hn.2]
    ·rw[zp hm,zp hm]
 ·rw[mO,mO,mO,mO]
  cases nk:u1.bx with
  |none=>rfl
  |some b1=>
   obtain⟨pW,B1⟩:=b1
   cases pd:u2.bx with
   |none=>rfl
   |some b2=>
    obtain⟨sV,B2⟩:=b2
    rw[nk,pd] at h2
    have bu:pW≠sV:=fun e=>h2 pW (by simp) (by simp [e])
    simp only
    by_cases e1:pW=id
    ·subst e1
     rw[if_neg (fun e=>bu e.symm),if_pos rfl,if_pos rfl,if_neg (fun e=>bu e.symm)]
    ·by_cases e2:sV=id
     ·subst e2
      rw[if_pos rfl,if_neg e1,if_neg e1,if_pos rfl]
     ·rw[if_neg e2,if_neg e1,if_neg e1,if_neg e2]
theorem tF{ops:List Oper}{s s':State}(h:∀t∈looks ops o,s.slot t=s'.slot t):zc s o=zc s' o:=by
 have aW:∀x∈o.op.operands.toList,s.ak x=s'.ak x:=fun x hx=>qG (ts:=gb o.op.operands.toList) (fun t ht=>h t (by simp only[looks,List.mem_append];exact .inl ht)) (fun _ ht=>ht) hx
 unfold zc
 cases ho:o.op with
 |load T x=>simp only;rw[aW x (by simp [ho,Op.operands])]
 |store T x y=>simp only;rw[aW x (by simp [ho,Op.operands])]
 |convert S T x=>simp only;rw[aW x (by simp [ho,Op.operands])]
 |slice T x lo hi mx=>simp only;rw[aW x (by simp [ho,Op.operands])]
 |lookup T x i ok=>simp only;rw[aW x (by simp [ho,Op.operands])]
 |mapUpdate T m k x=>simp only;rw[aW m (by simp [ho,Op.operands])]
 |insert T m k x=>simp only;rw[aW m (by simp [ho,Op.operands])]
 |next x str=>simp only;rw[aW x (by simp [ho,Op.operands])]
 |call c=>
  obtain⟨callee,args,ts⟩:=c
  have:(args.toList.map fun x=>aR (s.ak x))=args.toList.map fun x=>aR (s'.ak x):=List.map_congr_left fun x hx=>by
   rw[aW x (by
    simp only[ho,Op.operands,Call.operands,Array.toList_append,List.mem_append]
    exact .inr hx)]
  cases callee with
  |value f=>
   simp only
   have hf:s.ak f=s'.ak f:=aW f (by
    simp only[ho,Op.operands,Call.operands,Array.toList_append,List.mem_append]
    exact .inl (by simp))
   rw[hf,List.flatMap_def,List.flatMap_def,this]
  |builtin b=>
   cases b with
   |copy=>simp only;rw[List.flatMap_def,List.flatMap_def,this]
   |_=>rfl
  |_=>rfl
 |_=>rfl
theorem uw{C:ay}{ops:List Oper}{s s':State}(h:eG (looks ops o) (zc s o) s s'):bV E C ops o s=bV E C ops o s':=by
 unfold bV
 rw[yi h]
 split
 ·rfl
 ·rename_i g want hg
  split
  ·rfl
  ·rename_i d hd
   rw[h.sl d (by simp [looks,hg,hd])]
theorem swap{C:ay}{ops:List Oper}{o1 o2:Oper}{i1 i2:Nat}{u1 u2:Out}(h1:bV E C ops o1 s=some u1)(h2:bV E C ops o2 (s.apply o1.dst u1)=some u2)(h:(ze ops o1 i1 s u1).apart (ze ops o2 i2 (s.apply o1.dst u1) u2)=true):
 bV E C ops o2 s=some u2/\ze ops o2 i2 s u2=ze ops o2 i2 (s.apply o1.dst u1) u2/\bV E C ops o1 (s.apply o2.dst u2)=some u1/\ze ops o1 i1 (s.apply o2.dst u2) u1=ze ops o1 i1 s u1/\
  (s.apply o2.dst u2).apply o1.dst u1=(s.apply o1.dst u1).apply o2.dst u2:=by
 have hp:=xp h
 have si:eG (looks ops o2) (zc (s.apply o1.dst u1) o2) (s.apply o1.dst u1) s:=tn (fun t ht hm=>(hp.h1 t hm).1 ht) (fun id cm hm=>(hp.h3 id hm).1 cm)
 have cP:=tF (ops:=ops) (o:=o2) si.sl
 have oM:eG (looks ops o1) (zc s o1) (s.apply o2.dst u2) s:=tn (fun t ht hm=>hp.h2 t hm ht) (fun id cm hm=>hp.h4 id hm cm)
 have cp:=tF (ops:=ops) (o:=o1) oM.sl
 refine⟨by rw[<-uw si];exact h2,by simp only[ze,cP],?_,by simp only[ze,cp],(xN (fun t ht=>(hp.h1 t ht).2) (fun id cm=>(hp.h3 id cm).2)).symm⟩
 rw[uw (s:=s.apply o2.dst u2) (s':=s) ⟨oM.sl,fun id cm=>oM.bs id (by rw[<-cp];exact cm)⟩]
 exact h1
end Go.Ref

namespace Go.Ref
open Go
variable {P:Program} {E:Env} {X:ah} {s:State} {a:Act} {o:Oper} {u:Out}
def fL(E:Env)(C:ay)(ops:Array Oper):List Nat->State->List bK->State->Prop
 | [],s,tr,z=>s=z/\tr=[]
 |i::r,s,f::tr,z=>∃u,bV E C ops.toList (ops.getD i default) s=some u/\f=ze ops.toList (ops.getD i default) i s u/\fL E C ops r (s.apply (ops.getD i default).dst u) tr z
 |_::_,_,[],_=>False
def oL(ops:Array Oper)(i:Nat):Nat:=zk (ops.getD i default).after.toList
def jT(ops:Array Oper)(a b:bK):Prop:=(oL ops b.i).testBit a.i=true\/a.apart b=true
theorem vE{C:ay}{ops:Array Oper}:∀{l:List Nat} {s z:State} {tr:List bK},fL E C ops l s tr z->tr.map (·.i)=l
 | [],s,z,tr,h=>by rw[h.2];rfl
 |i::r,s,z,f::tr,h=>by
  obtain⟨u,_,rfl,h3⟩:=h
  simp only[List.map_cons,vE h3]
  rfl
 |_::_,s,z,[],h=>h.elim
theorem tG{C:ay}(hC:C.Nat){ops:Array Oper}{z:State}:∀(l:List Nat) (i:Nat) (s:State) (tr:List bK),(∀(j:Nat) k,l[j]? =some k->k=i+j)->
 jS E (C State) ops.toList (l.map fun k=>ops.getD k default) i s tr some=some z->∃kp,fL E C ops l s kp z/\(∀a∈tr,∀b∈kp,jT ops a b)/\kp.Pairwise (jT ops)/\∀k∈l,Nat.ble (oL ops k+1) (bit k)=true
 | [],i,s,tr,hl,h=>by
   cases h
   exact⟨[],⟨rfl,rfl⟩,(fun a _ b hb=>by cases hb),List.Pairwise.nil,fun k hk=>by cases hk⟩
 |k::r,i,s,tr,hl,h=>by
  have hk:k=i:=by simpa using hl 0 k rfl
  subst hk
  simp only[List.map_cons,jS] at h
  obtain⟨u,h1,h2,h3⟩:=y6 hC h
  obtain⟨kp,r1,r2,r3,r4⟩:=tG hC r (k+1) _ _ (fun j k' hj=>by
   have:=hl (j+1) k' hj
   omega) h3
  simp only[fits,Bool.and_eq_true] at h2
  obtain⟨vI,oY⟩:=h2
  have oY:=List.all_eq_true.1 oY
  refine⟨ze ops.toList (ops.getD k default) k s u::kp,⟨u,h1,rfl,r1⟩,fun a ha b hb=> ?_,?_,fun k' lW=> ?_⟩
  ·rcases List.mem_cons.1 hb with rfl|hb
   ·have:=oY a ha
    simp only[Bool.or_eq_true] at this
    exact this
   ·exact r2 a (List.mem_cons_of_mem _ ha) b hb
  ·exact List.pairwise_cons.2 ⟨fun b hb=>r2 _ (by simp) b hb,r3⟩
  ·rcases List.mem_cons.1 lW with rfl|lW
   ·exact vI
   ·exact r4 k' lW
theorem u7{C:ay}{ops:Array Oper}{z:State}{i:Nat}{q:List Nat}:∀(p:List Nat) (s:State) (tr:List bK),fL E C ops (p++i::q) s tr z->(∀(tp:List bK) f tq,tr=tp++f::tq->tp.length=p.length->∀a∈tp,a.apart f=true)->
 ∃tp f tq u,tr=tp++f::tq/\tp.length=p.length/\bV E C ops.toList (ops.getD i default) s=some u/\f=ze ops.toList (ops.getD i default) i s u/\fL E C ops (p++q) (s.apply (ops.getD i default).dst u) (tp++tq) z
 | [],s,[],h,lN=>h.elim
 | [],s,f::tr,h,lN=>by
   obtain⟨u,h1,h2,h3⟩:=h
   exact⟨[],f,tr,u,rfl,rfl,h1,h2,h3⟩
 |j::p,s,[],h,lN=>h.elim
 |j::p,s,g::tr,h,lN=>by
  obtain⟨uj,h1,h2,h3⟩:=h
  obtain⟨tp,f,tq,u,e1,e2,k1,k2,k3⟩:=u7 p _ tr h3 (fun tp f tq e hl a ha=>lN (g::tp) f tq (by rw[e];rfl) (by simp [hl]) a (List.mem_cons_of_mem _ ha))
  have hg:=lN (g::tp) f tq (by rw[e1];rfl) (by simp [e2]) g (by simp)
  rw[h2,k2] at hg
  obtain⟨w1,w2,w3,w4,w5⟩:=swap h1 k1 hg
  refine⟨g::tp,f,tq,u,by rw[e1];rfl,by simp [e2],w1,by rw[k2,w2],uj,w3,by rw[h2,w4],?_⟩
  rw[w5]
  exact k3
theorem AB{l:List Nat}{i:Nat}(h:i∈l):∃p q,l=p++i::q:=List.append_of_mem h
theorem x4{p q:List Nat}{i:Nat}(h:(p++i::q).Nodup):(p++i::q).filter (fun j=> !(Nat.beq j i))=p++q:=by
 have h':=List.nodup_append.1 h
 have hp:∀j∈p,j≠i:=fun j hj=>h'.2.2 j hj i (by simp)
 have hq:∀j∈q,j≠i:=fun j hj e=>by
  have:=(List.nodup_cons.1 h'.2.1).1
  rw[e] at hj;exact this hj
 rw[List.filter_append,List.filter_cons]
 have hb:∀j,j≠i->(!(Nat.beq j i))=true:=fun j hj=>by
  cases hh:Nat.beq j i with
  |false=>rfl
  |true=>exact absurd (Nat.eq_of_beq_eq_true hh) hj
 rw[List.filter_eq_self.2 (fun j hj=>hb j (hp j hj)),List.filter_eq_self.2 (fun j hj=>hb j (hq j hj))]
 have:(!(Nat.beq i i))=false:=by simp
 rw[this]
 simp
def rest(n:Nat)(ar:Array Bool):List Nat:=(List.range n).filter fun i=> !ar.getD i true
theorem Az{n:Nat}{ar:Array Bool}(hs:ar.size=n){i:Nat}{p q:List Nat}(h:rest n ar=p++i::q):rest n (ar.setIfInBounds i true)=p++q:=by
 have pD:(rest n ar).Nodup:=List.nodup_range.filter _
 rw[h] at pD
 rw[<-x4 pD,<-h]
 simp only[rest,List.filter_filter]
 refine List.filter_congr fun j hj=> ?_
 have vZ:=List.mem_range.1 hj
 by_cases e:j=i
 ·subst e
  have:(ar.setIfInBounds j true).getD j true=true:=by simp [Array.getD_eq_getD_getElem?,hs,vZ]
  rw[this];simp
 ·have h1:(ar.setIfInBounds i true).getD j true=ar.getD j true:=by
   simp only[Array.getD_eq_getD_getElem?]
   rw[Array.getElem?_setIfInBounds_ne (fun h=>e h.symm)]
  have h2:Nat.beq j i=false:=by
   cases hh:Nat.beq j i with
   |false=>rfl
   |true=>exact absurd (Nat.eq_of_beq_eq_true hh) e
  rw[h1,h2];simp
theorem uy{ops:Array Oper}{ar:Array Bool}{i:Nat}(h:i∈Region.ready .any ops ar):i∈rest ops.size ar/\∀e∈(ops.getD i default).after.toList,Region.binds .any e=true->ar.getD e.on false=true:=by
 unfold Region.ready at h
 obtain⟨h1,h2⟩:=List.mem_filter.1 h
 have hi:=List.mem_range.1 h1
 rw[Bool.and_eq_true] at h2
 refine⟨List.mem_filter.2 ⟨h1,h2.1⟩,fun e he hb=> ?_⟩
 have h3:=h2.2
 rw[Array.getElem?_eq_getElem hi] at h3
 simp only[Option.map_some,Option.getD_some] at h3
 have bf:ops.getD i default=ops[i]:=by simp [hi]
 rw[bf] at he
 have h4:=Array.all_eq_true_iff_forall_mem.1 h3 e (by simpa using he)
 rw[hb] at h4
 simpa using h4
theorem Ay{ops:Array Oper}{ar:Array Bool}{i:Nat}(h:i∈rest ops.size ar)(ha:∀e∈(ops.getD i default).after.toList,Region.binds .any e=true->ar.getD e.on false=true):i∈Region.ready .any ops ar:=by
 obtain⟨h1,h2⟩:=List.mem_filter.1 h
 have hi:=List.mem_range.1 h1
 refine List.mem_filter.2 ⟨h1,?_⟩
 rw[Bool.and_eq_true]
 refine⟨h2,?_⟩
 have bf:ops.getD i default=ops[i]:=by simp [hi]
 rw[Array.getElem?_eq_getElem hi]
 simp only[Option.map_some,Option.getD_some]
 refine Array.all_eq_true_iff_forall_mem.2 fun e he=> ?_
 cases hb:Region.binds .any e with
 |false=>rfl
 |true=>
  rw[ha e (by rw[bf];simpa using he) hb]
  simp
theorem Ag(hE:ag P E){C:ay}(hC:C.Nat)(hf:∀f,bW P C f){ops:Array Oper}{z:State}{Q:Exit->Act->World->Prop}(pw:∀k,k<ops.size->Nat.ble (oL ops k+1) (bit k)=true):
 ∀(aZ:Nat) (ar:Array Bool) (X:ah) (s:State) (a:Act) (tr:List bK),Rel X s a->ar.size=ops.size->aZ=(rest ops.size ar).length->fL E C ops (rest ops.size ar) s tr z->tr.Pairwise (jT ops)->
  (∀Y a',Ext X Y->Rel Y z a'->Q .normal a' Y.w)->wpAny P .any ops Q aZ ar a X.w:=by
 intro aZ
 have done:∀(ar:Array Bool),ar.size=ops.size->Region.ready .any ops ar=[]->rest ops.size ar=[]:=by
  intro ar hs hr
  rcases hl:rest ops.size ar with _|⟨i,r⟩
  ·rfl
  have du:i∈rest ops.size ar:=by rw[hl];simp
  have cw:=List.mem_range.1 (List.mem_filter.1 du).1
  have gL:i∈Region.ready .any ops ar:=by
   refine Ay du fun e he hb=> ?_
   have aw:e.on<i:=ym (pw i cw) (z87 _ e he hb)
   cases hx:ar.getD e.on false with
   |true=>rfl
   |false=>
    exfalso
    have gB:e.on<ar.size:=by omega
    have wN:ar.getD e.on true=false:=by
     simp only[Array.getD_eq_getD_getElem?,Array.getElem?_eq_getElem gB,Option.getD_some] at hx⊢
     exact hx
    have hm:e.on∈rest ops.size ar:=List.mem_filter.2 ⟨List.mem_range.2 (by omega),by rw[wN];rfl⟩
    have fF:(rest ops.size ar).Pairwise (· < ·):=List.pairwise_lt_range.filter _
    rw[hl] at fF hm
    rcases List.mem_cons.1 hm with e1|hm
    ·omega
    ·have:=(List.pairwise_cons.1 fF).1 _ hm
     omega
  rw[hr] at gL
  cases gL
 induction aZ with
 |zero=>
  intro ar X s a tr hr hs kK dT mc hQ
  have gF:rest ops.size ar=[]:=List.eq_nil_of_length_eq_zero kK.symm
  rw[gF] at dT
  obtain⟨rfl,_⟩:=dT
  refine⟨?_,hQ X a (Ext.refl X) hr⟩
  rcases wC:Region.ready .any ops ar with _|⟨i,r⟩
  ·rfl
  ·have:=(uy (i:=i) (by rw[wC];simp)).1
   rw[gF] at this
   cases this
 |succ aZ ih=>
  intro ar X s a tr hr hs kK dT mc hQ
  refine⟨fun l6=> ?_,fun i hi=> ?_⟩
  ·rw[done ar hs l6] at kK
   cases kK
  ·obtain⟨du,pc⟩:=uy hi
   obtain⟨p,q,nv⟩:=AB du
   have cw:=List.mem_range.1 (List.mem_filter.1 du).1
   rw[nv] at dT
   have iN:=vE dT
   obtain⟨tp,f,tq,u,e1,e2,k1,k2,k3⟩:=u7 p s tr dT (fun tp f tq e hl a' sA=>by
    have iI:f.i=i:=by
     rw[e,List.map_append,List.map_cons] at iN
     have:=List.append_inj iN (by simp [hl])
     injection this.2
    have vM:a'.i∈p:=by
     rw[e,List.map_append,List.map_cons] at iN
     have:=List.append_inj iN (by simp [hl])
     rw[<-this.1]
     exact List.mem_map.2 ⟨a',sA,rfl⟩
    rw[e] at mc
    have lR:=(List.pairwise_append.1 mc).2.2 a' sA f (by simp)
    rcases lR with hb|hb
    ·exfalso
     rw[iI] at hb
     obtain⟨ed,vP,vQ,vR⟩:=qn _ _ hb
     have gA:=pc ed vP vQ
     have bZ:a'.i∈rest ops.size ar:=by rw[nv];exact List.mem_append_left _ vM
     have ff:=(List.mem_filter.1 bZ).2
     have aw:=List.mem_range.1 (List.mem_filter.1 bZ).1
     have gB:a'.i<ar.size:=by omega
     rw[vR] at gA
     simp only[Array.getD_eq_getD_getElem?,Array.getElem?_eq_getElem gB,Option.getD_some] at gA ff
     rw[gA] at ff
     cases ff
    ·exact hb)
   have bZ:=Az hs nv
   have vX:ops[i]? =some (ops.getD i default):=by simp [cw]
   refine z85 hE hr hC hf vX (xJ hC k1) fun Y a' aC aF=> ?_
   refine ih (ar.setIfInBounds i true) Y _ a' (tp++tq) aF (by simp [hs]) ?_ (by rw[bZ];exact k3) ?_ (fun Z a2 aQ bE=>hQ Z a2 (aC.trans aQ) bE)
   ·rw[bZ]
    rw[nv] at kK
    simp only[List.length_append,List.length_cons] at kK⊢
    omega
   ·rw[e1] at mc
    obtain⟨a1,a2,a3⟩:=List.pairwise_append.1 mc
    exact List.pairwise_append.2 ⟨a1,(List.pairwise_cons.1 a2).2,fun x hx y hy=>a3 x hx y (List.mem_cons_of_mem _ hy)⟩
theorem yH(hE:ag P E)(hm:P.follows .mixedOrders=true){C:ay}(hC:C.Nat)(hf:∀f,bW P C f){id:Nat}{ops:Array Oper}{z:State}{Q:Exit->Act->World->Prop}(hr:Rel X s a)(h:jS E (C State) ops.toList ops.toList 0 s [] some=some z)
 (hQ:∀Y a',Ext X Y->Rel Y z a'->Q .normal a' Y.w):(Code.region id ops true).wp P Q a X.w:=by
 have fk:(List.range ops.size).map (fun i=>ops.getD i default)=ops.toList:=by
  apply List.ext_getElem?
  intro i
  rw[List.getElem?_map]
  by_cases hi:i<ops.size
  ·simp [hi]
  ·simp [hi]
 have bZ:rest ops.size (Array.replicate ops.size false)=List.range ops.size:=by
  refine List.filter_eq_self.2 fun i hi=> ?_
  have:=List.mem_range.1 hi
  simp [this]
 obtain⟨kp,r1,_,r3,r4⟩:=tG hC (List.range ops.size) 0 s [] (fun j k hj=>by
  have:=(List.getElem?_eq_some_iff.1 hj)
  obtain⟨h1,h2⟩:=this
  simp at h2
  omega) (by rw[fk];exact h)
 have hk:b5 s X {X with w:={X.w with drawn:=X.w.drawn+1}}:=⟨Nat.le_refl _,rfl,rfl,rfl,fun g _=>⟨rfl,rfl⟩,rfl,fun _ _ _=>rfl⟩
 refine wp_region_any hm ?_
 exact Ag hE hC hf (fun k hk=>r4 k (List.mem_range.2 hk)) ops.size (Array.replicate ops.size false) _ s a kp (hr.bQ hk) (by simp) (by rw[bZ];simp) (by rw[bZ];exact r1) r3 (fun Y a' aC aF=>hQ Y a' (hk.ext.trans aC) aF)
end Go.Ref

namespace Go.Ref
open Go
variable {P:Program} {E:Env} {X:ah} {s:State} {a:Act}
theorem aA.flat{X Y:ah}:∀{t:Ty} {x:El t} {cs:List Value},t.flat=true->aA X t x cs->aA Y t x cs
 | .bool,_,_,_,hr=>hr
 | .int _,_,_,_,hr=>hr
 | .str,_,_,_,hr=>hr
 | .unit,_,_,_,hr=>hr
 | .sl _ _,_,_,hf,_=>by cases hf
 | .aG _ _ _,_,_,hf,_=>by cases hf
 | .aL n t,xs,cs,hf,⟨h1,h2,h3⟩=>⟨h1,h2,fun j x hj=>aA.flat (t:=t) hf (h3 j x hj)⟩
 | .pair a b,x,cs,hf,⟨c1,c2,h1,h2,h3⟩=>by
   have hf:(a.flat&&b.flat)=true:=hf
   rw[Bool.and_eq_true] at hf
   exact⟨c1,c2,h1,aA.flat hf.1 h2,aA.flat hf.2 h3⟩
theorem ai.flat{X Y:ah}{pl:List Nat->Place}{sv:SV}{v:Value}(hf:sv.flat=true)(hr:ai X pl sv v):ai Y pl sv v:=by
 cases sv with
 |al t x own=>
  have hf:(t.flat&&own.isEmpty)=true:=hf
  rw[Bool.and_eq_true] at hf
  obtain⟨cs,h1,h2,_⟩:=hr
  have:own=[]:=List.isEmpty_iff.1 hf.2
  subst this
  exact⟨cs,h1.flat hf.1,h2,zr⟩
 |undef=>trivial
 |skip=>exact hr
 |bc=>exact hr
 |cK=>exact hr
 |over=>exact hr
 |_=>cases hf
theorem qC{o:Nat}:∀{sl:List (List SV)} {i:Nat},dS o i sl=true->∀(j:Nat) l,sl[j]? =some l->i+j≠o->∀sv∈l,SV.flat sv=true
 | [],i,_,j,l,h,_=>by simp at h
 |l0::r,i,h,j,l,hl,bu=>by
  rw[dS,Bool.and_eq_true,Bool.or_eq_true] at h
  cases j with
  |zero=>
   cases hl
   rcases h.1 with h1|h1
   ·exact absurd (Nat.eq_of_beq_eq_true h1) bu
   ·exact fun sv hm=>List.all_eq_true.1 h1 sv hm
  |succ j=>exact qC h.2 j l hl (by omega)
structure fb(X:ah)(a:Act)(o:Nat)(e:TypeId)(xs:List Int)(own:List (List Nat))(g c:Nat)(cur:Array Value):Prop where
 val:a.tmps.getD o Go.undef= .slice (some ⟨g,0,none⟩) xs.length c
 heap:X.w.heap[g]? =some (.cells cur e (0,0))
 cell:∀(j:Nat) x,xs[j]? =some x->X.w.cell? ⟨g,j,none⟩=some (.int .u8 x)
 le:xs.length<=c
 most:c<=maxLen
 size:cur.size=c
 ow:X.ow g= .row (.c o 0 []) (xs.length*1)
 own:∀p∈own,p=[]
theorem A7{o:Nat}{e:TypeId}{xs:List Int}{own:List (List Nat)}(hr:Rel X s a)(hs:s.slot o=[.al (.sl e (.int .u8)) xs own])(bn:eZ own []=true){i:Nat}(hi:i<xs.length):∃g c cur,fb X a o e xs own g c cur:=by
 have dw:=hr.slot o
 rw[hs] at dw
 obtain⟨cs,av,hv,hO⟩:=(show ai X (.c o 0) (.al (.sl e (.int .u8)) xs own) (a.tmps.getD o Go.undef) from dw)
 have du:([]:List Nat)∈own:=by
  unfold eZ at bn
  obtain⟨q,h1,h2⟩:=List.any_eq_true.1 bn
  have:q=[]:=by simpa using h2
  rw[<-this];exact h1
 have cT:∀p∈own,p=[]:=fun p hp=>by
  obtain⟨e2,t2,BF,v2,g1,g2,g3,g4⟩:=hO p hp
  cases p with
  |cons q r=>simp [El.get] at g2
  |nil=>rfl
 obtain⟨e1,t1,tc,v1,_,hg,hc,aT⟩:=hO [] du
 simp only[El.get,Option.some.injEq] at hg
 cases hg
 obtain⟨A,c,cu,hle,b7⟩:=av
 subst cu
 have hv:a.tmps.getD o Go.undef= .slice A xs.length c:=hv
 have jw:v1= .slice A xs.length c:=by
  have:([Value.slice A xs.length c]:List Value)[0]? =some v1:=hc
  simpa using this.symm
 subst jw
 rcases aT with⟨_,h0⟩|⟨g,cap,cur,h1,h2,h3,h4,h5,h6⟩
 ·have h0:List.length xs=0:=h0
  omega
 injection h1 with k1 k2 k3
 subst k1 k3
 have h5:cur.size=c*1:=h5
 have h6:X.ow g= .row (.c o 0 []) (List.length xs*1):=h6
 have cG:∀(j:Nat) x,xs[j]? =some x->X.w.cell? ⟨g,j,none⟩=some (.int .u8 x):=fun j x hj=>by
  obtain⟨ad,bT,e1,_,e2,e3⟩:=b7 j x hj
  cases e1
  have e2:bT=[.int .u8 x]:=e2
  subst e2
  have:=(e3 0 (.int .u8 x) rfl).2.1
  rw[zn] at this
  simpa [Ty.cells] using this
 exact⟨g,c,cur,hv,h2,cG,hle,h4,by omega,h6,cT⟩
theorem Ax{o:Nat}{e:TypeId}{xs:List Int}{own:List (List Nat)}{X0:ah}(hF:∀g pl n,X0.ow g≠ .row pl n)(hx:Ext X0 X)(hr:Rel X s a)(ho:o<s.sl.length)(hZ:dS o 0 s.sl=true)(dG:s.bs.all Option.isNone=true)
 {g c:Nat} {cur:Array Value} (hR:fb X a o e xs own g c cur) {i:Nat} (hi:i<xs.length) (z:Int):
   Ext X0 (X.row g (cur.toList.take i++ [Value.int .u8 z]++cur.toList.drop (i+1)).toArray)/\Rel (X.row g (cur.toList.take i++ [Value.int .u8 z]++cur.toList.drop (i+1)).toArray) ⟨s.sl.set o [.al (.sl e (.int .u8)) (xs.set i z:List Int) own],s.bs⟩ a:=by
 obtain⟨hv,h2,cG,hle,h4,h5,h6,cT⟩:=hR
 refine⟨?_,?_⟩
 ·
  have ep:∀b,b≠g->(X.row g (cur.toList.take i++ [Value.int .u8 z]++cur.toList.drop (i+1)).toArray).w.heap[b]? =X.w.heap[b]? :=fun b hb=>setRow_other X.w g b _ hb
  have iM:∀ad v,X0.aj ad v->ad.block≠g:=fun ad v bJ e0=>by
   have aw:=ah.eA bJ
   have hu:=bJ.2.2
   cases hw:X0.ow ad.block with
   |all=>have:=(hx.still ad.block aw (by rw[hw];trivial)).1;rw[e0,h6] at this;rw[<-e0,hw] at this;cases this
   |ro n=>have:=(hx.still ad.block aw (by rw[hw];trivial)).1;rw[e0,h6] at this;rw[<-e0,hw] at this;cases this
   |box id=>rw[hw] at hu;exact hu
   |row pl n=>exact hF _ _ _ hw
  refine⟨fun ad v bJ=> ?_,?_,hx.os,hx.tape,hx.output,hx.β0,fun b hb bp=> ?_⟩
  ·have h7:=hx.aj ad v bJ
   refine⟨h7.1,?_,h7.2.2⟩
   have:=h7.2.1
   simp only[World.cell?] at this⊢
   rw[ep _ (iM ad v bJ)];exact this
  ·have:=hx.size
   simpa [ah.row] using this
  ·have h7:=hx.still b hb bp
   have bu:b≠g:=fun e0=>by
    have h8:=h7.1
    rw[e0,h6] at h8
    rw[e0,<-h8] at bp
    exact bp
   exact⟨h7.1,(ep b bu).trans h7.2⟩
 ·generalize gE:(cur.toList.take i++ [Value.int .u8 z]++cur.toList.drop (i+1)).toArray=new
  have ff:new.toList=cur.toList.take i++ [Value.int .u8 z]++cur.toList.drop (i+1):=by rw[<-gE]
  have b8:new.size=cur.size:=by
   have:new.toList.length=cur.toList.length:=by rw[ff];simp;omega
   simpa using this
  have aq:(X.row g new).w.heap[g]? =some (.cells new e (0,0)):=setRow_heap X.w g cur new e (0,0) h2
  refine⟨by simpa using hr.size,by simpa using hr.cN,fun j l v hl gQ=> ?_,fun id B hB=> ?_,fun j l id t p hl hm=> ?_,hr.defers⟩
  ·rw[List.getElem?_set] at hl
   by_cases l8:o=j
   ·subst l8
    rw[if_pos rfl,if_pos ho] at hl
    cases hl
    have wI:a.tmps.getD o Go.undef=v:=by rw[Array.getD_eq_getD_getElem?,gQ];rfl
    rw[wI] at hv
    subst hv
    refine⟨[.slice (some ⟨g,0,none⟩) xs.length c],?_,rfl,fun p hp=> ?_⟩
    ·refine aA.iX (t:= .int .u8) (List.length_set ..) hle fun j x hj=>⟨⟨g,0,none⟩,[.int .u8 x],rfl,rfl,rfl,fun k w hk=> ?_⟩
     have iJ:j<xs.length:=by have:=(List.getElem?_eq_some_iff.1 hj).1;rw[List.length_set] at this;exact this
     cases k with
     |succ k=>simp at hk
     |zero=>
      have hk:Value.int .u8 x=w:=by simpa using hk
      subst hk
      refine⟨jL rfl _,?_,?_⟩
      ·rw[zn]
       show(X.row g new).w.cell? _=_
       simp only[World.cell?,aq,Ty.cells]
       rw[show 0+(j*1+0)=j by omega,<-Array.getElem?_toList,ff]
       have hj:(xs.set i z)[j]? =some x:=hj
       rw[List.getElem?_set] at hj
       have sI:i<cur.toList.length:=by simp;omega
       by_cases sJ:i=j
       ·subst sJ
        rw[if_pos rfl,if_pos hi] at hj
        cases hj
        rw[List.append_assoc,List.getElem?_append_right (by simp;omega)]
        have:i-(cur.toList.take i).length=0:=by simp;omega
        rw[this];rfl
       ·rw[if_neg sJ] at hj
        have hP:=cG j x hj
        simp only[World.cell?,h2] at hP
        rw[<-Array.getElem?_toList] at hP
        rcases Nat.lt_or_ge j i with aw|pn
        ·rw[List.append_assoc,List.getElem?_append_left (by simp;omega),List.getElem?_take,if_pos aw]
         exact hP
        ·have sH:i<j:=by omega
         rw[List.getElem?_append_right (by simp;omega),List.getElem?_drop]
         have:i+1+(j-(cur.toList.take i++ [Value.int .u8 z]).length)=j:=by simp;omega
         rw[this]
         exact hP
      ·rw[zn]
       show Ow.used (X.ow g) _
       rw[h6]
       show _<_
       simp only[Ty.cells]
       omega
    ·have:=cT p hp
     subst this
     refine⟨e,.int .u8,(xs.set i z:List Int),_,by simp [Ty.b6],rfl,rfl,?_⟩
     have v8:List.length (xs.set i z)=xs.length:=List.length_set ..
     rw[v8]
     exact .inr ⟨g,c,new,rfl,aq,hle,h4,by rw[b8,h5];simp [Ty.cells],h6⟩
   ·rw[if_neg l8] at hl
    have:=qC hZ j l hl (by omega)
    exact(hr.aM j l v hl gQ).dJ fun k sv u hk hu=>hu.flat (this sv (List.mem_of_getElem? hk))
  ·have:=List.all_eq_true.1 dG (some B) (List.mem_of_getElem? hB)
   cases this
  ·rw[List.getElem?_set] at hl
   by_cases l8:o=j
   ·subst l8
    rw[if_pos rfl,if_pos ho] at hl
    cases hl
    simp at hm
   ·rw[if_neg l8] at hl
    have:=qC hZ j l hl (by omega) _ hm
    cases this
theorem fK{a:Act}{d i:Nat}{v:Value}(hd:d<a.tmps.size):(a.put (some d) v).tmps.getD i Go.undef=if d=i then v else a.tmps.getD i Go.undef:=by
 simp only[Act.put,Array.getD_eq_getD_getElem?,Array.getElem?_setIfInBounds]
 split
 ·first|rfl|(rw[if_pos hd];rfl)
 ·rfl
theorem gj{a:Act}{d:Nat}{v:Value}:(a.put (some d) v).tmps.size=a.tmps.size:=by simp [Act.put]
theorem raw{ops:Array Oper}{Q:Exit->Act->World->Prop}{i d:Nat}{rest:List Nat}{a:Act}{w:World}{o:Oper}{v:Value}(hi:ops[i]? =some o)(hd:isDst o d=true)(aB:(execOp a.eval o).run P w= .ok (.value v) w)(K:wpOps P ops Q rest (a.put (some d) v) w):wpOps P ops Q (i::rest) a w:=by
 have gf:o.dst=some d/\o.guard=none:=by
  unfold isDst at hd
  split at hd
  ·rename_i d' h1 h2
   exact⟨by rw[h1,Nat.eq_of_beq_eq_true hd],h2⟩
  ·cases hd
 rw[wpOps_cons]
 unfold wpOp
 simp only[hi]
 have hw:Region.wanted o (yielded ops a.tmps)=true:=by simp [Region.wanted,gf.2]
 rw[if_pos hw]
 refine .inl ?_
 unfold Oper.wp
 rw[aB,Oper.upon_value,gf.1]
 exact K
theorem il{x:Operand}{i:Nat}(h:b3 x i=true):x= .tmp i:=by
 unfold b3 at h
 split at h
 ·rw[Nat.eq_of_beq_eq_true h]
 ·cases h
theorem vh{T:TypeId}(h:iP E T=true):E.ty T=some (.int .u8):=by
 unfold iP at h
 split at h
 ·assumption
 ·cases h
theorem tO{T:TypeId}(h:n4 E T=true):∃e,E.ty T=some (.sl e (.int .u8)):=by
 unfold n4 at h
 split at h
 ·exact⟨_,by assumption⟩
 ·cases h
theorem im{o:Oper}{d x:Nat}(h:kC o d x=true):isDst o d=true/\∀(a:Act) (w:World),(execOp a.eval o).run P w= .ok (.value (a.tmps.getD x Go.undef)) w:=by
 unfold kC at h
 rw[Bool.and_eq_true] at h
 refine⟨h.1,fun a w=> ?_⟩
 have h:=h.2
 split at h
 ·rename_i y ho
  have:=il h
  subst this
  simp only[execOp,ho]
  rfl
 ·cases h
theorem n6(hE:ag P E){o:Oper}{d x:Nat}(h:isLen E o d x=true):isDst o d=true/\∀(a:Act) (w:World) A n c,a.tmps.getD x Go.undef= .slice A n c->(execOp a.eval o).run P w= .ok (.value (.int .i64 n)) w:=by
 unfold isLen at h
 rw[Bool.and_eq_true] at h
 refine⟨h.1,fun a w A n c hv=> ?_⟩
 have h:=h.2
 split at h
 ·rename_i bS ts ho
  split at h
  ·rename_i y T gR j7
   have has:bS= #[y]:=by rw[<-Array.toArray_toList (xs:=bS),gR]
   have fX:ts= #[T]:=by rw[<-Array.toArray_toList (xs:=ts),j7]
   subst has fX
   rw[Bool.and_eq_true] at h
   have:=il h.1
   subst this
   obtain⟨e,hT⟩:=tO h.2
   have hu:=(hE.ty T _ hT).bA
   have ev:a.eval (.tmp x)= .slice A n c:=hv
   simp [execOp,ho,resolve,invoke,builtin,Builtin.len_,ev,run_underlying hu.1,goInt]
  ·cases h
 ·cases h
theorem nT{o:Oper}{d x:Nat}(h:oB o d x=true):isDst o d=true/\∀(a:Act) (w:World) (n:Int),a.tmps.getD x Go.undef= .int .i64 n->(execOp a.eval o).run P w= .ok (.value (.int .i64 (IntKind.i64.wrap (n-1)))) w:=by
 unfold oB at h
 rw[Bool.and_eq_true] at h
 refine⟨h.1,fun a w n hv=> ?_⟩
 have h:=h.2
 split at h
 ·rename_i T y c T' ho
  rw[Bool.and_eq_true] at h
  have:=il h.1
  subst this
  have hc:=of_decide_eq_true h.2
  subst hc
  have ev:a.eval (.tmp x)= .int .i64 n:=hv
  have ec:a.eval (.const (.int .i64 1))= .int .i64 1:=rfl
  obtain⟨sv,v,hl,mj,_,hr,_⟩:=qS (P:=P) (op:= .sub) (T:=T) (k:= .i64) (k':= .i64) (m:=n) (n:=1) w rfl
  cases hl
  have:=jJ (hr ⟨w,fun _=> .all,fun _=>none⟩ (fun _=> .r 0 []))
  subst this
  simp only[execOp,ho,Sem.run_bind,ev,ec,nD,Result.andThen_ok,mj,Sem.run_pure]
 ·cases h
theorem vq{o:Oper}{d x y:Nat}(h:gV o d x y=true):isDst o d=true/\∀(a:Act) (w:World) (n m:Int),a.tmps.getD x Go.undef= .int .u8 n->a.tmps.getD y Go.undef= .int .u8 m->(execOp a.eval o).run P w= .ok (.value (.int .u8 (IntKind.u8.wrap (n+m)))) w:=by
 unfold gV at h
 rw[Bool.and_eq_true] at h
 refine⟨h.1,fun a w n m hv hu=> ?_⟩
 have h:=h.2
 split at h
 ·rename_i T u v T' ho
  rw[Bool.and_eq_true] at h
  have:=il h.1
  subst this
  have:=il h.2
  subst this
  have ev:a.eval (.tmp x)= .int .u8 n:=hv
  have eu:a.eval (.tmp y)= .int .u8 m:=hu
  obtain⟨sv,v,hl,mj,_,hr,_⟩:=qS (P:=P) (op:= .add) (T:=T) (k:= .u8) (k':= .u8) (m:=n) (n:=m) w rfl
  cases hl
  have:=jJ (hr ⟨w,fun _=> .all,fun _=>none⟩ (fun _=> .r 0 []))
  subst this
  simp only[execOp,ho,Sem.run_bind,ev,eu,nD,Result.andThen_ok,mj,Sem.run_pure]
 ·cases h
theorem ot(hE:ag P E){o:Oper}{d x i:Nat}(h:iO E o d x i=true):isDst o d=true/\∀(a:Act) (w:World) (g n c:Nat) (j:Int),a.tmps.getD x Go.undef= .slice (some ⟨g,0,none⟩) n c->a.tmps.getD i Go.undef= .int .i64 j->0<=j->j<n->(execOp a.eval o).run P w= .ok (.value (.pointer (some ⟨g,j.toNat,none⟩))) w:=by
 unfold iO at h
 rw[Bool.and_eq_true] at h
 refine⟨h.1,fun a w g n c j hv hj h0 h1=> ?_⟩
 have h:=h.2
 split at h
 ·rename_i T y z ho
  rw[Bool.and_eq_true,Bool.and_eq_true] at h
  have:=il h.1
  subst this
  have:=il h.2.1
  subst this
  obtain⟨e,hT⟩:=tO h.2.2
  have hu:=(hE.ty T _ hT).bA
  have ev:a.eval (.tmp x)= .slice (some ⟨g,0,none⟩) n c:=hv
  have ei:a.eval (.tmp i)= .int .i64 j:=hj
  simp only[execOp,ho,Sem.run_bind,Instr.indexAt,ei,ev,asIntOf,Sem.run_pure,Result.andThen_ok,run_underlying hu.1,Sem.run_ite,h0,h1,and_self,if_true,zh hE hu.2]
  simp [Ty.cells,zn]
 ·cases h
theorem uP(hE:ag P E){o:Oper}{d x:Nat}(h:rQ E o d x=true):isDst o d=true/\∀(a:Act) (w:World) (g j:Nat) (y:Int),a.tmps.getD x Go.undef= .pointer (some ⟨g,j,none⟩)->w.cell? ⟨g,j,none⟩=some (.int .u8 y)->(execOp a.eval o).run P w= .ok (.value (.int .u8 y)) w:=by
 unfold rQ at h
 rw[Bool.and_eq_true] at h
 refine⟨h.1,fun a w g j y hv hc=> ?_⟩
 have h:=h.2
 split at h
 ·rename_i T z ho
  rw[Bool.and_eq_true] at h
  have:=il h.1
  subst this
  have hT:=vh h.2
  have ev:a.eval (.tmp x)= .pointer (some ⟨g,j,none⟩):=hv
  have hl:=kR (P:=P) hE hT (X:=⟨w,fun _=> .all,fun _=>none⟩) (x:=y) (cs:=[.int .u8 y]) rfl (ad:=⟨g,j,none⟩) (w:=w) (fun k v hk=>by
   cases k with
   |zero=>rw[zn];have hk:Value.int .u8 y=v:=by simpa using hk
          rw[<-hk];exact hc
   |succ k=>simp at hk)
  simp only[execOp,ho,Sem.run_bind,Instr.loadAt,ev,Instr.sureAddr,Sem.run_pure,Result.andThen_ok,hl]
  rfl
 ·cases h
theorem A9(hE:ag P E){ops:Array Oper}{Q:Exit->Act->World->Prop}{o:Oper}{x y:Nat}(h:gU E o x y=true){k:Nat}{rest:List Nat}(hi:ops[k]? =some o){a:Act}{X:ah}{g j:Nat}{z:Int}{cur:Array Value}{T':TypeId}(hv:a.tmps.getD x Go.undef= .pointer (some ⟨g,j,none⟩))(hz:a.tmps.getD y Go.undef= .int .u8 z)(hg:X.w.heap[g]? =some (.cells cur T' (0,0)))(hj:j+1<=cur.size)
 (K:wpOps P ops Q rest (a.put none Go.undef) (X.row g (cur.toList.take j++ [Value.int .u8 z]++cur.toList.drop (j+1)).toArray).w):wpOps P ops Q (k::rest) a X.w:=by
 unfold gU at h
 rw[Bool.and_eq_true] at h
 have gf:o.dst=none/\o.guard=none:=by
  have h:=h.1
  split at h
  ·exact⟨by assumption,by assumption⟩
  ·cases h
 have h:=h.2
 rw[wpOps_cons]
 unfold wpOp
 simp only[hi]
 have hw:Region.wanted o (yielded ops a.tmps)=true:=by simp [Region.wanted,gf.2]
 rw[if_pos hw]
 refine .inl ?_
 unfold Oper.wp
 split at h
 ·rename_i T u v ho
  rw[Bool.and_eq_true,Bool.and_eq_true] at h
  have:=il h.1
  subst this
  have:=il h.2.1
  subst this
  have hT:=vh h.2.2
  have ev:a.eval (.tmp x)= .pointer (some ⟨g,j,none⟩):=hv
  have ez:a.eval (.tmp y)= .int .u8 z:=hz
  have bp:=nF (P:=P) hE hT (X:=X) (x:=z) (cs:=[.int .u8 z]) rfl (off:=j) (w:=X.w) (r:=g) (cur:=cur) (T':=T') hg hj
  have l5:bN (.int .u8) [.int .u8 z]= .int .u8 z:=rfl
  rw[l5] at bp
  have aB:(execOp a.eval o).run P X.w= .ok .skip (X.row g (cur.toList.take j++ [Value.int .u8 z]++cur.toList.drop (j+1)).toArray).w:=by
   simp only[execOp,ho,Sem.run_bind,Instr.storeAt,ev,Instr.sureAddr,Sem.run_pure,Result.andThen_ok,ez,bp]
   rfl
  rw[aB,Oper.upon_skip,gf.1]
  exact K
 ·cases h
theorem um:∀(n m:Nat) (sl:List (List SV)),(dA n m sl).length=sl.length
 |0,m,sl=>rfl
 |n+1,m,sl=>by rw[dA,um n (m+1),List.length_set]
def dead(s:State)(d:Nat):State:=s.au (some d) [.undef]
theorem Rel.dead(hr:Rel X s a)(d:Nat)(v:Value):Rel X (Ref.dead s d) (a.put (some d) v):=hr.put (fun _ _=>trivial) (fun id t p hm=>by simp at hm)
theorem y8(hE:ag P E){X0:ah}(hF:∀g pl n,X0.ow g≠ .row pl n)(hx:Ext X0 X)(hr:Rel X s a){q:Nat×Nat×Nat}{id:Nat}{ops:Array Oper}{s':State}(h:eb E q ops.toList s some=some s'){Q:Exit->Act->World->Prop}(hQ:∀Y a',Ext X0 Y->Rel Y s' a'->Q .normal a' Y.w):(Code.region id ops false).wp P Q a X.w:=by
 obtain⟨o,x,m⟩:=q
 unfold eb at h
 simp only at h
 cases gh:rS E o x m ops.toList with
 |false=>rw[gh] at h;cases h
 |true=>
 rw[gh,cond_true] at h
 cases hb:(Nat.ble (o+1) m&&(Nat.ble (x+1) m&&(!(Nat.beq o x)&&Nat.ble (m+13) s.sl.length))) with
 |false=>rw[hb] at h;cases h
 |true=>
 rw[hb,cond_true] at h
 simp only[Bool.and_eq_true,Bool.not_eq_true',Nat.ble_eq] at hb
 obtain⟨Bw,Bz,Bx,kL⟩:=hb
 split at h
 case h_2=>cases h
 rename_i et xs own y w8 df pN
 cases bn:eZ own [] with
 |false=>rw[bn] at h;cases h
 |true=>
 rw[bn,cond_true] at h
 cases hZ:(dS o 0 (dA 13 m s.sl)&&s.bs.all Option.isNone) with
 |false=>rw[hZ] at h;cases h
 |true=>
 rw[hZ,cond_true] at h
 rw[Bool.and_eq_true] at hZ
 obtain⟨h0,h1,h⟩:=jK h
 cases h
 generalize hj:IntKind.i64.wrap ((List.length xs:Int)-1)=j at h0 h1
 have hi:j.toNat<xs.length:=by omega
 obtain⟨g,c,cur,hR⟩:=A7 hr df bn hi
 have cQ:m+13<=a.tmps.size:=by rw[<-hr.size];exact kL
 have hy:a.tmps.getD x Go.undef= .int .u8 y:=by
  have dw:=hr.slot x
  rw[pN] at dw
  exact jJ (show ai X (.c x 0) (.al (.int .u8) y w8) _ from dw)
 have vV:xs[j.toNat]? =some (xs.getD j.toNat 0):=by rw[List.getD_eq_getElem?_getD,List.getElem?_eq_getElem hi];rfl
 have iG:=hR.cell _ _ vV
 unfold rS at gh
 split at gh
 case h_2=>cases gh
 rename_i o0 o1 o2 o3 o4 o5 o6 o7 o8 o9 p6 p7 p8 p9 fg
 simp only[Bool.and_eq_true] at gh
 obtain⟨k0,k1,k2,k3,k4,k5,k6,k7,k8,k9,sW,sX,sY,wU⟩:=gh
 have bf:∀i,ops[i]? =([o0,o1,o2,o3,o4,o5,o6,o7,o8,o9,p6,p7,p8,p9]:List Oper)[i]? :=fun i=>by rw[<-Array.getElem?_toList,fg]
 have bB:ops.size=14:=by rw[<-Array.length_toList,fg];rfl
 refine wp_region ?_
 rw[bB,show List.range 14=[0,1,2,3,4,5,6,7,8,9,10,11,12,13] from rfl]
 have vo:=hR.val
 generalize kl:(Value.slice (some ⟨g,0,none⟩) xs.length c)=vs at vo
 refine raw (bf 0) (im (P:=P) k0).1 ((im k0).2 a X.w) ?_
 rw[vo]
 have e1:=fun i=>fK (i:=i) (v:=vs) (show m<a.tmps.size by omega)
 have r1:=hr.dead m vs
 generalize wh:a.put (some m) vs=a1 at e1 r1
 have z1:a1.tmps.size=a.tmps.size:=by rw[<-wh,gj]
 refine raw (bf 1) (im (P:=P) k1).1 ((im k1).2 a1 X.w) ?_
 rw[e1,if_neg (by omega),vo]
 have e2:=fun i=>fK (a:=a1) (i:=i) (v:=vs) (show m+1<a1.tmps.size by omega)
 have r2:=r1.dead (m+1) vs
 generalize wj:a1.put (some (m+1)) vs=a2 at e2 r2
 have z2:a2.tmps.size=a.tmps.size:=by rw[<-wj,gj,z1]
 refine raw (bf 2) (n6 hE k2).1 ((n6 hE k2).2 a2 X.w _ _ _ (by rw[e2,if_pos rfl];exact kl.symm)) ?_
 have e3:=fun i=>fK (a:=a2) (i:=i) (v:= .int .i64 (xs.length:Nat)) (show m+2<a2.tmps.size by omega)
 have r3:=r2.dead (m+2) (.int .i64 (xs.length:Nat))
 generalize wk:a2.put (some (m+2)) (.int .i64 (xs.length:Nat))=a3 at e3 r3⊢
 have z3:a3.tmps.size=a.tmps.size:=by rw[<-wk,gj,z2]
 refine raw (bf 3) (nT (P:=P) k3).1 ((nT k3).2 a3 X.w _ (by rw[e3,if_pos rfl])) ?_
 rw[hj]
 have e4:=fun i=>fK (a:=a3) (i:=i) (v:= .int .i64 j) (show m+3<a3.tmps.size by omega)
 have r4:=r3.dead (m+3) (.int .i64 j)
 generalize wl:a3.put (some (m+3)) (.int .i64 j)=a4 at e4 r4⊢
 have z4:a4.tmps.size=a.tmps.size:=by rw[<-wl,gj,z3]
 have q4:∀i,i<m->a4.tmps.getD i Go.undef=a.tmps.getD i Go.undef:=fun i hi=>by rw[e4,if_neg (by omega),e3,if_neg (by omega),e2,if_neg (by omega),e1,if_neg (by omega)]
 have qm:a4.tmps.getD m Go.undef=vs:=by rw[e4,if_neg (by omega),e3,if_neg (by omega),e2,if_neg (by omega),e1,if_pos rfl]
 refine raw (bf 4) (im (P:=P) k4).1 ((im k4).2 a4 X.w) ?_
 rw[q4 o (by omega),vo]
 have e5:=fun i=>fK (a:=a4) (i:=i) (v:=vs) (show m+4<a4.tmps.size by omega)
 have r5:=r4.dead (m+4) vs
 generalize wm:a4.put (some (m+4)) vs=a5 at e5 r5⊢
 have z5:a5.tmps.size=a.tmps.size:=by rw[<-wm,gj,z4]
 refine raw (bf 5) (im (P:=P) k5).1 ((im k5).2 a5 X.w) ?_
 rw[e5,if_neg (by omega),q4 o (by omega),vo]
 have e6:=fun i=>fK (a:=a5) (i:=i) (v:=vs) (show m+5<a5.tmps.size by omega)
 have r6:=r5.dead (m+5) vs
 generalize wo:a5.put (some (m+5)) vs=a6 at e6 r6⊢
 have z6:a6.tmps.size=a.tmps.size:=by rw[<-wo,gj,z5]
 refine raw (bf 6) (n6 hE k6).1 ((n6 hE k6).2 a6 X.w _ _ _ (by rw[e6,if_pos rfl];exact kl.symm)) ?_
 have e7:=fun i=>fK (a:=a6) (i:=i) (v:= .int .i64 (xs.length:Nat)) (show m+6<a6.tmps.size by omega)
 have r7:=r6.dead (m+6) (.int .i64 (xs.length:Nat))
 generalize wq:a6.put (some (m+6)) (.int .i64 (xs.length:Nat))=a7 at e7 r7⊢
 have z7:a7.tmps.size=a.tmps.size:=by rw[<-wq,gj,z6]
 refine raw (bf 7) (nT (P:=P) k7).1 ((nT k7).2 a7 X.w _ (by rw[e7,if_pos rfl])) ?_
 rw[hj]
 have e8:=fun i=>fK (a:=a7) (i:=i) (v:= .int .i64 j) (show m+7<a7.tmps.size by omega)
 have r8:=r7.dead (m+7) (.int .i64 j)
 generalize wu:a7.put (some (m+7)) (.int .i64 j)=a8 at e8 r8⊢
 have z8:a8.tmps.size=a.tmps.size:=by rw[<-wu,gj,z7]
 have q8:∀i,i<=m+3->a8.tmps.getD i Go.undef=a4.tmps.getD i Go.undef:=fun i hi=>by rw[e8,if_neg (by omega),e7,if_neg (by omega),e6,if_neg (by omega),e5,if_neg (by omega)]
 refine raw (bf 8) (ot hE k8).1 ((ot hE k8).2 a8 X.w g xs.length c j (by rw[e8,if_neg (by omega),e7,if_neg (by omega),e6,if_neg (by omega),e5,if_pos rfl];exact kl.symm) (by rw[e8,if_pos rfl]) h0 h1) ?_
 have e9:=fun i=>fK (a:=a8) (i:=i) (v:= .pointer (some ⟨g,j.toNat,none⟩)) (show m+8<a8.tmps.size by omega)
 have r9:=r8.dead (m+8) (.pointer (some ⟨g,j.toNat,none⟩))
 generalize wv:a8.put (some (m+8)) (.pointer (some ⟨g,j.toNat,none⟩))=a9 at e9 r9⊢
 have z9:a9.tmps.size=a.tmps.size:=by rw[<-wv,gj,z8]
 refine raw (bf 9) (uP hE k9).1 ((uP hE k9).2 a9 X.w g j.toNat _ (by rw[e9,if_pos rfl]) iG) ?_
 generalize wL:xs.getD j.toNat 0=wx
 have nf:=fun i=>fK (a:=a9) (i:=i) (v:= .int .u8 wx) (show m+9<a9.tmps.size by omega)
 have jD:=r9.dead (m+9) (.int .u8 wx)
 generalize pG:a9.put (some (m+9)) (.int .u8 wx)=jY at nf jD⊢
 have xe:jY.tmps.size=a.tmps.size:=by rw[<-pG,gj,z9]
 refine raw (bf 10) (im (P:=P) sW).1 ((im sW).2 jY X.w) ?_
 rw[nf,if_neg (by omega),e9,if_neg (by omega),q8 x (by omega),q4 x (by omega),hy]
 have ng:=fun i=>fK (a:=jY) (i:=i) (v:= .int .u8 y) (show m+10<jY.tmps.size by omega)
 have mA:=jD.dead (m+10) (.int .u8 y)
 generalize pH:jY.put (some (m+10)) (.int .u8 y)=jZ at ng mA⊢
 have xf:jZ.tmps.size=a.tmps.size:=by rw[<-pH,gj,xe]
 refine raw (bf 11) (vq (P:=P) sX).1 ((vq sX).2 jZ X.w wx y (by rw[ng,if_neg (by omega),nf,if_pos rfl]) (by rw[ng,if_pos rfl])) ?_
 generalize wM:IntKind.u8.wrap (wx+y)=wz
 have oU:=fun i=>fK (a:=jZ) (i:=i) (v:= .int .u8 wz) (show m+11<jZ.tmps.size by omega)
 have s6:=mA.dead (m+11) (.int .u8 wz)
 generalize pI:jZ.put (some (m+11)) (.int .u8 wz)=a12 at oU s6⊢
 have z12:a12.tmps.size=a.tmps.size:=by rw[<-pI,gj,xf]
 have qb:∀i,i<=m+3->a12.tmps.getD i Go.undef=a4.tmps.getD i Go.undef:=fun i hi=>by rw[oU,if_neg (by omega),ng,if_neg (by omega),nf,if_neg (by omega),e9,if_neg (by omega),q8 i hi]
 refine raw (bf 12) (ot hE sY).1 ((ot hE sY).2 a12 X.w g xs.length c j (by rw[qb m (by omega),qm];exact kl.symm) (by rw[qb (m+3) (by omega),e4,if_pos rfl]) h0 h1) ?_
 have nh:=fun i=>fK (a:=a12) (i:=i) (v:= .pointer (some ⟨g,j.toNat,none⟩)) (show m+12<a12.tmps.size by omega)
 have s7:=s6.dead (m+12) (.pointer (some ⟨g,j.toNat,none⟩))
 generalize wi:a12.put (some (m+12)) (.pointer (some ⟨g,j.toNat,none⟩))=lJ at nh s7⊢
 have pa:fb X lJ o et xs own g c cur:=⟨by rw[nh,if_neg (by omega),qb o (by omega),q4 o (by omega),hR.val],hR.heap,hR.cell,hR.le,hR.most,hR.size,hR.ow,hR.own⟩
 refine A9 hE wU (bf 13) (by rw[nh,if_pos rfl]) (by rw[nh,if_neg (by omega),oU,if_pos rfl]) hR.heap (by rw[hR.size];have:=hR.le;omega) ?_
 have pM:Rel X ⟨dA 13 m s.sl,s.bs⟩ lJ:=s7
 obtain⟨hX,aF⟩:=Ax hF hx pM (by rw[um];omega) hZ.1 hZ.2 pa hi wz
 have pk:=hQ _ lJ hX (by
  unfold jI
  rw[hj,wL,wM]
  exact aF)
 exact pk
end Go.Ref

namespace Go.Ref
open Go
variable {P:Program} {E:Env} {X:ah} {s:State} {a:Act}
structure fc(X Y:ah)(g0:Nat):Prop where
 heap:∀b,b≠g0->Y.w.heap[b]? =X.w.heap[b]?
 ow:Y.ow=X.ow
 β:Y.β=X.β
theorem fc.aj{Y:ah}{g0:Nat}(h:fc X Y g0){ad:Addr}{v:Value}(bu:ad.block≠g0)(hs:X.aj ad v):Y.aj ad v:=by
 refine⟨hs.1,?_,?_⟩
 ·have:=hs.2.1
  simp only[World.cell?] at this⊢
  rw[h.heap _ bu];exact this
 ·rw[h.ow];exact hs.2.2
theorem ve{own:List (List Nat)}{p:List Nat}(h:eZ own p=true):p∈own:=by
 unfold eZ at h
 obtain⟨q,h1,h2⟩:=List.any_eq_true.1 h
 have:q=p:=by simpa using h2
 rw[<-this];exact h1
def sZ(pl:List Nat->Place):List Nat->Place
 |j::p=>pl ((j+1)::p)
 | []=>pl []
theorem Au{pl:List Nat->Place}{a b:Ty}{x:El (.pair a b)}{c1 c2:List Value}{own:List (List Nat)}(hr:aA X a x.1 c1)(h:aD X pl (.pair a b) x (c1++c2) own):aD X (fun p=>pl (0::p)) a x.1 c1 (m9 own [0]):=fun p hp=>by
 unfold m9 at hp
 obtain⟨q,hq,rfl⟩:=List.mem_map.1 hp
 obtain⟨hq,cf⟩:=List.mem_filter.1 hq
 match q,cf with
 |0::q,_=>
  obtain⟨e,t',xs,v,g0,g1,g2,g3⟩:=h (0::q) hq
  have g2:(c1++c2)[a.off q]? =some v:=g2
  refine⟨e,t',xs,v,g0,g1,?_,g3⟩
  show c1[a.off q]? =some v
  rw[<-g2,List.getElem?_append_left]
  obtain⟨_,k2,_⟩:=z40 hr (show a.b6 q from g0) (show El.get a q x.1=_ from g1)
  have k2:a.off q+1<=a.cells:=k2
  have:=hr.len
  omega
 | [],cf=>simp at cf
 |(j+1)::q,cf=>simp at cf
theorem Av{pl:List Nat->Place}{a b:Ty}{x:El (.pair a b)}{c1 c2:List Value}{own:List (List Nat)}(hl:c1.length=a.cells)(h:aD X pl (.pair a b) x (c1++c2) own):aD X (sZ pl) b x.2 c2 (iD own):=fun p hp=>by
 unfold iD at hp
 obtain⟨q,hq,he⟩:=List.mem_filterMap.1 hp
 match q,he with
 |(j+1)::q,he=>
  cases he
  obtain⟨e,t',xs,v,g0,g1,g2,g3⟩:=h ((j+1)::q) hq
  refine⟨e,t',xs,v,g0,g1,?_,g3⟩
  have g2:(c1++c2)[a.cells+b.off (j::q)]? =some v:=g2
  rw[List.getElem?_append_right (by omega)] at g2
  rw[<-g2]
  congr 1
  omega
 | [],he=>cases he
 |0::q,he=>cases he
theorem aD.mE{Y:ah}{g0:Nat}(h:fc X Y g0){pl:List Nat->Place}(dm:∀p n,X.ow g0≠ .row (pl p) n){t:Ty}{x:El t}{cs:List Value}{own:List (List Nat)}(ho:aD X pl t x cs own):aD Y pl t x cs own:=fun p hp=>by
 obtain⟨e,t',xs,v,k0,k1,k2,k3⟩:=ho p hp
 refine⟨e,t',xs,v,k0,k1,k2,?_⟩
 rcases k3 with ho|⟨g,cap,cur,h1,h2,h3,h4,h5,h6⟩
 ·exact .inl ho
 ·have bu:g≠g0:=fun e=>dm p _ (e▸h6)
  exact .inr ⟨g,cap,cur,h1,(h.heap g bu).trans h2,h3,h4,h5,by rw[h.ow];exact h6⟩
theorem aA.aY{Y:ah}{g0:Nat}(h:fc X Y g0):∀{t:Ty} {x:El t} {cs:List Value} {own:List (List Nat)} {pl:List Nat->Place},(∀p n,X.ow g0≠ .row (pl p) n)->t.aY own=true->aA X t x cs->aD X pl t x cs own->aA Y t x cs
 | .bool,_,_,_,_,_,_,hr,_=>hr
 | .int _,_,_,_,_,_,_,hr,_=>hr
 | .str,_,_,_,_,_,_,hr,_=>hr
 | .unit,_,_,_,_,_,_,hr,_=>hr
 | .aG _ _ _,_,_,_,_,_,hs,_,_=>by cases hs
 | .aL n t,xs,cs,own,pl,_,hs,hr,_=>aA.flat (t:= .aL n t) (show t.flat=true from hs) hr
 | .pair a b,x,cs,own,pl,dm,hs,hr,ho=>by
   have hs:(a.aY (m9 own [0])&&b.aY (iD own))=true:=hs
   rw[Bool.and_eq_true] at hs
   obtain⟨c1,c2,h1,h2,h3⟩:=hr
   subst h1
   exact⟨c1,c2,rfl,aA.aY h (pl:=fun p=>pl (0::p)) (fun p n=>dm _ n) hs.1 h2 (Au h2 ho),aA.aY h (pl:=sZ pl) (fun p n=>by cases p<;>exact dm _ n) hs.2 h3 (Av h2.len ho)⟩
 | .sl e t,xs,cs,own,pl,dm,hs,hr,ho=>by
   have hs:(t.flat&&eZ own [])=true:=hs
   rw[Bool.and_eq_true] at hs
   obtain⟨A,c,cu,hle,b7⟩:=hr
   subst cu
   refine⟨A,c,rfl,hle,fun j x hj=> ?_⟩
   obtain⟨ad,bT,e1,e2,e3,e4⟩:=b7 j x hj
   subst e1
   refine⟨ad,bT,rfl,e2,e3.flat hs.1,fun i v hi=>h.aj ?_ (e4 i v hi)⟩
   obtain⟨e1,t1,tc,v1,_,hg,hc,aT⟩:=ho [] (ve hs.2)
   simp only[El.get,Option.some.injEq] at hg
   cases hg
   have jw:v1= .slice (some ad) xs.length c:=by
    have:([Value.slice (some ad) xs.length c]:List Value)[0]? =some v1:=hc
    simpa using this.symm
   subst jw
   rcases aT with⟨h0,_⟩|⟨g,cap,cur,h1,h2,h3,h4,h5,h6⟩
   ·cases h0
   ·injection h1 with k1 k2 k3
    cases k1
    rw[zn]
    intro e
    have e:g=g0:=e
    exact dm [] _ (e▸h6)
theorem ai.aY{Y:ah}{g0:Nat}(h:fc X Y g0){pl:List Nat->Place}(dm:∀p n,X.ow g0≠ .row (pl p) n){bs:List (Option aI)}{sv:SV}{v:Value}(hs:sv.aY bs=true)(hr:ai X pl sv v):ai Y pl sv v:=by
 cases sv with
 |al t x own=>
  obtain⟨cs,h1,h2,h3⟩:=hr
  exact⟨cs,h1.aY h dm hs h3,h2,h3.mE h dm⟩
 |undef=>trivial
 |skip=>exact hr
 |bc=>exact hr
 |cK=>exact hr
 |over=>exact hr
 |ptr id t p=>
  obtain⟨r,h1,h2⟩:=hr
  exact⟨r,by rw[h.β];exact h1,h2⟩
 |_=>cases hs
theorem yd{bs:List (Option aI)}{id:Nat}{B:aI}(h:(bs.map oE)[id]? =some (some B)):bs[id]? =some (some B)/\B.aY=true:=by
 rw[List.getElem?_map] at h
 obtain⟨b0,h0,h1⟩:=Option.map_eq_some_iff.1 h
 cases b0 with
 |none=>cases h1
 |some B0=>
  unfold oE at h1
  simp only at h1
  cases hb:B0.aY with
  |false=>rw[hb] at h1;cases h1
  |true=>rw[hb] at h1;cases h1;exact⟨h0,hb⟩
structure oF(X:ah)(o:Nat)(e:TypeId)(k n:Nat)(v:Value)(g c:Nat)(cur:Array Value):Prop where
 val:v= .slice (some ⟨g,0,none⟩) n c
 heap:X.w.heap[g]? =some (.cells cur e (0,0))
 le:n<=c
 size:cur.size=c*k
 ow:X.ow g= .row (.c o 0 []) (n*k)
theorem mz{o:Nat}{e:TypeId}{t:Ty}{xs:List (El t)}{own:List (List Nat)}(hr:Rel X s a)(hs:s.slot o=[.al (.sl e t) xs own])(bn:eZ own []=true){i:Nat}(hi:i<xs.length):∃g c cur,oF X o e t.cells xs.length (a.tmps.getD o Go.undef) g c cur:=by
 have dw:=hr.slot o
 rw[hs] at dw
 obtain⟨cs,av,hv,hO⟩:=(show ai X (.c o 0) (.al (.sl e t) xs own) (a.tmps.getD o Go.undef) from dw)
 obtain⟨e1,t1,tc,v1,_,hg,hc,aT⟩:=hO [] (ve bn)
 simp only[El.get,Option.some.injEq] at hg
 cases hg
 obtain⟨A,c,cu,hle,b7⟩:=av
 subst cu
 have hv:a.tmps.getD o Go.undef= .slice A xs.length c:=hv
 have jw:v1= .slice A xs.length c:=by
  have:([Value.slice A xs.length c]:List Value)[0]? =some v1:=hc
  simpa using this.symm
 subst jw
 rcases aT with⟨_,h0⟩|⟨g,cap,cur,h1,h2,h3,h4,h5,h6⟩
 ·have h0:List.length xs=0:=h0
  omega
 injection h1 with k1 k2 k3
 subst k1 k3
 exact⟨g,c,cur,hv,h2,hle,h5,h6⟩
theorem uZ{g:Nat}{new:Array Value}:fc X (X.row g new) g:=⟨fun b hb=>setRow_other X.w g b _ hb,rfl,rfl⟩
theorem AA{X0:ah}(hF:∀g pl n,X0.ow g≠ .row pl n)(hx:Ext X0 X){g m:Nat}{pl:Place}{new:Array Value}(how:X.ow g= .row pl m):Ext X0 (X.row g new):=by
 have ep:∀b,b≠g->(X.row g new).w.heap[b]? =X.w.heap[b]? :=fun b hb=>setRow_other X.w g b _ hb
 have iM:∀ad v,X0.aj ad v->ad.block≠g:=fun ad v bJ e0=>by
  have aw:=ah.eA bJ
  have hu:=bJ.2.2
  cases hw:X0.ow ad.block with
  |all=>have:=(hx.still ad.block aw (by rw[hw];trivial)).1;rw[e0,how] at this;rw[<-e0,hw] at this;cases this
  |ro n=>have:=(hx.still ad.block aw (by rw[hw];trivial)).1;rw[e0,how] at this;rw[<-e0,hw] at this;cases this
  |box id=>rw[hw] at hu;exact hu
  |row pl n=>exact hF _ _ _ hw
 refine⟨fun ad v bJ=>uZ.aj (iM ad v bJ) (hx.aj ad v bJ),?_,hx.os,hx.tape,hx.output,hx.β0,fun b hb bp=> ?_⟩
 ·have:=hx.size
  simpa [ah.row] using this
 ·have h7:=hx.still b hb bp
  have bu:b≠g:=fun e0=>by
   have h8:=h7.1
   rw[e0,how] at h8
   rw[e0,<-h8] at bp
   exact bp
  exact⟨h7.1,(ep b bu).trans h7.2⟩
theorem y3(hr:Rel X s a){x g m:Nat}{new:Array Value}(how:X.ow g= .row (.c x 0 []) m):Rel (X.row g new) (s.aY x) a:=by
 have hB:fc X (X.row g new) g:=uZ
 refine⟨by simpa [State.aY] using hr.size,by simpa [State.aY] using hr.cN,fun j l v hl hv=> ?_,fun id B hb=> ?_,fun j l id t p hl hm=> ?_,hr.defers⟩
 ·simp only[State.aY,List.getElem?_map] at hl
  obtain⟨l0,h0,rfl⟩:=Option.map_eq_some_iff.1 hl
  unfold hold
  cases cT:l0.all (SV.aY s.bs) with
  |false=>trivial
  |true=>
   rw[cond_true]
   rw[List.getElem?_set] at h0
   by_cases pR:x=j
   ·subst pR
    rw[if_pos rfl] at h0
    split at h0
    ·cases h0;trivial
    ·cases h0
   ·rw[if_neg pR] at h0
    exact(hr.aM j l0 v h0 hv).dJ fun k sv u hk hu=>hu.aY hB (fun p n e=>by rw[how] at e;injection e with e _;injection e with e _;exact pR e) (List.all_eq_true.1 cT sv (List.mem_of_getElem? hk))
 ·obtain⟨h1,h2⟩:=yd hb
  obtain⟨r,k1,k2⟩:=hr.boxes id B h1
  unfold aI.aY at h2
  rw[Bool.and_eq_true] at h2
  have b8:B.t.aJ=false:=by simpa using h2.1
  obtain⟨cs,T,aq,av,fh,bn⟩:=k2.cells b8
  have bu:r≠g:=fun e=>by rw[e,how] at fh;cases fh
  have dm:∀p n,X.ow g≠ .row (.b id p) n:=fun p n e=>by rw[how] at e;injection e with e _;cases e
  exact⟨r,k1,by rw[hB.ow];exact fh,bG.of b8 ((hB.heap r bu).trans aq) (av.aY hB dm h2.2 bn) (bn.mE hB dm)⟩
 ·simp only[State.aY,List.getElem?_map] at hl
  obtain⟨l0,h0,rfl⟩:=Option.map_eq_some_iff.1 hl
  unfold hold at hm
  cases cT:l0.all (SV.aY s.bs) with
  |false=>rw[cT] at hm;simp at hm
  |true=>
   rw[cT,cond_true] at hm
   have h1:=List.all_eq_true.1 cT _ hm
   unfold SV.aY at h1
   simp only at h1
   split at h1
   case h_2=>cases h1
   rename_i B hB
   have hb:=gi (s:=s) hB
   exact⟨B,by simp only[State.aY,List.getElem?_map,hb,Option.map_some,oE,h1,cond_true]⟩
theorem tP{α:Type}:∀{l r:List α} {x y:α},n5 l=some (r,x,y)->l=r++ [x,y]
 | [],_,_,_,h=>by cases h
 | [_],_,_,_,h=>by cases h
 | [a,b],_,_,_,h=>by cases h;rfl
 |a::b::c::r,_,_,_,h=>by
  simp only[n5] at h
  split at h
  case h_2=>cases h
  rename_i l x y hl
  cases h
  have:=tP (l:=b::c::r) hl
  rw[this];rfl
theorem u3(hE:ag P E){C:ay}(hC:C.Nat)(hf:∀f,bW P C f){ops:Array Oper}{s':State}{Q:Exit->Act->World->Prop}{rest:List Nat}:∀(l:List Nat) (X:ah) (s:State) (a:Act),Rel X s a->(∀i∈l,i<ops.size)->
 steps E (C State) ops.toList (l.map fun i=>ops.getD i default) s some=some s'->(∀Y a',Ext X Y->Rel Y s' a'->wpOps P ops Q rest a' Y.w)->wpOps P ops Q (l++rest) a X.w
 | [],X,s,a,hr,_,h,hQ=>by
   cases h
   exact hQ X a (Ext.refl X) hr
 |i::r,X,s,a,hr,hl,h,hQ=>by
  simp only[List.map_cons,steps] at h
  obtain⟨s1,h1,h2⟩:=zo (re hC (F:=fun s=>steps E (C State) ops.toList (r.map fun i=>ops.getD i default) s some) (G:=some) (K:=fun s=>steps E (C State) ops.toList (r.map fun i=>ops.getD i default) s some) (fun _=>rfl)) h
  have hi:ops[i]? =some (ops.getD i default):=by
   have:=hl i (by simp)
   simp [this]
  rw[List.cons_append,wpOps_cons]
  refine z85 hE hr hC hf hi h1 fun Y a' aC aF=> ?_
  exact u3 hE hC hf r Y s1 a' aF (fun j hj=>hl j (List.mem_cons_of_mem _ hj)) h2 fun Z a2 aQ bE=>hQ Z a2 (aC.trans aQ) bE
theorem Aw(hE:ag P E){X0:ah}(hF:∀g pl n,X0.ow g≠ .row pl n)(hx:Ext X0 X)(hr:Rel X s a){ops:Array Oper}{k l:Nat}{oA oS:Oper}(hA:ops[k]? =some oA)(hS:ops[l]? =some oS){s':State}(h:c9 E oA oS s some=some s'){Q:Exit->Act->World->Prop}(hQ:∀Y a',Ext X0 Y->Rel Y s' a'->Q .normal a' Y.w):wpOps P ops Q [k,l] a X.w:=by
 unfold c9 at h
 split at h
 case h_2=>cases h
 rename_i T x i T' d vo wb wc
 cases gh:(isDst oA d&&(!(Nat.beq x d)&&gY oS)) with
 |false=>rw[gh] at h;cases h
 |true=>
 rw[gh,cond_true] at h
 rw[Bool.and_eq_true,Bool.and_eq_true] at gh
 obtain⟨hd,pQ,gf⟩:=gh
 have gf:oS.dst=none/\oS.guard=none:=by
  unfold gY at gf
  split at gf
  ·exact⟨by assumption,by assumption⟩
  ·cases gf
 have pQ:x≠d:=fun e=>by rw[e] at pQ;simp at pQ
 unfold hD at h
 split at h
 case h_2=>cases h
 rename_i e t xs own pN
 cases hb:eZ own [] with
 |false=>rw[hb] at h;cases h
 |true=>
 rw[hb,cond_true] at h
 split at h
 case h_2=>cases h
 rename_i u w hT jn
 cases hu:(u.aX (.sl e t)&&(w.aX t&&Nat.ble (d+1) s.sl.length)) with
 |false=>rw[hu] at h;cases h
 |true=>
 rw[hu,cond_true] at h
 rw[Bool.and_eq_true,Bool.and_eq_true] at hu
 have:=Ty.ax hu.1
 subst this
 have:=Ty.ax hu.2.1
 subst this
 have vO:d<a.tmps.size:=by rw[<-hr.size];exact Nat.le_of_ble_eq_true hu.2.2
 obtain⟨n,kk,h,hn⟩:=qZ h
 obtain⟨y,h,hy⟩:=zi h
 obtain⟨h0,h1,h⟩:=jK h
 cases h
 have hi:n.toNat<xs.length:=by omega
 obtain⟨g,c,cur,hR⟩:=mz hr pN hb hi
 have cw:=hn X _ _ (hr.ak i)
 have hU:=hE.ty T _ hT
 have ev:a.eval (.tmp x)= .slice (some ⟨g,0,none⟩) xs.length c:=hR.val
 have mh:(execOp a.eval oA).run P X.w= .ok (.value (.pointer (some ⟨g,n.toNat*w.cells,none⟩))) X.w:=by
  have aw:n<(xs.length:Int):=h1
  simp only[execOp,wb,Sem.run_bind,Instr.indexAt,cw,ev,asIntOf,Sem.run_pure,Result.andThen_ok,run_underlying hU.bA.1,Sem.run_ite,h0,aw,and_self,if_true,zh hE hU.bA.2]
  simp [zn]
 refine raw hA hd mh ?_
 have cP:Rel X (s.au (some d) [.undef]) (a.put (some d) (.pointer (some ⟨g,n.toNat*w.cells,none⟩))):=hr.put (fun _ _=>trivial) (fun id t p hm=>by simp at hm)
 have sk:(a.put (some d) (.pointer (some ⟨g,n.toNat*w.cells,none⟩))).eval (.tmp d)= .pointer (some ⟨g,n.toNat*w.cells,none⟩):=by
  show(a.put (some d) _).tmps.getD d Go.undef=_
  rw[fK vO,if_pos rfl]
 generalize a.put (some d) (.pointer (some ⟨g,n.toNat*w.cells,none⟩))=a1 at cP sk⊢
 obtain⟨cs,eW,oW⟩:=hy X _ _ (cP.ak vo)
 have hle:(n.toNat+1)*w.cells<=c*w.cells:=Nat.mul_le_mul_right _ (by have:=hR.le;omega)
 rw[Nat.add_mul,Nat.one_mul] at hle
 have bp:=nF (P:=P) hE jn eW (r:=g) (off:=n.toNat*w.cells) (w:=X.w) hR.heap (by rw[hR.size];exact hle)
 rw[wpOps_cons]
 unfold wpOp
 simp only[hS]
 have hw:Region.wanted oS (yielded ops a1.tmps)=true:=by simp [Region.wanted,gf.2]
 rw[if_pos hw]
 refine .inl ?_
 unfold Oper.wp
 generalize gE:(cur.toList.take (n.toNat*w.cells)++cs++cur.toList.drop (n.toNat*w.cells+cs.length)).toArray=new at bp
 have aB:(execOp a1.eval oS).run P X.w= .ok .skip (X.row g new).w:=by
  simp only[execOp,wc,Sem.run_bind,Instr.storeAt,sk,Instr.sureAddr,Sem.run_pure,Result.andThen_ok,oW,bp]
  rfl
 rw[aB,Oper.upon_skip,gf.1]
 exact hQ _ a1 (AA hF hx hR.ow) (y3 cP hR.ow)
theorem yX(hE:ag P E){C:ay}(hC:C.Nat)(hf:∀f,bW P C f){X0:ah}(hF:∀g pl n,X0.ow g≠ .row pl n)(hx:Ext X0 X)(hr:Rel X s a){id:Nat}{ops:Array Oper}{s':State}(h:dZ E (C State) ops.toList s some=some s'){Q:Exit->Act->World->Prop}(hQ:∀Y a',Ext X0 Y->Rel Y s' a'->Q .normal a' Y.w):(Code.region id ops false).wp P Q a X.w:=by
 unfold dZ at h
 split at h
 case h_2=>cases h
 rename_i l oA oS hl
 obtain⟨s1,h1,h2⟩:=zo (mN hC (F:=fun s=>c9 E oA oS s some) (G:=some) (K:=fun s=>c9 E oA oS s some) (fun _=>rfl) l s) h
 have fg:=tP hl
 have bB:ops.size=l.length+2:=by rw[<-Array.length_toList,fg];simp
 refine wp_region ?_
 have fk:List.range ops.size=List.range l.length++ [l.length,l.length+1]:=by
  rw[bB,List.range_succ,List.range_succ,List.append_assoc];rfl
 rw[fk]
 have hA:ops[l.length]? =some oA:=by rw[<-Array.getElem?_toList,fg,List.getElem?_append_right (Nat.le_refl _),Nat.sub_self];rfl
 have hS:ops[l.length+1]? =some oS:=by rw[<-Array.getElem?_toList,fg,List.getElem?_append_right (by omega),Nat.add_sub_cancel_left];rfl
 have fW:(List.range l.length).map (fun i=>ops.getD i default)=l:=by
  apply List.ext_getElem?
  intro i
  rw[List.getElem?_map]
  by_cases hi:i<l.length
  ·have h3:ops[i]? =l[i]? :=by rw[<-Array.getElem?_toList,fg,List.getElem?_append_left hi]
   have h4:i<ops.size:=by omega
   rw[List.getElem?_range hi,<-h3]
   simp [h4]
  ·rw[List.getElem?_eq_none (by simpa using hi),List.getElem?_eq_none (by omega)];rfl
 refine u3 hE hC hf (List.range l.length) X s a hr (fun i hi=>by have:=List.mem_range.1 hi;omega) (by rw[fW];exact h1) fun Y a' aC aF=> ?_
 exact Aw hE hF (hx.trans aC) aF hA hS h2 hQ
end Go.Ref

namespace Go.Ref
open Go
variable {P:Program} {E:Env} {X:ah} {s:State} {a:Act}
def Ex.exit':Ex->Exit
 | .normal=> .normal
 | .exit id=> .exit id
 | .ret=> .ret
theorem zE{Q:Exit->Act->World->Prop}{c:Code}(I:Nat->Act->World->Prop)(round:∀n a w,I n a w->∃m,n=m+1/\c.wp P (Exit.then (I m) Q) a w){n:Nat}{a:Act}{w:World}(h₀:I n a w):(Code.loop c).wp P Q a w:=by
 intro b k cs
 have key:∀n a w,I n a w->∃e a' w',Q e a' w'/\Arrives P (lone (b.at a (.code c:: .inLoop c::k)) cs w) b k cs e a' w':=by
  intro n
  induction n with
  |zero=>intro a w h;obtain⟨m,hm,_⟩:=round 0 a w h;cases hm
  |succ n ih=>
   intro a w h
   obtain⟨m,hm,hr⟩:=round (n+1) a w h
   cases hm
   obtain⟨e,a₁,w₁,hq,eI⟩:=hr b (.inLoop c::k) cs
   cases e with
   |normal=>
    obtain⟨e₂,a₂,w₂,hq₂,harr₂⟩:=ih a₁ w₁ hq
    exact⟨e₂,a₂,w₂,hq₂,.of_steps (Steps.trans eI (.one step_inLoop)) harr₂⟩
   |exit id=>exact⟨_,a₁,w₁,hq,.pass (x:= .inLoop c) rfl (fun _ _=> .inl (by simp)) eI⟩
   |goto l=>exact⟨_,a₁,w₁,hq,.pass (x:= .inLoop c) rfl (fun _ _=> .inl (by simp)) eI⟩
   |ret=>exact⟨_,a₁,w₁,hq,.pass (x:= .inLoop c) rfl (fun _ _=> .inl (by simp)) eI⟩
   |panic ch=>exact⟨_,a₁,w₁,hq,.pass (x:= .inLoop c) rfl (fun _ _=> .inl (by simp)) eI⟩
   |outgrown=>exact⟨_,a₁,w₁,hq,.pass (x:= .inLoop c) rfl (fun _ _=> .inl (by simp)) eI⟩
 obtain⟨e,a',w',hq,eI⟩:=key n a w h₀
 exact⟨e,a',w',hq,.of_steps (.one step_loop) eI⟩
theorem mL{α:Type}(z:α)(l:List Nat):∀(xs:List α) (i j:Nat),(cg z l i xs)[j]? =(xs[j]?).map fun x=>bif l.any (Nat.beq (i+j)) then x else z
 | [],i,j=>by simp [cg]
 |x::r,i,0=>by simp [cg]
 |x::r,i,j+1=>by
  simp only[cg,List.getElem?_cons_succ]
  rw[mL z l r (i+1) j,show i+1+j=i+(j+1) by omega]
theorem qD{α:Type}(z:α)(l:List Nat):∀(xs:List α) (i:Nat),(cg z l i xs).length=xs.length
 | [],i=>rfl
 |x::r,i=>by simp [cg,qD z l r]
theorem uR{p q:List Nat}:∀{l:List (List Nat)},q∈gT p l->q=p\/q∈l
 | [],h=>by simp [gT] at h;exact .inl h
 |r::l,h=>by
  simp only[gT] at h
  cases hl:pZ r p with
  |false=>rw[hl] at h;simpa using h
  |true=>
   rw[hl] at h
   rcases List.mem_cons.1 h with h|h
   ·exact .inr (by simp [h])
   ·rcases uR h with h|h
    ·exact .inl h
    ·exact .inr (List.mem_cons_of_mem _ h)
theorem qE{q:List Nat}:∀{l:List (List Nat)},q∈fH l->q∈l
 | [],h=>h
 |p::l,h=>by
  rcases uR h with h|h
  ·simp [h]
  ·exact List.mem_cons_of_mem _ (qE h)
theorem At{v:SV}{id:Nat}{t:Ty}{p:List Nat}(h:v.norm= .ptr id t p):v= .ptr id t p:=by
 cases v<;>simp [SV.norm] at h
 obtain⟨h1,h2,h3⟩:=h
 rw[h1,h2,h3]
theorem ai.norm{pl:List Nat->Place}{sv:SV}{v:Value}(hr:ai X pl sv v):ai X pl sv.norm v:=by
 cases sv with
 |al t x own=>
  obtain⟨cs,h1,h2,h3⟩:=hr
  exact⟨cs,h1,h2,fun p hp=>h3 p (qE hp)⟩
 |_=>exact hr
theorem bm.norm{pl:Nat->List Nat->Place}{l:List SV}{v:Value}(hr:bm X pl l v):bm X pl (l.map SV.norm) v:=by
 match l,hr with
 | [s],hr=>exact ai.norm hr
 | [],hr=>exact hr
 |x::y::r,⟨vs,h1,h2,h3⟩=>
  refine⟨vs,h1,by simpa using h2,fun j s u hs hu=> ?_⟩
  have hs:((x::y::r).map SV.norm)[j]? =some s:=hs
  rw[List.getElem?_map] at hs
  obtain⟨s0,cz,rfl⟩:=Option.map_eq_some_iff.1 hs
  exact ai.norm (h3 j s0 u cz hu)
theorem bG.less{r:Nat}{pl:List Nat->Place}{t:Ty}{x:El t}{own eV:List (List Nat)}(ho:∀p∈eV,p∈own)(h:bG X r pl t x own):bG X r pl t x eV:=by
 unfold bG at h⊢
 split at h
 ·exact h
 ·exact h
 ·exact h
 ·exact⟨h.1,fun hm=>h.2 (ho [] hm)⟩
 ·exact h.elim
 ·obtain⟨cs,T,h1,h2,h3⟩:=h
  exact⟨cs,T,h1,h2,fun p hp=>h3 p (ho p hp)⟩
theorem Rel.norm(hr:Rel X s a):Rel X s.norm a where
 size:=by simpa [State.norm] using hr.size
 cN:=by simpa [State.norm] using hr.cN
 aM:=fun i l v hl hv=>by
  simp only[State.norm,List.getElem?_map] at hl
  obtain⟨l0,h0,rfl⟩:=Option.map_eq_some_iff.1 hl
  exact bm.norm (hr.aM i l0 v h0 hv)
 boxes:=fun id B hB=>by
  simp only[State.norm,List.getElem?_map] at hB
  obtain⟨b0,h0,h1⟩:=Option.map_eq_some_iff.1 hB
  obtain⟨B0,rfl,rfl⟩:=Option.map_eq_some_iff.1 h1
  obtain⟨r,g1,g2,g3⟩:=hr.boxes id B0 h0
  exact⟨r,g1,g2,g3.less fun p hp=>qE hp⟩
 live:=fun i l id t p hl hm=>by
  simp only[State.norm,List.getElem?_map] at hl
  obtain⟨l0,h0,rfl⟩:=Option.map_eq_some_iff.1 hl
  obtain⟨v0,sU,he⟩:=List.mem_map.1 hm
  rw[At he] at sU
  obtain⟨B,hB⟩:=hr.live i l0 id t p h0 sU
  exact⟨B.norm,by simp [State.norm,hB]⟩
 defers:=hr.defers
theorem mJ(hr:Rel X s a){l:List Nat}{R:Type}{K:State->Option R}{z:R}(h:hM l s K=some z):∃s',K s'=some z/\Rel X s' a:=by
 unfold hM at h
 simp only at h
 cases hb:(cg [.undef] l 0 s.sl).all (fun v=>v.all (SV.roots l)) with
 |false=>rw[hb] at h;cases h
 |true=>
  rw[hb] at h
  refine⟨_,h,Rel.norm ?_⟩
  have dG:s.bs=s.bs.headD none::s.bs.tail:=by
   have:=hr.cN
   cases hs:s.bs with
   |nil=>rw[hs] at this;simp at this
   |cons b r=>rfl
  have bf:∀(id:Nat) B,(s.bs.headD none::cg none l 0 s.bs.tail)[id]? =some (some B)->s.bs[id]? =some (some B):=by
   intro id B hB
   rw[dG]
   cases id with
   |zero=>exact hB
   |succ id=>
    simp only[List.getElem?_cons_succ] at hB⊢
    rw[mL] at hB
    obtain⟨x,hx,he⟩:=Option.map_eq_some_iff.1 hB
    rw[hx]
    cases hl:l.any (Nat.beq (0+id))<;>rw[hl] at he
    ·cases he
    ·rw[<-he];rfl
  refine⟨by rw[qD];exact hr.size,?_,fun i v x hv hx=> ?_,fun id B hB=>hr.boxes id B (bf id B hB),fun i v id t p hv hm=> ?_,hr.defers⟩
  ·simp only[List.length_cons,qD,List.length_tail]
   have:=hr.cN
   omega
  ·rw[mL] at hv
   obtain⟨y,hy,rfl⟩:=Option.map_eq_some_iff.1 hv
   cases hl:l.any (Nat.beq (0+i)) with
   |false=>trivial
   |true=>exact hr.aM i y x hy hx
  ·have mf:SV.roots l (.ptr id t p)=true:=by
    have:=List.all_eq_true.1 hb v (List.mem_of_getElem? hv)
    exact List.all_eq_true.1 this _ hm
   rw[mL] at hv
   obtain⟨y,hy,he⟩:=Option.map_eq_some_iff.1 hv
   have pz:SV.ptr id t p∈y:=by
    cases hl:l.any (Nat.beq (0+i)) with
    |false=>rw[hl] at he;subst he;simp at hm
    |true=>rw[hl] at he;subst he;exact hm
   obtain⟨B,hB⟩:=hr.live i y id t p hy pz
   refine⟨B,?_⟩
   rw[dG] at hB
   cases id with
   |zero=>exact hB
   |succ id=>
    simp only[List.getElem?_cons_succ] at hB⊢
    rw[mL,hB]
    have:l.any (Nat.beq id)=true:=mf
    have h2:l.any (Nat.beq (0+id))=true:=by rw[Nat.zero_add];exact this
    simp [this]
theorem zY{Y:ah}{id:Nat}{pl:Nat->List Nat->Place}{l:List SV}{v:Value}(hr:bm Y pl l v):bm Y pl (iC id l) v:=by
 have key:∀(sv:SV) (q:List Nat->Place) (w:Value),ai Y q sv w->ai Y q (match sv with
  | .ptr j _ _=>bif Nat.beq j id then .undef else sv
  |v=>v) w:=by
  intro sv q w h
  cases sv with
  |ptr j t p=>
   simp only
   cases Nat.beq j id with
   |true=>trivial
   |false=>exact h
  |_=>exact h
 match l,hr with
 | [sv],hr=>exact key sv _ _ hr
 | [],hr=>exact hr
 |x::y::r,⟨vs,h1,h2,h3⟩=>
  refine⟨vs,h1,by simpa [iC] using h2,fun j s u hs hu=> ?_⟩
  have hs:(iC id (x::y::r))[j]? =some s:=hs
  unfold iC at hs
  rw[List.getElem?_map] at hs
  obtain⟨s0,cz,rfl⟩:=Option.map_eq_some_iff.1 hs
  exact key s0 _ _ (h3 j s0 u cz hu)
theorem AY{id:Nat}{l:List SV}{j:Nat}{t:Ty}{p:List Nat}(h:SV.ptr j t p∈iC id l):SV.ptr j t p∈l/\j≠id:=by
 unfold iC at h
 obtain⟨s0,cz,he⟩:=List.mem_map.1 h
 cases s0 with
 |ptr j' t' p'=>
  simp only at he
  cases hb:Nat.beq j' id with
  |true=>rw[hb] at he;cases he
  |false=>
   rw[hb] at he
   cases he
   exact⟨cz,fun e=>Nat.ne_of_beq_eq_false hb e⟩
 |_=>simp only at he;cases he
def ah.still(X:ah)(r n:Nat):ah:={X with ow:=fun g=>if g=r then .ro n else X.ow g}
theorem jc{r n id:Nat}(h:X.ow r= .box id){ad:Addr}{v:Value}(hs:X.aj ad v):(X.still r n).aj ad v:=by
 have bu:ad.block≠r:=fun e=>by
  have:=hs.2.2
  rw[e,h] at this
  exact this
 refine⟨hs.1,hs.2.1,?_⟩
 simp only[ah.still]
 rw[if_neg bu]
 exact hs.2.2
theorem uA{r n id:Nat}(h:X.ow r= .box id):Ext X (X.still r n) where
 aj:=fun _ _=>jc h
 size:=Nat.le_refl _
 os:=rfl
 tape:=rfl
 output:=rfl
 β0:=rfl
 still:=fun g _ bp=>by
  have bu:g≠r:=fun e=>by rw[e,h] at bp;exact bp
  exact⟨by simp only[ah.still];rw[if_neg bu],rfl⟩
theorem aE.bO{r n id:Nat}(h:X.ow r= .box id){pl:Place}{e:TypeId}{k m:Nat}{v:Value}(ho:aE X pl e k m v):aE (X.still r n) pl e k m v:=by
 rcases ho with ho|⟨g,cap,cur,h1,h2,h3,h4,h5,h6⟩
 ·exact .inl ho
 ·have bu:g≠r:=fun e=>by rw[e,h] at h6;cases h6
  exact .inr ⟨g,cap,cur,h1,h2,h3,h4,h5,by simp only[ah.still];rw[if_neg bu];exact h6⟩
theorem aD.bO{r n id:Nat}(h:X.ow r= .box id){pl:List Nat->Place}{t:Ty}{x:El t}{c:List Value}{own:List (List Nat)}(ho:aD X pl t x c own):aD (X.still r n) pl t x c own:=fun p hp=>by
 obtain⟨e,t',xs,v,g0,g1,g2,g3⟩:=ho p hp
 exact⟨e,t',xs,v,g0,g1,g2,g3.bO h⟩
theorem ai.bO{r n id:Nat}(h:X.ow r= .box id){pl:List Nat->Place}{sv:SV}{v:Value}(hr:ai X pl sv v):ai (X.still r n) pl sv v:=by
 cases sv with
 |al t x own=>
  obtain⟨c,h1,h2,h3⟩:=hr
  exact⟨c,h1.af (fun _ _=>jc h),h2,h3.bO h⟩
 |view t x=>
  obtain⟨ad,c,h1,h2,h3,h4⟩:=hr
  exact⟨ad,c,h1,h2,h3.af (fun _ _=>jc h),fun i u hi=>jc h (h4 i u hi)⟩
 |cap f t x u y=>exact ii (fun _ _=>jc h) hr
 |_=>exact hr
theorem qB(l:List Nat):∀(xs:List (Option aI)) (i j:Nat),(cX l i xs)[j]? =(xs[j]?).map fun b=>bif l.any (Nat.beq (i+j)) then b.map (fun B=>{B with own:=[]}) else b
 | [],i,j=>by simp [cX]
 |x::r,i,0=>by simp [cX]
 |x::r,i,j+1=>by
  simp only[cX,List.getElem?_cons_succ]
  rw[qB l r (i+1) j,show i+1+j=i+(j+1) by omega]
theorem uc(l:List Nat):∀(xs:List (Option aI)) (i:Nat),(cX l i xs).length=xs.length
 | [],i=>rfl
 |x::r,i=>by simp [cX,uc l r]
theorem Rel.drop(hr:Rel X s a)(l:List Nat):Rel X (s.drop l) a where
 size:=hr.size
 cN:=by simp only[State.drop,uc];exact hr.cN
 aM:=hr.aM
 boxes:=fun id B hB=>by
  simp only[State.drop,qB] at hB
  obtain⟨b0,h0,h1⟩:=Option.map_eq_some_iff.1 hB
  cases hl:l.any (Nat.beq (0+id)) with
  |false=>rw[hl] at h1;simp only[cond_false] at h1;subst h1;exact hr.boxes id B h0
  |true=>
   rw[hl] at h1
   simp only[cond_true] at h1
   obtain⟨B0,rfl,rfl⟩:=Option.map_eq_some_iff.1 h1
   obtain⟨r,g1,g2,g3⟩:=hr.boxes id B0 h0
   exact⟨r,g1,g2,g3.less fun p hp=>by cases hp⟩
 live:=fun i v id t p hv hm=>by
  obtain⟨B,hB⟩:=hr.live i v id t p hv hm
  simp only[State.drop,qB,hB,Option.map_some]
  cases l.any (Nat.beq (0+id))<;>exact⟨_,rfl⟩
 defers:=hr.defers
theorem AF(hr:Rel X s a){r:Nat}{R:Type}{K:State->Option R}{z:R}(h:fZ E r s K=some z):∃Y s',Y.w=X.w/\Ext X Y/\K s'=some z/\Rel Y s' a:=by
 unfold fZ at h
 split at h
 ·exact⟨X,s,rfl,Ext.refl X,h,hr⟩
 rename_i d T vT
 split at h
 case h_2=>cases h
 rename_i id n ta tb e t dw hT
 split at h
 case isFalse=>cases h
 rename_i heq
 have:=Ty.ax heq
 subst this
 split at h
 case h_2=>cases h
 rename_i B hB
 split at h
 case isFalse=>cases h
 rename_i cj
 obtain⟨hb,rr,h1,how,cs,T',aq,cQ,b7⟩:=kz hr hB cj
 generalize(Ty.cast cj B.x:List (El ta))=xs at*
 cases hn:Nat.beq n (List.length xs) with
 |false=>rw[hn] at h;cases h
 |true=>
  rw[hn] at h
  have hn:=Nat.eq_of_beq_eq_true hn
  have hd:d<s.sl.length:=by
   rcases Nat.lt_or_ge d s.sl.length with h1|h1
   ·exact h1
   ·simp [State.slot,List.getElem?_eq_none h1] at dw
  have eO:=hr.slot d
  rw[dw] at eO
  obtain⟨r0,hβ,cap,hv,eK⟩:=(show ai X (.c d 0) (.ptr id (.aG (.dI n) ta tb) []) _ from eO)
  rw[h1] at hβ
  cases hβ
  have aw:id<s.bs.length:=(List.getElem?_eq_some_iff.1 hb).1
  refine⟨X.still rr (xs.length*ta.cells),_,rfl,uA how,h,?_,?_,fun i l v hl hx=> ?_,fun aS B' cO=> ?_,fun i l j t p hl hm=> ?_,hr.defers⟩
  ·simpa using hr.size
  ·simpa using hr.cN
  ·replace hl:((s.sl.map (iC id)).set d [.al (.sl e ta) xs []])[i]? =some l:=hl
   rw[List.getElem?_set] at hl
   split at hl
   ·rename_i iH
    subst iH
    rw[if_pos (by simpa using hd)] at hl
    cases hl
    have ml:a.tmps.getD d Go.undef=v:=by
     rw[Array.getD_eq_getD_getElem?,hx];rfl
    rw[ml] at hv
    refine⟨[v],?_,rfl,zr⟩
    rw[hv,hn]
    refine aA.iX rfl (by omega) (fun j y hj=>⟨⟨rr,0,none⟩,_,rfl,rfl,(b7 j y hj).af (fun _ _=>jc how),fun i u hi=> ?_⟩)
    have iJ:=(List.getElem?_eq_some_iff.1 hj).1
    have hle:(j+1)*ta.cells<=xs.length*ta.cells:=Nat.mul_le_mul_right _ iJ
    rw[Nat.add_mul,Nat.one_mul] at hle
    rw[List.getElem?_take] at hi
    split at hi
    case isFalse=>cases hi
    rename_i nr
    rw[List.getElem?_drop] at hi
    refine⟨jL rfl _,?_,?_⟩
    ·rw[zn,Nat.zero_add]
     show X.w.cell? _=_
     simp only[World.cell?,aq]
     simpa using hi
    ·rw[zn,Nat.zero_add]
     show Ow.used (if rr=rr then .ro (xs.length*ta.cells) else X.ow rr) _
     rw[if_pos rfl]
     show j*ta.cells+i<_
     omega
   ·rw[List.getElem?_map] at hl
    obtain⟨l0,h0,rfl⟩:=Option.map_eq_some_iff.1 hl
    exact zY ((hr.aM i l0 v h0 hx).dJ fun j sv u hm dH=>dH.bO how)
  ·replace cO:(s.bs.set id none)[aS]? =some (some B'):=cO
   rw[List.getElem?_set] at cO
   split at cO
   ·rename_i nq
    cases cO
   ·rename_i nq
    obtain⟨r',g1,g2,g3⟩:=hr.boxes aS B' cO
    have bu:r'≠rr:=fun e2=>by rw[e2,how] at g2;cases g2;exact nq rfl
    exact⟨r',g1,by simp only[ah.still];rw[if_neg bu];exact g2,g3.move (fun _ _=>jc how) rfl (fun cs h5=>h5.bO how) fun _ g o ho hw=>⟨ho,by simp only[ah.still];rw[if_neg (fun e3=>by rw[e3,how] at hw;cases hw)];exact hw⟩⟩
  ·replace hl:((s.sl.map (iC id)).set d [.al (.sl e ta) xs []])[i]? =some l:=hl
   rw[List.getElem?_set] at hl
   split at hl
   ·rw[if_pos (by simpa using hd)] at hl
    cases hl
    simp at hm
   ·rw[List.getElem?_map] at hl
    obtain⟨l0,h0,rfl⟩:=Option.map_eq_some_iff.1 hl
    obtain⟨hm,bu⟩:=AY hm
    obtain⟨B2,bD⟩:=hr.live i l0 j t p h0 hm
    exact⟨B2,by show(s.bs.set id none)[j]? =_;rw[List.getElem?_set,if_neg (fun e=>bu e.symm)];exact bD⟩
theorem uD(hr:Rel X s a){id rr:Nat}{B:aI}(hb:s.bs[id]? =some (some B))(hs:B.t.aJ=false)(h1:X.β id=some rr)(how:X.ow rr= .box id){cs:Array Value}{T:TypeId}(aq:X.w.heap[rr]? =some (.cells cs T (0,0)))(av:aA X B.t B.x cs.toList){pl:List Nat->Place}{sv:SV}{v:Value}(h:ai X pl sv v):ai (X.still rr cs.size) pl (jl id B sv) v:=by
 have bQ:=h.bO (n:=cs.size) how
 cases sv with
 |ptr j t p=>
  unfold jl
  simp only
  cases hj:Nat.beq j id with
  |false=>exact bQ
  |true=>
   have:=Nat.eq_of_beq_eq_true hj
   subst this
   simp only[cond_true]
   split
   case isFalse=>trivial
   rename_i heq
   have:=Ty.ax heq
   subst this
   split
   case h_2=>trivial
   rename_i u y bf
   obtain⟨r0,hβ,hv⟩:=h
   rw[h1] at hβ
   cases hβ
   obtain⟨hv,cw⟩:=(zq hs).1 hv
   obtain⟨k1,k2,k3⟩:=z40 av cw bf
   refine⟨_,_,hv,rfl,k3.af (fun _ _=>jc how),fun i w hi=>⟨jL rfl _,?_,?_⟩⟩
   ·exact nR aq hi
   ·rw[zn]
    show Ow.used (if rr=rr then .ro cs.size else X.ow rr) _
    rw[if_pos rfl]
    rw[List.getElem?_take] at hi
    split at hi
    case isFalse=>cases hi
    rw[List.getElem?_drop] at hi
    have:=(List.getElem?_eq_some_iff.1 hi).1
    show _<cs.size
    simpa using this
 |_=>exact bQ
theorem zA(hr:Rel X s a){id rr:Nat}{B:aI}(hb:s.bs[id]? =some (some B))(hs:B.t.aJ=false)(h1:X.β id=some rr)(how:X.ow rr= .box id){cs:Array Value}{T:TypeId}(aq:X.w.heap[rr]? =some (.cells cs T (0,0)))(av:aA X B.t B.x cs.toList){pl:Nat->List Nat->Place}{l:List SV}{v:Value}(h:bm X pl l v):bm (X.still rr cs.size) pl (l.map (jl id B)) v:=by
 match l,h with
 | [sv],h=>exact uD hr hb hs h1 how aq av h
 | [],⟨vs,g1,g2,g3⟩=>exact⟨vs,g1,g2,fun j sv u er=>by simp at er⟩
 |x::y::r,⟨vs,g1,g2,g3⟩=>
  refine⟨vs,g1,by simpa using g2,fun j sv u er hu=> ?_⟩
  have er:((x::y::r).map (jl id B))[j]? =some sv:=er
  rw[List.getElem?_map] at er
  obtain⟨s0,cz,rfl⟩:=Option.map_eq_some_iff.1 er
  exact uD hr hb hs h1 how aq av (g3 j s0 u cz hu)
theorem AJ{id:Nat}{B:aI}{l:List SV}{j:Nat}{t:Ty}{p:List Nat}(h:SV.ptr j t p∈l.map (jl id B)):SV.ptr j t p∈l/\j≠id:=by
 obtain⟨s0,cz,he⟩:=List.mem_map.1 h
 unfold jl at he
 cases s0 with
 |ptr j' t' p'=>
  simp only at he
  cases hb:Nat.beq j' id with
  |true=>
   rw[hb] at he
   simp only[cond_true] at he
   split at he
   ·split at he<;>cases he
   ·cases he
  |false=>
   rw[hb] at he
   cases he
   exact⟨cz,fun e=>Nat.ne_of_beq_eq_false hb e⟩
 |_=>simp only at he;cases he
theorem xF(hr:Rel X s a){id:Nat}{R:Type}{K:State->Option R}{z:R}(h:n0 id s K=some z):∃Y s',Y.w=X.w/\Ext X Y/\K s'=some z/\Rel Y s' a:=by
 unfold n0 at h
 split at h
 case h_2=>cases h
 rename_i B hB
 split at h
 case isTrue=>cases h
 rename_i hs
 have hs:B.t.aJ=false:=by simpa using hs
 have hb:=gi hB
 obtain⟨rr,h1,iF⟩:=hr.boxes id B hb
 obtain⟨cs,T,aq,av,how,_⟩:=iF.cells hs
 refine⟨X.still rr cs.size,_,rfl,uA how,h,by simpa using hr.size,by simpa using hr.cN,fun i l v hl hx=> ?_,fun aS B' cO=> ?_,fun i l j t p hl hm=> ?_,hr.defers⟩
 ·replace hl:(s.sl.map fun l=>l.map (jl id B))[i]? =some l:=hl
  rw[List.getElem?_map] at hl
  obtain⟨l0,h0,rfl⟩:=Option.map_eq_some_iff.1 hl
  exact zA hr hb hs h1 how aq av (hr.aM i l0 v h0 hx)
 ·replace cO:(s.bs.set id none)[aS]? =some (some B'):=cO
  rw[List.getElem?_set] at cO
  split at cO
  ·split at cO<;>cases cO
  ·rename_i nq
   obtain⟨r',g1,g2,g3⟩:=hr.boxes aS B' cO
   have bu:r'≠rr:=fun e2=>by rw[e2,how] at g2;cases g2;exact nq rfl
   exact⟨r',g1,by simp only[ah.still];rw[if_neg bu];exact g2,g3.move (fun _ _=>jc how) rfl (fun cs h5=>h5.bO how) fun _ g o ho hw=>⟨ho,by simp only[ah.still];rw[if_neg (fun e3=>by rw[e3,how] at hw;cases hw)];exact hw⟩⟩
 ·replace hl:(s.sl.map fun l=>l.map (jl id B))[i]? =some l:=hl
  rw[List.getElem?_map] at hl
  obtain⟨l0,h0,rfl⟩:=Option.map_eq_some_iff.1 hl
  obtain⟨hm,bu⟩:=AJ hm
  obtain⟨B2,bD⟩:=hr.live i l0 j t p h0 hm
  exact⟨B2,by show(s.bs.set id none)[j]? =_;rw[List.getElem?_set,if_neg (fun e=>bu e.symm)];exact bD⟩
theorem tC{R:Type}{K:State->Option R}{z:R}:∀(l:List Nat) (X:ah) (s:State),Rel X s a->ld l s K=some z->∃Y s',Y.w=X.w/\Ext X Y/\K s'=some z/\Rel Y s' a
 | [],X,s,hr,h=>⟨X,s,rfl,Ext.refl X,h,hr⟩
 |id::r,X,s,hr,h=>by
  obtain⟨Y,s1,h1,h2,h3,h4⟩:=xF hr h
  obtain⟨Z,s2,k1,k2,k3,k4⟩:=tC r Y s1 h4 h3
  exact⟨Z,s2,k1.trans h1,h2.trans k2,k3,k4⟩
def Fr(E:Env)(X0:ah):Prop:=E.sp≠none->∀g pl n,X0.ow g≠ .row pl n
def uE(P:Program)(E:Env)(C:ay)(k:Nat)(c:Code):Prop:=
 ∀(X0 X:ah) (s:State) (a:Act) (e:Ex) (s':State),Fr E X0->Ext X0 X->Rel X s a->ev E (C (Ex×State)) k c s (fun e s=>some (e,s))=some (e,s')->
  ∀(Q:Exit->Act->World->Prop),(∀Y a',Ext X0 Y->Rel Y s' a'->Q e.exit' a' Y.w)->c.wp P Q a X.w
theorem Aq(hr:Rel X s a){k r:Nat}{R:Type}{K:State->Option R}{z:R}(h:eS E k r s K=some z):∃s',K s'=some z/\Rel X s' a:=by
 unfold eS at h
 split at h
 ·exact⟨s,h,hr⟩
 ·obtain⟨s',h1,h2⟩:=mJ hr h
  refine⟨s',?_,h2⟩
  unfold eQ at h1
  split at h1
  ·cases h1
  ·exact h1
theorem yO{C:ay}(hC:C.Nat){k:Nat}{b:Code}(hb:uE P E C k b){l lx:List Nat}{Q:Exit->Act->World->Prop}{e':Ex}{s':State}{X0:ah}(hF:Fr E X0)(hQ:∀Y a',Ext X0 Y->Rel Y s' a'->Q e'.exit' a' Y.w):
 ∀(n:Nat) (a:Act) (w:World),(∃X s,X.w=w/\Ext X0 X/\Rel X s a/\bU (ev E (C (Ex×State)) k b) l lx n s (fun e s=>some (e,s))=some (e',s'))->
  ∃m,n=m+1/\b.wp P (Exit.then (fun a w=>∃X s,X.w=w/\Ext X0 X/\Rel X s a/\bU (ev E (C (Ex×State)) k b) l lx m s (fun e s=>some (e,s))=some (e',s')) Q) a w:=by
 rintro n a w ⟨X,s,rfl,aC,hr,h⟩
 cases n with
 |zero=>cases h
 |succ m=>
  refine⟨m,rfl,?_⟩
  simp only[bU] at h
  obtain⟨⟨e1,s2⟩,h1,h2⟩:=zo (iu hC b _ (fun e s=>some (e,s)) (K:=fun z=>match z.1 with
   | .normal=>hM l z.2 fun s=>bU (ev E (C (Ex×State)) k b) l lx m s (fun e s=>some (e,s))
   |e=>hM lx z.2 fun s=>some (e,s)) (fun e s=>by cases e<;>rfl) s) h
  refine hb X0 X s a e1 s2 hF aC hr h1 _ fun Y a' aQ aF=> ?_
  cases e1 with
  |normal=>
   obtain⟨s3,h3,kh⟩:=mJ aF h2
   exact⟨Y,s3,rfl,aQ,kh,h3⟩
  |exit id=>
   obtain⟨s3,h3,kh⟩:=mJ aF h2
   cases h3
   exact hQ Y a' aQ kh
  |ret=>
   obtain⟨s3,h3,kh⟩:=mJ aF h2
   cases h3
   exact hQ Y a' aQ kh
theorem tj(hE:ag P E)(hm:P.follows .mixedOrders=true){C:ay}(hC:C.Nat)(hf:∀f,bW P C f){id:Nat}{ops:Array Oper}{d:Bool}{sg X0:ah}{s0:State}{a:Act}{e:Ex}{s':State}(hx:Ext sg X0)(sP:Rel X0 s0 a)(h0:lg E (C (Ex×State)) id ops d s0 ((fun e s=>some (e,s)) Ex.normal)=some (e,s')){Q:Exit->Act->World->Prop}(su:∀Y a',Ext sg Y->Rel Y s' a'->Q e.exit' a' Y.w):(Code.region id ops d).wp P Q a X0.w:=by
 unfold lg at h0
 obtain⟨X1,s1,nA,jq,sn,cP⟩:=AF sP h0
 obtain⟨X,s,ib,aQ,h,hr⟩:=tC _ X1 s1 cP sn
 have hw:X.w=X0.w:=ib.trans nA
 have jo:Ext X0 X:=jq.trans aQ
 clear sn cP nA ib jq aQ
 have hQ:∀Y a',Ext X Y->Rel Y s' a'->Q e.exit' a' Y.w:=fun Y a' aC aF=>su Y a' (hx.trans (jo.trans aC)) aF
 rw[<-hw]
 clear h0 sP su jo hw
 cases d with
 |true=>
  simp only[cond_true] at h
  obtain⟨s1,h1,h2⟩:=zo (qw hC (F:=fun s=>some (Ex.normal,s)) (G:=some) (K:=fun s=>some (Ex.normal,s)) (fun _=>rfl) ops.toList 0 s []) h
  cases h2
  exact yH hE hm hC hf hr h1 hQ
 |false=>
  simp only[cond_false] at h
  obtain⟨s1,h1,h2⟩:=zo (mN hC (F:=fun s=>some (Ex.normal,s)) (G:=some) (K:=fun s=>some (Ex.normal,s)) (fun _=>rfl) ops.toList s) h
  cases h2
  refine wp_region (u4 hE hC hf (List.range ops.size) X s a hr (fun i hi=>List.mem_range.1 hi) ?_ hQ)
  have:(List.range ops.size).map (fun i=>ops.getD i default)=ops.toList:=by
   apply List.ext_getElem?
   intro i
   rw[List.getElem?_map]
   by_cases hi:i<ops.size
   ·simp [hi]
   ·simp [hi]
  rw[this];exact h1
theorem kr(hE:ag P E)(hm:P.follows .mixedOrders=true){C:ay}(hC:C.Nat)(hf:∀f,bW P C f)(k:Nat):∀c:Code,uE P E C k c
 | .skip=>fun X0 X s a e s' hF hx hr h Q hQ=>by
   simp only[ev,Option.some.injEq,Prod.mk.injEq] at h
   obtain⟨rfl,rfl⟩:=h
   exact wp_skip (hQ X a hx hr)
 | .region id ops d=>fun X0 X s a e s' hF hx hr h Q hQ=>by
   simp only[ev] at h
   split at h
   ·rename_i j q eF
    cases hj:Nat.beq id j with
    |true=>
     rw[hj,cond_true] at h
     cases d with
     |true=>cases h
     |false=>
      cases hq:Nat.beq q.2.2 0 with
      |true=>
       simp only[hq,cond_true] at h
       obtain⟨s1,h1,h2⟩:=zo (uX hC (F:=fun s=>some (Ex.normal,s)) (G:=some) (K:=fun s=>some (Ex.normal,s)) (fun _=>rfl)) h
       cases h2
       exact yX hE hC hf (hF (by rw[eF];exact fun e=>by cases e)) hx hr h1 hQ
      |false=>
      simp only[hq,cond_false] at h
      obtain⟨s1,h1,h2⟩:=zo (u5 (F:=fun s=>some (Ex.normal,s)) (G:=some) (K:=fun s=>some (Ex.normal,s)) (fun _=>rfl)) h
      cases h2
      exact y8 hE (hF (by rw[eF];exact fun e=>by cases e)) hx hr h1 hQ
    |false=>
     rw[hj,cond_false] at h
     exact tj hE hm hC hf hx hr h hQ
   ·exact tj hE hm hC hf hx hr h hQ
 | .seq x y=>fun X0 X s a e s' hF hx hr h Q hQ=>by
   simp only[ev] at h
   obtain⟨⟨e1,s1⟩,h1,h2⟩:=zo (iu hC x _ (fun e s=>some (e,s)) (K:=fun z=>match z.1 with
    | .normal=>eS E k (zv y) z.2 fun s=>ev E (C (Ex×State)) k y s (fun e s=>some (e,s))
    |e=>some (e,z.2)) (fun e s=>by cases e<;>rfl) s) h
   refine wp_seq (kr hE hm hC hf k x X0 X s a e1 s1 hF hx hr h1 _ fun Y a' aC aF=> ?_)
   cases e1 with
   |normal=>
    obtain⟨s2,h2,aF⟩:=Aq aF h2
    exact kr hE hm hC hf k y X0 Y s2 a' e s' hF aC aF h2 Q hQ
   |exit id=>cases h2;exact hQ Y a' aC aF
   |ret=>cases h2;exact hQ Y a' aC aF
 | .cond c x y=>fun X0 X s a e s' hF hx hr h Q hQ=>by
   simp only[ev] at h
   have hc:=hr.ak c
   split at h
   case h_2=>cases h
   rename_i p w hs
   rw[hs] at hc
   have hv:=mG hc
   have cP:Rel X (s.au (hG c) (bl p)) a:=by
    cases c with
    |tmp i=>
     have dw:s.slot i=[.al .bool p w]:=by
      have hh:one (s.slot i)= .al .bool p w:=hs
      match hm:s.slot i,hh with
      | [sv],hh=>have lS:sv= .al .bool p w:=hh;rw[lS]
      | [],hh=>cases hh
      |_::_::_,hh=>cases hh
     exact(hr.know dw).1
    |_=>exact hr
   refine wp_cond_split hv (fun hp=> ?_) (fun hp=> ?_)
   ·subst hp
    exact kr hE hm hC hf k x X0 X _ a e s' hF hx cP h Q hQ
   ·subst hp
    exact kr hE hm hC hf k y X0 X _ a e s' hF hx cP h Q hQ
 | .block id b=>fun X0 X s a e s' hF hx hr h Q hQ=>by
   simp only[ev] at h
   obtain⟨⟨e1,s1⟩,h1,h2⟩:=zo (iu hC b _ (fun e s=>some (e,s)) (K:=fun z=>match z.1 with
    | .exit j=>bif Nat.beq j id then some (.normal,z.2) else some (.exit j,z.2)
    |e=>some (e,z.2)) (fun e s=>by cases e<;>rfl) s) h
   refine wp_block (kr hE hm hC hf k b X0 X s a e1 s1 hF hx hr h1 _ fun Y a' aC aF=> ?_)
   cases e1 with
   |normal=>cases h2;exact hQ Y a' aC aF
   |ret=>cases h2;exact hQ Y a' aC aF
   |exit j=>
    simp only at h2
    show(if j=id then Q .normal a' Y.w else Q (.exit j) a' Y.w)
    cases hj:Nat.beq j id with
    |true=>
     rw[hj] at h2;cases h2
     rw[if_pos (Nat.eq_of_beq_eq_true hj)]
     exact hQ Y a' aC aF
    |false=>
     rw[hj] at h2;cases h2
     rw[if_neg (Nat.ne_of_beq_eq_false hj)]
     exact hQ Y a' aC aF
 | .loop b=>fun X0 X s a e s' hF hx hr h Q hQ=>by
   simp only[ev] at h
   obtain⟨s1,h,cP⟩:=mJ (hr.drop _) h
   exact zE _ (yO hC (kr hE hm hC hf k b) hF (Q:=Q) hQ) ⟨X,s1,rfl,hx,cP,h⟩
 | .exit id=>fun X0 X s a e s' hF hx hr h Q hQ=>by
   simp only[ev,Option.some.injEq,Prod.mk.injEq] at h
   obtain⟨rfl,rfl⟩:=h
   exact wp_exit (hQ X a hx hr)
 | .ret=>fun X0 X s a e s' hF hx hr h Q hQ=>by
   simp only[ev,Option.some.injEq,Prod.mk.injEq] at h
   obtain⟨rfl,rfl⟩:=h
   exact wp_ret (hQ X a hx hr)
 | .rangeFunc .. =>fun X0 X s a e s' hF hx hr h Q hQ=>by simp only[ev] at h;cases h
 | .scope _=>fun X0 X s a e s' hF hx hr h Q hQ=>by simp only[ev] at h;cases h
 | .label _=>fun X0 X s a e s' hF hx hr h Q hQ=>by simp only[ev] at h;cases h
 | .goto _=>fun X0 X s a e s' hF hx hr h Q hQ=>by simp only[ev] at h;cases h
 | .refuse _=>fun X0 X s a e s' hF hx hr h Q hQ=>by simp only[ev] at h;cases h
end Go.Ref

namespace Go.Ref
open Go
variable {P:Program} {E:Env} {X:ah} {s:State} {a:Act}
def bR(X Y:ah):Prop:=Y.w=X.w/\∀g j p n,X.ow g= .row (.r j p) n->Y.ow g= .row (.r j p) n
theorem bR.refl(X:ah):bR X X:=⟨rfl,fun _ _ _ _ h=>h⟩
theorem bR.trans{X Y Z:ah}(h:bR X Y)(k:bR Y Z):bR X Z:=⟨k.1.trans h.1,fun g j p n e=>k.2 g j p n (h.2 g j p n e)⟩
theorem ai.jH{X Y:ah}(h:bR X Y)(hx:Ext X Y)(hβ:Y.β=X.β){j:Nat}{sv:SV}{v:Value}(hr:ai X (.r j) sv v):ai Y (.r j) sv v:=by
 cases sv with
 |undef=>trivial
 |skip=>exact hr
 |bc=>exact hr
 |cK=>exact hr
 |over=>exact hr
 |al t x own=>
  obtain⟨cs,h1,h2,h3⟩:=hr
  refine⟨cs,h1.mono hx,h2,fun p hp=> ?_⟩
  obtain⟨e,t',xs,v,g0,g1,g2,g3⟩:=h3 p hp
  refine⟨e,t',xs,v,g0,g1,g2,?_⟩
  rcases g3 with ho|⟨g,cap,cur,k1,k2,k3,k4,k5,k6⟩
  ·exact .inl ho
  ·exact .inr ⟨g,cap,cur,k1,by rw[h.1];exact k2,k3,k4,k5,h.2 _ _ _ _ k6⟩
 |ptr id t p=>obtain⟨r,h1,h2⟩:=hr;exact⟨r,by rw[hβ];exact h1,h2⟩
 |view t x=>
  obtain⟨ad,cs,h1,h2,h3,h4⟩:=hr
  exact⟨ad,cs,h1,h2,h3.mono hx,fun i u hi=>hx.aj _ _ (h4 i u hi)⟩
 |cap f t x u y=>exact ii hx.aj hr
theorem yf{X:ah}{i j:Nat}{q:List Nat->Place}:bR X (X.turn i j q):=⟨rfl,fun g j p n h=>by simp only[ah.turn,h]⟩
theorem xK{X:ah}{id:Nat}{p:List Nat}{q:List Nat->Place}:bR X (X.cr id p q):=⟨rfl,fun g j p n h=>by simp only[ah.cr,h]⟩
theorem rq(hE:ag P E):∀(rs:List ResultVar) (X:ah) (s s':State) (l:List SV) (j0:Nat),Rel X s a->cq E s rs=some (l,s')->
 ∃Y vs,Y.w=X.w/\Ext X Y/\bR X Y/\Y.β=X.β/\Rel Y s' a/\vs.length=l.length/\(∀(j:Nat) sv v,l[j]? =some sv->vs[j]? =some v->ai Y (.r (j0+j)) sv v)/\
  (rs.mapM (m:=Sem) fun x=>match x with
    | .tmp t=>pure (a.tmps.getD t Go.undef)
    | .cell ad t=>do loadVar t (<-asAddr (a.tmps.getD ad Go.undef))).run P X.w= .ok vs X.w
 | [],X,s,s',l,j0,hr,h=>by
   simp only[cq,Option.some.injEq,Prod.mk.injEq] at h
   obtain⟨rfl,rfl⟩:=h
   exact⟨X,[],rfl,Ext.refl X,bR.refl X,rfl,hr,rfl,fun j sv v hl=>by simp at hl,by simp⟩
 | .tmp t::r,X,s,s',l,j0,hr,h=>by
   simp only[cq] at h
   split at h
   case h_2=>cases h
   rename_i l1 s1 h1
   cases h
   have key:∃Y,Y.w=X.w/\Ext X Y/\bR X Y/\Y.β=X.β/\Rel Y (s.close [(t,0)]) a/\ai Y (.r j0) (one (s.slot t)) (a.tmps.getD t Go.undef):=by
    have aW:=hr.ak (.tmp t)
    cases hs:one (s.slot t) with
    |al ty x w=>
     have aW:ai X (.c t 0) (one (s.slot t)) (a.tmps.getD t Go.undef):=aW
     rw[hs] at aW
     obtain⟨cs,g1,g2,g3⟩:=aW
     have hT:bI (s.close [(t,0)]) X (X.turn t 0 (.r j0)):=uC fun p=>bj.close
     exact⟨X.turn t 0 (.r j0),rfl,hT.ext,yf,rfl,(hr.close _).mod hT.mod,cs,g1.af (fun _ _=>hT.aj.1),g2,g3.eB⟩
    |_=>
     refine⟨X,rfl,Ext.refl X,bR.refl X,rfl,hr.close _,?_⟩
     have aW:ai X (.c t 0) (one (s.slot t)) (a.tmps.getD t Go.undef):=aW
     rw[hs] at aW
     exact aW
   obtain⟨Y,hw,aC,bp,hβ,aF,av⟩:=key
   obtain⟨Z,vs,ib,aQ,gO,hβ2,bE,hlen,eN,aB⟩:=rq hE r Y _ s' l1 (j0+1) aF h1
   refine⟨Z,a.tmps.getD t Go.undef::vs,ib.trans hw,aC.trans aQ,bp.trans gO,hβ2.trans hβ,bE,by simp [hlen],fun j sv v hl hv=> ?_,?_⟩
   ·cases j with
    |zero=>
     simp only[List.getElem?_cons_zero,Option.some.injEq] at hl hv
     subst hl hv
     exact av.jH gO aQ hβ2
    |succ j=>
     simp only[List.getElem?_cons_succ] at hl hv
     rw[show j0+(j+1)=j0+1+j by omega]
     exact eN j sv v hl hv
   ·rw[hw] at aB
    simp only[List.mapM_cons,Sem.run_bind,Sem.run_pure,Result.andThen_ok,aB]
 | .cell p T::r,X,s,s',l,j0,hr,h=>by
   simp only[cq] at h
   split at h
   case h_2=>cases h
   rename_i id tt t dw hT
   split at h
   case h_2=>cases h
   rename_i B hB
   split at h
   case isFalse=>cases h
   rename_i heq
   rw[Bool.and_eq_true] at heq
   have b8:tt.aJ=false:=by simpa using heq.2
   have sT:=Ty.ax heq.1
   have sO:B.t.aJ=false:=sT▸hE.cV hT
   split at h
   case h_2=>cases h
   rename_i l1 s1 h1
   cases h
   have hb:=gi hB
   obtain⟨r0,hβ,iF⟩:=hr.boxes id B hb
   obtain⟨cs,T',aq,av,how,bn⟩:=iF.cells sO
   have eO:=hr.slot p
   rw[dw] at eO
   obtain⟨r1,hβ1,wH⟩:ai X (.c p 0) (.ptr id tt []) (a.tmps.getD p Go.undef):=eO
   obtain⟨hv,_⟩:=(zq b8).1 wH
   rw[hβ] at hβ1
   cases hβ1
   have cP:Rel X (s.ap (some (id,{B with own:=[]}))) a:=hr.fq hb hβ ⟨how,bG.of sO aq av zr⟩
   have kN:∀q,¬bj (s.ap (some (id,{B with own:=[]}))) (.b id ([]++q)):=by
    rintro q ⟨B2,bD,hp⟩
    rw[qu hb] at bD
    cases bD
    cases hp
   have eD:=tW (X:=X) (q:= .r j0) kN
   have me:ai (X.cr id [] (.r j0)) (.r j0) (.al B.t B.x B.own) (bN B.t cs.toList):=by
    refine⟨cs.toList,av.af (fun _ _=>eD.aj.1),rfl,fun q hq=> ?_⟩
    obtain⟨e,t',xs,v,g0,g1,g2,g3⟩:=bn q hq
    exact⟨e,t',xs,v,g0,g1,g2,aE.fJ (p:=[]) g3⟩
   obtain⟨Z,vs,ib,aQ,gO,hβ2,bE,hlen,eN,aB⟩:=rq hE r (X.cr id [] (.r j0)) _ s' l1 (j0+1) (cP.mod eD.mod) h1
   refine⟨Z,bN B.t cs.toList::vs,ib,eD.ext.trans aQ,xK.trans gO,hβ2,bE,by simp [hlen],fun j sv v hl hv=> ?_,?_⟩
   ·cases j with
    |zero=>
     simp only[List.getElem?_cons_zero,Option.some.injEq] at hl hv
     subst hl hv
     exact me.jH gO aQ hβ2
    |succ j=>
     simp only[List.getElem?_cons_succ] at hl hv
     rw[show j0+(j+1)=j0+1+j by omega]
     exact eN j sv v hl hv
   ·have hl:=kR (P:=P) hE (sT▸hT:E.ty T=some B.t) av (ad:=⟨r0,0,none⟩) (w:=X.w) (fun i v hi=>by
     rw[zn,Nat.zero_add]
     simp only[World.cell?,aq]
     simpa using hi)
    have wK:(X.cr id [] (.r j0)).w=X.w:=rfl
    rw[wK] at aB
    have gQ:a.tmps.getD p Go.undef= .pointer (some ⟨r0,0,none⟩):=by simpa [Ty.off] using hv
    have ha:(asAddr (.pointer (some ⟨r0,0,none⟩))).run P X.w= .ok ⟨r0,0,none⟩ X.w:=by simp [asAddr]
    simp only[List.mapM_cons,Sem.run_bind,Sem.run_pure,Result.andThen_ok,aB,gQ,ha,hl]
def ah.zero(X:ah)(id:Nat):ah:=
 {X with ow:=fun g=>match X.ow g with
  | .box aS=>if aS=id then .box 0 else .box aS
  | .row (.b aS p) n=>if aS=id then .row (.b 0 p) n else .row (.b aS p) n
  |w=>w}
theorem kW{id:Nat}{ad:Addr}{v:Value}(h:X.aj ad v):(X.zero id).aj ad v:=by
 refine⟨h.1,h.2.1,?_⟩
 have:=h.2.2
 simp only[ah.zero]
 cases hx:X.ow ad.block with
 |box i=>rw[hx] at this;exact this.elim
 |row pl n=>
  rw[hx] at this
  cases pl with
  |b i p=>simp only;split<;>exact this
  |_=>exact this
 |_=>rw[hx] at this;exact this
theorem AL{id:Nat}:Ext X (X.zero id) where
 aj:=fun _ _=>kW
 size:=Nat.le_refl _
 os:=rfl
 tape:=rfl
 output:=rfl
 β0:=rfl
 still:=fun g _ bp=>by
  refine⟨?_,rfl⟩
  simp only[ah.zero]
  cases hx:X.ow g with
  |box i=>rw[hx] at bp;exact bp.elim
  |row pl n=>rw[hx] at bp;exact bp.elim
  |_=>rfl
theorem aH.zero{id r:Nat}{B:aI}(h:aH X id r B):aH (X.zero id) 0 r B:=by
 obtain⟨h3,h1⟩:=h
 refine⟨by simp [ah.zero,h3],h1.move (fun _ _=>kW) rfl (fun cs h4 p hp=> ?_) fun _ g o ho hw=>⟨ho,by simp [ah.zero,hw]⟩⟩
 obtain⟨e,t',xs,v,g0,g1,g2,g3⟩:=h4 p hp
 refine⟨e,t',xs,v,g0,g1,g2,?_⟩
 rcases g3 with ho|⟨g,cap,cur,k1,k2,k3,k4,k5,k6⟩
 ·exact .inl ho
 ·exact .inr ⟨g,cap,cur,k1,k2,k3,k4,k5,by simp [ah.zero,k6]⟩
theorem ai.zero{id j r0:Nat}{sv:SV}{v:Value}(hp:∀aS t p,sv= .ptr aS t p->X.β aS=some r0)(h:ai X (.r j) sv v):ai {X.zero id with β:=fun _=>some r0} (.r j) (sv.cM 0) v:=by
 cases sv with
 |undef=>trivial
 |skip=>exact h
 |bc=>exact h
 |cK=>exact h
 |over=>exact h
 |al t x own=>
  obtain⟨cs,h1,h2,h3⟩:=h
  refine⟨cs,aA.af (Y:={X.zero id with β:=fun _=>some r0}) (fun ad v hs=>(kW hs:(X.zero id).aj ad v)) h1,h2,fun p hp=> ?_⟩
  obtain⟨e,t',xs,v,g0,g1,g2,g3⟩:=h3 p hp
  refine⟨e,t',xs,v,g0,g1,g2,?_⟩
  rcases g3 with ho|⟨g,cap,cur,k1,k2,k3,k4,k5,k6⟩
  ·exact .inl ho
  ·exact .inr ⟨g,cap,cur,k1,k2,k3,k4,k5,by simp [ah.zero,k6]⟩
 |ptr aS t p=>
  obtain⟨r,h1,h2⟩:=h
  have:=hp aS t p rfl
  rw[h1] at this
  cases this
  exact⟨r0,rfl,h2⟩
 |view t x=>
  obtain⟨ad,cs,h1,h2,h3,h4⟩:=h
  exact⟨ad,cs,h1,h2,aA.af (Y:={X.zero id with β:=fun _=>some r0}) (fun ad v hs=>(kW hs:(X.zero id).aj ad v)) h3,fun i u hi=>(kW (h4 i u hi):(X.zero id).aj _ _)⟩
 |cap f t x u y=>exact ii (Y:={X.zero id with β:=fun _=>some r0}) (fun ad v hs=>(kW hs:(X.zero id).aj ad v)) h
theorem ai.anyβ{j r0:Nat}{sv:SV}{v:Value}(hp:∀aS t p,sv≠ .ptr aS t p)(h:ai X (.r j) sv v):ai {X with β:=fun _=>some r0} (.r j) sv v:=by
 cases sv with
 |undef=>trivial
 |skip=>exact h
 |bc=>exact h
 |cK=>exact h
 |over=>exact h
 |al t x own=>
  obtain⟨cs,h1,h2,h3⟩:=h
  exact⟨cs,aA.af (X:=X) (Y:={X with β:=fun _=>some r0}) (fun ad v (hs:X.aj ad v)=>(hs:({X with β:=fun _=>some r0}:ah).aj ad v)) h1,h2,h3⟩
 |ptr aS t p=>exact absurd rfl (hp aS t p)
 |view t x=>
  obtain⟨ad,cs,h1,h2,h3,h4⟩:=h
  exact⟨ad,cs,h1,h2,aA.af (X:=X) (Y:={X with β:=fun _=>some r0}) (fun ad v (hs:X.aj ad v)=>(hs:({X with β:=fun _=>some r0}:ah).aj ad v)) h3,h4⟩
 |cap f t x u y=>exact ii (X:=X) (Y:={X with β:=fun _=>some r0}) (fun ad v (hs:X.aj ad v)=>(hs:({X with β:=fun _=>some r0}:ah).aj ad v)) h
theorem nU:∀{l:List SV} {id:Nat} {t:Ty} {p:List Nat},SV.ptr id t p∈l->id∈jR l
 |v::r,id,t,p,h=>by
  rcases List.mem_cons.1 h with e|h
  ·subst e;simp [jR]
  ·have:=nU h
   cases v<;>simp [jR,this]
theorem rp{l:List SV}{vs:List Value}(hlen:vs.length=l.length)(h:∀(j:Nat) sv v,l[j]? =some sv->vs[j]? =some v->ai X (.r j) sv v):bm X .r l (if h:vs.toArray.size=1 then vs.toArray[0] else .tuple vs.toArray):=by
 match l,vs,hlen with
 | [sv],[v],_=>exact h 0 sv v rfl rfl
 | [],[],_=>exact⟨#[],rfl,rfl,fun j s u hs=>by simp at hs⟩
 |x::y::r,u::v::w,hlen=>
  refine⟨(u::v::w).toArray,by simp,by simpa using hlen,fun j s z hs hz=>h j s z hs (by simpa using hz)⟩
theorem xv{Z:ah}{s':State}{b:Option aI}{l' r:List SV}{b':Option aI}{vs:List Value}(hX:Ext X Z)(bE:Rel Z s' a)(hlen:vs.length=l'.length)(cU:∀(j:Nat) sv v,l'[j]? =some sv->vs[j]? =some v->ai Z (.r j) sv v)
 (cp:lk s' b l' (fun r b=>some (r,b))=some (r,b')):∃Y',Y'.w=Z.w/\Ext X Y'/\jm X Y' b r b' (if h:vs.toArray.size=1 then vs.toArray[0] else .tuple vs.toArray):=by
 unfold lk at cp
 cases b with
 |some B=>
  cases hp:jR l' with
  |cons _ _=>rw[hp] at cp;cases cp
  |nil=>
   rw[hp] at cp
   have iM:∀id t p,SV.ptr id t p∉l':=fun id t p hm=>by
    have:=nU hm
    rw[hp] at this;cases this
   cases cO:s'.box 0 with
   |none=>simp only[cO] at cp;cases cp
   |some B'=>
    simp only[cO] at cp
    cases cp
    obtain⟨r0,h3,h4⟩:=bE.boxes 0 B' (gi cO)
    refine⟨Z,rfl,hX,r0,rp hlen fun j sv v h1 h2=>(cU j sv v h1 h2).anyβ (fun id t p e=>iM id t p (e▸List.mem_of_getElem? h1)),fun B2 bD=> ?_,fun _=>iM⟩
    cases bD
    exact⟨h4,fun _=>by rw[<-hX.β0];exact h3⟩
 |none=>
  cases hp:jR l' with
  |nil=>
   rw[hp] at cp
   have iM:∀id t p,SV.ptr id t p∉l':=fun id t p hm=>by
    have:=nU hm
    rw[hp] at this;cases this
   cases cp
   exact⟨Z,rfl,hX,0,rp hlen fun j sv v h1 h2=>(cU j sv v h1 h2).anyβ (fun id t p e=>iM id t p (e▸List.mem_of_getElem? h1)),(fun B2 bD=>by cases bD),fun _=>iM⟩
  |cons id rest=>
   rw[hp] at cp
   cases rest with
   |cons _ _=>cases cp
   |nil=>
    cases hB:s'.box id with
    |none=>simp only[hB] at cp;cases cp
    |some B=>
     simp only[hB] at cp
     cases cp
     obtain⟨r0,h3,h4⟩:=bE.boxes id B (gi hB)
     refine⟨Z.zero id,rfl,hX.trans AL,r0,?_,fun B2 bD=> ?_,fun hh=> ?_⟩
     ·refine rp (by simpa using hlen) fun j sv v h1 h2=> ?_
      rw[List.getElem?_map] at h1
      obtain⟨s0,cz,rfl⟩:=Option.map_eq_some_iff.1 h1
      refine(cU j s0 v cz h2).zero fun aS t p e=> ?_
      have:=nU (e▸List.mem_of_getElem? cz)
      rw[hp] at this
      simp only[List.mem_singleton] at this
      subst this
      exact h3
     ·cases bD
      exact⟨h4.zero,fun hh=>by cases hh⟩
     ·rcases hh with hh|hh<;>cases hh
theorem nO:∀(ts:List Ty) (l:List SV),(az ts l).length=l.length
 | [],l=>by simp [az]
 |t::r,[]=>by simp [az]
 |t::r,v::q=>by
  cases t<;>cases v<;>simp [az,nO r q]
theorem uu{X:ah}:∀(ts:List Ty) (l:List SV) (i:Nat) (sv:SV) (v:Value),(az ts l)[i]? =some sv->(∀sv,l[i]? =some sv->∃pl,ai X pl sv v)->∀q,(∃iY,l[i]? =some iY/\(sv=iY\/sv=iY.shut\/iY= .bc))/\((∀iY,l[i]? =some iY->ai X q iY v)->ai X q sv v)
 | [],l,i,sv,v,h,_,q=>by
   have h:l[i]? =some sv:=by simpa [az] using h
   exact⟨⟨sv,h,.inl rfl⟩,fun hh=>hh sv h⟩
 |t::r,[],i,sv,v,h,_,q=>by simp [az] at h
 |t::r,x::y,i,sv,v,h,hx,q=>by
  cases i with
  |zero=>
   have key:(az (t::r) (x::y))[0]? =some sv->(sv=x.shut)\/(x= .bc/\∃e u,sv= .al (.sl e u) ([]:List (El u)) []):=by
    intro h
    cases t<;>cases x<;>simp only[az,List.getElem?_cons_zero,Option.some.injEq] at h<;>first|exact .inl h.symm|exact .inr ⟨rfl,_,_,h.symm⟩
   rcases key h with rfl|⟨rfl,e,u,rfl⟩
   ·exact⟨⟨x,rfl,.inr (.inl rfl)⟩,fun hh=>(hh x rfl).shut⟩
   ·refine⟨⟨_,rfl,.inr (.inr rfl)⟩,fun hh=> ?_⟩
    have:=hh _ rfl
    exact⟨[.slice none 0 0],⟨none,0,rfl,Nat.le_refl _,fun j x hj=>by simp at hj⟩,this,zr⟩
  |succ i=>
   have h':(az r y)[i]? =some sv:=by
    cases t<;>cases x<;>simpa [az] using h
   have:=uu r y i sv v h' (fun sv hs=>hx sv (by simpa using hs)) q
   simpa using this
theorem yT{ts:List Ty}{l:List SV}{id:Nat}{t:Ty}{p:List Nat}(h:SV.ptr id t p∈az ts l):SV.ptr id t p∈l:=by
 induction ts generalizing l with
 |nil=>simpa [az] using h
 |cons u r ih=>
  cases l with
  |nil=>simp [az] at h
  |cons v q=>
   have key:SV.ptr id t p=v.shut\/SV.ptr id t p∈az r q:=by
    cases u<;>cases v<;>simp [az,SV.shut] at h⊢ <;>first|exact h|exact .inr h|skip
   rcases key with e|hm
   ·rw[nV e.symm];simp
   ·exact List.mem_cons_of_mem _ (ih hm)
theorem A3(hE:ag P E)(hm:P.follows .mixedOrders=true){C C0:ay}(sr:C0.Nat)(vS:∀f,bW P C0 f){f:FuncId}{fn:Func}{code:Code}(fC:P.funcs[f]? =some fn)(gD:(fn.name== "runtime.NumGoroutine")=false)(fB:fn.body=some code)
 (hC:∀(l:List SV) (b:Option aI) (r:List SV) (b':Option aI),C (List SV×Option aI) f l b (fun r b=>some (r,b))=some (r,b')->∃k,dd E (C0 (List SV×Option aI)) k fn code l b (fun r b=>some (r,b))=some (r,b')):bW P C f:=by
 intro l b r b' h
 refine⟨⟨fn,code,fC,gD,fB⟩,fun X args gg=> ?_⟩
 obtain⟨k,h⟩:=hC l b r b' h
 unfold dd at h
 cases hg:(E.sp.isSome&&b.isSome) with
 |true=>rw[hg] at h;cases h
 |false=>
 rw[hg,cond_false] at h
 have hF:Fr E X:=fun bu=>gg.rows (by
  cases ss:E.sp with
  |none=>exact absurd ss bu
  |some z=>
   cases b with
   |none=>rfl
   |some B=>rw[ss] at hg;cases hg)
 simp only at h
 obtain⟨⟨e,s⟩,h1,h2⟩:=zo (iu sr code _ (fun e s=>some (e,s)) (K:=fun z=>match z.1 with
  | .exit _=>none
  |_=>match cq E z.2 fn.results.toList with
   |some (l,s')=>lk s' b (c8 E l) (fun r b=>some (r,b))
   |none=>none) (fun e s=>by cases e<;>rfl) _) h
 refine calls_of_wp fC fB ?_
 have cQ:=gg.size
 refine kr hE hm sr vS k code X X _ _ e s hF (Ext.refl X) (?_:Rel X _ _) h1 _ fun Y a' aC aF=> ?_
 ·have ff:=nO E.ps l
  refine⟨by simp [cQ,ff],by simp [ff],fun i sl v hs hv=> ?_,fun id B hB=> ?_,fun i sl id t p hs hm=> ?_,rfl⟩
  ·by_cases hi:i<l.length
   ·rw[List.getElem?_append_left (by simpa [ff] using hi),List.getElem?_map] at hs
    obtain⟨sv,dH,rfl⟩:=Option.map_eq_some_iff.1 hs
    rw[Array.getElem?_append_left (by omega)] at hv
    exact(uu E.ps l i sv v dH (fun sv h0=>⟨_,gg.rep i sv v h0 hv⟩) (.c i 0)).2 fun iY h0=>gg.rep i iY v h0 hv
   ·rw[List.getElem?_append_right (by simp [ff];omega),List.getElem?_replicate] at hs
    split at hs
    ·cases hs;trivial
    ·cases hs
  ·cases id with
   |zero=>
    simp only[List.getElem?_cons_zero,Option.some.injEq] at hB
    exact gg.box B hB
   |succ id=>
    simp only[List.getElem?_cons_succ,List.getElem?_replicate] at hB
    split at hB<;>cases hB
  ·by_cases hi:i<l.length
   ·rw[List.getElem?_append_left (by simpa [ff] using hi),List.getElem?_map] at hs
    obtain⟨sv,dH,rfl⟩:=Option.map_eq_some_iff.1 hs
    simp only[List.mem_singleton] at hm
    subst hm
    obtain⟨rfl,hb⟩:=gg.ptr id t p (yT (List.mem_of_getElem? dH))
    cases b with
    |none=>cases hb
    |some B=>exact⟨B,rfl⟩
   ·rw[List.getElem?_append_right (by simp [ff];omega),List.getElem?_replicate] at hs
    split at hs
    ·cases hs;simp at hm
    ·cases hs
 ·
  have pL:∃l s',cq E s fn.results.toList=some (l,s')/\lk s' b (c8 E l) (fun r b=>some (r,b))=some (r,b')/\(e= .normal\/e= .ret):=by
   cases e with
   |exit id=>cases h2
   |normal=>
    simp only at h2
    split at h2
    ·exact⟨_,_,by assumption,h2,.inl rfl⟩
    ·cases h2
   |ret=>
    simp only at h2
    split at h2
    ·exact⟨_,_,by assumption,h2,.inr rfl⟩
    ·cases h2
  obtain⟨l',s',cP,cp,he⟩:=pL
  obtain⟨Z,vs,hw,aQ,bp,hβ,bE,hlen,eN,aB⟩:=rq hE fn.results.toList Y s s' l' 0 aF cP
  have jt:(results fn a'.tmps).run P Y.w= .ok (if h:vs.toArray.size=1 then vs.toArray[0] else .tuple vs.toArray) Y.w:=by
   unfold results
   simp only[Array.mapM_eq_mapM_toList,Sem.run_bind,Sem.run_map,Sem.run_pure,Result.andThen_ok]
   exact congrArg (fun r:Result (List Value)=>(r.andThen fun a w'=>Result.ok a.toArray w').andThen fun a w'=>Result.ok (if h:a.size=1 then a[0] else Value.tuple a) w') aB
  have hX:Ext X Z:=aC.trans aQ
  have cU:∀(j:Nat) sv v,l'[j]? =some sv->vs[j]? =some v->ai Z (.r j) sv v:=fun j sv v h1 h2=>by
   have:=eN j sv v h1 h2
   rwa [Nat.zero_add] at this
  have lY:vs.length=(c8 E l').length:=by
   unfold c8
   cases E.ro<;>simpa using hlen
  have ki:∀(j:Nat) sv v,(c8 E l')[j]? =some sv->vs[j]? =some v->ai Z (.r j) sv v:=fun j sv v h1 h2=>by
   unfold c8 at h1
   cases sQ:E.ro with
   |false=>rw[sQ] at h1;exact cU j sv v h1 h2
   |true=>
    rw[sQ,cond_true,List.getElem?_map] at h1
    obtain⟨s0,cz,rfl⟩:=Option.map_eq_some_iff.1 h1
    exact ai.b4 (cU j s0 v cz h2)
  have fin:=xv (b:=b) hX bE lY ki cp
  obtain⟨Y',nz,sz,hL⟩:=fin
  have nz:=nz.trans hw
  rcases he with rfl|rfl
  ·exact⟨aF.defers,_,jt,Y',nz,sz,hL⟩
  ·exact⟨aF.defers,_,jt,Y',nz,sz,hL⟩
end Go.Ref

namespace Go.Ref
open Go
variable {P:Program} {E:Env}
def Wf:(t:Ty)->El t->Prop
 | .bool,_=>True
 | .int k,n=>(Lit.int k n).wf=true
 | .str,s=>s.size<=maxLen
 | .sl _ t,xs=>List.length xs<=maxLen/\∀x∈(xs:List (El t)),Wf t x
 | .aL n t,xs=>List.length xs=n/\∀x∈(xs:List (El t)),Wf t x
 | .unit,_=>True
 | .pair a b,x=>Wf a x.1/\Wf b x.2
 | .aG _ _ _,_=>False
theorem kU(hE:ag P E){T:TypeId}{t:Ty}(ht:E.ty T=some t):P.cellsOf T=t.cells:=by
 obtain⟨i,h1,h2,_⟩:=(hE.ty T t ht).info
 simp [Program.cellsOf,h1,h2]
def Ty.ci:Ty->Bool
 | .sl _ t=> !(Nat.beq t.cells 0)&&t.ci
 | .aL _ t=>t.ci
 | .pair a b=>a.ci&&b.ci
 |_=>true
def hI(w:World)(β:Nat->Option Nat):ah:=⟨w,fun _=> .all,β⟩
theorem yV{w:World}{β:Nat->Option Nat}{a:Addr}{v:Value}(h:w.cell? a=some v):(hI w β).aj a v:=⟨World.cell?_spot h,h,trivial⟩
theorem tu{α:Type}{n:Nat}{p:Nat->α->Prop}(h:∀i,i<n->∃x,p i x):∃xs:List α,xs.length=n/\∀(i:Nat) x,xs[i]? =some x->p i x:=by
 induction n with
 |zero=>exact⟨[],rfl,fun i x hi=>by simp at hi⟩
 |succ n ih=>
  obtain⟨xs,h1,h2⟩:=ih fun i hi=>h i (by omega)
  obtain⟨y,hy⟩:=h n (by omega)
  refine⟨xs++ [y],by simp [h1],fun i x hi=> ?_⟩
  rw[List.getElem?_append] at hi
  split at hi
  ·exact h2 i x hi
  ·rename_i aw
   have vW:i-xs.length=0:=by
    have:=(List.getElem?_eq_some_iff.1 hi).1
    simp at this
    omega
   rw[vW] at hi
   simp only[List.getElem?_cons_zero,Option.some.injEq] at hi
   subst hi
   have:i=n:=by omega
   subst this
   exact hy
section
variable {H:Type} {enc:TypeId×Value->H} {w:World} {base:Nat} {spare:Nat->Bool} {held:Bool} {β:Nat->Option Nat}
theorem A6(hE:ag P E):∀t:Ty,
 (∀(T:TypeId) (aZ:Nat) (cs:List Value) (x:DataW H×List MemPlace),E.ty T=some t->t.ci=true->DataW.trod enc P w base spare held aZ T cs=some x->∃y:El t,aA (hI w β) t y cs/\Wf t y)/\
 (∀(fl:List Field) (off aZ:Nat) (cs:List Value),zl E fl t off->t.ci=true->off+t.cells<=cs.length->(∀f∈fl,∃x,DataW.trod enc P w base spare held aZ f.type ((cs.drop f.offset).take (P.cellsOf f.type))=some x)->
   ∃y:El t,aA (hI w β) t y ((cs.drop off).take t.cells)/\Wf t y):=by
 intro t
 have dY:∀{t:Ty},t.bz=false->t≠ .unit->∀(fl:List Field) (off:Nat),¬zl E fl t off:=by
  intro t h1 h2 fl off h
  cases t<;>cases fl<;>simp_all [zl,Ty.bz]
 induction t with
 |aG k a b _ _=>exact⟨fun T aZ cs x hT df h=>absurd (hE.cV hT) (by simp [Ty.aJ]),fun fl off aZ cs hf=>absurd hf (dY rfl (by simp) fl off)⟩
 |bool=>
  refine⟨fun T aZ cs x hT df h=> ?_,fun fl off aZ cs hf=>absurd hf (dY rfl (by simp) fl off)⟩
  have hu:=(hE.ty T _ hT).bA
  cases aZ with
  |zero=>simp [DataW.trod] at h
  |succ m=>
   unfold DataW.trod at h
   rw[hu] at h
   split at h<;>try(first|cases h;done|(simp_all;done))
   rename_i b _
   exact⟨b,rfl,trivial⟩
 |int k=>
  refine⟨fun T aZ cs x hT df h=> ?_,fun fl off aZ cs hf=>absurd hf (dY rfl (by simp) fl off)⟩
  have hu:=(hE.ty T _ hT).bA
  cases aZ with
  |zero=>simp [DataW.trod] at h
  |succ m=>
   unfold DataW.trod at h
   rw[hu] at h
   split at h<;>simp_all
   rename_i k1 k2 n hk
   subst hk
   exact⟨n,rfl,h.1.2⟩
 |str=>
  refine⟨fun T aZ cs x hT df h=> ?_,fun fl off aZ cs hf=>absurd hf (dY rfl (by simp) fl off)⟩
  have hu:=(hE.ty T _ hT).bA
  cases aZ with
  |zero=>simp [DataW.trod] at h
  |succ m=>
   unfold DataW.trod at h
   rw[hu] at h
   split at h<;>simp_all
   rename_i s
   exact⟨s,rfl,h.1⟩
 |sl e t ih=>
  refine⟨fun T aZ cs x hT df h=> ?_,fun fl off aZ cs hf=>absurd hf (dY rfl (by simp) fl off)⟩
  obtain⟨hu,he⟩:=(hE.ty T _ hT).bA
  have hc:=kU hE he
  rcases Go.Deep.open_slice hu h with⟨rfl,_⟩|⟨a,len,cap,m,n,D,Pl,rfl,hb,hl,hm,kM,_,b7⟩
  ·exact⟨[],⟨none,0,rfl,Nat.le_refl _,fun j x hj=>by simp at hj⟩,by simp [maxLen],fun x hx=>by cases hx⟩
  ·have Bt:len<=m:=by rw[kM];split<;>omega
   have hk:0<t.cells/\t.ci=true:=by
    simp only[Ty.ci,Bool.and_eq_true,Bool.not_eq_true'] at df
    refine⟨?_,df.2⟩
    rcases Nat.eq_zero_or_pos t.cells with h0|h0
    ·rw[h0] at df;simp at df
    ·exact h0
   obtain⟨ys,h1,h2⟩:=tu (n:=len) (p:=fun i (y:El t)=>∃bT,w.cells? base (a.add (i*t.cells)) t.cells=some bT/\aA (hI w β) t y bT/\Wf t y) (fun i hi=>by
    obtain⟨bT,g1,g2⟩:=b7 i (by omega)
    rw[hc] at g1
    obtain⟨y,k1,k2⟩:=ih.1 e n bT _ he hk.2 g2
    exact⟨y,bT,g1,k1,k2⟩)
   refine⟨ys,aA.iX h1 hl (fun j y hj=> ?_),by show ys.length<=_;omega,fun y hy=> ?_⟩
   ·obtain⟨bT,g1,g2,g3⟩:=h2 j y hj
    obtain⟨_,hlen,cG⟩:=World.cells?_some g1
    have Bs:=(List.getElem?_eq_some_iff.1 hj).1
    obtain⟨c0,e1,_⟩:=h2 0 _ (List.getElem?_eq_getElem (by omega))
    obtain⟨_,sK,kb⟩:=World.cells?_some e1
    have jv:a.spot=none:=by
     have:=kb 0 (by omega)
     rw[List.getElem?_eq_getElem (by omega)] at this
     have h3:=World.cell?_spot this
     simpa [Addr.add] using h3
    refine⟨a,bT,rfl,jv,g2,fun i v hi=>yV ?_⟩
    have Br:=(List.getElem?_eq_some_iff.1 hi).1
    have:=cG i (by omega)
    rw[mR a jv,hi] at this
    exact this
   ·obtain⟨i,hi⟩:=List.mem_iff_getElem?.1 hy
    obtain⟨bT,_,_,g3⟩:=h2 i y hi
    exact g3
 |aL n t ih=>
  refine⟨fun T aZ cs x hT df h=> ?_,fun fl off aZ cs hf=>absurd hf (dY rfl (by simp) fl off)⟩
  obtain⟨e,hu,he,_⟩:=(hE.ty T _ hT).bA
  have hc:=kU hE he
  have lO:=kU hE hT
  obtain⟨xs,m,rfl,_,hl,kP,b7⟩:=DataW.trod_array hu h
  obtain⟨ys,h1,h2⟩:=tu (n:=n) (p:=fun i (y:El t)=>aA (hI w β) t y ((cs.drop (i*t.cells)).take t.cells)/\Wf t y) (fun i hi=>by
   have g:=b7 i hi
   rw[hc,List.getElem?_eq_getElem (by omega)] at g
   exact ih.1 e m _ _ he df g)
  refine⟨ys,⟨h1,by rw[hl,lO];rfl,fun j y hj=>(h2 j y hj).1⟩,h1,fun y hy=> ?_⟩
  obtain⟨i,hi⟩:=List.mem_iff_getElem?.1 hy
  exact(h2 i y hi).2
 |unit=>
  refine⟨fun T aZ cs x hT df h=> ?_,fun fl off aZ cs hf df hle cT=>⟨(),by simp [Ty.cells,aA],trivial⟩⟩
  obtain⟨fs,hu,bq,_⟩:=(hE.ty T _ hT).bA
  have lO:=kU hE hT
  obtain⟨xs,m,rfl,_,hl,_⟩:=DataW.trod_struct hu h
  rw[lO] at hl
  refine⟨(),?_,trivial⟩
  exact List.eq_nil_of_length_eq_zero hl
 |pair ta tb ew ey=>
  have step:∀(fl:List Field) (off aZ:Nat) (cs:List Value),zl E fl (.pair ta tb) off->(Ty.pair ta tb).ci=true->off+(Ty.pair ta tb).cells<=cs.length->(∀f∈fl,∃x,DataW.trod enc P w base spare held aZ f.type ((cs.drop f.offset).take (P.cellsOf f.type))=some x)->
   ∃y:El (.pair ta tb),aA (hI w β) (.pair ta tb) y ((cs.drop off).take (Ty.pair ta tb).cells)/\Wf (.pair ta tb) y:=by
   intro fl off aZ cs hf df hle cT
   cases fl with
   |nil=>simp [zl] at hf
   |cons f fl=>
    obtain⟨f1,f2,f3,f4⟩:=hf
    simp only[Ty.ci,Bool.and_eq_true] at df
    simp only[Ty.cells] at hle
    obtain⟨x,hx⟩:=cT f (by simp)
    rw[kU hE f2,f1] at hx
    obtain⟨y1,r1,w1⟩:=ew.1 f.type aZ _ x f2 df.1 hx
    obtain⟨y2,r2,w2⟩:=ey.2 fl (off+ta.cells) aZ cs f4 df.2 (by omega) (fun g hg=>cT g (List.mem_cons_of_mem _ hg))
    refine⟨(y1,y2),⟨_,_,?_,r1,r2⟩,w1,w2⟩
    simp only[Ty.cells]
    rw[<-List.drop_drop]
    exact List.take_add
  refine⟨fun T aZ cs x hT df h=> ?_,step⟩
  obtain⟨fs,hu,bq,_⟩:=(hE.ty T _ hT).bA
  have lO:=kU hE hT
  obtain⟨xs,m,rfl,_,hl,kP,b7⟩:=DataW.trod_struct hu h
  rw[lO] at hl
  obtain⟨y,r,wf⟩:=step fs.toList 0 m cs bq df (by omega) (fun f hf=>by
   obtain⟨i,hi⟩:=List.mem_iff_getElem?.1 hf
   have po:fs[i]? =some f:=by simpa using hi
   have:=b7 i f po
   have aw:=(List.getElem?_eq_some_iff.1 hi).1
   rw[List.getElem?_eq_getElem (by simp at aw;omega)] at this
   exact⟨_,this⟩)
  refine⟨y,?_,wf⟩
  rw[List.drop_zero,<-hl,List.take_length] at r
  exact r
end
end Go.Ref

namespace Go.Ref
open Go
variable {P:Program} {E:Env}
def rP:Value->Value->Bool
 | .bool a,.bool b=>a==b
 | .int k a,.int j b=>decide (k=j)&&decide (a=b)
 | .string a,.string b=>Nat.beq a.size 0&&Nat.beq b.size 0
 | .slice none 0 0,.slice none 0 0=>true
 |_,_=>false
theorem tw{a:ByteArray}(h:a.size=0):a=⟨#[]⟩:=by
 cases a with
 |mk d=>
  have:d.size=0:=h
  have:=Array.eq_empty_of_size_eq_zero this
  rw[this]
theorem yr{a b:Value}(h:rP a b=true):a=b:=by
 unfold rP at h
 split at h
 ·simp at h;rw[h]
 ·simp at h;rw[h.1,h.2]
 ·simp only[Bool.and_eq_true] at h
  rw[tw (Nat.eq_of_beq_eq_true h.1),tw (Nat.eq_of_beq_eq_true h.2)]
 ·rfl
 ·cases h
def mT:List Value->List Value->Bool
 | [],[]=>true
 |a::r,b::q=>rP a b&&mT r q
 |_,_=>false
theorem z49:∀{a b:List Value},mT a b=true->a=b
 | [],[],_=>rfl
 |a::r,b::q,h=>by
  simp only[mT,Bool.and_eq_true] at h
  rw[yr h.1,z49 h.2]
def rU(t:Ty)(v:Value):Bool:=
 match v with
 | .agg cs=>t.agg&&mT cs.toList (zb t)
 |v=> !t.agg&&mT [v] (zb t)
theorem zG{t:Ty}{v:Value}(h:rU t v=true):v=bN t (zb t):=by
 unfold rU at h
 split at h
 ·simp only[Bool.and_eq_true] at h
  rw[zj h.1,<-z49 h.2]
 ·simp only[Bool.and_eq_true,Bool.not_eq_true'] at h
  rw[<-z49 h.2,mW h.1]
def fU(E:Env):List Field->Ty->Nat->Bool
 | [],.unit,_=>true
 |f::r,.pair a b,off=>Nat.beq f.offset off&&((match E.ty f.type with
  |some t=>t.aX a
  |none=>false)&&(!(f.name== "_")&&fU E r b (off+a.cells)))
 |_,_,_=>false
theorem qV:∀{fl:List Field} {t:Ty} {off:Nat},fU E fl t off=true->zl E fl t off
 | [],t,off,h=>by cases t<;>simp_all [fU,zl]
 |f::r,t,off,h=>by
  cases t<;>simp only[fU,Bool.and_eq_true] at h<;>try(cases h;done)
  obtain⟨h1,h2,h3,h4⟩:=h
  refine⟨Nat.eq_of_beq_eq_true h1,?_,?_,qV h4⟩
  ·cases hf:E.ty f.type with
   |none=>rw[hf] at h2;cases h2
   |some u=>rw[hf] at h2;rw[Ty.ax h2]
  ·simpa using h3
def jb(E:Env)(T:TypeId)(t:Ty):Bool:=
 match E.ty T with
 |some u=>u.aX t
 |none=>false
theorem vr{T:TypeId}{t:Ty}(h:jb E T t=true):E.ty T=some t:=by
 unfold jb at h
 split at h
 ·rename_i u hu;rw[hu,Ty.ax h]
 ·cases h
def kq(P:Program)(E:Env)(T:TypeId)(t:Ty):Bool:=
 match P.underlying T,t with
 |some .bool,.bool=>true
 |some (.int k),.int j=>decide (k=j)
 |some .string,.str=>true
 |some (.slice e),.sl e' u=>Nat.beq e e'&&jb E e u
 |some (.array n e),.aL m u=>Nat.beq n m&&(jb E e u&& !P.eqGuardType P.depth T)
 |some (.struct fs),.unit=>fU E fs.toList .unit 0&&(!P.stoodInHeld T&& !P.eqGuardType P.depth T)
 |some (.struct fs),.pair a b=>fU E fs.toList (.pair a b) 0&&(!P.stoodInHeld T&& !P.eqGuardType P.depth T)
 |_,_=>false
theorem AH{T:TypeId}{t:Ty}(h:kq P E T t=true):vB P E T t:=by
 unfold kq at h
 split at h
 ·assumption
 ·rename_i k j hu;rw[<-of_decide_eq_true h];exact hu
 ·assumption
 ·rename_i e e' u hu
  simp only[Bool.and_eq_true] at h
  have:=Nat.eq_of_beq_eq_true h.1
  subst this
  exact⟨hu,vr h.2⟩
 ·rename_i n e m u hu
  simp only[Bool.and_eq_true] at h
  have:=Nat.eq_of_beq_eq_true h.1
  subst this
  exact⟨e,hu,vr h.2.1,by simpa using h.2.2⟩
 ·rename_i fs hu
  simp only[Bool.and_eq_true,Bool.not_eq_true'] at h
  exact⟨fs,hu,qV h.1,h.2.1,h.2.2⟩
 ·rename_i fs a b hu
  simp only[Bool.and_eq_true,Bool.not_eq_true'] at h
  exact⟨fs,hu,qV h.1,h.2.1,h.2.2⟩
 ·cases h
def jz(P:Program)(E:Env)(T:TypeId)(t:Ty):Bool:=
 match P.info? T with
 |some i=>Nat.beq i.size t.cells&&(Nat.beq i.bytes (E.bytes T)&&match i.zero with
  |some v=>rU t v
  |none=>false)
 |none=>false
def j6(P:Program)(E:Env)(T:TypeId):Bool:=
 match E.ty T with
 |some t=>jz P E T t&&kq P E T t
 |none=>true
theorem Ak{T:TypeId}{t:Ty}(h:j6 P E T=true)(ht:E.ty T=some t):eh P E T t:=by
 unfold j6 at h
 rw[ht] at h
 simp only[Bool.and_eq_true] at h
 refine⟨?_,AH h.2⟩
 have h1:=h.1
 unfold jz at h1
 split at h1
 ·rename_i i hi
  simp only[Bool.and_eq_true] at h1
  obtain⟨g1,g2,g3⟩:=h1
  split at g3
  ·rename_i v hv
   exact⟨i,hi,Nat.eq_of_beq_eq_true g1,Nat.eq_of_beq_eq_true g2,by rw[hv,zG g3]⟩
  ·cases g3
 ·cases h1
def s4(P:Program)(T:TypeId):Bool:=
 match P.underlying T with
 |some (.pointer _)=>true
 |_=>false
structure fN where
 kQ:List (Option Ty)
 oT:List Nat
 jC:List Bool
 nC:List (TypeId×TypeId×TypeId):=[]
def iS:List (TypeId×TypeId×TypeId)->TypeId->Option (TypeId×TypeId)
 | [],_=>none
 |q::r,T=>bif Nat.beq q.1 T then some q.2 else iS r T
def p4(P:Program)(q:TypeId×TypeId×TypeId):Bool:=
 match P.underlying q.1 with
 |some (.map k e)=>Nat.beq k q.2.1&&Nat.beq e q.2.2
 |_=>false
theorem vi{P:Program}:∀{l:List (TypeId×TypeId×TypeId)},l.all (p4 P)=true->∀{T k e:TypeId},iS l T=some (k,e)->P.underlying T=some (.map k e)
 |q::r,hl,T,k,e,h=>by
  simp only[List.all_cons,Bool.and_eq_true] at hl
  unfold iS at h
  cases hq:Nat.beq q.1 T with
  |false=>rw[hq] at h;exact vi hl.2 h
  |true=>
   rw[hq] at h
   have:=Nat.eq_of_beq_eq_true hq
   subst this
   have h1:=hl.1
   unfold p4 at h1
   split at h1
   ·rename_i k' e' hu
    simp only[Bool.and_eq_true] at h1
    have a1:=Nat.eq_of_beq_eq_true h1.1
    have a2:=Nat.eq_of_beq_eq_true h1.2
    rw[hu,a1,a2]
    have h:some q.2=some (k,e):=h
    injection h with h
    rw[h]
   ·cases h1
def fN.env(t:fN)(bQ dU:Nat->List Nat)(outs:List Nat)(ps:List Ty):Env:=⟨fun T=>t.kQ.getD T none,fun T=>t.oT.getD T 0,fun T=>t.jC.getD T false,bQ,dU,outs,ps,iS t.nC,fun _=>none,fun _=>none,fun _=>[],[],false,[],fun _=>[],fun _=>none,none⟩
def fN.iE(t:fN):Env:=t.env (fun _=>[]) (fun _=>[]) [] []
def fN.ok(P:Program)(t:fN):Bool:=(List.range t.kQ.length).all (j6 P t.iE)&&((List.range t.jC.length).all (fun T=> !t.jC.getD T false||s4 P T)&&t.nC.all (p4 P))
theorem ij{E':Env}(h1:E.ty=E'.ty)(h2:E.bytes=E'.bytes){T:TypeId}{t:Ty}(h:eh P E T t):eh P E' T t:=by
 have bq:∀(fl:List Field) (t:Ty) (off:Nat),zl E fl t off->zl E' fl t off:=by
  intro fl
  induction fl with
  |nil=>intro t off h;cases t<;>simp_all [zl]
  |cons f r ih=>
   intro t off h
   cases t<;>simp only[zl] at h⊢ <;>try exact h
   exact⟨h.1,by rw[<-h1];exact h.2.1,h.2.2.1,ih _ _ h.2.2.2⟩
 refine⟨by rw[<-h2];exact h.info,?_⟩
 have hu:=h.bA
 cases t with
 |bool=>exact hu
 |int k=>exact hu
 |str=>exact hu
 |sl e u=>exact⟨hu.1,by rw[<-h1];exact hu.2⟩
 |aL n u=>obtain⟨e,g1,g2⟩:=hu;exact⟨e,g1,by rw[<-h1];exact g2⟩
 |unit=>obtain⟨fs,g1,g2,g3⟩:=hu;exact⟨fs,g1,bq _ _ _ g2,g3⟩
 |pair a b=>obtain⟨fs,g1,g2,g3⟩:=hu;exact⟨fs,g1,bq _ _ _ g2,g3⟩
 |aG k a b=>exact hu.elim
theorem ag.join(h:ag P E)(j:Nat->Option (List Nat)):ag P {E with join:=j}:=
 ⟨fun T u hT=>ij (E:=E) (E':={E with join:=j}) rfl rfl (h.ty T u hT),h.pt,h.mp,h.bl⟩
theorem ag.fz(h:ag P E)(j:Nat->Option (Nat×TypeId)):ag P {E with fz:=j}:=
 ⟨fun T u hT=>ij (E:=E) (E':={E with fz:=j}) rfl rfl (h.ty T u hT),h.pt,h.mp,h.bl⟩
theorem ag.dr(h:ag P E)(j:Nat->List Nat):ag P {E with dr:=j}:=
 ⟨fun T u hT=>ij (E:=E) (E':={E with dr:=j}) rfl rfl (h.ty T u hT),h.pt,h.mp,h.bl⟩
theorem ag.sh(h:ag P E)(j:List Nat):ag P {E with sh:=j}:=
 ⟨fun T u hT=>ij (E:=E) (E':={E with sh:=j}) rfl rfl (h.ty T u hT),h.pt,h.mp,h.bl⟩
theorem ag.mv(h:ag P E)(j:List Nat):ag P {E with mv:=j}:=
 ⟨fun T u hT=>ij (E:=E) (E':={E with mv:=j}) rfl rfl (h.ty T u hT),h.pt,h.mp,h.bl⟩
theorem ag.fr(h:ag P E)(j:Nat->List Nat):ag P {E with fr:=j}:=
 ⟨fun T u hT=>ij (E:=E) (E':={E with fr:=j}) rfl rfl (h.ty T u hT),h.pt,h.mp,h.bl⟩
def sj(P:Program)(T:TypeId):Bool:=
 match P.info? T with
 |some i=>match i.zero with
  |some (.agg a)=>match a.toList with
   | [.pointer none,.slice none 0 0]=>true
   |_=>false
  |_=>false
 |none=>false
theorem ag.gp(h:ag P E)(T e:TypeId)(hT:sj P T=true):ag P {E with bl:=fun t=>bif Nat.beq t T then some e else none}:=
 ⟨fun T' u hT=>ij (E:=E) (E':={E with bl:=fun t=>bif Nat.beq t T then some e else none}) rfl rfl (h.ty T' u hT),h.pt,h.mp,fun T' e' he=>by
   have he:(bif Nat.beq T' T then some e else none)=some e':=he
   cases hb:Nat.beq T' T with
   |false=>rw[hb] at he;cases he
   |true=>
    have:=Nat.eq_of_beq_eq_true hb
    subst this
    unfold sj at hT
    split at hT
    case h_2=>cases hT
    rename_i i hi
    split at hT
    case h_2=>cases hT
    rename_i a ha
    split at hT
    case h_2=>cases hT
    rename_i hl
    exact⟨i,hi,by rw[ha];congr 1;congr 1;apply Array.ext';rw[hl]⟩⟩
theorem ag.sp(h:ag P E)(j:Option (Nat×Nat×Nat×Nat)):ag P {E with sp:=j}:=
 ⟨fun T u hT=>ij (E:=E) (E':={E with sp:=j}) rfl rfl (h.ty T u hT),h.pt,h.mp,h.bl⟩
theorem ag.ro(h:ag P E)(j:Bool):ag P {E with ro:=j}:=
 ⟨fun T u hT=>ij (E:=E) (E':={E with ro:=j}) rfl rfl (h.ty T u hT),h.pt,h.mp,h.bl⟩
theorem fN.fe{t:fN}(h:t.ok P=true)(bQ dU:Nat->List Nat)(outs:List Nat)(ps:List Ty):ag P (t.env bQ dU outs ps):=by
 unfold fN.ok at h
 simp only[Bool.and_eq_true] at h
 refine⟨fun T u hT=> ?_,fun T hT=> ?_,fun T k e hT=>vi h.2.2 hT,fun T e hT=>by cases hT⟩
 ·refine ij (E:=t.iE) (E':=t.env bQ dU outs ps) rfl rfl (Ak ?_ hT)
  refine List.all_eq_true.1 h.1 T (List.mem_range.2 ?_)
  have jn:t.kQ.getD T none=some u:=hT
  rcases Nat.lt_or_ge T t.kQ.length with h1|h1
  ·exact h1
  ·rw[List.getD_eq_getElem?_getD,List.getElem?_eq_none h1] at jn;cases jn
 ·have jn:t.jC.getD T false=true:=hT
  have aw:T<t.jC.length:=by
   rcases Nat.lt_or_ge T t.jC.length with h1|h1
   ·exact h1
   ·rw[List.getD_eq_getElem?_getD,List.getElem?_eq_none h1] at jn;cases jn
  have:=List.all_eq_true.1 h.2.1 T (List.mem_range.2 aw)
  rw[jn] at this
  simp only[Bool.not_true,Bool.false_or] at this
  unfold s4 at this
  split at this
  ·rename_i e he;exact⟨e,he⟩
  ·cases this
end Go.Ref

namespace Go.Ref
open Go
variable {P:Program} {E:Env}
abbrev Pure:=(R:Type)->List SV->Option aI->(List SV->Option aI->Option R)->Option R
def Pure.Nat(g:Pure):Prop:=∀(R S:Type) l b (F:List SV->Option aI->Option R) (G:List SV->Option aI->Option S) (K:S->Option R),(∀r b,F r b=(G r b).bind K)->g R l b F=(g S l b G).bind K
def ay.none:ay:=fun _ _ _ _ _=> .none
def ay.add(C:ay)(n:FuncId)(ps:List Ty)(g:Pure):ay:=fun R f l b K=>bif Nat.beq f n then g R (az ps l) b K else C R f l b K
theorem Ar:ay.none.Nat:=fun _ _ _ _ _ _ _ _ _=>rfl
theorem yS(f:FuncId):bW P ay.none f:=fun _ _ _ _ h=>by cases h
theorem AS{C:ay}{n:FuncId}{ps:List Ty}{g:Pure}(hC:C.Nat)(hg:g.Nat):(C.add n ps g).Nat:=fun R S f l b F G K h=>by
 unfold ay.add
 cases Nat.beq f n with
 |false=>exact hC R S f l b F G K h
 |true=>exact hg R S _ b F G K h
theorem zP(hE:ag P E)(hm:P.follows .mixedOrders=true){C:ay}(hC:C.Nat)(h0:∀f,bW P C f){n:FuncId}{ps:List Ty}{g:Pure}{fn:Func}{code:Code}(fC:P.funcs[n]? =some fn)(gD:(fn.name== "runtime.NumGoroutine")=false)(fB:fn.body=some code)
 (h:∀(l:List SV) (b:Option aI) (r:List SV) (b':Option aI),g (List SV×Option aI) (az ps l) b (fun r b=>some (r,b))=some (r,b')->∃k,dd E (C (List SV×Option aI)) k fn code l b (fun r b=>some (r,b))=some (r,b')):∀f,bW P (C.add n ps g) f:=by
 intro f
 by_cases e:f=n
 ·subst e
  refine A3 hE hm hC h0 fC gD fB fun l b r b' hc=>h l b r b' ?_
  unfold ay.add at hc
  have:Nat.beq f f=true:=by simp
  rw[this] at hc
  exact hc
 ·intro l b r b' hc
  unfold ay.add at hc
  have:Nat.beq f n=false:=by
   cases hh:Nat.beq f n with
   |false=>rfl
   |true=>exact absurd (Nat.eq_of_beq_eq_true hh) e
  rw[this] at hc
  exact h0 f l b r b' hc
def sub:List Nat->Code->Code
 | [],c=>c
 |0::p,.seq a _=>sub p a
 |_::p,.seq _ b=>sub p b
 |0::p,.cond _ a _=>sub p a
 |_::p,.cond _ _ b=>sub p b
 |_::p,.block _ b=>sub p b
 |_::p,.loop b=>sub p b
 |_,c=>c
section
variable {R:Type}
def oC(id:Nat)(K:Ex->State->Option R):Ex->State->Option R:=fun e s=>match e with
 | .exit j=>bif Nat.beq j id then K .normal s else K (.exit j) s
 |e=>K e s
def iR(E:Env)(C:FuncId->aK R)(k:Nat)(b:Code)(K:Ex->State->Option R):Ex->State->Option R:=fun e s=>match e with
 | .normal=>eS E k (zv b) s fun s=>ev E C k b s K
 |e=>K e s
def iQ(E:Env)(rs:List ResultVar)(bx:Option aI)(K:List SV->Option aI->Option R):Ex->State->Option R:=fun e s=>match e with
 | .exit _=>none
 |_=>match cq E s rs with
  |some (l,s')=>lk s' bx (c8 E l) K
  |none=>none
end
section
variable {R:Type}
def dN(l:List SV)(K:Option R):Option R:=
 match l with
 | []=>K
 |_=>none
def dO(t:Ty)(l:List SV)(K:El t->Option R):Option R:=
 match l with
 | [a]=>a.el t K
 |_=>none
def dP(t u:Ty)(l:List SV)(K:El t->El u->Option R):Option R:=
 match l with
 | [a,b]=>a.el t fun x=>b.el u fun y=>K x y
 |_=>none
end
theorem A0{R:Type}{t:Ty}{v:SV}{r:List Ty}{q:List SV}{K:El t->Option R}{z:R}{v':SV}{q':List SV}(hn:az (t::r) (v::q)=v'::q')(h:v'.el t K=some z):∃y,v'= .al t y []/\q'=az r q/\K y=some z:=by
 have key:v'=v.shut/\q'=az r q\/(∃e u,t= .sl e u/\v'= .al (.sl e u) ([]:List (El u)) []/\q'=az r q):=by
  cases t<;>cases v<;>simp only[az,List.cons.injEq] at hn<;>first|exact .inl ⟨hn.1.symm,hn.2.symm⟩|exact .inr ⟨_,_,rfl,hn.1.symm,hn.2.symm⟩
 rcases key with⟨rfl,rfl⟩|⟨e,u,rfl,rfl,rfl⟩
 ·cases v with
  |al t' x own=>
   simp only[SV.shut,SV.el] at h
   split at h
   ·rename_i heq
    have:=Ty.ax heq
    subst this
    exact⟨x,rfl,rfl,h⟩
   ·cases h
  |bc=>cases t<;>first|(simp [SV.shut,SV.el] at h;done)|(simp [az,SV.shut] at hn;done)
  |_=>simp [SV.shut,SV.el] at h
 ·simp only[SV.el,Ty.aO,dite_true] at h
  exact⟨[],rfl,rfl,h⟩
theorem uW(hE:ag P E){H:Type}{enc:TypeId×Value->H}{w:World}{spare:Nat->Bool}{held:Bool}{β:Nat->Option Nat}{base b:Nat}{T:TypeId}{t:Ty}{v:Value}{d:DataW H}{ps:List MemPlace}(hT:E.ty T=some t)(df:t.ci=true)
 (hv:Value.okWide P w .any b T v) (hd:DataW.Trod enc P w base spare held T v d ps):∃y:El t,Wf t y/\∀q,ai (hI w β) q (.al t y []) v:=by
 obtain⟨aZ,hd⟩:=hd
 obtain⟨y,r,wf⟩:=(A6 (β:=β) hE t).1 T aZ _ _ hT df hd
 refine⟨y,wf,fun q=>⟨_,r,?_,zr⟩⟩
 have hu:=(hE.ty T t hT).bA
 have hl:=r.len
 cases ht:t.agg with
 |true=>
  rw[zj ht]
  have:∃cs,v= .agg cs:=by
   unfold Value.okWide at hv
   cases t with
   |aL n t=>obtain⟨e,h1,_⟩:=hu;rw[h1] at hv;obtain⟨cs,h,_⟩:=hv;exact⟨cs,h⟩
   |unit=>obtain⟨fs,h1,_⟩:=hu;rw[h1] at hv;obtain⟨cs,h,_⟩:=hv;exact⟨cs,h⟩
   |pair a b=>obtain⟨fs,h1,_⟩:=hu;rw[h1] at hv;obtain⟨cs,h,_⟩:=hv;exact⟨cs,h⟩
   |aG k a b=>exact absurd (hE.cV hT) (by simp [Ty.aJ])
   |_=>simp [Ty.agg] at ht
  obtain⟨cs,rfl⟩:=this
  rfl
 |false=>
  have pE:∀cs,v≠ .agg cs:=by
   rintro cs rfl
   unfold Value.okWide at hv
   cases t with
   |bool=>have hu:P.underlying T=some .bool:=hu;rw[hu] at hv;unfold Cell.okWide at hv;rw[hu] at hv;unfold Cell.ok at hv;rw[hu] at hv;exact hv
   |int k=>have hu:P.underlying T=some (.int k):=hu;rw[hu] at hv;unfold Cell.okWide at hv;rw[hu] at hv;unfold Cell.ok at hv;rw[hu] at hv;exact hv
   |str=>have hu:P.underlying T=some .string:=hu;rw[hu] at hv;unfold Cell.okWide at hv;rw[hu] at hv;unfold Cell.ok at hv;rw[hu] at hv;exact hv
   |sl e t=>have hu:P.underlying T=some (.slice e):=hu.1;rw[hu] at hv;unfold Cell.okWide at hv;rw[hu] at hv;unfold Cell.ok at hv;rw[hu] at hv;exact hv
   |_=>simp [Ty.agg] at ht
  have hc:v.cells.toList=[v]:=by
   cases v<;>first|rfl|exact absurd rfl (pE _)
  rw[hc,mW ht]
theorem ye{w:World}{β:Nat->Option Nat}{Y:ah}(h:Ext (hI w β) Y):∀g,g<w.heap.size->Y.w.heap[g]? =w.heap[g]? :=fun g hg=>(h.still g hg trivial).2
end Go.Ref

namespace Go.Ref
open Go
theorem vF{x:Int}(h1: -9223372036854775808<=x)(h2:x<=9223372036854775807):IntKind.i64.wrap x=x:=by
 simp [IntKind.wrap,IntKind.signed,IntKind.bits]
 omega
theorem zB{R:Type}{j n:Nat}{x:Option R}(h:j<n):zf (j:Int) n x=x:=by
 unfold zf
 rw[decide_eq_true (by omega:(0:Int)<=j),decide_eq_true (by omega:(j:Int)<n)]
 rfl
variable {P:Program} {E:Env}
def mX(X:ah):List SV->List Value->Prop
 | [],[]=>True
 |s::l,v::vs=>(∀q,ai X q s v)/\(∀id t p,s≠ .ptr id t p)/\mX X l vs
 |_,_=>False
theorem tJ{X:ah}:∀{l:List SV} {vs:List Value},mX X l vs->vs.length=l.length/\∀(i:Nat) s v,l[i]? =some s->vs[i]? =some v->(∀q,ai X q s v)/\∀id t p,s≠ .ptr id t p
 | [],[],_=>⟨rfl,fun i s v h=>by simp at h⟩
 |s::l,v::vs,h=>by
  obtain⟨h1,h2,h3⟩:=h
  obtain⟨g1,g2⟩:=tJ h3
  refine⟨by simp [g1],fun i s' v' hs hv=> ?_⟩
  cases i with
  |zero=>
   simp only[List.getElem?_cons_zero,Option.some.injEq] at hs hv
   subst hs hv
   exact⟨h1,h2⟩
  |succ i=>
   simp only[List.getElem?_cons_succ] at hs hv
   exact g2 i s' v' hs hv
theorem Ah{X:ah}{l:List SV}{args:Array Value}(h:mX X l args.toList)(hX:∀g pl n,X.ow g≠ .row pl n):gk X l none args:=by
 obtain⟨h1,h2⟩:=tJ h
 refine⟨by simpa using h1,fun i sv v hs hv=>(h2 i sv v hs (by simpa using hv)).1 _,fun id t p hm=> ?_,fun B hB=>(by cases hB),fun _=>hX⟩
 obtain⟨i,hi⟩:=List.mem_iff_getElem?.1 hm
 have aw:=(List.getElem?_eq_some_iff.1 hi).1
 have gB:i<args.toList.length:=by omega
 exact absurd rfl ((h2 i _ _ hi (List.getElem?_eq_getElem gB)).2 id t p)
theorem yY{C:ay}{f:FuncId}(ho:bW P C f){l:List SV}{args:Array Value}{W:World}{b:Bool}(hc:C (List SV×Option aI) f l none (fun r b=>some (r,b))=some ([.al .bool b []],none))(gg:mX (hI W fun _=>none) l args.toList):
 Calls P f args W fun e w'=>e= .returned (.bool b)/\RowKit.Below W.heap.size W w':=by
 refine((ho l none _ _ hc).2 (hI W fun _=>none) args (Ah gg fun g pl n e=>by cases e)).mono fun e w' he=> ?_
 cases e with
 |returned v=>
  obtain⟨Y,rfl,aC,r0,av,_,_⟩:=he
  have av:ai {Y with β:=fun _=>some r0} (.r 0) (.al .bool b []) v:=av
  refine⟨by rw[mG av],aC.os,aC.tape,aC.output,aC.size,fun k hk=>ye aC k hk⟩
 |panicked c=>exact he.elim
 |outgrown=>exact he.elim
end Go.Ref

namespace Go.Ref
open Go
variable {P:Program} {E:Env}
def bs(l:List Nat):ByteArray:=⟨(l.map UInt8.ofNat).toArray⟩
@[irreducible] def bF:Nat:=18446744073709551616
section
variable {R S:Type}
def lh(t u v w:Ty)(l:List SV)(K:El t->El u->El v->El w->Option R):Option R:=
 match l with
 | [a,b,.view v' x,.view w' y]=>if h:v'.aX v=true then if h2:w'.aX w=true then a.el t fun p=>b.el u fun q=>K p q (Ty.cast h x) (Ty.cast h2 y) else none else none
 |_=>none
def dD(b:Option aI)(K:Option R):Option R:=
 match b with
 |none=>K
 |some _=>none
theorem nN{b:Option aI}{F:Option R}{G:Option S}{K:S->Option R}(h:F=G.bind K):dD b F=(dD b G).bind K:=by
 cases b
 ·exact h
 ·rfl
theorem nH{b:Option aI}{F:Option R}{z:R}(h:dD b F=some z):b=none/\F=some z:=by
 cases b
 ·exact⟨rfl,h⟩
 ·cases h
theorem qy(c:Bool)(x y:Option S)(F:S->Option R):(bif c then x else y).bind F=bif c then x.bind F else y.bind F:=by cases c<;>rfl
theorem xL(i:Int)(n:Nat)(x:Option S)(F:S->Option R):(zf i n x).bind F=zf i n (x.bind F):=by
 unfold zf;rw[qy,qy];rfl
theorem yR(F:S->Option R):(none:Option S).bind F=none:=Eq.trans rfl rfl
theorem zs(x:S)(F:S->Option R):(some x).bind F=F x:=Eq.trans rfl rfl
theorem AD{α β:Type}(f:α->Option S)(g:β->Option S)(e:α⊕β)(F:S->Option R):(Sum.elim f g e).bind F=Sum.elim (fun x=>(f x).bind F) (fun x=>(g x).bind F) e:=by cases e<;>rfl
theorem yn{α:Type}(x:Option α)(f:α->Option S)(F:S->Option R):(x.bind f).bind F=x.bind fun y=>(f y).bind F:=by cases x<;>rfl
theorem yj{l:List SV}{F:Option R}{G:Option S}{K:S->Option R}(h:F=G.bind K):dN l F=(dN l G).bind K:=by
 unfold dN;split
 ·exact h
 ·rfl
theorem yk{t:Ty}{l:List SV}{F:El t->Option R}{G:El t->Option S}{K:S->Option R}(h:∀x,F x=(G x).bind K):dO t l F=(dO t l G).bind K:=by
 unfold dO;split
 ·exact zd h
 ·rfl
theorem yl{t u:Ty}{l:List SV}{F:El t->El u->Option R}{G:El t->El u->Option S}{K:S->Option R}(h:∀x y,F x y=(G x y).bind K):dP t u l F=(dP t u l G).bind K:=by
 unfold dP;split
 ·exact zd fun x=>zd fun y=>h x y
 ·rfl
theorem xO{t u v w:Ty}{l:List SV}{F:El t->El u->El v->El w->Option R}{G:El t->El u->El v->El w->Option S}{K:S->Option R}(h:∀x y z a,F x y z a=(G x y z a).bind K):lh t u v w l F=(lh t u v w l G).bind K:=by
 unfold lh;split
 ·split
  ·split
   ·exact zd fun x=>zd fun y=>h x y _ _
   ·rfl
  ·rfl
 ·rfl
theorem nK{α:Type}{m:Option α}{F:α->Option R}{G:α->Option S}{K:S->Option R}(h:∀r,F r=(G r).bind K):m.bind F=(m.bind G).bind K:=by
 cases m with
 |none=>rfl
 |some x=>exact h x
end
section
variable {R:Type}
theorem yK{C:FuncId->aK R}{k:Nat}{fn:Func}{code:Code}{l q:List SV}{b:Option aI}{K:List SV->Option aI->Option R}(h:az E.ps l=q)(hq:az E.ps q=q)(hl:q.length=l.length):dd E C k fn code l b K=dd E C k fn code q b K:=by
 unfold dd
 simp only[h,hq,hl]
theorem uv:∀{ts:List Ty} {q:List SV},(∀s∈q,s.shut=s/\s≠ .bc)->az ts q=q
 |ts,[],_=>by cases ts<;>simp [az]
 | [],q,_=>by simp [az]
 |t::r,v::q,h=>by
  have h1:=h v (by simp)
  have h2:=uv (ts:=r) (q:=q) (fun s hs=>h s (by simp [hs]))
  cases t<;>cases v<;>simp [az,h2]<;>first|exact h1.1|exact absurd rfl h1.2
theorem As{ts:List Ty}{l:List SV}(h:az ts l=[]):l=[]:=by
 have:=nO ts l
 rw[h] at this
 exact List.length_eq_zero_iff.1 this.symm
theorem yU{t:Ty}{r:List Ty}{l:List SV}{v':SV}{q':List SV}(h:az (t::r) l=v'::q'):∃v q,l=v::q:=by
 cases l with
 |nil=>simp [az] at h
 |cons v q=>exact⟨v,q,rfl⟩
theorem mU{t:Ty}{r:List Ty}{l:List SV}{a:SV}{q':List SV}{K:El t->Option R}{z:R}(hn:az (t::r) l=a::q')(h:a.el t K=some z):∃y v q,a= .al t y []/\l=v::q/\az r q=q'/\K y=some z:=by
 obtain⟨v,q,rfl⟩:=yU hn
 obtain⟨y,h1,h2,h3⟩:=A0 hn h
 exact⟨y,v,q,h1,rfl,h2.symm,h3⟩
theorem nP{l q:List SV}(hn:az E.ps l=q)(hd:∀s∈q,s.shut=s/\s≠ .bc){C:FuncId->aK R}{k:Nat}{fn:Func}{code:Code}{b:Option aI}{K:List SV->Option aI->Option R}:dd E C k fn code l b K=dd E C k fn code q b K:=
 yK hn (uv hd) (by rw[<-hn,nO])
theorem ou{t:Ty}{x:El t}:(SV.al t x []).shut=SV.al t x []/\SV.al t x []≠ .bc:=⟨rfl,by simp⟩
def fM(E:Env)(l q:List SV):Prop:=∀{R:Type} (C:FuncId->aK R) (k:Nat) (fn:Func) (code:Code) (b:Option aI) (K:List SV->Option aI->Option R),dd E C k fn code l b K=dd E C k fn code q b K
theorem iU{l:List SV}{F:Option R}{z:R}(gJ:E.ps=[])(h:dN (az [] l) F=some z):F=some z/\fM E l []:=by
 unfold dN at h
 split at h
 ·rename_i hn
  have:=As hn
  subst this
  exact⟨h,fun C k fn code b K=>rfl⟩
 ·cases h
theorem qa{t:Ty}{l:List SV}{F:El t->Option R}{z:R}(gJ:E.ps=[t])(h:dO t (az [t] l) F=some z):∃x,F x=some z/\fM E l [.al t x []]:=by
 unfold dO at h
 split at h
 ·rename_i a hn
  obtain⟨x,v,q,rfl,rfl,h1,h⟩:=mU hn h
  refine⟨x,h,fun C k fn code b K=>nP (by rw[gJ];exact hn) ?_⟩
  intro s hs
  simp only[List.mem_cons,List.not_mem_nil,or_false] at hs
  subst hs;exact ou
 ·cases h
theorem gZ{t u:Ty}{l:List SV}{F:El t->El u->Option R}{z:R}(gJ:E.ps=[t,u])(h:dP t u (az [t,u] l) F=some z):∃x y,F x y=some z/\fM E l [.al t x [],.al u y []]:=by
 unfold dP at h
 split at h
 ·rename_i a b hn
  obtain⟨x,v,q,rfl,rfl,h1,h⟩:=mU hn h
  obtain⟨y,v',q',rfl,rfl,h2,h⟩:=mU h1 h
  refine⟨x,y,h,fun C k fn code b K=>nP (by rw[gJ];exact hn) ?_⟩
  intro s hs
  simp only[List.mem_cons,List.not_mem_nil,or_false] at hs
  rcases hs with rfl|rfl<;>exact ou
 ·cases h
theorem Bn{t:Ty}:(SV.ptr 0 t []).shut=SV.ptr 0 t []/\SV.ptr 0 t []≠ .bc:=⟨rfl,by simp⟩
theorem fM.ptr{t:Ty}{ts:List Ty}{q q':List SV}(gJ:E.ps= .unit::ts)(hn:az ts q=q')(hd:∀s∈q',s.shut=s/\s≠ .bc):fM E (.ptr 0 t []::q) (.ptr 0 t []::q'):=fun C k fn code b K=>
 nP (by rw[gJ];simp [az,SV.shut,hn]) (fun s hs=>by
  rcases List.mem_cons.1 hs with rfl|hs
  ·exact Bn
  ·exact hd s hs)
theorem vv{t:Ty}{x:El t}:(SV.view t x).shut=SV.view t x/\SV.view t x≠ .bc:=⟨rfl,by simp⟩
theorem my{t u v w:Ty}{l:List SV}{F:El t->El u->El v->El w->Option R}{z:R}(gJ:E.ps=[t,u,.unit,.unit])(h:lh t u v w (az [t,u,.unit,.unit] l) F=some z):
 ∃p q x y,F p q x y=some z/\fM E l [.al t p [],.al u q [],.view v x,.view w y]:=by
 unfold lh at h
 split at h
 ·rename_i a b v' x w' y hn
  split at h
  ·rename_i hv
   split at h
   ·rename_i hw
    have:=Ty.ax hv
    have h3:=Ty.ax hw
    subst this
    subst h3
    obtain⟨p,v1,q1,rfl,rfl,h4,h⟩:=mU hn h
    obtain⟨q,v2,q2,rfl,rfl,h5,h⟩:=mU h4 h
    refine⟨p,q,x,y,h,fun C k fn code b K=>nP (by rw[gJ];exact hn) ?_⟩
    intro s hs
    simp only[List.mem_cons,List.not_mem_nil,or_false] at hs
    rcases hs with rfl|rfl|rfl|rfl
    ·exact ou
    ·exact ou
    ·exact vv
    ·exact vv
   ·cases h
  ·cases h
 ·cases h
end
end Go.Ref

namespace Go.Ref
open Go
variable {P:Program} {E:Env}
def ah.after(X:ah)(w:World):ah:=⟨w,fun g=>if g<X.w.heap.size then X.ow g else .ro 0,X.β⟩
end Go.Ref
namespace bH
open Go Go.Ref
end bH

namespace Go.Ref
open Go Go.Shelf Go.RowKit Go.Proofs
variable {P:Program} {E:Env} {ρ:Ren}
def ah.gp(X:ah)(w:World)(r:Nat)(g:Option Nat):ah:=⟨w,fun k=>if k=r then .box 0 else if g=some k then .row (.b 0 []) 0 else if k<X.w.heap.size then X.ow k else .ro 0,X.β⟩
end Go.Ref

namespace Go.Ref
open Go
variable {P:Program} {R S:Type}
structure ct(P:Program)(T:ay):Prop where
 mix:P.follows .mixedOrders=true
 nat:T.Nat
 mw:∀f,bW P T f
noncomputable abbrev cd (fn:Func):Code:=fn.body.getD .skip
noncomputable abbrev ni (E:Env) (T:ay) (R:Type) (k:Nat) (fn:Func) (l:List SV) (b:Option aI) (K:List SV->Option aI->Option R):Option R:=dd E (T R) k fn (cd fn) l b K
abbrev KF(R:Type):Type:=List SV->Option aI->Option R
abbrev KX(R:Type):Type:=Ex->State->Option R
abbrev hN(β:Type):Type 1:=(R:Type)->β->KF R->Option R
def hN.Nat{β:Type}(o:hN β):Prop:=∀(R S:Type) r (F:KF R) (G:KF S) (K:S->Option R),(∀r b,F r b=(G r b).bind K)->o R r F=(o S r G).bind K
def lL(fn:Func):Bool:= !(fn.name== "runtime.NumGoroutine")&&fn.body.isSome
def tI(x:Int):SV:= .al (.int .i64) x []
def tB(x:Bool):SV:= .al .bool x []
theorem dM:(∀{R S:Type} (c:Bool) (x y:Option S) (F:S->Option R),(bif c then x else y).bind F=bif c then x.bind F else y.bind F)/\(∀{R S:Type} (i:Int) (n:Nat) (x:Option S) (F:S->Option R),(zf i n x).bind F=zf i n (x.bind F))/\
 (∀{R S:Type} (F:S->Option R),(.none:Option S).bind F= .none)/\(∀{R S:Type} (x:S) (F:S->Option R),(some x).bind F=F x)/\(∀{R S α β:Type} (f:α->Option S) (g:β->Option S) (e:α⊕β) (F:S->Option R),(Sum.elim f g e).bind F=Sum.elim (fun x=>(f x).bind F) (fun x=>(g x).bind F) e)/\
 (∀{R S α:Type} (x:Option α) (f:α->Option S) (F:S->Option R),(x.bind f).bind F=x.bind fun y=>(f y).bind F)/\(∀{α β γ:Type} (f:α->γ) (g:β->γ) (x:α),Sum.elim f g (.inl x)=f x)/\(∀{α β γ:Type} (f:α->γ) (g:β->γ) (x:β),Sum.elim f g (.inr x)=g x):=
 ⟨qy,xL,yR,zs,AD,yn,fun _ _ _=>rfl,fun _ _ _=>rfl⟩
theorem ct.none(hm:P.follows .mixedOrders=true):ct P ay.none:=⟨hm,Ar,yS⟩
theorem ct.add{E:Env}{T:ay}(h:ct P T)(hE:ag P E){n:FuncId}{ps:List Ty}{g:Pure}{fn:Func}(fC:P.funcs[n]? =some fn)(hc:lL fn=true)(hg:g.Nat)
 (h1:∀(l:List SV) (b:Option aI) (r:List SV) (b':Option aI),g (List SV×Option aI) (az ps l) b (fun r b=>some (r,b))=some (r,b')->∃k,dd E (T (List SV×Option aI)) k fn (cd fn) l b (fun r b=>some (r,b))=some (r,b')):ct P (T.add n ps g):=by
 obtain⟨h2,h3⟩:=Bool.and_eq_true_iff.1 hc
 refine⟨h.mix,AS h.nat hg,zP hE h.mix h.nat h.mw fC (by simpa using h2) ?_ h1⟩
 cases e:fn.body with
 |none=>rw[e] at h3;cases h3
 |some c=>simp [cd,e]
def s5{β:Type}(f:Option β)(o:hN β):Pure:=fun R l b K=>dD b (dN l (f.bind fun r=>o R r K))
theorem w9(E:Env){T:ay}{n:FuncId}(fn:Func){β:Type}{f:Option β}{o:hN β}(m:(R:Type)->Nat->KF R->Option R)(h0:ct P T)(hE:ag P E)(fC:P.funcs[n]? =some fn)(hc:lL fn=true)(hp:E.ps=[])(ho:o.Nat)
 (h1:∀(R:Type) k (K:KF R),ni E T R k fn [] .none K=m R k K) (h2:∀(R:Type) kk (e:kk=bF) (K:KF R),m R kk K=f.bind fun r=>o R r K):ct P (T.add n [] (s5 f o)):=
 h0.add hE fC hc (fun R S l b F G K h=>nN (yj (nK fun _=>ho _ _ _ _ _ _ h))) fun l b r b' h=>by
  obtain⟨rfl,h5⟩:=nH h
  obtain⟨h3,h4⟩:=iU hp h5
  exact⟨bF,(h4 _ _ _ _ _ _).trans (((h1 _ _ _).trans (h2 _ _ rfl _)).trans h3)⟩
def iV(t:Ty){β:Type}(f:El t->Option β)(o:hN β):Pure:=fun R l b K=>dD b (dO t l (fun x=>(f x).bind fun r=>o R r K))
theorem jF(E:Env){T:ay}{n:FuncId}(fn:Func){t:Ty}{β:Type}{f:El t->Option β}{o:hN β}(m:(R:Type)->Nat->El t->KF R->Option R)(h0:ct P T)(hE:ag P E)(fC:P.funcs[n]? =some fn)(hc:lL fn=true)(hp:E.ps=[t])(ho:o.Nat)
 (h1:∀(R:Type) k x (K:KF R),ni E T R k fn [.al t x []] .none K=m R k x K) (h2:∀(R:Type) kk (e:kk=bF) x (K:KF R),m R kk x K=(f x).bind fun r=>o R r K):ct P (T.add n [t] (iV t f o)):=
 h0.add hE fC hc (fun R S l b F G K h=>nN (yk fun _=>nK fun _=>ho _ _ _ _ _ _ h)) fun l b r b' h=>by
  obtain⟨rfl,h5⟩:=nH h
  obtain⟨x,h3,h4⟩:=qa hp h5
  exact⟨bF,(h4 _ _ _ _ _ _).trans (((h1 _ _ x _).trans (h2 _ _ rfl x _)).trans h3)⟩
def iW(t u:Ty){β:Type}(f:El t->El u->Option β)(o:hN β):Pure:=fun R l b K=>dD b (dP t u l (fun x y=>(f x y).bind fun r=>o R r K))
theorem jG(E:Env){T:ay}{n:FuncId}(fn:Func){t u:Ty}{β:Type}{f:El t->El u->Option β}{o:hN β}(m:(R:Type)->Nat->El t->El u->KF R->Option R)(h0:ct P T)(hE:ag P E)(fC:P.funcs[n]? =some fn)(hc:lL fn=true)(hp:E.ps=[t,u])(ho:o.Nat)
 (h1:∀(R:Type) k x y (K:KF R),ni E T R k fn [.al t x [],.al u y []] .none K=m R k x y K) (h2:∀(R:Type) kk (e:kk=bF) x y (K:KF R),m R kk x y K=(f x y).bind fun r=>o R r K):ct P (T.add n [t,u] (iW t u f o)):=
 h0.add hE fC hc (fun R S l b F G K h=>nN (yl fun _ _=>nK fun _=>ho _ _ _ _ _ _ h)) fun l b r b' h=>by
  obtain⟨rfl,h5⟩:=nH h
  obtain⟨x,y,h3,h4⟩:=gZ hp h5
  exact⟨bF,(h4 _ _ _ _ _ _).trans (((h1 _ _ x y _).trans (h2 _ _ rfl x y _)).trans h3)⟩
def pv(t u v w:Ty){β:Type}(f:El t->El u->El v->El w->Option β)(o:hN β):Pure:=fun R l b K=>dD b (lh t u v w l (fun x y a b=>(f x y a b).bind fun r=>o R r K))
theorem sv(E:Env){T:ay}{n:FuncId}(fn:Func){t u v w:Ty}{β:Type}{f:El t->El u->El v->El w->Option β}{o:hN β}(m:(R:Type)->Nat->El t->El u->El v->El w->KF R->Option R)(h0:ct P T)(hE:ag P E)(fC:P.funcs[n]? =some fn)(hc:lL fn=true)(hp:E.ps=[t,u,.unit,.unit])(ho:o.Nat)
 (h1:∀(R:Type) k x y a b (K:KF R),ni E T R k fn [.al t x [],.al u y [],.view v a,.view w b] .none K=m R k x y a b K) (h2:∀(R:Type) kk (e:kk=bF) x y a b (K:KF R),m R kk x y a b K=(f x y a b).bind fun r=>o R r K):ct P (T.add n [t,u,.unit,.unit] (pv t u v w f o)):=
 h0.add hE fC hc (fun R S l b F G K h=>nN (xO fun _ _ _ _=>nK fun _=>ho _ _ _ _ _ _ h)) fun l b r b' h=>by
  unfold pv at h
  obtain⟨rfl,h5⟩:=nH h
  obtain⟨x,y,a,b,h3,h4⟩:=my hp h5
  exact⟨bF,(h4 _ _ _ _ _ _).trans (((h1 _ _ x y a b _).trans (h2 _ _ rfl x y a b _)).trans h3)⟩
end Go.Ref

namespace bH
open Go.IntKind renaming wrap->zW,i64->zI,u8->zU
open Go Go.Ref
abbrev bd:Type:=(Int×Int×Unit)
def rh{R:Type}(a:Int)(b:Int->Option R):Option R:=
 bif 4294967296<=a then bif 65536<=Int.fdiv a (2^min ((32:Int)).toNat 64) then bif 256<=Int.fdiv (Int.fdiv a (2^min ((32:Int)).toNat 64)) (2^min ((16:Int)).toNat 64) then zf (zW zU (Int.fdiv (Int.fdiv (Int.fdiv a (2^min ((32:Int)).toNat 64)) (2^min ((16:Int)).toNat 64)) (2^min ((8:Int)).toNat 64))) (bs [0,1,2,2,3,3,3,3,4,4,4,4,4,4,4,4,5,5,5,5,5,5,5,5,5,5,5,5,5,5,5,5,6,6,6,6,6,6,6,6,6,6,6,6,6,6,6,6,6,6,6,6,6,6,6,6,6,6,6,6,6,6,6,6,7,7,7,7,7,7,7,7,7,7,7,7,7,7,7,7,7,7,7,7,7,7,7,7,7,7,7,7,7,7,7,7,7,7,7,7,7,7,7,7,7,7,7,7,7,7,7,7,7,7,7,7,7,7,7,7,7,7,7,7,7,7,7,7,8,8,8,8,8,8,8,8,8,8,8,8,8,8,8,8,8,8,8,8,8,8,8,8,8,8,8,8,8,8,8,8,8,8,8,8,8,8,8,8,8,8,8,8,8,8,8,8,8,8,8,8,8,8,8,8,8,8,8,8,8,8,8,8,8,8,8,8,8,8,8,8,8,8,8,8,8,8,8,8,8,8,8,8,8,8,8,8,8,8,8,8,8,8,8,8,8,8,8,8,8,8,8,8,8,8,8,8,8,8,8,8,8,8,8,8,8,8,8,8,8,8,8,8,8,8,8,8]).size (b (zW zI (zW zI (zW zI (32+16)+8)+zW zI (hJ (bs [0,1,2,2,3,3,3,3,4,4,4,4,4,4,4,4,5,5,5,5,5,5,5,5,5,5,5,5,5,5,5,5,6,6,6,6,6,6,6,6,6,6,6,6,6,6,6,6,6,6,6,6,6,6,6,6,6,6,6,6,6,6,6,6,7,7,7,7,7,7,7,7,7,7,7,7,7,7,7,7,7,7,7,7,7,7,7,7,7,7,7,7,7,7,7,7,7,7,7,7,7,7,7,7,7,7,7,7,7,7,7,7,7,7,7,7,7,7,7,7,7,7,7,7,7,7,7,7,8,8,8,8,8,8,8,8,8,8,8,8,8,8,8,8,8,8,8,8,8,8,8,8,8,8,8,8,8,8,8,8,8,8,8,8,8,8,8,8,8,8,8,8,8,8,8,8,8,8,8,8,8,8,8,8,8,8,8,8,8,8,8,8,8,8,8,8,8,8,8,8,8,8,8,8,8,8,8,8,8,8,8,8,8,8,8,8,8,8,8,8,8,8,8,8,8,8,8,8,8,8,8,8,8,8,8,8,8,8,8,8,8,8,8,8,8,8,8,8,8,8,8,8,8,8,8,8]) (zW zU (Int.fdiv (Int.fdiv (Int.fdiv a (2^min ((32:Int)).toNat 64)) (2^min ((16:Int)).toNat 64)) (2^min ((8:Int)).toNat 64))).toNat)))) else zf (zW zU (Int.fdiv (Int.fdiv a (2^min ((32:Int)).toNat 64)) (2^min ((16:Int)).toNat 64))) (bs [0,1,2,2,3,3,3,3,4,4,4,4,4,4,4,4,5,5,5,5,5,5,5,5,5,5,5,5,5,5,5,5,6,6,6,6,6,6,6,6,6,6,6,6,6,6,6,6,6,6,6,6,6,6,6,6,6,6,6,6,6,6,6,6,7,7,7,7,7,7,7,7,7,7,7,7,7,7,7,7,7,7,7,7,7,7,7,7,7,7,7,7,7,7,7,7,7,7,7,7,7,7,7,7,7,7,7,7,7,7,7,7,7,7,7,7,7,7,7,7,7,7,7,7,7,7,7,7,8,8,8,8,8,8,8,8,8,8,8,8,8,8,8,8,8,8,8,8,8,8,8,8,8,8,8,8,8,8,8,8,8,8,8,8,8,8,8,8,8,8,8,8,8,8,8,8,8,8,8,8,8,8,8,8,8,8,8,8,8,8,8,8,8,8,8,8,8,8,8,8,8,8,8,8,8,8,8,8,8,8,8,8,8,8,8,8,8,8,8,8,8,8,8,8,8,8,8,8,8,8,8,8,8,8,8,8,8,8,8,8,8,8,8,8,8,8,8,8,8,8,8,8,8,8,8,8]).size (b (zW zI (zW zI (32+16)+zW zI (hJ (bs [0,1,2,2,3,3,3,3,4,4,4,4,4,4,4,4,5,5,5,5,5,5,5,5,5,5,5,5,5,5,5,5,6,6,6,6,6,6,6,6,6,6,6,6,6,6,6,6,6,6,6,6,6,6,6,6,6,6,6,6,6,6,6,6,7,7,7,7,7,7,7,7,7,7,7,7,7,7,7,7,7,7,7,7,7,7,7,7,7,7,7,7,7,7,7,7,7,7,7,7,7,7,7,7,7,7,7,7,7,7,7,7,7,7,7,7,7,7,7,7,7,7,7,7,7,7,7,7,8,8,8,8,8,8,8,8,8,8,8,8,8,8,8,8,8,8,8,8,8,8,8,8,8,8,8,8,8,8,8,8,8,8,8,8,8,8,8,8,8,8,8,8,8,8,8,8,8,8,8,8,8,8,8,8,8,8,8,8,8,8,8,8,8,8,8,8,8,8,8,8,8,8,8,8,8,8,8,8,8,8,8,8,8,8,8,8,8,8,8,8,8,8,8,8,8,8,8,8,8,8,8,8,8,8,8,8,8,8,8,8,8,8,8,8,8,8,8,8,8,8,8,8,8,8,8,8]) (zW zU (Int.fdiv (Int.fdiv a (2^min ((32:Int)).toNat 64)) (2^min ((16:Int)).toNat 64))).toNat)))) else bif 256<=Int.fdiv a (2^min ((32:Int)).toNat 64) then zf (zW zU (Int.fdiv (Int.fdiv a (2^min ((32:Int)).toNat 64)) (2^min ((8:Int)).toNat 64))) (bs [0,1,2,2,3,3,3,3,4,4,4,4,4,4,4,4,5,5,5,5,5,5,5,5,5,5,5,5,5,5,5,5,6,6,6,6,6,6,6,6,6,6,6,6,6,6,6,6,6,6,6,6,6,6,6,6,6,6,6,6,6,6,6,6,7,7,7,7,7,7,7,7,7,7,7,7,7,7,7,7,7,7,7,7,7,7,7,7,7,7,7,7,7,7,7,7,7,7,7,7,7,7,7,7,7,7,7,7,7,7,7,7,7,7,7,7,7,7,7,7,7,7,7,7,7,7,7,7,8,8,8,8,8,8,8,8,8,8,8,8,8,8,8,8,8,8,8,8,8,8,8,8,8,8,8,8,8,8,8,8,8,8,8,8,8,8,8,8,8,8,8,8,8,8,8,8,8,8,8,8,8,8,8,8,8,8,8,8,8,8,8,8,8,8,8,8,8,8,8,8,8,8,8,8,8,8,8,8,8,8,8,8,8,8,8,8,8,8,8,8,8,8,8,8,8,8,8,8,8,8,8,8,8,8,8,8,8,8,8,8,8,8,8,8,8,8,8,8,8,8,8,8,8,8,8,8]).size (b (zW zI (zW zI (32+8)+zW zI (hJ (bs [0,1,2,2,3,3,3,3,4,4,4,4,4,4,4,4,5,5,5,5,5,5,5,5,5,5,5,5,5,5,5,5,6,6,6,6,6,6,6,6,6,6,6,6,6,6,6,6,6,6,6,6,6,6,6,6,6,6,6,6,6,6,6,6,7,7,7,7,7,7,7,7,7,7,7,7,7,7,7,7,7,7,7,7,7,7,7,7,7,7,7,7,7,7,7,7,7,7,7,7,7,7,7,7,7,7,7,7,7,7,7,7,7,7,7,7,7,7,7,7,7,7,7,7,7,7,7,7,8,8,8,8,8,8,8,8,8,8,8,8,8,8,8,8,8,8,8,8,8,8,8,8,8,8,8,8,8,8,8,8,8,8,8,8,8,8,8,8,8,8,8,8,8,8,8,8,8,8,8,8,8,8,8,8,8,8,8,8,8,8,8,8,8,8,8,8,8,8,8,8,8,8,8,8,8,8,8,8,8,8,8,8,8,8,8,8,8,8,8,8,8,8,8,8,8,8,8,8,8,8,8,8,8,8,8,8,8,8,8,8,8,8,8,8,8,8,8,8,8,8,8,8,8,8,8,8]) (zW zU (Int.fdiv (Int.fdiv a (2^min ((32:Int)).toNat 64)) (2^min ((8:Int)).toNat 64))).toNat)))) else zf (zW zU (Int.fdiv a (2^min ((32:Int)).toNat 64))) (bs [0,1,2,2,3,3,3,3,4,4,4,4,4,4,4,4,5,5,5,5,5,5,5,5,5,5,5,5,5,5,5,5,6,6,6,6,6,6,6,6,6,6,6,6,6,6,6,6,6,6,6,6,6,6,6,6,6,6,6,6,6,6,6,6,7,7,7,7,7,7,7,7,7,7,7,7,7,7,7,7,7,7,7,7,7,7,7,7,7,7,7,7,7,7,7,7,7,7,7,7,7,7,7,7,7,7,7,7,7,7,7,7,7,7,7,7,7,7,7,7,7,7,7,7,7,7,7,7,8,8,8,8,8,8,8,8,8,8,8,8,8,8,8,8,8,8,8,8,8,8,8,8,8,8,8,8,8,8,8,8,8,8,8,8,8,8,8,8,8,8,8,8,8,8,8,8,8,8,8,8,8,8,8,8,8,8,8,8,8,8,8,8,8,8,8,8,8,8,8,8,8,8,8,8,8,8,8,8,8,8,8,8,8,8,8,8,8,8,8,8,8,8,8,8,8,8,8,8,8,8,8,8,8,8,8,8,8,8,8,8,8,8,8,8,8,8,8,8,8,8,8,8,8,8,8,8]).size (b (zW zI (32+zW zI (hJ (bs [0,1,2,2,3,3,3,3,4,4,4,4,4,4,4,4,5,5,5,5,5,5,5,5,5,5,5,5,5,5,5,5,6,6,6,6,6,6,6,6,6,6,6,6,6,6,6,6,6,6,6,6,6,6,6,6,6,6,6,6,6,6,6,6,7,7,7,7,7,7,7,7,7,7,7,7,7,7,7,7,7,7,7,7,7,7,7,7,7,7,7,7,7,7,7,7,7,7,7,7,7,7,7,7,7,7,7,7,7,7,7,7,7,7,7,7,7,7,7,7,7,7,7,7,7,7,7,7,8,8,8,8,8,8,8,8,8,8,8,8,8,8,8,8,8,8,8,8,8,8,8,8,8,8,8,8,8,8,8,8,8,8,8,8,8,8,8,8,8,8,8,8,8,8,8,8,8,8,8,8,8,8,8,8,8,8,8,8,8,8,8,8,8,8,8,8,8,8,8,8,8,8,8,8,8,8,8,8,8,8,8,8,8,8,8,8,8,8,8,8,8,8,8,8,8,8,8,8,8,8,8,8,8,8,8,8,8,8,8,8,8,8,8,8,8,8,8,8,8,8,8,8,8,8,8,8]) (zW zU (Int.fdiv a (2^min ((32:Int)).toNat 64))).toNat)))) else bif 65536<=a then bif 256<=Int.fdiv a (2^min ((16:Int)).toNat 64) then zf (zW zU (Int.fdiv (Int.fdiv a (2^min ((16:Int)).toNat 64)) (2^min ((8:Int)).toNat 64))) (bs [0,1,2,2,3,3,3,3,4,4,4,4,4,4,4,4,5,5,5,5,5,5,5,5,5,5,5,5,5,5,5,5,6,6,6,6,6,6,6,6,6,6,6,6,6,6,6,6,6,6,6,6,6,6,6,6,6,6,6,6,6,6,6,6,7,7,7,7,7,7,7,7,7,7,7,7,7,7,7,7,7,7,7,7,7,7,7,7,7,7,7,7,7,7,7,7,7,7,7,7,7,7,7,7,7,7,7,7,7,7,7,7,7,7,7,7,7,7,7,7,7,7,7,7,7,7,7,7,8,8,8,8,8,8,8,8,8,8,8,8,8,8,8,8,8,8,8,8,8,8,8,8,8,8,8,8,8,8,8,8,8,8,8,8,8,8,8,8,8,8,8,8,8,8,8,8,8,8,8,8,8,8,8,8,8,8,8,8,8,8,8,8,8,8,8,8,8,8,8,8,8,8,8,8,8,8,8,8,8,8,8,8,8,8,8,8,8,8,8,8,8,8,8,8,8,8,8,8,8,8,8,8,8,8,8,8,8,8,8,8,8,8,8,8,8,8,8,8,8,8,8,8,8,8,8,8]).size (b (zW zI (zW zI (zW zI (0+16)+8)+zW zI (hJ (bs [0,1,2,2,3,3,3,3,4,4,4,4,4,4,4,4,5,5,5,5,5,5,5,5,5,5,5,5,5,5,5,5,6,6,6,6,6,6,6,6,6,6,6,6,6,6,6,6,6,6,6,6,6,6,6,6,6,6,6,6,6,6,6,6,7,7,7,7,7,7,7,7,7,7,7,7,7,7,7,7,7,7,7,7,7,7,7,7,7,7,7,7,7,7,7,7,7,7,7,7,7,7,7,7,7,7,7,7,7,7,7,7,7,7,7,7,7,7,7,7,7,7,7,7,7,7,7,7,8,8,8,8,8,8,8,8,8,8,8,8,8,8,8,8,8,8,8,8,8,8,8,8,8,8,8,8,8,8,8,8,8,8,8,8,8,8,8,8,8,8,8,8,8,8,8,8,8,8,8,8,8,8,8,8,8,8,8,8,8,8,8,8,8,8,8,8,8,8,8,8,8,8,8,8,8,8,8,8,8,8,8,8,8,8,8,8,8,8,8,8,8,8,8,8,8,8,8,8,8,8,8,8,8,8,8,8,8,8,8,8,8,8,8,8,8,8,8,8,8,8,8,8,8,8,8,8]) (zW zU (Int.fdiv (Int.fdiv a (2^min ((16:Int)).toNat 64)) (2^min ((8:Int)).toNat 64))).toNat)))) else zf (zW zU (Int.fdiv a (2^min ((16:Int)).toNat 64))) (bs [0,1,2,2,3,3,3,3,4,4,4,4,4,4,4,4,5,5,5,5,5,5,5,5,5,5,5,5,5,5,5,5,6,6,6,6,6,6,6,6,6,6,6,6,6,6,6,6,6,6,6,6,6,6,6,6,6,6,6,6,6,6,6,6,7,7,7,7,7,7,7,7,7,7,7,7,7,7,7,7,7,7,7,7,7,7,7,7,7,7,7,7,7,7,7,7,7,7,7,7,7,7,7,7,7,7,7,7,7,7,7,7,7,7,7,7,7,7,7,7,7,7,7,7,7,7,7,7,8,8,8,8,8,8,8,8,8,8,8,8,8,8,8,8,8,8,8,8,8,8,8,8,8,8,8,8,8,8,8,8,8,8,8,8,8,8,8,8,8,8,8,8,8,8,8,8,8,8,8,8,8,8,8,8,8,8,8,8,8,8,8,8,8,8,8,8,8,8,8,8,8,8,8,8,8,8,8,8,8,8,8,8,8,8,8,8,8,8,8,8,8,8,8,8,8,8,8,8,8,8,8,8,8,8,8,8,8,8,8,8,8,8,8,8,8,8,8,8,8,8,8,8,8,8,8,8]).size (b (zW zI (zW zI (0+16)+zW zI (hJ (bs [0,1,2,2,3,3,3,3,4,4,4,4,4,4,4,4,5,5,5,5,5,5,5,5,5,5,5,5,5,5,5,5,6,6,6,6,6,6,6,6,6,6,6,6,6,6,6,6,6,6,6,6,6,6,6,6,6,6,6,6,6,6,6,6,7,7,7,7,7,7,7,7,7,7,7,7,7,7,7,7,7,7,7,7,7,7,7,7,7,7,7,7,7,7,7,7,7,7,7,7,7,7,7,7,7,7,7,7,7,7,7,7,7,7,7,7,7,7,7,7,7,7,7,7,7,7,7,7,8,8,8,8,8,8,8,8,8,8,8,8,8,8,8,8,8,8,8,8,8,8,8,8,8,8,8,8,8,8,8,8,8,8,8,8,8,8,8,8,8,8,8,8,8,8,8,8,8,8,8,8,8,8,8,8,8,8,8,8,8,8,8,8,8,8,8,8,8,8,8,8,8,8,8,8,8,8,8,8,8,8,8,8,8,8,8,8,8,8,8,8,8,8,8,8,8,8,8,8,8,8,8,8,8,8,8,8,8,8,8,8,8,8,8,8,8,8,8,8,8,8,8,8,8,8,8,8]) (zW zU (Int.fdiv a (2^min ((16:Int)).toNat 64))).toNat)))) else bif 256<=a then zf (zW zU (Int.fdiv a (2^min ((8:Int)).toNat 64))) (bs [0,1,2,2,3,3,3,3,4,4,4,4,4,4,4,4,5,5,5,5,5,5,5,5,5,5,5,5,5,5,5,5,6,6,6,6,6,6,6,6,6,6,6,6,6,6,6,6,6,6,6,6,6,6,6,6,6,6,6,6,6,6,6,6,7,7,7,7,7,7,7,7,7,7,7,7,7,7,7,7,7,7,7,7,7,7,7,7,7,7,7,7,7,7,7,7,7,7,7,7,7,7,7,7,7,7,7,7,7,7,7,7,7,7,7,7,7,7,7,7,7,7,7,7,7,7,7,7,8,8,8,8,8,8,8,8,8,8,8,8,8,8,8,8,8,8,8,8,8,8,8,8,8,8,8,8,8,8,8,8,8,8,8,8,8,8,8,8,8,8,8,8,8,8,8,8,8,8,8,8,8,8,8,8,8,8,8,8,8,8,8,8,8,8,8,8,8,8,8,8,8,8,8,8,8,8,8,8,8,8,8,8,8,8,8,8,8,8,8,8,8,8,8,8,8,8,8,8,8,8,8,8,8,8,8,8,8,8,8,8,8,8,8,8,8,8,8,8,8,8,8,8,8,8,8,8]).size (b (zW zI (zW zI (0+8)+zW zI (hJ (bs [0,1,2,2,3,3,3,3,4,4,4,4,4,4,4,4,5,5,5,5,5,5,5,5,5,5,5,5,5,5,5,5,6,6,6,6,6,6,6,6,6,6,6,6,6,6,6,6,6,6,6,6,6,6,6,6,6,6,6,6,6,6,6,6,7,7,7,7,7,7,7,7,7,7,7,7,7,7,7,7,7,7,7,7,7,7,7,7,7,7,7,7,7,7,7,7,7,7,7,7,7,7,7,7,7,7,7,7,7,7,7,7,7,7,7,7,7,7,7,7,7,7,7,7,7,7,7,7,8,8,8,8,8,8,8,8,8,8,8,8,8,8,8,8,8,8,8,8,8,8,8,8,8,8,8,8,8,8,8,8,8,8,8,8,8,8,8,8,8,8,8,8,8,8,8,8,8,8,8,8,8,8,8,8,8,8,8,8,8,8,8,8,8,8,8,8,8,8,8,8,8,8,8,8,8,8,8,8,8,8,8,8,8,8,8,8,8,8,8,8,8,8,8,8,8,8,8,8,8,8,8,8,8,8,8,8,8,8,8,8,8,8,8,8,8,8,8,8,8,8,8,8,8,8,8,8]) (zW zU (Int.fdiv a (2^min ((8:Int)).toNat 64))).toNat)))) else zf (zW zU a) (bs [0,1,2,2,3,3,3,3,4,4,4,4,4,4,4,4,5,5,5,5,5,5,5,5,5,5,5,5,5,5,5,5,6,6,6,6,6,6,6,6,6,6,6,6,6,6,6,6,6,6,6,6,6,6,6,6,6,6,6,6,6,6,6,6,7,7,7,7,7,7,7,7,7,7,7,7,7,7,7,7,7,7,7,7,7,7,7,7,7,7,7,7,7,7,7,7,7,7,7,7,7,7,7,7,7,7,7,7,7,7,7,7,7,7,7,7,7,7,7,7,7,7,7,7,7,7,7,7,8,8,8,8,8,8,8,8,8,8,8,8,8,8,8,8,8,8,8,8,8,8,8,8,8,8,8,8,8,8,8,8,8,8,8,8,8,8,8,8,8,8,8,8,8,8,8,8,8,8,8,8,8,8,8,8,8,8,8,8,8,8,8,8,8,8,8,8,8,8,8,8,8,8,8,8,8,8,8,8,8,8,8,8,8,8,8,8,8,8,8,8,8,8,8,8,8,8,8,8,8,8,8,8,8,8,8,8,8,8,8,8,8,8,8,8,8,8,8,8,8,8,8,8,8,8,8,8]).size (b (zW zI (0+zW zI (hJ (bs [0,1,2,2,3,3,3,3,4,4,4,4,4,4,4,4,5,5,5,5,5,5,5,5,5,5,5,5,5,5,5,5,6,6,6,6,6,6,6,6,6,6,6,6,6,6,6,6,6,6,6,6,6,6,6,6,6,6,6,6,6,6,6,6,7,7,7,7,7,7,7,7,7,7,7,7,7,7,7,7,7,7,7,7,7,7,7,7,7,7,7,7,7,7,7,7,7,7,7,7,7,7,7,7,7,7,7,7,7,7,7,7,7,7,7,7,7,7,7,7,7,7,7,7,7,7,7,7,8,8,8,8,8,8,8,8,8,8,8,8,8,8,8,8,8,8,8,8,8,8,8,8,8,8,8,8,8,8,8,8,8,8,8,8,8,8,8,8,8,8,8,8,8,8,8,8,8,8,8,8,8,8,8,8,8,8,8,8,8,8,8,8,8,8,8,8,8,8,8,8,8,8,8,8,8,8,8,8,8,8,8,8,8,8,8,8,8,8,8,8,8,8,8,8,8,8,8,8,8,8,8,8,8,8,8,8,8,8,8,8,8,8,8,8,8,8,8,8,8,8,8,8,8,8,8,8]) (zW zU a).toNat))))
def jV(a:Int):Option Int:=
 rh a (fun a0=>some a0)
def rf{R:Type}(a:Int)(b:Int->Option R):Option R:=
 (jV a).bind fun r1=>b (zW zI (64-r1))
def gm(a:Int):Option Int:=
 rf a (fun a0=>some a0)
def ri{R:Type}(a:Int)(b:Int->Option R):Option R:=
 b (ae .and .i64 (zW zI (IntKind.u64.wrap (IntKind.u64.wrap (IntKind.u64.wrap (ae .and .u64 (IntKind.u64.wrap (Int.fdiv (IntKind.u64.wrap (ae .and .u64 (Int.fdiv (IntKind.u64.wrap (ae .and .u64 (Int.fdiv a (2^min ((1:Int)).toNat 64)) 6148914691236517205+ae .and .u64 a 6148914691236517205)) (2^min ((2:Int)).toNat 64)) 3689348814741910323+ae .and .u64 (IntKind.u64.wrap (ae .and .u64 (Int.fdiv a (2^min ((1:Int)).toNat 64)) 6148914691236517205+ae .and .u64 a 6148914691236517205)) 3689348814741910323)) (2^min ((4:Int)).toNat 64)+IntKind.u64.wrap (ae .and .u64 (Int.fdiv (IntKind.u64.wrap (ae .and .u64 (Int.fdiv a (2^min ((1:Int)).toNat 64)) 6148914691236517205+ae .and .u64 a 6148914691236517205)) (2^min ((2:Int)).toNat 64)) 3689348814741910323+ae .and .u64 (IntKind.u64.wrap (ae .and .u64 (Int.fdiv a (2^min ((1:Int)).toNat 64)) 6148914691236517205+ae .and .u64 a 6148914691236517205)) 3689348814741910323))) 1085102592571150095+Int.fdiv (ae .and .u64 (IntKind.u64.wrap (Int.fdiv (IntKind.u64.wrap (ae .and .u64 (Int.fdiv (IntKind.u64.wrap (ae .and .u64 (Int.fdiv a (2^min ((1:Int)).toNat 64)) 6148914691236517205+ae .and .u64 a 6148914691236517205)) (2^min ((2:Int)).toNat 64)) 3689348814741910323+ae .and .u64 (IntKind.u64.wrap (ae .and .u64 (Int.fdiv a (2^min ((1:Int)).toNat 64)) 6148914691236517205+ae .and .u64 a 6148914691236517205)) 3689348814741910323)) (2^min ((4:Int)).toNat 64)+IntKind.u64.wrap (ae .and .u64 (Int.fdiv (IntKind.u64.wrap (ae .and .u64 (Int.fdiv a (2^min ((1:Int)).toNat 64)) 6148914691236517205+ae .and .u64 a 6148914691236517205)) (2^min ((2:Int)).toNat 64)) 3689348814741910323+ae .and .u64 (IntKind.u64.wrap (ae .and .u64 (Int.fdiv a (2^min ((1:Int)).toNat 64)) 6148914691236517205+ae .and .u64 a 6148914691236517205)) 3689348814741910323))) 1085102592571150095) (2^min ((8:Int)).toNat 64))+Int.fdiv (IntKind.u64.wrap (ae .and .u64 (IntKind.u64.wrap (Int.fdiv (IntKind.u64.wrap (ae .and .u64 (Int.fdiv (IntKind.u64.wrap (ae .and .u64 (Int.fdiv a (2^min ((1:Int)).toNat 64)) 6148914691236517205+ae .and .u64 a 6148914691236517205)) (2^min ((2:Int)).toNat 64)) 3689348814741910323+ae .and .u64 (IntKind.u64.wrap (ae .and .u64 (Int.fdiv a (2^min ((1:Int)).toNat 64)) 6148914691236517205+ae .and .u64 a 6148914691236517205)) 3689348814741910323)) (2^min ((4:Int)).toNat 64)+IntKind.u64.wrap (ae .and .u64 (Int.fdiv (IntKind.u64.wrap (ae .and .u64 (Int.fdiv a (2^min ((1:Int)).toNat 64)) 6148914691236517205+ae .and .u64 a 6148914691236517205)) (2^min ((2:Int)).toNat 64)) 3689348814741910323+ae .and .u64 (IntKind.u64.wrap (ae .and .u64 (Int.fdiv a (2^min ((1:Int)).toNat 64)) 6148914691236517205+ae .and .u64 a 6148914691236517205)) 3689348814741910323))) 1085102592571150095+Int.fdiv (ae .and .u64 (IntKind.u64.wrap (Int.fdiv (IntKind.u64.wrap (ae .and .u64 (Int.fdiv (IntKind.u64.wrap (ae .and .u64 (Int.fdiv a (2^min ((1:Int)).toNat 64)) 6148914691236517205+ae .and .u64 a 6148914691236517205)) (2^min ((2:Int)).toNat 64)) 3689348814741910323+ae .and .u64 (IntKind.u64.wrap (ae .and .u64 (Int.fdiv a (2^min ((1:Int)).toNat 64)) 6148914691236517205+ae .and .u64 a 6148914691236517205)) 3689348814741910323)) (2^min ((4:Int)).toNat 64)+IntKind.u64.wrap (ae .and .u64 (Int.fdiv (IntKind.u64.wrap (ae .and .u64 (Int.fdiv a (2^min ((1:Int)).toNat 64)) 6148914691236517205+ae .and .u64 a 6148914691236517205)) (2^min ((2:Int)).toNat 64)) 3689348814741910323+ae .and .u64 (IntKind.u64.wrap (ae .and .u64 (Int.fdiv a (2^min ((1:Int)).toNat 64)) 6148914691236517205+ae .and .u64 a 6148914691236517205)) 3689348814741910323))) 1085102592571150095) (2^min ((8:Int)).toNat 64))) (2^min ((16:Int)).toNat 64))+Int.fdiv (IntKind.u64.wrap (IntKind.u64.wrap (ae .and .u64 (IntKind.u64.wrap (Int.fdiv (IntKind.u64.wrap (ae .and .u64 (Int.fdiv (IntKind.u64.wrap (ae .and .u64 (Int.fdiv a (2^min ((1:Int)).toNat 64)) 6148914691236517205+ae .and .u64 a 6148914691236517205)) (2^min ((2:Int)).toNat 64)) 3689348814741910323+ae .and .u64 (IntKind.u64.wrap (ae .and .u64 (Int.fdiv a (2^min ((1:Int)).toNat 64)) 6148914691236517205+ae .and .u64 a 6148914691236517205)) 3689348814741910323)) (2^min ((4:Int)).toNat 64)+IntKind.u64.wrap (ae .and .u64 (Int.fdiv (IntKind.u64.wrap (ae .and .u64 (Int.fdiv a (2^min ((1:Int)).toNat 64)) 6148914691236517205+ae .and .u64 a 6148914691236517205)) (2^min ((2:Int)).toNat 64)) 3689348814741910323+ae .and .u64 (IntKind.u64.wrap (ae .and .u64 (Int.fdiv a (2^min ((1:Int)).toNat 64)) 6148914691236517205+ae .and .u64 a 6148914691236517205)) 3689348814741910323))) 1085102592571150095+Int.fdiv (ae .and .u64 (IntKind.u64.wrap (Int.fdiv (IntKind.u64.wrap (ae .and .u64 (Int.fdiv (IntKind.u64.wrap (ae .and .u64 (Int.fdiv a (2^min ((1:Int)).toNat 64)) 6148914691236517205+ae .and .u64 a 6148914691236517205)) (2^min ((2:Int)).toNat 64)) 3689348814741910323+ae .and .u64 (IntKind.u64.wrap (ae .and .u64 (Int.fdiv a (2^min ((1:Int)).toNat 64)) 6148914691236517205+ae .and .u64 a 6148914691236517205)) 3689348814741910323)) (2^min ((4:Int)).toNat 64)+IntKind.u64.wrap (ae .and .u64 (Int.fdiv (IntKind.u64.wrap (ae .and .u64 (Int.fdiv a (2^min ((1:Int)).toNat 64)) 6148914691236517205+ae .and .u64 a 6148914691236517205)) (2^min ((2:Int)).toNat 64)) 3689348814741910323+ae .and .u64 (IntKind.u64.wrap (ae .and .u64 (Int.fdiv a (2^min ((1:Int)).toNat 64)) 6148914691236517205+ae .and .u64 a 6148914691236517205)) 3689348814741910323))) 1085102592571150095) (2^min ((8:Int)).toNat 64))+Int.fdiv (IntKind.u64.wrap (ae .and .u64 (IntKind.u64.wrap (Int.fdiv (IntKind.u64.wrap (ae .and .u64 (Int.fdiv (IntKind.u64.wrap (ae .and .u64 (Int.fdiv a (2^min ((1:Int)).toNat 64)) 6148914691236517205+ae .and .u64 a 6148914691236517205)) (2^min ((2:Int)).toNat 64)) 3689348814741910323+ae .and .u64 (IntKind.u64.wrap (ae .and .u64 (Int.fdiv a (2^min ((1:Int)).toNat 64)) 6148914691236517205+ae .and .u64 a 6148914691236517205)) 3689348814741910323)) (2^min ((4:Int)).toNat 64)+IntKind.u64.wrap (ae .and .u64 (Int.fdiv (IntKind.u64.wrap (ae .and .u64 (Int.fdiv a (2^min ((1:Int)).toNat 64)) 6148914691236517205+ae .and .u64 a 6148914691236517205)) (2^min ((2:Int)).toNat 64)) 3689348814741910323+ae .and .u64 (IntKind.u64.wrap (ae .and .u64 (Int.fdiv a (2^min ((1:Int)).toNat 64)) 6148914691236517205+ae .and .u64 a 6148914691236517205)) 3689348814741910323))) 1085102592571150095+Int.fdiv (ae .and .u64 (IntKind.u64.wrap (Int.fdiv (IntKind.u64.wrap (ae .and .u64 (Int.fdiv (IntKind.u64.wrap (ae .and .u64 (Int.fdiv a (2^min ((1:Int)).toNat 64)) 6148914691236517205+ae .and .u64 a 6148914691236517205)) (2^min ((2:Int)).toNat 64)) 3689348814741910323+ae .and .u64 (IntKind.u64.wrap (ae .and .u64 (Int.fdiv a (2^min ((1:Int)).toNat 64)) 6148914691236517205+ae .and .u64 a 6148914691236517205)) 3689348814741910323)) (2^min ((4:Int)).toNat 64)+IntKind.u64.wrap (ae .and .u64 (Int.fdiv (IntKind.u64.wrap (ae .and .u64 (Int.fdiv a (2^min ((1:Int)).toNat 64)) 6148914691236517205+ae .and .u64 a 6148914691236517205)) (2^min ((2:Int)).toNat 64)) 3689348814741910323+ae .and .u64 (IntKind.u64.wrap (ae .and .u64 (Int.fdiv a (2^min ((1:Int)).toNat 64)) 6148914691236517205+ae .and .u64 a 6148914691236517205)) 3689348814741910323))) 1085102592571150095) (2^min ((8:Int)).toNat 64))) (2^min ((16:Int)).toNat 64))) (2^min ((32:Int)).toNat 64)))) 127)
def iw(a:Int):Option Int:=
 ri a (fun a0=>some a0)
def oe{R:Type}(a:Int)(b:bd->Option R):Option R:=
 bif a<1 then b (0,0,()) else bif 128<a then b (0,0,()) else bif a<=64 then bif zW zI (64-a)<0 then none else b (IntKind.u64.wrap (1*2^min (zW zI (64-a)).toNat 64),0,()) else bif zW zI (128-a)<0 then none else b (0,IntKind.u64.wrap (1*2^min (zW zI (128-a)).toNat 64),())
def jW(a:Int):Option bd:=
 oe a (fun a0=>some a0)
def oc{R:Type}(a b:bd)(c:bd->Option R):Option R:=
 c (ae .or .u64 a.1 b.1,ae .or .u64 a.2.1 b.2.1,())
def lp(a b:bd):Option bd:=
 oc a b (fun a0=>some a0)
def od{R:Type}(a:bd)(b:Int)(c:bd->Option R):Option R:=
 (jW b).bind fun r1=>(lp a r1).bind fun r2=>c r2
def kE(a:bd)(b:Int):Option bd:=
 od a b (fun a0=>some a0)
def oa{R:Type}(a:(List Int))(b:(List Int)->Int->Int->bd->bd->Option R):Option R:=
 b a ((List.length a):Int) 0 (0,0,()) (0,0,())
def mY{R:Type}(a:(List Int))(b c:Int)(d e:bd)(f:(List Int)->Int->Int->bd->bd->Option R)(g:bd->bd->Option R):Option R:=
 bif c<b then zf c (List.length a) ((kE e (List.getD a c.toNat (0:Int))).bind fun r1=>f a b (zW zI (c+1)) d r1) else g d e
def ob{R:Type}(a b:bd)(c:bd->Option R):Option R:=
 c b
def jO:Nat->(List Int)->Int->Int->bd->bd->Option (bd×bd)
 |0,_,_,_,_,_=>none
 |k+1,v0,v1,v2,v3,v4=>mY v0 v1 v2 v3 v4 (fun a0 a1 a2 a3 a4=>jO k a0 a1 a2 a3 a4) (fun a0 a1=>some (a0,a1))
def gn(a:(List Int)):Option bd:=
 oa a (fun a0 a1 a2 a3 a4=>(jO bF a0 a1 a2 a3 a4).bind fun e=>ob e.1 e.2 (fun a0=>some a0))
def rF{R:Type}(a:bd)(b:Int->Int->Option R):Option R:=
 b a.1 a.2.1
def oH(a:bd):Option (Int×Int):=
 rF a (fun a0 a1=>some (a0,a1))
def rI{R:Type}(a:bd)(b:Int)(c:Int->Option R):Option R:=
 bif(if b<0 then 0 else b)<64 then bif(if b<0 then 0 else b)<0 then none else bif !decide (IntKind.u64.wrap (a.1*2^min (if b<0 then 0 else b).toNat 64)=0) then(gm (IntKind.u64.wrap (a.1*2^min (if b<0 then 0 else b).toNat 64))).bind fun r1=>c (zW zI (zW zI ((if b<0 then 0 else b)+r1)+1)) else bif(if 64<zW zI (64-64) then 64 else zW zI (64-64))<0 then none else bif !decide (IntKind.u64.wrap (a.2.1*2^min (if 64<zW zI (64-64) then 64 else zW zI (64-(64:Int))).toNat 64)=0) then(gm (IntKind.u64.wrap (a.2.1*2^min (if 64<zW zI (64-64) then 64 else zW zI (64-(64:Int))).toNat 64))).bind fun r2=>c (zW zI (zW zI (64+r2)+1)) else c 0 else bif(if 64<zW zI ((if b<0 then 0 else b)-64) then 64 else zW zI ((if b<0 then 0 else b)-64))<0 then none else bif !decide (IntKind.u64.wrap (a.2.1*2^min (if 64<zW zI ((if b<0 then 0 else b)-64) then 64 else zW zI ((if b<0 then 0 else b)-(64:Int))).toNat 64)=0) then(gm (IntKind.u64.wrap (a.2.1*2^min (if 64<zW zI ((if b<0 then 0 else b)-64) then 64 else zW zI ((if b<0 then 0 else b)-(64:Int))).toNat 64))).bind fun r3=>c (zW zI (zW zI ((if b<0 then 0 else b)+r3)+1)) else c 0
def nb(a:bd)(b:Int):Option Int:=
 rI a b (fun a0=>some a0)
def rE{R:Type}(a b:bd)(c:bd->Option R):Option R:=
 c (ae .and .u64 a.1 b.1,ae .and .u64 a.2.1 b.2.1,())
def oG(a b:bd):Option bd:=
 rE a b (fun a0=>some a0)
def rG{R:Type}(a:bd)(b:Int)(c:Bool->Option R):Option R:=
 (jW b).bind fun r1=>(oG a r1).bind fun r2=>c (!(decide (r2.1=0)&&(decide (r2.2.1=0)&&true)))
def na(a:bd)(b:Int):Option Bool:=
 rG a b (fun a0=>some a0)
def rH{R:Type}(a:bd)(b:Int->Option R):Option R:=
 (iw a.1).bind fun r1=>(iw a.2.1).bind fun r2=>b (zW zI (r1+r2))
def oI(a:bd):Option Int:=
 rH a (fun a0=>some a0)
def rJ{R:Type}(a:bd)(b:Int)(c:bd->Option R):Option R:=
 (jW b).bind fun r1=>c (ae .andNot .u64 a.1 r1.1,ae .andNot .u64 a.2.1 r1.2.1,())
def oJ(a:bd)(b:Int):Option bd:=
 rJ a b (fun a0=>some a0)
def oq{R:Type}(a:(List Int))(b:Int)(c:(List Int)->Int->Int->Option R):Option R:=
 c a b 0
def m4{R:Type}(a:(List Int))(b c:Int)(d:Bool->Option R)(e:(List Int)->Int->Int->Option R)(f:Option R):Option R:=
 bif c<((List.length a):Int) then zf c (List.length a) (bif List.getD a c.toNat 0=b then d true else e a b (zW zI (c+1))) else f
def rN{R:Type}(a:Bool)(b:Bool->Option R):Option R:=
 b a
def rO{R:Type}(a:Bool->Option R):Option R:=
 a false
def kB:Nat->(List Int)->Int->Int->Option (Sum Bool Unit)
 |0,_,_,_=>none
 |k+1,v0,v1,v2=>m4 v0 v1 v2 (fun a0=>some (.inl a0)) (fun a0 a1 a2=>kB k a0 a1 a2) (some (.inr ()))
def kG(a:(List Int))(b:Int):Option Bool:=
 oq a b (fun a0 a1 a2=>(kB bF a0 a1 a2).bind fun e=>Sum.elim (fun(we:Bool)=>rN we (fun a0=>some a0)) (fun(we:Unit)=>rO (fun a0=>some a0)) e)
def om{R:Type}(a:(List Int))(b:(List Int)->Int->Int->Int->Option R):Option R:=
 b a 0 0 1
def m3{R:Type}(a:(List Int))(b c d:Int)(e:(List Int)->Int->Int->Int->Option R)(f:Int->Int->Option R):Option R:=
 bif d<=128 then bif d<=64 then(kG a d).bind fun r1=>bif r1 then e a (IntKind.u64.wrap (IntKind.u64.wrap (b*2)+1)) c (zW zI (d+1)) else e a (IntKind.u64.wrap (b*2)) c (zW zI (d+1)) else(kG a d).bind fun r2=>bif r2 then e a b (IntKind.u64.wrap (IntKind.u64.wrap (c*2)+1)) (zW zI (d+1)) else e a b (IntKind.u64.wrap (c*2)) (zW zI (d+1)) else f b c
def rL{R:Type}(a b:Int)(c:Int->Int->Option R):Option R:=
 c a b
def jP:Nat->(List Int)->Int->Int->Int->Option (Int×Int)
 |0,_,_,_,_=>none
 |k+1,v0,v1,v2,v3=>m3 v0 v1 v2 v3 (fun a0 a1 a2 a3=>jP k a0 a1 a2 a3) (fun a0 a1=>some (a0,a1))
def kF(a:(List Int)):Option (Int×Int):=
 om a (fun a0 a1 a2 a3=>(jP bF a0 a1 a2 a3).bind fun e=>rL e.1 e.2 (fun a0 a1=>some (a0,a1)))
def rK{R:Type}(a:Bool->Option R):Option R:=
 (gn ([1,64]:List Int)).bind fun r1=>(oH r1).bind fun r2=>(gn ([3,65]:List Int)).bind fun r3=>bif r2.1=9223372036854775809 then bif r2.2=0 then(nb r3 (3:Int)).bind fun r4=>bif r4=65 then(nb r3 (65:Int)).bind fun r5=>bif r5=0 then(gn ([0,129]:List Int)).bind fun r6=>bif decide (r6.1=0)&&(decide (r6.2.1=0)&&true) then(na r3 (65:Int)).bind fun r7=>bif r7 then(na r3 (4:Int)).bind fun r8=>bif !r8 then(oI r3).bind fun r9=>bif r9=2 then(oJ r3 (3:Int)).bind fun jD=>(gn ([65]:List Int)).bind fun mA=>a (decide (jD.1=mA.1)&&(decide (jD.2.1=mA.2.1)&&true)) else a false else a false else a false else a false else a false else a false else a false else a false
def jX:Option Bool:=
 rK (fun a0=>some a0)
def oh{R:Type}(a b:(List Int))(c:Bool->Option R)(d:(List Int)->(List Int)->Int->bd->bd->Option R):Option R:=
 jX.bind fun r1=>bif !r1 then jX.bind fun r2=>c r2 else bif 200<((List.length a):Int) then jX.bind fun r3=>c r3 else bif 200<((List.length b):Int) then jX.bind fun r4=>c r4 else bif(List.length ([]:List Int)+List.length a)*8<=140737488355328 then(gn ([]++a)).bind fun r5=>(gn []).bind fun r6=>d a b (zW zI (((List.length a):Int)-1)) r5 r6 else none
def mZ{R:Type}(a b:(List Int))(c:Int)(d e:bd)(f:(List Int)->(List Int)->Int->bd->bd->Option R)(g:(List Int)->(List Int)->bd->bd->Option R):Option R:=
 bif 0<=c then zf c (List.length a) ((kE e (List.getD a c.toNat (0:Int))).bind fun r7=>f a b (zW zI (c-1)) d r7) else g a b d e
def oi{R:Type}(a b:(List Int))(c d:bd)(e:Bool->Option R):Option R:=
 bif(List.length ([]:List Int)+List.length b)*8<=140737488355328 then(gn (([]:List Int)++b)).bind fun r8=>(kF a).bind fun r9=>(kF b).bind fun jD=>bif dh (dR (.pair (.int .u64) (.pair (.int .u64) .unit))) ([]:List (bd×Int)) c then none else bif decide (c.1=d.1)&&(decide (c.2.1=d.2.1)&&true) then bif cJ (dR (.pair (.int .u64) (.pair (.int .u64) .unit))) (0:Int) (([]:List (bd×Int))++ [(c,(1:Int))]) d=(1:Int) then bif r9.1=jD.1 then e ((decide (cJ (dR (.pair (.int .u64) (.pair (.int .u64) .unit))) (0:Int) (([]:List (bd×Int))++ [(c,(1:Int))]) r8=(1:Int)))==(decide (r9.2=jD.2))) else e ((decide (cJ (dR (.pair (.int .u64) (.pair (.int .u64) .unit))) (0:Int) (([]:List (bd×Int))++ [(c,(1:Int))]) r8=(1:Int)))==false) else e false else e false else none
def kA:Nat->(List Int)->(List Int)->Int->bd->bd->Option ((List Int)×(List Int)×bd×bd)
 |0,_,_,_,_,_=>none
 |k+1,v0,v1,v2,v3,v4=>mZ v0 v1 v2 v3 v4 (fun a0 a1 a2 a3 a4=>kA k a0 a1 a2 a3 a4) (fun a0 a1 a2 a3=>some (a0,a1,a2,a3))
def lC(a b:(List Int)):Option Bool:=
 oh a b (fun a0=>some a0) (fun a0 a1 a2 a3 a4=>(kA bF a0 a1 a2 a3 a4).bind fun e=>oi e.1 e.2.1 e.2.2.1 e.2.2.2 (fun a0=>some a0))
end bH

namespace bH
open Go.IntKind renaming wrap->zW,i64->zI,u8->zU
theorem zT{p:Prop}[Decidable p](h:p):decide p=true:=_root_.decide_eq_true h
theorem zF{p:Prop}[Decidable p](h:¬p):decide p=false:=_root_.decide_eq_false h
theorem zC{α:Type}{a b:α}:(bif true then a else b)=a:=rfl
theorem zD{α:Type}{a b:α}:(bif false then a else b)=b:=rfl
open Go Go.Ref
theorem n3:bF=18446744073709551616:=by unfold bF;rfl
theorem z53:maxLen=9223372036854775807:=rfl
theorem ox{x:Int}(h1: -9223372036854775808<=x)(h2:x<=9223372036854775807):zW zI x=x:=vF h1 h2
theorem qW{j:Nat}(h:j<9223372036854775807):zW zI ((j:Int)+1)=((j+1:Nat):Int):=by
 rw[vF (by omega) (by omega)];rfl
theorem Ba(x:Int):IntKind.u64.wrap x=x % 18446744073709551616:=by
 simp [IntKind.wrap,IntKind.signed,IntKind.bits]
theorem rT{x:Int}(h1:0<=x)(h2:x<18446744073709551616):IntKind.u64.wrap x=x:=by rw[Ba];omega
theorem qg{R:Type}{j n:Nat}{x:Option R}(h:j<n):zf (j:Int) n x=x:=zB h
def bl(s:ByteArray):List Int:=s.data.toList.map fun b=>(b.toNat:Int)
section
variable {α σ ρ:Type}
end
end bH
namespace bH
open Go.IntKind renaming wrap->zW,i64->zI,u8->zU
open Go Go.Ref
section
variable {α σ ρ:Type}
end
end bH

namespace bH
open Go.IntKind renaming wrap->zW,i64->zI,u8->zU
open Go Go.Ref
theorem tS(n a:Nat)(h:a<2^n):(BitVec.ofInt n (a:Int)).toNat=a:=by
 rw[BitVec.toNat_ofInt]
 have h2:((a:Int)% ((2^n:Nat):Int))=((a % 2^n:Nat):Int):=by rfl
 rw[h2,Int.toNat_natCast,Nat.mod_eq_of_lt h]
theorem vu{a:Nat}(h:a<18446744073709551616):IntKind.u64.wrap (a:Int)=a:=rT (by omega) (by omega)
theorem mu{a b:Nat}(ha:a<18446744073709551616)(hb:b<18446744073709551616):ae .or .u64 a b=((a|||b:Nat):Int):=by
 simp only[ae,BitVec.toNat_or,tS IntKind.u64.bits a ha,tS IntKind.u64.bits b hb]
 exact vu (Nat.or_lt_two_pow (n:=64) ha hb)
section
variable {c0 c1 c2 c3 c4 c5 c6 c7:Nat}
end
end bH

namespace bH
open Go.IntKind renaming wrap->zW,i64->zI,u8->zU
open Go Go.Ref
abbrev lm:=Int×Int×Unit
abbrev dc:Nat:=18446744073709551616
def bX(h l:Nat)(n:Int):Bool:=
 if 1<=n/\n<=64 then h.testBit (64-n).toNat else if 65<=n/\n<=128 then l.testBit (128-n).toNat else false
def cR(n:Int):Nat:=if 1<=n/\n<=64 then 2^(64-n).toNat else 0
def cS(n:Int):Nat:=if 65<=n/\n<=128 then 2^(128-n).toNat else 0
theorem q5{k:Nat}(h:k<64):2^k<dc:=Nat.pow_lt_pow_right (by decide) h
theorem nX(n:Int):cR n<dc:=by
 unfold cR;split
 ·exact q5 (by omega)
 ·decide
theorem nY(n:Int):cS n<dc:=by
 unfold cS;split
 ·exact q5 (by omega)
 ·decide
theorem vp{k:Nat}(h:k<64):IntKind.u64.wrap ((1:Int)*2^min k 64)=((2^k:Nat):Int):=by
 rw[Nat.min_eq_left (by omega),Int.one_mul]
 have:=q5 h
 have e:((2:Int)^k)=((2^k:Nat):Int):=by simp
 rw[e]
 exact vu this
theorem Bk(n:Int):jW n=some ((cR n:Int),(cS n:Int),()):=by
 unfold jW oe cR cS
 by_cases h1:n<1
 ·rw[zT h1,if_neg (by omega),if_neg (by omega)];rfl
 rw[zF h1,zD]
 by_cases h2:128<n
 ·rw[zT h2,if_neg (by omega),if_neg (by omega)];rfl
 rw[zF h2,zD]
 by_cases h3:n<=64
 ·rw[zT h3,zC,ox (by omega) (by omega),zF (by omega),zD,vp (by omega),if_pos (by omega),if_neg (by omega)];rfl
 ·rw[zF h3,zD,ox (by omega) (by omega),zF (by omega),zD,vp (by omega),if_neg (by omega),if_pos (by omega)];rfl
theorem yh(h l h' l':Nat)(hh:h<dc)(hl:l<dc)(lS:h'<dc)(pu:l'<dc):lp ((h:Int),(l:Int),()) ((h':Int),(l':Int),())=some (((h|||h':Nat):Int),((l|||l':Nat):Int),()):=by
 unfold lp oc
 rw[mu hh lS,mu hl pu]
theorem vd(h l:Nat)(hh:h<dc)(hl:l<dc)(n:Int):kE ((h:Int),(l:Int),()) n=some (((h|||cR n:Nat):Int),((l|||cS n:Nat):Int),()):=by
 unfold kE od
 rw[Bk,zs,yh h l _ _ hh hl (nX n) (nY n)];rfl
theorem eU{a b:Nat}(ha:a<dc)(hb:b<dc):a|||b<dc:=Nat.or_lt_two_pow (n:=64) ha hb
theorem Bm(h l h' l':Nat)(n:Int):bX (h|||h') (l|||l') n=(bX h l n||bX h' l' n):=by
 unfold bX;split
 ·rw[Nat.testBit_or]
 ·split
  ·rw[Nat.testBit_or]
  ·rfl
def jy(n:Int):Bool:=decide (1<=n/\n<=128)
theorem A4(m n:Int):bX (cR m) (cS m) n=(decide (m=n)&&jy n):=by
 unfold bX cR cS jy
 by_cases h1:1<=n/\n<=64
 ·rw[if_pos h1]
  by_cases h2:1<=m/\m<=64
  ·rw[if_pos h2,Nat.testBit_two_pow,zT (p:=1<=n/\n<=128) (by omega),Bool.and_true]
   exact decide_eq_decide.2 (by omega)
  ·rw[if_neg h2,zF (by omega:¬m=n)];simp
 ·rw[if_neg h1]
  by_cases h3:65<=n/\n<=128
  ·rw[if_pos h3]
   by_cases h2:65<=m/\m<=128
   ·rw[if_pos h2,Nat.testBit_two_pow,zT (p:=1<=n/\n<=128) (by omega),Bool.and_true]
    exact decide_eq_decide.2 (by omega)
   ·rw[if_neg h2,zF (by omega:¬m=n)];simp
  ·rw[if_neg h3,zF (p:=1<=n/\n<=128) (by omega),Bool.and_false]
theorem Am(h l:Nat)(m n:Int):bX (h|||cR m) (l|||cS m) n=(bX h l n||(decide (m=n)&&jy n)):=by rw[Bm,A4]
theorem vm{h l h' l':Nat}(hh:h<dc)(hl:l<dc)(lS:h'<dc)(pu:l'<dc)(e:∀n:Int,1<=n->n<=128->bX h l n=bX h' l' n):h=h'/\l=l':=by
 constructor
 ·apply Nat.eq_of_testBit_eq
  intro i
  by_cases hi:i<64
  ·have:=e (64-i) (by omega) (by omega)
   unfold bX at this
   rw[if_pos (by omega),if_pos (by omega)] at this
   have e2:(64-(64-(i:Int))).toNat=i:=by omega
   rwa [e2] at this
  ·rw[Nat.testBit_lt_two_pow (Nat.lt_of_lt_of_le hh (Nat.pow_le_pow_right (n:=2) (by decide) (by omega:64<=i))),Nat.testBit_lt_two_pow (Nat.lt_of_lt_of_le lS (Nat.pow_le_pow_right (n:=2) (by decide) (by omega:64<=i)))]
 ·apply Nat.eq_of_testBit_eq
  intro i
  by_cases hi:i<64
  ·have:=e (128-i) (by omega) (by omega)
   unfold bX at this
   have h1:¬(1<=128-(i:Int)/\128-(i:Int)<=64):=by omega
   have h2:65<=128-(i:Int)/\128-(i:Int)<=128:=by omega
   rw[if_neg h1,if_pos h2,if_neg h1,if_pos h2] at this
   have e2:(128-(128-(i:Int))).toNat=i:=by omega
   rwa [e2] at this
  ·rw[Nat.testBit_lt_two_pow (Nat.lt_of_lt_of_le hl (Nat.pow_le_pow_right (n:=2) (by decide) (by omega:64<=i))),Nat.testBit_lt_two_pow (Nat.lt_of_lt_of_le pu (Nat.pow_le_pow_right (n:=2) (by decide) (by omega:64<=i)))]
def cD(l:List Int):Nat:=l.foldl (fun a n=>a|||cR n) 0
def cE(l:List Int):Nat:=l.foldl (fun a n=>a|||cS n) 0
theorem tL(f:Int->Nat)(hf:∀n,f n<dc)(l:List Int):∀a,a<dc->l.foldl (fun a n=>a|||f n) a<dc:=by
 induction l with
 |nil=>intro a h;exact h
 |cons x r ih=>intro a h;exact ih _ (eU h (hf x))
theorem ru(l:List Int):cD l<dc:=tL _ nX l 0 (by decide)
theorem rA(l:List Int):cE l<dc:=tL _ nY l 0 (by decide)
theorem Al(l:List Int):∀(a b:Nat) (n:Int),bX (l.foldl (fun a n=>a|||cR n) a) (l.foldl (fun a n=>a|||cS n) b) n=(bX a b n||(decide (n∈l)&&jy n)):=by
 induction l with
 |nil=>intro a b n;simp
 |cons x r ih=>
  intro a b n
  rw[List.foldl_cons,List.foldl_cons,ih,Am]
  by_cases h1:x=n
  ·subst h1;cases jy x<;>simp
  ·have:n≠x:=fun e=>h1 e.symm
   simp [h1,this]
theorem rB(l:List Int)(n:Int):bX (cD l) (cE l) n=(decide (n∈l)&&jy n):=by
 unfold cD cE
 rw[Al]
 have:bX 0 0 n=false:=by unfold bX;simp
 rw[this];simp
theorem A5(xs:List Int)(hx:xs.length<=9223372036854775807)(b0:lm):∀(n j k:Nat) (a b:Nat),j+n=xs.length->n<k->a<dc->b<dc->
 jO k xs (xs.length:Int) j b0 ((a:Int),(b:Int),())=some (b0,((((xs.drop j).foldl (fun a n=>a|||cR n) a:Nat):Int),(((xs.drop j).foldl (fun a n=>a|||cS n) b:Nat):Int),())):=by
 intro n
 induction n with
 |zero=>
  intro j k a b hj hk ha hb
  obtain⟨k,rfl⟩:∃k',k=k'+1:=⟨k-1,by omega⟩
  rw[jO,mY,zF (by omega),List.drop_eq_nil_of_le (by omega)];rfl
 |succ n ih=>
  intro j k a b hj hk ha hb
  obtain⟨k,rfl⟩:∃k',k=k'+1:=⟨k-1,by omega⟩
  have aw:j<xs.length:=by omega
  have ml:xs.getD ((j:Int)).toNat 0=xs[j]:=by rw[Int.toNat_natCast,List.getD_eq_getElem?_getD,List.getElem?_eq_getElem aw];rfl
  rw[jO,mY,zT (by omega),zC,qg aw,ml,vd a b ha hb,zs,qW (by omega),ih (j+1) k _ _ (by omega) (by omega) (eU ha (nX _)) (eU hb (nY _)),List.drop_eq_getElem_cons aw]
  rfl
theorem gl(xs:List Int)(hx:xs.length<=maxLen):gn xs=some ((cD xs:Int),(cE xs:Int),()):=by
 rw[z53] at hx
 unfold gn oa
 have:=A5 xs hx (0,0,()) xs.length 0 bF 0 0 (by omega) (by rw[n3];omega) (by decide) (by decide)
 simp only[ob]
 have e:jO bF xs (xs.length:Int) 0 (0,0,()) (0,0,())=_:=this
 rw[e];rfl
abbrev Fr:=Int×Bool×List Int×Unit
section
variable {α:Type} [DecidableEq α]
end
end bH

namespace bH
open Go.IntKind renaming wrap->zW,i64->zI,u8->zU
open Go Go.Ref
theorem uN{l:List Int}{j:Nat}(h:j<l.length):l.getD ((j:Int)).toNat 0=l[j]:=by
 rw[Int.toNat_natCast,List.getD_eq_getElem?_getD,List.getElem?_eq_getElem h];rfl
theorem yL(l:List Int)(n:Int)(hl:l.length<=maxLen):∀(m j k:Nat),j+m=l.length->m<k->
 kB k l n j=some (if n∈l.drop j then .inl true else .inr ()):=by
 intro m
 rw[z53] at hl
 induction m with
 |zero=>
  intro j k hj hk
  obtain⟨k,rfl⟩:∃k',k=k'+1:=⟨k-1,by omega⟩
  rw[kB,m4,zF (by omega),List.drop_eq_nil_of_le (by omega)];simp
 |succ m ih=>
  intro j k hj hk
  obtain⟨k,rfl⟩:∃k',k=k'+1:=⟨k-1,by omega⟩
  have aw:j<l.length:=by omega
  rw[kB,m4,zT (by omega),zC,qg aw,uN aw,qW (by omega),List.drop_eq_getElem_cons aw]
  by_cases h:l[j]=n
  ·rw[zT h,if_pos (by rw[h];simp)];rfl
  ·rw[zF h,zD,ih (j+1) k (by omega) (by omega)]
   have:n≠l[j]:=fun e=>h e.symm
   simp only[List.mem_cons,this,false_or]
theorem AN(l:List Int)(n:Int)(hl:l.length<=maxLen):kG l n=some (decide (n∈l)):=by
 unfold kG oq
 dsimp only
 have:=yL l n hl l.length 0 bF (by omega) (by rw[n3];rw[z53] at hl;omega)
 rw[show((0:Nat):Int)=0 from rfl,List.drop_zero] at this
 rw[this,zs]
 by_cases h:n∈l
 ·rw[if_pos h,zT h];rfl
 ·rw[if_neg h,zF h];rfl
def bh(l:List Int)(base:Nat):Nat->Nat
 |0=>0
 |m+1=>2*bh l base m+(if((base+m+1:Nat):Int)∈l then 1 else 0)
theorem tX(l:List Int)(base m:Nat):bh l base (m+1)=2*bh l base m+(if((base+m+1:Nat):Int)∈l then 1 else 0):=rfl
theorem mQ(l:List Int)(base:Nat):∀m,bh l base m<2^m
 |0=>by simp [bh]
 |m+1=>by
  have:=mQ l base m
  rw[bh,Nat.pow_succ]
  split<;>omega
theorem qJ(l:List Int)(base:Nat):∀m i,i<m->(bh l base m).testBit i=decide (((base+m-i:Nat):Int)∈l)
 |0,i,h=>absurd h (Nat.not_lt_zero i)
 |m+1,0,h=>by
  rw[bh,Nat.testBit_zero,Nat.sub_zero]
  have e:base+(m+1)=base+m+1:=by omega
  rw[e]
  by_cases hm:((base+m+1:Nat):Int)∈l
  ·rw[if_pos hm,zT hm]
   exact zT (by omega)
  ·rw[if_neg hm,zF hm]
   exact zF (by omega)
 |m+1,i+1,h=>by
  rw[bh,Nat.testBit_succ]
  have e:(2*bh l base m+(if((base+m+1:Nat):Int)∈l then 1 else 0))/2=bh l base m:=by split<;>omega
  rw[e,qJ l base m i (by omega)]
  have e2:base+(m+1)-(i+1)=base+m-i:=by omega
  rw[e2]
theorem AK(l:List Int)(n:Int):bX (bh l 0 64) (bh l 64 64) n=(decide (n∈l)&&jy n):=by
 unfold bX jy
 by_cases h1:1<=n/\n<=64
 ·rw[if_pos h1,qJ l 0 64 _ (by omega),zT (p:=1<=n/\n<=128) (by omega),Bool.and_true]
  have:((0+64-(64-n).toNat:Nat):Int)=n:=by omega
  rw[this]
 ·rw[if_neg h1]
  by_cases h2:65<=n/\n<=128
  ·rw[if_pos h2,qJ l 64 64 _ (by omega),zT (p:=1<=n/\n<=128) (by omega),Bool.and_true]
   have:((64+64-(128-n).toNat:Nat):Int)=n:=by omega
   rw[this]
  ·rw[if_neg h2,zF (p:=1<=n/\n<=128) (by omega),Bool.and_false]
theorem xn(l:List Int)(hl:l.length<=maxLen):∀(m j k:Nat),j+m=128->m<k->
 jP k l (bh l 0 (min j 64):Int) (bh l 64 (j-64):Int) ((j+1:Nat):Int)=some ((bh l 0 64:Int),(bh l 64 64:Int)):=by
 intro m
 induction m with
 |zero=>
  intro j k hj hk
  obtain⟨k,rfl⟩:∃k',k=k'+1:=⟨k-1,by omega⟩
  rw[jP,m3,zF (by omega)]
  have:j=128:=by omega
  subst this;rfl
 |succ m ih=>
  intro j k hj hk
  obtain⟨k,rfl⟩:∃k',k=k'+1:=⟨k-1,by omega⟩
  rw[jP,m3,zT (by omega),zC,qW (by omega)]
  have step:∀(v:Nat),v<2^63->IntKind.u64.wrap ((v:Int)*2)=((2*v:Nat):Int)/\IntKind.u64.wrap (((2*v:Nat):Int)+1)=((2*v+1:Nat):Int):=by
   intro v hv
   rw[rT (by omega) (by omega),rT (by omega) (by omega)]
   omega
  have ic:=ih (j+1) k (by omega) (by omega)
  rw[AN l _ hl]
  by_cases h1:((j+1:Nat):Int)<=64
  ·rw[zT h1,zC,zs]
   have e1:min j 64=j:=by omega
   have e2:min (j+1) 64=j+1:=by omega
   have e3:j+1-64=j-64:=by omega
   have aw:bh l 0 j<2^63:=Nat.lt_of_lt_of_le (mQ l 0 j) (Nat.pow_le_pow_right (by decide) (by omega))
   rw[e2,e3,tX l 0 j,Nat.zero_add] at ic
   rw[e1,(step _ aw).1]
   by_cases hm:((j+1:Nat):Int)∈l
   ·rw[zT hm,zC,(step _ aw).2]
    rw[if_pos hm] at ic;exact ic
   ·rw[zF hm,zD]
    rw[if_neg hm] at ic;exact ic
  ·rw[zF h1,zD,zs]
   have e1:min j 64=64:=by omega
   have e2:min (j+1) 64=64:=by omega
   have e3:j+1-64=(j-64)+1:=by omega
   have aw:bh l 64 (j-64)<2^63:=Nat.lt_of_lt_of_le (mQ l 64 _) (Nat.pow_le_pow_right (by decide) (by omega))
   have e4:64+(j-64)+1=j+1:=by omega
   rw[e2,e3,tX l 64 (j-64),e4] at ic
   rw[e1,(step _ aw).1]
   by_cases hm:((j+1:Nat):Int)∈l
   ·rw[zT hm,zC,(step _ aw).2]
    rw[if_pos hm] at ic;exact ic
   ·rw[zF hm,zD]
    rw[if_neg hm] at ic;exact ic
theorem va(l:List Int):bh l 0 64=cD l/\bh l 64 64=cE l:=
 vm (mQ l 0 64) (mQ l 64 64) (ru l) (rA l) (fun n _ _=>by rw[AK,rB])
theorem tm(l:List Int)(hl:l.length<=maxLen):kF l=some ((cD l:Int),(cE l:Int)):=by
 unfold kF om
 dsimp only
 have:=xn l hl 128 0 bF (by omega) (by rw[n3];omega)
 have e:jP bF l 0 0 1=_:=this
 rw[e,zs,(va l).1,(va l).2];rfl
theorem AU:jX=some true:=by kernel_rfl
theorem uk(l m:List Int)(s:lm)(hl:l.length<=200):∀(n k:Nat) (a b:Nat),n<=l.length->n<k->a<dc->b<dc->
 kA k l m ((n:Int)-1) s ((a:Int),(b:Int),())=some (l,m,s,((((l.take n).reverse.foldl (fun a n=>a|||cR n) a:Nat):Int),(((l.take n).reverse.foldl (fun a n=>a|||cS n) b:Nat):Int),()))
 |n,0,a,b,_,hk,_,_=>by omega
 |0,k+1,a,b,_,_,ha,hb=>by
  unfold kA mZ
  rw[zF (by omega)];rfl
 |n+1,k+1,a,b,hn,hk,ha,hb=>by
  have e:((n+1:Nat):Int)-1=(n:Int):=by omega
  rw[e]
  unfold kA mZ
  rw[zT (by omega),zC,qg (by omega),uN (by omega),vd a b ha hb,zs,ox (by omega) (by omega)]
  dsimp only
  rw[uk l m s hl n k _ _ (by omega) (by omega) (eU ha (nX _)) (eU hb (nY _))]
  have e2:l.take (n+1)=l.take n++ [l[n]]:=by rw[List.take_add_one,List.getElem?_eq_getElem (by omega)];rfl
  rw[e2,List.reverse_append]
  rfl
theorem vn(l:List Int):cD l.reverse=cD l/\cE l.reverse=cE l:=by
 refine vm (ru _) (rA _) (ru _) (rA _) fun n _ _=> ?_
 rw[rB,rB]
 simp
theorem dk(l m:List Int)(hl:Wf (.sl 0 (.int .i64)) l)(hm:Wf (.sl 0 (.int .i64)) m):lC l m=some true:=by
 unfold lC oh
 rw[AU,zs,Bool.not_true,zD]
 by_cases h1:(200:Int)<(List.length l:Int)
 ·rw[zT h1];rfl
 by_cases h2:(200:Int)<(List.length m:Int)
 ·rw[zF h1,zT h2];rfl
 rw[zF h1,zF h2,zD,zD,zT (by simp only[List.length_nil];omega),zC,List.nil_append,gl l (by unfold maxLen;omega),zs,gl [] (by unfold maxLen;simp),zs]
 rw[ox (by omega) (by omega)]
 have jr:=uk l m ((cD l:Int),(cE l:Int),()) (by omega) l.length bF 0 0 (Nat.le_refl _) (by rw[n3];omega) (by decide) (by decide)
 rw[List.take_length] at jr
 have e0:((cD []:Nat):Int)=((0:Nat):Int):=rfl
 have e1:((cE []:Nat):Int)=((0:Nat):Int):=rfl
 rw[e0,e1]
 dsimp only
 rw[jr,zs]
 dsimp only
 have r1:l.reverse.foldl (fun a n=>a|||cR n) 0=cD l:=(vn l).1
 have r2:l.reverse.foldl (fun a n=>a|||cS n) 0=cE l:=(vn l).2
 rw[r1,r2]
 unfold oi
 rw[zT (by simp only[List.length_nil];omega),zC,List.nil_append,gl m (by unfold maxLen;omega),zs,tm l (by unfold maxLen;omega),zs,tm m (by unfold maxLen;omega),zs]
 simp only[dh,zD,List.nil_append,cJ,dR,gv,decide_true,Bool.and_true,zC,Bool.and_self]
 by_cases g1:(cD l:Int)=(cD m:Int)
 ·by_cases g2:(cE l:Int)=(cE m:Int)
  ·rw[<-g1,<-g2];simp
  ·have g3:¬(cE m:Int)=(cE l:Int):=fun e=>g2 e.symm
   rw[<-g1];simp [g2,g3]
 ·have g3:¬(cD m:Int)=(cD l:Int):=fun e=>g1 e.symm
  simp [g1,g3]
end bH

namespace Go.Proofs.Ytjlgmoneaehejaa
noncomputable section
open Go Go.Ref bH
def kQ:List (Option Ty):=[none,none,some (.int .i64),some (.int .i64),some .bool,some (.int .u8),some (.int .u8),some (.pair (.int .i64) (.pair (.int .i64) (.pair .bool (.pair (.int .u8) .unit)))),some (.pair (.int .i64) (.pair (.int .i64) (.pair .bool (.pair (.int .u8) .unit)))),some .str,some .str,some .str,some (.int .u64),none,none,none,none,none,none,none,none,some (.int .i32),some (.sl 3 (.int .i64)),none,some (.int .u64),some (.pair (.int .u64) (.pair (.int .u64) .unit)),some (.pair (.int .u64) (.pair (.int .u64) .unit)),none,none,none,none,none,none,none,none,none,none,none,none,none,none,none,none,none,some (.aL 2 (.int .u64)),none,none,none,none,none,some (.int .u64),none,none,none,none,none,none,some (.int .u32),some (.int .u8),some (.int .u8),none,none,some (.int .i32),some (.int .i32),none,none,none]
def oT:List Nat:=[0,8,8,8,1,1,1,24,24,16,16,16,8,24,24,8,8,8,8,8,16,4,24,8,8,16,16,8,0,8,8,8,8,8,8,8,8,0,8,8,8,8,8,8,16,8,8,8,8,8,8,8,40,40,0,0,0,4,1,1,8,8,4,4,48,48,8]
def jC:List Bool:=[false,false,false,false,false,false,false,false,false,false,false,false,false,false,false,true,true,true,false,false,false,false,false,false,false,false,false,false,false,false,false,false,false,false,false,false,false,false,false,false,false,false,false,false,false,false,false,false,false,false,false,false,false,false,false,false,false,false,false,false,false,true,false,false,false,false,false]
def nC:List (TypeId×TypeId×TypeId):=[(33,26,3)]
def fI:fN:=⟨kQ,oT,jC,nC⟩
theorem rR:fI.ok Try.prog=true:=by kernel_rfl
theorem ek:∀a b c d,ag Try.prog (fI.env a b c d):=fN.fe rR
abbrev e0(ps:List Ty):Env:=fI.env (fun _=>[]) (fun _=>[]) [] ps
abbrev uS(n:Nat)(l:List (List SV)):List (List SV):=Nat.rec (motive:=fun _=>List (List SV)) l (fun _ r=>[.undef]::r) n
abbrev nS(n:Nat)(l:List (Option aI)):List (Option aI):=Nat.rec (motive:=fun _=>List (Option aI)) l (fun _ r=>none::r) n
def rV:ay:=ay.none
theorem o0:ct Try.prog rV:= .none (by kernel_rfl)
variable (R:Type) (kk k:Nat) (K:KF R) (J:KX R)
def lB:Env:=fI.env (fun _=>[]) (fun _=>[]) [2] [(.int .i64)]
def rW:ay:=rV.add 26 [(.int .i64)] (iV (.int .i64) jW (fun _ r K=>K [.al (.pair (.int .u64) (.pair (.int .u64) .unit)) r []] none))
theorem o1:ct Try.prog rW:=jF lB Try.f26 (fun R kk x0 K=>oe x0 (fun a0=>K [.al (.pair (.int .u64) (.pair (.int .u64) .unit)) a0 []] none)) o0 (ek _ _ _ _) Try.func26 (by kernel_rfl) rfl (fun _ _ _ _ _ _ h=>h _ _) (fun _ _ _ _=>by kernel_rfl) fun R kk e x0 K=>by
 simp only[jW,oe,dM]
def lq:Env:=fI.env (fun _=>[]) (fun _=>[]) [4] [(.pair (.int .u64) (.pair (.int .u64) .unit)),(.pair (.int .u64) (.pair (.int .u64) .unit))]
def rX:ay:=rW.add 24 [(.pair (.int .u64) (.pair (.int .u64) .unit)),(.pair (.int .u64) (.pair (.int .u64) .unit))] (iW (.pair (.int .u64) (.pair (.int .u64) .unit)) (.pair (.int .u64) (.pair (.int .u64) .unit)) lp (fun _ r K=>K [.al (.pair (.int .u64) (.pair (.int .u64) .unit)) r []] none))
theorem o2:ct Try.prog rX:=jG lq Try.f24 (fun R kk x0 x1 K=>oc x0 x1 (fun a0=>K [.al (.pair (.int .u64) (.pair (.int .u64) .unit)) a0 []] none)) o1 (ek _ _ _ _) Try.func24 (by kernel_rfl) rfl (fun _ _ _ _ _ _ h=>h _ _) (fun _ _ _ _ _=>by kernel_rfl) fun R kk e x0 x1 K=>by
 simp only[lp,oc,dM]
def lz:Env:=fI.env (fun _=>[]) (fun _=>[]) [4] [(.pair (.int .u64) (.pair (.int .u64) .unit)),(.int .i64)]
def nc:ay:=rX.add 12 [(.pair (.int .u64) (.pair (.int .u64) .unit)),(.int .i64)] (iW (.pair (.int .u64) (.pair (.int .u64) .unit)) (.int .i64) kE (fun _ r K=>K [.al (.pair (.int .u64) (.pair (.int .u64) .unit)) r []] none))
theorem o3:ct Try.prog nc:=jG lz Try.f12 (fun R kk x0 x1 K=>od x0 x1 (fun a0=>K [.al (.pair (.int .u64) (.pair (.int .u64) .unit)) a0 []] none)) o2 (ek _ _ _ _) Try.func12 (by kernel_rfl) rfl (fun _ _ _ _ _ _ h=>h _ _) (fun _ _ _ _ _=>by kernel_rfl) fun R kk e x0 x1 K=>by
 simp only[kE,od,dM]
def fu:Env:=fI.env (fun i=>bif Nat.beq i 3 then [2,3,6,7,8] else []) (fun i=>bif Nat.beq i 3 then [2,3] else []) [2] [(.sl 3 (.int .i64))]
def n9(a:(List Int))(b c:Int)(d e:bd):Option R:=bU (ev fu (nc R) kk (sub [1,1,0,1,0,0] (cd Try.f9))) [2,3,6,7,8] [2,3] k ⟨uS 2 ([.ptr 3 (.pair (.int .u64) (.pair (.int .u64) .unit)) []]::[.ptr 4 (.pair (.int .u64) (.pair (.int .u64) .unit)) []]::uS 2 ([.al (.sl 3 (.int .i64)) a []]::[tI b]::[tI c]::uS 8 [])),nS 3 ((some ⟨(.pair (.int .u64) (.pair (.int .u64) .unit)),d,[]⟩)::(some ⟨(.pair (.int .u64) (.pair (.int .u64) .unit)),e,[]⟩)::nS 13 [])⟩ J
def qK(a b:bd):State:=⟨uS 2 ([.ptr 3 (.pair (.int .u64) (.pair (.int .u64) .unit)) []]::[.ptr 4 (.pair (.int .u64) (.pair (.int .u64) .unit)) []]::uS 13 []),nS 3 ((some ⟨(.pair (.int .u64) (.pair (.int .u64) .unit)),a,[]⟩)::(some ⟨(.pair (.int .u64) (.pair (.int .u64) .unit)),b,[]⟩)::nS 13 [])⟩
def vw:KX R:=(oC 0 (iR fu (nc R) kk (sub [1,1,1] (cd Try.f9)) (iQ fu Try.f9.results.toList none K)))
theorem Bf(a:(List Int))(b c:Int)(d e:bd):n9 R kk (k+1) J a b c d e=
 mY a b c d e (n9 R kk k J) (fun a0 a1=>J (.exit 0) (qK a0 a1)):=by kernel_rfl
theorem zJ(a b:bd):vw R kk K (.exit 0) (qK a b)=
 ob a b (fun a0=>K [.al (.pair (.int .u64) (.pair (.int .u64) .unit)) a0 []] none):=by kernel_rfl
theorem AO{kk:Nat}(hF:kk=bF)(t6:(List Int))(t7 t8:Int)(oO oP:bd):n9 R kk k J t6 t7 t8 oO oP=(jO k t6 t7 t8 oO oP).bind fun e=>J (.exit 0) (qK e.1 e.2):=by
 induction k generalizing t6 t7 t8 oO oP with
 |zero=>rfl
 |succ k ih=>
  rw[Bf]
  simp only[jO,mY,ih,dM]
def rY:ay:=nc.add 9 [(.sl 3 (.int .i64))] (iV (.sl 3 (.int .i64)) gn (fun _ r K=>K [.al (.pair (.int .u64) (.pair (.int .u64) .unit)) r []] none))
theorem o4:ct Try.prog rY:=jF fu Try.f9 (fun R kk x0 K=>oa x0 (n9 R kk kk (vw R kk K))) o3 (ek _ _ _ _) Try.func9 (by kernel_rfl) rfl (fun _ _ _ _ _ _ h=>h _ _) (fun _ _ _ _=>by kernel_rfl) fun R kk e x0 K=>by
 simp only[gn,oa,ob,AO (hF:=e),zJ,dM,<-e]
def lr:Env:=e0 [(.pair (.int .u64) (.pair (.int .u64) .unit))]
def rZ:ay:=rY.add 10 [(.pair (.int .u64) (.pair (.int .u64) .unit))] (iV (.pair (.int .u64) (.pair (.int .u64) .unit)) oH (fun _ r K=>K [.al (.int .u64) r.1 [],.al (.int .u64) r.2 []] none))
theorem o5:ct Try.prog rZ:=jF lr Try.f10 (fun R kk x0 K=>rF x0 (fun a0 a1=>K [.al (.int .u64) a0 [],.al (.int .u64) a1 []] none)) o4 (ek _ _ _ _) Try.func10 (by kernel_rfl) rfl (fun _ _ _ _ _ _ h=>h _ _) (fun _ _ _ _=>by kernel_rfl) fun R kk e x0 K=>by
 simp only[oH,rF,dM]
def Bd:Env:=e0 [(.int .u64)]
def sc:ay:=rZ.add 29 [(.int .u64)] (iV (.int .u64) jV (fun _ r K=>K [tI r] none))
theorem o6:ct Try.prog sc:=jF Bd Try.f29 (fun R kk x0 K=>rh x0 (fun a0=>K [tI a0] none)) o5 (ek _ _ _ _) Try.func29 (by kernel_rfl) rfl (fun _ _ _ _ _ _ h=>h _ _) (fun _ _ _ _=>by kernel_rfl) fun R kk e x0 K=>by
 simp only[jV,rh,dM]
def Bc:Env:=e0 [(.int .u64)]
def sd:ay:=sc.add 28 [(.int .u64)] (iV (.int .u64) gm (fun _ r K=>K [tI r] none))
theorem o7:ct Try.prog sd:=jF Bc Try.f28 (fun R kk x0 K=>rf x0 (fun a0=>K [tI a0] none)) o6 (ek _ _ _ _) Try.func28 (by kernel_rfl) rfl (fun _ _ _ _ _ _ h=>h _ _) (fun _ _ _ _=>by kernel_rfl) fun R kk e x0 K=>by
 simp only[gm,rf,dM]
def ly:Env:=e0 [(.pair (.int .u64) (.pair (.int .u64) .unit)),(.int .i64)]
def se:ay:=sd.add 19 [(.pair (.int .u64) (.pair (.int .u64) .unit)),(.int .i64)] (iW (.pair (.int .u64) (.pair (.int .u64) .unit)) (.int .i64) nb (fun _ r K=>K [tI r] none))
theorem o8:ct Try.prog se:=jG ly Try.f19 (fun R kk x0 x1 K=>rI x0 x1 (fun a0=>K [tI a0] none)) o7 (ek _ _ _ _) Try.func19 (by kernel_rfl) rfl (fun _ _ _ _ _ _ h=>h _ _) (fun _ _ _ _ _=>by kernel_rfl) fun R kk e x0 x1 K=>by
 simp only[nb,rI,dM]
def ln:Env:=fI.env (fun _=>[]) (fun _=>[]) [4] [(.pair (.int .u64) (.pair (.int .u64) .unit)),(.pair (.int .u64) (.pair (.int .u64) .unit))]
def sf:ay:=se.add 23 [(.pair (.int .u64) (.pair (.int .u64) .unit)),(.pair (.int .u64) (.pair (.int .u64) .unit))] (iW (.pair (.int .u64) (.pair (.int .u64) .unit)) (.pair (.int .u64) (.pair (.int .u64) .unit)) oG (fun _ r K=>K [.al (.pair (.int .u64) (.pair (.int .u64) .unit)) r []] none))
theorem o9:ct Try.prog sf:=jG ln Try.f23 (fun R kk x0 x1 K=>rE x0 x1 (fun a0=>K [.al (.pair (.int .u64) (.pair (.int .u64) .unit)) a0 []] none)) o8 (ek _ _ _ _) Try.func23 (by kernel_rfl) rfl (fun _ _ _ _ _ _ h=>h _ _) (fun _ _ _ _ _=>by kernel_rfl) fun R kk e x0 x1 K=>by
 simp only[oG,rE,dM]
def lu:Env:=e0 [(.pair (.int .u64) (.pair (.int .u64) .unit)),(.int .i64)]
def lE:ay:=sf.add 16 [(.pair (.int .u64) (.pair (.int .u64) .unit)),(.int .i64)] (iW (.pair (.int .u64) (.pair (.int .u64) .unit)) (.int .i64) na (fun _ r K=>K [tB r] none))
theorem p6:ct Try.prog lE:=jG lu Try.f16 (fun R kk x0 x1 K=>rG x0 x1 (fun a0=>K [tB a0] none)) o9 (ek _ _ _ _) Try.func16 (by kernel_rfl) rfl (fun _ _ _ _ _ _ h=>h _ _) (fun _ _ _ _ _=>by kernel_rfl) fun R kk e x0 x1 K=>by
 simp only[na,rG,dM]
def Be:Env:=e0 [(.int .u64)]
def lF:ay:=lE.add 27 [(.int .u64)] (iV (.int .u64) iw (fun _ r K=>K [tI r] none))
theorem p7:ct Try.prog lF:=jF Be Try.f27 (fun R kk x0 K=>ri x0 (fun a0=>K [tI a0] none)) p6 (ek _ _ _ _) Try.func27 (by kernel_rfl) rfl (fun _ _ _ _ _ _ h=>h _ _) (fun _ _ _ _=>by kernel_rfl) fun R kk e x0 K=>by
 simp only[iw,ri,dM]
def lv:Env:=e0 [(.pair (.int .u64) (.pair (.int .u64) .unit))]
def lG:ay:=lF.add 18 [(.pair (.int .u64) (.pair (.int .u64) .unit))] (iV (.pair (.int .u64) (.pair (.int .u64) .unit)) oI (fun _ r K=>K [tI r] none))
theorem p8:ct Try.prog lG:=jF lv Try.f18 (fun R kk x0 K=>rH x0 (fun a0=>K [tI a0] none)) p7 (ek _ _ _ _) Try.func18 (by kernel_rfl) rfl (fun _ _ _ _ _ _ h=>h _ _) (fun _ _ _ _=>by kernel_rfl) fun R kk e x0 K=>by
 simp only[oI,rH,dM]
def lA:Env:=fI.env (fun _=>[]) (fun _=>[]) [4] [(.pair (.int .u64) (.pair (.int .u64) .unit)),(.int .i64)]
def lH:ay:=lG.add 22 [(.pair (.int .u64) (.pair (.int .u64) .unit)),(.int .i64)] (iW (.pair (.int .u64) (.pair (.int .u64) .unit)) (.int .i64) oJ (fun _ r K=>K [.al (.pair (.int .u64) (.pair (.int .u64) .unit)) r []] none))
theorem p9:ct Try.prog lH:=jG lA Try.f22 (fun R kk x0 x1 K=>rJ x0 x1 (fun a0=>K [.al (.pair (.int .u64) (.pair (.int .u64) .unit)) a0 []] none)) p8 (ek _ _ _ _) Try.func22 (by kernel_rfl) rfl (fun _ _ _ _ _ _ h=>h _ _) (fun _ _ _ _ _=>by kernel_rfl) fun R kk e x0 x1 K=>by
 simp only[oJ,rJ,dM]
def lD:Env:=e0 []
def iy:ay:=lH.add 8 [] (s5 jX (fun _ r K=>K [tB r] none))
theorem wZ:ct Try.prog iy:=w9 lD Try.f8 (fun R kk K=>rK (fun a0=>K [tB a0] none)) p9 (ek _ _ _ _) Try.func8 (by kernel_rfl) rfl (fun _ _ _ _ _ _ h=>h _ _) (fun _ _ _=>by kernel_rfl) fun R kk e K=>by
 simp only[jX,rK,dM]
def fy:Env:=fI.env (fun i=>bif Nat.beq i 2 then [0,1,5] else []) (fun i=>bif Nat.beq i 2 then [4] else []) [] [(.sl 3 (.int .i64)),(.int .i64)]
def oo(a:(List Int))(b c:Int):Option R:=bU (ev fy (iy R) kk (sub [1,0,1,0,0] (cd Try.f25))) [0,1,5] [4] k ⟨[.al (.sl 3 (.int .i64)) a []]::[tI b]::uS 3 ([tI c]::uS 12 []),nS 19 []⟩ J
def qN(a:Bool):State:=⟨uS 4 ([tB a]::uS 13 []),nS 19 []⟩
def qO:State:=⟨uS 18 [],nS 19 []⟩
def rM:KX R:=(oC 0 (iR fy (iy R) kk (sub [1,1] (cd Try.f25)) (iQ fy Try.f25.results.toList none K)))
theorem Bi(a:(List Int))(b c:Int):oo R kk (k+1) J a b c=
 m4 a b c (fun a0=>J .ret (qN a0)) (oo R kk k J) (J (.exit 0) (qO)):=by kernel_rfl
theorem zM(a:Bool):rM R kk K .ret (qN a)=
 rN a (fun a0=>K [tB a0] none):=by kernel_rfl
theorem zN:rM R kk K (.exit 0) (qO)=
 rO (fun a0=>K [tB a0] none):=by kernel_rfl
theorem AR{kk:Nat}(hF:kk=bF)(gW:(List Int))(p5 t5:Int):oo R kk k J gW p5 t5=(kB k gW p5 t5).bind fun e=>(Sum.elim (fun(we:Bool)=>J .ret (qN we)) (fun(we:Unit)=>J (.exit 0) (qO)) e):=by
 induction k generalizing gW p5 t5 with
 |zero=>rfl
 |succ k ih=>
  rw[Bi]
  simp only[kB,m4,ih,dM]
def iz:ay:=iy.add 25 [(.sl 3 (.int .i64)),(.int .i64)] (iW (.sl 3 (.int .i64)) (.int .i64) kG (fun _ r K=>K [tB r] none))
theorem w0:ct Try.prog iz:=jG fy Try.f25 (fun R kk x0 x1 K=>oq x0 x1 (oo R kk kk (rM R kk K))) wZ (ek _ _ _ _) Try.func25 (by kernel_rfl) rfl (fun _ _ _ _ _ _ h=>h _ _) (fun _ _ _ _ _=>by kernel_rfl) fun R kk e x0 x1 K=>by
 simp only[kG,oq,rN,rO,AR (hF:=e),zM,zN,dM,<-e]
def fx:Env:=fI.env (fun i=>bif Nat.beq i 4 then [0,4,5,6] else []) (fun i=>bif Nat.beq i 4 then [4,5] else []) [] [(.sl 3 (.int .i64))]
def oj(a:(List Int))(b c d:Int):Option R:=bU (ev fx (iz R) kk (sub [1,1,1,0,1,0,0] (cd Try.f11))) [0,4,5,6] [4,5] k ⟨[.al (.sl 3 (.int .i64)) a []]::uS 3 ([.al (.int .u64) b []]::[.al (.int .u64) c []]::[tI d]::uS 22 []),nS 30 []⟩ J
def qM(a b:Int):State:=⟨uS 4 ([.al (.int .u64) a []]::[.al (.int .u64) b []]::uS 23 []),nS 30 []⟩
def vA:KX R:=(oC 0 (iR fx (iz R) kk (sub [1,1,1,1] (cd Try.f11)) (iQ fx Try.f11.results.toList none K)))
theorem Bh(a:(List Int))(b c d:Int):oj R kk (k+1) J a b c d=
 m3 a b c d (oj R kk k J) (fun a0 a1=>J (.exit 0) (qM a0 a1)):=by kernel_rfl
theorem zL(a b:Int):vA R kk K (.exit 0) (qM a b)=
 rL a b (fun a0 a1=>K [.al (.int .u64) a0 [],.al (.int .u64) a1 []] none):=by kernel_rfl
theorem AQ{kk:Nat}(hF:kk=bF)(gW:(List Int))(t4 t5 t6:Int):oj R kk k J gW t4 t5 t6=(jP k gW t4 t5 t6).bind fun e=>J (.exit 0) (qM e.1 e.2):=by
 induction k generalizing gW t4 t5 t6 with
 |zero=>rfl
 |succ k ih=>
  rw[Bh]
  simp only[jP,m3,ih,dM]
def iA:ay:=iz.add 11 [(.sl 3 (.int .i64))] (iV (.sl 3 (.int .i64)) kF (fun _ r K=>K [.al (.int .u64) r.1 [],.al (.int .u64) r.2 []] none))
theorem w6:ct Try.prog iA:=jF fx Try.f11 (fun R kk x0 K=>om x0 (oj R kk kk (vA R kk K))) w0 (ek _ _ _ _) Try.func11 (by kernel_rfl) rfl (fun _ _ _ _ _ _ h=>h _ _) (fun _ _ _ _=>by kernel_rfl) fun R kk e x0 K=>by
 simp only[kF,om,rL,AQ (hF:=e),zL,dM,<-e]
def fw:Env:=fI.env (fun i=>bif Nat.beq i 5 then [0,1,5,6,7] else []) (fun i=>bif Nat.beq i 5 then [0,1,5,6] else []) [] [(.sl 3 (.int .i64)),(.sl 3 (.int .i64))]
def og(a b:(List Int))(c:Int)(d e:bd):Option R:=bU (ev fw (iA R) kk (sub [1,1,1,0,1,0,0] (cd Try.f4))) [0,1,5,6,7] [0,1,5,6] k ⟨[.al (.sl 3 (.int .i64)) a []]::[.al (.sl 3 (.int .i64)) b []]::uS 3 ([.ptr 6 (.pair (.int .u64) (.pair (.int .u64) .unit)) []]::[.ptr 7 (.pair (.int .u64) (.pair (.int .u64) .unit)) []]::[tI c]::uS 78 []),nS 6 ((some ⟨(.pair (.int .u64) (.pair (.int .u64) .unit)),d,[]⟩)::(some ⟨(.pair (.int .u64) (.pair (.int .u64) .unit)),e,[]⟩)::nS 79 [])⟩ J
def qL(a b:(List Int))(c d:bd):State:=⟨[.al (.sl 3 (.int .i64)) a []]::[.al (.sl 3 (.int .i64)) b []]::uS 3 ([.ptr 6 (.pair (.int .u64) (.pair (.int .u64) .unit)) []]::[.ptr 7 (.pair (.int .u64) (.pair (.int .u64) .unit)) []]::uS 79 []),nS 6 ((some ⟨(.pair (.int .u64) (.pair (.int .u64) .unit)),c,[]⟩)::(some ⟨(.pair (.int .u64) (.pair (.int .u64) .unit)),d,[]⟩)::nS 79 [])⟩
def vz:KX R:=(oC 0 (iR fw (iA R) kk (sub [1,1,1,1] (cd Try.f4)) (iQ fw Try.f4.results.toList none K)))
theorem Bg(a b:(List Int))(c:Int)(d e:bd):og R kk (k+1) J a b c d e=
 mZ a b c d e (og R kk k J) (fun a0 a1 a2 a3=>J (.exit 0) (qL a0 a1 a2 a3)):=by kernel_rfl
theorem zK(a b:(List Int))(c d:bd):vz R kk K (.exit 0) (qL a b c d)=
 oi a b c d (fun a0=>K [tB a0] none):=by kernel_rfl
theorem AP{kk:Nat}(hF:kk=bF)(gW p3:(List Int))(t7:Int)(oQ oR:bd):og R kk k J gW p3 t7 oQ oR=(kA k gW p3 t7 oQ oR).bind fun e=>J (.exit 0) (qL e.1 e.2.1 e.2.2.1 e.2.2.2):=by
 induction k generalizing gW p3 t7 oQ oR with
 |zero=>rfl
 |succ k ih=>
  rw[Bg]
  simp only[kA,mZ,ih,dM]
def lI:ay:=iA.add 4 [(.sl 3 (.int .i64)),(.sl 3 (.int .i64))] (iW (.sl 3 (.int .i64)) (.sl 3 (.int .i64)) lC (fun _ r K=>K [tB r] none))
theorem w7:ct Try.prog lI:=jG fw Try.f4 (fun R kk x0 x1 K=>oh x0 x1 (fun a0=>K [tB a0] none) (og R kk kk (vz R kk K))) w6 (ek _ _ _ _) Try.func4 (by kernel_rfl) rfl (fun _ _ _ _ _ _ h=>h _ _) (fun _ _ _ _ _=>by kernel_rfl) fun R kk e x0 x1 K=>by
 simp only[lC,oh,oi,AP (hF:=e),zK,dM,<-e]
end
end Go.Proofs.Ytjlgmoneaehejaa

