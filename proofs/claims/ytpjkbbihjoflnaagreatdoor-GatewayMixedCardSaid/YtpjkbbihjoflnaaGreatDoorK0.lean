/- No condition. -/
import Derived.Orders
import Derived.Below
import Derived.Maps.AppendAt
import Derived.WalkKit
import Derived.Lib.AppendStr
import Derived.Shelf.Strings.BuilderF
set_option linter.unusedVariables false
set_option linter.unusedSimpArgs false
set_option maxRecDepth 100000
namespace Go.Ref
open Go
structure vj(T e:TypeId)(b:Nat)(v:Value)(bs:List Value)(w:World):Prop where
 mV:w.heap[b]? =some (.cells #[.pointer none,v] T (0,0))\/w.heap[b]? =some (.cells #[.pointer (some ⟨b,0,none⟩),v] T (0,0))
 own:w.ownsRow 0 e 1 v bs.length bs
 ne:v.ownBlock≠some b
theorem vj.lt{T e:TypeId}{b:Nat}{v:Value}{bs:List Value}{w:World}(h:vj T e b v bs w):b<w.heap.size:=by
 rcases Nat.lt_or_ge b w.heap.size with h'|h'
 ·exact h'
 ·rcases h.mV with h|h<;>simp [Array.getElem?_eq_none h'] at h
theorem vj.same{T e:TypeId}{b:Nat}{v:Value}{bs:List Value}{w w':World}(h:vj T e b v bs w)(hb:w'.heap[b]? =w.heap[b]?)(hg:∀g o,v.ownBlock=some g->w.heap[g]? =some o->w'.heap[g]? =some o):vj T e b v bs w':=by
 refine⟨by rw[hb];exact h.mV,⟨h.own.1,?_⟩,h.ne⟩
 rcases h.own.2 with hn|⟨g,cap,cur,hv,h0,Cr,rest⟩
 ·exact .inl hn
 ·exact .inr ⟨g,cap,cur,hv,h0,hg g _ (by rw[hv];rfl) Cr,rest⟩
inductive Zb where
 |iter
 |mp
 |row
 |iP (n:Nat)
 |gF (T e:Nat)
 |own
 |sj (f:Nat)
 |bN
 deriving DecidableEq,Inhabited
@[reducible] def wv:Zb->Type->Type->Type
  | .iter,_,_=>ByteArray×Nat
  | .mp,a,b=>List (a×b)
  | .row,a,_=>List a
  | .iP _,_,_=>Unit
  | .gF _ _,_,_=>ByteArray
  | .own,a,_=>Option a
  | .sj _,_,_=>Unit
  | .bN,a,b=>a×(Option b×Option b)×Int
def wv.bT:(k:Zb)->(a b:Type)->a->wv k a b
 | .iter,_,_,_=>((⟨#[]⟩:ByteArray),(0:Nat))
 | .mp,_,_,_=>[]
 | .row,_,_,_=>[]
 | .iP _,_,_,_=>()
 | .gF _ _,_,_,_=>(⟨#[]⟩:ByteArray)
 | .own,_,_,_=>none
 | .sj _,_,_,_=>()
 | .bN,_,_,x=>(x,(none,none),(0:Int))
inductive Ty where
 |bool
 |int (k:IntKind)
 |str
 |sl (e:TypeId) (t:Ty)
 |arr (n:Nat) (t:Ty)
 |unit
 |pair (a b:Ty)
 |aJ (k:Zb) (a b:Ty)
 deriving Inhabited
@[reducible] def El:Ty->Type
  | .bool=>Bool
  | .int _=>Int
  | .str=>ByteArray
  | .sl _ t=>List (El t)
  | .arr _ t=>List (El t)
  | .unit=>Unit
  | .pair a b=>El a×El b
  | .aJ k a b=>wv k (El a) (El b)
def El.bT:(t:Ty)->El t
 | .bool=>false
 | .int _=>(0:Int)
 | .str=>(⟨#[]⟩:ByteArray)
 | .sl _ _=>[]
 | .arr n t=>List.replicate n (El.bT t)
 | .unit=>()
 | .pair a b=>(El.bT a,El.bT b)
 | .aJ k a b=>wv.bT k (El a) (El b) (El.bT a)
def Ty.cp:Ty->Ty->Bool
 | .bool,.bool=>true
 | .str,.str=>true
 | .unit,.unit=>true
 | .int j,.int k=>decide (j=k)
 | .sl e t,.sl f u=>Nat.beq e f&&Ty.cp t u
 | .arr n t,.arr m u=>Nat.beq n m&&Ty.cp t u
 | .pair a b,.pair c d=>Ty.cp a c&&Ty.cp b d
 | .aJ k a b,.aJ j c d=>decide (k=j)&&(Ty.cp a c&&Ty.cp b d)
 |_,_=>false
theorem Ty.aI:∀{t u:Ty},t.cp u=true->t=u:=by
 intro t
 induction t with
 |bool=>intro u h;cases u<;>simp_all [Ty.cp]
 |int k=>intro u h;cases u<;>simp_all [Ty.cp]
 |str=>intro u h;cases u<;>simp_all [Ty.cp]
 |unit=>intro u h;cases u<;>simp_all [Ty.cp]
 |sl e t ih=>
  intro u h
  cases u<;>simp [Ty.cp] at h
  obtain⟨h1,h2⟩:=h
  rw[ih h2,h1]
 |arr e t ih=>
  intro u h
  cases u<;>simp [Ty.cp] at h
  obtain⟨h1,h2⟩:=h
  rw[ih h2,h1]
 |pair a b me mf=>
  intro u h
  cases u<;>simp [Ty.cp] at h
  rw[me h.1,mf h.2]
 |aJ k a b me mf=>
  intro u h
  cases u<;>simp [Ty.cp] at h
  rw[h.1,me h.2.1,mf h.2.2]
theorem Ty.cj:∀t:Ty,t.cp t=true
 | .bool=>rfl
 | .str=>rfl
 | .unit=>rfl
 | .int k=>by simp [Ty.cp]
 | .sl e t=>by simp [Ty.cp,Ty.cj t]
 | .arr e t=>by simp [Ty.cp,Ty.cj t]
 | .pair a b=>by simp [Ty.cp,Ty.cj a,Ty.cj b]
 | .aJ k a b=>by simp [Ty.cp,Ty.cj a,Ty.cj b]
def Ty.cast{t u:Ty}(h:t.cp u=true)(x:El t):El u:=Ty.aI h▸x
def Ty.cells:Ty->Nat
 | .arr n t=>n*t.cells
 | .unit=>0
 | .pair a b=>a.cells+b.cells
 | .aJ _ _ _=>0
 |_=>1
def Ty.agg:Ty->Bool
 | .arr .. | .unit| .pair .. | .aJ .. =>true
 |_=>false
def Ty.at_:Ty->List Nat->Option Ty
 |t,[]=>some t
 | .arr _ t,_::p=>t.at_ p
 | .pair a _,0::p=>a.at_ p
 | .pair _ b,(j+1)::p=>b.at_ (j::p)
 |_,_=>none
def Ty.off:Ty->List Nat->Nat
 |_,[]=>0
 | .arr _ t,i::p=>i*t.cells+t.off p
 | .pair a _,0::p=>a.off p
 | .pair a b,(j+1)::p=>a.cells+b.off (j::p)
 |_,_=>0
def El.get:(t:Ty)->List Nat->El t->Option ((u:Ty)×El u)
 |t,[],x=>some ⟨t,x⟩
 | .arr _ t,i::p,xs=>El.get t p (xs.getD i (El.bT t))
 | .pair a _,0::p,x=>El.get a p x.1
 | .pair _ b,(j+1)::p,x=>El.get b (j::p) x.2
 |_,_::_,_=>none
def El.set:(t:Ty)->List Nat->El t->(u:Ty)->El u->Option (El t)
 |t,[],_,u,y=>if h:u.cp t=true then some (Ty.cast h y) else none
 | .arr _ t,i::p,xs,u,y=>(El.set t p (xs.getD i (El.bT t)) u y).map fun z=>List.set xs i z
 | .pair a _,0::p,x,u,y=>(El.set a p x.1 u y).map fun z=>(z,x.2)
 | .pair _ b,(j+1)::p,x,u,y=>(El.set b (j::p) x.2 u y).map fun z=>(x.1,z)
 |_,_::_,_,_,_=>none
def Ty.eK:Ty->List Nat->Prop
 |_,[]=>True
 | .arr n t,i::p=>i<n/\t.eK p
 | .pair a _,0::p=>a.eK p
 | .pair _ b,(j+1)::p=>b.eK (j::p)
 |_,_=>False
inductive Place where
 |c (i j:Nat) (p:List Nat)
 |b (id:Nat) (p:List Nat)
 |r (j:Nat) (p:List Nat)
inductive Ow where
 |all
 |ro (n:Nat)
 |box (id:Nat)
 |row (pl:Place) (n:Nat)
def Ow.used:Ow->Nat->Prop
 | .all,_=>True
 | .ro n,o=>o<n
 | .box _,_=>False
 | .row _ n,o=>o<n
def Ow.still:Ow->Prop
 | .all| .ro _=>True
 |_=>False
structure aw where
 w:World
 ow:Nat->Ow
 β:Nat->Option Nat
def aw.ay(X:aw)(a:Addr)(v:Value):Prop:=a.spot=none/\X.w.cell? a=some v/\(X.ow a.block).used a.off
structure Ext(X Y:aw):Prop where
 ay:∀a v,X.ay a v->Y.ay a v
 size:X.w.heap.size<=Y.w.heap.size
 os:Y.w.os=X.w.os
 tape:Y.w.tape=X.w.tape
 output:Y.w.output=X.w.output
 β0:Y.β 0=X.β 0
 still:∀g,g<X.w.heap.size->(X.ow g).still->Y.ow g=X.ow g/\Y.w.heap[g]? =X.w.heap[g]?
theorem Ext.refl(X:aw):Ext X X:=⟨fun _ _ h=>h,Nat.le_refl _,rfl,rfl,rfl,rfl,fun _ _ _=>⟨rfl,rfl⟩⟩
theorem Ext.trans{X Y Z:aw}(h:Ext X Y)(k:Ext Y Z):Ext X Z:=
 ⟨fun a v hs=>k.ay a v (h.ay a v hs),Nat.le_trans h.size k.size,k.os.trans h.os,k.tape.trans h.tape,k.output.trans h.output,k.β0.trans h.β0,
  fun g hg bP=>by
   obtain⟨h1,h2⟩:=h.still g hg bP
   obtain⟨k1,k2⟩:=k.still g (Nat.lt_of_lt_of_le hg h.size) (by rw[h1];exact bP)
   exact⟨k1.trans h1,k2.trans h2⟩⟩
theorem aw.iF{X:aw}{a:Addr}{v:Value}(h:X.ay a v):a.block<X.w.heap.size:=World.block_lt_of_cell? X.w a h.2.1
def bg(X:aw):(t:Ty)->El t->List Value->Prop
 | .bool,b,cs=>cs=[.bool b]
 | .int k,n,cs=>cs=[.int k n]
 | .str,s,cs=>cs=[.string s]
 | .sl _ t,xs,cs=>∃A c,cs=[.slice A xs.length c]/\xs.length<=c/\
    ∀j x,xs[j]? =some x->∃ad eJ,A=some ad/\ad.spot=none/\bg X t x eJ/\∀i v,eJ[i]? =some v->X.ay (ad.add (j*t.cells+i)) v
 | .arr n t,xs,cs=>xs.length=n/\cs.length=n*t.cells/\∀j x,xs[j]? =some x->bg X t x ((cs.drop (j*t.cells)).take t.cells)
 | .unit,_,cs=>cs=[]
 | .pair a b,x,cs=>∃c1 c2,cs=c1++c2/\bg X a x.1 c1/\bg X b x.2 c2
 | .aJ _ _ _,_,cs=>cs=[]
theorem bg.ai{X Y:aw}(h:∀a v,X.ay a v->Y.ay a v):∀{t:Ty} {x:El t} {cs:List Value},bg X t x cs->bg Y t x cs
 | .bool,_,_,hr=>hr
 | .int _,_,_,hr=>hr
 | .str,_,_,hr=>hr
 | .unit,_,_,hr=>hr
 | .sl _ t,xs,cs,⟨A,c,h1,h2,h3⟩=>⟨A,c,h1,h2,fun j x hj=>by
    obtain⟨ad,eJ,h4,h5,h6,h7⟩:=h3 j x hj
    exact⟨ad,eJ,h4,h5,bg.ai h h6,fun i v hi=>h _ _ (h7 i v hi)⟩⟩
 | .arr n t,xs,cs,⟨h1,h2,h3⟩=>⟨h1,h2,fun j x hj=>bg.ai h (h3 j x hj)⟩
 | .pair a b,x,cs,⟨c1,c2,h1,h2,h3⟩=>⟨c1,c2,h1,bg.ai h h2,bg.ai h h3⟩
 | .aJ _ _ _,_,_,hr=>hr
theorem bg.mono{X Y:aw}(h:Ext X Y){t:Ty}{x:El t}{cs:List Value}(hr:bg X t x cs):bg Y t x cs:=bg.ai h.ay hr
theorem bg.len{X:aw}:∀{t:Ty} {x:El t} {cs:List Value},bg X t x cs->cs.length=t.cells
 | .bool,_,_,hr=>by cases hr;rfl
 | .int _,_,_,hr=>by cases hr;rfl
 | .str,_,_,hr=>by cases hr;rfl
 | .unit,_,_,hr=>by cases hr;rfl
 | .sl _ t,xs,cs,⟨A,c,h1,_⟩=>by cases h1;rfl
 | .arr n t,xs,cs,⟨h1,h2,h3⟩=>h2
 | .pair a b,x,cs,⟨c1,c2,h1,h2,h3⟩=>by rw[h1,List.length_append,h2.len,h3.len];rfl
 | .aJ _ _ _,_,_,hr=>by cases hr;rfl
theorem abZ{cs:List Value}{n k:Nat}{u:Value}(hu:u∈cs)(hk:cs.length=n*k):∃j,j<n/\u∈(cs.drop (j*k)).take k:=by
 obtain⟨q,hq,rfl⟩:=List.mem_iff_getElem.1 hu
 have AG:0<k:=by
  rcases Nat.eq_zero_or_pos k with h|h
  ·subst h;simp at hk;subst hk;simp at hq
  ·exact h
 refine⟨q/k,by rw[Nat.div_lt_iff_lt_mul AG,<-hk];exact hq,?_⟩
 rw[List.mem_iff_getElem?]
 refine⟨q % k,?_⟩
 rw[List.getElem?_take,if_pos (Nat.mod_lt _ AG),List.getElem?_drop,Nat.mul_comm,Nat.div_add_mod,List.getElem?_eq_getElem hq]
theorem bg.one{X:aw}:∀{t:Ty} {x:El t} {cs:List Value},bg X t x cs->∀u∈cs,u.oneCell'=true
 | .bool,_,_,hr,u,hu=>by cases hr;simp at hu;subst hu;rfl
 | .int _,_,_,hr,u,hu=>by cases hr;simp at hu;subst hu;rfl
 | .str,_,_,hr,u,hu=>by cases hr;simp at hu;subst hu;rfl
 | .unit,_,_,hr,u,hu=>by cases hr;simp at hu
 | .sl _ t,xs,cs,⟨A,c,h1,_⟩,u,hu=>by cases h1;simp at hu;subst hu;rfl
 | .arr n t,xs,cs,⟨h1,h2,h3⟩,u,hu=>by
   obtain⟨j,hj,hm⟩:=abZ hu h2
   exact bg.one (h3 j _ (List.getElem?_eq_getElem (by omega))) u hm
 | .pair a b,x,cs,⟨c1,c2,h1,h2,h3⟩,u,hu=>by
   rw[h1] at hu
   rcases List.mem_append.1 hu with hu|hu
   ·exact h2.one u hu
   ·exact h3.one u hu
 | .aJ _ _ _,_,_,hr,u,hu=>by cases hr;simp at hu
end Go.Ref

namespace Go.Ref
open Go Go.Shelf Go.RowKit Go.Proofs
variable {P:Program} {ρ:Ren}
structure gE(b:Nat)(g:Option Nat)(w w':World):Prop where
 os:w'.os=w.os
 tape:w'.tape=w.tape
 output:w'.output=w.output
 size:w.heap.size<=w'.heap.size
 block:∀k,k<w.heap.size->k≠b->some k≠g->w'.heap[k]? =w.heap[k]?
theorem gE.of{b:Nat}{g:Option Nat}{w w':World}(h:w.grownBy w' g):gE b g w w':=⟨h.os,h.tape,h.output,h.size,fun k hk _ hg=>h.block k hk hg⟩
theorem gE.trans{b:Nat}{g:Option Nat}{u v w:World}(h:gE b g u v)(k:gE b g v w):gE b g u w:=
 ⟨k.os.trans h.os,k.tape.trans h.tape,k.output.trans h.output,Nat.le_trans h.size k.size,fun i hi h1 h2=>(k.block i (Nat.lt_of_lt_of_le hi h.size) h1 h2).trans (h.block i hi h1 h2)⟩
theorem gE.refl{b:Nat}{g:Option Nat}(w:World):gE b g w w:=⟨rfl,rfl,rfl,Nat.le_refl _,fun _ _ _ _=>rfl⟩
theorem gE.setCell{b:Nat}{g:Option Nat}(w:World)(a:Addr)(ha:a.block=b)(u:Value):gE b g w (w.setCell a u):=
 ⟨rfl,rfl,rfl,by simp [World.setCell],fun k _ hk _=>Below.heap_setCell _ _ _ _ (by rw[ha];exact hk)⟩
theorem af2{w:World}(t u ty e:TypeId)(i:TypeInfo)(ht:P.underlying t=some (.slice e))(hu:P.underlying u=some .string)(hi:P.info? e=some i)(hz:i.zero=some (.int .u8 0))(b6:i.size=1)(nG:i.bytes=1)
 (v:Value) (n:Nat) (xs:List Value) (bS:w.ownsRow 0 e 1 v n xs) (s:ByteArray) (Aw:n+s.size<=maxLen) (gh:n+s.size<=140737488355328) {v':Value} {w':World}
 (h:(Builtin.append_ #[t,u] ty #[v,.string s]).run P w= .ok v' w'):∀g,v'.ownBlock=some g->v.ownBlock=some g\/g=w.heap.size:=by
 have AW:xs.length=n:=by simpa using bS.1
 have uC:n+s.size<=9223372036854775807:=by simp only[maxLen] at Aw;omega
 intro g0 Cq
 rcases bS.2 with⟨rfl,rfl⟩|⟨g,cap,cur,rfl,ZC,hg,KA,sk,eF,nh⟩
 ·by_cases hm:s.size=0
  ·have hf:=Lib.run_firstCells_string (P:=P) w 1 s
   rw[hm] at hf
   simp [Builtin.append_,run_underlying ht,run_underlying hu,sizeOf,typeInfo,hi,b6,Builtin.lenOf,hm,hf] at h
   rw[<-h.1] at Cq
   simp [Value.ownBlock] at Cq
  ·have hr:=run_append_nil_string (P:=P) w t u ty e i (.int .u8 0) ht hu hi hz s (by omega) (by omega) (by rw[nG];omega)
   rw[hr] at h
   cases h
   simp [Value.ownBlock] at Cq
   exact .inr Cq.symm
 ·by_cases ng:n+s.size<=cap
  ·have ao7:cur.size=cap:=by simpa using eF
   have hr:=Lib.run_append_room_string (P:=P) w t u ty e i ht hu hi b6 g n cap cur hg s ng (by omega)
   rw[hr] at h
   cases h
   exact .inl Cq
  ·have holds:∀j u,xs[j]? =some u->w.cell? ((⟨g,0,none⟩:Addr).add j)=some u:=bS.cells (g:=g) rfl
   have hr:=Lib.run_append_grow_string (P:=P) w t u ty e i (.int .u8 0) ht hu hi hz ⟨g,0,none⟩ n cap xs (by rw[b6];simpa using AW) holds s (by omega) (by omega) (by rw[nG];exact growslice_fits (by omega) (by omega))
   rw[hr] at h
   cases h
   simp [Value.ownBlock] at Cq
   exact .inr Cq.symm
theorem aef{ops:Array Oper}{rest:List Oper}{o:Oper}{a:Act}{w:World}{Q:Exit->Act->World->Prop}(GC:o.guard=none)(sl x:Operand)(t u:TypeId)
 (ho:o.op= .call {callee:= .builtin .append,args:= #[sl,x],argTypes:= #[t,u]})
 (e:TypeId) (i:TypeInfo) (ht:P.underlying t=some (.slice e)) (hu:P.underlying u=some .string) (hi:P.info? e=some i) (hz:i.zero=some (.int .u8 0))
 (b6:i.size=1) (nG:i.bytes=1)
 (v:Value) (n:Nat) (xs:List Value) (hs:a.eval sl=v) (bS:w.ownsRow 0 e 1 v n xs) (s:ByteArray) (hx:a.eval x= .string s)
 (Aw:n+s.size<=maxLen) (gh:n+s.size<=140737488355328)
 (h:∀v' w',w'.ownsRow 0 e 1 v' (n+s.size) (xs++Lib.strCells s)->w.grownBy w' v.ownBlock->(∀g,v'.ownBlock=some g->v.ownBlock=some g\/g=w.heap.size)->wpList P ops Q rest (a.put o.dst v') w'):wpList P ops Q (o::rest) a w:=by
 refine wpList_plain GC fun K hK=> ?_
 obtain⟨v',w',hr,h2,h3,h4⟩:=Lib.run_append_own_string (P:=P) w 0 t u o.type e i ht hu hi hz b6 nG v n xs bS s Aw gh (Nat.zero_le _)
 unfold Oper.wp execOp
 simp only[ho,resolve,invoke,builtin,Sem.run_bind,Sem.run_pure,Result.andThen_ok,List.map_toArray,List.map_cons,List.map_nil,hs,hx,hr]
 exact hK _ _ (h v' w' h2 h3 (af2 t u o.type e i ht hu hi hz b6 nG v n xs bS s Aw gh hr))
theorem agd(L:Lays.n240 P ρ)(X:Builder.X72 P ρ)(b:Nat)(v:Value)(bs:List Value)(w:World)(h:vj (ρ.t 72) (ρ.t 5) b v bs w):
 Calls P (ρ.f 240) #[.pointer (some ⟨b,0,none⟩)] w fun e w'=>e= .returned (.tuple #[])/\(w'.heap[b]? =some (.cells #[.pointer (some ⟨b,0,none⟩),v] (ρ.t 72) (0,0))/\w'.ownsRow 0 (ρ.t 5) 1 v bs.length bs)/\(gE b none w w'/\w'.heap.size=w.heap.size):=by
 rcases h.mV with hb|hb
 ·have hA:Lib.BuilderAt (ρ.t 72) (ρ.t 5) 0 b (.pointer none) bs w:=⟨Nat.zero_le _,v,hb,h.own,h.ne⟩
  refine(Any.Builder_copyCheck_fresh L X b w hA.cell0 hA.shape hA.frozen0).mono ?_
  rintro e w' ⟨rfl,rfl⟩
  have hu:=hA.used (.pointer (some ⟨b,0,none⟩))
  obtain⟨_,v',ub,na,_⟩:=hu
  have hv:v'=v:=by
   have:(w.setCell ⟨b,0,none⟩ (.pointer (some ⟨b,0,none⟩))).heap[b]? =some (.cells #[.pointer (some ⟨b,0,none⟩),v] (ρ.t 72) (0,0)):=heap_setCell_same w b 0 _ _ _ hb
   rw[ub] at this
   simp at this
   exact this
  subst hv
  exact⟨rfl,⟨ub,na⟩,gE.setCell w ⟨b,0,none⟩ rfl _,by simp [World.setCell]⟩
 ·have hA:Lib.BuilderAt (ρ.t 72) (ρ.t 5) 0 b (.pointer (some ⟨b,0,none⟩)) bs w:=⟨Nat.zero_le _,v,hb,h.own,h.ne⟩
  refine(Any.Builder_copyCheck_used L X b w hA.cell0).mono ?_
  rintro e w' ⟨rfl,rfl⟩
  exact⟨rfl,⟨hb,h.own⟩,gE.refl _,rfl⟩
set_option maxHeartbeats 2000000 in
set_option maxRecDepth 100000 in
theorem age(L:Lays.n166 P ρ)(X:Builder.Extra P ρ)(b:Nat)(v0:Value)(bs:List Value)(s:ByteArray)(w:World)(h:vj (ρ.t 72) (ρ.t 5) b v0 bs w)(hlen:bs.length+s.size<=140737488355328):
 Calls P (ρ.f 166) #[.pointer (some ⟨b,0,none⟩),.string s] w fun e w'=>e= .returned (.tuple #[.int .i64 s.size,.nilIface])/\∃v',vj (ρ.t 72) (ρ.t 5) b v' (bs++Lib.strCells s) w'/\gE b v0.ownBlock w w'/\∀g,v'.ownBlock=some g->v0.ownBlock=some g\/w.heap.size<=g:=by
 obtain⟨i0,hi,KY,Sz,hz2⟩:=info_parts X.infoByte
 have aq:=h.lt
 have mixed:=L.mixed
 have t72:=L.t72;have a72:=L.a72;have z72:=L.z72;have v72:=L.v72;have u72:=run_underlying L.t72
 have t70:=L.t70;have a70:=L.a70;have z70:=L.z70;have v70:=L.v70;have u70:=run_underlying L.t70
 have t37:=L.t37;have a37:=L.a37;have z37:=L.z37;have v37:=L.v37;have u37:=run_underlying L.t37
 have t3:=L.t3;have a3:=L.a3;have z3:=L.z3;have v3:=L.v3;have u3:=run_underlying L.t3
 have t9:=L.t9;have a9:=L.a9;have z9:=L.z9;have v9:=L.v9;have u9:=run_underlying L.t9
 have t4:=L.t4;have a4:=L.a4;have z4:=L.z4;have v4:=L.v4;have u4:=run_underlying L.t4
 have t164:=L.t164;have a164:=L.a164;have z164:=L.z164;have v164:=L.v164;have apc:=run_underlying L.t164
 have t5:=X.t5;have a5:=X.a5;have z5:=X.z5;have v5:=X.v5;have u5:=run_underlying X.t5
 have ao5:∀args w,(callFunc (ρ.f 240) args).run P w= .ok (.enter (ρ.f 240) args) w:=enters_of L.f240 (by kernel_rfl) rfl
 go_enter L.f166,Body.n166_ntmps ρ
 go_wp2_with (go_at_fn (ρ.f 240);refine(agd {L with} X.toX72 b v0 bs _ h).mono ?_)
 rintro e w1 ⟨rfl,⟨xn,bS⟩,nF,CH⟩
 have bJ:=h.ne
 have c0:w1.cell? ⟨b,0,none⟩=some (.pointer (some ⟨b,0,none⟩)):=by rw[Lib.cell_of_heap xn];rfl
 have c1:w1.cell? ⟨b,1,none⟩=some v0:=by rw[Lib.cell_of_heap xn];rfl
 go_wp2_with (at_builtin;refine aef rfl _ _ (ρ.t 37) (ρ.t 9) rfl (ρ.t 5) i0 L.t37 L.t9 hi KY Sz hz2 _ _ _ rfl bS s rfl ?c3 ?c4 ?_)
 case c3=>unfold maxLen;omega
 case c4=>omega
 intro v' w2 na AF gY
 have xv:b<w1.heap.size:=by rw[CH];exact aq
 have kc:w2.heap[b]? =some (.cells #[.pointer (some ⟨b,0,none⟩),v0] (ρ.t 72) (0,0)):=by
  rw[AF.block b xv (fun e=>bJ e.symm)]
  exact xn
 have d0:w2.cell? ⟨b,0,none⟩=some (.pointer (some ⟨b,0,none⟩)):=by rw[Lib.cell_of_heap kc];rfl
 have d1:w2.cell? ⟨b,1,none⟩=some v0:=by rw[Lib.cell_of_heap kc];rfl
 have f1:w2.frozen? ⟨b,1,none⟩=false:=Lib.frozen_of_heap kc 1
 obtain⟨ao,n',cap,rfl⟩:∃ao n' cap,v'= .slice ao n' cap:=by
  rcases na.2 with⟨hv,_⟩|⟨g,cap,cur,hv,_⟩
  ·exact⟨_,_,_,hv⟩
  ·exact⟨_,_,_,hv⟩
 go_wp2
 go_ret2
 have KB:(Value.slice ao n' cap).ownBlock≠some b:=fun e=>by
  rcases gY b e with h1|h1
  ·exact bJ h1
  ·omega
 have fu:(w2.setCell ⟨b,1,none⟩ (.slice ao n' cap)).heap[b]? =some (.cells #[.pointer (some ⟨b,0,none⟩),.slice ao n' cap] (ρ.t 72) (0,0)):=heap_setCell_same w2 b 1 _ _ _ kc
 refine⟨rfl,_,⟨.inr fu,?_,KB⟩,?_,fun g hg=> ?_⟩
 ·have hl:(bs++Lib.strCells s).length=bs.length+s.size:=by rw[List.length_append,Lib.strCells_length]
  rw[hl]
  refine⟨na.1,?_⟩
  rcases na.2 with hn|⟨g,xg,cur,hv,ZC,hg,rest⟩
  ·exact .inl hn
  ·refine .inr ⟨g,xg,cur,hv,ZC,?_,rest⟩
   rw[Below.heap_setCell _ _ _ _ (fun e=>KB (by rw[hv,Value.ownBlock];exact congrArg some e))]
   exact hg
 ·refine gE.trans ⟨nF.os,nF.tape,nF.output,nF.size,fun k hk h1 h2=>nF.block k hk h1 (by simp)⟩ (gE.trans (gE.of AF) (gE.setCell w2 ⟨b,1,none⟩ rfl _))
 ·rcases gY g hg with h1|h1
  ·exact .inl h1
  ·exact .inr (by omega)
theorem gE.freeze{b:Nat}{g:Nat}(w:World)(a:Addr)(ha:a.block=g)(n:Nat):gE b (some g) w (w.freeze a n):=by
 unfold World.freeze
 split
 ·exact gE.refl _
 ·refine⟨rfl,rfl,rfl,by simp,fun k hk h1 h2=> ?_⟩
  simp only[Array.getElem?_modify]
  rw[if_neg]
  intro e
  exact h2 (by rw[<-e,ha])
theorem gE.drew{b:Nat}{g:Option Nat}(w:World):gE b g w w.drew:=⟨rfl,rfl,rfl,Nat.le_refl _,fun _ _ _ _=>rfl⟩
theorem gE.alloc{b:Nat}{g:Option Nat}(w:World)(o:Obj):gE b g w (w.alloc o):=⟨rfl,rfl,rfl,by simp,fun k hk _ _=>Below.heap_alloc _ _ _ hk⟩
set_option maxHeartbeats 2000000 in
set_option maxRecDepth 100000 in
theorem ajP(L:Lays.n169 P ρ)(X:Builder.Extra P ρ)(b:Nat)(v0:Value)(l:List UInt8)(w:World)(h:vj (ρ.t 72) (ρ.t 5) b v0 (Lib.byteCells l) w):
 Calls P (ρ.f 169) #[.pointer (some ⟨b,0,none⟩)] w fun e w'=>e= .returned (.string ⟨l.toArray⟩)/\gE b v0.ownBlock w w':=by
 obtain⟨p,xn⟩:∃p,w.heap[b]? =some (.cells #[p,v0] (ρ.t 72) (0,0)):=by
  rcases h.mV with h|h
  ·exact⟨_,h⟩
  ·exact⟨_,h⟩
 have bS:=h.own
 have aq:=h.lt
 rw[Lib.byteCells_length] at bS
 have mixed:=L.mixed
 have t72:=L.t72;have a72:=L.a72;have z72:=L.z72;have v72:=L.v72;have u72:=run_underlying L.t72
 have t70:=L.t70;have a70:=L.a70;have z70:=L.z70;have v70:=L.v70;have u70:=run_underlying L.t70
 have t37:=L.t37;have a37:=L.a37;have z37:=L.z37;have v37:=L.v37;have u37:=run_underlying L.t37
 have t127:=L.t127;have a127:=L.a127;have z127:=L.z127;have v127:=L.v127;have apb:=run_underlying L.t127
 have t3:=L.t3;have a3:=L.a3;have z3:=L.z3;have v3:=L.v3;have u3:=run_underlying L.t3
 have t9:=L.t9;have a9:=L.a9;have z9:=L.z9;have v9:=L.v9;have u9:=run_underlying L.t9
 have t5:=X.t5;have a5:=X.a5;have z5:=X.z5;have v5:=X.v5;have u5:=run_underlying X.t5
 rcases bS.2 with⟨rfl,hz⟩|⟨g,cap,cur,rfl,ZC,hg,KA,sk,eF,nh⟩
 ·have hl:l=[]:=List.eq_nil_of_length_eq_zero hz
  subst hl
  have ZA:=Any.unsafeString_none L X
  have c1:w.drew.cell? ⟨b,1,none⟩=some (.slice none 0 0):=by
   have:w.drew.heap[b]? =some (.cells #[p,.slice none 0 0] (ρ.t 72) (0,0)):=xn
   rw[Lib.cell_of_heap this];rfl
  have Zy:(Builtin.unsafeSliceData_ #[(ρ.t 37)] (ρ.t 127) #[.slice none 0 0]).run P w.drew= .ok (.pointer none) w.drew:=rfl
  go_enter L.f169,Body.n169_ntmps ρ
  go_wp2
  go_region_o
  all_goals(go_wp2;go_ret;exact⟨rfl,gE.drew w⟩)
 ·by_cases CA:l.length=0
  ·have hl:l=[]:=List.eq_nil_of_length_eq_zero CA
   subst hl
   by_cases ZD:cap=0
   ·subst ZD
    have ZA:=Any.unsafeString_none L X
    have c1:w.drew.cell? ⟨b,1,none⟩=some (.slice (some ⟨g,0,none⟩) 0 0):=by
     have:w.drew.heap[b]? =some (.cells #[p,.slice (some ⟨g,0,none⟩) 0 0] (ρ.t 72) (0,0)):=xn
     rw[Lib.cell_of_heap this];rfl
    have Zy:(Builtin.unsafeSliceData_ #[(ρ.t 37)] (ρ.t 127) #[.slice (some ⟨g,0,none⟩) 0 0]).run P w.drew= .ok (.pointer (some ⟨w.drew.heap.size,0,none⟩)) (w.drew.alloc (.view ⟨g,0,none⟩ (ρ.t 5))):=
     Lib.run_unsafeSliceData_zero w.drew _ _ (ρ.t 5) L.t127 ⟨g,0,none⟩ 0 ((ρ.t 5),cur.size) (by have Gz:w.drew.heap[g]? =some (.cells cur (ρ.t 5) (0,0)):=hg;simp [World.shape?,Gz])
    have c2:(w.drew.alloc (.view ⟨g,0,none⟩ (ρ.t 5))).cell? ⟨b,1,none⟩=some (.slice (some ⟨g,0,none⟩) 0 0):=by
     have:(w.drew.alloc (.view ⟨g,0,none⟩ (ρ.t 5))).heap[b]? =_:=(Lib.alloc_old w.drew _ b aq).trans xn
     rw[Lib.cell_of_heap this];rfl
    have c3:(w.alloc (.view ⟨g,0,none⟩ (ρ.t 5))).drew.cell? ⟨b,1,none⟩=some (.slice (some ⟨g,0,none⟩) 0 0):=c2
    have c0:w.cell? ⟨b,1,none⟩=some (.slice (some ⟨g,0,none⟩) 0 0):=c1
    go_enter L.f169,Body.n169_ntmps ρ
    go_wp2
    go_region_o
    all_goals(go_wp2;go_ret;exact⟨rfl,(gE.drew w).trans (gE.alloc _ _)⟩)
   ·have ZA:=Any.unsafeString_none L X
    have c1:w.drew.cell? ⟨b,1,none⟩=some (.slice (some ⟨g,0,none⟩) 0 cap):=by
     have:w.drew.heap[b]? =some (.cells #[p,.slice (some ⟨g,0,none⟩) 0 cap] (ρ.t 72) (0,0)):=xn
     rw[Lib.cell_of_heap this];rfl
    have Zy:(Builtin.unsafeSliceData_ #[(ρ.t 37)] (ρ.t 127) #[.slice (some ⟨g,0,none⟩) 0 cap]).run P w.drew= .ok (.pointer (some ⟨g,0,none⟩)) w.drew:=
     Lib.run_unsafeSliceData_row _ _ _ _ _ _ ZD
    clear ZD
    go_enter L.f169,Body.n169_ntmps ρ
    go_wp2
    go_region_o
    all_goals(go_wp2;go_ret;exact⟨rfl,gE.drew w⟩)
  ·have h0:l≠ []:=fun e=>CA (by rw[e];rfl)
   have c1:w.drew.cell? ⟨b,1,none⟩=some (.slice (some ⟨g,0,none⟩) l.length cap):=by
    have:w.drew.heap[b]? =some (.cells #[p,.slice (some ⟨g,0,none⟩) l.length cap] (ρ.t 72) (0,0)):=xn
    rw[Lib.cell_of_heap this];rfl
   have Zy:(Builtin.unsafeSliceData_ #[(ρ.t 37)] (ρ.t 127) #[.slice (some ⟨g,0,none⟩) l.length cap]).run P w.drew= .ok (.pointer (some ⟨g,0,none⟩)) w.drew:=
    Lib.run_unsafeSliceData_row _ _ _ _ _ _ (by omega)
   have ZA:(Builtin.unsafeString_ #[(ρ.t 127),(ρ.t 3)] (ρ.t 9) #[.pointer (some ⟨g,0,none⟩),.int .i64 l.length]).run P w.drew= .ok (.string ⟨l.toArray⟩) (w.drew.freeze ⟨g,0,none⟩ l.length):=by
    refine Lib.run_unsafeString_row w.drew (ρ.t 127) (ρ.t 3) (ρ.t 9) (ρ.t 5) L.t127 X.cellsByte g cur.size (by have Gz:w.drew.heap[g]? =some (.cells cur (ρ.t 5) (0,0)):=hg;simp [World.shape?,Gz]) l h0 (by omega) (by unfold maxLen at sk;omega) ?_
    intro j x hx
    have:=bS.cells (g:=g) rfl j (.int .u8 x.toNat) (by simp [Lib.byteCells,hx])
    exact this
   go_enter L.f169,Body.n169_ntmps ρ
   go_wp2
   go_region_o
   all_goals(go_wp2;go_ret;exact⟨rfl,(gE.drew w).trans (gE.freeze _ _ rfl _)⟩)
end Go.Ref

namespace Go.Ref
open Go
inductive SV where
 |undef
 |skip
 |cF
 |dT
 |aj (t:Ty) (x:El t) (own:List (List Nat))
 |ptr (id:Nat) (t:Ty) (p:List Nat)
 |view (t:Ty) (x:El t)
 |cap (f:Nat) (t:Ty) (x:El t) (u:Ty) (y:El u)
 |over
 |bz (id:Nat) (a b:Ty) (j:Nat)
def Ty.qx:Ty->Bool
 | .aJ (.gF _ _) _ _=>false
 | .aJ _ _ _=>true
 |_=>false
def Ty.bG:Ty->Bool
 | .aJ _ _ _=>true
 |_=>false
def SV.bL:SV->Bool
 | .bz _ _ _ _=>true
 |_=>false
structure bC where
 t:Ty
 x:El t
 own:List (List Nat)
structure State where
 sl:List (List SV)
 bs:List (Option bC)
def m3(a:Ty):List Nat->Nat
 |0::q=>a.off q
 | [1]=>a.cells
 | [1,i]=>a.cells+i
 | [2]=>a.cells+2
 |_=>0
def gIn(a:Ty):List Nat->Prop
 | []=>True
 |0::q=>a.eK q
 | [1]=>True
 | [1,i]=>i<2
 | [2]=>True
 |_=>False
def BL:List (List Nat):=[[2]]
def kW:List (List Nat):=[[0],[1],[0,2],[1,2]]
def Ty.eL:Ty->Bool
 | .aJ .bN _ _=>true
 |_=>false
structure Env where
 ty:TypeId->Option Ty
 bytes:TypeId->Nat
 pt:TypeId->Bool
 dx:Nat->List Nat
 lu:Nat->List Nat
 outs:List Nat
 ps:List Ty
 mp:TypeId->Option (TypeId×TypeId):=fun _=>none
 join:Nat->Option (List Nat):=fun _=>none
 fz:Nat->Option (Nat×TypeId):=fun _=>none
 dr:Nat->List Nat:=fun _=>[]
 sh:List Nat:=[]
 ro:Bool:=false
 mv:List Nat:=[]
 fr:Nat->List Nat:=fun _=>[]
 bl:TypeId->Option TypeId:=fun _=>none
 gr:TypeId->Option (Ty×Ty):=fun _=>none
 ga:TypeId->Bool:=fun _=>false
 sg:Option (Nat×Nat×Nat):=none
 sp:Option (Nat×Nat×Nat×Nat):=none
def Ty.hG:Ty->Bool
 | .unit=>true
 | .pair (.int _) b=>b.hG
 |_=>false
def Ty.isKey:Ty->Bool
 | .bool| .int _| .str=>true
 | .pair a b=>(Ty.pair a b).hG
 |_=>false
def vq:(t:Ty)->El t->El t->Bool
 | .pair (.int _) b,x,y=>decide (x.1=y.1)&&vq b x.2 y.2
 |_,_,_=>true
def gd:(t:Ty)->El t->El t->Bool
 | .bool,x,y=>decide (x=y)
 | .int _,x,y=>decide (x=y)
 | .str,x,y=>decide (x=y)
 | .pair a b,x,y=>vq (.pair a b) x y
 |_,_,_=>false
def fg{K V:Type}(eq:K->K->Bool)(d:V):List (K×V)->K->V
 | [],_=>d
 |q::r,k=>bif eq k q.1 then q.2 else fg eq d r k
def fh{K V:Type}(eq:K->K->Bool):List (K×V)->K->Bool
 | [],_=>false
 |q::r,k=>bif eq k q.1 then true else fh eq r k
section
variable {R:Type}
abbrev bV(R:Type):=List SV->Option bC->(List SV->Option bC->Option R)->Option R
def SV.el(s:SV)(u:Ty)(K:El u->Option R):Option R:=
 match s with
 | .aj t x _=>if h:t.cp u=true then K (Ty.cast h x) else none
 | .cF=>match u with
   | .sl _ _=>K []
   |_=>none
 |_=>none
def BD:Value->SV
 | .bool b=> .aj .bool b []
 | .int k n=> .aj (.int k) n []
 | .string s=> .aj .str s []
 | .slice none 0 0=> .cF
 | .pointer none=> .dT
 |_=> .undef
def State.slot(s:State)(t:Nat):List SV:=s.sl.getD t [.undef]
def State.xK(s:State):Operand->List SV
 | .tmp t=>s.slot t
 | .const v=>[BD v]
 |_=>[.undef]
def one:List SV->SV
 | [x]=>x
 |_=> .undef
def State.aG(s:State)(x:Operand):SV:=one (s.xK x)
def State.box(s:State)(id:Nat):Option bC:=(s.bs.getD id none)
def SV.shut:SV->SV
 | .aj t x _=> .aj t x []
 | .bz _ _ _ _=> .undef
 |v=>v
def SV.own:SV->List (List Nat)
 | .aj _ _ o=>o
 | .cF=>[[]]
 |_=>[]
def bO:List SV->Nat->List SV
 | [],_=>[]
 |v::r,0=>v.shut::r
 |v::r,j+1=>v::bO r j
structure Out where
 v:List SV
 bx:Option (Nat×bC):=none
 cl:List (Nat×Nat):=[]
def State.close(s:State):List (Nat×Nat)->State
 | []=>s
 |(i,j)::r=>State.close {s with sl:=s.sl.set i (bO (s.slot i) j)} r
def State.aC(s:State):Option (Nat×bC)->State
 |some (id,B)=>{s with bs:=s.bs.set id (some B)}
 |none=>s
def State.au(s:State):Option Nat->List SV->State
 |some d,v=>{s with sl:=s.sl.set d v}
 |none,_=>s
def State.apply(s:State)(dst:Option Nat)(o:Out):State:=((s.close o.cl).aC o.bx).au dst o.v
def uV:Operand->Option Nat
 | .tmp t=>some t
 |_=>none
def src:Operand->List (Nat×Nat)
 | .tmp t=>[(t,0)]
 |_=>[]
def aQ(op:BinOp)(k:IntKind)(a b:Int):Int:=
 match op with
 | .and=>k.wrap ((BitVec.ofInt k.bits a&&&BitVec.ofInt k.bits b).toNat:Nat)
 | .or=>k.wrap ((BitVec.ofInt k.bits a|||BitVec.ofInt k.bits b).toNat:Nat)
 | .xor=>k.wrap ((BitVec.ofInt k.bits a^^^BitVec.ofInt k.bits b).toNat:Nat)
 |_=>k.wrap ((BitVec.ofInt k.bits a&&& ~~~ BitVec.ofInt k.bits b).toNat:Nat)
def dI:(t:Ty)->El t->El t->Option Bool
 | .bool,x,y=>some (x==y)
 | .int _,x,y=>some (decide (x=y))
 | .str,x,y=>some (decide (x=y))
 | .unit,_,_=>some true
 | .arr _ (.int _),x,y=>some (decide ((x:List Int)=y))
 | .pair a b,x,y=>match dI a x.1 y.1,dI b x.2 y.2 with
   |some p,some q=>some (p&&q)
   |_,_=>none
 |_,_,_=>none
def i64(n:Int):List SV:=[.aj (.int .i64) n []]
def bl(b:Bool):List SV:=[.aj .bool b []]
def rB(op:BinOp)(k:IntKind)(a:Int)(k':IntKind)(b:Int)(K:List SV->Option R):Option R:=
 match op with
 | .shl=>bif decide (b<0) then none else K [.aj (.int k) (k.wrap (a*2^min b.toNat k.bits)) []]
 | .shr=>bif decide (b<0) then none else K [.aj (.int k) (a.fdiv (2^min b.toNat k.bits)) []]
 |_=>if k=k' then
  match op with
  | .add=>K [.aj (.int k) (k.wrap (a+b)) []]
  | .sub=>K [.aj (.int k) (k.wrap (a-b)) []]
  | .mul=>K [.aj (.int k) (k.wrap (a*b)) []]
  | .quo=>bif decide (b=0) then none else K [.aj (.int k) (k.wrap (a.tdiv b)) []]
  | .rem=>bif decide (b=0) then none else K [.aj (.int k) (a.tmod b) []]
  | .and| .or| .xor| .andNot=>K [.aj (.int k) (aQ op k a b) []]
  | .eql=>K (bl (decide (a=b)))
  | .neq=>K (bl (!decide (a=b)))
  | .lss=>K (bl (decide (a<b)))
  | .leq=>K (bl (decide (a<=b)))
  | .gtr=>K (bl (decide (b<a)))
  | .geq=>K (bl (decide (b<=a)))
  |_=>none
  else none
def rC(op:BinOp)(a b:ByteArray)(K:List SV->Option R):Option R:=
 match op with
 | .add=>bif decide (a.size+b.size<=9223372036854775807) then K [.aj .str (a++b) []] else none
 | .eql=>K (bl (decide (a=b)))
 | .neq=>K (bl (!decide (a=b)))
 | .lss=>K (bl (Op.bytesLess a.toList b.toList))
 | .leq=>K (bl (Op.bytesLess a.toList b.toList||decide (a=b)))
 | .gtr=>K (bl (!(Op.bytesLess a.toList b.toList||decide (a=b))))
 | .geq=>K (bl (!(Op.bytesLess a.toList b.toList)))
 |_=>none
def Ty.depth:Ty->Nat
 | .arr _ t=>t.depth+1
 | .pair a b=>max (a.depth+1) b.depth
 |_=>1
def rA(E:Env)(op:BinOp)(T:TypeId)(x y:SV)(K:List SV->Option R):Option R:=
 match E.ty T with
 |some t=>if Nat.ble t.depth 1000=false then none else x.el t fun a=>y.el t fun b=>match dI t a b with
  |some r=>match op with
   | .eql=>K (bl r)
   | .neq=>K (bl (!r))
   |_=>none
  |none=>none
 |none=>none
def bin(E:Env)(op:BinOp)(T:TypeId)(x y:SV)(K:List SV->Option R):Option R:=
 match x,y with
 | .aj (.int k) a _,.aj (.int k') b _=>rB op k a k' b K
 | .aj .str a _,.aj .str b _=>rC op a b K
 | .ptr _ t _,.dT=>if((t.bG&& !t.eL)|| !E.pt T)=true then none else match op with
   | .eql=>K (bl false)
   | .neq=>K (bl true)
   |_=>none
 | .dT,.dT=>if E.pt T=false then none else match op with
   | .eql=>K (bl true)
   | .neq=>K (bl false)
   |_=>none
 |x,y=>rA E op T x y K
def ze(s:ByteArray)(i:Nat):Int:=if h:i<s.size then((s[i]'h).toNat:Int) else 0
def strOf(xs:List Int):ByteArray:=⟨(xs.map fun x=>UInt8.ofNat x.toNat).toArray⟩
def zd(i:Int)(n:Nat)(K:Option R):Option R:=bif decide (0<=i) then bif decide (i<(n:Int)) then K else none else none
def yj(lo:Option SV)(h:Nat)(K:Nat->Option R):Option R:=
 match lo with
 |none=>K 0
 |some v=>v.el (.int .i64) fun l=>bif decide (0<=l) then bif decide (l<=(h:Int)) then K l.toNat else none else none
def cutAt(lo hi:Option SV)(n:Nat)(K:Nat->Nat->Option R):Option R:=
 match hi with
 |none=>yj lo n fun l=>K l n
 |some v=>v.el (.int .i64) fun h=>bif decide (0<=h) then bif decide (h<=(n:Int)) then yj lo h.toNat (fun l=>K l h.toNat) else none else none
def Ty.kO:Ty->Nat->Bool
 | .arr n _,i=>Nat.ble (i+1) n
 |_,_=>true
def yg(own:List (List Nat))(p:List Nat):List (List Nat):=own.filter fun q=> !(p.isPrefixOf q)
def gK(own:List (List Nat))(p:List Nat):Bool:=own.any fun q=>q==p
def R0(own:List (List Nat))(p:List Nat):List (List Nat):=(own.filter fun q=>p.isPrefixOf q).map fun q=>q.drop p.length
def bump:List Nat->Option (List Nat)
 | []=>none
 |j::p=>some ((j+1)::p)
def yb:Ty->List (List Nat)
 | .sl _ _=>[[]]
 | .pair a b=>(yb a).map (fun p=>0::p)++(yb b).filterMap bump
 |_=>[]
def rY(t:Ty):El t->List (List Nat)->List (Nat×SV×List (List Nat))->(El t->List (List Nat)->Option R)->Option R
 |x,own,[],K=>K x own
 |x,own,(i,v,ov)::r,K=>if t.kO i=false then none else match t.at_ [i] with
  |some u=>v.el u fun y=>match El.set t [i] x u y with
   |some z=>rY t z (ov.map (fun p=>i::p)++yg own [i]) r K
   |none=>none
  |none=>none
def yf(o:List (List Nat))(x:Operand):List (Nat×Nat):=
 match o with
 | []=>[]
 |_::_=>src x
def z21:State->List (Nat×Operand)->List (Nat×SV×List (List Nat))×List (Nat×Nat)
 |_,[]=>([],[])
 |s,(i,x)::r=>((i,s.aG x,(s.aG x).own)::(z21 (s.close (yf (s.aG x).own x)) r).1,yf (s.aG x).own x++(z21 (s.close (yf (s.aG x).own x)) r).2)
def BJ(t:Ty):List (El t)->List (Nat×SV)->(List (El t)->Option R)->Option R
 |xs,[],K=>K xs
 |xs,(i,v)::r,K=>if Nat.ble (i+1) xs.length=false then none else v.el t fun y=>BJ t (xs.set i y) r K
def YU(ops:List Oper)(d:Option Nat):Bool:=
 match d with
 |some d=>ops.any fun o=>match o.op with
  | .call ⟨.builtin .append,args,_⟩=>match args.toList with
    | .tmp t::_=>Nat.beq t d
    |_=>false
  |_=>false
 |none=>false
def PC(ops:List Oper)(d:Option Nat):Bool:=
 match d with
 |some d=>ops.any fun o=>match o.op,o.dst with
  | .indexAddr _ (.tmp t) _,some a=>Nat.beq t d&&ops.any fun q=>match q.op with
    | .store _ (.tmp b) _=>Nat.beq a b
    |_=>false
  |_,_=>false
 |none=>false
def AZ(E:Env)(ops:List Oper)(d:Option Nat):Bool:=
 match d with
 |some d=>ops.any fun o=>match o.op with
  | .store _ (.tmp r) (.tmp t)=>Nat.beq t d&&E.outs.any (Nat.beq r)
  |_=>false
 |none=>false
def getM{α:Type}(j:Nat)(m:Option α×Option α):Option α:=bif Nat.beq j 0 then m.1 else bif Nat.beq j 1 then m.2 else none
def fN{α:Type}(j:Nat)(y:Option α)(m:Option α×Option α):Option α×Option α:=bif Nat.beq j 0 then(y,m.2) else(m.1,y)
def nP(s:State)(id:Nat)(a b:Ty)(K:El (.aJ .bN a b)->List (List Nat)->Option R):Option R:=
 match s.box id with
 |some B=>if h:B.t.cp (.aJ .bN a b)=true then bif kW.all (gK B.own) then K (Ty.cast h B.x) B.own else none else none
 |none=>none
def FT(u':Ty)(s:State)(id:Nat)(t:Ty)(p:List Nat)(K:Out->Option R):Option R:=
 match t,p with
 | .aJ .row a b,[i]=>match s.box id with
   |some B=>if h:B.t.cp (.aJ .row a b)=true then if u'.cp a=true then
     bif Nat.ble (i+1) (List.length (Ty.cast h B.x:List (El a))) then K {v:=[.aj a (List.getD (Ty.cast h B.x:List (El a)) i (El.bT a)) []]} else none
    else none else none
   |none=>none
 | .aJ .bN a b,[0]=>if u'.cp a=true then nP s id a b fun x _=>K {v:=[.aj a x.1 []]} else none
 | .aJ .bN a b,[2]=>if u'.cp (.int .i64)=true then nP s id a b fun x _=>K {v:=i64 x.2.2} else none
 |_,_=>none
def Fw(u:Ty)(s:State)(id:Nat)(t:Ty)(p:List Nat)(v:SV)(K:Out->Option R):Option R:=
 match t,p with
 | .aJ .row a b,[i]=>match s.box id with
   |some B=>if h:B.t.cp (.aJ .row a b)=true then if a.cp u=true then
     v.el a fun y=>bif Nat.ble (i+1) (List.length (Ty.cast h B.x:List (El a))) then K {v:=[.skip],bx:=some (id,⟨.aJ .row a b,(List.set (Ty.cast h B.x:List (El a)) i y:List (El a)),[]⟩)} else none
    else none else none
   |none=>none
 | .aJ .bN a b,0::q=>match a.at_ q with
   |some u'=>if u'.cp u=true then nP s id a b fun x own=>v.el u fun y=>match El.set a q x.1 u y with
     |some z=>bif gK own [] then K {v:=[.skip],bx:=some (id,⟨.aJ .bN a b,(z,x.2),own⟩)} else none
     |none=>none
    else none
   |none=>none
 | .aJ .bN a b,[2]=>if u.cp (.int .i64)=true then nP s id a b fun x own=>v.el (.int .i64) fun n=>bif gK own [] then K {v:=[.skip],bx:=some (id,⟨.aJ .bN a b,(x.1,x.2.1,n),own⟩)} else none else none
 |_,_=>none
def HJ(v:SV)(j:Nat)(ta tb:Ty)(K:Out->Option R):Option R:=
 match v with
 | .ptr id (.aJ .bN a b) []=>if(a.cp ta&&b.cp tb)=true then bif Nat.ble j 2 then K {v:=[.ptr id (.aJ .bN a b) [j]]} else none else none
 |_=>none
def Qh(t:Ty)(n:Int)(id:Nat)(r:Ty)(p:List Nat)(K:Out->Option R):Option R:=
 match r,p with
 | .aJ (.iP m) a b,[]=>if a.cp t=true then zd n m (K {v:=[.ptr id (.aJ .row a b) [n.toNat]]}) else none
 |_,_=>none
def Hy(u':Ty)(B:bC)(t:Ty)(p:List Nat)(K:Out->Option R):Option R:=
 match t,p with
 | .arr n e,[]=>if h:B.t.cp (.aJ .row e .unit)=true then if u'.cp (.arr n e)=true then
    bif Nat.beq n (List.length (Ty.cast h B.x:List (El e))) then K {v:=[.aj (.arr n e) (Ty.cast h B.x:List (El e)) []]} else none
   else none else none
 |_,_=>none
def ko(E:Env)(T:TypeId)(s:State)(v:SV)(K:Out->Option R):Option R:=
 match v with
 | .ptr id (.aJ .bN a b) [1,j]=>if E.pt T=true then nP s id a b fun x own=>bif gK own [] then K {v:=[.bz id a b j],bx:=some (id,⟨.aJ .bN a b,x,own.filter fun q=> !q.isEmpty⟩)} else none else none
 |_=>none
def load(E:Env)(T:TypeId)(s:State)(la:Bool)(a:SV)(K:Out->Option R):Option R:=
 match E.ty T with
 |some u'=>match a with
  | .view t x=>if u'.cp t=true then K {v:=[.aj t x []]} else none
  | .ptr id t p=>if t.bG=true then FT u' s id t p K else match s.box id with
    |some B=>if B.t.cp t=true then
      match El.get B.t p B.x with
      |some ⟨u,y⟩=>if u'.cp u=true then
        bif la then K {v:=[.aj u y (R0 B.own p)],bx:=some (id,{B with own:=yg B.own p})} else K {v:=[.aj u y []]}
       else none
      |none=>none
     else Hy u' B t p K
    |none=>none
  |_=>none
 |none=>ko E T s a K
def store(E:Env)(T:TypeId)(s:State)(a:SV)(vo:Operand)(K:Out->Option R):Option R:=
 match E.ty T with
 |some u=>match a with
  | .ptr id t p=>if t.bG=true then Fw u s id t p (s.aG vo) K else match s.box id with
    |some B=>if B.t.cp t=true then
      match t.at_ p with
      |some u'=>if u'.cp u=true then
        (s.aG vo).el u fun y=>match El.set B.t p B.x u y with
        |some z=>K {v:=[.skip],bx:=some (id,{t:=B.t,x:=z,own:=(s.aG vo).own.map (fun q=>p++q)++yg B.own p}),cl:=src vo}
        |none=>none
       else none
      |none=>none
     else none
    |none=>none
  |_=>none
 |none=>none
def Ty.dk:Ty->Bool
 | .pair .. =>true
 |_=>false
def Hv(u:Ty)(id:Nat)(t:Ty)(p:List Nat)(j:Nat)(K:Out->Option R):Option R:=
 match t,p with
 | .aJ .bN a b,0::q=>match a.at_ q with
   |some u'=>if(u.cp u'&&u.dk)=true then match u.at_ [j] with
     |some f=>if Nat.beq f.cells 0=true then none else K {v:=[.ptr id (.aJ .bN a b) (0::(q++ [j]))]}
     |none=>none
    else none
   |none=>none
 |_,_=>none
def z91(m:Nat)(t:Ty)(n:Int)(id:Nat)(r:Ty)(p:List Nat)(K:Out->Option R):Option R:=
 match r,p with
 | .aJ .bN a b,0::q=>match a.at_ q with
   |some u=>if u.cp (.arr m t)=true then zd n m (K {v:=[.ptr id (.aJ .bN a b) (0::(q++ [n.toNat]))]}) else none
   |none=>none
 |_,_=>none
def RT(t?:Option Ty)(a:SV)(j:Nat)(K:Out->Option R):Option R:=
 match t?,a with
 |some u,.ptr id t p=>if t.bG=true then Hv u id t p j K else match t.at_ p with
  |some u'=>if(u.cp u'&&u.dk)=true then match u.at_ [j] with
    |some f=>if Nat.beq f.cells 0=true then none else K {v:=[.ptr id t (p++ [j])]}
    |none=>none
   else none
  |none=>none
 |some u,.view t x=>if(u.cp t&&u.dk)=true then match El.get t [j] x with
   |some ⟨f,y⟩=>if Nat.beq f.cells 0=true then none else K {v:=[.view f y]}
   |none=>none
  else none
 |_,_=>none
def SV.num(s:SV)(K:Int->Option R):Option R:=
 match s with
 | .aj (.int _) n _=>K n
 |_=>none
def RV(E:Env)(T:TypeId)(a i:SV)(K:Out->Option R):Option R:=
 i.num fun n=>match E.ty T,a with
  |some (.sl e t),.aj t' xs _=>(SV.aj t' xs []).el (.sl e t) fun ys=>zd n ys.length (K {v:=[.view t (List.getD ys n.toNat (El.bT t))]})
  |some (.arr m t),.ptr id r p=>if r.bG=true then z91 m t n id r p K else match r.at_ p with
   |some u=>if u.cp (.arr m t)=true then zd n m (K {v:=[.ptr id r (p++ [n.toNat])]}) else none
   |none=>none
  |some (.arr m t),.view t' xs=>(SV.aj t' xs []).el (.arr m t) fun ys=>zd n m (K {v:=[.view t (List.getD ys n.toNat (El.bT t))]})
  |some (.sl _ t),.ptr id r p=>Qh t n id r p K
  |none,.ptr id (.aJ .bN a b) [1]=>if E.ga T=true then zd n 2 (K {v:=[.ptr id (.aJ .bN a b) [1,n.toNat]]}) else none
  |_,_=>none
def RW(E:Env)(T:TypeId)(a i:SV)(K:Out->Option R):Option R:=
 i.num fun n=>match E.ty T with
  |some .str=>a.el .str fun s=>zd n s.size (K {v:=[.aj (.int .u8) (ze s n.toNat) []]})
  |some (.arr m t)=>a.el (.arr m t) fun ys=>zd n m (K {v:=[.aj t (List.getD ys n.toNat (El.bT t)) []]})
  |_=>none
def rE(E:Env)(T:TypeId)(a:SV)(lo hi:Option SV)(K:Out->Option R):Option R:=
 match E.ty T with
 |some .str=>a.el .str fun s=>cutAt lo hi s.size fun l h=>K {v:=[.aj .str (s.extract l h) []]}
 |some (.sl e t)=>a.el (.sl e t) fun xs=>cutAt lo hi (List.length xs) fun l h=>K {v:=[.aj (.sl e t) ((List.take h xs).drop l) []]}
 |_=>none
def Ri(E:Env)(T U:TypeId)(bo:Operand)(b x:SV)(K:Out->Option R):Option R:=
 if Nat.beq T U=false then none else
 match E.ty T with
 |some (.sl e t)=>if(Nat.beq (E.bytes e) 0||Nat.beq t.cells 0)=true then none else match b with
  | .cF=>x.el (.sl e t) fun ys=>bif decide (List.length ys*E.bytes e<=140737488355328) then K {v:=[.aj (.sl e t) ys [[]]]} else none
  | .aj t' xs o=>if gK o []=false then none else(SV.aj t' xs o).el (.sl e t) fun xs=>x.el (.sl e t) fun ys=>
    bif decide ((List.length xs+List.length ys)*E.bytes e<=140737488355328) then K {v:=[.aj (.sl e t) (xs++ys:List (El t)) [[]]],cl:=src bo} else none
  |_=>none
 |_=>none
def uI(E:Env)(T:TypeId)(x:SV)(K:Out->Option R):Option R:=
 match E.ty T with
 |some .str=>x.el .str fun s=>K {v:=i64 (s.size:Int)}
 |some (.sl e t)=>match x with
  | .ptr _ (.aJ (.iP n) _ _) []=>K {v:=i64 (n:Int)}
  |x=>x.el (.sl e t) fun xs=>K {v:=i64 (List.length xs:Int)}
 |some (.arr n _)=>K {v:=i64 (n:Int)}
 |_=>none
def ll(E:Env)(S T:TypeId)(x:SV)(K:Out->Option R):Option R:=
 match E.ty S,E.ty T with
 |some (.int k),some (.int k')=>x.el (.int k) fun n=>K {v:=[.aj (.int k') (k'.wrap n) []]}
 |some .str,some .str=>x.el .str fun s=>K {v:=[.aj .str s []]}
 |some (.sl e (.int .u8)),some .str=>x.el (.sl e (.int .u8)) fun xs=>K {v:=[.aj .str (strOf xs) []]}
 |_,_=>none
def j9(E:Env)(S T:TypeId)(s:State)(id n:Nat)(a b:Ty)(K:Out->Option R):Option R:=
 match E.ty S,E.ty T with
 |some (.sl _ (.int .u8)),some .str=>if a.cp (.int .u8)=true then match s.box id with
  |some B=>if h:B.t.cp (.aJ .row (.int .u8) b)=true then bif Nat.beq n (List.length (Ty.cast h B.x:List Int)) then K {v:=[.aj .str (strOf (Ty.cast h B.x:List Int)) []]} else none else none
  |none=>none else none
 |_,_=>none
def nk(E:Env)(T:TypeId):Option (Ty×Ty):=
 match E.mp T with
 |some (k,e)=>match E.ty k,E.ty e with
  |some kt,some vt=>if kt.isKey=true then some (kt,vt) else none
  |_,_=>none
 |none=>none
def kq(s:State)(dst:Option Nat)(t:Ty)(x:El t)(p:Ty)(K:Out->Option R):Option R:=
 match dst with
 |some d=>match s.bs[d+1]? with
  |some none=>K {v:=[.ptr (d+1) p []],bx:=some (d+1,⟨t,x,[]⟩)}
  |_=>none
 |none=>none
def vR(s:State)(m:SV)(kt vt:Ty)(K:Nat->List (El kt×El vt)->Option R):Option R:=
 match m with
 | .ptr id (.aJ .mp kt' vt') []=>if((Ty.aJ .mp kt' vt').cp (.aJ .mp kt vt))=true then match s.box id with
   |some B=>if h:B.t.cp (.aJ .mp kt vt)=true then K id (Ty.cast h B.x) else none
   |none=>none else none
 |_=>none
def lv(E:Env)(T:TypeId)(s:State)(m i:SV)(K:Out->Option R):Option R:=
 match nk E T with
 |some (kt,vt)=>vR s m kt vt fun _ xs=>i.el kt fun k=>K {v:=[.aj vt (fg (gd kt) (El.bT vt) xs k) []]}
 |none=>none
def mo(E:Env)(T:TypeId)(s:State)(m i v:SV)(K:Out->Option R):Option R:=
 match nk E T with
 |some (kt,vt)=>vR s m kt vt fun id xs=>i.el kt fun k=>v.el vt fun y=>bif fh (gd kt) xs k then none else K {v:=[.skip],bx:=some (id,⟨.aJ .mp kt vt,(xs++ [(k,y)]:List (El kt×El vt)),[]⟩)}
 |none=>none
def kh:Ty:= .aJ .iter .unit .unit
def lA(s:State)(m:SV)(K:Out->Option R):Option R:=
 match m with
 | .ptr id (.aJ .iter .unit .unit) []=>match s.box id with
   |some B=>if h:B.t.cp kh=true then
     bif decide ((Ty.cast h B.x:ByteArray×Nat).2<(Ty.cast h B.x:ByteArray×Nat).1.size) then
      K {v:=[.aj .bool true [],.aj (.int .i64) ((Ty.cast h B.x:ByteArray×Nat).2:Int) [],.aj (.int .i32) ((Utf8.decode (Ty.cast h B.x:ByteArray×Nat).1 (Ty.cast h B.x:ByteArray×Nat).2).1:Int) []],
         bx:=some (id,⟨kh,((Ty.cast h B.x:ByteArray×Nat).1,(Ty.cast h B.x:ByteArray×Nat).2+(Utf8.decode (Ty.cast h B.x:ByteArray×Nat).1 (Ty.cast h B.x:ByteArray×Nat).2).2),[]⟩)}
     else K {v:=[.over]}
    else none
   |none=>none
 |_=>none
def OR:Operand->Bool
 | .const _=>true
 |_=>false
def lz(E:Env)(T:TypeId)(s:State)(dst:Option Nat)(lo:Operand)(l c:SV)(K:Out->Option R):Option R:=
 match E.ty T with
 |some (.sl e t)=>if(Nat.beq (E.bytes e) 0||Nat.beq t.cells 0)=true then none else l.el (.int .i64) fun n=>c.el (.int .i64) fun m=>
  bif OR lo then
   bif decide (n=0) then bif decide (0<=m) then bif decide (m*E.bytes e<=140737488355328) then K {v:=[.aj (.sl e t) ([]:List (El t)) [[]]]} else none else none else none
  else bif decide (n=m) then bif decide (0<=n) then bif decide (n*E.bytes e<=140737488355328) then kq s dst (.aJ .row t .unit) (List.replicate n.toNat (El.bT t):List (El t)) (.aJ (.iP n.toNat) t .unit) K else none else none else none
 |_=>none
def Lt(op:UnOp)(x:SV)(K:Out->Option R):Option R:=
 match op,x with
 | .not,.aj .bool b _=>K {v:=bl (!b)}
 | .neg,.aj (.int k) n _=>K {v:=[.aj (.int k) (k.wrap (0-n)) []]}
 |_,_=>none
def mW(f:FuncId)(x:SV)(K:Out->Option R):Option R:=
 match x with
 | .ptr id u []=>if u.qx=true then none else K {v:=[.ptr id (.aJ (.sj f) u .unit) []]}
 |_=>none
def tV(n id:Nat)(a b:Ty)(lo hi:Option SV)(K:Out->Option R):Option R:=
 match hi with
 |some _=>none
 |none=>yj lo n fun l=>K {v:=[.ptr id (.aJ (.iP n) a b) [l]]}
def rD(E:Env)(T:TypeId)(s:State)(id n:Nat)(t:Ty)(lo hi:Option SV)(K:Out->Option R):Option R:=
 match E.ty T,lo,hi with
 |some u,none,none=>if u.cp (.arr n t)=true then match s.box id with
  |some B=>if h:B.t.cp (.arr n t)=true then K {v:=[.ptr id (.aJ (.iP n) t .unit) []],bx:=some (id,⟨.aJ .row t .unit,(Ty.cast h B.x:List (El t)),[]⟩)} else none
  |none=>none else none
 |_,_,_=>none
def nO(s:ByteArray):List Int:=s.data.toList.map fun c=>(c.toNat:Int)
def bY{α:Type}(xs ys:List α)(lo:Nat):List α:=xs.take lo++(ys++xs.drop (lo+ys.length))
def iu(t:Ty)(s:State)(id n lo:Nat)(a b:Ty)(x:SV)(e:TypeId)(K:Out->Option R):Option R:=
 if a.cp t=true then x.el (.sl e t) fun(ys:List (El t))=>match s.box id with
  |some B=>if h:B.t.cp (.aJ .row t b)=true then
    bif Nat.beq n (List.length (Ty.cast h B.x:List (El t))) then bif Nat.ble lo n then
     K {v:=i64 ((ys.take (n-lo)).length:Int),bx:=some (id,⟨.aJ .row t b,(bY (Ty.cast h B.x:List (El t)) (ys.take (n-lo)) lo:List (El t)),[]⟩)}
    else none else none
   else none
  |none=>none else none
def ka(t:Ty)(s:State)(id n:Nat)(a b:Ty)(y:ByteArray)(K:Out->Option R):Option R:=
 if t.cp (.int .u8)=true then if a.cp (.int .u8)=true then match s.box id with
  |some B=>if h:B.t.cp (.aJ .row (.int .u8) b)=true then
    bif Nat.beq n (List.length (Ty.cast h B.x:List Int)) then
     K {v:=i64 ((List.take n (nO y)).length:Int),bx:=some (id,⟨.aJ .row (.int .u8) b,(bY (Ty.cast h B.x:List Int) (List.take n (nO y)) 0:List Int),[]⟩)}
    else none
   else none
  |none=>none else none else none
def copyV(E:Env)(T:TypeId)(s:State)(d x:SV)(K:Out->Option R):Option R:=
 match E.ty T,d with
 |some (.sl e t),.ptr id (.aJ (.iP n) a b) []=>(match x with
  | .aj .str y _=>ka t s id n a b y K
  |x=>iu t s id n 0 a b x e K)
 |some (.sl e t),.ptr id (.aJ (.iP n) a b) [l]=>iu t s id n l a b x e K
 |_,_=>none
def K8(t b:Ty):Bool:=
 b.cp t||(match t with
  | .aJ (.sj _) u _=>b.cp u
  |_=>false)
def jt(s:State):List SV->Option (List SV×Option (Nat×bC))
 | []=>some ([],none)
 |v::r=>match jt s r with
  |none=>none
  |some (l,b)=>match v,b with
   | .aj t x _,b=>some (.aj t x []::l,b)
   | .cF,b=>some (.cF::l,b)
   | .view t x,b=>some (.view t x::l,b)
   | .ptr id t [],none=>match s.box id with
     |some B=>if K8 t B.t=true then some (.ptr 0 t []::l,some (id,B)) else none
     |none=>none
   |_,_=>none
def SV.gy(id:Nat):SV->SV
 | .ptr _ t p=> .ptr id t p
 |v=>v
def Gd(s:State):List Operand->Option (Nat×Nat×Ty×Ty×Nat×List Operand)
 | .tmp t::r=>match s.slot t with
   | [.bz id a b j]=>some (t,id,a,b,j,r)
   |_=>none
 |_=>none
def j7(C:FuncId->bV R)(s:State)(f:FuncId)(t id:Nat)(a b:Ty)(j:Nat)(vs:List SV)(K:Out->Option R):Option R:=
 if b.bG=true then none else match jt s vs with
 |some (l,none)=>nP s id a b fun x own=>match getM j x.2.1 with
  |some y=>C f (.ptr 0 b []::l) (some ⟨b,y,BL⟩) fun r B'=>match B' with
   |some B'=>if h:B'.t.cp b=true then bif gK B'.own [2] then K {v:=r,bx:=some (id,⟨.aJ .bN a b,(x.1,fN j (some (Ty.cast h B'.x)) x.2.1,x.2.2),[]::own⟩),cl:=[(t,0)]} else none else none
   |none=>none
  |none=>none
 |_=>none
def fX(C:FuncId->bV R)(s:State)(dst:Option Nat)(f:FuncId)(vs:List SV)(K:Out->Option R):Option R:=
 match jt s vs with
 |some (l,none)=>C f l none fun r B=>match B with
  |none=>K {v:=r}
  |some B=>match dst with
   |some d=>match s.bs[d+1]? with
    |some none=>K {v:=r.map (SV.gy (d+1)),bx:=some (d+1,B)}
    |_=>none
   |none=>none
 |some (l,some (id,B))=>if(B.t.eL&& !gK B.own [])=true then none else C f l (some B) fun r B'=>match B' with
  |some B'=>if B'.t.cp B.t=true then K {v:=r,bx:=some (id,B')} else none
  |none=>none
 |none=>none
def kp(g:Bool)(x y:SV)(K:Out->Option R):Option R:=
 match x,y with
 | .aj (.int k) m _,.aj (.int _) n _=>K {v:=[.aj (.int k) (bif g then(if m<n then n else m) else(if n<m then n else m)) []]}
 |_,_=>none
def oL(E:Env)(T:TypeId)(K:Out->Option R):Option R:=
 match E.ty T with
 |some (.sl e t)=>K {v:=[.aj (.sl e t) ([]:List (El t)) [[]]]}
 |_=>K {v:=[.cF]}
def nv(s:State):Operand->Option (Nat×List SV)
 | .tmp t=>bif Nat.beq (s.slot t).length 1 then none else some (t,s.slot t)
 |_=>none
def kx(t:Nat):Nat->List (Nat×Nat)
 |0=>[]
 |n+1=>(t,n)::kx t n
def fG(E:Env)(d:Option Nat):Bool:=
 match d with
 |some d=>E.sh.any (Nat.beq d)
 |none=>false
def takes(E:Env)(d:Option Nat):Bool:=
 match d with
 |some d=>E.mv.any (Nat.beq d)
 |none=>false
def Out.shut(u:Out):Out:={u with v:=u.v.map SV.shut}
def tR(f:FuncId)(x y:SV)(K:Out->Option R):Option R:=
 match x,y with
 | .view t a,.view u b=>K {v:=[.cap f t a u b]}
 |_,_=>none
def act(E:Env)(C:FuncId->bV R)(ops:List Oper)(o:Oper)(s:State)(K:Out->Option R):Option R:=
 match o.op with
 | .move x=>match nv s x with
   |some (t,l)=>bif fG E o.dst then K {v:=l.map SV.shut} else K {v:=l,cl:=bif l.all fun v=>v.own.isEmpty then [] else kx t l.length}
   |none=>match s.aG x with
    | .aj t y w=>bif YU ops o.dst||takes E o.dst then K {v:=[.aj t y w],cl:=yf w x} else K {v:=[.aj t y []]}
    | .undef=>none
    | .bz _ _ _ _=>none
    | .cF=>oL E o.type K
    |v=>K {v:=[v]}
 | .assign x=>match s.aG x with
   | .aj t y w=>K {v:=[.aj t y w],cl:=yf w x}
   | .undef=>none
   | .bz _ _ _ _=>none
   | .cF=>oL E o.type K
   |v=>K {v:=[v]}
 | .pick c a b=>match s.aG c with
   | .aj .bool p _=>bif p then K {v:=[(s.aG a).shut]} else K {v:=[(s.aG b).shut]}
   |_=>none
 | .binOp op T x y _=>bin E op T (s.aG x) (s.aG y) fun v=>K {v}
 | .unOp op _ x=>Lt op (s.aG x) K
 | .convert S T x=>match s.aG x with
   | .ptr id (.aJ (.iP n) a b) []=>j9 E S T s id n a b K
   |v=>ll E S T v K
 | .load T a=>load E T s (YU ops o.dst||AZ E ops o.dst||PC ops o.dst) (s.aG a) K
 | .store T a x=>store E T s (s.aG a) x K
 | .nilCheck x=>match s.aG x with
   | .ptr id t p=>if(t.bG&& !t.eL)=true then none else K {v:=[.ptr id t p]}
   | .view t y=>K {v:=[.view t y]}
   |_=>none
 | .fieldAddr T x j=>match E.gr T with
   |some (ta,tb)=>HJ (s.aG x) j ta tb K
   |none=>RT (E.ty T) (s.aG x) j K
 | .indexAddr T x i=>RV E T (s.aG x) (s.aG i) K
 | .index T x i=>RW E T (s.aG x) (s.aG i) K
 | .field T x j=>match E.ty T with
   |some t=>if t.dk=false then none else(s.aG x).el t fun y=>match El.get t [j] y with
    |some ⟨u,z⟩=>K {v:=[.aj u z []]}
    |none=>none
   |none=>none
 | .slice T x lo hi none=>match s.aG x with
   | .ptr id (.aJ (.iP n) a b) []=>(match E.ty T with
     |some (.sl _ t)=>if a.cp t=true then tV n id a b (lo.map s.aG) (hi.map s.aG) K else none
     |_=>none)
   | .ptr id (.arr n t) []=>rD E T s id n t (lo.map s.aG) (hi.map s.aG) K
   |v=>rE E T v (lo.map s.aG) (hi.map s.aG) K
 | .makeFunc (.func f) first captured=>match first.toList,captured.toList with
   | [],[x]=>mW f (s.aG x) K
   | [],[x,y]=>tR f (s.aG x) (s.aG y) K
   |_,_=>none
 | .alloc T=>match E.ty T,o.dst with
   |some t,some d=>match s.bs[d+1]? with
    |some none=>K {v:=[.ptr (d+1) t []],bx:=some (d+1,⟨t,El.bT t,yb t⟩)}
    |_=>none
   |none,some d=>(match E.gr T with
    |some (ta,tb)=>match s.bs[d+1]? with
     |some none=>K {v:=[.ptr (d+1) (.aJ .bN ta tb) []],bx:=some (d+1,⟨.aJ .bN ta tb,(El.bT ta,(none,none),(0:Int)),[]::kW⟩)}
     |_=>none
    |none=>match E.bl T with
    |some e=>match s.bs[d+1]? with
     |some none=>K {v:=[.ptr (d+1) (.aJ (.gF T e) .unit .unit) []],bx:=some (d+1,⟨.aJ (.gF T e) .unit .unit,(⟨#[]⟩:ByteArray),[[]]⟩)}
     |_=>none
    |none=>none)
   |_,_=>none
 | .box T x=>match E.ty T,o.dst with
   |some t,some d=>match s.bs[d+1]? with
    |some none=>(s.aG x).el t fun y=>K {v:=[.ptr (d+1) t []],bx:=some (d+1,⟨t,y,(s.aG x).own⟩),cl:=src x}
    |_=>none
   |_,_=>none
 | .build T parts=>match E.ty T with
   |some t=>if t.agg=false then none else rY t (El.bT t) (yb t) (z21 s parts.toList).1 fun y own=>K {v:=[.aj t y own],cl:=(z21 s parts.toList).2}
   |none=>none
 | .buildSlice T n parts=>match E.ty T with
   |some (.sl e t)=>if Nat.beq t.cells 0=true then none else bif Nat.ble (n*t.cells) 16777216 then BJ t (List.replicate n (El.bT t)) (parts.toList.map fun p=>(p.1,s.aG p.2)) fun y=>K {v:=[.aj (.sl e t) y [[]]]} else none
   |_=>none
 | .extract x j=>match x with
   | .tmp t=>if Nat.beq (s.slot t).length 1=true then(match one (s.slot t),j with
      | .over,0=>K {v:=bl false}
      |_,_=>none) else match(s.slot t)[j]? with
     |some (.aj u y w)=>K {v:=[.aj u y w],cl:=bif w.isEmpty then [] else [(t,j)]}
     |some .undef=>none
     |some (.bz _ _ _ _)=>none
     |some v=>K {v:=[v]}
     |none=>none
   |_=>none
 | .makeMap T none=>match nk E T with
   |some (kt,vt)=>kq s o.dst (.aJ .mp kt vt) ([]:List (El kt×El vt)) (.aJ .mp kt vt) K
   |none=>none
 | .lookup T x i false=>lv E T s (s.aG x) (s.aG i) K
 | .mapUpdate T m k x=>mo E T s (s.aG m) (s.aG k) (s.aG x) K
 | .insert T m k x=>mo E T s (s.aG m) (s.aG k) (s.aG x) K
 | .range T x=>match E.ty T with
   |some .str=>(s.aG x).el .str fun y=>kq s o.dst kh ((y,0):ByteArray×Nat) kh K
   |_=>none
 | .next x true=>lA s (s.aG x) K
 | .makeSlice T l c=>lz E T s o.dst l (s.aG l) (s.aG c) K
 | .call ⟨.value (.func f),args,_⟩=>match Gd s args.toList with
   |some (t,id,a,b,j,r)=>j7 C s f t id a b j (r.map s.aG) K
   |none=>fX C s o.dst f (args.toList.map s.aG) fun u=>K (bif fG E o.dst then u.shut else u)
 | .call ⟨.value (.tmp y),args,_⟩=>match s.aG (.tmp y) with
   | .ptr id (.aJ (.sj f) u _) []=>if u.qx=true then none else fX C s o.dst f (args.toList.map s.aG++ [.ptr id u []]) K
   | .cap f t x u y=>fX C s o.dst f (args.toList.map s.aG++ [.view t x,.view u y]) K
   |_=>none
 | .call ⟨.builtin .copy,args,argTypes⟩=>match args.toList,argTypes.toList with
   | [d,x],T::_=>copyV E T s (s.aG d) (s.aG x) K
   |_,_=>none
 | .call ⟨.builtin .len,args,argTypes⟩=>match args.toList,argTypes.toList with
   | [x],[T]=>uI E T (s.aG x) K
   |_,_=>none
 | .call ⟨.builtin .append,args,argTypes⟩=>match args.toList,argTypes.toList with
   | [b,x],[T,U]=>Ri E T U b (s.aG b) (s.aG x) K
   |_,_=>none
 | .call ⟨.builtin .max,args,_⟩=>match args.toList with
   | [x,y]=>kp true (s.aG x) (s.aG y) K
   |_=>none
 | .call ⟨.builtin .min,args,_⟩=>match args.toList with
   | [x,y]=>kp false (s.aG x) (s.aG y) K
   |_=>none
 |_=>none
def Rn(ops:List Oper)(g:Nat):Option Nat:=(ops[g]?).bind (·.dst)
def step(E:Env)(C:FuncId->bV R)(ops:List Oper)(o:Oper)(s:State)(K:State->Option R):Option R:=
 let go (s:State):Option R:=act E C ops o s fun u=>K (s.apply o.dst u)
 let pass (s:State):Option R:=K (s.au o.dst [.skip])
 match o.guard with
 |none=>go s
 |some (g,want)=>match Rn ops g with
  |none=>none
  |some d=>match s.slot d with
   | [.aj .bool p []]=>bif p then(let s:=s.au (some d) (bl true);bif want then go s else pass s) else(let s:=s.au (some d) (bl false);bif want then pass s else go s)
   | [.skip]=>pass s
   |_=>none
def steps(E:Env)(C:FuncId->bV R)(ops:List Oper):List Oper->State->(State->Option R)->Option R
 | [],s,K=>K s
 |o::r,s,K=>step E C ops o s fun s=>steps E C ops r s K
structure dW where
 i:Nat
 r:Nat
 w:Nat
 br:Nat
 bw:Nat
def bit(i:Nat):Nat:=1<<<i
def jk:List Nat->Nat
 | []=>0
 |i::r=>bit i|||jk r
def sc:List Operand->List Nat
 | []=>[]
 | .tmp t::r=>t::sc r
 |_::r=>sc r
def looks(ops:List Oper)(o:Oper):List Nat:=sc o.op.operands.toList++(match o.guard with
 |some (g,_)=>(Rn ops g).toList
 |none=>[])
def cn:SV->List Nat
 | .ptr id _ _=>[id]
 | .bz id _ _ _=>[id]
 |_=>[]
def zw(s:State)(o:Oper):List Nat:=
 match o.op with
 | .load _ a=>cn (s.aG a)
 | .store _ a _=>cn (s.aG a)
 | .alloc _| .box _ _| .makeMap _ _| .range _ _| .makeSlice _ _ _=>o.dst.toList.map fun d=>d+1
 | .convert _ _ x=>cn (s.aG x)
 | .slice _ x _ _ _=>cn (s.aG x)
 | .lookup _ x _ _=>cn (s.aG x)
 | .mapUpdate _ m _ _=>cn (s.aG m)
 | .insert _ m _ _=>cn (s.aG m)
 | .next x _=>cn (s.aG x)
 | .call ⟨.value y,args,_⟩=>(args.toList.flatMap fun x=>cn (s.aG x))++(cn (s.aG y)++o.dst.toList.map fun d=>d+1)
 | .call ⟨.builtin .copy,args,_⟩=>args.toList.flatMap fun x=>cn (s.aG x)
 |_=>[]
def gD(ops:List Oper)(o:Oper)(i:Nat)(s:State)(u:Out):dW:=
 ⟨i,jk (looks ops o),jk (o.dst.toList++u.cl.map (·.1)),jk (zw s o),jk (u.bx.toList.map (·.1))⟩
def dW.apart(a b:dW):Bool:=
 Nat.beq (a.w&&&(b.r|||b.w)) 0&&(Nat.beq (b.w&&&a.r) 0&&(Nat.beq (a.bw&&&(b.br|||b.bw)) 0&&Nat.beq (b.bw&&&a.br) 0))
def zy:List Edge->Nat
 | []=>0
 |e::r=>bif Region.binds .any e then bit e.on|||zy r else zy r
def jo(ops:List Oper):Nat->Nat->Nat
 |0,m=>m
 |i+1,m=>jo ops i (match ops[i]? with
  |some o=>bif m.testBit i then m|||zy o.after.toList else m
  |none=>m)
def fits(ops:List Oper)(m:Nat)(f:dW)(tr:List dW):Bool:=Nat.ble (m+1) (bit f.i)&&tr.all fun a=>m.testBit a.i||(a.apart f||(jo ops f.i m).testBit a.i)
def lG(E:Env)(C:FuncId->bV R)(ops:List Oper)(o:Oper)(i:Nat)(s:State)(tr:List dW)(K:State->List dW->Option R):Option R:=
 let go (s:State):Option R:=act E C ops o s fun u=>bif fits ops (zy o.after.toList) (gD ops o i s u) tr then K (s.apply o.dst u) (gD ops o i s u::tr) else none
 let pass (s:State):Option R:=bif fits ops (zy o.after.toList) (gD ops o i s {v:=[.skip]}) tr then K (s.apply o.dst {v:=[.skip]}) (gD ops o i s {v:=[.skip]}::tr) else none
 match o.guard with
 |none=>go s
 |some (g,want)=>match Rn ops g with
  |none=>none
  |some d=>match s.slot d with
   | [.aj .bool p []]=>bif p then(let s:=s.au (some d) (bl true);bif want then go s else pass s) else(let s:=s.au (some d) (bl false);bif want then pass s else go s)
   | [.skip]=>pass s
   |_=>none
def yq(E:Env)(C:FuncId->bV R)(ops:List Oper):List Oper->Nat->State->List dW->(State->Option R)->Option R
 | [],_,s,_,K=>K s
 |o::r,i,s,tr,K=>lG E C ops o i s tr fun s tr=>yq E C ops r (i+1) s tr K
inductive Ex where
 |normal
 |exit (id:Nat)
 |ret
def z24:Code->Nat
 | .region id _ _=>id
 | .seq a _=>z24 a
 | .cond _ a _=>z24 a
 | .block _ b=>z24 b
 | .loop b=>z24 b
 |_=>0
def gl{α:Type}(z:α)(l:List Nat):Nat->List α->List α
 |_,[]=>[]
 |i,x::r=>(bif l.any (Nat.beq i) then x else z)::gl z l (i+1) r
def SV.roots(l:List Nat):SV->Bool
 | .ptr 0 _ _=>true
 | .ptr (id+1) _ _=>l.any (Nat.beq id)
 | .bz 0 _ _ _=>true
 | .bz (id+1) _ _ _=>l.any (Nat.beq id)
 |_=>true
def ltL:List Nat->List Nat->Bool
 | [],[]=>false
 | [],_::_=>true
 |_::_,[]=>false
 |a::p,b::q=>Nat.ble (a+1) b||(Nat.beq a b&&ltL p q)
def uF(p:List Nat):List (List Nat)->List (List Nat)
 | []=>[p]
 |q::r=>bif ltL q p then q::uF p r else p::q::r
def nr:List (List Nat)->List (List Nat)
 | []=>[]
 |p::r=>uF p (nr r)
def SV.norm:SV->SV
 | .aj t x own=> .aj t x (nr own)
 |v=>v
def bC.norm(B:bC):bC:={B with own:=nr B.own}
def State.norm(s:State):State:=⟨s.sl.map fun v=>v.map SV.norm,s.bs.map fun b=>b.map bC.norm⟩
def rZ(l:List Nat)(s:State)(K:State->Option R):Option R:=
 let sl:=gl [.undef] l 0 s.sl
 bif sl.all (fun v=>v.all (SV.roots l)) then K (State.norm ⟨sl,s.bs.headD none::gl none l 0 s.bs.tail⟩) else none
def cJ(k:Nat)(f:Unit->Option R):Option R:=
 match k with
 |0=>none
 |_+1=>f ()
def nm(E:Env)(k r:Nat)(s:State)(K:State->Option R):Option R:=
 match E.join r with
 |none=>K s
 |some l=>rZ l s fun s=>cJ k fun _=>K s
def l6(id:Nat)(l:List SV):List SV:=l.map fun v=>match v with
 | .ptr j _ _=>bif Nat.beq j id then .undef else v
 |v=>v
def rO(E:Env)(r:Nat)(s:State)(K:State->Option R):Option R:=
 match E.fz r with
 |none=>K s
 |some (d,T)=>match s.slot d,E.ty T with
  | [.ptr id (.aJ (.iP n) a b) []],some (.sl e t)=>if a.cp t=true then match s.box id with
    |some B=>if h:B.t.cp (.aJ .row t b)=true then
      bif Nat.beq n (List.length (Ty.cast h B.x:List (El t))) then K {sl:=(s.sl.map (l6 id)).set d [.aj (.sl e t) (Ty.cast h B.x:List (El t)) []],bs:=s.bs.set id none} else none
     else none
    |none=>none else none
  |_,_=>none
def se(id:Nat)(B:bC)(v:SV):SV:=
 match v with
 | .ptr j t p=>bif Nat.beq j id then(if t.cp B.t=true then match El.get B.t p B.x with
    |some ⟨u,y⟩=> .view u y
    |none=> .undef else .undef) else .ptr j t p
 |v=>v
def Wx(id:Nat)(s:State)(K:State->Option R):Option R:=
 match s.box id with
 |some B=>if B.t.bG=true then none else K {sl:=s.sl.map fun l=>l.map (se id B),bs:=s.bs.set id none}
 |none=>none
def Hw:List Nat->State->(State->Option R)->Option R
 | [],s,K=>K s
 |id::r,s,K=>Wx id s fun s=>Hw r s K
def jc(l:List Nat):Nat->List (Option bC)->List (Option bC)
 |_,[]=>[]
 |i,b::r=>(bif l.any (Nat.beq i) then b.map (fun B=>{B with own:=[]}) else b)::jc l (i+1) r
def State.drop(l:List Nat)(s:State):State:={s with bs:=jc l 0 s.bs}
def aB(body:State->(Ex->State->Option R)->Option R)(l lx:List Nat):Nat->State->(Ex->State->Option R)->Option R
 |0,_,_=>none
 |k+1,s,K=>body s fun e s=>match e with
  | .normal=>rZ l s fun s=>aB body l lx k s K
  |e=>rZ lx s fun s=>K e s
def Ty.flat:Ty->Bool
 | .sl _ _=>false
 | .aJ _ _ _=>false
 | .arr _ t=>t.flat
 | .pair a b=>a.flat&&b.flat
 |_=>true
def SV.flat:SV->Bool
 | .aj t _ own=>t.flat&&own.isEmpty
 | .ptr _ _ _| .view _ _| .cap _ _ _ _ _| .bz _ _ _ _=>false
 |_=>true
def lm(o:Nat):Nat->List (List SV)->Bool
 |_,[]=>true
 |i,l::r=>(Nat.beq i o||l.all SV.flat)&&lm o (i+1) r
def kj:Nat->Nat->List (List SV)->List (List SV)
 |0,_,sl=>sl
 |n+1,m,sl=>kj n (m+1) (sl.set m [.undef])
def isDst(o:Oper)(d:Nat):Bool:=
 match o.dst,o.guard with
 |some d',none=>Nat.beq d' d
 |_,_=>false
def fF(x:Operand)(i:Nat):Bool:=
 match x with
 | .tmp j=>Nat.beq j i
 |_=>false
def xG(E:Env)(T:TypeId):Bool:=
 match E.ty T with
 |some (.int .u8)=>true
 |_=>false
def Wy(E:Env)(T:TypeId):Bool:=
 match E.ty T with
 |some (.sl _ (.int .u8))=>true
 |_=>false
def Gc(o:Oper)(d x:Nat):Bool:=isDst o d&&(match o.op with
 | .move y=>fF y x
 |_=>false)
def isLen(E:Env)(o:Oper)(d x:Nat):Bool:=isDst o d&&(match o.op with
 | .call ⟨.builtin .len,dN,ts⟩=>match dN.toList,ts.toList with
   | [y],[T]=>fF y x&&Wy E T
   |_,_=>false
 |_=>false)
def YV(o:Oper)(d x:Nat):Bool:=isDst o d&&(match o.op with
 | .binOp .sub _ y (.const (.int .i64 c)) _=>fF y x&&decide (c=1)
 |_=>false)
def xF(E:Env)(o:Oper)(d x i:Nat):Bool:=isDst o d&&(match o.op with
 | .indexAddr T y j=>fF y x&&(fF j i&&Wy E T)
 |_=>false)
def E2(E:Env)(o:Oper)(d x:Nat):Bool:=isDst o d&&(match o.op with
 | .load T y=>fF y x&&xG E T
 |_=>false)
def uH(o:Oper)(d x y:Nat):Bool:=isDst o d&&(match o.op with
 | .binOp .add _ u v _=>fF u x&&fF v y
 |_=>false)
def uG(E:Env)(o:Oper)(x y:Nat):Bool:=(match o.dst,o.guard with
 |none,none=>true
 |_,_=>false)&&(match o.op with
 | .store T u v=>fF u x&&(fF v y&&xG E T)
 |_=>false)
def E6(E:Env)(o x m:Nat)(ops:List Oper):Bool:=
 match ops with
 | [a0,a1,a2,a3,a4,a5,a6,a7,a8,a9,B3,B4,a12,J3]=>Gc a0 m o&&(Gc a1 (m+1) o&&(isLen E a2 (m+2) (m+1)&&(YV a3 (m+3) (m+2)&&(Gc a4 (m+4) o&&(Gc a5 (m+5) o&&(isLen E a6 (m+6) (m+5)&&(YV a7 (m+7) (m+6)&&(xF E a8 (m+8) (m+4) (m+7)&&(E2 E a9 (m+9) (m+8)&&(Gc B3 (m+10) x&&(uH B4 (m+11) (m+9) (m+10)&&(xF E a12 (m+12) m (m+3)&&uG E J3 (m+12) (m+11)))))))))))))
 |_=>false
def Bd(e:TypeId)(xs:List Int)(y:Int)(own:List (List Nat)):List SV:=[.aj (.sl e (.int .u8)) (xs.set (IntKind.i64.wrap ((xs.length:Int)-1)).toNat (IntKind.u8.wrap (xs.getD (IntKind.i64.wrap ((xs.length:Int)-1)).toNat 0+y)):List Int) own]
def lH(E:Env)(q:Nat×Nat×Nat)(ops:List Oper)(s:State)(K:State->Option R):Option R:=
 bif E6 E q.1 q.2.1 q.2.2 ops then
  bif Nat.ble (q.1+1) q.2.2&&(Nat.ble (q.2.1+1) q.2.2&&(!(Nat.beq q.1 q.2.1)&&Nat.ble (q.2.2+13) s.sl.length)) then
   match s.slot q.1,s.slot q.2.1 with
   | [.aj (.sl e (.int .u8)) xs own],[.aj (.int .u8) y _]=>
     bif gK own [] then
      bif lm q.1 0 (kj 13 q.2.2 s.sl)&&s.bs.all Option.isNone then
       zd (IntKind.i64.wrap ((List.length (xs:List Int):Int)-1)) (List.length (xs:List Int)) (K ⟨(kj 13 q.2.2 s.sl).set q.1 (Bd e xs y own),s.bs⟩)
      else none
     else none
   |_,_=>none
  else none
 else none
def xi(own:List (List Nat)):List (List Nat):=own.filterMap fun p=>match p with
 |(j+1)::p=>some (j::p)
 |_=>none
def Ty.cK:Ty->List (List Nat)->Bool
 | .sl _ t,own=>t.flat&&gK own []
 | .pair a b,own=>a.cK (R0 own [0])&&b.cK (xi own)
 | .aJ _ _ _,_=>false
 | .arr _ t,_=>t.flat
 |_,_=>true
def bC.cK(B:bC):Bool:= !B.t.bG&&B.t.cK B.own
def SV.cK(bs:List (Option bC)):SV->Bool
 | .aj t _ own=>t.cK own
 | .view _ _| .cap _ _ _ _ _| .bz _ _ _ _=>false
 | .ptr id _ _=>match bs.getD id none with
   |some B=>B.cK
   |none=>false
 |_=>true
def hold(bs:List (Option bC))(l:List SV):List SV:=bif l.all (SV.cK bs) then l else [.undef]
def YZ:Option bC->Option bC
 |some B=>bif B.cK then some B else none
 |none=>none
def State.cK(x:Nat)(s:State):State:=⟨(s.sl.set x [.undef]).map (hold s.bs),s.bs.map YZ⟩
def uM(E:Env)(x d:Nat)(T T':TypeId)(i vo:Operand)(s:State)(K:State->Option R):Option R:=
 match s.slot x with
 | [.aj (.sl e t) xs own]=>bif gK own [] then
     match E.ty T,E.ty T' with
     |some u,some w=>bif u.cp (.sl e t)&&(w.cp t&&Nat.ble (d+1) s.sl.length) then
       (s.aG i).num fun n=>((s.au (some d) [.undef]).aG vo).el t fun _=>zd n (List.length (xs:List (El t))) (K ((s.au (some d) [.undef]).cK x))
      else none
     |_,_=>none
   else none
 |_=>none
def lB(o:Oper):Bool:=
 match o.dst,o.guard with
 |none,none=>true
 |_,_=>false
def jn(E:Env)(oA oS:Oper)(s:State)(K:State->Option R):Option R:=
 match oA.op,oS.op with
 | .indexAddr T (.tmp x) i,.store T' (.tmp d) vo=>bif isDst oA d&&(!(Nat.beq x d)&&lB oS) then uM E x d T T' i vo s K else none
 |_,_=>none
def WA{α:Type}:List α->Option (List α×α×α)
 | []=>none
 | [_]=>none
 | [a,b]=>some ([],a,b)
 |a::r=>match WA r with
  |some (l,x,y)=>some (a::l,x,y)
  |none=>none
def lD(E:Env)(C:FuncId->bV R)(ops:List Oper)(s:State)(K:State->Option R):Option R:=
 match WA ops with
 |some (l,oA,oS)=>steps E C ops l s fun s=>jn E oA oS s K
 |none=>none
def Ti{α:Type}:List α->Option (List α×α×α×α)
 | []=>none
 | [_]=>none
 | [_,_]=>none
 | [a,b,c]=>some ([],a,b,c)
 |a::r=>match Ti r with
  |some (l,x,y,z)=>some (a::l,x,y,z)
  |none=>none
def aaq(s:State)(d1 d2 d3:Nat)(ta tb:Ty)(y:El ta):State:=
 (((s.au (some d1) [.undef]).aC (some (d2+1,⟨.aJ .bN ta tb,(y,(none,none),(0:Int)),[]::kW⟩))).au (some d2) [.undef]).au (some d3) [.ptr (d2+1) (.aJ .bN ta tb) []]
def rL(E:Env)(oB oX oA:Oper)(s:State)(K:State->Option R):Option R:=
 match oB.op,oX.op,oA.op with
 | .build T parts,.box T' (.tmp e1),.assign (.tmp e2)=>match oB.dst,oX.dst,oA.dst with
   |some d1,some d2,some d3=>bif Nat.beq T T'&&(Nat.beq d1 e1&&(Nat.beq d2 e2&&(isDst oB d1&&(isDst oX d2&&(isDst oA d3&&(Nat.ble (d1+1) s.sl.length&&Nat.ble (d2+1) s.sl.length)))))) then
     match parts.toList,E.gr T with
     | [(0,x)],some (ta,tb)=>(s.aG x).el ta fun y=>match s.bs[d2+1]? with
       |some none=>K (aaq s d1 d2 d3 ta tb y)
       |_=>none
     |_,_=>none
    else none
   |_,_,_=>none
 |_,_,_=>none
def GM(E:Env)(C:FuncId->bV R)(ops:List Oper)(s:State)(K:State->Option R):Option R:=
 match Ti ops with
 |some (l,oB,oX,oA)=>steps E C ops l s fun s=>rL E oB oX oA s K
 |none=>none
def nj(s:State)(id m j:Nat)(ta tb:Ty)(x:El (.aJ .bN ta tb))(own:List (List Nat))(y:El tb):State:=
 ⟨s.sl.map (l6 m),(s.bs.set m none).set id (some ⟨.aJ .bN ta tb,(x.1,fN j (some y) x.2.1,x.2.2),own⟩)⟩
def km(E:Env)(oS:Oper)(s:State)(K:State->Option R):Option R:=
 match oS.op with
 | .store T (.tmp x) (.tmp y)=>bif lB oS then if E.pt T=true then match s.slot x with
    | [.ptr id (.aJ .bN ta tb) [1,j]]=>nP s id ta tb fun z own=>bif gK own [] then match s.slot y with
      | [.ptr m tb' []]=>match s.box m with
        |some B=>if h:B.t.cp tb=true then bif tb'.cp tb&&(!tb.bG&&(gK B.own [2]&& !(Nat.beq id m))) then K (nj s id m j ta tb z own (Ty.cast h B.x)) else none else none
        |none=>none
      | [.dT]=>K (s.aC (some (id,⟨.aJ .bN ta tb,(z.1,fN j none z.2.1,z.2.2),own⟩)))
      |_=>none
      else none
    |_=>none
    else none else none
 |_=>none
def Wz{α:Type}:List α->Option (List α×α)
 | []=>none
 | [a]=>some ([],a)
 |a::r=>match Wz r with
  |some (l,x)=>some (a::l,x)
  |none=>none
def rK(E:Env)(C:FuncId->bV R)(k:Nat)(ops:List Oper)(s:State)(K:State->Option R):Option R:=
 match Wz ops with
 |some (l,oS)=>match ops[k]? with
  |some oD=>match oD.op,oD.dst with
   | .extract (.tmp t) j,some d=>bif isDst oD d&&(Nat.ble (k+1) l.length&&(Nat.ble (zy oS.after.toList+1) (bit l.length)&&Nat.beq (jo ops l.length (zy oS.after.toList)|||bit k) (bit l.length-1))) then
      yq E C ops l 0 s [] fun s=>bif Nat.ble (j+1) (s.slot t).length&& !(Nat.beq (s.slot t).length 1) then km E oS (s.au (some d) [.undef]) K else none
     else none
   |_,_=>none
  |none=>none
 |none=>none
def FU(E:Env)(C:FuncId->bV R)(i:Nat)(ops:Array Oper)(d:Bool)(s:State)(K:State->Option R):Option R:=
 rO E i s fun s=>Hw (E.fr i) s fun s=>bif d then yq E C ops.toList ops.toList 0 s [] K else steps E C ops.toList ops.toList s K
def ev(E:Env)(C:FuncId->bV R)(k:Nat):Code->State->(Ex->State->Option R)->Option R
 | .skip,s,K=>K .normal s
 | .region i ops d,s,K=>match E.sp with
   |some (j,q)=>bif Nat.beq i j then(match d with
    |true=>none
    |false=>bif Nat.beq q.2.2 0 then lD E C ops.toList s (K .normal) else lH E q ops.toList s (K .normal)) else FU E C i ops d s (K .normal)
   |none=>match E.sg with
    |none=>FU E C i ops d s (K .normal)
    |some (m,l,k)=>bif Nat.beq i m then(match d with
     |true=>none
     |false=>GM E C ops.toList s (K .normal)) else bif Nat.beq i l then(match d with
     |true=>rK E C k ops.toList s (K .normal)
     |false=>none) else FU E C i ops d s (K .normal)
 | .seq a b,s,K=>ev E C k a s fun e s=>match e with
   | .normal=>nm E k (z24 b) s fun s=>ev E C k b s K
   |e=>K e s
 | .cond c a b,s,K=>match s.aG c with
   | .aj .bool p _=>bif p then ev E C k a (s.au (uV c) (bl true)) K else ev E C k b (s.au (uV c) (bl false)) K
   |_=>none
 | .block id b,s,K=>ev E C k b s fun e s=>match e with
   | .exit j=>bif Nat.beq j id then K .normal s else K (.exit j) s
   |e=>K e s
 | .loop b,s,K=>rZ (E.dx (z24 b)) (s.drop (E.dr (z24 b))) fun s=>aB (ev E C k b) (E.dx (z24 b)) (E.lu (z24 b)) k s K
 | .exit id,s,K=>K (.exit id) s
 | .ret,s,K=>K .ret s
 |_,_,_=>none
def gN(E:Env):State->List ResultVar->Option (List SV×State)
 |s,[]=>some ([],s)
 |s,.tmp t::r=>if(one (s.slot t)).bL=true then none else match gN E (s.close [(t,0)]) r with
  |some (l,s')=>some (one (s.slot t)::l,s')
  |none=>none
 |s,.cell p T::r=>match s.slot p,E.ty T with
  | [.ptr id u []],some t=>match s.box id with
    |some B=>if(t.cp B.t&& !u.bG)=true then match gN E (s.aC (some (id,{B with own:=[]}))) r with
      |some (l,s')=>some (.aj B.t B.x B.own::l,s')
      |none=>none
     else none
    |none=>none
  |_,_=>none
def BM:List SV->List Nat
 | []=>[]
 | .ptr id _ _::r=>id::BM r
 |_::r=>BM r
def HK(s:State)(bx:Option bC)(l:List SV)(K:List SV->Option bC->Option R):Option R:=
 match bx,BM l with
 |some _,[]=>match s.box 0 with
  |some B=>K l (some B)
  |none=>none
 |none,[]=>K l none
 |none,[id]=>match s.box id with
  |some B=>K (l.map (SV.gy 0)) (some B)
  |none=>none
 |_,_=>none
def gM(E:Env)(l:List SV):List SV:=bif E.ro then l.map SV.shut else l
def aM:List Ty->List SV->List SV
 | .sl e t::r,.cF::q=> .aj (.sl e t) ([]:List (El t)) []::aM r q
 |_::r,v::q=>v.shut::aM r q
 | [],q=>q
 |_,[]=>[]
def jB(E:Env)(C:FuncId->bV R)(k:Nat)(fn:Func)(code:Code)(vs:List SV)(bx:Option bC)(K:List SV->Option bC->Option R):Option R:=
 bif E.sp.isSome&&bx.isSome then none else
 let n:=fn.ntmps-vs.length
 let s:State:=⟨(aM E.ps vs).map (fun v=>[v])++List.replicate n [.undef],bx::List.replicate (vs.length+n) none⟩
 ev E C k code s fun e s=>match e with
  | .exit _=>none
  |_=>match gN E s fn.results.toList with
   |some (l,s')=>HK s' bx (gM E l) K
   |none=>none
end
end Go.Ref

namespace Go.Ref
open Go
theorem zt{R S:Type}{sv:SV}{t:Ty}{F:El t->Option R}{G:El t->Option S}{K:S->Option R}(h:∀y,F y=(G y).bind K):sv.el t F=(sv.el t G).bind K:=by
 cases sv with
 |aj t' x own=>
  simp only[SV.el]
  split
  ·exact h _
  ·rfl
 |cF=>cases t<;>simp only[SV.el]<;>first|rfl|exact h _
 |_=>rfl
theorem zl{R S:Type}{b:Bool}{x y:Option R}{x' y':Option S}{K:S->Option R}(h:x=x'.bind K)(k:y=y'.bind K):(bif b then x else y)=(bif b then x' else y').bind K:=by
 cases b
 ·exact k
 ·exact h
theorem zo{R S:Type}{c:Prop}[Decidable c]{x y:Option R}{x' y':Option S}{K:S->Option R}(h:x=x'.bind K)(k:y=y'.bind K):(if c then x else y)=(if c then x' else y').bind K:=by
 split
 ·exact h
 ·exact k
section
variable {R:Type}
theorem zqq{op:BinOp}{k k':IntKind}{m n:Int}{K:List SV->Option R}:rB op k m k' n K=(rB op k m k' n some).bind K:=by
 unfold rB
 cases op<;>simp only<;>repeat(first|rfl|refine zl ?_ ?_|refine zo ?_ ?_)
theorem zqs{op:BinOp}{m n:ByteArray}{K:List SV->Option R}:rC op m n K=(rC op m n some).bind K:=by
 unfold rC
 cases op<;>simp only<;>repeat(first|rfl|refine zl ?_ ?_|refine zo ?_ ?_)
theorem zqp{E:Env}{op:BinOp}{T:TypeId}{x y:SV}{K:List SV->Option R}:rA E op T x y K=(rA E op T x y some).bind K:=by
 unfold rA
 split
 ·refine zo rfl (zt fun a=>zt fun b=> ?_)
  split
  ·cases op<;>rfl
  ·rfl
 ·rfl
theorem amL{E:Env}{op:BinOp}{T:TypeId}{x y:SV}{S:Type}{F:List SV->Option R}{G:List SV->Option S}{K:S->Option R}(h:∀l,F l=(G l).bind K):bin E op T x y F=(bin E op T x y G).bind K:=by
 unfold bin
 split
 ·rw[zqq,zqq (K:=G),Option.bind_assoc];congr;funext l;exact h l
 ·rw[zqs,zqs (K:=G),Option.bind_assoc];congr;funext l;exact h l
 ·refine zo rfl ?_;cases op<;>simp only<;>first|exact h _|rfl
 ·refine zo rfl ?_;cases op<;>simp only<;>first|exact h _|rfl
 ·rw[zqp,zqp (K:=G),Option.bind_assoc];congr;funext l;exact h l
theorem Bq{S:Type}{i:Int}{n:Nat}{x:Option R}{x':Option S}{K:S->Option R}(h:x=x'.bind K):zd i n x=(zd i n x').bind K:=by
 unfold zd
 exact zl (zl h rfl) rfl
theorem zdz{S:Type}{lo:Option SV}{m:Nat}{F:Nat->Option R}{G:Nat->Option S}{K:S->Option R}(h:∀l,F l=(G l).bind K):yj lo m F=(yj lo m G).bind K:=by
 unfold yj
 cases lo with
 |none=>exact h _
 |some v=>exact zt fun y=>zl (zl (h _) rfl) rfl
theorem LR{S:Type}{lo hi:Option SV}{n:Nat}{F:Nat->Nat->Option R}{G:Nat->Nat->Option S}{K:S->Option R}(h:∀l h,F l h=(G l h).bind K):cutAt lo hi n F=(cutAt lo hi n G).bind K:=by
 unfold cutAt
 cases hi with
 |none=>exact zdz fun l=>h _ _
 |some w=>exact zt fun y=>zl (zl (zdz fun l=>h _ _) rfl) rfl
theorem zvc{S:Type}{t:Ty}{F:El t->List (List Nat)->Option R}{G:El t->List (List Nat)->Option S}{K:S->Option R}(h:∀y o,F y o=(G y o).bind K):∀(l:List (Nat×SV×List (List Nat))) (x:El t) (own:List (List Nat)),rY t x own l F=(rY t x own l G).bind K
 | [],x,own=>by simpa [rY] using h x own
 |(i,v,ov)::r,x,own=>by
  simp only[rY]
  refine zo rfl ?_
  split
  ·refine zt fun y=> ?_
   split
   ·exact zvc h r _ _
   ·rfl
  ·rfl
theorem zvd{S:Type}{t:Ty}{F:List (El t)->Option R}{G:List (El t)->Option S}{K:S->Option R}(h:∀y,F y=(G y).bind K):∀(l:List (Nat×SV)) (x:List (El t)),BJ t x l F=(BJ t x l G).bind K
 | [],x=>by simpa [BJ] using h x
 |(i,v)::r,x=>by
  simp only[BJ]
  exact zo rfl (zt fun y=>zvd h r _)
variable {S:Type} {F:Out->Option R} {G:Out->Option S} {K:S->Option R}
theorem Ff{s:State}{id:Nat}{a b:Ty}{F':El (.aJ .bN a b)->List (List Nat)->Option R}{G':El (.aJ .bN a b)->List (List Nat)->Option S}{K:S->Option R}(h:∀x o,F' x o=(G' x o).bind K):nP s id a b F'=(nP s id a b G').bind K:=by
 unfold nP
 split
 ·split
  ·exact zl (h _ _) rfl
  ·rfl
 ·rfl
theorem acW{u:Ty}{s:State}{id:Nat}{t:Ty}{p:List Nat}(h:∀y,F y=(G y).bind K):FT u s id t p F=(FT u s id t p G).bind K:=by
 unfold FT
 split
 ·split
  ·split
   ·exact zo (zl (h _) rfl) rfl
   ·rfl
  ·rfl
 ·exact zo (Ff fun x o=>h _) rfl
 ·exact zo (Ff fun x o=>h _) rfl
 ·rfl
theorem acs{u:Ty}{s:State}{id:Nat}{t:Ty}{p:List Nat}{v:SV}(h:∀y,F y=(G y).bind K):Fw u s id t p v F=(Fw u s id t p v G).bind K:=by
 unfold Fw
 split
 ·split
  ·split
   ·exact zo (zt fun y=>zl (h _) rfl) rfl
   ·rfl
  ·rfl
 ·split
  ·refine zo (Ff fun x o=>zt fun y=> ?_) rfl
   split
   ·exact zl (h _) rfl
   ·rfl
  ·rfl
 ·exact zo (Ff fun x o=>zt fun y=>zl (h _) rfl) rfl
 ·rfl
theorem acN{u:Ty}{id:Nat}{t:Ty}{p:List Nat}{j:Nat}{F:Out->Option R}{G:Out->Option S}{K:S->Option R}(h:∀y,F y=(G y).bind K):Hv u id t p j F=(Hv u id t p j G).bind K:=by
 unfold Hv
 split
 ·split
  ·refine zo ?_ rfl
   split
   ·exact zo rfl (h _)
   ·rfl
  ·rfl
 ·rfl
theorem acS{m:Nat}{t:Ty}{n:Int}{id:Nat}{r:Ty}{p:List Nat}{F:Out->Option R}{G:Out->Option S}{K:S->Option R}(h:∀y,F y=(G y).bind K):z91 m t n id r p F=(z91 m t n id r p G).bind K:=by
 unfold z91
 split
 ·split
  ·exact zo (Bq (h _)) rfl
  ·rfl
 ·rfl
theorem adH{v:SV}{j:Nat}{ta tb:Ty}{F:Out->Option R}{G:Out->Option S}{K:S->Option R}(h:∀y,F y=(G y).bind K):HJ v j ta tb F=(HJ v j ta tb G).bind K:=by
 unfold HJ
 split
 ·exact zo (zl (h _) rfl) rfl
 ·rfl
theorem acn{t:Ty}{n:Int}{id:Nat}{r:Ty}{p:List Nat}(h:∀y,F y=(G y).bind K):Qh t n id r p F=(Qh t n id r p G).bind K:=by
 unfold Qh
 split
 ·exact zo (Bq (h _)) rfl
 ·rfl
theorem acV{u:Ty}{B:bC}{t:Ty}{p:List Nat}(h:∀y,F y=(G y).bind K):Hy u B t p F=(Hy u B t p G).bind K:=by
 unfold Hy
 split
 ·split
  ·exact zo (zl (h _) rfl) rfl
  ·rfl
 ·rfl
theorem agU{E:Env}{T:TypeId}{s:State}{v:SV}(h:∀y,F y=(G y).bind K):ko E T s v F=(ko E T s v G).bind K:=by
 unfold ko
 split
 ·exact zo (Ff fun x o=>zl (h _) rfl) rfl
 ·rfl
theorem akv{E:Env}{T:TypeId}{s:State}{la:Bool}{v:SV}(h:∀y,F y=(G y).bind K):load E T s la v F=(load E T s la v G).bind K:=by
 unfold load
 split
 ·split
  ·exact zo (h _) rfl
  ·refine zo (acW h) ?_
   split
   ·refine zo ?_ (acV h)
    split
    ·exact zo (zl (h _) (h _)) rfl
    ·rfl
   ·rfl
  ·rfl
 ·exact agU h
theorem ahw{E:Env}{T:TypeId}{s:State}{v:SV}{x:Operand}(h:∀y,F y=(G y).bind K):store E T s v x F=(store E T s v x G).bind K:=by
 unfold store
 split
 ·split
  ·refine zo (acs h) ?_
   split
   ·refine zo ?_ rfl
    split
    ·refine zo (zt fun y=> ?_) rfl
     split
     ·exact h _
     ·rfl
    ·rfl
   ·rfl
  ·rfl
 ·rfl
theorem adG{t:Option Ty}{v:SV}{j:Nat}(h:∀y,F y=(G y).bind K):RT t v j F=(RT t v j G).bind K:=by
 unfold RT
 split
 ·refine zo (acN h) ?_
  split
  ·refine zo ?_ rfl
   split
   ·exact zo rfl (h _)
   ·rfl
  ·rfl
 ·refine zo ?_ rfl
  split
  ·exact zo rfl (h _)
  ·rfl
 ·rfl
theorem DR{v:SV}{F':Int->Option R}{G':Int->Option S}{K:S->Option R}(h:∀n,F' n=(G' n).bind K):v.num F'=(v.num G').bind K:=by
 unfold SV.num
 split
 ·exact h _
 ·rfl
theorem adN{E:Env}{T:TypeId}{v i:SV}(h:∀y,F y=(G y).bind K):RV E T v i F=(RV E T v i G).bind K:=by
 unfold RV
 refine DR fun n=> ?_
 split
 ·exact zt fun y=>Bq (h _)
 ·refine zo (acS h) ?_
  split
  ·exact zo (Bq (h _)) rfl
  ·rfl
 ·exact zt fun y=>Bq (h _)
 ·exact acn h
 ·exact zo (Bq (h _)) rfl
 ·rfl
theorem adO{E:Env}{T:TypeId}{v i:SV}(h:∀y,F y=(G y).bind K):RW E T v i F=(RW E T v i G).bind K:=by
 unfold RW
 refine DR fun n=> ?_
 split
 ·exact zt fun y=>Bq (h _)
 ·exact zt fun y=>Bq (h _)
 ·rfl
theorem aj0{E:Env}{T:TypeId}{v:SV}{lo hi:Option SV}(h:∀y,F y=(G y).bind K):rE E T v lo hi F=(rE E T v lo hi G).bind K:=by
 unfold rE
 split
 ·exact zt fun y=>LR fun _ _=>h _
 ·exact zt fun y=>LR fun _ _=>h _
 ·rfl
theorem acz{E:Env}{T U:TypeId}{bo:Operand}{b x:SV}(h:∀y,F y=(G y).bind K):Ri E T U bo b x F=(Ri E T U bo b x G).bind K:=by
 unfold Ri
 refine zo rfl ?_
 split
 ·refine zo rfl ?_
  split
  ·exact zt fun y=>zl (h _) rfl
  ·exact zo rfl (zt fun y=>zt fun z=>zl (h _) rfl)
  ·rfl
 ·rfl
theorem akr{E:Env}{T:TypeId}{x:SV}(h:∀y,F y=(G y).bind K):uI E T x F=(uI E T x G).bind K:=by
 unfold uI
 split
 ·exact zt fun y=>h _
 ·split
  ·exact h _
  ·exact zt fun y=>h _
 ·exact h _
 ·rfl
theorem agr{E:Env}{S' T:TypeId}{x:SV}(h:∀y,F y=(G y).bind K):ll E S' T x F=(ll E S' T x G).bind K:=by
 unfold ll
 split
 ·exact zt fun y=>h _
 ·exact zt fun y=>h _
 ·exact zt fun y=>h _
 ·rfl
theorem agq{E:Env}{S' T:TypeId}{s:State}{id n:Nat}{a b:Ty}(h:∀y,F y=(G y).bind K):j9 E S' T s id n a b F=(j9 E S' T s id n a b G).bind K:=by
 unfold j9
 split
 ·refine zo ?_ rfl
  split
  ·split
   ·exact zl (h _) rfl
   ·rfl
  ·rfl
 ·rfl
theorem zr3{s:State}{dst:Option Nat}{t:Ty}{x:El t}{p:Ty}(h:∀y,F y=(G y).bind K):kq s dst t x p F=(kq s dst t x p G).bind K:=by
 unfold kq
 split
 ·split
  ·exact h _
  ·rfl
 ·rfl
theorem zw0{s:State}{m:SV}{kt vt:Ty}{F:Nat->List (El kt×El vt)->Option R}{G:Nat->List (El kt×El vt)->Option S}{K:S->Option R}(h:∀n y,F n y=(G n y).bind K):vR s m kt vt F=(vR s m kt vt G).bind K:=by
 unfold vR
 split
 ·refine zo ?_ rfl
  split
  ·split
   ·exact h _ _
   ·rfl
  ·rfl
 ·rfl
theorem agV{E:Env}{T:TypeId}{s:State}{m i:SV}(h:∀y,F y=(G y).bind K):lv E T s m i F=(lv E T s m i G).bind K:=by
 unfold lv
 split
 ·exact zw0 fun _ _=>zt fun _=>h _
 ·rfl
theorem NY{E:Env}{T:TypeId}{s:State}{m i v:SV}(h:∀y,F y=(G y).bind K):mo E T s m i v F=(mo E T s m i v G).bind K:=by
 unfold mo
 split
 ·exact zw0 fun _ _=>zt fun _=>zt fun _=>zl rfl (h _)
 ·rfl
theorem ag0{s:State}{m:SV}(h:∀y,F y=(G y).bind K):lA s m F=(lA s m G).bind K:=by
 unfold lA
 split
 ·split
  ·split
   ·exact zl (h _) (h _)
   ·rfl
  ·rfl
 ·rfl
theorem agX{E:Env}{T:TypeId}{s:State}{dst:Option Nat}{lo:Operand}{l c:SV}(h:∀y,F y=(G y).bind K):lz E T s dst lo l c F=(lz E T s dst lo l c G).bind K:=by
 unfold lz
 split
 ·exact zo rfl (zt fun n=>zt fun m=>zl (zl (zl (zl (h _) rfl) rfl) rfl) (zl (zl (zl (zr3 h) rfl) rfl) rfl))
 ·rfl
theorem anp{op:UnOp}{x:SV}(h:∀y,F y=(G y).bind K):Lt op x F=(Lt op x G).bind K:=by
 unfold Lt
 split
 ·exact h _
 ·exact h _
 ·rfl
end
abbrev ah:=(R:Type)->FuncId->bV R
def ah.Nat(C:ah):Prop:=∀(R S:Type) (f:FuncId) l b (F:List SV->Option bC->Option R) (G:List SV->Option bC->Option S) (K:S->Option R),(∀r b,F r b=(G r b).bind K)->C R f l b F=(C S f l b G).bind K
section
variable {R S:Type} {F:Out->Option R} {G:Out->Option S} {K:S->Option R} {C:ah}
theorem Tc(hC:C.Nat){s:State}{dst:Option Nat}{f:FuncId}{vs:List SV}(h:∀y,F y=(G y).bind K):fX (C R) s dst f vs F=(fX (C S) s dst f vs G).bind K:=by
 unfold fX
 split
 ·refine hC R S f _ _ _ _ K fun r b=> ?_
  split
  ·exact h _
  ·split
   ·split
    ·exact h _
    ·rfl
   ·rfl
 ·refine zo rfl (hC R S f _ _ _ _ K fun r b=> ?_)
  split
  ·exact zo (h _) rfl
  ·rfl
 ·rfl
theorem agl(hC:C.Nat){s:State}{f:FuncId}{t id:Nat}{a b:Ty}{j:Nat}{vs:List SV}(h:∀y,F y=(G y).bind K):j7 (C R) s f t id a b j vs F=(j7 (C S) s f t id a b j vs G).bind K:=by
 unfold j7
 refine zo rfl ?_
 split
 ·refine Ff fun x o=> ?_
  split
  ·refine hC R S f _ _ _ _ K fun r b=> ?_
   split
   ·split
    ·exact zl (h _) rfl
    ·rfl
   ·rfl
  ·rfl
 ·rfl
theorem ago{f:FuncId}{x:SV}(h:∀y,F y=(G y).bind K):mW f x F=(mW f x G).bind K:=by
 unfold mW
 split
 ·exact zo rfl (h _)
 ·rfl
theorem ajV{f:FuncId}{x y:SV}(h:∀y,F y=(G y).bind K):tR f x y F=(tR f x y G).bind K:=by
 unfold tR
 split
 ·exact h _
 ·rfl
theorem ajZ{n id:Nat}{a b:Ty}{lo hi:Option SV}(h:∀y,F y=(G y).bind K):tV n id a b lo hi F=(tV n id a b lo hi G).bind K:=by
 unfold tV
 split
 ·rfl
 ·exact zdz fun l=>h _
theorem LP{t:Ty}{s:State}{id n lo:Nat}{a b:Ty}{x:SV}{e:TypeId}(h:∀y,F y=(G y).bind K):iu t s id n lo a b x e F=(iu t s id n lo a b x e G).bind K:=by
 unfold iu
 refine zo (zt fun ys=> ?_) rfl
 split
 ·split
  ·exact zl (zl (h _) rfl) rfl
  ·rfl
 ·rfl
theorem ajY{E:Env}{T:TypeId}{s:State}{id n:Nat}{t:Ty}{lo hi:Option SV}(h:∀y,F y=(G y).bind K):rD E T s id n t lo hi F=(rD E T s id n t lo hi G).bind K:=by
 unfold rD
 split
 ·refine zo ?_ rfl
  split
  ·split
   ·exact h _
   ·rfl
  ·rfl
 ·rfl
theorem ags{t:Ty}{s:State}{id n:Nat}{a b:Ty}{y:ByteArray}(h:∀y,F y=(G y).bind K):ka t s id n a b y F=(ka t s id n a b y G).bind K:=by
 unfold ka
 refine zo (zo ?_ rfl) rfl
 split
 ·split
  ·exact zl (h _) rfl
  ·rfl
 ·rfl
theorem agt{E:Env}{T:TypeId}{s:State}{d x:SV}(h:∀y,F y=(G y).bind K):copyV E T s d x F=(copyV E T s d x G).bind K:=by
 unfold copyV
 split
 ·split
  ·exact ags h
  ·exact LP h
 ·exact LP h
 ·rfl
theorem Mt{g:Bool}{x y:SV}(h:∀y,F y=(G y).bind K):kp g x y F=(kp g x y G).bind K:=by
 unfold kp
 split
 ·exact h _
 ·rfl
theorem NG{E:Env}{T:TypeId}(h:∀y,F y=(G y).bind K):oL E T F=(oL E T G).bind K:=by
 unfold oL
 split
 ·exact h _
 ·exact h _
theorem ye(hC:C.Nat){E:Env}{ops:List Oper}{o:Oper}{s:State}(h:∀y,F y=(G y).bind K):act E (C R) ops o s F=(act E (C S) ops o s G).bind K:=by
 unfold act
 split
 ·split
  ·exact zl (h _) (h _)
  ·split
   ·exact zl (h _) (h _)
   ·rfl
   ·rfl
   ·exact NG h
   ·exact h _
 ·split
  ·exact h _
  ·rfl
  ·rfl
  ·exact NG h
  ·exact h _
 ·split
  ·exact zl (h _) (h _)
  ·rfl
 ·exact amL fun l=>h _
 ·exact anp h
 ·split
  ·exact agq h
  ·exact agr h
 ·exact akv h
 ·exact ahw h
 ·split
  ·exact zo rfl (h _)
  ·exact h _
  ·rfl
 ·split
  ·exact adH h
  ·exact adG h
 ·exact adN h
 ·exact adO h
 ·split
  ·refine zo rfl (zt fun y=> ?_)
   split
   ·exact h _
   ·rfl
  ·rfl
 ·split
  ·split
   ·exact zo (ajZ h) rfl
   ·rfl
  ·exact ajY h
  ·exact aj0 h
 ·split
  ·exact ago h
  ·exact ajV h
  ·rfl
 ·split
  ·split
   ·exact h _
   ·rfl
  ·split
   ·split
    ·exact h _
    ·rfl
   ·split
    ·split
     ·exact h _
     ·rfl
    ·rfl
  ·rfl
 ·split
  ·split
   ·exact zt fun y=>h _
   ·rfl
  ·rfl
 ·split
  ·exact zo rfl (zvc (fun y o=>h _) _ _ _)
  ·rfl
 ·split
  ·exact zo rfl (zl (zvd (fun y=>h _) _ _) rfl)
  ·rfl
 ·split
  ·refine zo ?_ ?_
   ·split
    ·exact h _
    ·rfl
   split
   ·exact h _
   ·rfl
   ·rfl
   ·exact h _
   ·rfl
  ·rfl
 ·split
  ·exact zr3 h
  ·rfl
 ·exact agV h
 ·exact NY h
 ·exact NY h
 ·split
  ·exact zt fun y=>zr3 h
  ·rfl
 ·exact ag0 h
 ·exact agX h
 ·split
  ·exact agl hC h
  ·exact Tc hC fun u=>h _
 ·split
  ·exact zo rfl (Tc hC h)
  ·exact Tc hC h
  ·rfl
 ·split
  ·exact agt h
  ·rfl
 ·split
  ·exact akr h
  ·rfl
 ·split
  ·exact acz h
  ·rfl
 ·split
  ·exact Mt h
  ·rfl
 ·split
  ·exact Mt h
  ·rfl
 ·rfl
end
section
variable {R S:Type} {F:State->Option R} {G:State->Option S} {K:S->Option R} {C:ah}
theorem zrd(hC:C.Nat){E:Env}{ops:List Oper}{o:Oper}{s:State}(h:∀y,F y=(G y).bind K):step E (C R) ops o s F=(step E (C S) ops o s G).bind K:=by
 unfold step
 simp only
 split
 ·exact ye hC fun y=>h _
 ·split
  ·rfl
  ·split
   ·exact zl (zl (ye hC fun y=>h _) (h _)) (zl (h _) (ye hC fun y=>h _))
   ·exact h _
   ·rfl
theorem Fp(hC:C.Nat){E:Env}{ops:List Oper}(h:∀y,F y=(G y).bind K):∀(l:List Oper) (s:State),steps E (C R) ops l s F=(steps E (C S) ops l s G).bind K
 | [],s=>h s
 |o::r,s=>by
  simp only[steps]
  exact zrd hC fun s=>Fp hC h r s
theorem ahu(hC:C.Nat){E:Env}{ops:List Oper}{o:Oper}{i:Nat}{s:State}{tr:List dW}{F:State->List dW->Option R}{G:State->List dW->Option S}(h:∀y t,F y t=(G y t).bind K):lG E (C R) ops o i s tr F=(lG E (C S) ops o i s tr G).bind K:=by
 unfold lG
 simp only
 split
 ·exact ye hC fun y=>zl (h _ _) rfl
 ·split
  ·rfl
  ·split
   ·exact zl (zl (ye hC fun y=>zl (h _ _) rfl) (zl (h _ _) rfl)) (zl (zl (h _ _) rfl) (ye hC fun y=>zl (h _ _) rfl))
   ·exact zl (h _ _) rfl
   ·rfl
theorem P3(hC:C.Nat){E:Env}{ops:List Oper}(h:∀y,F y=(G y).bind K):∀(l:List Oper) (i:Nat) (s:State) (tr:List dW),yq E (C R) ops l i s tr F=(yq E (C S) ops l i s tr G).bind K
 | [],i,s,tr=>h s
 |o::r,i,s,tr=>by
  simp only[yq]
  exact ahu hC fun s tr=>P3 hC h r (i+1) s tr
theorem PX{l:List Nat}{s:State}(h:∀y,F y=(G y).bind K):rZ l s F=(rZ l s G).bind K:=by
 unfold rZ
 exact zl (h _) rfl
end
theorem agQ{R S:Type}{k:Nat}{F:Unit->Option R}{G:Unit->Option S}{K:S->Option R}(h:F ()=(G ()).bind K):cJ k F=(cJ k G).bind K:=by
 unfold cJ
 cases k
 ·rfl
 ·exact h
theorem akw{R S:Type}{F:State->Option R}{G:State->Option S}{K:S->Option R}{E:Env}{k r:Nat}{s:State}(h:∀y,F y=(G y).bind K):nm E k r s F=(nm E k r s G).bind K:=by
 unfold nm
 split
 ·exact h _
 ·exact PX fun s=>agQ (h _)
theorem akZ{R S:Type}{F:State->Option R}{G:State->Option S}{K:S->Option R}{E:Env}{r:Nat}{s:State}(h:∀y,F y=(G y).bind K):rO E r s F=(rO E r s G).bind K:=by
 unfold rO
 split
 ·exact h _
 ·split
  ·refine zo ?_ rfl
   split
   ·split
    ·exact zl (h _) rfl
    ·rfl
   ·rfl
  ·rfl
theorem zos{R S:Type}{F:State->Option R}{G:State->Option S}{K:S->Option R}(h:∀y,F y=(G y).bind K):∀(l:List Nat) (s:State),Hw l s F=(Hw l s G).bind K
 | [],s=>h s
 |id::r,s=>by
  simp only[Hw]
  unfold Wx
  split
  ·exact zo rfl (zos h r _)
  ·rfl
section
variable {R S:Type} {F:Ex->State->Option R} {G:Ex->State->Option S} {K:S->Option R} {C:ah}
theorem Ms{body:State->(Ex->State->Option R)->Option R}{body':State->(Ex->State->Option S)->Option S}{l lx:List Nat}
 (hb:∀(F:Ex->State->Option R) (G:Ex->State->Option S),(∀e s,F e s=(G e s).bind K)->∀s,body s F=(body' s G).bind K) (h:∀e s,F e s=(G e s).bind K):
 ∀(k:Nat) (s:State),aB body l lx k s F=(aB body' l lx k s G).bind K
 |0,_=>rfl
 |k+1,s=>by
  simp only[aB]
  refine hb _ _ (fun e s=> ?_) s
  cases e with
  |normal=>exact PX fun s=>Ms hb h k s
  |exit id=>exact PX fun s=>h _ _
  |ret=>exact PX fun s=>h _ _
theorem NT{E:Env}{q:Nat×Nat×Nat}{ops:List Oper}{s:State}{F:State->Option R}{G:State->Option S}{K:S->Option R}(h:∀s,F s=(G s).bind K):lH E q ops s F=(lH E q ops s G).bind K:=by
 unfold lH
 refine zl (zl ?_ rfl) rfl
 split
 ·refine zl (zl ?_ rfl) rfl
  unfold zd
  exact zl (zl (h _) rfl) rfl
 ·rfl
theorem ahc{E:Env}{oA oS:Oper}{s:State}{F:State->Option R}{G:State->Option S}{K:S->Option R}(h:∀s,F s=(G s).bind K):jn E oA oS s F=(jn E oA oS s G).bind K:=by
 unfold jn
 split
 ·refine zl ?_ rfl
  unfold uM
  split
  ·refine zl ?_ rfl
   split
   ·refine zl (DR fun n=>zt fun y=> ?_) rfl
    unfold zd
    exact zl (zl (h _) rfl) rfl
   ·rfl
  ·rfl
 ·rfl
theorem NL(hC:C.Nat){E:Env}{ops:List Oper}{s:State}{F:State->Option R}{G:State->Option S}(h:∀s,F s=(G s).bind K):lD E (C R) ops s F=(lD E (C S) ops s G).bind K:=by
 unfold lD
 split
 ·exact Fp hC (fun s=>ahc h) _ _
 ·rfl
theorem OV(hC:C.Nat){E:Env}{ops:List Oper}{s:State}{F:State->Option R}{G:State->Option S}(h:∀s,F s=(G s).bind K):GM E (C R) ops s F=(GM E (C S) ops s G).bind K:=by
 unfold GM
 split
 ·refine Fp hC (fun s=> ?_) _ _
  unfold rL
  split
  ·split
   ·refine zl ?_ rfl
    split
    ·refine zt fun y=> ?_
     split
     ·exact h _
     ·rfl
    ·rfl
   ·rfl
  ·rfl
 ·rfl
theorem NA(hC:C.Nat){E:Env}{k:Nat}{ops:List Oper}{s:State}{F:State->Option R}{G:State->Option S}(h:∀s,F s=(G s).bind K):rK E (C R) k ops s F=(rK E (C S) k ops s G).bind K:=by
 unfold rK
 split
 ·split
  ·split
   ·refine zl (P3 hC (fun s=> ?_) _ _ _ _) rfl
    refine zl ?_ rfl
    unfold km
    split
    ·refine zl (zo ?_ rfl) rfl
     split
     ·refine Ff fun z own=>zl ?_ rfl
      split
      ·split
       ·split
        ·exact zl (h _) rfl
        ·rfl
       ·rfl
      ·exact h _
      ·rfl
     ·rfl
    ·rfl
   ·rfl
  ·rfl
 ·rfl
theorem vQ(hC:C.Nat){E:Env}{k:Nat}:∀(c:Code) (F:Ex->State->Option R) (G:Ex->State->Option S),(∀e s,F e s=(G e s).bind K)->∀s,ev E (C R) k c s F=(ev E (C S) k c s G).bind K
 | .skip,F,G,h,s=>h _ _
 | .region i ops d,F,G,h,s=>by
   simp only[ev]
   have key:FU E (C R) i ops d s (F .normal)=(FU E (C S) i ops d s (G .normal)).bind K:=akZ fun s=>zos (fun s=>zl (P3 hC (fun s=>h _ _) _ _ _ _) (Fp hC (fun s=>h _ _) _ _)) _ _
   split
   ·refine zl ?_ key
    cases d with
    |true=>rfl
    |false=>exact zl (NL hC fun s=>h _ _) (NT fun s=>h _ _)
   ·split
    ·exact key
    ·refine zl ?_ (zl ?_ key)
     ·cases d with
      |true=>rfl
      |false=>exact OV hC fun s=>h _ _
     ·cases d with
      |true=>exact NA hC fun s=>h _ _
      |false=>rfl
 | .seq a b,F,G,h,s=>by
   simp only[ev]
   refine vQ hC a _ _ (fun e s=> ?_) s
   cases e with
   |normal=>exact akw fun s=>vQ hC b _ _ h s
   |exit id=>exact h _ _
   |ret=>exact h _ _
 | .cond c a b,F,G,h,s=>by
   simp only[ev]
   split
   ·exact zl (vQ hC a _ _ h _) (vQ hC b _ _ h _)
   ·rfl
 | .block id b,F,G,h,s=>by
   simp only[ev]
   refine vQ hC b _ _ (fun e s=> ?_) s
   cases e with
   |normal=>exact h _ _
   |exit j=>exact zl (h _ _) (h _ _)
   |ret=>exact h _ _
 | .loop b,F,G,h,s=>by
   simp only[ev]
   exact PX fun s=>Ms (fun F G h s=>vQ hC b F G h s) h k s
 | .exit id,F,G,h,s=>h _ _
 | .ret,F,G,h,s=>h _ _
 | .rangeFunc ..,F,G,h,s=>rfl
 | .scope _,F,G,h,s=>rfl
 | .label _,F,G,h,s=>rfl
 | .goto _,F,G,h,s=>rfl
 | .refuse _,F,G,h,s=>rfl
end
theorem jP{R S:Type}{x:Option R}{y:Option S}{K:S->Option R}(h:x=y.bind K){z:R}(hz:x=some z):∃w,y=some w/\K w=some z:=by
 rw[h] at hz
 exact Option.bind_eq_some_iff.1 hz
end Go.Ref

namespace Go.Ref
open Go
def dR(t:Ty)(cs:List Value):Value:=if t.agg=true then .agg cs.toArray else cs.headD undef
def bp(X:aw)(pl:Place)(e:TypeId)(k n:Nat)(v:Value):Prop:=
 (v= .slice none 0 0/\n=0)\/∃g cap cur,v= .slice (some ⟨g,0,none⟩) n cap/\X.w.heap[g]? =some (.cells cur e (0,0))/\n<=cap/\cap<=maxLen/\cur.size=cap*k/\X.ow g= .row pl (n*k)
def bn(X:aw)(pl:List Nat->Place)(t:Ty)(x:El t)(cs:List Value)(own:List (List Nat)):Prop:=
 ∀p∈own,∃e t' xs v,t.eK p/\El.get t p x=some ⟨.sl e t',xs⟩/\cs[t.off p]? =some v/\bp X (pl p) e t'.cells (List.length xs) v
def nu(t:Ty)(p:List Nat)(r:Nat)(v:Value):Prop:=
 match t,p with
 | .aJ .mp _ _,_=>v= .map (some r)
 | .aJ (.iP n) _ _,[]=>∃cap,v= .slice (some ⟨r,0,none⟩) n cap/\n<=cap
 | .aJ (.iP n) a _,[l]=>∃cap off,v= .slice (some ⟨r,off,none⟩) (n-l) cap/\n-l<=cap/\l<=n/\((n=l/\off=0)\/off=l*a.cells)
 | .aJ (.sj f) _ _,[]=>v= .func (.func f) #[] #[.pointer (some ⟨r,0,none⟩)]
 | .aJ .row a _,[i]=>v= .pointer (some ⟨r,i*a.cells,none⟩)
 | .aJ .bN a _,p=>v= .pointer (some ⟨r,m3 a p,none⟩)/\gIn a p
 |t,p=>v= .pointer (some ⟨r,t.off p,none⟩)/\t.eK p
theorem qH{t:Ty}{p:List Nat}{r:Nat}{v:Value}(h:t.bG=false):nu t p r v↔v= .pointer (some ⟨r,t.off p,none⟩)/\t.eK p:=by
 unfold nu
 split
 all_goals first
  |exact Iff.rfl
  |simp [Ty.bG] at h
theorem Qk{t:Ty}{p:List Nat}{r:Nat}{v:Value}(h:t.qx=false):nu t p r v↔v= .pointer (some ⟨r,t.off p,none⟩)/\t.eK p:=by
 unfold nu
 split
 all_goals first
  |exact Iff.rfl
  |simp [Ty.qx] at h
def az(X:aw)(pl:List Nat->Place):SV->Value->Prop
 | .undef,_=>True
 | .skip,v=>v=Go.undef
 | .cF,v=>v= .slice none 0 0
 | .dT,v=>v= .pointer none
 | .aj t x own,v=>∃cs,bg X t x cs/\v=dR t cs/\bn X pl t x cs own
 | .ptr id t p,v=>∃r,X.β id=some r/\nu t p r v
 | .view t x,v=>∃ad cs,v= .pointer (some ad)/\ad.spot=none/\bg X t x cs/\∀i u,cs[i]? =some u->X.ay (ad.add i) u
 | .cap f t x u y,v=>∃ad qt cs eJ,v= .func (.func f) #[] #[.pointer (some ad),.pointer (some qt)]/\(ad.spot=none/\bg X t x cs/\∀i w,cs[i]? =some w->X.ay (ad.add i) w)/\(qt.spot=none/\bg X u y eJ/\∀i w,eJ[i]? =some w->X.ay (qt.add i) w)
 | .over,v=>v= .tuple #[.bool false]
 | .bz id a _ j,v=>∃r,X.β id=some r/\X.ow r= .box id/\X.w.cell? ⟨r,a.cells+j,none⟩=some v
theorem rV{X Y:aw}{pl gv:List Nat->Place}(h:∀a v,X.ay a v->Y.ay a v){f:Nat}{t u:Ty}{x:El t}{y:El u}{v:Value}(hr:az X pl (.cap f t x u y) v):az Y gv (.cap f t x u y) v:=by
 obtain⟨ad,qt,cs,eJ,h1,⟨h2,h3,h4⟩,h5,h6,h7⟩:=hr
 exact⟨ad,qt,cs,eJ,h1,⟨h2,h3.ai h,fun i w hi=>h _ _ (h4 i w hi)⟩,h5,h6.ai h,fun i w hi=>h _ _ (h7 i w hi)⟩
def cM(X:aw)(pl:Nat->List Nat->Place)(l:List SV)(v:Value):Prop:=
 match l with
 | [s]=>az X (pl 0) s v
 |l=>∃vs:Array Value,v= .tuple vs/\vs.size=l.length/\∀(j:Nat) s u,l[j]? =some s->vs[j]? =some u->az X (pl j) s u
def eE(X:aw)(t:Ty)(x:El t)(v:Value):Prop:=∃cs,bg X t x cs/\v=dR t cs
def dA(X:aw)(pl:List Nat->Place)(b:Ty)(m:Option (El b))(v:Value):Prop:=
 match m with
 |none=>v= .pointer none
 |some y=>∃g cs T,v= .pointer (some ⟨g,0,none⟩)/\X.w.heap[g]? =some (.cells cs T (0,0))/\X.ow g= .row (pl []) 0/\bg X b y cs.toList/\bn X pl b y cs.toList BL
def ia(X:aw)(r:Nat)(pl:List Nat->Place)(a b:Ty)(x:El (.aJ .bN a b)):Prop:=
 ∃c p0 p1 T,X.w.heap[r]? =some (.cells (c++ [p0,p1,.int .i64 x.2.2]).toArray T (0,0))/\bg X a x.1 c/\dA X (fun p=>pl (0::p)) b x.2.1.1 p0/\dA X (fun p=>pl (1::p)) b x.2.1.2 p1
def dz(X:aw)(r:Nat)(pl:List Nat->Place):(t:Ty)->El t->List (List Nat)->Prop
 | .aJ .iter _ _,x,_=>X.w.heap[r]? =some (.stringIter x.1 x.2)
 | .aJ .mp kt vt,x,_=>∃es clock,X.w.heap[r]? =some (.map es clock)/\es.size=List.length x/\∀(i:Nat) (q:El kt×El vt) (e:MapEntry),x[i]? =some q->es[i]? =some e->eE X kt q.1 e.key/\eE X vt q.2 e.val
 | .aJ .row t _,xs,_=>∃cs T,X.w.heap[r]? =some (.cells cs T (0,0))/\cs.size=List.length xs*t.cells/\∀(j:Nat) (x:El t),xs[j]? =some x->bg X t x ((cs.toList.drop (j*t.cells)).take t.cells)
 | .aJ (.gF T e) _ _,x,own=>(∃o,X.w.heap[r]? =some o)/\([]∈own->∃v,vj T e r v (Lib.strCells x) X.w/\∀g,v.ownBlock=some g->X.ow g= .row (pl []) 0)
 | .aJ .bN a b,x,own=>(∃o,X.w.heap[r]? =some o)/\((∀p∈kW,p∈own)->ia X r pl a b x)
 | .aJ _ _ _,_,_=>False
 |t,x,own=>∃cs T,X.w.heap[r]? =some (.cells cs T (0,0))/\bg X t x cs.toList/\bn X pl t x cs.toList own
theorem dz.plain{X:aw}{r:Nat}{pl:List Nat->Place}{t:Ty}{x:El t}{own:List (List Nat)}(hs:t.bG=false):dz X r pl t x own↔∃cs T,X.w.heap[r]? =some (.cells cs T (0,0))/\bg X t x cs.toList/\bn X pl t x cs.toList own:=by
 cases t<;>first|exact Iff.rfl|simp [Ty.bG] at hs
theorem dz.of{X:aw}{r:Nat}{pl:List Nat->Place}{t:Ty}{x:El t}{own:List (List Nat)}{cs:Array Value}{T:TypeId}(hs:t.bG=false)(h1:X.w.heap[r]? =some (.cells cs T (0,0)))(h2:bg X t x cs.toList)(h3:bn X pl t x cs.toList own):dz X r pl t x own:=(dz.plain hs).2 ⟨cs,T,h1,h2,h3⟩
theorem eE.mono{X Y:aw}(h:∀a v,X.ay a v->Y.ay a v){t:Ty}{x:El t}{v:Value}(hr:eE X t x v):eE Y t x v:=by
 obtain⟨cs,h1,h2⟩:=hr
 exact⟨cs,h1.ai h,h2⟩
theorem dz.lt{X:aw}{r:Nat}{pl:List Nat->Place}{t:Ty}{x:El t}{own:List (List Nat)}(h:dz X r pl t x own):r<X.w.heap.size:=by
 have key:∀o,X.w.heap[r]? =some o->r<X.w.heap.size:=fun o ho=>(Array.getElem?_eq_some_iff.1 ho).1
 unfold dz at h
 split at h
 ·exact key _ h
 ·obtain⟨es,c,h1,_⟩:=h;exact key _ h1
 ·obtain⟨cs,T,h1,_⟩:=h;exact key _ h1
 ·obtain⟨⟨o,ho⟩,_⟩:=h;exact key _ ho
 ·obtain⟨⟨o,ho⟩,_⟩:=h;exact key _ ho
 ·exact h.elim
 ·obtain⟨cs,T,h1,_⟩:=h;exact key _ h1
theorem dA.move{X Y:aw}{pl gv:List Nat->Place}{b:Ty}{m:Option (El b)}{v:Value}(hs:∀a v,X.ay a v->Y.ay a v)
 (hg:∀p,p=[]\/p=[2]->∀g o n,X.w.heap[g]? =some o->X.ow g= .row (pl p) n->Y.w.heap[g]? =some o/\Y.ow g= .row (gv p) n) (h:dA X pl b m v):dA Y gv b m v:=by
 cases m with
 |none=>exact h
 |some y=>
  obtain⟨g,cs,T,h1,h2,h3,h4,h5⟩:=h
  obtain⟨k1,k2⟩:=hg [] (.inl rfl) g _ _ h2 h3
  refine⟨g,cs,T,h1,k1,k2,h4.ai hs,fun p hp=> ?_⟩
  have:p=[2]:=by simpa [BL] using hp
  subst this
  obtain⟨e,t',xs,v,g0,g1,g2,g3⟩:=h5 [2] hp
  refine⟨e,t',xs,v,g0,g1,g2,?_⟩
  rcases g3 with g3|⟨g',cap,cur,q1,q2,q3,q4,q5,q6⟩
  ·exact .inl g3
  ·obtain⟨j1,j2⟩:=hg [2] (.inr rfl) g' _ _ q2 q6
   exact .inr ⟨g',cap,cur,q1,j1,q3,q4,q5,j2⟩
theorem ia.move{X Y:aw}{r:Nat}{pl gv:List Nat->Place}{a b:Ty}{x:El (.aJ .bN a b)}(hs:∀a v,X.ay a v->Y.ay a v)(hh:Y.w.heap[r]? =X.w.heap[r]?)
 (hg:∀p∈kW,∀g o n,X.w.heap[g]? =some o->X.ow g= .row (pl p) n->Y.w.heap[g]? =some o/\Y.ow g= .row (gv p) n) (h:ia X r pl a b x):ia Y r gv a b x:=by
 obtain⟨c,p0,p1,T,h1,h2,h3,h4⟩:=h
 refine⟨c,p0,p1,T,hh.trans h1,h2.ai hs,h3.move hs fun p hp=> ?_,h4.move hs fun p hp=> ?_⟩
 ·rcases hp with rfl|rfl<;>exact hg _ (by simp [kW])
 ·rcases hp with rfl|rfl<;>exact hg _ (by simp [kW])
theorem dz.move{X Y:aw}{r:Nat}{pl gv:List Nat->Place}{t:Ty}{x:El t}{own:List (List Nat)}(hs:∀a v,X.ay a v->Y.ay a v)(hh:Y.w.heap[r]? =X.w.heap[r]?)
 (ho:∀cs,bn X pl t x cs own->bn Y gv t x cs own) (hg:∀p∈own,∀g o n,X.w.heap[g]? =some o->X.ow g= .row (pl p) n->Y.w.heap[g]? =some o/\Y.ow g= .row (gv p) n) (h:dz X r pl t x own):dz Y r gv t x own:=by
 unfold dz at h⊢
 split at h
 ·exact hh.trans h
 ·obtain⟨es,c,h1,h2,h3⟩:=h
  exact⟨es,c,hh.trans h1,h2,fun i q e hq he=>⟨(h3 i q e hq he).1.mono hs,(h3 i q e hq he).2.mono hs⟩⟩
 ·obtain⟨cs,T,h1,h2,h3⟩:=h
  exact⟨cs,T,hh.trans h1,h2,fun j x hj=>(h3 j x hj).ai hs⟩
 ·obtain⟨⟨o,h1⟩,h2⟩:=h
  refine⟨⟨o,hh.trans h1⟩,fun hm=> ?_⟩
  obtain⟨v,h3,h4⟩:=h2 hm
  refine⟨v,h3.same hh (fun g o hv ho=>(hg _ hm g o _ ho (h4 g hv)).1),fun g hv=> ?_⟩
  obtain⟨cap,cur,Cr⟩:∃cap cur,X.w.heap[g]? =some (.cells cur cap (0,0)):=by
   rcases h3.own.2 with⟨hn,_⟩|⟨g',cap,cur,jh,_,Cr,_⟩
   ·rw[hn] at hv;simp [Value.ownBlock] at hv
   ·rw[jh] at hv
    simp [Value.ownBlock] at hv
    subst hv
    exact⟨_,_,Cr⟩
  exact(hg _ hm g _ _ Cr (h4 g hv)).2
 ·obtain⟨⟨o,h1⟩,h2⟩:=h
  exact⟨⟨o,hh.trans h1⟩,fun hp=>(h2 hp).move hs hh fun p hm=>hg p (hp p hm)⟩
 ·exact h.elim
 ·obtain⟨cs,T,h1,h2,h3⟩:=h
  exact⟨cs,T,hh.trans h1,h2.ai hs,ho _ h3⟩
def bD(X:aw)(id r:Nat)(B:bC):Prop:=X.ow r= .box id/\dz X r (.b id) B.t B.x B.own
theorem bD.cells{X:aw}{id r:Nat}{B:bC}(h:bD X id r B)(hs:B.t.bG=false):∃cs T,X.w.heap[r]? =some (.cells cs T (0,0))/\bg X B.t B.x cs.toList/\X.ow r= .box id/\bn X (.b id) B.t B.x cs.toList B.own:=by
 obtain⟨cs,T,h1,h2,h3⟩:=(dz.plain hs).1 h.2
 exact⟨cs,T,h1,h2,h.1,h3⟩
def ib(s:State):Prop:=∀(i:Nat) l id a b j,s.sl[i]? =some l->SV.bz id a b j∈l->l=[.bz id a b j]/\(∃x own,s.bs[id]? =some (some ⟨.aJ .bN a b,x,own⟩)/\ []∉own)/\
 ∀(i':Nat) l' a' b' j',s.sl[i']? =some l'->SV.bz id a' b' j'∈l'->i'=i
theorem ib.less{s s':State}(h:ib s)(hs:∀(i:Nat) l id a b j,s'.sl[i]? =some l->SV.bz id a b j∈l->∃l0,s.sl[i]? =some l0/\SV.bz id a b j∈l0/\(l0=[.bz id a b j]->l=[.bz id a b j]))
 (hb:∀(id:Nat) a b x own,(∃(i:Nat) (l:List SV) (j:Nat),s'.sl[i]? =some l/\SV.bz id a b j∈l)->s.bs[id]? =some (some ⟨.aJ .bN a b,x,own⟩)-> []∉own->∃x' jE,s'.bs[id]? =some (some ⟨.aJ .bN a b,x',jE⟩)/\ []∉jE):ib s':=fun i l id a b j hl hm=>by
 obtain⟨l0,h1,h2,h3⟩:=hs i l id a b j hl hm
 obtain⟨g1,⟨x,own,g2,g3⟩,g4⟩:=h i l0 id a b j h1 h2
 refine⟨h3 g1,hb id a b x own ⟨i,l,j,hl,hm⟩ g2 g3,fun i' l' a' b' j' kM sn=> ?_⟩
 obtain⟨l1,k1,k2,_⟩:=hs i' l' id a' b' j' kM sn
 exact g4 i' l1 a' b' j' k1 k2
theorem ib.aC{s:State}(h:ib s){d:Nat}{B:bC}(hn:∀(i:Nat) (l:List SV) a b j,s.sl[i]? =some l->SV.bz d a b j∈l->False):ib (s.aC (some (d,B))):=
 h.less (fun i l id a b j hl hm=>⟨l,hl,hm,fun h=>h⟩) fun id a b x own hex hb ho=>by
  obtain⟨i,l,j,hl,hm⟩:=hex
  refine⟨x,own,?_,ho⟩
  simp only[State.aC,List.getElem?_set]
  rw[if_neg (fun e=>by subst e;exact hn i l a b j hl hm)]
  exact hb
theorem ib.none{s:State}(h:ib s){d:Nat}(hb:∀a b x own,s.bs[d]? =some (some ⟨.aJ .bN a b,x,own⟩)-> []∈own):∀(i:Nat) (l:List SV) a b j,s.sl[i]? =some l->SV.bz d a b j∈l->False:=fun i l a b j hl hm=>by
 obtain⟨_,⟨x,own,h1,h2⟩,_⟩:=h i l d a b j hl hm
 exact h2 (hb a b x own h1)
theorem YW{l:List SV}(h:l.any SV.bL=false){id:Nat}{a b:Ty}{j:Nat}(hm:SV.bz id a b j∈l):False:=by
 have:=List.any_eq_false.1 h _ hm
 exact this rfl
structure Rel(X:aw)(s:State)(a:Act):Prop where
 size:s.sl.length=a.tmps.size
 gL:s.bs.length=s.sl.length+1
 bQ:∀(i:Nat) l v,s.sl[i]? =some l->a.tmps[i]? =some v->cM X (.c i) l v
 boxes:∀(id:Nat) B,s.bs[id]? =some (some B)->∃r,X.β id=some r/\bD X id r B
 live:∀(i:Nat) l id t p,s.sl[i]? =some l->SV.ptr id t p∈l->∃B,s.bs[id]? =some (some B)
 defers:a.defers=[]
 bz:ib s
theorem vN{w:World}{g:Nat}{o:Obj}(h:w.heap[g]? =some o):g<w.heap.size:=(Array.getElem?_eq_some_iff.1 h).1
theorem cM.iS{X Y:aw}{pl gv:Nat->List Nat->Place}{l:List SV}{v:Value}(hr:cM X pl l v)(h:∀(j:Nat) s u,l[j]? =some s->az X (pl j) s u->az Y (gv j) s u):cM Y gv l v:=by
 match l,hr with
 | [s],hr=>exact h 0 s v (by simp) hr
 | [],⟨vs,h1,h2,h3⟩=>exact⟨vs,h1,h2,fun j s u hs hu=>h j s u hs (h3 j s u hs hu)⟩
 |x::y::r,⟨vs,h1,h2,h3⟩=>exact⟨vs,h1,h2,fun j s u hs hu=>h j s u hs (h3 j s u hs hu)⟩
def cX(s:State):Place->Prop
 | .c i j p=>∃l t x own,s.sl[i]? =some l/\l[j]? =some (.aj t x own)/\p∈own
 | .b id p=>∃B,s.bs[id]? =some (some B)/\p∈B.own
 | .r _ _=>False
structure Mod(s:State)(X Y:aw):Prop where
 ay:∀a v,X.ay a v->Y.ay a v
 size:X.w.heap.size<=Y.w.heap.size
 os:Y.w.os=X.w.os
 tape:Y.w.tape=X.w.tape
 output:Y.w.output=X.w.output
 β0:Y.β 0=X.β 0
 β:∀(id:Nat) B,s.bs[id]? =some (some B)->Y.β id=X.β id
 mV:∀g,g<X.w.heap.size->(Y.ow g=X.ow g/\Y.w.heap[g]? =X.w.heap[g]?)\/∃pl n,X.ow g= .row pl n/\¬cX s pl
theorem Mod.ext{s:State}{X Y:aw}(h:Mod s X Y):Ext X Y:=
 ⟨h.ay,h.size,h.os,h.tape,h.output,h.β0,fun g hg bP=>by
   rcases h.mV g hg with e|⟨pl,n,h1,_⟩
   ·exact e
   ·rw[h1] at bP;exact bP.elim⟩
theorem Mod.refl(s:State)(X:aw):Mod s X X:=⟨fun _ _ h=>h,Nat.le_refl _,rfl,rfl,rfl,rfl,fun _ _ _=>rfl,fun _ _=> .inl ⟨rfl,rfl⟩⟩
theorem bp.mod{s:State}{X Y:aw}(h:Mod s X Y){pl:Place}{e:TypeId}{k n:Nat}{v:Value}(hf:cX s pl)(ho:bp X pl e k n v):bp Y pl e k n v:=by
 rcases ho with ho|⟨g,cap,cur,h1,h2,h3,h4,h5,h6⟩
 ·exact .inl ho
 ·rcases h.mV g (vN h2) with⟨k1,k2⟩|⟨gv,n',k1,k2⟩
  ·exact .inr ⟨g,cap,cur,h1,k2.trans h2,h3,h4,h5,k1.trans h6⟩
  ·rw[h6] at k1;injection k1 with k1;rw[k1] at hf;exact absurd hf k2
theorem bn.mod{s:State}{X Y:aw}(h:Mod s X Y){pl:List Nat->Place}{t:Ty}{x:El t}{cs:List Value}{own:List (List Nat)}(hf:∀p∈own,cX s (pl p))(ho:bn X pl t x cs own):bn Y pl t x cs own:=fun p hp=>by
 obtain⟨e,t',xs,v,g0,g1,g2,g3⟩:=ho p hp
 exact⟨e,t',xs,v,g0,g1,g2,g3.mod h (hf p hp)⟩
theorem az.mod{s:State}{X Y:aw}(h:Mod s X Y){pl:List Nat->Place}{sv:SV}{v:Value}(hf:∀t x own,sv= .aj t x own->∀p∈own,cX s (pl p))(hl:∀id t p,sv= .ptr id t p->∃B,s.bs[id]? =some (some B))(hk:∀id a b j,sv= .bz id a b j->∃B,s.bs[id]? =some (some B))(hr:az X pl sv v):az Y pl sv v:=by
 cases sv with
 |undef=>trivial
 |skip=>exact hr
 |cF=>exact hr
 |dT=>exact hr
 |over=>exact hr
 |aj t x own=>
  obtain⟨cs,h1,h2,h3⟩:=hr
  exact⟨cs,h1.ai h.ay,h2,h3.mod h (hf t x own rfl)⟩
 |ptr id t p=>
  obtain⟨r,h1,h2⟩:=hr
  obtain⟨B,hB⟩:=hl id t p rfl
  exact⟨r,(h.β id B hB).trans h1,h2⟩
 |view t x=>
  obtain⟨ad,cs,h1,h2,h3,h4⟩:=hr
  exact⟨ad,cs,h1,h2,h3.ai h.ay,fun i u hi=>h.ay _ _ (h4 i u hi)⟩
 |cap f t x u y=>exact rV h.ay hr
 |bz id a b j=>
  obtain⟨r,h1,h2,h3⟩:=hr
  obtain⟨B,hB⟩:=hk id a b j rfl
  have aq:r<X.w.heap.size:=World.block_lt_of_cell? X.w _ h3
  rcases h.mV r aq with⟨k1,k2⟩|⟨gv,n',k1,_⟩
  ·refine⟨r,(h.β id B hB).trans h1,k1.trans h2,?_⟩
   simp only[World.cell?] at h3⊢
   rw[k2];exact h3
  ·rw[h2] at k1;cases k1
theorem Rel.mod{s:State}{X Y:aw}{a:Act}(hr:Rel X s a)(h:Mod s X Y):Rel Y s a where
 size:=hr.size
 gL:=hr.gL
 bQ:=fun i l v hl hv=>(hr.bQ i l v hl hv).iS fun j sv u hm jL=>jL.mod h (fun t x own e p hp=>⟨l,t,x,own,hl,e▸hm,hp⟩) (fun id t p e=>hr.live i l id t p hl (e▸List.mem_of_getElem? hm)) (fun id a b j e=>by
  obtain⟨_,⟨x,own,hb,_⟩,_⟩:=hr.bz i l id a b j hl (e▸List.mem_of_getElem? hm)
  exact⟨_,hb⟩)
 boxes:=fun id B hB=>by
  obtain⟨r,h1,h4,h2⟩:=hr.boxes id B hB
  have hk:Y.ow r=X.ow r/\Y.w.heap[r]? =X.w.heap[r]? :=by
   rcases h.mV r h2.lt with hk|⟨gv,n',k1,k2⟩
   ·exact hk
   ·rw[h4] at k1;cases k1
  exact⟨r,(h.β id B hB).trans h1,hk.1.trans h4,h2.move h.ay hk.2 (fun cs h5=>h5.mod h fun p hp=>⟨B,hB,hp⟩) fun p hm g o n ho hw=>by
   rcases h.mV g (vN ho) with e|⟨pl,n',e1,e2⟩
   ·exact⟨e.2.trans ho,e.1.trans hw⟩
   ·rw[hw] at e1;injection e1 with e1;exact absurd (e1▸(⟨B,hB,hm⟩:cX s (.b id p))) e2⟩
 live:=hr.live
 defers:=hr.defers
 bz:=hr.bz
structure eP(s:State)(X Y:aw):Prop where
 size:X.w.heap.size<=Y.w.heap.size
 os:Y.w.os=X.w.os
 tape:Y.w.tape=X.w.tape
 output:Y.w.output=X.w.output
 mV:∀g,g<X.w.heap.size->Y.ow g=X.ow g/\Y.w.heap[g]? =X.w.heap[g]?
 β0:Y.β 0=X.β 0
 β:∀(id:Nat) B,s.bs[id]? =some (some B)->Y.β id=X.β id
theorem eP.ay{s:State}{X Y:aw}(h:eP s X Y){a:Addr}{v:Value}(hs:X.ay a v):Y.ay a v:=by
 have aq:=aw.iF hs
 obtain⟨h1,h2⟩:=h.mV _ aq
 refine⟨hs.1,?_,?_⟩
 ·have:=hs.2.1
  simp only[World.cell?] at this⊢
  rw[h2];exact this
 ·rw[h1];exact hs.2.2
theorem eP.mod{s:State}{X Y:aw}(h:eP s X Y):Mod s X Y:=
 ⟨fun _ _=>h.ay,h.size,h.os,h.tape,h.output,h.β0,h.β,fun g hg=> .inl (h.mV g hg)⟩
theorem eP.ext{s:State}{X Y:aw}(h:eP s X Y):Ext X Y:=h.mod.ext
theorem bp.dx{s:State}{X Y:aw}(h:eP s X Y){pl:Place}{e:TypeId}{k n:Nat}{v:Value}(ho:bp X pl e k n v):bp Y pl e k n v:=by
 rcases ho with ho|⟨g,cap,cur,h1,h2,h3,h4,h5,h6⟩
 ·exact .inl ho
 ·obtain⟨k1,k2⟩:=h.mV g (vN h2)
  exact .inr ⟨g,cap,cur,h1,k2.trans h2,h3,h4,h5,k1.trans h6⟩
theorem bn.dx{s:State}{X Y:aw}(h:eP s X Y){pl:List Nat->Place}{t:Ty}{x:El t}{cs:List Value}{own:List (List Nat)}(ho:bn X pl t x cs own):bn Y pl t x cs own:=fun p hp=>by
 obtain⟨e,t',xs,v,g0,g1,g2,g3⟩:=ho p hp
 exact⟨e,t',xs,v,g0,g1,g2,g3.dx h⟩
theorem Rel.dx{s:State}{X Y:aw}{a:Act}(hr:Rel X s a)(h:eP s X Y):Rel Y s a:=hr.mod h.mod
theorem Rel.put{X:aw}{s:State}{a:Act}(hr:Rel X s a){d:Option Nat}{l:List SV}{v:Value}(h:∀d',d=some d'->cM X (.c d') l v)(hl:∀id t p,SV.ptr id t p∈l->∃B,s.bs[id]? =some (some B))(hn:l.any SV.bL=false:=by rfl):Rel X (s.au d l) (a.put d v):=by
 cases d with
 |none=>exact hr
 |some d=>
  refine⟨by simpa [State.au,Act.put] using hr.size,by simpa [State.au] using hr.gL,fun i l' v' hi hv=> ?_,hr.boxes,fun i l' id t p hi hm=> ?_,hr.defers,hr.bz.less (fun i l' id a b j hi hm=> ?_) (fun id a b x own _ hb ho=>⟨x,own,hb,ho⟩)⟩
  ·simp only[State.au,List.getElem?_set] at hi
   simp only[Act.put,Array.getElem?_setIfInBounds] at hv
   by_cases e:d=i
   ·subst e
    simp only[if_true] at hi hv
    split at hi
    ·split at hv
     ·cases hi;cases hv;exact h d rfl
     ·cases hv
    ·cases hi
   ·rw[if_neg e] at hi hv
    exact hr.bQ i l' v' hi hv
  ·simp only[State.au,List.getElem?_set] at hi
   split at hi
   ·split at hi
    ·cases hi;exact hl id t p hm
    ·cases hi
   ·exact hr.live i l' id t p hi hm
  ·simp only[State.au,List.getElem?_set] at hi
   split at hi
   ·split at hi
    ·cases hi;exact(YW hn hm).elim
    ·cases hi
   ·exact⟨l',hi,hm,fun h=>h⟩
theorem Rel.skip{X:aw}{s:State}{a:Act}(hr:Rel X s a)(d:Option Nat):Rel X (s.au d [.skip]) (a.put d Go.undef):=
 hr.put (fun _ _=>rfl) (fun id t p h=>by simp at h)
structure dY(s:State)(X Y:aw):Prop where
 w:Y.w=X.w
 β:Y.β=X.β
 ow:∀g,Y.ow g=X.ow g\/∃pl n q,X.ow g= .row pl n/\¬cX s pl/\Y.ow g= .row q n
theorem dY.ay{s:State}{X Y:aw}(h:dY s X Y){a:Addr}{v:Value}:X.ay a v↔Y.ay a v:=by
 unfold aw.ay
 rw[h.w]
 rcases h.ow a.block with e|⟨pl,n,q,h1,_,h2⟩
 ·rw[e]
 ·rw[h1,h2];rfl
theorem dY.mod{s:State}{X Y:aw}(h:dY s X Y):Mod s X Y:=
 ⟨fun _ _=>h.ay.1,by rw[h.w];exact Nat.le_refl _,by rw[h.w],by rw[h.w],by rw[h.w],by rw[h.β],fun _ _ _=>by rw[h.β],fun g _=>by
   rcases h.ow g with e|⟨pl,n,q,h1,h2,_⟩
   ·exact .inl ⟨e,by rw[h.w]⟩
   ·exact .inr ⟨pl,n,h1,h2⟩⟩
theorem dY.ext{s:State}{X Y:aw}(h:dY s X Y):Ext X Y:=h.mod.ext
theorem dY.refl(s:State)(X:aw):dY s X X:=⟨rfl,rfl,fun _=> .inl rfl⟩
theorem TF{v:SV}{id:Nat}{t:Ty}{p:List Nat}:v.shut= .ptr id t p->v= .ptr id t p:=by cases v<;>simp [SV.shut]
theorem az.shut{X:aw}{pl gv:List Nat->Place}{sv:SV}{v:Value}(hr:az X pl sv v):az X gv sv.shut v:=by
 cases sv with
 |aj t x own=>
  obtain⟨cs,h1,h2,_⟩:=hr
  exact⟨cs,h1,h2,fun p hp=>by cases hp⟩
 |bz id a b j=>trivial
 |_=>exact hr
theorem z7y:∀(l:List SV) (j:Nat),(bO l j).length=l.length
 | [],_=>rfl
 |_::_,0=>rfl
 |_::r,j+1=>by simp [bO,z7y r j]
theorem P2:∀(l:List SV) (j i:Nat),(bO l j)[i]? =if i=j then(l[i]?).map SV.shut else l[i]?
 | [],j,i=>by simp [bO]
 |v::r,0,0=>by simp [bO]
 |v::r,0,i+1=>by simp [bO]
 |v::r,j+1,0=>by simp [bO]
 |v::r,j+1,i+1=>by
  simp only[bO,List.getElem?_cons_succ,P2 r j i]
  simp
theorem cM.bO{X:aw}{pl:Nat->List Nat->Place}{l:List SV}{v:Value}(hr:cM X pl l v)(j:Nat):cM X pl (bO l j) v:=by
 match l,hr with
 | [s],hr=>
   cases j with
   |zero=>exact hr.shut
   |succ j=>exact hr
 | [],hr=>exact hr
 |x::y::r,⟨vs,h1,h2,h3⟩=>
  have hlen:∃x' y' r',Ref.bO (x::y::r) j=x'::y'::r':=by
   match j with
   |0=>exact⟨_,_,_,rfl⟩
   |1=>exact⟨_,_,_,rfl⟩
   |j+2=>exact⟨_,_,_,rfl⟩
  obtain⟨x',y',r',he⟩:=hlen
  have hl:=z7y (x::y::r) j
  have hg:=P2 (x::y::r) j
  rw[he] at hl hg⊢
  refine⟨vs,h1,by rw[hl];exact h2,fun i s u hs hu=> ?_⟩
  rw[hg] at hs
  split at hs
  ·obtain⟨s0,fe,rfl⟩:=Option.map_eq_some_iff.1 hs
   exact(h3 i s0 u fe hu).shut
  ·exact h3 i s u hs hu
theorem ad3{l:List SV}{j:Nat}{id:Nat}{t:Ty}{p:List Nat}(h:SV.ptr id t p∈bO l j):SV.ptr id t p∈l:=by
 obtain⟨i,hi⟩:=List.mem_iff_getElem?.1 h
 rw[P2] at hi
 split at hi
 ·obtain⟨s0,fe,he⟩:=Option.map_eq_some_iff.1 hi
  rw[TF he] at fe
  exact List.mem_of_getElem? fe
 ·exact List.mem_of_getElem? hi
theorem qL{s:State}{i:Nat}(h:i<s.sl.length):s.sl[i]? =some (s.slot i):=by
 simp [State.slot,List.getD_eq_getElem?_getD,List.getElem?_eq_getElem h]
theorem ad2{l:List SV}{j:Nat}{id:Nat}{a b:Ty}{i:Nat}(h:SV.bz id a b i∈bO l j):SV.bz id a b i∈l/\(l=[.bz id a b i]->bO l j=[.bz id a b i]):=by
 obtain⟨k,hk⟩:=List.mem_iff_getElem?.1 h
 have AG:=hk
 rw[P2] at hk
 split at hk
 ·obtain⟨s0,fe,he⟩:=Option.map_eq_some_iff.1 hk
  cases s0<;>simp [SV.shut] at he
 ·refine⟨List.mem_of_getElem? hk,fun e=> ?_⟩
  subst e
  cases j with
  |zero=>simp [bO,SV.shut] at h
  |succ j=>rfl
def State.cg(s:State)(i j:Nat):State:={s with sl:=s.sl.set i (bO (s.slot i) j)}
theorem Fe{s:State}{i j:Nat}{r:List (Nat×Nat)}:s.close ((i,j)::r)=(s.cg i j).close r:=rfl
theorem zi4{r:List (Nat×Nat)}:∀(l:List (Nat×Nat)) (s:State),s.close (l++r)=(s.close l).close r
 | [],s=>rfl
 |(i,j)::l,s=>by
  rw[List.cons_append,Fe,Fe]
  exact zi4 l _
theorem Rel.cg{X:aw}{s:State}{a:Act}(hr:Rel X s a)(i j:Nat):Rel X (s.cg i j) a:=by
 refine⟨by simpa [State.cg] using hr.size,by simpa [State.cg] using hr.gL,fun k l v hl hv=> ?_,hr.boxes,fun k l id t p hl hm=> ?_,hr.defers,hr.bz.less (fun k l id a b n hl hm=> ?_) (fun id a b x own _ hb ho=>⟨x,own,hb,ho⟩)⟩
 ·simp only[State.cg,List.getElem?_set] at hl
  split at hl
  ·rename_i e
   subst e
   split at hl
   ·rename_i aq
    cases hl
    exact(hr.bQ i _ v (qL aq) hv).bO j
   ·cases hl
  ·exact hr.bQ k l v hl hv
 ·simp only[State.cg,List.getElem?_set] at hl
  split at hl
  ·rename_i e
   subst e
   split at hl
   ·rename_i aq
    cases hl
    exact hr.live i _ id t p (qL aq) (ad3 hm)
   ·cases hl
  ·exact hr.live k l id t p hl hm
 ·simp only[State.cg,List.getElem?_set] at hl
  split at hl
  ·rename_i e
   subst e
   split at hl
   ·rename_i aq
    cases hl
    obtain⟨h1,h2⟩:=ad2 hm
    exact⟨_,qL aq,h1,h2⟩
   ·cases hl
  ·exact⟨l,hl,hm,fun h=>h⟩
theorem Rel.close{X:aw}{a:Act}:∀(c:List (Nat×Nat)) {s:State},Rel X s a->Rel X (s.close c) a
 | [],s,hr=>hr
 |(i,j)::r,s,hr=>Rel.close r (hr.cg i j)
theorem z40:∀{c:List (Nat×Nat)} {s:State},(s.close c).bs=s.bs
 | [],s=>rfl
 |(i,j)::r,s=>(z40 (c:=r) (s:=s.cg i j))
theorem P7:∀{c:List (Nat×Nat)} {s:State},(s.close c).sl.length=s.sl.length
 | [],s=>rfl
 |(i,j)::r,s=>by rw[Fe,P7 (c:=r)];simp [State.cg]
theorem cX.rM{s:State}{i j:Nat}{pl:Place}(h:cX (s.cg i j) pl):cX s pl/\∀p,pl≠ .c i j p:=by
 cases pl with
 |r j p=>exact h.elim
 |b id p=>exact⟨h,fun p=>by simp⟩
 |c i' j' p=>
  obtain⟨l,t,x,own,hl,hx,hp⟩:=h
  simp only[State.cg,List.getElem?_set] at hl
  split at hl
  ·rename_i e
   subst e
   split at hl
   ·rename_i aq
    cases hl
    rw[P2] at hx
    split at hx
    ·obtain⟨s0,_,he⟩:=Option.map_eq_some_iff.1 hx
     cases s0<;>simp [SV.shut] at he
     obtain⟨rfl,_,rfl⟩:=he
     cases hp
    ·rename_i bJ
     exact⟨⟨_,t,x,own,qL aq,hx,hp⟩,fun q e=>by cases e;exact bJ rfl⟩
   ·cases hl
  ·rename_i bJ
   exact⟨⟨l,t,x,own,hl,hx,hp⟩,fun q e=>by cases e;exact bJ rfl⟩
theorem cX.kr{pl:Place}:∀{c:List (Nat×Nat)} {s:State},cX (s.close c) pl->cX s pl/\∀i j,(i,j)∈c->∀p,pl≠ .c i j p
 | [],s,h=>⟨h,fun i j hm=>by cases hm⟩
 |(i,j)::r,s,h=>by
  obtain⟨h1,h2⟩:=cX.kr (c:=r) (s:=s.cg i j) h
  obtain⟨h3,h4⟩:=cX.rM h1
  refine⟨h3,fun i' j' hm p=> ?_⟩
  rcases List.mem_cons.1 hm with e|hm
  ·cases e;exact h4 p
  ·exact h2 i' j' hm p
theorem cX.close{s:State}{i j:Nat}{p:List Nat}:¬cX (s.close [(i,j)]) (.c i j p):=fun h=>(cX.kr h).2 i j (by simp) p rfl
def aw.turn(X:aw)(i j:Nat)(q:List Nat->Place):aw:=
 {X with ow:=fun g=>match X.ow g with
  | .row (.c i' j' p) n=>if i'=i/\j'=j then .row (q p) n else .row (.c i' j' p) n
  |w=>w}
theorem MP{s:State}{X:aw}{i j:Nat}{q:List Nat->Place}(h:∀p,¬cX s (.c i j p)):dY s X (X.turn i j q):=by
 refine⟨rfl,rfl,fun g=> ?_⟩
 simp only[aw.turn]
 cases hg:X.ow g with
 |row pl n=>
  cases pl with
  |c i' j' p=>
   by_cases e:i'=i/\j'=j
   ·obtain⟨rfl,rfl⟩:=e
    exact .inr ⟨_,n,q p,rfl,h p,by simp⟩
   ·exact .inl (by simp [e])
  |_=>exact .inl rfl
 |_=>exact .inl rfl
theorem bp.mm{X:aw}{i j:Nat}{q:List Nat->Place}{p:List Nat}{e:TypeId}{k n:Nat}{v:Value}(h:bp X (.c i j p) e k n v):bp (X.turn i j q) (q p) e k n v:=by
 rcases h with h|⟨g,cap,cur,h1,h2,h3,h4,h5,h6⟩
 ·exact .inl h
 ·exact .inr ⟨g,cap,cur,h1,h2,h3,h4,h5,by simp [aw.turn,h6]⟩
theorem bn.mm{X:aw}{i j:Nat}{q:List Nat->Place}{t:Ty}{x:El t}{cs:List Value}{own:List (List Nat)}(h:bn X (.c i j) t x cs own):bn (X.turn i j q) q t x cs own:=fun p hp=>by
 obtain⟨e,t',xs,v,g0,g1,g2,g3⟩:=h p hp
 exact⟨e,t',xs,v,g0,g1,g2,g3.mm⟩
def lS(X Y:aw):Prop:=Y.w=X.w/\∀g pl n,X.ow g= .row pl n->(∀i j p,pl≠ .c i j p)->Y.ow g= .row pl n
theorem ahD{X:aw}{i j:Nat}{q:List Nat->Place}:lS X (X.turn i j q):=⟨rfl,fun g pl n h hp=>by
 simp only[aw.turn,h]
 cases pl with
 |c i' j' p=>exact absurd rfl (hp i' j' p)
 |_=>rfl⟩
theorem lS.refl(X:aw):lS X X:=⟨rfl,fun _ _ _ h _=>h⟩
theorem bn.stay{X Y:aw}(h:lS X Y){pl:List Nat->Place}(hp:∀r i j p,pl r≠ .c i j p){t:Ty}{x:El t}{cs:List Value}{own:List (List Nat)}(ho:bn X pl t x cs own):bn Y pl t x cs own:=fun p hm=>by
 obtain⟨e,t',xs,v,g0,g1,g2,g3⟩:=ho p hm
 refine⟨e,t',xs,v,g0,g1,g2,?_⟩
 rcases g3 with h0|⟨g,cap,cur,h1,h2,h3,h4,h5,h6⟩
 ·exact .inl h0
 ·exact .inr ⟨g,cap,cur,h1,by rw[h.1];exact h2,h3,h4,h5,h.2 g _ _ h6 (hp p)⟩
theorem Rel.take{X:aw}{s:State}{a:Act}(hr:Rel X s a){i j:Nat}{t:Ty}{x:El t}{w:List (List Nat)}{v:Value}(h:az X (.c i j) (.aj t x w) v)(q:List Nat->Place):
 ∃Y,Y.w=X.w/\Ext X Y/\Rel Y (s.close [(i,j)]) a/\az Y q (.aj t x w) v/\Y.β=X.β/\dY (s.close [(i,j)]) X Y/\lS X Y:=by
 obtain⟨cs,h1,h2,h3⟩:=h
 have hT:dY (s.close [(i,j)]) X (X.turn i j q):=MP fun p=>cX.close
 exact⟨X.turn i j q,rfl,hT.ext,(hr.close _).mod hT.mod,⟨cs,h1.ai (fun _ _=>hT.ay.1),h2,h3.mm⟩,rfl,hT,ahD⟩
def aw.dU(X:aw)(i d:Nat):aw:=
 {X with ow:=fun g=>match X.ow g with
  | .row (.c i' j' p) n=>if i'=i then .row (.c d j' p) n else .row (.c i' j' p) n
  |w=>w}
theorem MO(t:Nat):∀(n j:Nat),j<n->(t,j)∈kx t n
 |0,j,h=>absurd h (Nat.not_lt_zero j)
 |n+1,j,h=>by
  rcases Nat.lt_or_ge j n with h1|h1
  ·exact List.mem_cons_of_mem _ (MO t n j h1)
  ·have:j=n:=by omega
   subst this
   simp [kx]
theorem cX.closeAll{s:State}{t j:Nat}{p:List Nat}:¬cX (s.close (kx t (s.slot t).length)) (.c t j p):=fun h=>by
 obtain⟨h1,h2⟩:=cX.kr h
 obtain⟨l,ty,x,own,g1,g2,g3⟩:=h1
 have hl:s.slot t=l:=by simp [State.slot,g1]
 have hj:j<l.length:=(List.getElem?_eq_some_iff.1 g2).1
 exact h2 t j (MO t _ j (by rw[hl];exact hj)) p rfl
theorem acv{s:State}{X:aw}{i d:Nat}(h:∀j p,¬cX s (.c i j p)):dY s X (X.dU i d):=by
 refine⟨rfl,rfl,fun g=> ?_⟩
 simp only[aw.dU]
 cases hg:X.ow g with
 |row pl n=>
  cases pl with
  |c i' j' p=>
   by_cases e:i'=i
   ·subst e
    exact .inr ⟨_,n,.c d j' p,rfl,h j' p,by simp⟩
   ·exact .inl (by simp [e])
  |_=>exact .inl rfl
 |_=>exact .inl rfl
theorem bp.iX{X:aw}{i d j:Nat}{p:List Nat}{e:TypeId}{k n:Nat}{v:Value}(h:bp X (.c i j p) e k n v):bp (X.dU i d) (.c d j p) e k n v:=by
 rcases h with h|⟨g,cap,cur,h1,h2,h3,h4,h5,h6⟩
 ·exact .inl h
 ·exact .inr ⟨g,cap,cur,h1,h2,h3,h4,h5,by simp [aw.dU,h6]⟩
theorem az.iX{s:State}{X:aw}{i d j:Nat}{sv:SV}{v:Value}(hT:dY s X (X.dU i d))(h:az X (.c i j) sv v):az (X.dU i d) (.c d j) sv v:=by
 cases sv with
 |aj t x own=>
  obtain⟨cs,h1,h2,h3⟩:=h
  refine⟨cs,h1.ai (fun _ _=>hT.ay.1),h2,fun p hp=> ?_⟩
  obtain⟨e,t',xs,v,g0,g1,g2,g3⟩:=h3 p hp
  exact⟨e,t',xs,v,g0,g1,g2,g3.iX⟩
 |view t x=>
  obtain⟨ad,cs,h1,h2,h3,h4⟩:=h
  exact⟨ad,cs,h1,h2,h3.ai (fun _ _=>hT.ay.1),fun i u hi=>hT.ay.1 (h4 i u hi)⟩
 |cap f t x u y=>exact rV (fun _ _=>hT.ay.1) h
 |bz id a b k=>
  obtain⟨r,h1,h2,h3⟩:=h
  exact⟨r,h1,by simp [aw.dU,h2],h3⟩
 |_=>exact h
theorem Rel.xV{X:aw}{s:State}{a:Act}(hr:Rel X s a){t:Nat}{v:Value}(h:cM X (.c t) (s.slot t) v)(d:Nat):
 ∃Y,Y.w=X.w/\Ext X Y/\Rel Y (s.close (kx t (s.slot t).length)) a/\cM Y (.c d) (s.slot t) v:=by
 have hT:dY (s.close (kx t (s.slot t).length)) X (X.dU t d):=acv fun j p=>cX.closeAll
 exact⟨X.dU t d,rfl,hT.ext,(hr.close _).mod hT.mod,h.iS fun j sv u hj hu=>hu.iX hT⟩
def zp:Ty->List Value
 | .bool=>[.bool false]
 | .int k=>[.int k 0]
 | .str=>[.string ⟨#[]⟩]
 | .sl _ _=>[.slice none 0 0]
 | .arr n t=>(List.replicate n (zp t)).flatten
 | .unit=>[]
 | .pair a b=>zp a++zp b
 | .aJ _ _ _=>[]
def js(E:Env):List Field->Ty->Nat->Prop
 | [],.unit,_=>True
 |f::r,.pair a b,off=>f.offset=off/\E.ty f.type=some a/\f.name≠ "_" /\js E r b (off+a.cells)
 |_,_,_=>False
def Ps(P:Program)(E:Env)(T:TypeId):Ty->Prop
 | .bool=>P.underlying T=some .bool
 | .int k=>P.underlying T=some (.int k)
 | .str=>P.underlying T=some .string
 | .sl e t=>P.underlying T=some (.slice e)/\E.ty e=some t
 | .arr n t=>∃e,P.underlying T=some (.array n e)/\E.ty e=some t/\P.eqGuardType P.depth T=false
 | .aJ _ _ _=>False
 |t=>∃fs,P.underlying T=some (.struct fs)/\js E fs.toList t 0/\P.stoodInHeld T=false/\P.eqGuardType P.depth T=false
structure lU(P:Program)(E:Env)(T:TypeId)(t:Ty):Prop where
 info:∃i,P.info? T=some i/\i.size=t.cells/\i.bytes=E.bytes T/\i.zero=some (dR t (zp t))
 dw:Ps P E T t
structure al(P:Program)(E:Env):Prop where
 ty:∀T t,E.ty T=some t->lU P E T t
 pt:∀T,E.pt T=true->∃e,P.underlying T=some (.pointer e)
 p1:∀T,E.pt T=true->∃i,P.info? T=some i/\i.size=1
 mp:∀T k e,E.mp T=some (k,e)->P.underlying T=some (.map k e)
 bl:∀T e,E.bl T=some e->∃i,P.info? T=some i/\i.zero=some (.agg #[.pointer none,.slice none 0 0])
 gr:∀T a b,E.gr T=some (a,b)->∃fs,P.underlying T=some (.struct fs)/\∀j,j<=2->∃f i,fs[j]? =some f/\f.offset=m3 a [j]/\P.info? f.type=some i/\i.size≠0
 gz:∀T a b,E.gr T=some (a,b)->∃i,P.info? T=some i/\i.zero=some (.agg (zp a++ [Value.pointer none,Value.pointer none,Value.int .i64 0]).toArray)
 g3:∀T a b,E.gr T=some (a,b)->∃fs f,P.underlying T=some (.struct fs)/\fs[0]? =some f/\f.offset=0/\E.ty f.type=some a/\∀f∈fs.toList,∃i,P.info? f.type=some i
 ga:∀T,E.ga T=true->∃e i,P.underlying T=some (.array 2 e)/\P.info? e=some i/\i.size=1
theorem al.iU{P:Program}{E:Env}(hE:al P E){T:TypeId}{t:Ty}(h:E.ty T=some t):t.bG=false:=by
 have:=(hE.ty T t h).dw
 cases t<;>first|rfl|exact this.elim
theorem va:∀t:Ty,(zp t).length=t.cells
 | .bool=>rfl
 | .int _=>rfl
 | .str=>rfl
 | .sl _ _=>rfl
 | .unit=>rfl
 | .arr n t=>by simp [zp,Ty.cells,va t]
 | .pair a b=>by simp [zp,Ty.cells,va a,va b]
 | .aJ _ _ _=>rfl
theorem z9q{l:List Value}{k:Nat}(hl:l.length=k):∀(n j:Nat),j<n->(((List.replicate n l).flatten).drop (j*k)).take k=l
 |0,j,h=>by omega
 |n+1,0,_=>by
  simp only[List.replicate_succ,List.flatten_cons,Nat.zero_mul,List.drop_zero]
  rw[<-hl];exact List.take_left
 |n+1,j+1,h=>by
  simp only[List.replicate_succ,List.flatten_cons]
  rw[Nat.add_mul,Nat.one_mul,Nat.add_comm,<-List.drop_drop]
  rw[show List.drop k (l++(List.replicate n l).flatten)=(List.replicate n l).flatten by rw[<-hl];exact List.drop_left]
  exact z9q hl n j (by omega)
theorem sF(X:aw):∀t:Ty,bg X t (El.bT t) (zp t)
 | .bool=>rfl
 | .int _=>rfl
 | .str=>rfl
 | .unit=>rfl
 | .sl _ t=>⟨none,0,rfl,Nat.le_refl _,fun j x h=>by simp [El.bT] at h⟩
 | .arr n t=>by
   refine⟨by simp [El.bT],by simp [zp,va],fun j x h=> ?_⟩
   have hj:j<n:=by
    have:=(List.getElem?_eq_some_iff.1 h).1
    simpa [El.bT] using this
   have hx:x=El.bT t:=by
    simp only[El.bT,List.getElem?_replicate] at h
    rw[if_pos hj] at h
    exact(Option.some.inj h).symm
   subst hx
   have:=z9q (va t) n j hj
   simp only[zp]
   rw[this]
   exact sF X t
 | .pair a b=>⟨zp a,zp b,rfl,sF X a,sF X b⟩
 | .aJ _ _ _=>rfl
theorem Ro{t:Ty}{c:Value}(h:t.agg=false):dR t [c]=c:=by simp [dR,h]
theorem jJ{t:Ty}{cs:List Value}(h:t.agg=true):dR t cs= .agg cs.toArray:=by simp [dR,h]
theorem vH{t:Ty}{X:aw}{x:El t}{cs:List Value}(h:bg X t x cs):(dR t cs).cells=cs.toArray:=by
 cases ht:t.agg with
 |true=>rw[jJ ht];rfl
 |false=>
  have hl:=h.len
  have h1:=h.one
  have hc:t.cells=1:=by cases t<;>simp_all [Ty.agg,Ty.cells]
  rw[hc] at hl
  match cs,hl with
  | [c],_=>
    rw[Ro ht]
    have:=h1 c (by simp)
    cases c<;>simp_all [Value.oneCell',Value.cells]
theorem zz{R:Type}{s:SV}{u:Ty}{K:El u->Option R}{z:R}(h:s.el u K=some z):
 ∃y,K y=some z/\∀(X:aw) pl v,az X pl s v->∃cs,bg X u y cs/\v=dR u cs:=by
 cases s with
 |aj t x own=>
  simp only[SV.el] at h
  split at h
  ·rename_i he
   have e:=Ty.aI he
   subst e
   exact⟨x,h,fun X pl v hv=>by obtain⟨cs,h1,h2,_⟩:=hv;exact⟨cs,h1,h2⟩⟩
  ·cases h
 |cF=>
  cases u<;>simp only[SV.el] at h<;>first|cases h|skip
  rename_i e t
  refine⟨[],h,fun X pl v hv=>⟨[.slice none 0 0],⟨none,0,rfl,Nat.le_refl _,fun j x hj=>by simp at hj⟩,hv⟩⟩
 |_=>simp [SV.el] at h
theorem lL{X:aw}{k:IntKind}{n:Int}{cs:List Value}(h:bg X (.int k) n cs):dR (.int k) cs= .int k n:=by cases h;rfl
theorem vL{X:aw}{b:Bool}{cs:List Value}(h:bg X .bool b cs):dR .bool cs= .bool b:=by cases h;rfl
theorem nC{X:aw}{s:ByteArray}{cs:List Value}(h:bg X .str s cs):dR .str cs= .string s:=by cases h;rfl
theorem mD{X:aw}{pl:List Nat->Place}{t:Ty}{x:El t}{cs:List Value}:bn X pl t x cs []:=fun p hp=>by cases hp
theorem jr{X:aw}{pl:List Nat->Place}{k:IntKind}{n:Int}:az X pl (.aj (.int k) n []) (.int k n):=⟨[.int k n],rfl,rfl,mD⟩
theorem nA{X:aw}{pl:List Nat->Place}{b:Bool}:az X pl (.aj .bool b []) (.bool b):=⟨[.bool b],rfl,rfl,mD⟩
theorem Bv{X:aw}{pl:List Nat->Place}{s:ByteArray}:az X pl (.aj .str s []) (.string s):=⟨[.string s],rfl,rfl,mD⟩
theorem Bh{X:aw}{pl:List Nat->Place}{k:IntKind}{n:Int}{o:List (List Nat)}{v:Value}(h:az X pl (.aj (.int k) n o) v):v= .int k n:=by
 obtain⟨cs,h1,h2,_⟩:=h
 rw[h2,lL h1]
theorem PQ{X:aw}{pl:List Nat->Place}{b:Bool}{o:List (List Nat)}{v:Value}(h:az X pl (.aj .bool b o) v):v= .bool b:=by
 obtain⟨cs,h1,h2,_⟩:=h
 rw[h2,vL h1]
theorem ziw{X:aw}{pl:List Nat->Place}{s:ByteArray}{o:List (List Nat)}{v:Value}(h:az X pl (.aj .str s o) v):v= .string s:=by
 obtain⟨cs,h1,h2,_⟩:=h
 rw[h2,nC h1]
def xO:Operand->List Nat->Place
 | .tmp t=> .c t 0
 |_=> .r 0
theorem acD(X:aw)(pl:List Nat->Place)(v:Value):az X pl (BD v) v:=by
 unfold BD
 split
 ·exact nA
 ·exact jr
 ·exact Bv
 ·rfl
 ·rfl
 ·trivial
theorem Rel.slot{X:aw}{s:State}{a:Act}(hr:Rel X s a)(t:Nat):cM X (.c t) (s.slot t) (a.tmps.getD t Go.undef):=by
 by_cases h:t<s.sl.length
 ·refine hr.bQ t _ _ (qL h) ?_
  have:=hr.size
  simp [Array.getElem?_eq_getElem (show t<a.tmps.size by omega)]
 ·have:s.slot t=[.undef]:=by simp [State.slot,List.getElem?_eq_none (show s.sl.length<=t by omega)]
  rw[this]
  trivial
theorem Rel.aG{X:aw}{s:State}{a:Act}(hr:Rel X s a)(x:Operand):az X (xO x) (s.aG x) (a.eval x):=by
 cases x with
 |tmp t=>
  have h:=hr.slot t
  unfold State.aG State.xK
  simp only[xO,Act.eval]
  match hl:s.slot t with
  | []=>trivial
  | [sv]=>rw[hl] at h;exact h
  |_::_::_=>trivial
 |const v=>exact acD X _ v
 |_=>trivial
theorem sH{X:aw}{s:State}{a:Act}(hr:Rel X s a){x:Operand}{id:Nat}{t:Ty}{p:List Nat}(h:s.aG x= .ptr id t p):∃B,s.bs[id]? =some (some B):=by
 cases x with
 |tmp i=>
  unfold State.aG State.xK at h
  simp only at h
  by_cases hi:i<s.sl.length
  ·refine hr.live i _ id t p (qL hi) ?_
   match hl:s.slot i,h with
   | [sv],h=>have:sv= .ptr id t p:=h;simp [this]
   | [],h=>simp [one] at h
   |_::_::_,h=>simp [one] at h
  ·have:s.slot i=[.undef]:=by simp [State.slot,List.getElem?_eq_none (Nat.le_of_not_lt hi)]
   rw[this] at h
   simp [one] at h
 |const v=>unfold State.aG State.xK BD at h;simp only[one] at h;split at h<;>simp at h
 |_=>simp [State.aG,State.xK,one] at h
theorem Rel.fin{Y:aw}{s:State}{a:Act}(hr:Rel Y s a){dst:Option Nat}{l:List SV}{v:Value}(h:cM Y (.c (dst.getD 0)) l v)(hl:∀id t p,SV.ptr id t p∈l->∃B,s.bs[id]? =some (some B))(hn:l.any SV.bL=false:=by rfl):Rel Y (s.au dst l) (a.put dst v):=
 hr.put (fun d' e=>by subst e;exact h) hl hn
def aH(P:Program)(X:aw)(s:State)(a:Act)(o:Oper)(u:Out):Prop:=
 ∃Y v,((execOp a.eval o).run P X.w= .ok (.value v) Y.w\/((execOp a.eval o).run P X.w= .ok .skip Y.w/\v=Go.undef))/\Ext X Y/\Rel Y (s.apply o.dst u) (a.put o.dst v)
theorem aH.plain{P:Program}{X:aw}{s:State}{a:Act}{o:Oper}(hr:Rel X s a){sv:SV}{v:Value}
 (h:(execOp a.eval o).run P X.w= .ok (.value v) X.w) (hv:az X (.c (o.dst.getD 0) 0) sv v) (hl:∀id t p,sv= .ptr id t p->∃B,s.bs[id]? =some (some B)) (hn:sv.bL=false:=by rfl):aH P X s a o {v:=[sv]}:=
 ⟨X,v,.inl h,Ext.refl X,hr.fin hv (fun id t p hm=>hl id t p (by have h':=hm;simp at h';exact h'.symm)) (by simp [hn])⟩
theorem aH.A4{P:Program}{X:aw}{s:State}{a:Act}{o:Oper}(hr:Rel X s a){i j:Nat}{t:Ty}{x:El t}{w:List (List Nat)}{v:Value}
 (h:(execOp a.eval o).run P X.w= .ok (.value v) X.w) (hv:az X (.c i j) (.aj t x w) v):aH P X s a o {v:=[.aj t x w],cl:=[(i,j)]}:=by
 obtain⟨Y,h1,h2,h3,h4,_,_,_⟩:=hr.take hv (.c (o.dst.getD 0) 0)
 refine⟨Y,v,.inl (by rw[h1];exact h),h2,?_⟩
 exact h3.fin h4 (fun id t p hm=>by simp at hm)
variable {P:Program} {E:Env} {X:aw} {s:State} {a:Act} {o:Oper} {u:Out}
def Plain:SV->Prop
 | .aj _ _ (_::_)=>False
 | .bz _ _ _ _=>False
 |_=>True
theorem Plain.oM{sv:SV}(h:Plain sv):sv.bL=false:=by cases sv<;>first|rfl|exact h.elim
theorem zrc(sv:SV):sv.shut.bL=false:=by cases sv<;>rfl
theorem zj1(l:List SV):(l.map SV.shut).any SV.bL=false:=List.any_eq_false.2 fun v hv=>by
 obtain⟨w,_,rfl⟩:=List.mem_map.1 hv
 simp [zrc]
theorem anh{sv:SV}{v:Value}(h:∀X pl,az X pl sv v):sv.bL=false:=by
 cases sv with
 |bz id a b j=>
  obtain⟨r,h1,_⟩:=h ⟨default,fun _=> .all,fun _=>none⟩ (fun _=> .r 0 [])
  cases h1
 |_=>rfl
theorem zja(hr:Rel X s a){t:Nat}(hb:Nat.beq (s.slot t).length 1=false):(s.slot t).any SV.bL=false:=List.any_eq_false.2 fun v hv=>by
 cases v with
 |bz id c b j=>
  exfalso
  by_cases aq:t<s.sl.length
  ·obtain⟨e,_⟩:=hr.bz t _ id c b j (qL aq) hv
   rw[e] at hb;simp at hb
  ·have:s.slot t=[.undef]:=by simp [State.slot,List.getElem?_eq_none (Nat.le_of_not_lt aq)]
   rw[this] at hv
   simp at hv
 |_=>simp [SV.bL]
theorem az.place{pl gv:List Nat->Place}{sv:SV}{v:Value}(h:az X pl sv v)(hp:Plain sv):az X gv sv v:=by
 cases sv with
 |aj t x w=>
  cases w with
  |nil=>
   obtain⟨cs,h1,h2,_⟩:=h
   exact⟨cs,h1,h2,mD⟩
  |cons p w=>exact hp.elim
 |_=>exact h
theorem az.bare{pl gv:List Nat->Place}{t:Ty}{x:El t}{w:List (List Nat)}{v:Value}(h:az X pl (.aj t x w) v):az X gv (.aj t x []) v:=by
 obtain⟨cs,h1,h2,_⟩:=h
 exact⟨cs,h1,h2,mD⟩
theorem zi7{v:Value}{t:Ty}{y:El t}{w:List (List Nat)}(h:BD v= .aj t y w):w=[]:=by
 unfold BD at h
 split at h<;>simp at h
 ·obtain⟨rfl,_,rfl⟩:=h;rfl
 ·obtain⟨rfl,_,rfl⟩:=h;rfl
 ·obtain⟨rfl,_,rfl⟩:=h;rfl
theorem anf{x:Operand}{t:Ty}{y:El t}{w:List (List Nat)}(h:s.aG x= .aj t y w)(hw:w≠ []):∃i,x= .tmp i:=by
 cases x with
 |tmp i=>exact⟨i,rfl⟩
 |const v=>exact absurd (zi7 h) hw
 |_=>simp [State.aG,State.xK,one] at h
theorem MC(hr:Rel X s a){x:Operand}(h:(execOp a.eval o).run P X.w= .ok (.value (a.eval x)) X.w)(hp:Plain (s.aG x)):aH P X s a o {v:=[s.aG x]}:=
 aH.plain hr h ((hr.aG x).place hp) (fun id t p e=>sH hr e) hp.oM
theorem LS(hr:Rel X s a){x:Operand}{t:Ty}{y:El t}{w:List (List Nat)}(aW:(execOp a.eval o).run P X.w= .ok (.value (a.eval x)) X.w)(e:s.aG x= .aj t y w):aH P X s a o {v:=[.aj t y w],cl:=yf w x}:=by
 have cC:=hr.aG x
 rw[e] at cC
 cases hw:w with
 |nil=>
  subst hw
  exact aH.plain hr aW cC.bare (fun _ _ _ h=>by cases h)
 |cons p w'=>
 rw[<-hw]
 have fq:yf w x=src x:=by rw[hw];rfl
 rw[fq]
 clear hw
 cases x with
 |tmp i=>exact aH.A4 hr aW cC
 |const v=>
  have hw:=zi7 (show BD v= .aj t y w from e)
  subst hw
  exact aH.plain hr aW cC.bare (fun _ _ _ h=>by cases h)
 |_=>simp [State.aG,State.xK,one] at e
theorem NH(hr:Rel X s a){T:TypeId}{v:Value}{pl:List Nat->Place}(aW:(execOp a.eval o).run P X.w= .ok (.value v) X.w)(hv:az X pl .cF v)(h:oL E T some=some u):aH P X s a o u:=by
 unfold oL at h
 split at h
 ·cases h
  refine aH.plain hr aW ⟨[.slice none 0 0],⟨none,0,rfl,Nat.le_refl _,fun j x hj=>by simp at hj⟩,hv,fun p hp=> ?_⟩ (fun _ _ _ e=>by cases e)
  rename_i e t _
  have hp:p=[]:=by simpa using hp
  subst hp
  exact⟨e,t,[],_,by simp [Ty.eK],rfl,rfl,.inl ⟨rfl,rfl⟩⟩
 ·cases h
  exact aH.plain hr aW hv (fun _ _ _ e=>by cases e)
theorem az.fG{pl gv:List Nat->Place}{sv:SV}{v:Value}(hr:az X pl sv v):az X gv sv.shut v:=by
 cases sv with
 |aj t x own=>
  obtain⟨cs,h1,h2,_⟩:=hr
  exact⟨cs,h1,h2,mD⟩
 |bz id a b j=>trivial
 |_=>exact hr
theorem cM.fG{pl gv:Nat->List Nat->Place}{l:List SV}{v:Value}(hr:cM X pl l v):cM X gv (l.map SV.shut) v:=by
 match l,hr with
 | [s],hr=>exact az.fG hr
 | [],⟨vs,h1,h2,h3⟩=>exact⟨vs,h1,h2,fun j s u hs=>by simp at hs⟩
 |x::y::r,⟨vs,h1,h2,h3⟩=>
  refine⟨vs,h1,by simpa using h2,fun j s u hs hu=> ?_⟩
  have hs:((x::y::r).map SV.shut)[j]? =some s:=hs
  rw[List.getElem?_map] at hs
  obtain⟨s0,fe,rfl⟩:=Option.map_eq_some_iff.1 hs
  exact az.fG (h3 j s0 u fe hu)
theorem agA(hr:Rel X s a){ops:List Oper}{x:Operand}(ho:o.op= .move x){C:FuncId->bV Out}(h:act E C ops o s some=some u):aH P X s a o u:=by
 have aW:(execOp a.eval o).run P X.w= .ok (.value (a.eval x)) X.w:=by simp [execOp,ho]
 unfold act at h
 simp only[ho] at h
 have cC:=hr.aG x
 cases ht:nv s x with
 |some tl=>
  obtain⟨t,l⟩:=tl
  rw[ht] at h
  cases x with
  |tmp i=>
   change(bif Nat.beq (s.slot i).length 1 then none else some (i,s.slot i))=some (t,l) at ht
   cases hb:Nat.beq (s.slot i).length 1 with
   |true=>rw[hb] at ht;cases ht
   |false=>
    rw[hb] at ht
    cases ht
    have Kw:∀id ty p,SV.ptr id ty p∈s.slot t->∃B,s.bs[id]? =some (some B):=fun id ty p hm=>by
     by_cases aq:t<s.sl.length
     ·exact hr.live t _ id _ p (qL aq) hm
     ·have:s.slot t=[.undef]:=by simp [State.slot,List.getElem?_eq_none (Nat.le_of_not_lt aq)]
      rw[this] at hm
      simp at hm
    cases GJ:Go.Ref.fG E o.dst with
    |true=>
     rw[GJ] at h
     cases h
     refine⟨X,_,.inl aW,Ext.refl X,?_⟩
     refine Rel.fin hr (cM.fG (hr.slot t)) (fun id ty p hm=> ?_) (zj1 _)
     obtain⟨s0,fe,he⟩:=List.mem_map.1 hm
     rw[TF he] at fe
     exact Kw id ty p fe
    |false=>
    rw[GJ] at h
    cases h
    cases bS:(s.slot t).all fun v=>v.own.isEmpty with
    |true=>
     refine⟨X,_,.inl aW,Ext.refl X,?_⟩
     refine Rel.fin hr ((hr.slot t).iS fun j sv u hj hu=> ?_) (fun id ty p hm=> ?_) (zja hr hb)
     ·have:=List.all_eq_true.1 bS sv (List.mem_of_getElem? hj)
      refine hu.place ?_
      cases sv with
      |aj ty y w=>
       cases w with
       |nil=>trivial
       |cons p w=>simp [SV.own] at this
      |bz id a b j=>exact(YW (zja hr hb) (List.mem_of_getElem? hj)).elim
      |_=>trivial
     ·by_cases aq:t<s.sl.length
      ·exact hr.live t _ id _ p (qL aq) hm
      ·have:s.slot t=[.undef]:=by simp [State.slot,List.getElem?_eq_none (Nat.le_of_not_lt aq)]
       rw[this] at hm
       simp at hm
    |false=>
    obtain⟨Y,h1,h2,h3,h4⟩:=hr.xV (hr.slot t) (o.dst.getD 0)
    refine⟨Y,_,.inl (by rw[h1];exact aW),h2,?_⟩
    refine h3.fin h4 (fun id ty p hm=> ?_) (zja hr hb)
    by_cases aq:t<s.sl.length
    ·obtain⟨B,hB⟩:=hr.live t _ id _ p (qL aq) hm
     exact⟨B,by rw[z40];exact hB⟩
    ·have:s.slot t=[.undef]:=by simp [State.slot,List.getElem?_eq_none (Nat.le_of_not_lt aq)]
     rw[this] at hm
     simp at hm
  |_=>cases ht
 |none=>
 rw[ht] at h
 simp only at h
 split at h
 ·rename_i t y w e
  rw[e] at cC
  cases hb:(YU ops o.dst||takes E o.dst) with
  |true=>
   rw[hb] at h
   cases h
   exact LS hr aW e
  |false=>
   rw[hb] at h
   cases h
   exact aH.plain hr aW cC.bare (fun _ _ _ h=>by cases h)
 ·cases h
 ·cases h
 ·rename_i e
  rw[e] at cC
  exact NH hr aW cC h
 ·rename_i h1 h2 h3 h4
  cases h
  refine MC hr aW ?_
  cases hx:s.aG x with
  |aj t y w=>exact absurd hx (h1 t y w)
  |bz id c b j=>first|exact absurd hx (h2 id c b j)|exact absurd hx (h3 id c b j)
  |_=>trivial
theorem acH(hr:Rel X s a){ops:List Oper}{x:Operand}(ho:o.op= .assign x){C:FuncId->bV Out}(h:act E C ops o s some=some u):aH P X s a o u:=by
 have aW:(execOp a.eval o).run P X.w= .ok (.value (a.eval x)) X.w:=by simp [execOp,ho]
 unfold act at h
 simp only[ho] at h
 have cC:=hr.aG x
 split at h
 ·rename_i t y w e
  rw[e] at cC
  cases h
  exact LS hr aW e
 ·cases h
 ·cases h
 ·rename_i e
  rw[e] at cC
  exact NH hr aW cC h
 ·rename_i h1 h2 h3 h4
  cases h
  refine MC hr aW ?_
  cases hx:s.aG x with
  |aj t y w=>exact absurd hx (h1 t y w)
  |bz id c b j=>first|exact absurd hx (h2 id c b j)|exact absurd hx (h3 id c b j)
  |_=>trivial
theorem agC(hr:Rel X s a){ops:List Oper}{c x y:Operand}(ho:o.op= .pick c x y){C:FuncId->bV Out}(h:act E C ops o s some=some u):aH P X s a o u:=by
 unfold act at h
 simp only[ho] at h
 have hc:=hr.aG c
 split at h
 ·rename_i p w e
  rw[e] at hc
  have hv:=PQ hc
  have key:∀z,aH P X s a o {v:=[(s.aG z).shut]}\/(execOp a.eval o).run P X.w≠ .ok (.value (a.eval z)) X.w:=by
   intro z
   by_cases hz:(execOp a.eval o).run P X.w= .ok (.value (a.eval z)) X.w
   ·refine .inl (aH.plain hr hz (hr.aG z).shut (fun id t p e=> ?_) (zrc _))
    exact sH hr (TF e)
   ·exact .inr hz
  cases p with
  |true=>
   cases h
   exact(key x).resolve_right (by simp [execOp,ho,hv,asBool])
  |false=>
   cases h
   exact(key y).resolve_right (by simp [execOp,ho,hv,asBool])
 ·cases h
theorem SN(op:BinOp)(T:TypeId)(x y:Operand)(k k':IntKind)(m n:Int)(w:World):(eqGuard op T x y (.int k m) (.int k' n)).run P w= .ok () w:=by
 cases op<;>simp [eqGuard]
theorem zaq(op:BinOp)(T:TypeId)(x y:Operand)(m n:ByteArray)(w:World):(eqGuard op T x y (.string m) (.string n)).run P w= .ok () w:=by
 cases op<;>simp [eqGuard]
theorem zrb(op:BinOp)(T:TypeId)(x y:Operand)(m n:Bool)(w:World):(eqGuard op T x y (.bool m) (.bool n)).run P w= .ok () w:=by
 cases op<;>simp [eqGuard]
theorem zqr{op:BinOp}{T:TypeId}{k k':IntKind}{m n:Int}{l:List SV}(w:World)(h:rB op k m k' n some=some l):
 ∃sv v,l=[sv]/\(Go.binOp op T (.int k m) (.int k' n)).run P w= .ok v w/\Plain sv/\(∀X pl,az X pl sv v)/\∀id t p,sv≠ .ptr id t p:=by
 have done:∀{sv:SV} {v:Value},l=[sv]->(Go.binOp op T (.int k m) (.int k' n)).run P w= .ok v w->Plain sv->(∀X pl,az X pl sv v)->(∀id t p,sv≠ .ptr id t p)->∃sv v,l=[sv]/\(Go.binOp op T (.int k m) (.int k' n)).run P w= .ok v w/\Plain sv/\(∀X pl,az X pl sv v)/\∀id t p,sv≠ .ptr id t p:=fun h1 h2 h3 h4 h5=>⟨_,_,h1,h2,h3,h4,h5⟩
 have pi:∀{k:IntKind} {n:Int},Plain (.aj (.int k) n []):=trivial
 have pb:∀{b:Bool},Plain (.aj .bool b []):=trivial
 unfold rB at h
 cases op
 case shl=>
  simp only at h
  cases hd:decide (n<0) with
  |true=>rw[hd] at h;cases h
  |false=>
   rw[hd] at h;cases h
   have:¬n<0:=of_decide_eq_false hd
   exact done rfl (by simp [Go.binOp,Op.shift,this]) pi (fun _ _=>jr) (by simp)
 case shr=>
  simp only at h
  cases hd:decide (n<0) with
  |true=>rw[hd] at h;cases h
  |false=>
   rw[hd] at h;cases h
   have:¬n<0:=of_decide_eq_false hd
   exact done rfl (by simp [Go.binOp,Op.shift,this]) pi (fun _ _=>jr) (by simp)
 all_goals
  simp only at h
  split at h
  case isFalse=>cases h
  rename_i hk
  subst hk
 case quo=>
  cases hd:decide (n=0) with
  |true=>rw[hd] at h;cases h
  |false=>
   rw[hd] at h;cases h
   have:¬n=0:=of_decide_eq_false hd
   exact done rfl (by simp [Go.binOp,Op.intDiv,this]) pi (fun _ _=>jr) (by simp)
 case rem=>
  cases hd:decide (n=0) with
  |true=>rw[hd] at h;cases h
  |false=>
   rw[hd] at h;cases h
   have:¬n=0:=of_decide_eq_false hd
   exact done rfl (by simp [Go.binOp,Op.intDiv,this]) pi (fun _ _=>jr) (by simp)
 case add=>cases h;exact done rfl (by simp [Go.binOp,Op.intArith]) pi (fun _ _=>jr) (by simp)
 case sub=>cases h;exact done rfl (by simp [Go.binOp,Op.intArith]) pi (fun _ _=>jr) (by simp)
 case mul=>cases h;exact done rfl (by simp [Go.binOp,Op.intArith]) pi (fun _ _=>jr) (by simp)
 case and=>cases h;exact done rfl (by simp only[Go.binOp,ne_eq,not_true_eq_false,if_false];rfl) pi (fun _ _=>jr) (by simp)
 case or=>cases h;exact done rfl (by simp only[Go.binOp,ne_eq,not_true_eq_false,if_false];rfl) pi (fun _ _=>jr) (by simp)
 case xor=>cases h;exact done rfl (by simp only[Go.binOp,ne_eq,not_true_eq_false,if_false];rfl) pi (fun _ _=>jr) (by simp)
 case andNot=>cases h;exact done rfl (by simp only[Go.binOp,ne_eq,not_true_eq_false,if_false];rfl) pi (fun _ _=>jr) (by simp)
 case eql=>cases h;exact done rfl (by simp only[Go.binOp,ne_eq,not_true_eq_false,if_false];rfl) pb (fun _ _=>nA) (by simp)
 case neq=>cases h;exact done rfl (by simp only[Go.binOp,ne_eq,not_true_eq_false,if_false];rfl) pb (fun _ _=>nA) (by simp)
 case lss=>cases h;exact done rfl (by simp only[Go.binOp,ne_eq,not_true_eq_false,if_false];rfl) pb (fun _ _=>nA) (by simp)
 case leq=>cases h;exact done rfl (by simp only[Go.binOp,ne_eq,not_true_eq_false,if_false];rfl) pb (fun _ _=>nA) (by simp)
 case gtr=>cases h;exact done rfl (by simp only[Go.binOp,ne_eq,not_true_eq_false,if_false];rfl) pb (fun _ _=>nA) (by simp)
 case geq=>cases h;exact done rfl (by simp only[Go.binOp,ne_eq,not_true_eq_false,if_false];rfl) pb (fun _ _=>nA) (by simp)
end Go.Ref

namespace Go.Ref
open Go
variable {P:Program} {E:Env} {X:aw} {s:State} {a:Act} {o:Oper} {u:Out}
theorem WI(x y:ByteArray):(x.toList==y.toList)=decide (x=y):=by
 rw[ByteArray.toList_eq,ByteArray.toList_eq]
 by_cases h:x=y
 ·subst h;simp
 ·have:¬x.data.toList=y.data.toList:=fun e=>h (by
   cases x;cases y
   congr
   exact Array.toList_inj.1 e)
  rw[beq_eq_false_iff_ne.2 this,decide_eq_false h]
theorem ajO{op:BinOp}{T:TypeId}{m n:ByteArray}{l:List SV}(w:World)(h:rC op m n some=some l):
 ∃sv v,l=[sv]/\(Go.binOp op T (.string m) (.string n)).run P w= .ok v w/\Plain sv/\(∀X pl,az X pl sv v)/\∀id t p,sv≠ .ptr id t p:=by
 have pb:∀{b:Bool},Plain (.aj .bool b []):=trivial
 unfold rC at h
 cases op<;>simp only at h<;>first|(cases h;done)|skip
 case add=>
  cases hd:decide (m.size+n.size<=9223372036854775807) with
  |false=>rw[hd] at h;cases h
  |true=>
   rw[hd] at h;cases h
   have h1:=of_decide_eq_true hd
   have h2:¬((((m.size+n.size:Nat)):Int)>IntKind.i64.max):=by
    show¬((((m.size+n.size:Nat)):Int)>9223372036854775807)
    omega
   refine⟨_,_,rfl,?_,trivial,fun _ _=>Bv,by simp⟩
   simp only[Go.binOp,Op.stringOp]
   rw[if_neg h2]
   rfl
 all_goals
  cases h
  refine⟨_,_,rfl,?_,pb,fun _ _=>nA,by simp⟩
  simp only[Go.binOp,Op.stringOp,WI]
  rfl
theorem Mk(hE:al P E){T:TypeId}{t:Ty}(ht:E.ty T=some t)(w:World):(isAgg T).run P w= .ok t.agg w:=by
 have hu:=(hE.ty T t ht).dw
 cases t
 case bool=>simp [isAgg,run_underlying hu,Ty.agg]
 case int=>simp [isAgg,run_underlying hu,Ty.agg]
 case str=>simp [isAgg,run_underlying hu,Ty.agg]
 case sl=>simp [isAgg,run_underlying hu.1,Ty.agg]
 case arr=>obtain⟨e,h1,_⟩:=hu;simp [isAgg,run_underlying h1,Ty.agg]
 case unit=>obtain⟨fs,h1,_⟩:=hu;simp [isAgg,run_underlying h1,Ty.agg]
 case pair=>obtain⟨fs,h1,_⟩:=hu;simp [isAgg,run_underlying h1,Ty.agg]
 case aJ=>exact hu.elim
theorem lJ(hE:al P E){T:TypeId}{t:Ty}(ht:E.ty T=some t)(w:World):(sizeOf T).run P w= .ok t.cells w:=by
 obtain⟨i,h1,h2,_⟩:=(hE.ty T t ht).info
 simp [sizeOf,typeInfo,h1,h2]
theorem Fv(hE:al P E){T:TypeId}{t:Ty}(ht:E.ty T=some t){x:El t}{cs:List Value}(hr:bg X t x cs){all:Array Value}{off:Nat}(ha:(all.toList.drop off).take t.cells=cs)(w:World):
 (part T all off).run P w= .ok (dR t cs) w:=by
 have hl:=hr.len
 unfold part
 simp only[Sem.run_bind,Mk hE ht,Result.andThen_ok]
 cases hg:t.agg with
 |true=>
  simp only[if_true,Sem.run_bind,lJ hE ht,Result.andThen_ok,Sem.run_pure,jJ hg]
  congr 2
  apply Array.ext'
  rw[<-ha,Array.toList_extract,List.extract_eq_take_drop]
  simp
 |false=>
  simp only[Bool.false_eq_true,if_false]
  have hc:t.cells=1:=by cases t<;>simp_all [Ty.agg,Ty.cells]
  rw[hc] at hl ha
  match cs,hl with
  | [c],_=>
    rw[Ro hg]
    have cu:all[off]? =some c:=by
     have h1:(all.toList.drop off)[0]? =some c:=by
      have:=congrArg (fun l=>l[0]?) ha
      simpa [List.getElem?_take] using this
     simpa using h1
    simp [cu]
def RS(d:Nat)(xs ys:Array Value)(f:Field)(_:Option Bool×Unit):Sem (ForInStep (Option Bool×Unit)):=
 if f.name≠ "_" then do
  let __do_lift<-part f.type xs f.offset
  let __do_lift_1<-part f.type ys f.offset
  let __do_lift<-Op.equalIn d f.type __do_lift __do_lift_1
  if(!__do_lift)=true then pure (ForInStep.done (some false,()))
   else pure (ForInStep.yield (none,()))
 else pure (ForInStep.yield (none,()))
theorem zva(hE:al P E){d:Nat}{xs ys:Array Value}(w:World)
 (ih:∀(t:Ty) (T:TypeId),E.ty T=some t->t.depth<=d->∀(x y:El t) (c1 c2:List Value) (r:Bool),bg X t x c1->bg X t y c2->dI t x y=some r->(Op.equalIn d T (dR t c1) (dR t c2)).run P w= .ok r w):
 ∀(fl:List Field) (t:Ty) (off:Nat),js E fl t off->t.depth<=d+1->∀(x y:El t) (c1 c2:List Value) (r:Bool),bg X t x c1->bg X t y c2->(xs.toList.drop off).take t.cells=c1->(ys.toList.drop off).take t.cells=c2->dI t x y=some r->
  (forIn fl (none,()) (RS d xs ys)).run P w= .ok (if r=true then(none,()) else(some false,())) w:=by
 intro fl
 induction fl with
 |nil=>
  intro t off hf hd x y c1 c2 r h1 h2 h3 h4 he
  cases t<;>simp only[js] at hf<;>try exact hf.elim
  simp only[dI,Option.some.injEq] at he
  subst he
  simp [List.forIn_nil]
 |cons f fl ihl=>
  intro t off hf hd x y c1 c2 r h1 h2 h3 h4 he
  cases t<;>simp only[js] at hf<;>try exact hf.elim
  rename_i ta tb
  obtain⟨ho,GL,hn,bF⟩:=hf
  obtain⟨ca,cb,e1,ra,rb⟩:=h1
  obtain⟨da,db,e2,sa,sb⟩:=h2
  simp only[dI] at he
  split at he
  case h_2=>cases he
  rename_i p q hp hq
  cases he
  simp only[Ty.depth] at hd
  have la:=ra.len
  have lb:=rb.len
  have ma:=sa.len
  have mb:=sb.len
  have t1:(xs.toList.drop off).take ta.cells=ca:=by
   have:=congrArg (fun l=>l.take ta.cells) (h3.trans e1)
   simp only[List.take_take,Ty.cells] at this
   rw[Nat.min_eq_left (Nat.le_add_right _ _),<-la,List.take_left] at this
   rw[<-la];exact this
  have t2:(ys.toList.drop off).take ta.cells=da:=by
   have:=congrArg (fun l=>l.take ta.cells) (h4.trans e2)
   simp only[List.take_take,Ty.cells] at this
   rw[Nat.min_eq_left (Nat.le_add_right _ _),<-ma,List.take_left] at this
   rw[<-ma];exact this
  have u1:(xs.toList.drop (off+ta.cells)).take tb.cells=cb:=by
   have:=congrArg (fun l=>l.drop ta.cells) (h3.trans e1)
   simp only[Ty.cells] at this
   rw[List.drop_take,Nat.add_sub_cancel_left,List.drop_drop,<-la,List.drop_left] at this
   rw[<-la];exact this
  have u2:(ys.toList.drop (off+ta.cells)).take tb.cells=db:=by
   have:=congrArg (fun l=>l.drop ta.cells) (h4.trans e2)
   simp only[Ty.cells] at this
   rw[List.drop_take,Nat.add_sub_cancel_left,List.drop_drop,<-ma,List.drop_left] at this
   rw[<-ma];exact this
  have oF:=Fv hE GL ra (all:=xs) (off:=f.offset) (by rw[ho];exact t1) w
  have CD:=Fv hE GL sa (all:=ys) (off:=f.offset) (by rw[ho];exact t2) w
  have heq:=ih ta f.type GL (by omega) x.1 y.1 ca da p ra sa hp
  have KP:(RS d xs ys f (none,())).run P w= .ok (if p=true then ForInStep.yield (none,()) else ForInStep.done (some false,())) w:=by
   unfold RS
   rw[if_pos hn]
   simp only[Sem.run_bind,oF,CD,heq,Result.andThen_ok]
   cases p<;>rfl
  rw[List.forIn_cons]
  simp only[Sem.run_bind,KP,Result.andThen_ok]
  cases p with
  |false=>rfl
  |true=>
   simp only[if_true,Bool.true_and]
   exact ihl tb (off+ta.cells) bF (by omega) x.2 y.2 cb db q rb sb u1 u2 hq
theorem agG(hE:al P E)(w:World){d n:Nat}{k:IntKind}{T e:TypeId}(ht:P.underlying T=some (.array n e))(he:E.ty e=some (.int k)){x y:List Int}{c1 c2:List Value}(r1:bg X (.arr n (.int k)) x c1)(r2:bg X (.arr n (.int k)) y c2):
 (Op.equalIn (d+2) T (.agg c1.toArray) (.agg c2.toArray)).run P w= .ok (decide (x=y)) w:=by
 obtain⟨l1,m1,e1⟩:=r1
 obtain⟨l2,m2,e2⟩:=r2
 have l1:x.length=n:=l1
 have l2:y.length=n:=l2
 have key:decide (x=y)=(List.range n).all fun i=>decide (x.getD i 0=y.getD i 0):=by
  by_cases AX:x=y
  ·rw[decide_eq_true AX]
   exact(List.all_eq_true.2 fun i _=>by rw[AX];simp).symm
  ·rw[decide_eq_false AX]
   cases ha:(List.range n).all fun i=>decide (x.getD i 0=y.getD i 0) with
   |false=>rfl
   |true=>
    refine absurd (List.ext_getElem (l1.trans l2.symm) fun i h1 h2=> ?_) AX
    have:=of_decide_eq_true (List.all_eq_true.1 ha i (List.mem_range.2 (by omega)))
    simpa [List.getD_eq_getElem?_getD,List.getElem?_eq_getElem h1,List.getElem?_eq_getElem h2] using this
 rw[key,List.range_eq_range',Op.equalIn]
 simp only[Sem.run_bind,run_underlying ht,Result.andThen_ok,lJ hE he,Std.Legacy.Range.forIn_eq_forIn_range',Std.Legacy.Range.size,Nat.sub_zero,Nat.add_sub_cancel,Nat.div_one]
 have hl:∀i∈List.range' 0 n 1,i<n:=fun i hi=>by simpa using(List.mem_range'_1.1 hi).2
 generalize List.range' 0 n 1=l at hl⊢
 induction l with
 |nil=>simp
 |cons i l ih=>
  have hi:i<n:=hl i (by simp)
  have g1:x[i]? =some (x.getD i 0):=by rw[List.getD_eq_getElem?_getD,List.getElem?_eq_getElem (by omega)];rfl
  have g2:y[i]? =some (y.getD i 0):=by rw[List.getD_eq_getElem?_getD,List.getElem?_eq_getElem (by omega)];rfl
  have p1:=e1 i (x.getD i 0) g1
  have p2:=e2 i (y.getD i 0) g2
  have px:=Fv hE he p1 (all:=c1.toArray) (off:=i*(Ty.int k).cells) rfl w
  have py:=Fv hE he p2 (all:=c2.toArray) (off:=i*(Ty.int k).cells) rfl w
  rw[lL p1] at px
  rw[lL p2] at py
  have pe:(Op.equalIn (d+1) e (.int k (x.getD i 0)) (.int k (y.getD i 0))).run P w= .ok (decide (x.getD i 0=y.getD i 0)) w:=by
   have hu:P.underlying e=some (.int k):=(hE.ty e _ he).dw
   unfold Op.equalIn
   simp only[Sem.run_bind,run_underlying hu,Result.andThen_ok,if_true,Sem.run_pure]
   rfl
  simp only[List.forIn_cons,Sem.run_bind,px,py,pe,Result.andThen_ok,List.all_cons]
  cases hb:decide (x.getD i 0=y.getD i 0)
  ·simp
  ·simp only[Bool.not_true,Bool.false_eq_true,if_false,Sem.run_pure,Result.andThen_ok,Bool.true_and]
   exact ih fun j hj=>hl j (by simp [hj])
theorem L5(hE:al P E)(w:World):∀(d:Nat) (t:Ty) (T:TypeId),E.ty T=some t->t.depth<=d->∀(x y:El t) (c1 c2:List Value) (r:Bool),bg X t x c1->bg X t y c2->dI t x y=some r->(Op.equalIn d T (dR t c1) (dR t c2)).run P w= .ok r w:=by
 intro d
 induction d with
 |zero=>intro t T ht hd;cases t<;>simp only[Ty.depth] at hd<;>omega
 |succ d ih=>
  intro t T ht hd x y c1 c2 r h1 h2 he
  have hu:=(hE.ty T t ht).dw
  cases t with
  |bool=>
   rw[vL h1,vL h2]
   simp only[dI,Option.some.injEq] at he
   subst he
   unfold Op.equalIn
   simp only[Sem.run_bind,run_underlying hu,Result.andThen_ok,Sem.run_pure]
  |int k=>
   rw[lL h1,lL h2]
   simp only[dI,Option.some.injEq] at he
   subst he
   unfold Op.equalIn
   simp only[Sem.run_bind,run_underlying hu,Result.andThen_ok,if_true,Sem.run_pure]
   rfl
  |str=>
   rw[nC h1,nC h2]
   simp only[dI,Option.some.injEq] at he
   subst he
   unfold Op.equalIn
   simp only[Sem.run_bind,run_underlying hu,Result.andThen_ok,Sem.run_pure]
   rw[beq_toListBytes,WI]
  |sl e t=>simp [dI] at he
  |arr n t=>
   cases t<;>simp only[dI,Option.some.injEq,reduceCtorEq] at he
   rename_i k
   subst he
   obtain⟨e,iz,iR,_⟩:=hu
   obtain⟨d,rfl⟩:∃d',d=d'+1:=⟨d-1,by simp only[Ty.depth] at hd;omega⟩
   rw[jJ rfl,jJ rfl]
   exact agG hE w iz iR h1 h2
  |aJ _ _ _=>exact hu.elim
  |unit=>
   obtain⟨fs,iz,iR,Su,_⟩:=hu
   rw[jJ rfl,jJ rfl]
   unfold Op.equalIn
   simp only[Sem.run_bind,run_underlying iz,Result.andThen_ok,run_program,Su,Bool.false_eq_true,if_false]
   rw[<-Array.forIn_toList]
   have:=zva (X:=X) hE (d:=d) (xs:=c1.toArray) (ys:=c2.toArray) w ih fs.toList .unit 0 iR hd x y c1 c2 r h1 h2 (by have:=h1.len;simp [Ty.cells] at this⊢;subst this;rfl) (by have:=h2.len;simp [Ty.cells] at this⊢;subst this;rfl) he
   unfold RS at this
   rw[this]
   simp only[Result.andThen_ok]
   cases r<;>rfl
  |pair ta tb=>
   obtain⟨fs,iz,iR,Su,_⟩:=hu
   rw[jJ rfl,jJ rfl]
   unfold Op.equalIn
   simp only[Sem.run_bind,run_underlying iz,Result.andThen_ok,run_program,Su,Bool.false_eq_true,if_false]
   rw[<-Array.forIn_toList]
   have:=zva (X:=X) hE (d:=d) (xs:=c1.toArray) (ys:=c2.toArray) w ih fs.toList (.pair ta tb) 0 iR hd x y c1 c2 r h1 h2 (by have:=h1.len;simp only[List.drop_zero];rw[<-this];exact List.take_length) (by have:=h2.len;simp only[List.drop_zero];rw[<-this];exact List.take_length) he
   unfold RS at this
   rw[this]
   simp only[Result.andThen_ok]
   cases r<;>rfl
end Go.Ref

namespace Go.Ref
open Go
variable {P:Program} {E:Env} {X:aw} {s:State} {a:Act} {o:Oper} {u:Out}
theorem ajN(hE:al P E){op:BinOp}{T:TypeId}{x y:SV}{vx vy:Value}{px py:List Nat->Place}{l:List SV}(w:World)(xo yo:Operand)(hx:az X px x vx)(hy:az X py y vy)(h:rA E op T x y some=some l):
 ∃b:Bool,l=bl b/\(eqGuard op T xo yo vx vy).run P w= .ok () w/\(Go.binOp op T vx vy).run P w= .ok (.bool b) w:=by
 unfold rA at h
 split at h
 case h_2=>cases h
 rename_i t ht
 split at h
 ·cases h
 rename_i ZG
 obtain⟨m,h,hm⟩:=zz h
 obtain⟨n,h,hn⟩:=zz h
 split at h
 case h_2=>cases h
 rename_i r hr
 obtain⟨c1,r1,e1⟩:=hm X px vx hx
 obtain⟨c2,r2,e2⟩:=hn X py vy hy
 have hd:t.depth<=10000:=by
  have:Nat.ble t.depth 1000=true:=by simpa using ZG
  have:=Nat.le_of_ble_eq_true this
  omega
 have heq:=L5 hE w 10000 t T ht hd m n c1 c2 r r1 r2 hr
 have hu:=(hE.ty T t ht).dw
 have hg:(eqGuard op T xo yo vx vy).run P w= .ok () w:=by
  cases t
  case bool=>rw[e1,e2,vL r1,vL r2];exact zrb ..
  case int=>rw[e1,e2,lL r1,lL r2];exact SN ..
  case str=>rw[e1,e2,nC r1,nC r2];exact zaq ..
  case sl=>simp [dI] at hr
  case arr=>
   obtain⟨fs,_,_,hq⟩:=hu
   rw[e1,e2,jJ rfl,jJ rfl]
   cases op<;>simp [eqGuard,hq]
  case aJ=>simp [dI] at hr
  all_goals
   obtain⟨fs,_,_,_,hq⟩:=hu
   rw[e1,e2,jJ rfl,jJ rfl]
   cases op<;>simp [eqGuard,hq]
 split at h
 ·cases h
  refine⟨r,rfl,hg,?_⟩
  rw[e1,e2]
  cases t
  case int=>rw[lL r1,lL r2];simp only[dI,Option.some.injEq] at hr;subst hr;simp only[Go.binOp,ne_eq,not_true_eq_false,if_false];rfl
  case str=>rw[nC r1,nC r2];simp only[dI,Option.some.injEq] at hr;subst hr;simp only[Go.binOp,Op.stringOp,WI];rfl
  case bool=>rw[vL r1,vL r2] at heq⊢;simp only[Go.binOp,Sem.run_bind,Op.equal,Op.maxDepth,heq,Result.andThen_ok,Sem.run_pure]
  case sl=>simp [dI] at hr
  case aJ=>simp [dI] at hr
  all_goals
   rw[jJ rfl,jJ rfl] at heq⊢
   simp only[Go.binOp,Sem.run_bind,Op.equal,Op.maxDepth,heq,Result.andThen_ok,Sem.run_pure]
 ·cases h
  refine⟨!r,rfl,hg,?_⟩
  rw[e1,e2]
  cases t
  case int=>rw[lL r1,lL r2];simp only[dI,Option.some.injEq] at hr;subst hr;simp only[Go.binOp,ne_eq,not_true_eq_false,if_false];rfl
  case str=>rw[nC r1,nC r2];simp only[dI,Option.some.injEq] at hr;subst hr;simp only[Go.binOp,Op.stringOp,WI];rfl
  case bool=>rw[vL r1,vL r2] at heq⊢;simp only[Go.binOp,Sem.run_bind,Op.equal,Op.maxDepth,heq,Result.andThen_ok,Sem.run_pure]
  case sl=>simp [dI] at hr
  case aJ=>simp [dI] at hr
  all_goals
   rw[jJ rfl,jJ rfl] at heq⊢
   simp only[Go.binOp,Sem.run_bind,Op.equal,Op.maxDepth,heq,Result.andThen_ok,Sem.run_pure]
 ·cases h
theorem SO(op:BinOp)(T:TypeId)(x y:Operand)(p q:Option Addr)(w:World):(eqGuard op T x y (.pointer p) (.pointer q)).run P w= .ok () w:=by
 cases op<;>simp [eqGuard]
theorem akc(d:Nat){T e:TypeId}(hu:P.underlying T=some (.pointer e))(w:World)(ad:Addr):(Op.equalIn (d+1) T (.pointer (some ad)) (.pointer none)).run P w= .ok false w:=by
 unfold Op.equalIn
 simp only[Sem.run_bind,run_underlying hu,Result.andThen_ok,Sem.run_pure]
theorem akb(d:Nat){T e:TypeId}(hu:P.underlying T=some (.pointer e))(w:World):(Op.equalIn (d+1) T (.pointer none) (.pointer none)).run P w= .ok true w:=by
 unfold Op.equalIn
 simp only[Sem.run_bind,run_underlying hu,Result.andThen_ok,Sem.run_pure]
 rfl
theorem ME{t:Ty}{p:List Nat}{r:Nat}{v:Value}(h:(t.bG&& !t.eL)=false)(hv:nu t p r v):∃ad,v= .pointer (some ad):=by
 cases hs:t.bG with
 |false=>exact⟨_,((qH hs).1 hv).1⟩
 |true=>
  rw[hs,Bool.true_and,Bool.not_eq_false'] at h
  unfold Ty.eL at h
  split at h
  ·exact⟨_,hv.1⟩
  ·cases h
theorem amM(hE:al P E){op:BinOp}{T:TypeId}{x y:SV}{vx vy:Value}{px py:List Nat->Place}{u:Out}(w:World)(xo yo:Operand)(hx:az X px x vx)(hy:az X py y vy)(h:bin E op T x y (fun v=>some ({v:=v}:Out))=some u):
 ∃sv v,u={v:=[sv]}/\(eqGuard op T xo yo vx vy).run P w= .ok () w/\(Go.binOp op T vx vy).run P w= .ok v w/\(∀X pl,az X pl sv v)/\∀id t p,sv≠ .ptr id t p:=by
 unfold bin at h
 split at h
 ·rename_i k m o1 k' n o2
  rw[Bh hx,Bh hy]
  obtain⟨l,h1,h2⟩:=jP zqq h
  obtain⟨sv,v,rfl,hv,_,hr,hp⟩:=zqr (T:=T) w h1
  cases h2
  exact⟨sv,v,rfl,SN ..,hv,hr,hp⟩
 ·rename_i m o1 n o2
  rw[ziw hx,ziw hy]
  obtain⟨l,h1,h2⟩:=jP zqs h
  obtain⟨sv,v,rfl,hv,_,hr,hp⟩:=ajO (T:=T) w h1
  cases h2
  exact⟨sv,v,rfl,zaq ..,hv,hr,hp⟩
 ·obtain⟨r,_,hpv⟩:=hx
  have hy':vy= .pointer none:=hy
  subst hy'
  split at h
  ·cases h
  rename_i lq
  rw[Bool.not_eq_true,Bool.or_eq_false_iff,Bool.not_eq_false'] at lq
  obtain⟨ad,rfl⟩:=ME lq.1 hpv
  obtain⟨e,hu⟩:=hE.pt T lq.2
  have heq:∀ad,(Op.equal T (.pointer (some ad)) (.pointer none)).run P w= .ok false w:=fun ad=>akc 9999 hu w ad
  split at h
  ·cases h
   exact⟨_,_,rfl,SO ..,by(simp only[Go.binOp,Sem.run_bind,heq,Result.andThen_ok,Sem.run_pure];try rfl),fun _ _=>nA,by simp⟩
  ·cases h
   exact⟨_,_,rfl,SO ..,by(simp only[Go.binOp,Sem.run_bind,heq,Result.andThen_ok,Sem.run_pure];try rfl),fun _ _=>nA,by simp⟩
  ·cases h
 ·have KU:vx= .pointer none:=hx
  have hy':vy= .pointer none:=hy
  subst KU hy'
  split at h
  ·cases h
  rename_i lq
  obtain⟨e,hu⟩:=hE.pt T (by simpa using lq)
  have heq:(Op.equal T (.pointer none) (.pointer none)).run P w= .ok true w:=akb 9999 hu w
  split at h
  ·cases h
   exact⟨_,_,rfl,SO ..,by(simp only[Go.binOp,Sem.run_bind,heq,Result.andThen_ok,Sem.run_pure];try rfl),fun _ _=>nA,by simp⟩
  ·cases h
   exact⟨_,_,rfl,SO ..,by(simp only[Go.binOp,Sem.run_bind,heq,Result.andThen_ok,Sem.run_pure];try rfl),fun _ _=>nA,by simp⟩
  ·cases h
 ·obtain⟨l,h1,h2⟩:=jP zqp h
  obtain⟨b,rfl,hg,hv⟩:=ajN hE w xo yo hx hy h1
  cases h2
  exact⟨_,_,rfl,hg,hv,fun _ _=>nA,by simp⟩
theorem aj4(hE:al P E)(hr:Rel X s a){ops:List Oper}{op:BinOp}{T T':TypeId}{x y:Operand}(ho:o.op= .binOp op T x y T'){C:FuncId->bV Out}(h:act E C ops o s some=some u):aH P X s a o u:=by
 unfold act at h
 simp only[ho] at h
 obtain⟨sv,v,rfl,hg,hv,aL,hp⟩:=amM hE X.w x y (hr.aG x) (hr.aG y) h
 exact aH.plain hr (by simp only[execOp,ho,Sem.run_bind,hg,hv,Result.andThen_ok,Sem.run_pure]) (aL _ _) (fun id t p e=>absurd e (hp id t p)) (anh aL)
end Go.Ref

namespace Go.Ref
open Go
variable {P:Program} {E:Env} {X:aw} {s:State} {a:Act} {o:Oper} {u:Out}
theorem Rh(ad:Addr)(h:ad.spot=none)(m n:Nat):(ad.add m).add n=ad.add (m+n):=by
 unfold Addr.add
 by_cases h1:m=0<;>by_cases h2:n=0<;>simp [h1,h2,Nat.add_assoc]
theorem Bs{ad:Addr}(h:ad.spot=none)(m:Nat):(ad.add m).spot=none:=by
 unfold Addr.add
 split
 ·exact h
 ·rfl
theorem iK(g i j:Nat):(⟨g,i,none⟩:Addr).add j=⟨g,i+j,none⟩:=by
 unfold Addr.add
 split<;>simp_all
theorem GZ:∀(t:Ty) (p q:List Nat) (u:Ty),t.at_ p=some u->t.off (p++q)=t.off p+u.off q:=by
 intro t
 induction t with
 |arr n t ih=>
  intro p q u h
  cases p with
  |nil=>simp only[Ty.at_,Option.some.injEq] at h;subst h;simp [Ty.off]
  |cons i p=>
   simp only[Ty.at_] at h
   simp only[List.cons_append,Ty.off,ih p q u h]
   omega
 |pair x y K1 K2=>
  intro p q u h
  cases p with
  |nil=>simp only[Ty.at_,Option.some.injEq] at h;subst h;simp [Ty.off]
  |cons i p=>
   cases i with
   |zero=>simp only[Ty.at_] at h;simp only[List.cons_append,Ty.off,K1 p q u h]
   |succ i=>
    simp only[Ty.at_] at h
    have:=K2 (i::p) q u h
    simp only[List.cons_append,Ty.off] at this⊢
    omega
 |_=>
  intro p q u h
  cases p with
  |nil=>simp only[Ty.at_,Option.some.injEq] at h;subst h;simp [Ty.off]
  |cons i p=>simp [Ty.at_] at h
theorem PZ:∀(t:Ty) (p q:List Nat) (u:Ty),t.at_ p=some u->t.eK p->u.eK q->t.eK (p++q):=by
 intro t
 induction t with
 |arr n t ih=>
  intro p q u h hp hq
  cases p with
  |nil=>simp only[Ty.at_,Option.some.injEq] at h;subst h;exact hq
  |cons i p=>exact⟨hp.1,ih p q u h hp.2 hq⟩
 |pair x y K1 K2=>
  intro p q u h hp hq
  cases p with
  |nil=>simp only[Ty.at_,Option.some.injEq] at h;subst h;exact hq
  |cons i p=>
   cases i with
   |zero=>exact K1 p q u h hp hq
   |succ i=>exact K2 (i::p) q u h hp hq
 |_=>
  intro p q u h hp hq
  cases p with
  |nil=>simp only[Ty.at_,Option.some.injEq] at h;subst h;exact hq
  |cons i p=>simp [Ty.at_] at h
theorem getD_some{α:Type}{xs:List α}{i:Nat}(d:α)(h:i<xs.length):xs[i]? =some (xs.getD i d):=by
 simp [List.getD_eq_getElem?_getD,List.getElem?_eq_getElem h]
theorem Rm{X:aw}:∀{t:Ty} {p:List Nat} {x:El t} {cs:List Value} {u:Ty} {y:El u},bg X t x cs->t.eK p->El.get t p x=some ⟨u,y⟩->
 t.at_ p=some u/\t.off p+u.cells<=t.cells/\bg X u y ((cs.drop (t.off p)).take u.cells):=by
 intro t
 induction t with
 |arr n t ih=>
  intro p x cs u y hr hp h
  cases p with
  |nil=>
   simp only[El.get,Option.some.injEq,Sigma.mk.injEq] at h
   obtain⟨rfl,h⟩:=h
   cases h
   refine⟨rfl,by simp [Ty.off],?_⟩
   have:=hr.len
   simp only[Ty.off,List.drop_zero]
   rw[<-this,List.take_length]
   exact hr
  |cons i p=>
   obtain⟨hi,hp⟩:=hp
   obtain⟨h1,h2,h3⟩:=hr
   simp only[El.get] at h
   obtain⟨k1,k2,k3⟩:=ih (h3 i _ (getD_some (El.bT t) (by omega))) hp h
   have hn:(i+1)*t.cells<=n*t.cells:=Nat.mul_le_mul_right _ hi
   rw[Nat.add_mul,Nat.one_mul] at hn
   refine⟨k1,by simp only[Ty.off,Ty.cells];omega,?_⟩
   simp only[Ty.off]
   rw[List.drop_take,List.take_take,List.drop_drop,Nat.min_eq_left (by omega)] at k3
   exact k3
 |pair ta tb me mf=>
  intro p x cs u y hr hp h
  cases p with
  |nil=>
   simp only[El.get,Option.some.injEq,Sigma.mk.injEq] at h
   obtain⟨rfl,h⟩:=h
   cases h
   refine⟨rfl,by simp [Ty.off],?_⟩
   have:=hr.len
   simp only[Ty.off,List.drop_zero]
   rw[<-this,List.take_length]
   exact hr
  |cons i p=>
   obtain⟨c1,c2,rfl,r1,r2⟩:=hr
   have l1:=r1.len
   have l2:=r2.len
   cases i with
   |zero=>
    obtain⟨k1,k2,k3⟩:=me r1 hp h
    refine⟨k1,by simp only[Ty.off,Ty.cells];omega,?_⟩
    simp only[Ty.off]
    rw[List.drop_append_of_le_length (by omega),List.take_append_of_le_length (by rw[List.length_drop];omega)]
    exact k3
   |succ i=>
    obtain⟨k1,k2,k3⟩:=mf r2 hp h
    refine⟨k1,by simp only[Ty.off,Ty.cells];omega,?_⟩
    simp only[Ty.off]
    rw[<-List.drop_drop,<-l1,List.drop_left]
    exact k3
 |_=>
  intro p x cs u y hr hp h
  cases p with
  |nil=>
   simp only[El.get,Option.some.injEq,Sigma.mk.injEq] at h
   obtain⟨rfl,h⟩:=h
   cases h
   refine⟨rfl,by simp [Ty.off],?_⟩
   have:=hr.len
   simp only[Ty.off,List.drop_zero]
   rw[<-this,List.take_length]
   exact hr
  |cons i p=>simp [El.get] at h
theorem Rk:∀(fl:List Field) (t:Ty) (off j:Nat) (ft:Ty),js E fl t off->t.dk=true->t.at_ [j]=some ft->∃f,fl[j]? =some f/\f.offset=off+t.off [j]/\E.ty f.type=some ft/\t.eK [j]:=by
 intro fl
 induction fl with
 |nil=>intro t off j ft hf hp h;cases t<;>simp [js,Ty.dk] at hf hp
 |cons f fl ih=>
  intro t off j ft hf hp h
  cases t<;>simp only[js] at hf<;>try exact hf.elim
  rename_i ta tb
  obtain⟨h1,h2,h3,h4⟩:=hf
  cases j with
  |zero=>
   simp only[Ty.at_,Option.some.injEq] at h
   subst h
   exact⟨f,rfl,by simp [Ty.off,h1],h2,by simp [Ty.eK]⟩
  |succ j=>
   simp only[Ty.at_] at h
   cases htb:tb.dk with
   |true=>
    obtain⟨g,g1,g2,g3,g4⟩:=ih tb (off+ta.cells) j ft h4 htb h
    exact⟨g,g1,by simp only[Ty.off];omega,g3,g4⟩
   |false=>
    cases fl with
    |nil=>cases tb<;>simp [js,Ty.at_] at h4 h
    |cons g fl=>cases tb<;>simp [js,Ty.dk] at h4 htb
theorem S5(hE:al P E){T:TypeId}{t:Ty}(ht:E.ty T=some t)(hp:t.dk=true):∃fs,P.underlying T=some (.struct fs)/\js E fs.toList t 0:=by
 have hu:=(hE.ty T t ht).dw
 cases t<;>simp [Ty.dk] at hp
 obtain⟨fs,h1,h2,_⟩:=hu
 exact⟨fs,h1,h2⟩
theorem z78(hE:al P E){f:Field}{ft:Ty}(hf:E.ty f.type=some ft)(hc:ft.cells≠0)(ad:Addr)(w:World):(fieldPlace ad f).run P w= .ok (ad.add f.offset) w:=by
 simp [fieldPlace,lJ hE hf,hc]
theorem RU:∀(t:Ty) (p:List Nat) (x:El t) (u:Ty) (y:El u),El.get t p x=some ⟨u,y⟩->t.at_ p=some u:=by
 intro t
 induction t with
 |arr n t ih=>
  intro p x u y h
  cases p with
  |nil=>simp only[El.get,Option.some.injEq,Sigma.mk.injEq] at h;rw[Ty.at_,h.1]
  |cons i p=>exact ih p _ u y h
 |pair a b me mf=>
  intro p x u y h
  cases p with
  |nil=>simp only[El.get,Option.some.injEq,Sigma.mk.injEq] at h;rw[Ty.at_,h.1]
  |cons i p=>
   cases i with
   |zero=>exact me p _ u y h
   |succ i=>exact mf (i::p) _ u y h
 |_=>
  intro p x u y h
  cases p with
  |nil=>simp only[El.get,Option.some.injEq,Sigma.mk.injEq] at h;rw[Ty.at_,h.1]
  |cons i p=>simp [El.get] at h
theorem acI(hE:al P E)(hr:Rel X s a){T:TypeId}{x:Operand}{j:Nat}{ta tb:Ty}(ho:o.op= .fieldAddr T x j)(hg:E.gr T=some (ta,tb))(h:HJ (s.aG x) j ta tb some=some u):aH P X s a o u:=by
 have hx:=hr.aG x
 unfold HJ at h
 split at h
 case h_2=>cases h
 rename_i id c d e
 rw[e] at hx
 obtain⟨r,hb,hv,_⟩:=hx
 split at h
 case isFalse=>cases h
 rename_i hcd
 rw[Bool.and_eq_true] at hcd
 have:=Ty.aI hcd.1
 subst this
 cases hj:Nat.ble j 2 with
 |false=>rw[hj] at h;cases h
 |true=>
  rw[hj] at h
  cases h
  have hj:=Nat.le_of_ble_eq_true hj
  obtain⟨fs,hu,hf⟩:=hE.gr T _ _ hg
  obtain⟨f,i,g1,g2,g3,g4⟩:=hf j hj
  refine aH.plain hr (v:= .pointer (some ⟨r,m3 c [j],none⟩)) ?_ ⟨r,hb,rfl,?_⟩ (fun bc t' p' e'=> ?_)
  ·have hp:∀(ad:Addr) (w:World),(fieldPlace ad f).run P w= .ok (ad.add f.offset) w:=fun ad w=>by simp [fieldPlace,sizeOf,typeInfo,g3,g4]
   simp only[execOp,ho,Sem.run_bind,Instr.fieldAt,run_underlying hu,Result.andThen_ok,g1,hv,Instr.sureAddr,Sem.run_pure,hp]
   rw[iK,g2]
   simp [m3]
  ·match j,hj with
   |0,_=>simp [gIn,Ty.eK]
   |1,_=>trivial
   |2,_=>trivial
  ·injection e' with e1 e2 e3
   subst e1
   exact sH hr e
theorem ace(hE:al P E)(hr:Rel X s a){T:TypeId}{x:Operand}{j:Nat}{u0:Ty}{id:Nat}{t:Ty}{p:List Nat}(ho:o.op= .fieldAddr T x j)(hT:E.ty T=some u0)(e:s.aG x= .ptr id t p)(h:Hv u0 id t p j some=some u):aH P X s a o u:=by
 have hx:=hr.aG x
 rw[e] at hx
 obtain⟨r,hb,hx⟩:=hx
 unfold Hv at h
 split at h
 case h_2=>cases h
 rename_i ta tb q
 obtain⟨hv,dp⟩:=hx
 have hv:a.eval x= .pointer (some ⟨r,ta.off q,none⟩):=hv
 have dp:ta.eK q:=dp
 split at h
 case h_2=>cases h
 rename_i u'' ci
 split at h
 case isFalse=>cases h
 rename_i je
 rw[Bool.and_eq_true] at je
 obtain⟨heq,fb⟩:=je
 have:=Ty.aI heq
 subst this
 split at h
 case h_2=>cases h
 rename_i ft Gy
 split at h
 ·cases h
 rename_i dO
 cases h
 have hc:ft.cells≠0:=fun e=>dO (by rw[e];rfl)
 obtain⟨fs,iz,iR⟩:=S5 hE hT fb
 obtain⟨f,g1,g2,g3,g4⟩:=Rk fs.toList u0 0 j ft iR fb Gy
 refine aH.plain hr (v:= .pointer (some ⟨r,ta.off (q++ [j]),none⟩)) ?_ ⟨r,hb,rfl,PZ ta q [j] u0 ci dp g4⟩ (fun bc t' p' e'=> ?_)
 ·have gW:fs[j]? =some f:=by rw[<-Array.getElem?_toList];exact g1
  simp only[execOp,ho,Sem.run_bind,Instr.fieldAt,run_underlying iz,Result.andThen_ok,gW,hv,Instr.sureAddr,Sem.run_pure,z78 hE g3 hc]
  rw[iK,GZ ta q [j] u0 ci,g2,Nat.zero_add]
 ·injection e' with e1 e2 e3
  subst e1
  exact sH hr e
theorem z119(hE:al P E)(hr:Rel X s a){ops:List Oper}{T:TypeId}{x:Operand}{j:Nat}(ho:o.op= .fieldAddr T x j){C:FuncId->bV Out}(h:act E C ops o s some=some u):aH P X s a o u:=by
 unfold act at h
 simp only[ho] at h
 have hx:=hr.aG x
 split at h
 ·rename_i ta tb hg
  exact acI hE hr ho hg h
 unfold RT at h
 split at h
 ·rename_i t u' id root p hT e
  rw[e] at hx
  obtain⟨r,hb,hx⟩:=hx
  split at h
  ·exact ace hE hr ho hT e h
  rename_i eh
  have eh:root.bG=false:=by simpa using eh
  obtain⟨hv,dp⟩:=(qH eh).1 hx
  split at h
  case h_2=>cases h
  rename_i u'' ci
  split at h
  case isFalse=>cases h
  rename_i je
  rw[Bool.and_eq_true] at je
  obtain⟨heq,fb⟩:=je
  have:=Ty.aI heq
  subst this
  split at h
  case h_2=>cases h
  rename_i ft Gy
  split at h
  ·cases h
  rename_i dO
  cases h
  have hc:ft.cells≠0:=fun e=>dO (by rw[e];rfl)
  obtain⟨fs,iz,iR⟩:=S5 hE hT fb
  obtain⟨f,g1,g2,g3,g4⟩:=Rk fs.toList u' 0 j ft iR fb Gy
  refine aH.plain hr (v:= .pointer (some ⟨r,root.off (p++ [j]),none⟩)) ?_ ⟨r,hb,(qH eh).2 ⟨rfl,PZ root p [j] u' ci dp g4⟩⟩ (fun bc t' p' e'=> ?_)
  ·have gW:fs[j]? =some f:=by rw[<-Array.getElem?_toList];exact g1
   simp only[execOp,ho,Sem.run_bind,Instr.fieldAt,run_underlying iz,Result.andThen_ok,gW,hv,Instr.sureAddr,Sem.run_pure,z78 hE g3 hc]
   rw[iK,GZ root p [j] u' ci,g2,Nat.zero_add]
  ·injection e' with e1 e2 e3
   subst e1
   exact sH hr e
 ·rename_i t u' root y hT e
  rw[e] at hx
  obtain⟨ad,cs,hv,mB,aL,ej⟩:=hx
  split at h
  case isFalse=>cases h
  rename_i je
  rw[Bool.and_eq_true] at je
  obtain⟨heq,fb⟩:=je
  have:=Ty.aI heq
  subst this
  split at h
  case h_2=>cases h
  rename_i ft z Gy
  split at h
  ·cases h
  rename_i dO
  cases h
  have hc:ft.cells≠0:=fun e=>dO (by rw[e];rfl)
  obtain⟨fs,iz,iR⟩:=S5 hE hT fb
  have ci:u'.at_ [j]=some ft:=RU u' [j] y ft z Gy
  obtain⟨f,g1,g2,g3,g4⟩:=Rk fs.toList u' 0 j ft iR fb ci
  obtain⟨k1,k2,k3⟩:=Rm aL g4 Gy
  refine aH.plain hr (v:= .pointer (some (ad.add (u'.off [j])))) ?_ ⟨ad.add (u'.off [j]),_,rfl,Bs mB _,k3,fun i v hi=> ?_⟩ (fun bc t' p' e'=>by cases e')
  ·have gW:fs[j]? =some f:=by rw[<-Array.getElem?_toList];exact g1
   simp only[execOp,ho,Sem.run_bind,Instr.fieldAt,run_underlying iz,Result.andThen_ok,gW,hv,Instr.sureAddr,Sem.run_pure,z78 hE g3 hc]
   rw[g2,Nat.zero_add]
  ·rw[Rh _ mB]
   refine ej _ v ?_
   rw[List.getElem?_take] at hi
   split at hi
   ·rw[List.getElem?_drop] at hi;exact hi
   ·cases hi
 ·cases h
end Go.Ref

namespace Go.Ref
open Go
variable {P:Program} {E:Env} {X:aw} {s:State} {a:Act} {o:Oper} {u:Out}
theorem vF{R:Type}{i:Int}{n:Nat}{x:Option R}{z:R}(h:zd i n x=some z):0<=i/\i<(n:Int)/\x=some z:=by
 unfold zd at h
 cases h1:decide (0<=i)<;>rw[h1] at h
 ·cases h
 ·cases h2:decide (i<(n:Int))<;>rw[h2] at h
  ·cases h
  ·exact⟨of_decide_eq_true h1,of_decide_eq_true h2,h⟩
theorem YX{e:TypeId}{t:Ty}{xs:List (El t)}{cs:List Value}(h:bg X (.sl e t) xs cs):∃A c,dR (.sl e t) cs= .slice A xs.length c/\xs.length<=c/\
 ∀(j:Nat) x,xs[j]? =some x->∃ad eJ,A=some ad/\ad.spot=none/\bg X t x eJ/\∀(i:Nat) v,eJ[i]? =some v->X.ay (ad.add (j*t.cells+i)) v:=by
 obtain⟨A,c,rfl,h1,h2⟩:=h
 exact⟨A,c,rfl,h1,h2⟩
theorem bg.xS{e:TypeId}{t:Ty}{xs:List (El t)}{A:Option Addr}{n c:Nat}(hn:xs.length=n)(h1:n<=c)(h2:∀(j:Nat) x,xs[j]? =some x->∃ad eJ,A=some ad/\ad.spot=none/\bg X t x eJ/\∀(i:Nat) v,eJ[i]? =some v->X.ay (ad.add (j*t.cells+i)) v):bg X (.sl e t) xs [.slice A n c]:=by
 subst hn
 exact⟨A,c,rfl,h1,h2⟩
theorem zr4{R:Type}{s:SV}{K:Int->Option R}{z:R}(h:s.num K=some z):∃n k,K n=some z/\∀(X:aw) pl v,az X pl s v->v= .int k n:=by
 unfold SV.num at h
 split at h
 ·rename_i k n w
  refine⟨n,k,h,fun X pl v hv=> ?_⟩
  obtain⟨cs,h1,h2,_⟩:=hv
  rw[h2,lL h1]
 ·cases h
theorem acf(hE:al P E)(hr:Rel X s a){T:TypeId}{x i:Operand}{m:Nat}{t:Ty}{n:Int}{ik:IntKind}{id:Nat}{root:Ty}{p:List Nat}(ho:o.op= .indexAddr T x i)(ei:a.eval i= .int ik n)(hT:E.ty T=some (.arr m t))(dE:s.aG x= .ptr id root p)(hx:az X (xO x) (.ptr id root p) (a.eval x))(h:z91 m t n id root p some=some u):aH P X s a o u:=by
 obtain⟨r,hb,hx⟩:=hx
 unfold z91 at h
 split at h
 case h_2=>cases h
 rename_i ta tb q
 obtain⟨hv,dp⟩:=hx
 have hv:a.eval x= .pointer (some ⟨r,ta.off q,none⟩):=hv
 have dp:ta.eK q:=dp
 split at h
 case h_2=>cases h
 rename_i u'' ci
 split at h
 case isFalse=>cases h
 rename_i heq
 have:=Ty.aI heq
 subst this
 obtain⟨h0,h1,h⟩:=vF h
 cases h
 obtain⟨e,iz,iR,_⟩:=(hE.ty T _ hT).dw
 have aq:n.toNat<m:=by omega
 refine aH.plain hr (v:= .pointer (some ⟨r,ta.off (q++ [n.toNat]),none⟩)) ?_ ⟨r,hb,rfl,PZ ta q [n.toNat] _ ci dp ⟨aq,by simp [Ty.eK]⟩⟩ (fun bc t' p' e'=> ?_)
 ·simp only[execOp,ho,Sem.run_bind,Instr.indexAt,ei,hv,asIntOf,Sem.run_pure,Result.andThen_ok,run_underlying iz,Instr.sureAddr,Sem.run_ite,h0,h1,and_self,if_true,lJ hE iR]
  rw[iK,GZ ta q [n.toNat] _ ci]
  simp [Ty.off]
 ·injection e' with e1 e2 e3
  subst e1
  exact sH hr dE
theorem abO(hE:al P E)(hr:Rel X s a){ops:List Oper}{T:TypeId}{x i:Operand}(ho:o.op= .indexAddr T x i){C:FuncId->bV Out}(h:act E C ops o s some=some u):aH P X s a o u:=by
 unfold act at h
 simp only[ho] at h
 have hx:=hr.aG x
 have hi:=hr.aG i
 unfold RV at h
 obtain⟨n,ik,h,hn⟩:=zr4 h
 have ei:=hn X _ _ hi
 split at h
 ·rename_i e t t' xs w hT dE
  rw[dE] at hx
  obtain⟨ys,h,uE⟩:=zz h
  obtain⟨h0,h1,h⟩:=vF h
  cases h
  obtain⟨cs,lF,ev⟩:=uE X (xO x) _ hx.bare
  obtain⟨A,c,hm,hle,fO⟩:=YX lF
  rw[hm] at ev
  have aq:n.toNat<List.length ys:=by omega
  obtain⟨ad,eJ,rfl,mB,aL,ej⟩:=fO n.toNat _ (getD_some (El.bT t) aq)
  have hu:=(hE.ty T _ hT).dw
  refine aH.plain hr (v:= .pointer (some (ad.add (n.toNat*t.cells)))) ?_ ⟨ad.add (n.toNat*t.cells),eJ,rfl,Bs mB _,aL,fun j v hj=> ?_⟩ (fun _ _ _ e'=>by cases e')
  ·simp only[execOp,ho,Sem.run_bind,Instr.indexAt,ei,ev,asIntOf,Sem.run_pure,Result.andThen_ok,run_underlying hu.1,Sem.run_ite,h0,h1,and_self,if_true,lJ hE hu.2]
  ·rw[Rh _ mB];exact ej j v hj
 ·rename_i m t id root p hT dE
  rw[dE] at hx
  obtain⟨r,hb,hx⟩:=hx
  split at h
  ·exact acf hE hr ho ei hT dE ⟨r,hb,hx⟩ h
  rename_i eh
  have eh:root.bG=false:=by simpa using eh
  obtain⟨hv,dp⟩:=(qH eh).1 hx
  split at h
  case h_2=>cases h
  rename_i u'' ci
  split at h
  case isFalse=>cases h
  rename_i heq
  have:=Ty.aI heq
  subst this
  obtain⟨h0,h1,h⟩:=vF h
  cases h
  obtain⟨e,iz,iR,_⟩:=(hE.ty T _ hT).dw
  have aq:n.toNat<m:=by omega
  refine aH.plain hr (v:= .pointer (some ⟨r,root.off (p++ [n.toNat]),none⟩)) ?_ ⟨r,hb,(qH eh).2 ⟨rfl,PZ root p [n.toNat] _ ci dp ⟨aq,by simp [Ty.eK]⟩⟩⟩ (fun bc t' p' e'=> ?_)
  ·simp only[execOp,ho,Sem.run_bind,Instr.indexAt,ei,hv,asIntOf,Sem.run_pure,Result.andThen_ok,run_underlying iz,Instr.sureAddr,Sem.run_ite,h0,h1,and_self,if_true,lJ hE iR]
   rw[iK,GZ root p [n.toNat] _ ci]
   simp [Ty.off]
  ·injection e' with e1 e2 e3
   subst e1
   exact sH hr dE
 ·rename_i m t t' xs hT dE
  rw[dE] at hx
  obtain⟨ad,cs,hv,mB,aL,ej⟩:=hx
  simp only[SV.el] at h
  split at h
  case isFalse=>cases h
  rename_i heq
  have:=Ty.aI heq
  subst this
  obtain⟨h0,h1,h⟩:=vF h
  cases h
  obtain⟨e,iz,iR,_⟩:=(hE.ty T _ hT).dw
  obtain⟨l1,l2,l3⟩:=aL
  have aq:n.toNat<m:=by omega
  have GC:=l3 n.toNat _ (getD_some (El.bT t) (by omega))
  refine aH.plain hr (v:= .pointer (some (ad.add (n.toNat*t.cells)))) ?_ ⟨ad.add (n.toNat*t.cells),_,rfl,Bs mB _,GC,fun j v hj=> ?_⟩ (fun _ _ _ e'=>by cases e')
  ·simp only[execOp,ho,Sem.run_bind,Instr.indexAt,ei,hv,asIntOf,Sem.run_pure,Result.andThen_ok,run_underlying iz,Instr.sureAddr,Sem.run_ite,h0,h1,and_self,if_true,lJ hE iR]
  ·rw[Rh _ mB]
   refine ej _ v ?_
   rw[List.getElem?_take] at hj
   split at hj
   ·rw[List.getElem?_drop] at hj;exact hj
   ·cases hj
 ·rename_i e0 t id r p hT dE
  rw[dE] at hx
  unfold Qh at h
  split at h
  case h_2=>cases h
  rename_i m ta tb
  split at h
  case isFalse=>cases h
  rename_i heq
  have:=Ty.aI heq
  subst this
  obtain⟨h0,h1,h⟩:=vF h
  cases h
  obtain⟨r0,hb,cap,hv,m7⟩:=hx
  have hu:=(hE.ty T _ hT).dw
  refine aH.plain hr (v:= .pointer (some ⟨r0,n.toNat*ta.cells,none⟩)) ?_ ⟨r0,hb,rfl⟩ (fun bc t' p' e'=> ?_)
  ·simp only[execOp,ho,Sem.run_bind,Instr.indexAt,ei,hv,asIntOf,Sem.run_pure,Result.andThen_ok,run_underlying hu.1,Sem.run_ite,h0,h1,and_self,if_true,lJ hE hu.2]
   rw[iK,Nat.zero_add]
  ·injection e' with e1 e2 e3
   subst e1
   exact sH hr dE
 ·rename_i id ta tb hT dE
  rw[dE] at hx
  obtain⟨r0,hb,hv,_⟩:=hx
  split at h
  case isFalse=>cases h
  rename_i hga
  obtain⟨h0,h1,h⟩:=vF h
  cases h
  obtain⟨e,i',hu,xt,dm⟩:=hE.ga T hga
  have aq:n.toNat<2:=by omega
  refine aH.plain hr (v:= .pointer (some ⟨r0,m3 ta [1,n.toNat],none⟩)) ?_ ⟨r0,hb,rfl,aq⟩ (fun bc t' p' e'=> ?_)
  ·have gk:(sizeOf e).run P X.w= .ok 1 X.w:=by simp [sizeOf,typeInfo,xt,dm]
   have Zv:n<((2:Nat):Int):=h1
   simp only[execOp,ho,Sem.run_bind,Instr.indexAt,ei,hv,asIntOf,Sem.run_pure,Result.andThen_ok,run_underlying hu,Instr.sureAddr,Sem.run_ite,h0,Zv,and_self,if_true,gk]
   rw[iK,Nat.mul_one]
   rfl
  ·injection e' with e1 e2 e3
   subst e1
   exact sH hr dE
 ·cases h
theorem BF{pl:List Nat->Place}{t:Ty}{x:El t}{cs:List Value}(h:bg X t x cs):az X pl (.aj t x []) (dR t cs):=⟨cs,h,rfl,mD⟩
theorem adC(hE:al P E)(hr:Rel X s a){ops:List Oper}{T:TypeId}{x i:Operand}(ho:o.op= .index T x i){C:FuncId->bV Out}(h:act E C ops o s some=some u):aH P X s a o u:=by
 unfold act at h
 simp only[ho] at h
 have hx:=hr.aG x
 have hi:=hr.aG i
 unfold RW at h
 obtain⟨n,ik,h,hn⟩:=zr4 h
 have ei:=hn X _ _ hi
 split at h
 ·rename_i hT
  obtain⟨st,h,bP⟩:=zz h
  obtain⟨h0,h1,h⟩:=vF h
  cases h
  obtain⟨cs,Li,ev⟩:=bP X _ _ hx
  rw[nC Li] at ev
  have hu:=(hE.ty T _ hT).dw
  have aq:n.toNat<st.size:=by omega
  refine aH.plain hr (v:= .int .u8 (ze st n.toNat)) ?_ jr (fun _ _ _ e'=>by cases e')
  have cu:st[n.toNat]? =some (st[n.toNat]'aq):=getElem?_pos st n.toNat aq
  simp only[execOp,ho,Sem.run_bind,Instr.index,ei,ev,asIntOf,Sem.run_pure,Result.andThen_ok,run_underlying hu,h0,if_true,cu]
  simp [ze,aq]
 ·rename_i m t hT
  obtain⟨ys,h,uE⟩:=zz h
  obtain⟨h0,h1,h⟩:=vF h
  cases h
  obtain⟨cs,lF,ev⟩:=uE X _ _ hx
  rw[jJ rfl] at ev
  obtain⟨e,iz,iR,_⟩:=(hE.ty T _ hT).dw
  obtain⟨l1,l2,l3⟩:=lF
  have aq:n.toNat<m:=by omega
  have GC:=l3 n.toNat _ (getD_some (El.bT t) (by omega))
  refine aH.plain hr ?_ (BF GC) (fun _ _ _ e'=>by cases e')
  have hp:=Fv hE iR GC (all:=cs.toArray) (off:=n.toNat*t.cells) rfl X.w
  simp only[execOp,ho,Sem.run_bind,Instr.index,ei,ev,asIntOf,Sem.run_pure,Result.andThen_ok,run_underlying iz,h0,h1,and_self,if_true,lJ hE iR,hp]
 ·cases h
theorem adB(hE:al P E)(hr:Rel X s a){ops:List Oper}{T:TypeId}{x:Operand}{j:Nat}(ho:o.op= .field T x j){C:FuncId->bV Out}(h:act E C ops o s some=some u):aH P X s a o u:=by
 unfold act at h
 simp only[ho] at h
 have hx:=hr.aG x
 split at h
 case h_2=>cases h
 rename_i t hT
 split at h
 ·cases h
 rename_i fb
 have fb:t.dk=true:=by simpa using fb
 obtain⟨y,h,hy⟩:=zz h
 split at h
 case h_2=>cases h
 rename_i ft z hg
 cases h
 obtain⟨cs,rep,ev⟩:=hy X _ _ hx
 have rH:t.agg=true:=by cases t<;>simp_all [Ty.dk,Ty.agg]
 rw[jJ rH] at ev
 obtain⟨fs,iz,iR⟩:=S5 hE hT fb
 obtain⟨f,g1,g2,g3,dp⟩:=Rk fs.toList t 0 j ft iR fb (RU t [j] y ft z hg)
 obtain⟨k1,k2,k3⟩:=Rm rep dp hg
 have gW:fs[j]? =some f:=by rw[<-Array.getElem?_toList];exact g1
 refine aH.plain hr ?_ (BF k3) (fun _ _ _ e'=>by cases e')
 have hp:=Fv hE g3 k3 (all:=cs.toArray) (off:=f.offset) (by rw[g2,Nat.zero_add]) X.w
 simp only[execOp,ho,Sem.run_bind,Instr.field,run_underlying iz,Result.andThen_ok,gW,ev,asAgg,Sem.run_pure,hp]
theorem aj7(hE:al P E)(hr:Rel X s a){ops:List Oper}{x:Operand}{T:TypeId}{dN:Array Operand}{ts:Array TypeId}(ho:o.op= .call ⟨.builtin .len,dN,ts⟩){C:FuncId->bV Out}(h:act E C ops o s some=some u):aH P X s a o u:=by
 unfold act at h
 simp only[ho] at h
 split at h
 case h_2=>cases h
 rename_i x T ss Ch
 have has:dN= #[x]:=by rw[<-Array.toArray_toList (xs:=dN),ss]
 have kD:ts= #[T]:=by rw[<-Array.toArray_toList (xs:=ts),Ch]
 subst has kD
 have hx:=hr.aG x
 unfold uI at h
 split at h
 ·rename_i hT
  obtain⟨st,h,bP⟩:=zz h
  cases h
  obtain⟨cs,Li,ev⟩:=bP X _ _ hx
  rw[nC Li] at ev
  have hu:=(hE.ty T _ hT).dw
  refine aH.plain hr (v:= .int .i64 st.size) ?_ jr (fun _ _ _ e'=>by cases e')
  simp [execOp,ho,resolve,invoke,builtin,Builtin.len_,ev,run_underlying hu,goInt]
 ·rename_i e t hT
  have hu:=(hE.ty T _ hT).dw
  split at h
  ·rename_i id n ta tb dE
   cases h
   rw[dE] at hx
   obtain⟨r0,hb,cap,ev,m7⟩:=hx
   refine aH.plain hr (v:= .int .i64 n) ?_ jr (fun _ _ _ e'=>by cases e')
   simp [execOp,ho,resolve,invoke,builtin,Builtin.len_,ev,run_underlying hu.1,goInt]
  ·obtain⟨xs,h,aal⟩:=zz h
   cases h
   obtain⟨cs,C2,ev⟩:=aal X _ _ hx
   obtain⟨A,c,hm,_,_⟩:=YX C2
   rw[hm] at ev
   refine aH.plain hr (v:= .int .i64 (List.length xs)) ?_ jr (fun _ _ _ e'=>by cases e')
   simp [execOp,ho,resolve,invoke,builtin,Builtin.len_,ev,run_underlying hu.1,goInt]
 ·rename_i n t hT
  cases h
  obtain⟨e,iz,iR,_⟩:=(hE.ty T _ hT).dw
  refine aH.plain hr (v:= .int .i64 n) ?_ jr (fun _ _ _ e'=>by cases e')
  simp [execOp,ho,resolve,invoke,builtin,Builtin.len_,run_underlying iz,goInt]
 ·cases h
theorem LW(hr:Rel X s a){ops:List Oper}{g:Bool}{dN:Array Operand}{ts:Array TypeId}(ho:o.op= .call ⟨.builtin (if g then .max else .min),dN,ts⟩){C:FuncId->bV Out}(h:act E C ops o s some=some u):aH P X s a o u:=by
 have key:∀x y,dN= #[x,y]->kp g (s.aG x) (s.aG y) some=some u->aH P X s a o u:=by
  intro x y has h
  subst has
  have hx:=hr.aG x
  have hy:=hr.aG y
  unfold kp at h
  split at h
  case h_2=>cases h
  rename_i k m _ k' n _ e1 e2
  rw[e1] at hx
  rw[e2] at hy
  have vx:=Bh hx
  have vy:=Bh hy
  cases h
  refine aH.plain hr (v:= .int k (bif g then(if(m:Int)<n then n else m) else(if(n:Int)<m then n else m))) ?_ jr (fun _ _ _ e'=>by cases e')
  cases g
  ·simp [execOp,ho,resolve,invoke,builtin,Builtin.min_,Builtin.min2,vx,vy]
  ·simp [execOp,ho,resolve,invoke,builtin,Builtin.max_,Builtin.max2,vx,vy]
 unfold act at h
 cases g with
 |true=>
  simp only[ho,if_true] at h
  split at h
  ·rename_i x y e
   exact key x y (by rw[<-Array.toArray_toList (xs:=dN),e]) h
  ·cases h
 |false=>
  simp only[ho,Bool.false_eq_true,if_false] at h
  split at h
  ·rename_i x y e
   exact key x y (by rw[<-Array.toArray_toList (xs:=dN),e]) h
  ·cases h
theorem amT(hr:Rel X s a){ops:List Oper}{op:UnOp}{T:TypeId}{x:Operand}(ho:o.op= .unOp op T x){C:FuncId->bV Out}(h:act E C ops o s some=some u):aH P X s a o u:=by
 unfold act at h
 simp only[ho] at h
 have hx:=hr.aG x
 unfold Lt at h
 split at h
 ·rename_i b w e
  rw[e] at hx
  cases h
  refine aH.plain hr (v:= .bool (!b)) ?_ nA (fun _ _ _ e'=>by cases e')
  simp [execOp,ho,PQ hx,Op.unary]
 ·rename_i k n w e
  rw[e] at hx
  cases h
  refine aH.plain hr (v:= .int k (k.wrap (0-n))) ?_ jr (fun _ _ _ e'=>by cases e')
  simp [execOp,ho,Bh hx,Op.unary,Op.intArith]
 ·cases h
theorem abU(hr:Rel X s a){ops:List Oper}{x:Operand}(ho:o.op= .nilCheck x){C:FuncId->bV Out}(h:act E C ops o s some=some u):aH P X s a o u:=by
 unfold act at h
 simp only[ho] at h
 have hx:=hr.aG x
 split at h
 ·rename_i id t p e
  rw[e] at hx
  split at h
  ·cases h
  rename_i eh
  have eh:(t.bG&& !t.eL)=false:=by simpa using eh
  cases h
  obtain⟨r,h1,hx⟩:=hx
  obtain⟨ad,h2⟩:=ME eh hx
  refine aH.plain hr (v:= .pointer (some ad)) ?_ ⟨r,h1,h2▸hx⟩ (fun bc t' p' e'=> ?_)
  ·simp [execOp,ho,h2]
  ·injection e' with e1 e2 e3
   subst e1
   exact sH hr e
 ·rename_i t y e
  rw[e] at hx
  cases h
  obtain⟨ad,cs,h1,h2⟩:=hx
  refine aH.plain hr (v:= .pointer (some ad)) ?_ ⟨ad,cs,rfl,h2⟩ (fun _ _ _ e'=>by cases e')
  simp [execOp,ho,h1]
 ·cases h
theorem acd(hr:Rel X s a){ops:List Oper}{x:Operand}{j:Nat}(ho:o.op= .extract x j){C:FuncId->bV Out}(h:act E C ops o s some=some u):aH P X s a o u:=by
 unfold act at h
 simp only[ho] at h
 split at h
 case h_2=>cases h
 rename_i t
 have hs:=hr.slot t
 split at h
 ·rename_i hlen
  split at h
  case h_2=>cases h
  rename_i uw
  cases h
  have Sp:=hr.aG (.tmp t)
  rw[show s.aG (.tmp t)=SV.over from uw] at Sp
  have Sp:a.eval (.tmp t)= .tuple #[.bool false]:=Sp
  refine aH.plain hr (v:= .bool false) ?_ nA (fun _ _ _ e'=>by cases e')
  simp [execOp,ho,Sp,Instr.extract]
 rename_i hlen
 have vw:(s.slot t).length≠1:=fun e=>hlen (by rw[e];rfl)
 have CJ:∃vs:Array Value,a.tmps.getD t Go.undef= .tuple vs/\vs.size=(s.slot t).length/\∀(j:Nat) sv v,(s.slot t)[j]? =some sv->vs[j]? =some v->az X (.c t j) sv v:=by
  match hm:s.slot t with
  | [sv]=>rw[hm] at vw;exact absurd rfl vw
  | []=>rw[hm] at hs;exact hs
  |_::_::_=>rw[hm] at hs;exact hs
 obtain⟨vs,h1,h2,h3⟩:=CJ
 have aW:∀v,vs[j]? =some v->(execOp a.eval o).run P X.w= .ok (.value v) X.w:=by
  intro v hv
  simp only[execOp,ho,Act.eval,h1,Sem.run_bind,Instr.extract,hv,Sem.run_pure,Result.andThen_ok]
 have hv:∀sv,(s.slot t)[j]? =some sv->∃v,vs[j]? =some v:=by
  intro sv jL
  have:=(List.getElem?_eq_some_iff.1 jL).1
  exact⟨_,Array.getElem?_eq_getElem (by omega)⟩
 split at h
 ·rename_i ut y w e
  cases h
  obtain⟨v,hv⟩:=hv _ e
  cases w with
  |nil=>exact aH.plain hr (aW v hv) (h3 j _ v e hv).bare (fun _ _ _ h=>by cases h)
  |cons p w=>exact aH.A4 hr (aW v hv) (h3 j _ v e hv)
 ·cases h
 ·cases h
 ·rename_i sv h4 h5 h6 e
  cases h
  obtain⟨v,hv⟩:=hv _ e
  have fP:Plain sv:=by
   cases sv with
   |aj ut y w=>exact(h4 ut y w rfl).elim
   |bz id c b n=>first|exact(h5 id c b n rfl).elim|exact(h6 id c b n rfl).elim
   |_=>trivial
  refine aH.plain hr (aW v hv) ((h3 j _ v e hv).place fP) (fun id ty p e'=> ?_) fP.oM
  ·by_cases aq:t<s.sl.length
   ·refine hr.live t _ id ty p (qL aq) ?_
    rw[<-e'];exact List.mem_of_getElem? e
   ·have:s.slot t=[.undef]:=by simp [State.slot,List.getElem?_eq_none (Nat.le_of_not_lt aq)]
    rw[this] at vw
    exact absurd rfl vw
 ·cases h
end Go.Ref

namespace Go.Ref
open Go
variable {P:Program} {E:Env} {X:aw} {s:State} {a:Act} {o:Oper} {u:Out}
def nU(v:Option SV)(n:Nat)(d:Nat):Prop:=match v with
 |none=>n=d
 |some v=>∀(X:aw) pl val,az X pl v val->val= .int .i64 (n:Int)
theorem NW{l:Int}{m:Nat}(h1:0<=l)(h2:l<=(m:Int)):l.toNat<=m:=by omega
theorem zwe{l:Int}(h1:0<=l):((l.toNat:Nat):Int)=l:=by omega
theorem zb0{R:Type}{lo:Option SV}{m:Nat}{G:Nat->Option R}{z:R}(h:yj lo m G=some z):∃l,G l=some z/\l<=m/\nU lo l 0:=by
 unfold yj at h
 cases lo with
 |none=>exact⟨0,h,Nat.zero_le _,rfl⟩
 |some v=>
  obtain⟨l,h,hl⟩:=zz h
  cases h1:decide (0<=l)<;>rw[h1] at h
  ·cases h
  ·cases h2:decide (l<=(m:Int))<;>rw[h2] at h
   ·cases h
   ·have h1:=of_decide_eq_true h1
    have h2:=of_decide_eq_true h2
    refine⟨l.toNat,h,NW h1 h2,fun X pl val hv=> ?_⟩
    obtain⟨cs,r,e⟩:=hl X pl val hv
    rw[e,lL r,zwe h1]
theorem zv6{R:Type}{lo hi:Option SV}{n:Nat}{F:Nat->Nat->Option R}{z:R}(h:cutAt lo hi n F=some z):∃l m,F l m=some z/\l<=m/\m<=n/\nU lo l 0/\nU hi m n:=by
 unfold cutAt at h
 cases hi with
 |none=>
  obtain⟨l,h1,h2,h3⟩:=zb0 h
  exact⟨l,n,h1,h2,Nat.le_refl _,h3,rfl⟩
 |some v=>
  obtain⟨m,h,hm⟩:=zz h
  cases h1:decide (0<=m)<;>rw[h1] at h
  ·cases h
  ·cases h2:decide (m<=(n:Int))<;>rw[h2] at h
   ·cases h
   ·have h1:=of_decide_eq_true h1
    have h2:=of_decide_eq_true h2
    have h:yj lo (Int.toNat m) (fun l=>F l (Int.toNat m))=some z:=h
    obtain⟨l,g1,g2,g3⟩:=zb0 h
    refine⟨l,m.toNat,g1,g2,NW h1 h2,g3,fun X pl val hv=> ?_⟩
    obtain⟨cs,r,e⟩:=hm X pl val hv
    rw[e,lL r,zwe h1]
theorem nU.val(hr:Rel X s a){x:Option Operand}{n d:Nat}(h:nU (x.map s.aG) n d):(x=none/\n=d)\/x.map a.eval=some (.int .i64 (n:Int)):=by
 cases x with
 |none=>exact .inl ⟨rfl,h⟩
 |some x=>exact .inr (by rw[Option.map_some,h X _ _ (hr.aG x)])
theorem zdu(hr:Rel X s a){isS:Bool}{lo hi:Option Operand}{l m n c:Nat}(hl:nU (lo.map s.aG) l 0)(hm:nU (hi.map s.aG) m n)(h1:l<=m)(h2:m<=n)(h3:n<=c)(w:World):
 (Instr.sliceBounds isS n c (lo.map a.eval) (hi.map a.eval) none).run P w= .ok (l,m,c) w:=by
 have sb:∀(i y:Nat) (code:BoundsCode),i<=y->(Instr.sliceBound (.int .i64 (i:Int)) y code).run P w= .ok i w:=by
  intro i y code h
  rw[run_sliceBound (P:=P) (w:=w) .i64 (i:Int) y code (by omega) (by omega)]
  simp
 rcases hl.val hr with⟨rfl,rfl⟩|hl<;>rcases hm.val hr with⟨rfl,rfl⟩|hm
 ·simp [Instr.sliceBounds]
 ·simp [Instr.sliceBounds,hm,sb m c _ (by omega)]
 ·simp [Instr.sliceBounds,hl,sb l m _ h1]
 ·simp [Instr.sliceBounds,hl,hm,sb l m _ h1,sb m c _ (by omega)]
theorem agy(hE:al P E)(hr:Rel X s a){T:TypeId}{x:Operand}{lo hi:Option Operand}(ho:o.op= .slice T x lo hi none)(h:rE E T (s.aG x) (lo.map s.aG) (hi.map s.aG) some=some u):aH P X s a o u:=by
 have hx:=hr.aG x
 unfold rE at h
 split at h
 ·rename_i hT
  obtain⟨st,h,bP⟩:=zz h
  obtain⟨l,m,h,h1,h2,hl,hm⟩:=zv6 h
  cases h
  obtain⟨cs,Li,ev⟩:=bP X _ _ hx
  rw[nC Li] at ev
  have hu:=(hE.ty T _ hT).dw
  refine aH.plain hr (v:= .string (st.extract l m)) ?_ Bv (fun _ _ _ e'=>by cases e')
  simp only[execOp,ho,Sem.run_bind,Instr.sliceAt,run_underlying hu,Result.andThen_ok,Instr.slice,ev,Option.map_none,Option.isSome_none,Bool.false_eq_true,if_false,zdu hr hl hm h1 h2 (Nat.le_refl _),Sem.run_pure]
 ·rename_i e t hT
  obtain⟨xs,h,ss⟩:=zz h
  obtain⟨l,m,h,h1,h2,hl,hm⟩:=zv6 h
  cases h
  obtain⟨cs,C2,ev⟩:=ss X _ _ hx
  obtain⟨A,c,gX,hle,fO⟩:=YX C2
  rw[gX] at ev
  have hu:=(hE.ty T _ hT).dw
  have hlen:((List.take m xs).drop l).length=m-l:=by rw[List.length_drop,List.length_take,Nat.min_eq_left h2]
  refine aH.plain hr (v:= .slice (if c=l then A else A.map (·.add (l*t.cells))) (m-l) (c-l)) ?_ ⟨_,bg.xS (A:=if c=l then A else A.map (·.add (l*t.cells))) (n:=m-l) (c:=c-l) hlen (by omega) (fun j y hj=> ?_),rfl,mD⟩ (fun _ _ _ e'=>by cases e')
  ·simp only[execOp,ho,Sem.run_bind,Instr.sliceAt,run_underlying hu.1,Result.andThen_ok,Instr.slice,ev,Option.map_none,zdu hr hl hm h1 h2 hle,Sem.run_pure,lJ hE hu.2]
  ·have ui:=(List.getElem?_eq_some_iff.1 hj).1
   rw[hlen] at ui
   have Cy:xs[l+j]? =some y:=by
    rw[List.getElem?_drop,List.getElem?_take,if_pos (by omega)] at hj
    exact hj
   obtain⟨ad,eJ,rfl,mB,aL,ej⟩:=fO (l+j) y Cy
   rw[if_neg (by omega)]
   refine⟨ad.add (l*t.cells),eJ,rfl,Bs mB _,aL,fun i v hi=> ?_⟩
   rw[Rh _ mB,<-Nat.add_assoc,<-Nat.add_mul]
   exact ej i v hi
 ·cases h
theorem adz(hE:al P E)(hr:Rel X s a){S T:TypeId}{x:Operand}(ho:o.op= .convert S T x)(h:ll E S T (s.aG x) some=some u):aH P X s a o u:=by
 have hx:=hr.aG x
 unfold ll at h
 split at h
 ·rename_i k k' hS hT
  obtain⟨n,h,hn⟩:=zz h
  cases h
  obtain⟨cs,rn,ev⟩:=hn X _ _ hx
  rw[lL rn] at ev
  have hu:=(hE.ty S _ hS).dw
  have hv:=(hE.ty T _ hT).dw
  refine aH.plain hr (v:= .int k' (k'.wrap n)) ?_ jr (fun _ _ _ e'=>by cases e')
  simp [execOp,ho,ev,convert,run_underlying hu,run_underlying hv,Conv.intToInt]
 ·rename_i hS hT
  obtain⟨st,h,bP⟩:=zz h
  cases h
  obtain⟨cs,rn,ev⟩:=bP X _ _ hx
  rw[nC rn] at ev
  have hu:=(hE.ty S _ hS).dw
  have hv:=(hE.ty T _ hT).dw
  refine aH.plain hr (v:= .string st) ?_ Bv (fun _ _ _ e'=>by cases e')
  simp [execOp,ho,ev,convert,run_underlying hu,run_underlying hv]
 ·rename_i e hS hT
  obtain⟨xs,h,ss⟩:=zz h
  cases h
  obtain⟨cs,C2,ev⟩:=ss X _ _ hx
  obtain⟨A,c,gX,hle,fO⟩:=YX C2
  rw[gX] at ev
  have hu:=(hE.ty S _ hS).dw
  have he:=(hE.ty e _ hu.2).dw
  have hv:=(hE.ty T _ hT).dw
  refine aH.plain hr (v:= .string (strOf xs)) ?_ Bv (fun _ _ _ e'=>by cases e')
  have key:(convert S T (.slice A (List.length xs) c)).run P X.w= .ok (.string (strOf xs)) X.w:=by
   cases A with
   |none=>
    have uu:xs=[]:=by
     cases xs with
     |nil=>rfl
     |cons y ys=>obtain⟨ad,_,h,_⟩:=fO 0 y rfl;cases h
    rw[run_convert_bytes_nil X.w S e hu.1 he _ _ T hv,uu]
    rfl
   |some ad=>
    rw[run_convert_bytes_string X.w S T e _ _ c hu.1 he hv]
    have kd:(loadCells ad (List.length xs)).run P X.w= .ok (List.map (Value.int .u8) xs).toArray X.w:=by
     have:=run_loadCells_list (P:=P) X.w ad (List.map (Value.int .u8) xs) (fun j v hj=>by
      obtain⟨y,hy,rfl⟩:=List.getElem?_map .. ▸hj|>Option.map_eq_some_iff.1
      obtain⟨qt,eJ,h1,mB,aL,ej⟩:=fO j y hy
      cases h1
      have hc:eJ=[.int .u8 y]:=aL
      have:=ej 0 (.int .u8 y) (by rw[hc];rfl)
      have h2:=this.2.1
      simpa [Ty.cells] using h2)
     rw[List.length_map] at this
     exact this
    rw[run_bytesToString X.w ad _ c xs kd,foldl_push_bytes]
    simp [strOf,ByteArray.empty,ByteArray.emptyWithCapacity]
    rfl
  simp only[execOp,ho,Sem.run_bind,ev,key,Result.andThen_ok,Sem.run_pure]
 ·cases h
def aw.new(X:aw)(cs:Array Value)(T:TypeId)(w:Ow)(β:Nat->Option Nat):aw:={w:=X.w.alloc (.cells cs T),ow:=fun g=>if g=X.w.heap.size then w else X.ow g,β}
theorem Qi(X:aw)(s:State)(cs:Array Value)(T:TypeId)(w:Ow)(β:Nat->Option Nat)(hβ0:β 0=X.β 0)(hβ:∀(id:Nat) B,s.bs[id]? =some (some B)->β id=X.β id):eP s X (X.new cs T w β) where
 size:=by simp [aw.new]
 os:=rfl
 tape:=rfl
 output:=rfl
 mV:=fun g hg=>⟨by simp only[aw.new];rw[if_neg (by omega)],RowKit.Below.heap_alloc _ _ _ hg⟩
 β0:=hβ0
 β:=hβ
theorem Qa(X:aw)(cs:Array Value)(T:TypeId)(w:Ow)(β:Nat->Option Nat):(X.new cs T w β).w.heap[X.w.heap.size]? =some (.cells cs T (0,0))/\(X.new cs T w β).ow X.w.heap.size=w:=⟨heap_alloc_new X.w _,by simp [aw.new]⟩
theorem P1(T:TypeId)(v:Value)(w:World):(newVar T v).run P w= .ok ⟨w.heap.size,0,none⟩ (w.alloc (.cells v.cells T)):=by
 simp [newVar,newRow]
theorem Rel.fw{Y:aw}(hr:Rel Y s a){d r:Nat}{B:bC}(hd:d<s.bs.length)(hb:s.bs[d]? =some none)(hβ:Y.β d=some r)(h:bD Y d r B):Rel Y (s.aC (some (d,B))) a where
 size:=hr.size
 gL:=by simpa [State.aC] using hr.gL
 bQ:=hr.bQ
 boxes:=fun id B' eD=>by
  simp only[State.aC,List.getElem?_set] at eD
  by_cases e:d=id
  ·subst e
   rw[if_pos rfl,if_pos hd] at eD
   cases eD;exact⟨r,hβ,h⟩
  ·rw[if_neg e] at eD
   exact hr.boxes id B' eD
 live:=fun i l id t p hi hm=>by
  obtain⟨B',eD⟩:=hr.live i l id t p hi hm
  simp only[State.aC,List.getElem?_set]
  by_cases e:d=id
  ·subst e;rw[hb] at eD;cases eD
  ·rw[if_neg e];exact⟨B',eD⟩
 defers:=hr.defers
 bz:=hr.bz.aC (hr.bz.none fun a b x own h=>by rw[hb] at h;cases h)
theorem qJ{d:Nat}{B:bC}(h:s.box d=some B):s.bs[d]? =some (some B):=by
 unfold State.box at h
 rw[List.getD_eq_getElem?_getD] at h
 cases hg:s.bs[d]? with
 |none=>rw[hg] at h;cases h
 |some x=>rw[hg] at h;simp at h;rw[h]
theorem DY(hr:Rel X s a){x:Operand}{t:Ty}{R:Type}{K:El t->Option R}{z:R}(h:(s.aG x).el t K=some z){c:List (Nat×Nat)}(hc:c=src x\/((s.aG x).own=[]/\c=[])):
 ∃y,K y=some z/\∀q:List Nat->Place,∃Y cs,Y.w=X.w/\Ext X Y/\Rel Y (s.close c) a/\bg Y t y cs/\a.eval x=dR t cs/\bn Y q t y cs (s.aG x).own/\Y.β=X.β/\dY (s.close c) X Y/\lS X Y:=by
 have hx:=hr.aG x
 cases hs:s.aG x with
 |aj t' y' w=>
  rw[hs] at hx h hc
  simp only[SV.el] at h
  split at h
  case isFalse=>cases h
  rename_i heq
  have:=Ty.aI heq
  subst this
  refine⟨y',h,fun q=> ?_⟩
  have plain:w=[]->∃Y cs,Y.w=X.w/\Ext X Y/\Rel Y (s.close c) a/\bg Y t' y' cs/\a.eval x=dR t' cs/\bn Y q t' y' cs (SV.aj t' y' w).own/\Y.β=X.β/\dY (s.close c) X Y/\lS X Y:=by
   intro hw
   subst hw
   obtain⟨cs,h1,h2,_⟩:=hx
   exact⟨X,cs,rfl,Ext.refl X,hr.close _,h1,h2,mD,rfl,dY.refl _ _,lS.refl X⟩
  rcases hc with hc|⟨hw,_⟩
  ·cases x with
   |tmp i=>
    obtain⟨Y,h1,h2,h3,⟨cs,h4,h5,h6⟩,h7,h8,h9⟩:=hr.take hx q
    subst hc
    exact⟨Y,cs,h1,h2,h3,h4,h5,h6,h7,h8,h9⟩
   |const v=>exact plain (zi7 (show BD v= .aj t' y' w from hs))
   |_=>simp [State.aG,State.xK,one] at hs
  ·exact plain hw
 |cF=>
  rw[hs] at hx h
  cases t<;>simp only[SV.el] at h<;>try(cases h;done)
  rename_i e t
  refine⟨[],h,fun q=>⟨X,[.slice none 0 0],rfl,Ext.refl X,hr.close _,⟨none,0,rfl,Nat.le_refl _,fun j x hj=>by simp at hj⟩,hx,fun p hp=> ?_,rfl,dY.refl _ _,lS.refl X⟩⟩
  have hp:p=[]:=by simpa [SV.own] using hp
  subst hp
  exact⟨e,t,[],_,by simp [Ty.eK],rfl,rfl,.inl ⟨rfl,rfl⟩⟩
 |_=>rw[hs] at h;simp [SV.el] at h
theorem aH.fw{P:Program}(hr:Rel X s a){d:Nat}{T:TypeId}{t:Ty}{y:El t}{cs:List Value}{own:List (List Nat)}{c:List (Nat×Nat)}{W:aw}
 (eh:t.bG=false) (hd:o.dst=some d) (hb:s.bs[d+1]? =some none) (hW:W.w=X.w) (hX:Ext X W) (Sr:Rel W (s.close c) a) (aL:bg W t y cs)
 (bS:bn W (.b (d+1)) t y cs own)
 (aW:(execOp a.eval o).run P X.w= .ok (.value (.pointer (some ⟨X.w.heap.size,0,none⟩))) (X.w.alloc (.cells cs.toArray T))):aH P X s a o {v:=[.ptr (d+1) t []],bx:=some (d+1,⟨t,y,own⟩),cl:=c}:=by
 let β:Nat->Option Nat:=fun id=>if id=d+1 then some W.w.heap.size else W.β id
 have aq:d+1<s.bs.length:=(List.getElem?_eq_some_iff.1 hb).1
 have jd:(s.close c).bs[d+1]? =some none:=by rw[z40];exact hb
 have hk:eP (s.close c) W (W.new cs.toArray T (.box (d+1)) β):=Qi W _ _ _ _ _ (by show(if _ then _ else _)=_;rw[if_neg (by omega)]) (fun id B hB=>by
  show(if id=d+1 then _ else _)=_
  rw[if_neg (fun e=>by rw[e,jd] at hB;cases hB)])
 obtain⟨n1,n2⟩:=Qa W cs.toArray T (.box (d+1)) β
 have bH:bD (W.new cs.toArray T (.box (d+1)) β) (d+1) W.w.heap.size ⟨t,y,own⟩:=
  ⟨n2,dz.of eh n1 (by simpa using aL.ai (fun _ _=>hk.ay)) (by simpa using bS.dx hk)⟩
 have hβd:β (d+1)=some W.w.heap.size:=by show(if d+1=d+1 then _ else _)=_;rw[if_pos rfl]
 have fc:=(Sr.dx hk).fw (by rw[z40];exact aq) jd hβd bH
 refine⟨W.new cs.toArray T (.box (d+1)) β,.pointer (some ⟨X.w.heap.size,0,none⟩),.inl ?_,hX.trans hk.ext,?_⟩
 ·rw[aW];simp [aw.new,hW]
 ·rw[hd]
  refine fc.put (fun d' e=> ?_) (fun id t' p hm=> ?_)
  ·cases e
   refine⟨W.w.heap.size,hβd,(qH eh).2 ⟨?_,by simp [Ty.eK]⟩⟩
   rw[hW]
   simp [Ty.off]
  ·have:id=d+1:=by have:=hm;simp at this;exact this.1
   subst this
   exact⟨⟨t,y,own⟩,by simp [State.aC,List.getElem?_set,z40,aq]⟩
theorem TH(hE:al P E){T:TypeId}{t:Ty}(ht:E.ty T=some t)(w:World):(zeroValue T).run P w= .ok (dR t (zp t)) w:=by
 obtain⟨i,h1,_,_,h2⟩:=(hE.ty T t ht).info
 simp [zeroValue,typeInfo,h1,h2]
theorem Mv(X:aw)(pl:List Nat->Place):∀t:Ty,bn X pl t (El.bT t) (zp t) (yb t):=by
 intro t
 induction t generalizing pl with
 |sl e t=>
  intro p hp
  have hp:p=[]:=by simpa [yb] using hp
  subst hp
  exact⟨e,t,[],.slice none 0 0,by simp [Ty.eK],rfl,rfl,.inl ⟨rfl,rfl⟩⟩
 |pair ta tb me mf=>
  intro p hp
  simp only[yb,List.mem_append,List.mem_map,List.mem_filterMap] at hp
  rcases hp with⟨q,hq,rfl⟩|⟨q,hq,he⟩
  ·obtain⟨e,t',xs,v,g0,g1,g2,g3⟩:=me (fun q=>pl (0::q)) q hq
   refine⟨e,t',xs,v,g0,g1,?_,g3⟩
   have hl:=(List.getElem?_eq_some_iff.1 g2).1
   simp only[Ty.off,zp]
   rw[List.getElem?_append_left hl]
   exact g2
  ·cases q with
   |nil=>simp [bump] at he
   |cons j q=>
    simp only[bump,Option.some.injEq] at he
    subst he
    obtain⟨e,t',xs,v,g0,g1,g2,g3⟩:=mf (fun q=>match q with| []=>pl []|j::q=>pl ((j+1)::q)) (j::q) hq
    refine⟨e,t',xs,v,g0,g1,?_,g3⟩
    simp only[Ty.off,zp]
    rw[List.getElem?_append_right (by rw[va];omega),va,Nat.add_sub_cancel_left]
    exact g2
 |_=>intro p hp;simp [yb] at hp
theorem aH.CL{P:Program}(hr:Rel X s a){d:Nat}{T e:TypeId}(hd:o.dst=some d)(hb:s.bs[d+1]? =some none)
 (aW:(execOp a.eval o).run P X.w= .ok (.value (.pointer (some ⟨X.w.heap.size,0,none⟩))) (X.w.alloc (.cells #[.pointer none,.slice none 0 0] T))):
 aH P X s a o {v:=[.ptr (d+1) (.aJ (.gF T e) .unit .unit) []],bx:=some (d+1,⟨.aJ (.gF T e) .unit .unit,(⟨#[]⟩:ByteArray),[[]]⟩)}:=by
 let β:Nat->Option Nat:=fun id=>if id=d+1 then some X.w.heap.size else X.β id
 have aq:d+1<s.bs.length:=(List.getElem?_eq_some_iff.1 hb).1
 have hk:eP s X (X.new #[.pointer none,.slice none 0 0] T (.box (d+1)) β):=Qi X _ _ _ _ _ (by show(if _ then _ else _)=_;rw[if_neg (by omega)]) (fun id B hB=>by
  show(if id=d+1 then _ else _)=_
  rw[if_neg (fun e=>by rw[e,hb] at hB;cases hB)])
 obtain⟨n1,n2⟩:=Qa X #[.pointer none,.slice none 0 0] T (.box (d+1)) β
 have bH:bD (X.new #[.pointer none,.slice none 0 0] T (.box (d+1)) β) (d+1) X.w.heap.size ⟨.aJ (.gF T e) .unit .unit,(⟨#[]⟩:ByteArray),[[]]⟩:=
  ⟨n2,⟨_,n1⟩,fun _=>⟨.slice none 0 0,⟨.inl n1,⟨rfl,.inl ⟨rfl,rfl⟩⟩,by simp [Value.ownBlock]⟩,fun g hg=>by simp [Value.ownBlock] at hg⟩⟩
 have hβd:β (d+1)=some X.w.heap.size:=by show(if d+1=d+1 then _ else _)=_;rw[if_pos rfl]
 have fc:=(hr.dx hk).fw aq hb hβd bH
 refine⟨X.new #[.pointer none,.slice none 0 0] T (.box (d+1)) β,.pointer (some ⟨X.w.heap.size,0,none⟩),.inl aW,hk.ext,?_⟩
 rw[hd]
 refine fc.put (fun d' e=> ?_) (fun id t' p hm=> ?_)
 ·cases e
  exact⟨X.w.heap.size,hβd,(Qk rfl).2 ⟨by simp [Ty.off],by simp [Ty.eK]⟩⟩
 ·have:id=d+1:=by have:=hm;simp at this;exact this.1
  subst this
  exact⟨_,by simp [State.aC,List.getElem?_set,aq];rfl⟩
theorem aH.CM{P:Program}(hr:Rel X s a){d:Nat}{T:TypeId}{ta tb:Ty}(hd:o.dst=some d)(hb:s.bs[d+1]? =some none)
 (aW:(execOp a.eval o).run P X.w= .ok (.value (.pointer (some ⟨X.w.heap.size,0,none⟩))) (X.w.alloc (.cells (zp ta++ [Value.pointer none,Value.pointer none,Value.int .i64 0]).toArray T))):aH P X s a o {v:=[.ptr (d+1) (.aJ .bN ta tb) []],bx:=some (d+1,⟨.aJ .bN ta tb,(El.bT ta,(none,none),(0:Int)),[]::kW⟩)}:=by
 let β:Nat->Option Nat:=fun id=>if id=d+1 then some X.w.heap.size else X.β id
 have aq:d+1<s.bs.length:=(List.getElem?_eq_some_iff.1 hb).1
 have hk:eP s X (X.new (zp ta++ [Value.pointer none,Value.pointer none,Value.int .i64 0]).toArray T (.box (d+1)) β):=Qi X _ _ _ _ _ (by show(if _ then _ else _)=_;rw[if_neg (by omega)]) (fun id B hB=>by
  show(if id=d+1 then _ else _)=_
  rw[if_neg (fun e=>by rw[e,hb] at hB;cases hB)])
 obtain⟨n1,n2⟩:=Qa X (zp ta++ [Value.pointer none,Value.pointer none,Value.int .i64 0]).toArray T (.box (d+1)) β
 have bH:bD (X.new (zp ta++ [Value.pointer none,Value.pointer none,Value.int .i64 0]).toArray T (.box (d+1)) β) (d+1) X.w.heap.size ⟨.aJ .bN ta tb,(El.bT ta,(none,none),(0:Int)),[]::kW⟩:=
  ⟨n2,⟨_,n1⟩,fun _=>⟨zp ta,.pointer none,.pointer none,T,n1,(sF X ta).ai (fun _ _=>hk.ay),rfl,rfl⟩⟩
 have hβd:β (d+1)=some X.w.heap.size:=by show(if d+1=d+1 then _ else _)=_;rw[if_pos rfl]
 have fc:=(hr.dx hk).fw aq hb hβd bH
 refine⟨X.new _ T (.box (d+1)) β,.pointer (some ⟨X.w.heap.size,0,none⟩),.inl aW,hk.ext,?_⟩
 rw[hd]
 refine fc.put (fun d' e=> ?_) (fun id t' p hm=> ?_)
 ·cases e
  exact⟨X.w.heap.size,hβd,rfl,trivial⟩
 ·have:id=d+1:=by have:=hm;simp at this;exact this.1
  subst this
  exact⟨⟨.aJ .bN ta tb,(El.bT ta,(none,none),(0:Int)),[]::kW⟩,by simp [State.aC,List.getElem?_set,aq]⟩
theorem adu(hE:al P E)(hr:Rel X s a){ops:List Oper}{T:TypeId}(ho:o.op= .alloc T){C:FuncId->bV Out}(h:act E C ops o s some=some u):aH P X s a o u:=by
 unfold act at h
 simp only[ho] at h
 split at h
 case h_3=>cases h
 case h_2=>
  rename_i d hT hd
  split at h
  ·rename_i ta tb Ct
   split at h
   case h_2=>cases h
   rename_i hb
   cases h
   obtain⟨i,h1,h2⟩:=hE.gz T ta tb Ct
   refine aH.CM hr hd hb (T:=T) ?_
   have hz:(zeroValue T).run P X.w= .ok (.agg (zp ta++ [Value.pointer none,Value.pointer none,Value.int .i64 0]).toArray) X.w:=by simp [zeroValue,typeInfo,h1,h2]
   simp only[execOp,ho,Sem.run_bind,Instr.alloc,hz,Result.andThen_ok,P1,Sem.run_pure]
   rfl
  split at h
  case h_2=>cases h
  rename_i e Kg
  split at h
  case h_2=>cases h
  rename_i hb
  cases h
  obtain⟨i,h1,h2⟩:=hE.bl T e Kg
  refine aH.CL hr hd hb ?_
  have hz:(zeroValue T).run P X.w= .ok (.agg #[.pointer none,.slice none 0 0]) X.w:=by simp [zeroValue,typeInfo,h1,h2]
  simp only[execOp,ho,Sem.run_bind,Instr.alloc,hz,Result.andThen_ok,P1,Sem.run_pure]
  rfl
 rename_i t d hT hd
 split at h
 case h_2=>cases h
 rename_i hb
 cases h
 have aL:=sF X t
 refine aH.fw (T:=T) (cs:=zp t) (W:=X) (c:=[]) hr (hE.iU hT) hd hb rfl (Ext.refl X) hr aL (Mv X _ t) ?_
 simp only[execOp,ho,Sem.run_bind,Instr.alloc,TH hE hT,Result.andThen_ok,P1,vH aL,Sem.run_pure]
theorem aj5(hE:al P E)(hr:Rel X s a){ops:List Oper}{T:TypeId}{x:Operand}(ho:o.op= .box T x){C:FuncId->bV Out}(h:act E C ops o s some=some u):aH P X s a o u:=by
 unfold act at h
 simp only[ho] at h
 split at h
 case h_2=>cases h
 rename_i t d hT hd
 split at h
 case h_2=>cases h
 rename_i hb
 obtain⟨y,h,hy⟩:=DY hr h (.inl rfl)
 cases h
 obtain⟨W,cs,h1,h2,h3,h4,h5,h6,_,_,_⟩:=hy (.b (d+1))
 refine aH.fw (T:=T) (cs:=cs) (W:=W) hr (hE.iU hT) hd hb h1 h2 h3 h4 h6 ?_
 simp only[execOp,ho,Sem.run_bind,Instr.box,P1,Result.andThen_ok,Sem.run_pure,h5,vH h4]
end Go.Ref

namespace Go.Ref
open Go
variable {P:Program} {E:Env} {X:aw} {s:State} {a:Act} {o:Oper} {u:Out}
theorem Bj(hE:al P E){T:TypeId}{t:Ty}(ht:E.ty T=some t){x:El t}{cs:List Value}(hr:bg X t x cs){ad:Addr}{w:World}(hc:∀(i:Nat) v,cs[i]? =some v->w.cell? (ad.add i)=some v):(loadVar T ad).run P w= .ok (dR t cs) w:=by
 have hl:=hr.len
 unfold loadVar
 simp only[Sem.run_bind,Mk hE ht,Result.andThen_ok]
 cases hg:t.agg with
 |true=>
  have:=run_loadCells_list (P:=P) w ad cs hc
  rw[hl] at this
  simp only[if_true,Sem.run_bind,lJ hE ht,Result.andThen_ok,this,Sem.run_pure,jJ hg]
 |false=>
  have h1:t.cells=1:=by cases t<;>simp_all [Ty.agg,Ty.cells]
  rw[h1] at hl
  match cs,hl with
  | [c],_=>
    rw[Ro hg]
    have:=hc 0 c rfl
    have h0:ad.add 0=ad:=by simp [Addr.add]
    rw[h0] at this
    simp only[Bool.false_eq_true,if_false,run_load,this]
theorem Bl{own:List (List Nat)}{p:List Nat}(h:gK own p=true):p∈own:=by
 unfold gK at h
 obtain⟨q,hq,he⟩:=List.any_eq_true.1 h
 rw[<-eq_of_beq he]
 exact hq
theorem zb1{own:List (List Nat)}{p q:List Nat}(h:q∈yg own p):q∈own/\p.isPrefixOf q=false:=by
 unfold yg at h
 rw[List.mem_filter] at h
 exact⟨h.1,by simpa using h.2⟩
theorem Rp{t:Ty}(h:t.bG=false):t.eL=false:=by cases t<;>first|rfl|cases h
theorem Rel.oM(hr:Rel X s a){id:Nat}{B:bC}(hb:s.bs[id]? =some (some B))(hg:B.t.eL=false\/ []∈B.own):∀(i:Nat) (l:List SV) a b j,s.sl[i]? =some l->SV.bz id a b j∈l->False:=hr.bz.none fun c d x own h=>by
 rw[hb] at h
 cases h
 exact hg.resolve_left fun e=>by cases e
theorem Rel.ml{Y:aw}(hr:Rel Y s a){id r:Nat}{B B':bC}(hb:s.bs[id]? =some (some B))(hβ:Y.β id=some r)(h:bD Y id r B')(hg:B.t.eL=false\/ []∈B.own):Rel Y (s.aC (some (id,B'))) a where
 size:=hr.size
 gL:=by simpa [State.aC] using hr.gL
 bQ:=hr.bQ
 boxes:=fun bc B2 cW=>by
  have aq:id<s.bs.length:=(List.getElem?_eq_some_iff.1 hb).1
  simp only[State.aC,List.getElem?_set] at cW
  by_cases e:id=bc
  ·subst e
   rw[if_pos rfl,if_pos aq] at cW
   cases cW;exact⟨r,hβ,h⟩
  ·rw[if_neg e] at cW
   exact hr.boxes bc B2 cW
 live:=fun i l bc t p hi hm=>by
  have aq:id<s.bs.length:=(List.getElem?_eq_some_iff.1 hb).1
  obtain⟨B2,cW⟩:=hr.live i l bc t p hi hm
  simp only[State.aC,List.getElem?_set]
  by_cases e:id=bc
  ·subst e;exact⟨B',by rw[if_pos rfl,if_pos aq]⟩
  ·rw[if_neg e];exact⟨B2,cW⟩
 defers:=hr.defers
 bz:=hr.bz.aC (hr.bz.none fun c d x own h=>by
  rw[hb] at h
  cases h
  exact hg.resolve_left fun e=>by cases e)
theorem SZ{id:Nat}{B B':bC}(hb:s.bs[id]? =some (some B)):(s.aC (some (id,B'))).bs[id]? =some (some B'):=by
 have aq:id<s.bs.length:=(List.getElem?_eq_some_iff.1 hb).1
 simp [State.aC,List.getElem?_set,aq]
theorem Tz{r off i:Nat}{cs:Array Value}{T:TypeId}{w:World}(h:w.heap[r]? =some (.cells cs T (0,0))){k:Nat}{v:Value}(hv:((cs.toList.drop off).take k)[i]? =some v):w.cell? ((⟨r,off,none⟩:Addr).add i)=some v:=by
 rw[iK]
 rw[List.getElem?_take] at hv
 split at hv
 ·rw[List.getElem?_drop] at hv
  simpa [World.cell?,h] using hv
 ·cases hv
theorem eX:∀(t:Ty) (p:List Nat) (u:Ty),t.at_ p=some u->t.eK p->t.off p+u.cells<=t.cells:=by
 intro t
 induction t with
 |arr n t ih=>
  intro p u h hp
  cases p with
  |nil=>simp only[Ty.at_,Option.some.injEq] at h;subst h;simp [Ty.off]
  |cons i p=>
   have:=ih p u h hp.2
   have hn:(i+1)*t.cells<=n*t.cells:=Nat.mul_le_mul_right _ hp.1
   rw[Nat.add_mul,Nat.one_mul] at hn
   simp only[Ty.off,Ty.cells]
   omega
 |pair x y K1 K2=>
  intro p u h hp
  cases p with
  |nil=>simp only[Ty.at_,Option.some.injEq] at h;subst h;simp [Ty.off]
  |cons i p=>
   cases i with
   |zero=>have:=K1 p u h hp;simp only[Ty.off,Ty.cells];omega
   |succ i=>have:=K2 (i::p) u h hp;simp only[Ty.off,Ty.cells];omega
 |_=>
  intro p u h hp
  cases p with
  |nil=>simp only[Ty.at_,Option.some.injEq] at h;subst h;simp [Ty.off]
  |cons i p=>simp [Ty.at_] at h
theorem aoJ{t:Ty}{p:List Nat}{e:TypeId}{t':Ty}(h:t.eK p)(ci:t.at_ p=some (.sl e t')):t.off p<t.cells:=by
 have:=eX t p _ ci h
 simp only[Ty.cells] at this
 omega
theorem adK:∀{t:Ty} {p q:List Nat} {x:El t} {u:Ty} {y:El u} {r:(u:Ty)×El u},El.get t p x=some ⟨u,y⟩->t.eK (p++q)->El.get t (p++q) x=some r->u.eK q/\El.get u q y=some r:=by
 intro t
 induction t with
 |arr n t ih=>
  intro p q x u y r h1 h2 h3
  cases p with
  |nil=>simp only[El.get,Option.some.injEq,Sigma.mk.injEq] at h1;obtain⟨rfl,h1⟩:=h1;cases h1;exact⟨h2,h3⟩
  |cons i p=>exact ih h1 h2.2 h3
 |pair ta tb me mf=>
  intro p q x u y r h1 h2 h3
  cases p with
  |nil=>simp only[El.get,Option.some.injEq,Sigma.mk.injEq] at h1;obtain⟨rfl,h1⟩:=h1;cases h1;exact⟨h2,h3⟩
  |cons i p=>
   cases i with
   |zero=>exact me h1 h2 h3
   |succ i=>exact mf (p:=i::p) h1 h2 h3
 |_=>
  intro p q x u y r h1 h2 h3
  cases p with
  |nil=>simp only[El.get,Option.some.injEq,Sigma.mk.injEq] at h1;obtain⟨rfl,h1⟩:=h1;cases h1;exact⟨h2,h3⟩
  |cons i p=>simp [El.get] at h1
def aw.gP(X:aw)(id:Nat)(p:List Nat)(q:List Nat->Place):aw:=
 {X with ow:=fun g=>match X.ow g with
  | .row (.b bc p') n=>if bc=id/\p.isPrefixOf p'=true then .row (q (p'.drop p.length)) n else .row (.b bc p') n
  |w=>w}
theorem zwh{s:State}{X:aw}{id:Nat}{p:List Nat}{q:List Nat->Place}(h:∀p',¬cX s (.b id (p++p'))):dY s X (X.gP id p q):=by
 refine⟨rfl,rfl,fun g=> ?_⟩
 simp only[aw.gP]
 cases hg:X.ow g with
 |row pl n=>
  cases pl with
  |b bc p'=>
   by_cases e:bc=id/\p.isPrefixOf p'=true
   ·obtain⟨rfl,hp⟩:=e
    obtain⟨r,rfl⟩:=List.isPrefixOf_iff_prefix.1 hp
    exact .inr ⟨_,n,q r,rfl,h r,by simp⟩
   ·exact .inl (if_neg e)
  |_=>exact .inl rfl
 |_=>exact .inl rfl
theorem bp.qE{X:aw}{id:Nat}{p r:List Nat}{q:List Nat->Place}{e:TypeId}{k n:Nat}{v:Value}(h:bp X (.b id (p++r)) e k n v):bp (X.gP id p q) (q r) e k n v:=by
 rcases h with h|⟨g,cap,cur,h1,h2,h3,h4,h5,h6⟩
 ·exact .inl h
 ·exact .inr ⟨g,cap,cur,h1,h2,h3,h4,h5,by simp [aw.gP,h6]⟩
theorem FV(hr:Rel X s a){id:Nat}{t b:Ty}{B:bC}(hB:s.box id=some B)(h:B.t.cp (.aJ .row t b)=true):s.bs[id]? =some (some B)/\∃r,X.β id=some r/\X.ow r= .box id/\∃cs T,X.w.heap[r]? =some (.cells cs T (0,0))/\cs.size=List.length (Ty.cast h B.x:List (El t))*t.cells/\
 ∀(j:Nat) (x:El t),(Ty.cast h B.x:List (El t))[j]? =some x->bg X t x ((cs.toList.drop (j*t.cells)).take t.cells):=by
 have hb:=qJ hB
 obtain⟨r,h1,h2,h3⟩:=hr.boxes id B hb
 refine⟨hb,r,h1,h2,?_⟩
 obtain⟨bt,bx,bo⟩:=B
 have e:=Ty.aI h
 simp only at e
 subst e
 obtain⟨cs,T,g1,g2,g3⟩:=h3
 exact⟨cs,T,g1,g2,g3⟩
theorem ady(hE:al P E)(hr:Rel X s a){S T:TypeId}{x:Operand}(ho:o.op= .convert S T x){id n:Nat}{ta tb:Ty}(dE:s.aG x= .ptr id (.aJ (.iP n) ta tb) [])(h:j9 E S T s id n ta tb some=some u):aH P X s a o u:=by
 have hx:=hr.aG x
 rw[dE] at hx
 obtain⟨r0,hβ,cap,hv,m7⟩:=hx
 unfold j9 at h
 split at h
 case h_2=>cases h
 rename_i e hS hT
 split at h
 case isFalse=>cases h
 rename_i heq
 have:=Ty.aI heq
 subst this
 split at h
 case h_2=>cases h
 rename_i B hB
 split at h
 case isFalse=>cases h
 rename_i dn
 obtain⟨hb,r,h1,h2,cs,T',aE,dm,fO⟩:=FV hr hB dn
 rw[hβ] at h1
 cases h1
 generalize(Ty.cast dn B.x:List Int)=xs at*
 cases hn:Nat.beq n (List.length xs) with
 |false=>rw[hn] at h;cases h
 |true=>
  rw[hn] at h
  cases h
  have hn:=Nat.eq_of_beq_eq_true hn
  subst hn
  have hu:=(hE.ty S _ hS).dw
  have he:=(hE.ty e _ hu.2).dw
  have hT:=(hE.ty T _ hT).dw
  refine aH.plain hr (v:= .string (strOf xs)) ?_ Bv (fun _ _ _ e'=>by cases e')
  have key:(convert S T (.slice (some ⟨r0,0,none⟩) (List.length xs) cap)).run P X.w= .ok (.string (strOf xs)) X.w:=by
   rw[run_convert_bytes_string X.w S T e _ _ cap hu.1 he hT]
   have kd:(loadCells ⟨r0,0,none⟩ (List.length xs)).run P X.w= .ok (List.map (Value.int .u8) xs).toArray X.w:=by
    have:=run_loadCells_list (P:=P) X.w ⟨r0,0,none⟩ (List.map (Value.int .u8) xs) (fun j v hj=>by
     obtain⟨y,hy,rfl⟩:=List.getElem?_map .. ▸hj|>Option.map_eq_some_iff.1
     have hc:(cs.toList.drop (j*1)).take 1=[.int .u8 y]:=fO j y hy
     have h0:=congrArg (fun l=>l[0]?) hc
     simp only[List.getElem?_take,List.getElem?_drop] at h0
     simp only[Nat.zero_lt_one,if_true,Nat.mul_one,Nat.add_zero,List.getElem?_cons_zero] at h0
     rw[iK,Nat.zero_add]
     simpa [World.cell?,aE] using h0)
    rw[List.length_map] at this
    exact this
   rw[run_bytesToString X.w _ _ cap xs kd,foldl_push_bytes]
   simp [strOf,ByteArray.empty,ByteArray.emptyWithCapacity]
   rfl
  simp only[execOp,ho,Sem.run_bind,hv,key,Result.andThen_ok,Sem.run_pure]
theorem agw(hE:al P E)(hr:Rel X s a){ops:List Oper}{S T:TypeId}{x:Operand}(ho:o.op= .convert S T x){C:FuncId->bV Out}(h:act E C ops o s some=some u):aH P X s a o u:=by
 unfold act at h
 simp only[ho] at h
 split at h
 ·rename_i id n ta tb dE
  exact ady hE hr ho dE h
 ·exact adz hE hr ho h
theorem FR(hr:Rel X s a){id:Nat}{ta tb:Ty}{R:Type}{K:El (.aJ .bN ta tb)->List (List Nat)->Option R}{z:R}(h:nP s id ta tb K=some z):
 ∃(x:El (.aJ .bN ta tb)) (own:List (List Nat)) (r:Nat),s.bs[id]? =some (some ⟨.aJ .bN ta tb,x,own⟩)/\K x own=some z/\(∀p∈kW,p∈own)/\X.β id=some r/\X.ow r= .box id/\ia X r (.b id) ta tb x:=by
 unfold nP at h
 split at h
 case h_2=>cases h
 rename_i B hB
 split at h
 case isFalse=>cases h
 rename_i dn
 have hb:=qJ hB
 obtain⟨bt,bx,bo⟩:=B
 have e:=Ty.aI dn
 simp only at e
 subst e
 cases ho:kW.all (gK bo) with
 |false=>simp only[ho] at h;cases h
 |true=>
  simp only[ho,cond_true] at h
  have bS:∀p∈kW,p∈bo:=fun p hp=>by
   have:=List.all_eq_true.1 ho p hp
   unfold gK at this
   obtain⟨q,h1,h2⟩:=List.any_eq_true.1 this
   have:q=p:=by simpa using h2
   rw[<-this];exact h1
  obtain⟨r,h1,h2,h3⟩:=hr.boxes id _ hb
  exact⟨bx,bo,r,hb,h,bS,h1,h2,h3.2 bS⟩
theorem zqw{w:World}{r k:Nat}{l:List Value}{T:TypeId}{v:Value}(h:w.heap[r]? =some (.cells l.toArray T (0,0)))(hv:l[k]? =some v):w.cell? ⟨r,k,none⟩=some v:=by
 simp only[World.cell?,h]
 simpa using hv
theorem Rel.CX(hr:Rel X s a){d:Option Nat}{id j:Nat}{ta tb:Ty}{x:El (.aJ .bN ta tb)}{own:List (List Nat)}{v:Value}(hb:s.bs[id]? =some (some ⟨.aJ .bN ta tb,x,own⟩))(ho: []∉own)
 (nJ:∀(i:Nat) (l:List SV) a b j,s.sl[i]? =some l->SV.bz id a b j∈l->False) (hv:∀pl,az X pl (.bz id ta tb j) v):Rel X (s.au d [.bz id ta tb j]) (a.put d v):=by
 cases d with
 |none=>exact hr
 |some d=>
  have ew:∀(i:Nat) (l:List SV),(s.au (some d) [.bz id ta tb j]).sl[i]? =some l->(i=d/\l=[.bz id ta tb j])\/(i≠d/\s.sl[i]? =some l):=fun i l hi=>by
   simp only[State.au,List.getElem?_set] at hi
   by_cases e:d=i
   ·rw[if_pos e] at hi
    split at hi
    ·cases hi;exact .inl ⟨e.symm,rfl⟩
    ·cases hi
   ·rw[if_neg e] at hi
    exact .inr ⟨fun h=>e h.symm,hi⟩
  refine⟨by simpa [State.au,Act.put] using hr.size,by simpa [State.au] using hr.gL,fun i l v' hi jh=> ?_,hr.boxes,fun i l bc t p hi hm=> ?_,hr.defers,fun i l bc a' b' j' hi hm=> ?_⟩
  ·simp only[Act.put,Array.getElem?_setIfInBounds] at jh
   rcases ew i l hi with⟨rfl,rfl⟩|⟨bJ,hi⟩
   ·rw[if_pos rfl] at jh
    split at jh
    ·cases jh;exact hv (.c i 0)
    ·cases jh
   ·rw[if_neg (fun e=>bJ e.symm)] at jh
    exact hr.bQ i l v' hi jh
  ·rcases ew i l hi with⟨rfl,rfl⟩|⟨_,hi⟩
   ·simp at hm
   ·exact hr.live i l bc t p hi hm
  ·rcases ew i l hi with⟨rfl,rfl⟩|⟨bJ,oC⟩
   ·simp only[List.mem_singleton,SV.bz.injEq] at hm
    obtain⟨rfl,rfl,rfl,rfl⟩:=hm
    refine⟨rfl,⟨x,own,hb,ho⟩,fun i' l' a' b' j' xt sn=> ?_⟩
    rcases ew i' l' xt with⟨e1,_⟩|⟨_,ZL⟩
    ·exact e1
    ·exact(nJ i' l' a' b' j' ZL sn).elim
   ·obtain⟨g1,g2,g3⟩:=hr.bz i l bc a' b' j' oC hm
    refine⟨g1,g2,fun i' l' a'' b'' j'' xt sn=> ?_⟩
    rcases ew i' l' xt with⟨_,e2⟩|⟨_,ZL⟩
    ·rw[e2] at sn
     simp only[List.mem_singleton,SV.bz.injEq] at sn
     obtain⟨e3,_,_,_⟩:=sn
     rw[e3] at hm
     exact(nJ i l a' b' j' oC hm).elim
    ·exact g3 i' l' a'' b'' j'' ZL sn
theorem adD(hE:al P E)(hr:Rel X s a){T:TypeId}{x:Operand}(ho:o.op= .load T x)(h:ko E T s (s.aG x) some=some u):aH P X s a o u:=by
 have hx:=hr.aG x
 unfold ko at h
 split at h
 case h_2=>cases h
 rename_i id ta tb j dE
 rw[dE] at hx
 obtain⟨r0,hβ,hv,hj⟩:=hx
 have hv:a.eval x= .pointer (some ⟨r0,ta.cells+j,none⟩):=hv
 have hj:j<2:=hj
 split at h
 case isFalse=>cases h
 rename_i lq
 obtain⟨e,hu⟩:=hE.pt T lq
 obtain⟨x0,own,r,hb,h,bS,h1,how,c,p0,p1,T',aE,aL,sr,qw⟩:=FR hr h
 rw[hβ] at h1
 cases h1
 cases gX:gK own [] with
 |false=>rw[gX] at h;cases h
 |true=>
 rw[gX,cond_true] at h
 cases h
 have gX:=Bl gX
 obtain⟨v,dO⟩:∃v,(c++ [p0,p1,Value.int .i64 x0.2.2])[ta.cells+j]? =some v:=by
  rw[List.getElem?_append_right (by rw[aL.len];omega),aL.len,Nat.add_sub_cancel_left]
  match j,hj with
  |0,_=>exact⟨_,rfl⟩
  |1,_=>exact⟨_,rfl⟩
 have hc:=zqw aE dO
 have aW:(execOp a.eval o).run P X.w= .ok (.value v) X.w:=by
  have hl:(loadVar T ⟨r0,ta.cells+j,none⟩).run P X.w= .ok v X.w:=by
   unfold loadVar
   have hag:(isAgg T).run P X.w= .ok false X.w:=by simp [isAgg,run_underlying hu]
   simp only[Sem.run_bind,hag,Result.andThen_ok,Bool.false_eq_true,if_false,run_load,hc]
  simp only[execOp,ho,Sem.run_bind,Instr.loadAt,hv,Instr.sureAddr,Sem.run_pure,Result.andThen_ok,hl]
 have hg:ia X r0 (.b id) ta tb x0:=⟨c,p0,p1,T',aE,aL,sr,qw⟩
 have iw:=hr.bz.none (d:=id) fun a' b' x' jE h=>by rw[hb] at h;cases h;exact gX
 have eR:=hr.ml (B':=⟨.aJ .bN ta tb,x0,own.filter fun q=> !q.isEmpty⟩) hb hβ ⟨how,⟨_,aE⟩,fun _=>hg⟩ (.inr gX)
 refine⟨X,v,.inl aW,Ext.refl X,eR.CX (SZ hb) (fun hm=> ?_) iw fun pl=>⟨r0,hβ,how,hc⟩⟩
 have:=(List.mem_filter.1 hm).2
 simp at this
theorem ach(hE:al P E)(hr:Rel X s a){T:TypeId}{u':Ty}{x:Operand}(ho:o.op= .load T x)(hT:E.ty T=some u'){id:Nat}{t:Ty}{p:List Nat}(dE:s.aG x= .ptr id t p)(h:FT u' s id t p some=some u):aH P X s a o u:=by
 have hx:=hr.aG x
 rw[dE] at hx
 obtain⟨r0,hβ,hv⟩:=hx
 unfold FT at h
 split at h
 case h_4=>cases h
 case h_2=>
  rename_i ta tb
  split at h
  case isFalse=>cases h
  rename_i heq
  have:=Ty.aI heq
  subst this
  obtain⟨x0,own,r,hb,h,_,h1,h2,c,p0,p1,T',aE,aL,_⟩:=FR hr h
  rw[hβ] at h1
  cases h1
  cases h
  have hv:a.eval x= .pointer (some ⟨r0,0,none⟩):=by
   have:=hv.1
   rw[this];simp [m3,Ty.off]
  refine aH.plain hr ?_ (BF aL) (fun _ _ _ e'=>by cases e')
  have hl:=Bj hE hT aL (ad:=⟨r0,0,none⟩) (w:=X.w) (fun j v hj=>by
   rw[iK,Nat.zero_add]
   refine zqw aE ?_
   rw[List.getElem?_append_left ((List.getElem?_eq_some_iff.1 hj).1)];exact hj)
  simp only[execOp,ho,Sem.run_bind,Instr.loadAt,hv,Instr.sureAddr,Sem.run_pure,Result.andThen_ok,hl]
 case h_3=>
  rename_i ta tb
  split at h
  case isFalse=>cases h
  rename_i heq
  have:=Ty.aI heq
  subst this
  obtain⟨x0,own,r,hb,h,_,h1,h2,c,p0,p1,T',aE,aL,_⟩:=FR hr h
  rw[hβ] at h1
  cases h1
  cases h
  have hv:a.eval x= .pointer (some ⟨r0,ta.cells+2,none⟩):=hv.1
  have hl:=Bj (P:=P) hE hT (X:=X) (x:=x0.2.2) (cs:=[.int .i64 x0.2.2]) rfl (ad:=⟨r0,ta.cells+2,none⟩) (w:=X.w) (fun j v hj=>by
   cases j with
   |succ j=>simp at hj
   |zero=>
    rw[iK,Nat.add_zero]
    refine zqw aE ?_
    rw[List.getElem?_append_right (by rw[aL.len];omega),aL.len,Nat.add_sub_cancel_left]
    exact hj)
  refine aH.plain hr (v:=dR (.int .i64) [.int .i64 x0.2.2]) ?_ jr (fun _ _ _ e'=>by cases e')
  simp only[execOp,ho,Sem.run_bind,Instr.loadAt,hv,Instr.sureAddr,Sem.run_pure,Result.andThen_ok,hl]
 rename_i ta tb i
 split at h
 case h_2=>cases h
 rename_i B hB
 split at h
 case isFalse=>cases h
 rename_i dn
 split at h
 case isFalse=>cases h
 rename_i heq
 have:=Ty.aI heq
 subst this
 obtain⟨hb,r,h1,h2,cs,T',aE,dm,fO⟩:=FV hr hB dn
 rw[hβ] at h1
 cases h1
 generalize(Ty.cast dn B.x:List (El u'))=xs at*
 cases hn:Nat.ble (i+1) (List.length xs) with
 |false=>rw[hn] at h;cases h
 |true=>
  rw[hn] at h
  cases h
  have aq:i<List.length xs:=Nat.le_of_ble_eq_true hn
  have aL:=fO i _ (getD_some (El.bT u') aq)
  have hv:a.eval x= .pointer (some ⟨r0,i*u'.cells,none⟩):=hv
  refine aH.plain hr ?_ (BF aL) (fun _ _ _ e'=>by cases e')
  have hl:=Bj hE hT aL (ad:=⟨r0,i*u'.cells,none⟩) (w:=X.w) (fun j v hj=>Tz aE hj)
  simp only[execOp,ho,Sem.run_bind,Instr.loadAt,hv,Instr.sureAddr,Sem.run_pure,Result.andThen_ok,hl]
theorem acg(hE:al P E)(hr:Rel X s a){T:TypeId}{u':Ty}{x:Operand}(ho:o.op= .load T x)(hT:E.ty T=some u'){id:Nat}{t:Ty}{p:List Nat}(dE:s.aG x= .ptr id t p){B:bC}(hB:s.box id=some B)(h:Hy u' B t p some=some u):aH P X s a o u:=by
 have hx:=hr.aG x
 rw[dE] at hx
 obtain⟨r0,hβ,hv⟩:=hx
 unfold Hy at h
 split at h
 case h_2=>cases h
 rename_i n e
 split at h
 case isFalse=>cases h
 rename_i dn
 split at h
 case isFalse=>cases h
 rename_i heq
 have:=Ty.aI heq
 subst this
 obtain⟨hb,r,h1,h2,cs,T',aE,dm,fO⟩:=FV hr hB dn
 rw[hβ] at h1
 cases h1
 generalize(Ty.cast dn B.x:List (El e))=xs at*
 cases hn:Nat.beq n (List.length xs) with
 |false=>rw[hn] at h;cases h
 |true=>
  rw[hn] at h
  cases h
  have hn:=Nat.eq_of_beq_eq_true hn
  have aL:bg X (.arr n e) xs cs.toList:=⟨hn.symm,by rw[hn];simpa using dm,fO⟩
  have hv:=((qH rfl).1 hv).1
  have hv:a.eval x= .pointer (some ⟨r0,0,none⟩):=by rw[hv];rfl
  refine aH.plain hr ?_ (BF aL) (fun _ _ _ e'=>by cases e')
  have hl:=Bj hE hT aL (ad:=⟨r0,0,none⟩) (w:=X.w) (fun j v hj=>Tz (off:=0) (k:=cs.toList.length) aE (by rw[List.drop_zero,List.take_length];exact hj))
  simp only[execOp,ho,Sem.run_bind,Instr.loadAt,hv,Instr.sureAddr,Sem.run_pure,Result.andThen_ok,hl]
theorem agz(hE:al P E)(hr:Rel X s a){ops:List Oper}{T:TypeId}{x:Operand}(ho:o.op= .load T x){C:FuncId->bV Out}(h:act E C ops o s some=some u):aH P X s a o u:=by
 unfold act at h
 simp only[ho] at h
 have hx:=hr.aG x
 unfold load at h
 split at h
 case h_2=>exact adD hE hr ho h
 rename_i u' hT
 split at h
 ·rename_i t y e
  rw[e] at hx
  obtain⟨ad,cs,hv,mB,aL,ej⟩:=hx
  split at h
  case isFalse=>cases h
  rename_i heq
  have:=Ty.aI heq
  subst this
  cases h
  refine aH.plain hr ?_ (BF aL) (fun _ _ _ e'=>by cases e')
  have hl:=Bj hE hT aL (ad:=ad) (w:=X.w) (fun i v hi=>(ej i v hi).2.1)
  simp only[execOp,ho,Sem.run_bind,Instr.loadAt,hv,Instr.sureAddr,Sem.run_pure,Result.andThen_ok,hl]
 ·rename_i id t p e
  rw[e] at hx
  obtain⟨r,hβ,hx⟩:=hx
  split at h
  ·exact ach hE hr ho hT e h
  rename_i eh
  have eh:t.bG=false:=by simpa using eh
  obtain⟨hv,dp⟩:=(qH eh).1 hx
  split at h
  case h_2=>cases h
  rename_i B hB
  split at h
  case isFalse=>exact acg hE hr ho hT e hB h
  rename_i heq
  have dn:=Ty.aI heq
  split at h
  case h_2=>cases h
  rename_i ut y cu
  split at h
  case isFalse=>cases h
  rename_i Cp
  have:=Ty.aI Cp
  subst this
  have hb:=qJ hB
  obtain⟨r',hβ',ua⟩:=hr.boxes id B hb
  rw[hβ] at hβ'
  cases hβ'
  subst dn
  obtain⟨cs,T',aE,aL,how,bS⟩:=ua.cells eh
  obtain⟨k1,k2,k3⟩:=Rm aL dp cu
  have hl:=Bj hE hT k3 (ad:=⟨r,B.t.off p,none⟩) (w:=X.w) (fun i v hi=>Tz aE hi)
  have aW:(execOp a.eval o).run P X.w= .ok (.value (dR u' ((cs.toList.drop (B.t.off p)).take u'.cells))) X.w:=by
   simp only[execOp,ho,Sem.run_bind,Instr.loadAt,hv,Instr.sureAddr,Sem.run_pure,Result.andThen_ok,hl]
  cases hc:YU ops o.dst||AZ E ops o.dst||PC ops o.dst with
  |false=>
   rw[hc] at h
   cases h
   exact aH.plain hr aW (BF k3) (fun _ _ _ e'=>by cases e')
  |true=>
   rw[hc] at h
   cases h
   have eR:Rel X (s.aC (some (id,{B with own:=yg B.own p}))) a:=hr.ml hb hβ ⟨how,dz.of eh aE aL fun q hq=>bS q (zb1 hq).1⟩ (.inl (Rp eh))
   have GI:∀q,¬cX (s.aC (some (id,{B with own:=yg B.own p}))) (.b id (p++q)):=by
    rintro q ⟨B2,cW,hp⟩
    rw[SZ hb] at cW
    cases cW
    have:=(zb1 hp).2
    rw[List.isPrefixOf_iff_prefix.2 (List.prefix_append p q)] at this
    cases this
   have mz:=zwh (X:=X) (q:= .c (o.dst.getD 0) 0) GI
   refine⟨X.gP id p (.c (o.dst.getD 0) 0),_,.inl aW,mz.ext,(eR.mod mz.mod).fin ⟨_,k3.ai (fun _ _=>mz.ay.1),rfl,?_⟩ (fun id t p hm=>by simp at hm)⟩
   intro q hq
   obtain⟨q0,hq0,rfl⟩:=List.mem_map.1 hq
   obtain⟨hq1,Z8⟩:=List.mem_filter.1 hq0
   obtain⟨q,rfl⟩:=List.isPrefixOf_iff_prefix.1 Z8
   rw[List.drop_left]
   obtain⟨e',t',xs,v,h0,h1,h2,h3⟩:=bS _ hq1
   obtain⟨j1,j2⟩:=adK cu h0 h1
   have hle:=aoJ j1 (RU _ _ _ _ _ j2)
   refine⟨e',t',xs,v,j1,j2,?_,h3.qE⟩
   rw[GZ _ _ _ _ k1] at h2
   rw[List.getElem?_take,if_pos hle,List.getElem?_drop]
   exact h2
 ·cases h
theorem zj2{cs c:List Value}{off:Nat}(h:off+c.length<=cs.length)(j k:Nat):(∀h1:j+k<=off\/off+c.length<=j,((cs.take off++c++cs.drop (off+c.length)).drop j).take k=(cs.drop j).take k):=by
 intro h1
 apply List.ext_getElem?
 intro q
 simp only[List.getElem?_take,List.getElem?_drop]
 split
 ·rename_i hq
  rw[List.append_assoc]
  rcases h1 with h1|h1
  ·rw[List.getElem?_append_left (by rw[List.length_take];omega),List.getElem?_take,if_pos (by omega)]
  ·rw[List.getElem?_append_right (by rw[List.length_take];omega),List.length_take,Nat.min_eq_left (by omega),List.getElem?_append_right (by omega),List.getElem?_drop]
   congr 1
   omega
 ·rfl
theorem fy{X:aw}:∀{t:Ty} {p:List Nat} {x:El t} {cs:List Value} {u:Ty} {y:El u} {z:El t} {c:List Value},bg X t x cs->t.eK p->t.at_ p=some u->El.set t p x u y=some z->bg X u y c->
 bg X t z (cs.take (t.off p)++c++cs.drop (t.off p+c.length)):=by
 intro t
 induction t with
 |arr n t ih=>
  intro p x cs u y z c hr hp ci h hc
  have fq:=hc.len
  cases p with
  |nil=>
   simp only[Ty.at_,Option.some.injEq] at ci
   subst ci
   simp only[El.set,Ty.cj,dite_true,Option.some.injEq] at h
   subst h
   have hl:=hr.len
   simp only[Ty.off,Nat.zero_add,List.take_zero,List.nil_append]
   rw[fq,<-hl,List.drop_length,List.append_nil]
   exact hc
  |cons i p=>
   obtain⟨hi,hp⟩:=hp
   obtain⟨h1,h2,h3⟩:=hr
   simp only[El.set] at h
   obtain⟨z',ni,rfl⟩:=Option.map_eq_some_iff.1 h
   have m5:t.at_ p=some u:=ci
   have hle:=eX t p u m5 hp
   have hn:(i+1)*t.cells<=n*t.cells:=Nat.mul_le_mul_right _ hi
   rw[Nat.add_mul,Nat.one_mul] at hn
   have xt:=ih (h3 i _ (getD_some (El.bT t) (by omega))) hp m5 ni hc
   have di:i*t.cells+t.off p+c.length<=cs.length:=by rw[fq,h2];omega
   refine⟨by simpa using h1,?_,fun j w hj=> ?_⟩
   ·simp only[Ty.off,List.length_append,List.length_take,List.length_drop];omega
   ·simp only[Ty.off]
    by_cases e:j=i
    ·subst e
     rw[List.getElem?_set_self (by omega)] at hj
     cases hj
     have hL:((cs.take (j*t.cells+t.off p)++c++cs.drop (j*t.cells+t.off p+c.length)).drop (j*t.cells)).take t.cells=
      ((cs.drop (j*t.cells)).take t.cells).take (t.off p)++c++((cs.drop (j*t.cells)).take t.cells).drop (t.off p+c.length):=by
      apply List.ext_getElem?
      intro q
      rw[List.append_assoc,List.append_assoc]
      simp only[List.getElem?_take,List.getElem?_drop,List.getElem?_append,List.length_take,List.length_drop]
      rw[Nat.min_eq_left (show j*t.cells+t.off p<=cs.length by omega),Nat.min_eq_left (show t.cells<=cs.length-j*t.cells by omega),Nat.min_eq_left (show t.off p<=t.cells by omega)]
      by_cases q1:q<t.cells
      ·by_cases q2:q<t.off p
       ·rw[if_pos q1,if_pos (by omega),if_pos (by omega),if_pos q2,if_pos q2,if_pos q1]
       ·by_cases q3:q-t.off p<c.length
        ·rw[if_pos q1,if_neg (by omega),if_pos (by omega),if_neg q2,if_pos q3]
         congr 1
         omega
        ·rw[if_pos q1,if_neg (by omega),if_neg (by omega),if_neg q2,if_neg q3,if_pos (by omega)]
         congr 1
         omega
      ·rw[if_neg q1,if_neg (by omega),if_neg (by omega),if_neg (by omega)]
     rw[hL]
     exact xt
    ·rw[List.getElem?_set_ne (Ne.symm e)] at hj
     have ui:=(List.getElem?_eq_some_iff.1 hj).1
     rw[zj2 di (j*t.cells) t.cells ?_]
     ·exact h3 j w hj
     ·rcases Nat.lt_or_gt_of_ne e with aq|hgt
      ·have:(j+1)*t.cells<=i*t.cells:=Nat.mul_le_mul_right _ aq
       rw[Nat.add_mul,Nat.one_mul] at this
       exact .inl (by omega)
      ·have:(i+1)*t.cells<=j*t.cells:=Nat.mul_le_mul_right _ hgt
       rw[Nat.add_mul,Nat.one_mul] at this
       exact .inr (by omega)
 |pair ta tb me mf=>
  intro p x cs u y z c hr hp ci h hc
  have fq:=hc.len
  cases p with
  |nil=>
   simp only[Ty.at_,Option.some.injEq] at ci
   subst ci
   simp only[El.set,Ty.cj,dite_true,Option.some.injEq] at h
   subst h
   have hl:=hr.len
   simp only[Ty.off,Nat.zero_add,List.take_zero,List.nil_append]
   rw[fq,<-hl,List.drop_length,List.append_nil]
   exact hc
  |cons i p=>
   obtain⟨c1,c2,rfl,r1,r2⟩:=hr
   have l1:=r1.len
   have l2:=r2.len
   cases i with
   |zero=>
    simp only[El.set] at h
    obtain⟨z',ni,rfl⟩:=Option.map_eq_some_iff.1 h
    have m5:ta.at_ p=some u:=ci
    have hle:=eX ta p u m5 hp
    have:=me r1 hp m5 ni hc
    refine⟨_,c2,?_,this,r2⟩
    simp only[Ty.off]
    rw[List.take_append_of_le_length (by omega),List.drop_append_of_le_length (by omega)]
    simp [List.append_assoc]
   |succ i=>
    simp only[El.set] at h
    obtain⟨z',ni,rfl⟩:=Option.map_eq_some_iff.1 h
    have m5:tb.at_ (i::p)=some u:=ci
    have hle:=eX tb (i::p) u m5 hp
    have:=mf r2 hp m5 ni hc
    refine⟨c1,_,?_,r1,this⟩
    simp only[Ty.off]
    rw[<-l1,List.take_length_add_append,Nat.add_assoc,List.drop_length_add_append]
    simp [List.append_assoc]
 |_=>
  intro p x cs u y z c hr hp ci h hc
  have fq:=hc.len
  cases p with
  |nil=>
   simp only[Ty.at_,Option.some.injEq] at ci
   subst ci
   simp only[El.set,Ty.cj,dite_true,Option.some.injEq] at h
   first|subst h|skip
   have hl:=hr.len
   simp only[Ty.off,Nat.zero_add,List.take_zero,List.nil_append]
   rw[fq,<-hl,List.drop_length,List.append_nil]
   exact hc
  |cons i p=>simp [Ty.at_] at ci
end Go.Ref

namespace Go.Ref
open Go
variable {P:Program} {E:Env} {X:aw} {s:State} {a:Act} {o:Oper} {u:Out}
theorem abW:∀{t:Ty} {p q:List Nat} {x:El t} {u:Ty} {y:El u} {z:El t} {e:TypeId} {t':Ty} {xs:El (.sl e t')},El.set t p x u y=some z->t.at_ p=some u->t.eK p->t.eK q->p.isPrefixOf q=false->El.get t q x=some ⟨.sl e t',xs⟩->
 El.get t q z=some ⟨.sl e t',xs⟩/\(t.off q+1<=t.off p\/t.off p+u.cells<=t.off q):=by
 intro t
 induction t with
 |arr n t ih=>
  intro p q x u y z e t' xs hs ci hp hq gj hg
  cases p with
  |nil=>simp at gj
  |cons i p=>
   cases q with
   |nil=>simp [El.get] at hg
   |cons j q=>
    simp only[El.set] at hs
    obtain⟨z',ni,rfl⟩:=Option.map_eq_some_iff.1 hs
    by_cases Zk:i=j
    ·subst Zk
     have nb:p.isPrefixOf q=false:=by simpa [List.isPrefixOf] using gj
     obtain⟨h1,h2⟩:=ih ni ci hp.2 hq.2 nb hg
     refine⟨?_,by simp only[Ty.off];omega⟩
     simp only[El.get]
     by_cases hl:i<List.length x
     ·rw[List.getD_eq_getElem?_getD,List.getElem?_set_self hl]
      exact h1
     ·have fu:List.set x i z'=x:=by rw[List.set_eq_of_length_le (Nat.le_of_not_lt hl)]
      rw[fu];exact hg
    ·refine⟨?_,?_⟩
     ·simp only[El.get] at hg⊢
      rw[List.getD_eq_getElem?_getD,List.getElem?_set_ne Zk,<-List.getD_eq_getElem?_getD]
      exact hg
     ·have a1:=eX t p u ci hp.2
      have a2:t.off q+1<=t.cells:=by
       have:=eX t q _ (RU t q _ _ _ hg) hq.2
       simpa [Ty.cells] using this
      simp only[Ty.off]
      rcases Nat.lt_or_gt_of_ne Zk with h|h
      ·have:(i+1)*t.cells<=j*t.cells:=Nat.mul_le_mul_right _ h
       rw[Nat.add_mul,Nat.one_mul] at this
       omega
      ·have:(j+1)*t.cells<=i*t.cells:=Nat.mul_le_mul_right _ h
       rw[Nat.add_mul,Nat.one_mul] at this
       omega
 |pair ta tb me mf=>
  intro p q x u y z e t' xs hs ci hp hq gj hg
  cases p with
  |nil=>simp at gj
  |cons i p=>
   cases q with
   |nil=>simp [El.get] at hg
   |cons j q=>
    cases i with
    |zero=>
     simp only[El.set] at hs
     obtain⟨z',ni,rfl⟩:=Option.map_eq_some_iff.1 hs
     cases j with
     |zero=>
      have nb:p.isPrefixOf q=false:=by simpa [List.isPrefixOf] using gj
      obtain⟨h1,h2⟩:=me ni ci hp hq nb hg
      exact⟨h1,by simp only[Ty.off];omega⟩
     |succ j=>
      have a1:=eX ta p u ci hp
      exact⟨hg,by simp only[Ty.off];omega⟩
    |succ i=>
     simp only[El.set] at hs
     obtain⟨z',ni,rfl⟩:=Option.map_eq_some_iff.1 hs
     cases j with
     |zero=>
      have a2:ta.off q+1<=ta.cells:=by
       have:=eX ta q _ (RU ta q _ _ _ hg) hq
       simpa [Ty.cells] using this
      exact⟨hg,by simp only[Ty.off];omega⟩
     |succ j=>
      have nb:(i::p).isPrefixOf (j::q)=false:=by
       simp [List.isPrefixOf] at gj⊢
       exact gj
      obtain⟨h1,h2⟩:=mf ni ci hp hq nb hg
      exact⟨h1,by simp only[Ty.off];omega⟩
 |_=>
  intro p q x u y z e t' xs hs ci hp hq gj hg
  cases p with
  |nil=>simp at gj
  |cons i p=>simp [Ty.at_] at ci
def aw.row(X:aw)(r:Nat)(cs:Array Value):aw:={X with w:=X.w.setRow r cs}
theorem mE{r id:Nat}{cs:Array Value}(h:X.ow r= .box id){ad:Addr}{v:Value}(hs:X.ay ad v):(X.row r cs).ay ad v:=by
 have bJ:ad.block≠r:=fun e=>by
  have:=hs.2.2
  rw[e,h] at this
  exact this
 refine⟨hs.1,?_,hs.2.2⟩
 have:=hs.2.1
 simp only[World.cell?,aw.row] at this⊢
 rw[setRow_other X.w r ad.block cs bJ]
 exact this
theorem FW{r id:Nat}{cs:Array Value}(h:X.ow r= .box id):Ext X (X.row r cs) where
 ay:=fun _ _=>mE h
 size:=by simp [aw.row]
 os:=rfl
 tape:=rfl
 output:=rfl
 β0:=rfl
 still:=fun g _ bP=>by
  have bJ:g≠r:=fun e=>by rw[e,h] at bP;exact bP
  exact⟨rfl,setRow_other X.w r g cs bJ⟩
theorem bp.row{r id:Nat}{cs:Array Value}(h:X.ow r= .box id){pl:Place}{e:TypeId}{k n:Nat}{v:Value}(ho:bp X pl e k n v):bp (X.row r cs) pl e k n v:=by
 rcases ho with ho|⟨g,cap,cur,h1,h2,h3,h4,h5,h6⟩
 ·exact .inl ho
 ·have bJ:g≠r:=fun e=>by rw[e,h] at h6;cases h6
  exact .inr ⟨g,cap,cur,h1,(setRow_other X.w r g cs bJ).trans h2,h3,h4,h5,h6⟩
theorem bn.row{r id:Nat}{cs:Array Value}(h:X.ow r= .box id){pl:List Nat->Place}{t:Ty}{x:El t}{c:List Value}{own:List (List Nat)}(ho:bn X pl t x c own):bn (X.row r cs) pl t x c own:=fun p hp=>by
 obtain⟨e,t',xs,v,g0,g1,g2,g3⟩:=ho p hp
 exact⟨e,t',xs,v,g0,g1,g2,g3.row h⟩
theorem az.row{r id:Nat}{cs:Array Value}(h:X.ow r= .box id){pl:List Nat->Place}{sv:SV}{v:Value}(hk:∀bc a b j,sv= .bz bc a b j->bc≠id)(hr:az X pl sv v):az (X.row r cs) pl sv v:=by
 cases sv with
 |undef=>trivial
 |skip=>exact hr
 |cF=>exact hr
 |dT=>exact hr
 |over=>exact hr
 |aj t x own=>
  obtain⟨c,h1,h2,h3⟩:=hr
  exact⟨c,h1.ai (fun _ _=>mE h),h2,h3.row h⟩
 |ptr id t p=>exact hr
 |view t x=>
  obtain⟨ad,c,h1,h2,h3,h4⟩:=hr
  exact⟨ad,c,h1,h2,h3.ai (fun _ _=>mE h),fun i u hi=>mE h (h4 i u hi)⟩
 |cap f t x u y=>exact rV (fun _ _=>mE h) hr
 |bz bc a b j=>
  obtain⟨r',h1,h2,h3⟩:=hr
  have bJ:r'≠r:=fun e=>by rw[e,h] at h2;injection h2 with h2;exact hk bc a b j rfl h2.symm
  refine⟨r',h1,h2,?_⟩
  simp only[World.cell?] at h3⊢
  rw[show(X.row r cs).w.heap[r']? =X.w.heap[r']? from setRow_other X.w r r' cs bJ];exact h3
theorem Rel.row{r id:Nat}{B B':bC}{cs:Array Value}(hr:Rel X s a)(hb:s.bs[id]? =some (some B))(hβ:X.β id=some r)(h:X.ow r= .box id)(hB:bD (X.row r cs) id r B')(hg:B.t.eL=false\/ []∈B.own):Rel (X.row r cs) (s.aC (some (id,B'))) a where
 size:=hr.size
 gL:=by simpa [State.aC] using hr.gL
 bQ:=fun i l v hl hv=>(hr.bQ i l v hl hv).iS fun j sv u hm jL=>jL.row h (fun bc a b k e e2=>hr.oM hb hg i l a b k hl (e2▸e▸List.mem_of_getElem? hm))
 boxes:=fun bc B2 cW=>by
  have aq:id<s.bs.length:=(List.getElem?_eq_some_iff.1 hb).1
  simp only[State.aC,List.getElem?_set] at cW
  by_cases e:id=bc
  ·subst e
   rw[if_pos rfl,if_pos aq] at cW
   cases cW;exact⟨r,hβ,hB⟩
  ·rw[if_neg e] at cW
   obtain⟨r',h1,h4,h2⟩:=hr.boxes bc B2 cW
   have bJ:r'≠r:=fun e2=>by rw[e2,h] at h4;cases h4;exact e rfl
   exact⟨r',h1,h4,h2.move (fun _ _=>mE h) (setRow_other X.w r r' cs bJ) (fun cs h5=>h5.row h) fun _ _ g o _ ho hw=>⟨(setRow_other X.w r g cs (fun e3=>by rw[e3,h] at hw;cases hw)).trans ho,hw⟩⟩
 live:=fun i l bc t p hi hm=>by
  have aq:id<s.bs.length:=(List.getElem?_eq_some_iff.1 hb).1
  obtain⟨B2,cW⟩:=hr.live i l bc t p hi hm
  simp only[State.aC,List.getElem?_set]
  by_cases e:id=bc
  ·subst e;exact⟨B',by rw[if_pos rfl,if_pos aq]⟩
  ·rw[if_neg e];exact⟨B2,cW⟩
 defers:=hr.defers
 bz:=hr.bz.aC (hr.oM hb hg)
theorem GR(hE:al P E){T:TypeId}{t:Ty}(ht:E.ty T=some t){x:El t}{cs:List Value}(hr:bg X t x cs){r off:Nat}{cur:Array Value}{T':TypeId}{w:World}(hg:w.heap[r]? =some (.cells cur T' (0,0)))(hf:off+t.cells<=cur.size):
 (storeVar T ⟨r,off,none⟩ (dR t cs)).run P w= .ok () (w.setRow r (cur.toList.take off++cs++cur.toList.drop (off+cs.length)).toArray):=by
 have hl:=hr.len
 have bP:=run_storeCells_at P r off T' cs 0 cur w hg (by omega) hr.one
 simp only[Nat.add_zero] at bP
 unfold storeVar
 simp only[Sem.run_bind,lJ hE ht,Result.andThen_ok,vH hr]
 rw[if_neg (by simp [hl])]
 exact bP
theorem acP:∀{t:Ty} {p q:List Nat} {x:El t} {u:Ty} {y:El u} {z:El t} {r:(u:Ty)×El u} {X:aw} {cs:List Value},bg X t x cs->El.set t p x u y=some z->t.at_ p=some u->t.eK p->El.get u q y=some r->El.get t (p++q) z=some r:=by
 intro t
 induction t with
 |arr n t ih=>
  intro p q x u y z r X cs hr hs ci hp hg
  cases p with
  |nil=>
   simp only[Ty.at_,Option.some.injEq] at ci
   subst ci
   simp only[El.set,Ty.cj,dite_true,Option.some.injEq] at hs
   subst hs
   exact hg
  |cons i p=>
   simp only[El.set] at hs
   obtain⟨z',ni,rfl⟩:=Option.map_eq_some_iff.1 hs
   obtain⟨h1,h2,h3⟩:=hr
   have hi:i<List.length x:=by rw[h1];exact hp.1
   simp only[El.get,List.cons_append]
   rw[List.getD_eq_getElem?_getD,List.getElem?_set_self hi]
   exact ih (h3 i _ (getD_some _ hi)) ni ci hp.2 hg
 |pair ta tb me mf=>
  intro p q x u y z r X cs hr hs ci hp hg
  cases p with
  |nil=>
   simp only[Ty.at_,Option.some.injEq] at ci
   subst ci
   simp only[El.set,Ty.cj,dite_true,Option.some.injEq] at hs
   subst hs
   exact hg
  |cons i p=>
   obtain⟨c1,c2,_,r1,r2⟩:=hr
   cases i with
   |zero=>
    simp only[El.set] at hs
    obtain⟨z',ni,rfl⟩:=Option.map_eq_some_iff.1 hs
    exact me r1 ni ci hp hg
   |succ i=>
    simp only[El.set] at hs
    obtain⟨z',ni,rfl⟩:=Option.map_eq_some_iff.1 hs
    exact mf (p:=i::p) r2 ni ci hp hg
 |_=>
  intro p q x u y z r X cs hr hs ci hp hg
  cases p with
  |nil=>
   simp only[Ty.at_,Option.some.injEq] at ci
   subst ci
   simp only[El.set,Ty.cj,dite_true,Option.some.injEq] at hs
   first|subst hs|skip
   exact hg
  |cons i p=>simp [Ty.at_] at ci
theorem O1{t u:Ty}{p:List Nat}{x z:El t}{y:El u}{cs cv:List Value}{own oy:List (List Nat)}{pl:List Nat->Place}(hr:bg X t x cs)(dp:t.eK p)(ci:t.at_ p=some u)(fu:El.set t p x u y=some z)(rep:bg X u y cv)
 (ho:bn X pl t x cs own) (hy:bn X (fun q=>pl (p++q)) u y cv oy):bn X pl t z (cs.take (t.off p)++cv++cs.drop (t.off p+cv.length)) (oy.map (fun q=>p++q)++yg own p):=by
 have fq:=rep.len
 have hle:=eX t p u ci dp
 have eF:=hr.len
 intro q hq
 rcases List.mem_append.1 hq with hq|hq
 ·obtain⟨q,Z8,rfl⟩:=List.mem_map.1 hq
  obtain⟨e,t',xs,v,g0,g1,g2,g3⟩:=hy q Z8
  have aq:=(List.getElem?_eq_some_iff.1 g2).1
  refine⟨e,t',xs,v,PZ t p q u ci dp g0,acP hr fu ci dp g1,?_,g3⟩
  rw[GZ t p q u ci,List.append_assoc,List.getElem?_append_right (by rw[List.length_take];omega),List.length_take,Nat.min_eq_left (by omega),Nat.add_sub_cancel_left,List.getElem?_append_left aq]
  exact g2
 ·obtain⟨hqm,gj⟩:=zb1 hq
  obtain⟨e,t',xs,v,g0,g1,g2,g3⟩:=ho q hqm
  obtain⟨k1,k2⟩:=abW fu ci dp g0 gj g1
  refine⟨e,t',xs,v,g0,k1,?_,g3⟩
  have mB:=zj2 (cs:=cs) (c:=cv) (off:=t.off p) (by omega) (t.off q) 1 (by rw[fq];omega)
  have h0:=congrArg (fun l=>l[0]?) mB
  simp only[List.getElem?_take,List.getElem?_drop] at h0
  simp only[Nat.zero_lt_one,if_true,Nat.add_zero] at h0
  rw[h0];exact g2
theorem abV(hE:al P E)(hr:Rel X s a){T:TypeId}{u0:Ty}{x y:Operand}(ho:o.op= .store T x y)(hT:E.ty T=some u0){id:Nat}{t:Ty}{p:List Nat}(dE:s.aG x= .ptr id t p)(h:Fw u0 s id t p (s.aG y) some=some u):aH P X s a o u:=by
 have hx:=hr.aG x
 rw[dE] at hx
 obtain⟨r0,hβ,hv⟩:=hx
 unfold Fw at h
 split at h
 case h_4=>cases h
 case h_2=>
  rename_i ta tb q
  split at h
  case h_2=>cases h
  rename_i u' ci
  split at h
  case isFalse=>cases h
  rename_i heq
  have:=Ty.aI heq
  subst this
  obtain⟨x0,own,r,hb,h,bS,h1,how,c,p0,p1,T',aE,aL,sr,qw⟩:=FR hr h
  rw[hβ] at h1
  cases h1
  obtain⟨yv,h,hy⟩:=zz h
  split at h
  case h_2=>cases h
  rename_i z hz
  cases gX:gK own [] with
  |false=>rw[gX] at h;cases h
  |true=>
  rw[gX,cond_true] at h
  cases h
  have gX:=Bl gX
  obtain⟨cv,rep,ev⟩:=hy X _ _ (hr.aG y)
  have dp:ta.eK q:=hv.2
  have hv:a.eval x= .pointer (some ⟨r0,ta.off q,none⟩):=hv.1
  have fq:=aL.len
  have hle:=eX ta q u' ci dp
  have hvl:=rep.len
  have bP:=GR (P:=P) hE hT rep (off:=ta.off q) (w:=X.w) (r:=r0) (T':=T') aE (by simp;omega)
  have fE:(c++ [p0,p1,Value.int .i64 x0.2.2]).take (ta.off q)++cv++(c++ [p0,p1,Value.int .i64 x0.2.2]).drop (ta.off q+cv.length)=(c.take (ta.off q)++cv++c.drop (ta.off q+cv.length))++ [p0,p1,Value.int .i64 x0.2.2]:=by
   rw[List.take_append_of_le_length (by omega),List.drop_append_of_le_length (by omega)]
   simp only[List.append_assoc]
  have aW:(execOp a.eval o).run P X.w= .ok .skip ((X.row r0 ((c.take (ta.off q)++cv++c.drop (ta.off q+cv.length))++ [p0,p1,Value.int .i64 x0.2.2]).toArray).w):=by
   simp only[execOp,ho,Sem.run_bind,Instr.storeAt,hv,Instr.sureAddr,Sem.run_pure,Result.andThen_ok,ev,bP]
   have e2:(List.take (ta.off q) (c++ [p0,p1,Value.int .i64 x0.2.2]).toArray.toList++cv++List.drop (ta.off q+cv.length) (c++ [p0,p1,Value.int .i64 x0.2.2]).toArray.toList)=(c.take (ta.off q)++cv++c.drop (ta.off q+cv.length))++ [p0,p1,Value.int .i64 x0.2.2]:=fE
   rw[e2]
   rfl
  have bH:bD (X.row r0 ((c.take (ta.off q)++cv++c.drop (ta.off q+cv.length))++ [p0,p1,Value.int .i64 x0.2.2]).toArray) id r0 ⟨.aJ .bN ta tb,(z,x0.2),own⟩:=by
   have hg:∀p∈kW,∀g o k,X.w.heap[g]? =some o->X.ow g= .row (.b id p) k->(X.row r0 ((c.take (ta.off q)++cv++c.drop (ta.off q+cv.length))++ [p0,p1,Value.int .i64 x0.2.2]).toArray).w.heap[g]? =some o/\(X.row r0 ((c.take (ta.off q)++cv++c.drop (ta.off q+cv.length))++ [p0,p1,Value.int .i64 x0.2.2]).toArray).ow g= .row (.b id p) k:=fun p _ g o k hg hw=>by
    have bJ:g≠r0:=fun e=>by rw[e,how] at hw;cases hw
    exact⟨(setRow_other X.w r0 g _ bJ).trans hg,hw⟩
   refine⟨how,⟨_,setRow_heap X.w r0 _ _ T' (0,0) aE⟩,fun _=>⟨c.take (ta.off q)++cv++c.drop (ta.off q+cv.length),p0,p1,T',setRow_heap X.w r0 _ _ T' (0,0) aE,(fy aL dp ci hz rep).ai (fun _ _=>mE how),sr.move (fun _ _=>mE how) fun p hp=> ?_,qw.move (fun _ _=>mE how) fun p hp=> ?_⟩⟩
   ·rcases hp with rfl|rfl<;>exact hg _ (by simp [kW])
   ·rcases hp with rfl|rfl<;>exact hg _ (by simp [kW])
  exact⟨X.row r0 _,Go.undef,.inr ⟨aW,rfl⟩,FW how,(hr.row (cs:=_) hb hβ how bH (.inr gX)).skip o.dst⟩
 case h_3=>
  rename_i ta tb
  split at h
  case isFalse=>cases h
  rename_i heq
  have:=Ty.aI heq
  subst this
  obtain⟨x0,own,r,hb,h,bS,h1,how,c,p0,p1,T',aE,aL,sr,qw⟩:=FR hr h
  rw[hβ] at h1
  cases h1
  obtain⟨n,h,hy⟩:=zz h
  cases gX:gK own [] with
  |false=>rw[gX] at h;cases h
  |true=>
  rw[gX,cond_true] at h
  cases h
  have gX:=Bl gX
  obtain⟨cv,rep,ev⟩:=hy X _ _ (hr.aG y)
  have rep:cv=[.int .i64 n]:=rep
  subst rep
  have hv:a.eval x= .pointer (some ⟨r0,ta.cells+2,none⟩):=hv.1
  have fq:=aL.len
  have bP:=GR (P:=P) hE hT (X:=X) (x:=n) (cs:=[.int .i64 n]) rfl (off:=ta.cells+2) (w:=X.w) (r:=r0) (T':=T') aE (by simp [Ty.cells];omega)
  have fE:(c++ [p0,p1,Value.int .i64 x0.2.2]).take (ta.cells+2)++ [Value.int .i64 n]++(c++ [p0,p1,Value.int .i64 x0.2.2]).drop (ta.cells+2+1)=c++ [p0,p1,Value.int .i64 n]:=by
   rw[<-fq,List.take_append,List.drop_append]
   simp [List.take_of_length_le,List.drop_eq_nil_of_le]
   omega
  have aW:(execOp a.eval o).run P X.w= .ok .skip ((X.row r0 (c++ [p0,p1,Value.int .i64 n]).toArray).w):=by
   simp only[execOp,ho,Sem.run_bind,Instr.storeAt,hv,Instr.sureAddr,Sem.run_pure,Result.andThen_ok,ev,bP]
   have e2:(List.take (ta.cells+2) (c++ [p0,p1,Value.int .i64 x0.2.2]).toArray.toList++ [Value.int .i64 n]++List.drop (ta.cells+2+ [Value.int .i64 n].length) (c++ [p0,p1,Value.int .i64 x0.2.2]).toArray.toList)=c++ [p0,p1,Value.int .i64 n]:=fE
   rw[e2]
   rfl
  have bH:bD (X.row r0 (c++ [p0,p1,Value.int .i64 n]).toArray) id r0 ⟨.aJ .bN ta tb,(x0.1,x0.2.1,n),own⟩:=by
   have hm:ia X r0 (.b id) ta tb x0:=⟨c,p0,p1,T',aE,aL,sr,qw⟩
   have hg:∀p∈kW,∀g o k,X.w.heap[g]? =some o->X.ow g= .row (.b id p) k->(X.row r0 (c++ [p0,p1,Value.int .i64 n]).toArray).w.heap[g]? =some o/\(X.row r0 (c++ [p0,p1,Value.int .i64 n]).toArray).ow g= .row (.b id p) k:=fun p _ g o k hg hw=>by
    have bJ:g≠r0:=fun e=>by rw[e,how] at hw;cases hw
    exact⟨(setRow_other X.w r0 g _ bJ).trans hg,hw⟩
   refine⟨how,⟨_,setRow_heap X.w r0 _ _ T' (0,0) aE⟩,fun _=>⟨c,p0,p1,T',setRow_heap X.w r0 _ _ T' (0,0) aE,aL.ai (fun _ _=>mE how),sr.move (fun _ _=>mE how) fun p hp=> ?_,qw.move (fun _ _=>mE how) fun p hp=> ?_⟩⟩
   ·rcases hp with rfl|rfl<;>exact hg _ (by simp [kW])
   ·rcases hp with rfl|rfl<;>exact hg _ (by simp [kW])
  exact⟨X.row r0 _,Go.undef,.inr ⟨aW,rfl⟩,FW how,(hr.row (cs:=_) hb hβ how bH (.inr gX)).skip o.dst⟩
 rename_i ta tb i
 split at h
 case h_2=>cases h
 rename_i B hB
 split at h
 case isFalse=>cases h
 rename_i dn
 split at h
 case isFalse=>cases h
 rename_i heq
 have:=Ty.aI heq
 subst this
 obtain⟨hb,r,h1,how,cs,T',aE,dm,fO⟩:=FV hr hB dn
 rw[hβ] at h1
 cases h1
 obtain⟨yv,h,hy⟩:=zz h
 obtain⟨cv,rep,ev⟩:=hy X _ _ (hr.aG y)
 generalize(Ty.cast dn B.x:List (El ta))=xs at*
 cases hn:Nat.ble (i+1) (List.length xs) with
 |false=>rw[hn] at h;cases h
 |true=>
  rw[hn] at h
  cases h
  have aq:i<List.length xs:=Nat.le_of_ble_eq_true hn
  have hv:a.eval x= .pointer (some ⟨r0,i*ta.cells,none⟩):=hv
  have fq:=rep.len
  have hmul:(i+1)*ta.cells<=List.length xs*ta.cells:=Nat.mul_le_mul_right _ aq
  rw[Nat.add_mul,Nat.one_mul] at hmul
  have di:i*ta.cells+ta.cells<=cs.size:=by omega
  have ug:i*ta.cells+cv.length<=cs.toList.length:=by simp;omega
  let new:=(cs.toList.take (i*ta.cells)++cv++cs.toList.drop (i*ta.cells+cv.length)).toArray
  have gY:new.toList=cs.toList.take (i*ta.cells)++cv++cs.toList.drop (i*ta.cells+cv.length):=rfl
  have aW:(execOp a.eval o).run P X.w= .ok .skip ((X.row r0 new).w):=by
   have bP:=GR (P:=P) hE hT rep (off:=i*ta.cells) (w:=X.w) (r:=r0) (cur:=cs) (T':=T') aE di
   simp only[execOp,ho,Sem.run_bind,Instr.storeAt,hv,Instr.sureAddr,Sem.run_pure,Result.andThen_ok,ev,bP]
   rfl
  have b6:new.size=cs.size:=by
   have:new.toList.length=cs.toList.length:=by rw[gY];simp;omega
   simpa using this
  have bH:bD (X.row r0 new) id r0 ⟨.aJ .row ta tb,(List.set xs i yv:List (El ta)),[]⟩:=by
   refine⟨how,new,T',setRow_heap X.w r0 cs new T' (0,0) aE,?_,fun j z hj=> ?_⟩
   ·rw[b6,dm]
    show _=List.length (List.set xs i yv)*_
    rw[List.length_set]
   ·refine bg.ai (fun _ _=>mE (cs:=new) how) ?_
    have hj:(List.set xs i yv)[j]? =some z:=hj
    rw[gY]
    by_cases e:i=j
    ·subst e
     rw[List.getElem?_set_self aq] at hj
     cases hj
     have:((cs.toList.take (i*ta.cells)++cv++cs.toList.drop (i*ta.cells+cv.length)).drop (i*ta.cells)).take ta.cells=cv:=by
      rw[List.append_assoc,List.drop_append_of_le_length (by rw[List.length_take];omega),List.drop_eq_nil_of_le (by rw[List.length_take];omega),List.nil_append,<-fq,List.take_left]
     rw[this]
     exact rep
    ·rw[List.getElem?_set_ne e] at hj
     rw[zj2 (cs:=cs.toList) (c:=cv) (off:=i*ta.cells) ug (j*ta.cells) ta.cells ?_]
     ·exact fO j z hj
     ·rcases Nat.lt_or_gt_of_ne e with h|h
      ·have:(i+1)*ta.cells<=j*ta.cells:=Nat.mul_le_mul_right _ h
       rw[Nat.add_mul,Nat.one_mul] at this
       right;omega
      ·have:(j+1)*ta.cells<=i*ta.cells:=Nat.mul_le_mul_right _ h
       rw[Nat.add_mul,Nat.one_mul] at this
       left;omega
  exact⟨X.row r0 new,Go.undef,.inr ⟨aW,rfl⟩,FW how,(hr.row (cs:=new) hb hβ how bH (.inl (by rw[Ty.aI dn];rfl))).skip o.dst⟩
theorem adF(hE:al P E)(hr:Rel X s a){ops:List Oper}{T:TypeId}{x y:Operand}(ho:o.op= .store T x y){C:FuncId->bV Out}(h:act E C ops o s some=some u):aH P X s a o u:=by
 unfold act at h
 simp only[ho] at h
 have hx:=hr.aG x
 unfold store at h
 split at h
 case h_2=>cases h
 rename_i u0 hT
 split at h
 case h_2=>cases h
 rename_i id t p e
 rw[e] at hx
 obtain⟨r,hβ,hx⟩:=hx
 split at h
 ·exact abV hE hr ho hT e h
 rename_i eh
 have eh:t.bG=false:=by simpa using eh
 obtain⟨hv,dp⟩:=(qH eh).1 hx
 split at h
 case h_2=>cases h
 rename_i B hB
 split at h
 case isFalse=>cases h
 rename_i heq
 have dn:=Ty.aI heq
 subst dn
 split at h
 case h_2=>cases h
 rename_i u' ci
 split at h
 case isFalse=>cases h
 rename_i Cp
 have:=Ty.aI Cp
 subst this
 have hb:=qJ hB
 obtain⟨yv,h,hy⟩:=DY hr h (.inl rfl)
 split at h
 case h_2=>cases h
 rename_i z fu
 cases h
 obtain⟨W,cv,hW,hX,Sr,rep,ev,hO,hβ2,mz,_⟩:=hy (fun q=> .b id (p++q))
 obtain⟨r',hβW,ua⟩:=Sr.boxes id B (by rw[z40];exact hb)
 obtain⟨cs,T2,aE,aL,how,bS⟩:=ua.cells eh
 have hrr:r'=r:=by
  rw[hβ2,hβ] at hβW
  exact(Option.some.inj hβW).symm
 subst hrr
 have di:B.t.off p+u'.cells<=cs.size:=by
  have:=eX B.t p u' ci dp
  have hl:=aL.len
  simp at hl
  omega
 let new:=(cs.toList.take (B.t.off p)++cv++cs.toList.drop (B.t.off p+cv.length)).toArray
 have aW:(execOp a.eval o).run P X.w= .ok .skip ((W.row r' new).w):=by
  have bP:=GR (P:=P) hE hT rep (off:=B.t.off p) (w:=X.w) (r:=r') (cur:=cs) (T':=T2) (by rw[<-hW];exact aE) di
  simp only[execOp,ho,Sem.run_bind,Instr.storeAt,hv,Instr.sureAddr,Sem.run_pure,Result.andThen_ok,ev,bP]
  rw[<-hW];rfl
 have ux:=O1 aL dp ci fu rep bS hO
 have bH:bD (W.row r' new) id r' {t:=B.t,x:=z,own:=(s.aG y).own.map (fun q=>p++q)++yg B.own p}:=by
  refine⟨how,dz.of eh (setRow_heap W.w r' cs new T2 (0,0) aE) ?_ ?_⟩
  ·have:=(fy aL dp ci fu rep).ai (fun _ _=>mE (cs:=new) how)
   simpa [new] using this
  ·have:=ux.row (cs:=new) how
   simpa [new] using this
 have fc:=Sr.row (cs:=new) (by rw[z40];exact hb) hβW how bH (.inl (Rp eh))
 exact⟨W.row r' new,Go.undef,.inr ⟨aW,rfl⟩,hX.trans (FW how),fc.skip o.dst⟩
end Go.Ref

namespace Go.Ref
open Go
variable {P:Program} {E:Env} {X:aw} {s:State} {a:Act} {o:Oper} {u:Out}
theorem Nq(off:Nat):∀(l:List Value) (k:Nat) (cs:Array Value),off+k+l.length<=cs.size->
 ((l.zipIdx k).foldl (fun cs p=>cs.setIfInBounds (off+p.2) p.1) cs).toList=cs.toList.take (off+k)++l++cs.toList.drop (off+k+l.length)
 | [],k,cs,h=>by simp
 |v::r,k,cs,h=>by
  simp only[List.length_cons] at h
  simp only[List.zipIdx_cons,List.foldl_cons]
  rw[Nq off r (k+1) _ (by simp;omega)]
  simp only[Array.toList_setIfInBounds,List.length_cons]
  apply List.ext_getElem?
  intro q
  simp only[List.getElem?_append,List.getElem?_take,List.getElem?_drop,List.length_append,List.length_take,List.length_set,Array.length_toList,List.getElem?_set,List.length_cons,List.getElem?_cons]
  rw[Nat.min_eq_left (show off+(k+1)<=cs.size by omega),Nat.min_eq_left (show off+k<=cs.size by omega)]
  by_cases h1:q<off+k
  ·rw[if_pos (by omega),if_pos (by omega),if_pos (by omega),if_neg (by omega),if_pos (by omega),if_pos (by omega),if_pos (by omega)]
  ·by_cases h2:q=off+k
   ·subst h2
    rw[if_pos (by omega),if_pos (by omega),if_pos (by omega),if_pos rfl,if_pos (by omega),if_pos (by omega),if_neg (by omega),if_pos (by omega)]
   ·by_cases h3:q<off+(k+1)+r.length
    ·rw[if_pos (by omega),if_neg (by omega),if_pos (by omega),if_neg (by omega),if_neg (by omega)]
     try(congr 1<;>omega)
    ·rw[if_neg (by omega),if_neg (by omega),if_neg (by omega)]
     first|done|(congr 1;omega)
theorem zr0(off:Nat)(l:List Value)(cs:Array Value)(h:off+l.length<=cs.size):
 ((l.toArray.zipIdx).foldl (fun cs (p:Value×Nat)=>cs.setIfInBounds (off+p.2) p.1) cs).toList=cs.toList.take off++l++cs.toList.drop (off+l.length):=by
 have:=Nq off l 0 cs (by omega)
 rw[<-Array.foldl_toList,Array.toList_zipIdx]
 simpa using this
theorem Nl(hr:Rel X s a){t:Ty}{pl:Nat->Option (Nat×Nat)}(fP:∀i ft,t.at_ [i]=some ft->t.kO i=true->t.eK [i]/\pl i=some (t.off [i],ft.cells)){R:Type}{K:El t->List (List Nat)->Option R}{z:R}:
 ∀(parts:List (Nat×Operand)) (x:El t) (own:List (List Nat)) (cs:Array Value),bg X t x cs.toList->rY t x own (parts.map fun p=>(p.1,s.aG p.2,[])) K=some z->
  ∃y jE cells,K y jE=some z/\Instr.fill pl cs (parts.map fun p=>(p.1,a.eval p.2))=some cells/\bg X t y cells.toList
 | [],x,own,cs,rep,h=>⟨x,own,cs,h,rfl,rep⟩
 |(i,p)::r,x,own,cs,rep,h=>by
  simp only[List.map_cons,rY] at h
  split at h
  case isTrue=>cases h
  rename_i hb
  have hb:t.kO i=true:=by cases ub:t.kO i<;>simp_all
  split at h
  case h_2=>cases h
  rename_i ft ci
  obtain⟨y,h,hy⟩:=zz h
  split at h
  case h_2=>cases h
  rename_i x' fu
  obtain⟨c,rc,ec⟩:=hy X _ _ (hr.aG p)
  obtain⟨dp,hp⟩:=fP i ft ci hb
  have fq:=rc.len
  have eF:=rep.len
  have hle:=eX t [i] ft ci dp
  have uB:=fy rep dp ci fu rc
  have di:t.off [i]+c.length<=cs.size:=by rw[fq];simp at eF;omega
  have lp:=zr0 (t.off [i]) c cs di
  obtain⟨y2,kv,cells,h1,h2,h3⟩:=Nl hr fP r x' _ _ (by rw[lp];exact uB) h
  refine⟨y2,kv,cells,h1,?_,h3⟩
  simp only[List.map_cons,Instr.fill,hp,ec,vH rc]
  rw[if_neg (by simp only[List.size_toArray,fq];simp;simp at eF;omega)]
  exact h2
theorem Te{t:Ty}{pl:Nat->Option (Nat×Nat)}(fP:∀i ft,t.at_ [i]=some ft->t.kO i=true->t.eK [i]/\pl i=some (t.off [i],ft.cells)){R:Type}{K:El t->List (List Nat)->Option R}{z:R}:
 ∀(parts:List (Nat×Operand)) (X:aw) (s:State) (x:El t) (own:List (List Nat)) (cs:Array Value),Rel X s a->bg X t x cs.toList->bn X (.r 0) t x cs.toList own->rY t x own (z21 s parts).1 K=some z->
  ∃y jE cells Y,K y jE=some z/\Y.w=X.w/\Ext X Y/\Rel Y (s.close (z21 s parts).2) a/\Instr.fill pl cs (parts.map fun p=>(p.1,a.eval p.2))=some cells/\bg Y t y cells.toList/\bn Y (.r 0) t y cells.toList jE
 | [],X,s,x,own,cs,hr,rep,ho,h=>⟨x,own,cs,X,h,rfl,Ext.refl X,hr,rfl,rep,ho⟩
 |(i,p)::r,X,s,x,own,cs,hr,rep,ho,h=>by
  simp only[z21,rY] at h
  split at h
  case isTrue=>cases h
  rename_i hb
  have hb:t.kO i=true:=by cases ub:t.kO i<;>simp_all
  split at h
  case h_2=>cases h
  rename_i ft ci
  have hc:yf (s.aG p).own p=src p\/((s.aG p).own=[]/\yf (s.aG p).own p=[]):=by
   cases bS:(s.aG p).own with
   |nil=>exact .inr ⟨rfl,rfl⟩
   |cons _ _=>exact .inl rfl
  obtain⟨y,h,hy⟩:=DY hr h hc
  split at h
  case h_2=>cases h
  rename_i x' fu
  obtain⟨Y,c,hw,aZ,bu,rc,ec,hO,hβ,hT,bP⟩:=hy (fun q=> .r 0 ([i]++q))
  obtain⟨dp,hp⟩:=fP i ft ci hb
  have fq:=rc.len
  have eF:=rep.len
  have hle:=eX t [i] ft ci dp
  have Lg:=rep.mono aZ
  have hoY:=ho.stay bP (by simp)
  have uB:=fy Lg dp ci fu rc
  have ux:=O1 Lg dp ci fu rc hoY hO
  have di:t.off [i]+c.length<=cs.size:=by rw[fq];simp at eF;omega
  have lp:=zr0 (t.off [i]) c cs di
  obtain⟨y2,kv,cells,Z,h1,vA,cf,dc,h2,h3,h4⟩:=Te fP r Y _ x' _ _ bu (by rw[lp];exact uB) (by rw[lp];exact ux) h
  refine⟨y2,kv,cells,Z,h1,vA.trans hw,aZ.trans cf,?_,?_,h3,h4⟩
  ·simp only[z21,zi4]
   exact dc
  ·simp only[List.map_cons,Instr.fill,hp,ec,vH rc]
   rw[if_neg (by simp only[List.size_toArray,fq];simp;simp at eF;omega)]
   exact h2
theorem DT(hE:al P E):∀(fl:List Field) (t:Ty) (off:Nat),js E fl t off->∃places,fl.mapM (fun(f:Field)=>(P.info? f.type).map fun i=>(f.offset,i.size))=some places/\
 ∀(j:Nat) (f:Field) (ft:Ty),fl[j]? =some f->E.ty f.type=some ft->places[j]? =some (f.offset,ft.cells)
 | [],t,off,h=>⟨[],rfl,fun j f ft hj=>by simp at hj⟩
 |f::r,t,off,h=>by
  cases t<;>simp only[js] at h<;>try exact h.elim
  rename_i ta tb
  obtain⟨h1,h2,h3,h4⟩:=h
  obtain⟨places,g1,g2⟩:=DT hE r tb _ h4
  obtain⟨i,i1,i2,_⟩:=(hE.ty _ _ h2).info
  refine⟨(f.offset,i.size)::places,?_,fun j g gt hj hg=> ?_⟩
  ·simp [List.mapM_cons,i1,g1]
  ·cases j with
   |zero=>
    simp only[List.getElem?_cons_zero,Option.some.injEq] at hj
    subst hj
    rw[h2] at hg
    cases hg
    simp [i2]
   |succ j=>
    simp only[List.getElem?_cons_succ] at hj⊢
    exact g2 j g gt hj hg
theorem agh(hE:al P E)(hr:Rel X s a){T:TypeId}{t:Ty}(hT:E.ty T=some t)(rH:t.agg=true){R:Type}{K:El t->List (List Nat)->Option R}{z:R}(parts:Array (Nat×Operand))
 (h:rY t (El.bT t) (yb t) (z21 s parts.toList).1 K=some z):
 ∃y own cs Y,K y own=some z/\Y.w=X.w/\Ext X Y/\Rel Y (s.close (z21 s parts.toList).2) a/\bg Y t y cs/\bn Y (.r 0) t y cs own/\(Instr.build T (parts.map fun(i,x)=>(i,a.eval x))).run P X.w= .ok (dR t cs) X.w:=by
 have hf:=hE.ty T t hT
 obtain⟨i,i1,i2,i3,i4⟩:=hf.info
 have hz:=sF X t
 have hn:=Mv X (.r 0) t
 have KZ:(dR t (zp t)).cells=(zp t).toArray:=vH hz
 have kN:(parts.map fun(i,x)=>(i,a.eval x)).toList=parts.toList.map fun p=>(p.1,a.eval p.2):=by simp
 cases t with
 |arr n t=>
  obtain⟨e,hu,he,_⟩:=hf.dw
  obtain⟨ie,j1,j2,_⟩:=(hE.ty e t he).info
  obtain⟨y,own,cells,Y,k1,hw,aZ,bu,k2,k3,k4⟩:=Te (pl:=fun i=>some (i*ie.size,ie.size)) (fun i ft ci hb=>by
   simp only[Ty.at_,Option.some.injEq] at ci
   subst ci
   have hb:i+1<=n:=by simpa [Ty.kO] using hb
   exact⟨⟨hb,by simp [Ty.eK]⟩,by simp [Ty.off,j2]⟩) parts.toList X s (El.bT (.arr n t)) _ (zp (.arr n t)).toArray hr (by simpa using hz) (by simpa using hn) h
  refine⟨y,own,cells.toList,Y,k1,hw,aZ,bu,k3,k4,?_⟩
  rw[jJ rfl]
  refine run_build X.w T _ cells.toList.toArray ?_
  unfold Program.built
  simp only[i1,hu,i4,j1,KZ,kN]
  simpa using k2
 |pair ta tb=>
  obtain⟨fs,hu,di,_⟩:=hf.dw
  obtain⟨places,p1,p2⟩:=DT hE fs.toList _ 0 di
  obtain⟨y,own,cells,Y,k1,hw,aZ,bu,k2,k3,k4⟩:=Te (pl:=(places.toArray[·]?)) (fun i ft ci hb=>by
   obtain⟨f,g1,g2,g3,g4⟩:=Rk fs.toList _ 0 i ft di rfl ci
   refine⟨g4,?_⟩
   have:=p2 i f ft g1 g3
   simp only[List.getElem?_toArray,this,g2,Nat.zero_add]) parts.toList X s (El.bT (.pair ta tb)) _ (zp (.pair ta tb)).toArray hr (by simpa using hz) (by simpa using hn) h
  refine⟨y,own,cells.toList,Y,k1,hw,aZ,bu,k3,k4,?_⟩
  rw[jJ rfl]
  refine run_build X.w T _ cells.toList.toArray ?_
  unfold Program.built
  simp only[i1,hu,i4,p1,KZ,kN]
  simpa using k2
 |unit=>
  obtain⟨fs,hu,di,_⟩:=hf.dw
  obtain⟨places,p1,p2⟩:=DT hE fs.toList _ 0 di
  obtain⟨y,own,cells,Y,k1,hw,aZ,bu,k2,k3,k4⟩:=Te (pl:=(places.toArray[·]?)) (fun i ft ci hb=>by simp [Ty.at_] at ci) parts.toList X s (El.bT .unit) _ (zp .unit).toArray hr (by simpa using hz) (by simpa using hn) h
  refine⟨y,own,cells.toList,Y,k1,hw,aZ,bu,k3,k4,?_⟩
  rw[jJ rfl]
  refine run_build X.w T _ cells.toList.toArray ?_
  unfold Program.built
  simp only[i1,hu,i4,p1,KZ,kN]
  simpa using k2
 |aJ k a b=>exact absurd (hE.iU hT) (by simp [Ty.bG])
 |_=>simp [Ty.agg] at rH
def aw.nw(X:aw)(j:Nat)(q:List Nat->Place):aw:=
 {X with ow:=fun g=>match X.ow g with
  | .row (.r j' p) n=>if j'=j then .row (q p) n else .row (.r j' p) n
  |w=>w}
theorem aeb{s:State}{X:aw}{j:Nat}{q:List Nat->Place}:dY s X (X.nw j q):=by
 refine⟨rfl,rfl,fun g=> ?_⟩
 simp only[aw.nw]
 cases hg:X.ow g with
 |row pl n=>
  cases pl with
  |r j' p=>
   by_cases e:j'=j
   ·subst e
    exact .inr ⟨_,n,q p,rfl,fun h=>h,by simp⟩
   ·exact .inl (if_neg e)
  |_=>exact .inl rfl
 |_=>exact .inl rfl
theorem bn.xX{X:aw}{j:Nat}{q:List Nat->Place}{t:Ty}{x:El t}{cs:List Value}{own:List (List Nat)}(h:bn X (.r j) t x cs own):bn (X.nw j q) q t x cs own:=fun p hp=>by
 obtain⟨e,t',xs,v,g0,g1,g2,g3⟩:=h p hp
 refine⟨e,t',xs,v,g0,g1,g2,?_⟩
 rcases g3 with h|⟨g,cap,cur,h1,h2,h3,h4,h5,h6⟩
 ·exact .inl h
 ·exact .inr ⟨g,cap,cur,h1,h2,h3,h4,h5,by simp [aw.nw,h6]⟩
theorem adv(hE:al P E)(hr:Rel X s a){ops:List Oper}{T:TypeId}{parts:Array (Nat×Operand)}(ho:o.op= .build T parts){C:FuncId->bV Out}(h:act E C ops o s some=some u):aH P X s a o u:=by
 unfold act at h
 simp only[ho] at h
 split at h
 case h_2=>cases h
 rename_i t hT
 split at h
 case isTrue=>cases h
 rename_i rH
 have rH:t.agg=true:=by cases ub:t.agg<;>simp_all
 obtain⟨y,own,cs,Y,h,hw,aZ,bu,rep,hO,aW⟩:=agh hE hr hT rH parts h
 cases h
 have mz:=aeb (s:=s.close (z21 s parts.toList).2) (X:=Y) (j:=0) (q:= .c (o.dst.getD 0) 0)
 refine⟨Y.nw 0 (.c (o.dst.getD 0) 0),dR t cs,.inl ?_,aZ.trans mz.ext,(bu.mod mz.mod).fin ⟨cs,rep.ai (fun _ _=>mz.ay.1),rfl,hO.xX⟩ (fun id t p hm=>by simp at hm)⟩
 rw[mz.w,hw]
 simp only[execOp,ho,Sem.run_bind,aW,Result.andThen_ok,Sem.run_pure]
end Go.Ref

namespace Go.Ref
open Go
variable {P:Program} {E:Env} {X:aw} {s:State} {a:Act} {o:Oper} {u:Out}
theorem ajK{t:Ty}{x:El t}{xs:List (El t)}{n:Nat}{c cs:List Value}(h1:bg X t x c)(h2:bg X (.arr n t) xs cs):bg X (.arr (n+1) t) (x::xs:List (El t)) (c++cs):=by
 obtain⟨k1,k2,k3⟩:=h2
 have hl:=h1.len
 refine⟨by simp;exact k1,by simp [k2,hl,Nat.add_mul];omega,fun j y hj=> ?_⟩
 cases j with
 |zero=>
  simp only[List.getElem?_cons_zero,Option.some.injEq] at hj
  subst hj
  rw[Nat.zero_mul,List.drop_zero,<-hl,List.take_left]
  exact h1
 |succ j=>
  simp only[List.getElem?_cons_succ] at hj
  have hd:(c++cs).drop ((j+1)*t.cells)=cs.drop (j*t.cells):=by
   rw[Nat.add_mul,Nat.one_mul,Nat.add_comm,<-List.drop_drop,<-hl,List.drop_left]
  rw[hd]
  exact k3 j y hj
theorem GV{t:Ty}{xs ys:List (El t)}{n m:Nat}{c d:List Value}(h1:bg X (.arr n t) xs c)(h2:bg X (.arr m t) ys d):bg X (.arr (n+m) t) (xs++ys:List (El t)) (c++d):=by
 obtain⟨j1,j2,j3⟩:=h1
 obtain⟨k1,k2,k3⟩:=h2
 refine⟨by rw[List.length_append,j1,k1],by rw[List.length_append,j2,k2,Nat.add_mul],fun j y hj=> ?_⟩
 by_cases aq:j<n
 ·rw[List.getElem?_append_left (by rw[j1];exact aq)] at hj
  have hle:(j+1)*t.cells<=n*t.cells:=Nat.mul_le_mul_right _ aq
  rw[Nat.add_mul,Nat.one_mul] at hle
  rw[List.drop_append_of_le_length (by omega),List.take_append_of_le_length (by rw[List.length_drop];omega)]
  exact j3 j y hj
 ·rw[List.getElem?_append_right (by rw[j1];omega),j1] at hj
  have hd:(c++d).drop (j*t.cells)=d.drop ((j-n)*t.cells):=by
   have hm:j*t.cells=c.length+(j-n)*t.cells:=by
    rw[j2,<-Nat.add_mul]
    congr 1
    omega
   rw[hm,List.drop_length_add_append]
  rw[hd]
  exact k3 _ y hj
theorem zwc{t:Ty}{ad:Addr}(hs:ad.spot=none):∀(xs:List (El t)) (p:Nat),(∀(j:Nat) x,xs[j]? =some x->∃eJ,bg X t x eJ/\∀(i:Nat) v,eJ[i]? =some v->X.ay (ad.add (p+(j*t.cells+i))) v)->
 ∃cs,bg X (.arr xs.length t) xs cs/\∀(i:Nat) v,cs[i]? =some v->X.ay (ad.add (p+i)) v
 | [],p,h=>⟨[],⟨rfl,by simp,fun j x hj=>by simp at hj⟩,fun i v hi=>by simp at hi⟩
 |x::xs,p,h=>by
  obtain⟨c,r1,s1⟩:=h 0 x rfl
  obtain⟨cs,r2,s2⟩:=zwc hs xs (p+t.cells) (fun j y hj=>by
   obtain⟨c',r',s'⟩:=h (j+1) y hj
   refine⟨c',r',fun i v hi=> ?_⟩
   have:=s' i v hi
   rw[show p+((j+1)*t.cells+i)=p+t.cells+(j*t.cells+i) by rw[Nat.add_mul];omega] at this
   exact this)
  have hl:=r1.len
  refine⟨c++cs,ajK r1 r2,fun i v hi=> ?_⟩
  rw[List.getElem?_append] at hi
  split at hi
  ·have:=s1 i v hi
   rwa [show p+(0*t.cells+i)=p+i by omega] at this
  ·have:=s2 _ v hi
   rwa [show p+t.cells+(i-c.length)=p+i by omega] at this
theorem zb8{e:TypeId}{t:Ty}{xs:List (El t)}{A:Option Addr}{n c:Nat}(h:bg X (.sl e t) xs [.slice A n c]):n=xs.length/\xs.length<=c/\
 ∃cs,bg X (.arr xs.length t) xs cs/\(A=none->xs=[])/\∀ad,A=some ad->∀(i:Nat) v,cs[i]? =some v->X.ay (ad.add i) v:=by
 obtain⟨A',c',h1,h2,h3⟩:=h
 simp only[List.cons.injEq,Value.slice.injEq,and_true] at h1
 obtain⟨rfl,rfl,rfl⟩:=h1
 refine⟨rfl,h2,?_⟩
 cases xs with
 |nil=>exact⟨[],⟨rfl,by simp,fun j x hj=>by simp at hj⟩,fun _=>rfl,fun ad _ i v hi=>by simp at hi⟩
 |cons x r=>
  obtain⟨ad,_,hA,hs,_⟩:=h3 0 x rfl
  subst hA
  obtain⟨cs,k1,k2⟩:=zwc (X:=X) hs (x::r) 0 (fun j y hj=>by
   obtain⟨qt,c',e1,_,g1,g2⟩:=h3 j y hj
   cases e1
   exact⟨c',g1,fun i v hi=>by rw[Nat.zero_add];exact g2 i v hi⟩)
  refine⟨cs,k1,(fun e=>by cases e),fun qt e i v hi=> ?_⟩
  cases e
  have:=k2 i v hi
  rwa [Nat.zero_add] at this
theorem zj3{e:TypeId}{t:Ty}{xs:List (El t)}{g cap:Nat}{pl:Place}{cur:Array Value}{cs:List Value}(hg:X.w.heap[g]? =some (.cells cur e (0,0)))(how:X.ow g= .row pl (xs.length*t.cells))
 (nh:cur.toList.take (xs.length*t.cells)=cs) (aL:bg X (.arr xs.length t) xs cs) (m7:xs.length<=cap):bg X (.sl e t) xs [.slice (some ⟨g,0,none⟩) xs.length cap]:=by
 refine⟨_,cap,rfl,m7,fun j x hj=>⟨_,_,rfl,rfl,aL.2.2 j x hj,fun i v hi=> ?_⟩⟩
 have ui:=(List.getElem?_eq_some_iff.1 hj).1
 have hle:(j+1)*t.cells<=xs.length*t.cells:=Nat.mul_le_mul_right _ ui
 rw[Nat.add_mul,Nat.one_mul] at hle
 rw[List.getElem?_take] at hi
 split at hi
 case isFalse=>cases hi
 rename_i Sl
 rw[List.getElem?_drop,<-nh,List.getElem?_take,if_pos (by omega)] at hi
 refine⟨Bs rfl _,?_,?_⟩
 ·rw[iK,Nat.zero_add]
  simp only[World.cell?,hg]
  simpa using hi
 ·rw[iK,Nat.zero_add]
  show Ow.used (X.ow g) _
  rw[how]
  show j*t.cells+i<_
  omega
end Go.Ref

namespace Go.Ref
open Go
variable {P:Program} {E:Env} {X:aw} {s:State} {a:Act} {o:Oper} {u:Out}
theorem L9{R:Type}{t:Ty}{n:Nat}{K:List (El t)->Option R}:∀(parts:List (Nat×SV)) (xs:List (El t)) (own:List (List Nat)),xs.length=n->BJ t xs parts K=rY (.arr n t) xs own (parts.map fun p=>(p.1,p.2,[])) (fun y _=>K y)
 | [],xs,own,h=>rfl
 |(i,v)::r,xs,own,h=>by
  subst h
  simp only[BJ,List.map_cons,rY,Ty.kO,Ty.at_,El.set,Ty.cj,dite_true,Option.map_some]
  congr 1
  refine congrArg (v.el t) (funext fun y=> ?_)
  exact L9 r (xs.set i y) _ (by simp)
theorem ahS{t:Ty}(n:Nat)(hk:0<t.cells):((Array.range (n*t.cells)).map fun i=>(zp t).toArray[i % (zp t).toArray.size]!).toList=(List.replicate n (zp t)).flatten:=by
 have hz:=va t
 apply List.ext_getElem?
 intro q
 have hlen:((List.replicate n (zp t)).flatten).length=n*t.cells:=by simp [hz]
 by_cases hq:q<n*t.cells
 ·have h1:q/t.cells<n:=(Nat.div_lt_iff_lt_mul hk).2 hq
  have h2:=z9q hz n (q/t.cells) h1
  have h3:=congrArg (fun l=>l[q % t.cells]?) h2
  simp only[List.getElem?_take,List.getElem?_drop,if_pos (Nat.mod_lt q hk)] at h3
  rw[Nat.mul_comm,Nat.div_add_mod] at h3
  rw[h3]
  have hm:q % t.cells<(zp t).length:=by rw[hz];exact Nat.mod_lt q hk
  rw[List.getElem?_eq_getElem hm]
  simp [hq,hz,hm]
  rw[List.getElem?_eq_getElem hm]
  rfl
 ·rw[List.getElem?_eq_none (by simp;omega),List.getElem?_eq_none (by omega)]
theorem OZ{X:aw}{pl:List Nat->Place}{e:TypeId}{t:Ty}{xs:List (El t)}{v:Value}(h:bp X (pl []) e t.cells xs.length v):bn X pl (.sl e t) xs [v] [[]]:=fun p hp=>by
 have hp:p=[]:=by simpa using hp
 subst hp
 exact⟨e,t,xs,v,by simp [Ty.eK],rfl,rfl,h⟩
theorem zv7(hE:al P E)(hr:Rel X s a){ops:List Oper}{T:TypeId}{n:Nat}{parts:Array (Nat×Operand)}(ho:o.op= .buildSlice T n parts){C:FuncId->bV Out}(h:act E C ops o s some=some u):aH P X s a o u:=by
 unfold act at h
 simp only[ho] at h
 split at h
 case h_2=>cases h
 rename_i e t hT
 split at h
 case isTrue=>cases h
 rename_i AG
 have hk:0<t.cells:=by rcases Nat.eq_zero_or_pos t.cells with h0|h0<;>simp_all
 cases hb:Nat.ble (n*t.cells) 16777216 with
 |false=>rw[hb] at h;cases h
 |true=>
  rw[hb] at h
  simp only[cond_true] at h
  have uC:n*t.cells<=16777216:=Nat.le_of_ble_eq_true hb
  rw[L9 (n:=n) _ _ [] (by simp),List.map_map] at h
  obtain⟨hu,he⟩:=(hE.ty T _ hT).dw
  have dm:=lJ (P:=P) hE he X.w
  have hzr:=TH (P:=P) hE he X.w
  have KY:=sF X (.arr n t)
  obtain⟨y,jE,cells,k1,k2,k3⟩:=Nl (pl:=fun i=>some (i*t.cells,t.cells)) hr (fun i ft ci hb=>by
   simp only[Ty.at_,Option.some.injEq] at ci
   subst ci
   have hb:i+1<=n:=by simpa [Ty.kO] using hb
   exact⟨⟨hb,by simp [Ty.eK]⟩,by simp [Ty.off]⟩) parts.toList (El.bT (.arr n t)) [] (zp (.arr n t)).toArray (by simpa using KY) h
  cases k1
  have hy:List.length y=n:=k3.1
  have eF:cells.size=n*t.cells:=by have:=k3.2.1;simpa using this
  have hn:n<=n*t.cells:=Nat.le_mul_of_pos_right n hk
  let Y:=X.new cells e (.row (.c (o.dst.getD 0) 0 []) (n*t.cells)) X.β
  have xu:eP s X Y:=Qi X s cells e _ _ rfl (fun _ _ _=>rfl)
  obtain⟨n1,n2⟩:=Qa X cells e (.row (.c (o.dst.getD 0) 0 []) (n*t.cells)) X.β
  refine⟨Y,.slice (some ⟨X.w.heap.size,0,none⟩) n n,.inl ?_,xu.ext,?_⟩
  ·have hcz:(Array.map (fun x=>(dR t (zp t)).cells[x % (dR t (zp t)).cells.size]!) (Array.range (n*t.cells)))=(zp (.arr n t)).toArray:=by
    apply Array.ext'
    rw[vH (sF X t),ahS n hk]
    rfl
   have kN:(parts.map fun(i,x)=>(i,a.eval x)).toList=parts.toList.map fun p=>(p.1,a.eval p.2):=by simp
   by_cases hn0:n*t.cells=0
   ·have ZT:n=0:=by
     rcases Nat.mul_eq_zero.1 hn0 with h0|h0
     ·exact h0
     ·omega
    subst ZT
    have k2':Instr.fill (fun i=>some (i*t.cells,t.cells)) #[] (parts.toList.map fun p=>(p.1,a.eval p.2))=some cells:=k2
    have ao4:(parts.map fun x=>(x.1,a.eval x.2)).toList=parts.toList.map fun p=>(p.1,a.eval p.2):=by simp
    simp [execOp,ho,Instr.buildSlice,run_underlying hu,dm,newRow,Y,aw.new]
    rw[show(Array.map (fun x=>default) (Array.range 0):Array Value)= #[] by simp,k2']
    simp
   ·have hc:=hcz
    simp [execOp,ho,Instr.buildSlice,run_underlying hu,dm,hzr,hn0,newRow,Y,aw.new,Nat.not_lt.2 uC]
    rw[hcz,k2]
    simp
  ·refine(hr.dx xu).fin ?_ (fun id t p hm=>by simp at hm)
   refine⟨[.slice (some ⟨X.w.heap.size,0,none⟩) n n],?_,rfl,OZ ?_⟩
   ·rw[<-hy]
    refine zj3 (pl:= .c (o.dst.getD 0) 0 []) (cur:=cells) (cs:=cells.toList) n1 (by rw[hy];exact n2) ?_ ?_ (Nat.le_refl _)
    ·rw[hy,List.take_of_length_le (by simp [eF])]
    ·rw[hy];exact k3.ai (fun _ _=>xu.ay)
   ·refine .inr ⟨X.w.heap.size,n,cells,by rw[hy],n1,by rw[hy];exact Nat.le_refl _,?_,eF,by rw[hy];exact n2⟩
    simp only[maxLen]
    omega
end Go.Ref

