/- No condition. -/
import Derived.Orders
import Derived.Below
import Derived.Maps.AppendAt
import Derived.WalkKit
import Derived.Lib.AppendStr
import Derived.Shelf.Strings.BuilderF
set_option linter.unusedVariables false
set_option linter.unusedSimpArgs false
set_option maxRecDepth 100000
namespace Go.Ref
open Go
structure ru(T e:TypeId)(b:Nat)(v:Value)(bs:List Value)(w:World):Prop where
 kG:w.heap[b]? =some (.cells #[.pointer none,v] T (0,0))\/w.heap[b]? =some (.cells #[.pointer (some ⟨b,0,none⟩),v] T (0,0))
 own:w.ownsRow 0 e 1 v bs.length bs
 ne:v.ownBlock≠some b
theorem ru.lt{T e:TypeId}{b:Nat}{v:Value}{bs:List Value}{w:World}(h:ru T e b v bs w):b<w.heap.size:=by
 rcases Nat.lt_or_ge b w.heap.size with h'|h'
 ·exact h'
 ·rcases h.kG with h|h<;>simp [Array.getElem?_eq_none h'] at h
theorem ru.same{T e:TypeId}{b:Nat}{v:Value}{bs:List Value}{w w':World}(h:ru T e b v bs w)(hb:w'.heap[b]? =w.heap[b]?)(hg:∀g o,v.ownBlock=some g->w.heap[g]? =some o->w'.heap[g]? =some o):ru T e b v bs w':=by
 refine⟨by rw[hb];exact h.kG,⟨h.own.1,?_⟩,h.ne⟩
 rcases h.own.2 with hn|⟨g,cap,cur,hv,h0,x8,rest⟩
 ·exact .inl hn
 ·exact .inr ⟨g,cap,cur,hv,h0,hg g _ (by rw[hv];rfl) x8,rest⟩
inductive OS where
 |iter
 |mp
 |row
 |gW (n:Nat)
 |fe (T e:Nat)
 |own
 |oI (f:Nat)
 |bE
 deriving DecidableEq,Inhabited
@[reducible] def sA:OS->Type->Type->Type
  | .iter,_,_=>ByteArray×Nat
  | .mp,a,b=>List (a×b)
  | .row,a,_=>List a
  | .gW _,_,_=>Unit
  | .fe _ _,_,_=>ByteArray
  | .own,a,_=>Option a
  | .oI _,_,_=>Unit
  | .bE,a,b=>a×(Option b×Option b)×Int
def sA.bH:(k:OS)->(a b:Type)->a->sA k a b
 | .iter,_,_,_=>((⟨#[]⟩:ByteArray),(0:Nat))
 | .mp,_,_,_=>[]
 | .row,_,_,_=>[]
 | .gW _,_,_,_=>()
 | .fe _ _,_,_,_=>(⟨#[]⟩:ByteArray)
 | .own,_,_,_=>none
 | .oI _,_,_,_=>()
 | .bE,_,_,x=>(x,(none,none),(0:Int))
inductive Ty where
 |bool
 |int (k:IntKind)
 |str
 |sl (e:TypeId) (t:Ty)
 |arr (n:Nat) (t:Ty)
 |unit
 |pair (a b:Ty)
 |aI (k:OS) (a b:Ty)
 deriving Inhabited
@[reducible] def El:Ty->Type
  | .bool=>Bool
  | .int _=>Int
  | .str=>ByteArray
  | .sl _ t=>List (El t)
  | .arr _ t=>List (El t)
  | .unit=>Unit
  | .pair a b=>El a×El b
  | .aI k a b=>sA k (El a) (El b)
def El.bH:(t:Ty)->El t
 | .bool=>false
 | .int _=>(0:Int)
 | .str=>(⟨#[]⟩:ByteArray)
 | .sl _ _=>[]
 | .arr n t=>List.replicate n (El.bH t)
 | .unit=>()
 | .pair a b=>(El.bH a,El.bH b)
 | .aI k a b=>sA.bH k (El a) (El b) (El.bH a)
def Ty.bV:Ty->Ty->Bool
 | .bool,.bool=>true
 | .str,.str=>true
 | .unit,.unit=>true
 | .int j,.int k=>decide (j=k)
 | .sl e t,.sl f u=>Nat.beq e f&&Ty.bV t u
 | .arr n t,.arr m u=>Nat.beq n m&&Ty.bV t u
 | .pair a b,.pair c d=>Ty.bV a c&&Ty.bV b d
 | .aI k a b,.aI j c d=>decide (k=j)&&(Ty.bV a c&&Ty.bV b d)
 |_,_=>false
theorem Ty.aH:∀{t u:Ty},t.bV u=true->t=u:=by
 intro t
 induction t with
 |bool=>intro u h;cases u<;>simp_all [Ty.bV]
 |int k=>intro u h;cases u<;>simp_all [Ty.bV]
 |str=>intro u h;cases u<;>simp_all [Ty.bV]
 |unit=>intro u h;cases u<;>simp_all [Ty.bV]
 |sl e t ih=>
  intro u h
  cases u<;>simp [Ty.bV] at h
  obtain⟨h1,h2⟩:=h
  rw[ih h2,h1]
 |arr e t ih=>
  intro u h
  cases u<;>simp [Ty.bV] at h
  obtain⟨h1,h2⟩:=h
  rw[ih h2,h1]
 |pair a b j4 j5=>
  intro u h
  cases u<;>simp [Ty.bV] at h
  rw[j4 h.1,j5 h.2]
 |aI k a b j4 j5=>
  intro u h
  cases u<;>simp [Ty.bV] at h
  rw[h.1,j4 h.2.1,j5 h.2.2]
theorem Ty.bT:∀t:Ty,t.bV t=true
 | .bool=>rfl
 | .str=>rfl
 | .unit=>rfl
 | .int k=>by simp [Ty.bV]
 | .sl e t=>by simp [Ty.bV,Ty.bT t]
 | .arr e t=>by simp [Ty.bV,Ty.bT t]
 | .pair a b=>by simp [Ty.bV,Ty.bT a,Ty.bT b]
 | .aI k a b=>by simp [Ty.bV,Ty.bT a,Ty.bT b]
def Ty.cast{t u:Ty}(h:t.bV u=true)(x:El t):El u:=Ty.aH h▸x
def Ty.cells:Ty->Nat
 | .arr n t=>n*t.cells
 | .unit=>0
 | .pair a b=>a.cells+b.cells
 | .aI _ _ _=>0
 |_=>1
def Ty.agg:Ty->Bool
 | .arr .. | .unit| .pair .. | .aI .. =>true
 |_=>false
def Ty.at_:Ty->List Nat->Option Ty
 |t,[]=>some t
 | .arr _ t,_::p=>t.at_ p
 | .pair a _,0::p=>a.at_ p
 | .pair _ b,(j+1)::p=>b.at_ (j::p)
 |_,_=>none
def Ty.off:Ty->List Nat->Nat
 |_,[]=>0
 | .arr _ t,i::p=>i*t.cells+t.off p
 | .pair a _,0::p=>a.off p
 | .pair a b,(j+1)::p=>a.cells+b.off (j::p)
 |_,_=>0
def El.get:(t:Ty)->List Nat->El t->Option ((u:Ty)×El u)
 |t,[],x=>some ⟨t,x⟩
 | .arr _ t,i::p,xs=>El.get t p (xs.getD i (El.bH t))
 | .pair a _,0::p,x=>El.get a p x.1
 | .pair _ b,(j+1)::p,x=>El.get b (j::p) x.2
 |_,_::_,_=>none
def El.set:(t:Ty)->List Nat->El t->(u:Ty)->El u->Option (El t)
 |t,[],_,u,y=>if h:u.bV t=true then some (Ty.cast h y) else none
 | .arr _ t,i::p,xs,u,y=>(El.set t p (xs.getD i (El.bH t)) u y).map fun z=>List.set xs i z
 | .pair a _,0::p,x,u,y=>(El.set a p x.1 u y).map fun z=>(z,x.2)
 | .pair _ b,(j+1)::p,x,u,y=>(El.set b (j::p) x.2 u y).map fun z=>(x.1,z)
 |_,_::_,_,_,_=>none
def Ty.dJ:Ty->List Nat->Prop
 |_,[]=>True
 | .arr n t,i::p=>i<n/\t.dJ p
 | .pair a _,0::p=>a.dJ p
 | .pair _ b,(j+1)::p=>b.dJ (j::p)
 |_,_=>False
inductive Place where
 |c (i j:Nat) (p:List Nat)
 |b (id:Nat) (p:List Nat)
 |r (j:Nat) (p:List Nat)
inductive Ow where
 |all
 |ro (n:Nat)
 |box (id:Nat)
 |row (pl:Place) (n:Nat)
def Ow.used:Ow->Nat->Prop
 | .all,_=>True
 | .ro n,o=>o<n
 | .box _,_=>False
 | .row _ n,o=>o<n
def Ow.still:Ow->Prop
 | .all| .ro _=>True
 |_=>False
structure ar where
 w:World
 ow:Nat->Ow
 β:Nat->Option Nat
def ar.ax(X:ar)(a:Addr)(v:Value):Prop:=a.spot=none/\X.w.cell? a=some v/\(X.ow a.block).used a.off
structure Ext(X Y:ar):Prop where
 ax:∀a v,X.ax a v->Y.ax a v
 size:X.w.heap.size<=Y.w.heap.size
 os:Y.w.os=X.w.os
 tape:Y.w.tape=X.w.tape
 output:Y.w.output=X.w.output
 β0:Y.β 0=X.β 0
 still:∀g,g<X.w.heap.size->(X.ow g).still->Y.ow g=X.ow g/\Y.w.heap[g]? =X.w.heap[g]?
theorem Ext.refl(X:ar):Ext X X:=⟨fun _ _ h=>h,Nat.le_refl _,rfl,rfl,rfl,rfl,fun _ _ _=>⟨rfl,rfl⟩⟩
theorem Ext.trans{X Y Z:ar}(h:Ext X Y)(k:Ext Y Z):Ext X Z:=
 ⟨fun a v hs=>k.ax a v (h.ax a v hs),Nat.le_trans h.size k.size,k.os.trans h.os,k.tape.trans h.tape,k.output.trans h.output,k.β0.trans h.β0,
  fun g hg bL=>by
   obtain⟨h1,h2⟩:=h.still g hg bL
   obtain⟨k1,k2⟩:=k.still g (Nat.lt_of_lt_of_le hg h.size) (by rw[h1];exact bL)
   exact⟨k1.trans h1,k2.trans h2⟩⟩
theorem ar.fW{X:ar}{a:Addr}{v:Value}(h:X.ax a v):a.block<X.w.heap.size:=World.block_lt_of_cell? X.w a h.2.1
def aY(X:ar):(t:Ty)->El t->List Value->Prop
 | .bool,b,cs=>cs=[.bool b]
 | .int k,n,cs=>cs=[.int k n]
 | .str,s,cs=>cs=[.string s]
 | .sl _ t,xs,cs=>∃A c,cs=[.slice A xs.length c]/\xs.length<=c/\
    ∀j x,xs[j]? =some x->∃ad dI,A=some ad/\ad.spot=none/\aY X t x dI/\∀i v,dI[i]? =some v->X.ax (ad.add (j*t.cells+i)) v
 | .arr n t,xs,cs=>xs.length=n/\cs.length=n*t.cells/\∀j x,xs[j]? =some x->aY X t x ((cs.drop (j*t.cells)).take t.cells)
 | .unit,_,cs=>cs=[]
 | .pair a b,x,cs=>∃c1 c2,cs=c1++c2/\aY X a x.1 c1/\aY X b x.2 c2
 | .aI _ _ _,_,cs=>cs=[]
theorem aY.ag{X Y:ar}(h:∀a v,X.ax a v->Y.ax a v):∀{t:Ty} {x:El t} {cs:List Value},aY X t x cs->aY Y t x cs
 | .bool,_,_,hr=>hr
 | .int _,_,_,hr=>hr
 | .str,_,_,hr=>hr
 | .unit,_,_,hr=>hr
 | .sl _ t,xs,cs,⟨A,c,h1,h2,h3⟩=>⟨A,c,h1,h2,fun j x hj=>by
    obtain⟨ad,dI,h4,h5,h6,h7⟩:=h3 j x hj
    exact⟨ad,dI,h4,h5,aY.ag h h6,fun i v hi=>h _ _ (h7 i v hi)⟩⟩
 | .arr n t,xs,cs,⟨h1,h2,h3⟩=>⟨h1,h2,fun j x hj=>aY.ag h (h3 j x hj)⟩
 | .pair a b,x,cs,⟨c1,c2,h1,h2,h3⟩=>⟨c1,c2,h1,aY.ag h h2,aY.ag h h3⟩
 | .aI _ _ _,_,_,hr=>hr
theorem aY.mono{X Y:ar}(h:Ext X Y){t:Ty}{x:El t}{cs:List Value}(hr:aY X t x cs):aY Y t x cs:=aY.ag h.ax hr
theorem aY.len{X:ar}:∀{t:Ty} {x:El t} {cs:List Value},aY X t x cs->cs.length=t.cells
 | .bool,_,_,hr=>by cases hr;rfl
 | .int _,_,_,hr=>by cases hr;rfl
 | .str,_,_,hr=>by cases hr;rfl
 | .unit,_,_,hr=>by cases hr;rfl
 | .sl _ t,xs,cs,⟨A,c,h1,_⟩=>by cases h1;rfl
 | .arr n t,xs,cs,⟨h1,h2,h3⟩=>h2
 | .pair a b,x,cs,⟨c1,c2,h1,h2,h3⟩=>by rw[h1,List.length_append,h2.len,h3.len];rfl
 | .aI _ _ _,_,_,hr=>by cases hr;rfl
theorem zye{cs:List Value}{n k:Nat}{u:Value}(hu:u∈cs)(hk:cs.length=n*k):∃j,j<n/\u∈(cs.drop (j*k)).take k:=by
 obtain⟨q,hq,rfl⟩:=List.mem_iff_getElem.1 hu
 have vK:0<k:=by
  rcases Nat.eq_zero_or_pos k with h|h
  ·subst h;simp at hk;subst hk;simp at hq
  ·exact h
 refine⟨q/k,by rw[Nat.div_lt_iff_lt_mul vK,<-hk];exact hq,?_⟩
 rw[List.mem_iff_getElem?]
 refine⟨q % k,?_⟩
 rw[List.getElem?_take,if_pos (Nat.mod_lt _ vK),List.getElem?_drop,Nat.mul_comm,Nat.div_add_mod,List.getElem?_eq_getElem hq]
theorem aY.one{X:ar}:∀{t:Ty} {x:El t} {cs:List Value},aY X t x cs->∀u∈cs,u.oneCell'=true
 | .bool,_,_,hr,u,hu=>by cases hr;simp at hu;subst hu;rfl
 | .int _,_,_,hr,u,hu=>by cases hr;simp at hu;subst hu;rfl
 | .str,_,_,hr,u,hu=>by cases hr;simp at hu;subst hu;rfl
 | .unit,_,_,hr,u,hu=>by cases hr;simp at hu
 | .sl _ t,xs,cs,⟨A,c,h1,_⟩,u,hu=>by cases h1;simp at hu;subst hu;rfl
 | .arr n t,xs,cs,⟨h1,h2,h3⟩,u,hu=>by
   obtain⟨j,hj,hm⟩:=zye hu h2
   exact aY.one (h3 j _ (List.getElem?_eq_getElem (by omega))) u hm
 | .pair a b,x,cs,⟨c1,c2,h1,h2,h3⟩,u,hu=>by
   rw[h1] at hu
   rcases List.mem_append.1 hu with hu|hu
   ·exact h2.one u hu
   ·exact h3.one u hu
 | .aI _ _ _,_,_,hr,u,hu=>by cases hr;simp at hu
end Go.Ref

namespace Go.Ref
open Go Go.Shelf Go.RowKit Go.Proofs
variable {P:Program} {ρ:Ren}
structure fc(b:Nat)(g:Option Nat)(w w':World):Prop where
 os:w'.os=w.os
 tape:w'.tape=w.tape
 output:w'.output=w.output
 size:w.heap.size<=w'.heap.size
 block:∀k,k<w.heap.size->k≠b->some k≠g->w'.heap[k]? =w.heap[k]?
theorem fc.of{b:Nat}{g:Option Nat}{w w':World}(h:w.grownBy w' g):fc b g w w':=⟨h.os,h.tape,h.output,h.size,fun k hk _ hg=>h.block k hk hg⟩
theorem fc.trans{b:Nat}{g:Option Nat}{u v w:World}(h:fc b g u v)(k:fc b g v w):fc b g u w:=
 ⟨k.os.trans h.os,k.tape.trans h.tape,k.output.trans h.output,Nat.le_trans h.size k.size,fun i hi h1 h2=>(k.block i (Nat.lt_of_lt_of_le hi h.size) h1 h2).trans (h.block i hi h1 h2)⟩
theorem fc.refl{b:Nat}{g:Option Nat}(w:World):fc b g w w:=⟨rfl,rfl,rfl,Nat.le_refl _,fun _ _ _ _=>rfl⟩
theorem fc.setCell{b:Nat}{g:Option Nat}(w:World)(a:Addr)(ha:a.block=b)(u:Value):fc b g w (w.setCell a u):=
 ⟨rfl,rfl,rfl,by simp [World.setCell],fun k _ hk _=>Below.heap_setCell _ _ _ _ (by rw[ha];exact hk)⟩
theorem Vd{w:World}(t u ty e:TypeId)(i:TypeInfo)(ht:P.underlying t=some (.slice e))(hu:P.underlying u=some .string)(hi:P.info? e=some i)(hz:i.zero=some (.int .u8 0))(bN:i.size=1)(n6:i.bytes=1)
 (v:Value) (n:Nat) (xs:List Value) (bG:w.ownsRow 0 e 1 v n xs) (s:ByteArray) (vD:n+s.size<=maxLen) (eR:n+s.size<=140737488355328) {v':Value} {w':World}
 (h:(Builtin.append_ #[t,u] ty #[v,.string s]).run P w= .ok v' w'):∀g,v'.ownBlock=some g->v.ownBlock=some g\/g=w.heap.size:=by
 have vU:xs.length=n:=by simpa using bG.1
 have qG:n+s.size<=9223372036854775807:=by simp only[maxLen] at vD;omega
 intro g0 x7
 rcases bG.2 with⟨rfl,rfl⟩|⟨g,cap,cur,rfl,Pg,hg,Ef,vG,eH,kW⟩
 ·by_cases hm:s.size=0
  ·have hf:=Lib.run_firstCells_string (P:=P) w 1 s
   rw[hm] at hf
   simp [Builtin.append_,run_underlying ht,run_underlying hu,sizeOf,typeInfo,hi,bN,Builtin.lenOf,hm,hf] at h
   rw[<-h.1] at x7
   simp [Value.ownBlock] at x7
  ·have hr:=run_append_nil_string (P:=P) w t u ty e i (.int .u8 0) ht hu hi hz s (by omega) (by omega) (by rw[n6];omega)
   rw[hr] at h
   cases h
   simp [Value.ownBlock] at x7
   exact .inr x7.symm
 ·by_cases kV:n+s.size<=cap
  ·have acV:cur.size=cap:=by simpa using eH
   have hr:=Lib.run_append_room_string (P:=P) w t u ty e i ht hu hi bN g n cap cur hg s kV (by omega)
   rw[hr] at h
   cases h
   exact .inl x7
  ·have holds:∀j u,xs[j]? =some u->w.cell? ((⟨g,0,none⟩:Addr).add j)=some u:=bG.cells (g:=g) rfl
   have hr:=Lib.run_append_grow_string (P:=P) w t u ty e i (.int .u8 0) ht hu hi hz ⟨g,0,none⟩ n cap xs (by rw[bN];simpa using vU) holds s (by omega) (by omega) (by rw[n6];exact growslice_fits (by omega) (by omega))
   rw[hr] at h
   cases h
   simp [Value.ownBlock] at x7
   exact .inr x7.symm
theorem Tt{ops:Array Oper}{rest:List Oper}{o:Oper}{a:Act}{w:World}{Q:Exit->Act->World->Prop}(AQ:o.guard=none)(sl x:Operand)(t u:TypeId)
 (ho:o.op= .call {callee:= .builtin .append,args:= #[sl,x],argTypes:= #[t,u]})
 (e:TypeId) (i:TypeInfo) (ht:P.underlying t=some (.slice e)) (hu:P.underlying u=some .string) (hi:P.info? e=some i) (hz:i.zero=some (.int .u8 0))
 (bN:i.size=1) (n6:i.bytes=1)
 (v:Value) (n:Nat) (xs:List Value) (hs:a.eval sl=v) (bG:w.ownsRow 0 e 1 v n xs) (s:ByteArray) (hx:a.eval x= .string s)
 (vD:n+s.size<=maxLen) (eR:n+s.size<=140737488355328)
 (h:∀v' w',w'.ownsRow 0 e 1 v' (n+s.size) (xs++Lib.strCells s)->w.grownBy w' v.ownBlock->(∀g,v'.ownBlock=some g->v.ownBlock=some g\/g=w.heap.size)->wpList P ops Q rest (a.put o.dst v') w'):wpList P ops Q (o::rest) a w:=by
 refine wpList_plain AQ fun K hK=> ?_
 obtain⟨v',w',hr,h2,h3,h4⟩:=Lib.run_append_own_string (P:=P) w 0 t u o.type e i ht hu hi hz bN n6 v n xs bG s vD eR (Nat.zero_le _)
 unfold Oper.wp execOp
 simp only[ho,resolve,invoke,builtin,Sem.run_bind,Sem.run_pure,Result.andThen_ok,List.map_toArray,List.map_cons,List.map_nil,hs,hx,hr]
 exact hK _ _ (h v' w' h2 h3 (Vd t u o.type e i ht hu hi hz bN n6 v n xs bG s vD eR hr))
theorem Vn(L:Lays.n240 P ρ)(X:Builder.X72 P ρ)(b:Nat)(v:Value)(bs:List Value)(w:World)(h:ru (ρ.t 72) (ρ.t 5) b v bs w):
 Calls P (ρ.f 240) #[.pointer (some ⟨b,0,none⟩)] w fun e w'=>e= .returned (.tuple #[])/\(w'.heap[b]? =some (.cells #[.pointer (some ⟨b,0,none⟩),v] (ρ.t 72) (0,0))/\w'.ownsRow 0 (ρ.t 5) 1 v bs.length bs)/\(fc b none w w'/\w'.heap.size=w.heap.size):=by
 rcases h.kG with hb|hb
 ·have hA:Lib.BuilderAt (ρ.t 72) (ρ.t 5) 0 b (.pointer none) bs w:=⟨Nat.zero_le _,v,hb,h.own,h.ne⟩
  refine(Any.Builder_copyCheck_fresh L X b w hA.cell0 hA.shape hA.frozen0).mono ?_
  rintro e w' ⟨rfl,rfl⟩
  have hu:=hA.used (.pointer (some ⟨b,0,none⟩))
  obtain⟨_,v',xV,kR,_⟩:=hu
  have hv:v'=v:=by
   have:(w.setCell ⟨b,0,none⟩ (.pointer (some ⟨b,0,none⟩))).heap[b]? =some (.cells #[.pointer (some ⟨b,0,none⟩),v] (ρ.t 72) (0,0)):=heap_setCell_same w b 0 _ _ _ hb
   rw[xV] at this
   simp at this
   exact this
  subst hv
  exact⟨rfl,⟨xV,kR⟩,fc.setCell w ⟨b,0,none⟩ rfl _,by simp [World.setCell]⟩
 ·have hA:Lib.BuilderAt (ρ.t 72) (ρ.t 5) 0 b (.pointer (some ⟨b,0,none⟩)) bs w:=⟨Nat.zero_le _,v,hb,h.own,h.ne⟩
  refine(Any.Builder_copyCheck_used L X b w hA.cell0).mono ?_
  rintro e w' ⟨rfl,rfl⟩
  exact⟨rfl,⟨hb,h.own⟩,fc.refl _,rfl⟩
set_option maxHeartbeats 2000000 in
set_option maxRecDepth 100000 in
theorem Vo(L:Lays.n166 P ρ)(X:Builder.Extra P ρ)(b:Nat)(v0:Value)(bs:List Value)(s:ByteArray)(w:World)(h:ru (ρ.t 72) (ρ.t 5) b v0 bs w)(hlen:bs.length+s.size<=140737488355328):
 Calls P (ρ.f 166) #[.pointer (some ⟨b,0,none⟩),.string s] w fun e w'=>e= .returned (.tuple #[.int .i64 s.size,.nilIface])/\∃v',ru (ρ.t 72) (ρ.t 5) b v' (bs++Lib.strCells s) w'/\fc b v0.ownBlock w w'/\∀g,v'.ownBlock=some g->v0.ownBlock=some g\/w.heap.size<=g:=by
 obtain⟨i0,hi,P6,I8,P7⟩:=info_parts X.infoByte
 have aw:=h.lt
 have mixed:=L.mixed
 have t72:=L.t72;have a72:=L.a72;have z72:=L.z72;have v72:=L.v72;have u72:=run_underlying L.t72
 have t70:=L.t70;have a70:=L.a70;have z70:=L.z70;have v70:=L.v70;have u70:=run_underlying L.t70
 have t37:=L.t37;have a37:=L.a37;have z37:=L.z37;have v37:=L.v37;have u37:=run_underlying L.t37
 have t3:=L.t3;have a3:=L.a3;have z3:=L.z3;have v3:=L.v3;have u3:=run_underlying L.t3
 have t9:=L.t9;have a9:=L.a9;have z9:=L.z9;have v9:=L.v9;have u9:=run_underlying L.t9
 have t4:=L.t4;have a4:=L.a4;have z4:=L.z4;have v4:=L.v4;have u4:=run_underlying L.t4
 have t164:=L.t164;have a164:=L.a164;have z164:=L.z164;have v164:=L.v164;have ac0:=run_underlying L.t164
 have t5:=X.t5;have a5:=X.a5;have z5:=X.z5;have v5:=X.v5;have u5:=run_underlying X.t5
 have acU:∀args w,(callFunc (ρ.f 240) args).run P w= .ok (.enter (ρ.f 240) args) w:=enters_of L.f240 (by kernel_rfl) rfl
 go_enter L.f166,Body.n166_ntmps ρ
 go_wp2_with (go_at_fn (ρ.f 240);refine(Vn {L with} X.toX72 b v0 bs _ h).mono ?_)
 rintro e w1 ⟨rfl,⟨tk,bG⟩,ly,PT⟩
 have bB:=h.ne
 have c0:w1.cell? ⟨b,0,none⟩=some (.pointer (some ⟨b,0,none⟩)):=by rw[Lib.cell_of_heap tk];rfl
 have c1:w1.cell? ⟨b,1,none⟩=some v0:=by rw[Lib.cell_of_heap tk];rfl
 go_wp2_with (at_builtin;refine Tt rfl _ _ (ρ.t 37) (ρ.t 9) rfl (ρ.t 5) i0 L.t37 L.t9 hi P6 I8 P7 _ _ _ rfl bG s rfl ?c3 ?c4 ?_)
 case c3=>unfold maxLen;omega
 case c4=>omega
 intro v' w2 kR vJ fy
 have Py:b<w1.heap.size:=by rw[PT];exact aw
 have ki:w2.heap[b]? =some (.cells #[.pointer (some ⟨b,0,none⟩),v0] (ρ.t 72) (0,0)):=by
  rw[vJ.block b Py (fun e=>bB e.symm)]
  exact tk
 have d0:w2.cell? ⟨b,0,none⟩=some (.pointer (some ⟨b,0,none⟩)):=by rw[Lib.cell_of_heap ki];rfl
 have d1:w2.cell? ⟨b,1,none⟩=some v0:=by rw[Lib.cell_of_heap ki];rfl
 have f1:w2.frozen? ⟨b,1,none⟩=false:=Lib.frozen_of_heap ki 1
 obtain⟨ao,n',cap,rfl⟩:∃ao n' cap,v'= .slice ao n' cap:=by
  rcases kR.2 with⟨hv,_⟩|⟨g,cap,cur,hv,_⟩
  ·exact⟨_,_,_,hv⟩
  ·exact⟨_,_,_,hv⟩
 go_wp2
 go_ret2
 have Eg:(Value.slice ao n' cap).ownBlock≠some b:=fun e=>by
  rcases fy b e with h1|h1
  ·exact bB h1
  ·omega
 have eh:(w2.setCell ⟨b,1,none⟩ (.slice ao n' cap)).heap[b]? =some (.cells #[.pointer (some ⟨b,0,none⟩),.slice ao n' cap] (ρ.t 72) (0,0)):=heap_setCell_same w2 b 1 _ _ _ ki
 refine⟨rfl,_,⟨.inr eh,?_,Eg⟩,?_,fun g hg=> ?_⟩
 ·have hl:(bs++Lib.strCells s).length=bs.length+s.size:=by rw[List.length_append,Lib.strCells_length]
  rw[hl]
  refine⟨kR.1,?_⟩
  rcases kR.2 with hn|⟨g,tf,cur,hv,Pg,hg,rest⟩
  ·exact .inl hn
  ·refine .inr ⟨g,tf,cur,hv,Pg,?_,rest⟩
   rw[Below.heap_setCell _ _ _ _ (fun e=>Eg (by rw[hv,Value.ownBlock];exact congrArg some e))]
   exact hg
 ·refine fc.trans ⟨ly.os,ly.tape,ly.output,ly.size,fun k hk h1 h2=>ly.block k hk h1 (by simp)⟩ (fc.trans (fc.of vJ) (fc.setCell w2 ⟨b,1,none⟩ rfl _))
 ·rcases fy g hg with h1|h1
  ·exact .inl h1
  ·exact .inr (by omega)
theorem fc.freeze{b:Nat}{g:Nat}(w:World)(a:Addr)(ha:a.block=g)(n:Nat):fc b (some g) w (w.freeze a n):=by
 unfold World.freeze
 split
 ·exact fc.refl _
 ·refine⟨rfl,rfl,rfl,by simp,fun k hk h1 h2=> ?_⟩
  simp only[Array.getElem?_modify]
  rw[if_neg]
  intro e
  exact h2 (by rw[<-e,ha])
theorem fc.drew{b:Nat}{g:Option Nat}(w:World):fc b g w w.drew:=⟨rfl,rfl,rfl,Nat.le_refl _,fun _ _ _ _=>rfl⟩
theorem fc.alloc{b:Nat}{g:Option Nat}(w:World)(o:Obj):fc b g w (w.alloc o):=⟨rfl,rfl,rfl,by simp,fun k hk _ _=>Below.heap_alloc _ _ _ hk⟩
set_option maxHeartbeats 2000000 in
set_option maxRecDepth 100000 in
theorem Yn(L:Lays.n169 P ρ)(X:Builder.Extra P ρ)(b:Nat)(v0:Value)(l:List UInt8)(w:World)(h:ru (ρ.t 72) (ρ.t 5) b v0 (Lib.byteCells l) w):
 Calls P (ρ.f 169) #[.pointer (some ⟨b,0,none⟩)] w fun e w'=>e= .returned (.string ⟨l.toArray⟩)/\fc b v0.ownBlock w w':=by
 obtain⟨p,tk⟩:∃p,w.heap[b]? =some (.cells #[p,v0] (ρ.t 72) (0,0)):=by
  rcases h.kG with h|h
  ·exact⟨_,h⟩
  ·exact⟨_,h⟩
 have bG:=h.own
 have aw:=h.lt
 rw[Lib.byteCells_length] at bG
 have mixed:=L.mixed
 have t72:=L.t72;have a72:=L.a72;have z72:=L.z72;have v72:=L.v72;have u72:=run_underlying L.t72
 have t70:=L.t70;have a70:=L.a70;have z70:=L.z70;have v70:=L.v70;have u70:=run_underlying L.t70
 have t37:=L.t37;have a37:=L.a37;have z37:=L.z37;have v37:=L.v37;have u37:=run_underlying L.t37
 have t127:=L.t127;have a127:=L.a127;have z127:=L.z127;have v127:=L.v127;have acZ:=run_underlying L.t127
 have t3:=L.t3;have a3:=L.a3;have z3:=L.z3;have v3:=L.v3;have u3:=run_underlying L.t3
 have t9:=L.t9;have a9:=L.a9;have z9:=L.z9;have v9:=L.v9;have u9:=run_underlying L.t9
 have t5:=X.t5;have a5:=X.a5;have z5:=X.z5;have v5:=X.v5;have u5:=run_underlying X.t5
 rcases bG.2 with⟨rfl,hz⟩|⟨g,cap,cur,rfl,Pg,hg,Ef,vG,eH,kW⟩
 ·have hl:l=[]:=List.eq_nil_of_length_eq_zero hz
  subst hl
  have Pe:=Any.unsafeString_none L X
  have c1:w.drew.cell? ⟨b,1,none⟩=some (.slice none 0 0):=by
   have:w.drew.heap[b]? =some (.cells #[p,.slice none 0 0] (ρ.t 72) (0,0)):=tk
   rw[Lib.cell_of_heap this];rfl
  have Pc:(Builtin.unsafeSliceData_ #[(ρ.t 37)] (ρ.t 127) #[.slice none 0 0]).run P w.drew= .ok (.pointer none) w.drew:=rfl
  go_enter L.f169,Body.n169_ntmps ρ
  go_wp2
  go_region_o
  all_goals(go_wp2;go_ret;exact⟨rfl,fc.drew w⟩)
 ·by_cases D8:l.length=0
  ·have hl:l=[]:=List.eq_nil_of_length_eq_zero D8
   subst hl
   by_cases Ph:cap=0
   ·subst Ph
    have Pe:=Any.unsafeString_none L X
    have c1:w.drew.cell? ⟨b,1,none⟩=some (.slice (some ⟨g,0,none⟩) 0 0):=by
     have:w.drew.heap[b]? =some (.cells #[p,.slice (some ⟨g,0,none⟩) 0 0] (ρ.t 72) (0,0)):=tk
     rw[Lib.cell_of_heap this];rfl
    have Pc:(Builtin.unsafeSliceData_ #[(ρ.t 37)] (ρ.t 127) #[.slice (some ⟨g,0,none⟩) 0 0]).run P w.drew= .ok (.pointer (some ⟨w.drew.heap.size,0,none⟩)) (w.drew.alloc (.view ⟨g,0,none⟩ (ρ.t 5))):=
     Lib.run_unsafeSliceData_zero w.drew _ _ (ρ.t 5) L.t127 ⟨g,0,none⟩ 0 ((ρ.t 5),cur.size) (by have AP:w.drew.heap[g]? =some (.cells cur (ρ.t 5) (0,0)):=hg;simp [World.shape?,AP])
    have c2:(w.drew.alloc (.view ⟨g,0,none⟩ (ρ.t 5))).cell? ⟨b,1,none⟩=some (.slice (some ⟨g,0,none⟩) 0 0):=by
     have:(w.drew.alloc (.view ⟨g,0,none⟩ (ρ.t 5))).heap[b]? =_:=(Lib.alloc_old w.drew _ b aw).trans tk
     rw[Lib.cell_of_heap this];rfl
    have c3:(w.alloc (.view ⟨g,0,none⟩ (ρ.t 5))).drew.cell? ⟨b,1,none⟩=some (.slice (some ⟨g,0,none⟩) 0 0):=c2
    have c0:w.cell? ⟨b,1,none⟩=some (.slice (some ⟨g,0,none⟩) 0 0):=c1
    go_enter L.f169,Body.n169_ntmps ρ
    go_wp2
    go_region_o
    all_goals(go_wp2;go_ret;exact⟨rfl,(fc.drew w).trans (fc.alloc _ _)⟩)
   ·have Pe:=Any.unsafeString_none L X
    have c1:w.drew.cell? ⟨b,1,none⟩=some (.slice (some ⟨g,0,none⟩) 0 cap):=by
     have:w.drew.heap[b]? =some (.cells #[p,.slice (some ⟨g,0,none⟩) 0 cap] (ρ.t 72) (0,0)):=tk
     rw[Lib.cell_of_heap this];rfl
    have Pc:(Builtin.unsafeSliceData_ #[(ρ.t 37)] (ρ.t 127) #[.slice (some ⟨g,0,none⟩) 0 cap]).run P w.drew= .ok (.pointer (some ⟨g,0,none⟩)) w.drew:=
     Lib.run_unsafeSliceData_row _ _ _ _ _ _ Ph
    clear Ph
    go_enter L.f169,Body.n169_ntmps ρ
    go_wp2
    go_region_o
    all_goals(go_wp2;go_ret;exact⟨rfl,fc.drew w⟩)
  ·have h0:l≠ []:=fun e=>D8 (by rw[e];rfl)
   have c1:w.drew.cell? ⟨b,1,none⟩=some (.slice (some ⟨g,0,none⟩) l.length cap):=by
    have:w.drew.heap[b]? =some (.cells #[p,.slice (some ⟨g,0,none⟩) l.length cap] (ρ.t 72) (0,0)):=tk
    rw[Lib.cell_of_heap this];rfl
   have Pc:(Builtin.unsafeSliceData_ #[(ρ.t 37)] (ρ.t 127) #[.slice (some ⟨g,0,none⟩) l.length cap]).run P w.drew= .ok (.pointer (some ⟨g,0,none⟩)) w.drew:=
    Lib.run_unsafeSliceData_row _ _ _ _ _ _ (by omega)
   have Pe:(Builtin.unsafeString_ #[(ρ.t 127),(ρ.t 3)] (ρ.t 9) #[.pointer (some ⟨g,0,none⟩),.int .i64 l.length]).run P w.drew= .ok (.string ⟨l.toArray⟩) (w.drew.freeze ⟨g,0,none⟩ l.length):=by
    refine Lib.run_unsafeString_row w.drew (ρ.t 127) (ρ.t 3) (ρ.t 9) (ρ.t 5) L.t127 X.cellsByte g cur.size (by have AP:w.drew.heap[g]? =some (.cells cur (ρ.t 5) (0,0)):=hg;simp [World.shape?,AP]) l h0 (by omega) (by unfold maxLen at vG;omega) ?_
    intro j x hx
    have:=bG.cells (g:=g) rfl j (.int .u8 x.toNat) (by simp [Lib.byteCells,hx])
    exact this
   go_enter L.f169,Body.n169_ntmps ρ
   go_wp2
   go_region_o
   all_goals(go_wp2;go_ret;exact⟨rfl,(fc.drew w).trans (fc.freeze _ _ rfl _)⟩)
end Go.Ref

namespace Go.Ref
open Go
inductive SV where
 |undef
 |skip
 |cj
 |dF
 |ai (t:Ty) (x:El t) (own:List (List Nat))
 |ptr (id:Nat) (t:Ty) (p:List Nat)
 |view (t:Ty) (x:El t)
 |cap (f:Nat) (t:Ty) (x:El t) (u:Ty) (y:El u)
 |over
 |bh (id:Nat) (a b:Ty) (j:Nat)
def Ty.nq:Ty->Bool
 | .aI (.fe _ _) _ _=>false
 | .aI _ _ _=>true
 |_=>false
def Ty.bn:Ty->Bool
 | .aI _ _ _=>true
 |_=>false
def SV.bu:SV->Bool
 | .bh _ _ _ _=>true
 |_=>false
structure bj where
 t:Ty
 x:El t
 own:List (List Nat)
structure State where
 sl:List (List SV)
 bs:List (Option bj)
def kK(a:Ty):List Nat->Nat
 |0::q=>a.off q
 | [1]=>a.cells
 | [1,i]=>a.cells+i
 | [2]=>a.cells+2
 |_=>0
def gIn(a:Ty):List Nat->Prop
 | []=>True
 |0::q=>a.dJ q
 | [1]=>True
 | [1,i]=>i<2
 | [2]=>True
 |_=>False
def wQ:List (List Nat):=[[2]]
def iY:List (List Nat):=[[0],[1],[0,2],[1,2]]
def Ty.dK:Ty->Bool
 | .aI .bE _ _=>true
 |_=>false
structure Env where
 ty:TypeId->Option Ty
 bytes:TypeId->Nat
 pt:TypeId->Bool
 cS:Nat->List Nat
 jr:Nat->List Nat
 outs:List Nat
 ps:List Ty
 mp:TypeId->Option (TypeId×TypeId):=fun _=>none
 join:Nat->Option (List Nat):=fun _=>none
 fz:Nat->Option (Nat×TypeId):=fun _=>none
 dr:Nat->List Nat:=fun _=>[]
 sh:List Nat:=[]
 ro:Bool:=false
 mv:List Nat:=[]
 fr:Nat->List Nat:=fun _=>[]
 bl:TypeId->Option TypeId:=fun _=>none
 gr:TypeId->Option (Ty×Ty):=fun _=>none
 ga:TypeId->Bool:=fun _=>false
 sg:Option (Nat×Nat×Nat):=none
 sp:Option (Nat×Nat×Nat×Nat):=none
def Ty.fD:Ty->Bool
 | .unit=>true
 | .pair (.int _) b=>b.fD
 |_=>false
def Ty.isKey:Ty->Bool
 | .bool| .int _| .str=>true
 | .pair a b=>(Ty.pair a b).fD
 |_=>false
def rC:(t:Ty)->El t->El t->Bool
 | .pair (.int _) b,x,y=>decide (x.1=y.1)&&rC b x.2 y.2
 |_,_,_=>true
def eP:(t:Ty)->El t->El t->Bool
 | .bool,x,y=>decide (x=y)
 | .int _,x,y=>decide (x=y)
 | .str,x,y=>decide (x=y)
 | .pair a b,x,y=>rC (.pair a b) x y
 |_,_,_=>false
def dY{K V:Type}(eq:K->K->Bool)(d:V):List (K×V)->K->V
 | [],_=>d
 |q::r,k=>bif eq k q.1 then q.2 else dY eq d r k
def dZ{K V:Type}(eq:K->K->Bool):List (K×V)->K->Bool
 | [],_=>false
 |q::r,k=>bif eq k q.1 then true else dZ eq r k
section
variable {R:Type}
abbrev bI(R:Type):=List SV->Option bj->(List SV->Option bj->Option R)->Option R
def SV.el(s:SV)(u:Ty)(K:El u->Option R):Option R:=
 match s with
 | .ai t x _=>if h:t.bV u=true then K (Ty.cast h x) else none
 | .cj=>match u with
   | .sl _ _=>K []
   |_=>none
 |_=>none
def wL:Value->SV
 | .bool b=> .ai .bool b []
 | .int k n=> .ai (.int k) n []
 | .string s=> .ai .str s []
 | .slice none 0 0=> .cj
 | .pointer none=> .dF
 |_=> .undef
def State.slot(s:State)(t:Nat):List SV:=s.sl.getD t [.undef]
def State.tL(s:State):Operand->List SV
 | .tmp t=>s.slot t
 | .const v=>[wL v]
 |_=>[.undef]
def one:List SV->SV
 | [x]=>x
 |_=> .undef
def State.aF(s:State)(x:Operand):SV:=one (s.tL x)
def State.box(s:State)(id:Nat):Option bj:=(s.bs.getD id none)
def SV.shut:SV->SV
 | .ai t x _=> .ai t x []
 | .bh _ _ _ _=> .undef
 |v=>v
def SV.own:SV->List (List Nat)
 | .ai _ _ o=>o
 | .cj=>[[]]
 |_=>[]
def bz:List SV->Nat->List SV
 | [],_=>[]
 |v::r,0=>v.shut::r
 |v::r,j+1=>v::bz r j
structure Out where
 v:List SV
 bx:Option (Nat×bj):=none
 cl:List (Nat×Nat):=[]
def State.close(s:State):List (Nat×Nat)->State
 | []=>s
 |(i,j)::r=>State.close {s with sl:=s.sl.set i (bz (s.slot i) j)} r
def State.az(s:State):Option (Nat×bj)->State
 |some (id,B)=>{s with bs:=s.bs.set id (some B)}
 |none=>s
def State.ap(s:State):Option Nat->List SV->State
 |some d,v=>{s with sl:=s.sl.set d v}
 |none,_=>s
def State.apply(s:State)(dst:Option Nat)(o:Out):State:=((s.close o.cl).az o.bx).ap dst o.v
def qY:Operand->Option Nat
 | .tmp t=>some t
 |_=>none
def src:Operand->List (Nat×Nat)
 | .tmp t=>[(t,0)]
 |_=>[]
def aU(op:BinOp)(k:IntKind)(a b:Int):Int:=
 match op with
 | .and=>k.wrap ((BitVec.ofInt k.bits a&&&BitVec.ofInt k.bits b).toNat:Nat)
 | .or=>k.wrap ((BitVec.ofInt k.bits a|||BitVec.ofInt k.bits b).toNat:Nat)
 | .xor=>k.wrap ((BitVec.ofInt k.bits a^^^BitVec.ofInt k.bits b).toNat:Nat)
 |_=>k.wrap ((BitVec.ofInt k.bits a&&& ~~~ BitVec.ofInt k.bits b).toNat:Nat)
def c9:(t:Ty)->El t->El t->Option Bool
 | .bool,x,y=>some (x==y)
 | .int _,x,y=>some (decide (x=y))
 | .str,x,y=>some (decide (x=y))
 | .unit,_,_=>some true
 | .arr _ (.int _),x,y=>some (decide ((x:List Int)=y))
 | .pair a b,x,y=>match c9 a x.1 y.1,c9 b x.2 y.2 with
   |some p,some q=>some (p&&q)
   |_,_=>none
 |_,_,_=>none
def i64(n:Int):List SV:=[.ai (.int .i64) n []]
def bl(b:Bool):List SV:=[.ai .bool b []]
def nX(op:BinOp)(k:IntKind)(a:Int)(k':IntKind)(b:Int)(K:List SV->Option R):Option R:=
 match op with
 | .shl=>bif decide (b<0) then none else K [.ai (.int k) (k.wrap (a*2^min b.toNat k.bits)) []]
 | .shr=>bif decide (b<0) then none else K [.ai (.int k) (a.fdiv (2^min b.toNat k.bits)) []]
 |_=>if k=k' then
  match op with
  | .add=>K [.ai (.int k) (k.wrap (a+b)) []]
  | .sub=>K [.ai (.int k) (k.wrap (a-b)) []]
  | .mul=>K [.ai (.int k) (k.wrap (a*b)) []]
  | .quo=>bif decide (b=0) then none else K [.ai (.int k) (k.wrap (a.tdiv b)) []]
  | .rem=>bif decide (b=0) then none else K [.ai (.int k) (a.tmod b) []]
  | .and| .or| .xor| .andNot=>K [.ai (.int k) (aU op k a b) []]
  | .eql=>K (bl (decide (a=b)))
  | .neq=>K (bl (!decide (a=b)))
  | .lss=>K (bl (decide (a<b)))
  | .leq=>K (bl (decide (a<=b)))
  | .gtr=>K (bl (decide (b<a)))
  | .geq=>K (bl (decide (b<=a)))
  |_=>none
  else none
def nY(op:BinOp)(a b:ByteArray)(K:List SV->Option R):Option R:=
 match op with
 | .add=>bif decide (a.size+b.size<=9223372036854775807) then K [.ai .str (a++b) []] else none
 | .eql=>K (bl (decide (a=b)))
 | .neq=>K (bl (!decide (a=b)))
 | .lss=>K (bl (Op.bytesLess a.toList b.toList))
 | .leq=>K (bl (Op.bytesLess a.toList b.toList||decide (a=b)))
 | .gtr=>K (bl (!(Op.bytesLess a.toList b.toList||decide (a=b))))
 | .geq=>K (bl (!(Op.bytesLess a.toList b.toList)))
 |_=>none
def Ty.depth:Ty->Nat
 | .arr _ t=>t.depth+1
 | .pair a b=>max (a.depth+1) b.depth
 |_=>1
def nW(E:Env)(op:BinOp)(T:TypeId)(x y:SV)(K:List SV->Option R):Option R:=
 match E.ty T with
 |some t=>if Nat.ble t.depth 1000=false then none else x.el t fun a=>y.el t fun b=>match c9 t a b with
  |some r=>match op with
   | .eql=>K (bl r)
   | .neq=>K (bl (!r))
   |_=>none
  |none=>none
 |none=>none
def bin(E:Env)(op:BinOp)(T:TypeId)(x y:SV)(K:List SV->Option R):Option R:=
 match x,y with
 | .ai (.int k) a _,.ai (.int k') b _=>nX op k a k' b K
 | .ai .str a _,.ai .str b _=>nY op a b K
 | .ptr _ t _,.dF=>if((t.bn&& !t.dK)|| !E.pt T)=true then none else match op with
   | .eql=>K (bl false)
   | .neq=>K (bl true)
   |_=>none
 | .dF,.dF=>if E.pt T=false then none else match op with
   | .eql=>K (bl true)
   | .neq=>K (bl false)
   |_=>none
 |x,y=>nW E op T x y K
def zd(s:ByteArray)(i:Nat):Int:=if h:i<s.size then((s[i]'h).toNat:Int) else 0
def strOf(xs:List Int):ByteArray:=⟨(xs.map fun x=>UInt8.ofNat x.toNat).toArray⟩
def zc(i:Int)(n:Nat)(K:Option R):Option R:=bif decide (0<=i) then bif decide (i<(n:Int)) then K else none else none
def uo(lo:Option SV)(h:Nat)(K:Nat->Option R):Option R:=
 match lo with
 |none=>K 0
 |some v=>v.el (.int .i64) fun l=>bif decide (0<=l) then bif decide (l<=(h:Int)) then K l.toNat else none else none
def cutAt(lo hi:Option SV)(n:Nat)(K:Nat->Nat->Option R):Option R:=
 match hi with
 |none=>uo lo n fun l=>K l n
 |some v=>v.el (.int .i64) fun h=>bif decide (0<=h) then bif decide (h<=(n:Int)) then uo lo h.toNat (fun l=>K l h.toNat) else none else none
def Ty.iU:Ty->Nat->Bool
 | .arr n _,i=>Nat.ble (i+1) n
 |_,_=>true
def ui(own:List (List Nat))(p:List Nat):List (List Nat):=own.filter fun q=> !(p.isPrefixOf q)
def zx(own:List (List Nat))(p:List Nat):Bool:=own.any fun q=>q==p
def Ix(own:List (List Nat))(p:List Nat):List (List Nat):=(own.filter fun q=>p.isPrefixOf q).map fun q=>q.drop p.length
def bump:List Nat->Option (List Nat)
 | []=>none
 |j::p=>some ((j+1)::p)
def uc:Ty->List (List Nat)
 | .sl _ _=>[[]]
 | .pair a b=>(uc a).map (fun p=>0::p)++(uc b).filterMap bump
 |_=>[]
def ou(t:Ty):El t->List (List Nat)->List (Nat×SV×List (List Nat))->(El t->List (List Nat)->Option R)->Option R
 |x,own,[],K=>K x own
 |x,own,(i,v,ov)::r,K=>if t.iU i=false then none else match t.at_ [i] with
  |some u=>v.el u fun y=>match El.set t [i] x u y with
   |some z=>ou t z (ov.map (fun p=>i::p)++ui own [i]) r K
   |none=>none
  |none=>none
def uh(o:List (List Nat))(x:Operand):List (Nat×Nat):=
 match o with
 | []=>[]
 |_::_=>src x
def kp:State->List (Nat×Operand)->List (Nat×SV×List (List Nat))×List (Nat×Nat)
 |_,[]=>([],[])
 |s,(i,x)::r=>((i,s.aF x,(s.aF x).own)::(kp (s.close (uh (s.aF x).own x)) r).1,uh (s.aF x).own x++(kp (s.close (uh (s.aF x).own x)) r).2)
def wO(t:Ty):List (El t)->List (Nat×SV)->(List (El t)->Option R)->Option R
 |xs,[],K=>K xs
 |xs,(i,v)::r,K=>if Nat.ble (i+1) xs.length=false then none else v.el t fun y=>wO t (xs.set i y) r K
def On(ops:List Oper)(d:Option Nat):Bool:=
 match d with
 |some d=>ops.any fun o=>match o.op with
  | .call ⟨.builtin .append,args,_⟩=>match args.toList with
    | .tmp t::_=>Nat.beq t d
    |_=>false
  |_=>false
 |none=>false
def G4(ops:List Oper)(d:Option Nat):Bool:=
 match d with
 |some d=>ops.any fun o=>match o.op,o.dst with
  | .indexAddr _ (.tmp t) _,some a=>Nat.beq t d&&ops.any fun q=>match q.op with
    | .store _ (.tmp b) _=>Nat.beq a b
    |_=>false
  |_,_=>false
 |none=>false
def vW(E:Env)(ops:List Oper)(d:Option Nat):Bool:=
 match d with
 |some d=>ops.any fun o=>match o.op with
  | .store _ (.tmp r) (.tmp t)=>Nat.beq t d&&E.outs.any (Nat.beq r)
  |_=>false
 |none=>false
def getM{α:Type}(j:Nat)(m:Option α×Option α):Option α:=bif Nat.beq j 0 then m.1 else bif Nat.beq j 1 then m.2 else none
def fE{α:Type}(j:Nat)(y:Option α)(m:Option α×Option α):Option α×Option α:=bif Nat.beq j 0 then(y,m.2) else(m.1,y)
def lC(s:State)(id:Nat)(a b:Ty)(K:El (.aI .bE a b)->List (List Nat)->Option R):Option R:=
 match s.box id with
 |some B=>if h:B.t.bV (.aI .bE a b)=true then bif iY.all (zx B.own) then K (Ty.cast h B.x) B.own else none else none
 |none=>none
def Ao(u':Ty)(s:State)(id:Nat)(t:Ty)(p:List Nat)(K:Out->Option R):Option R:=
 match t,p with
 | .aI .row a b,[i]=>match s.box id with
   |some B=>if h:B.t.bV (.aI .row a b)=true then if u'.bV a=true then
     bif Nat.ble (i+1) (List.length (Ty.cast h B.x:List (El a))) then K {v:=[.ai a (List.getD (Ty.cast h B.x:List (El a)) i (El.bH a)) []]} else none
    else none else none
   |none=>none
 | .aI .bE a b,[0]=>if u'.bV a=true then lC s id a b fun x _=>K {v:=[.ai a x.1 []]} else none
 | .aI .bE a b,[2]=>if u'.bV (.int .i64)=true then lC s id a b fun x _=>K {v:=i64 x.2.2} else none
 |_,_=>none
def zX(u:Ty)(s:State)(id:Nat)(t:Ty)(p:List Nat)(v:SV)(K:Out->Option R):Option R:=
 match t,p with
 | .aI .row a b,[i]=>match s.box id with
   |some B=>if h:B.t.bV (.aI .row a b)=true then if a.bV u=true then
     v.el a fun y=>bif Nat.ble (i+1) (List.length (Ty.cast h B.x:List (El a))) then K {v:=[.skip],bx:=some (id,⟨.aI .row a b,(List.set (Ty.cast h B.x:List (El a)) i y:List (El a)),[]⟩)} else none
    else none else none
   |none=>none
 | .aI .bE a b,0::q=>match a.at_ q with
   |some u'=>if u'.bV u=true then lC s id a b fun x own=>v.el u fun y=>match El.set a q x.1 u y with
     |some z=>bif zx own [] then K {v:=[.skip],bx:=some (id,⟨.aI .bE a b,(z,x.2),own⟩)} else none
     |none=>none
    else none
   |none=>none
 | .aI .bE a b,[2]=>if u.bV (.int .i64)=true then lC s id a b fun x own=>v.el (.int .i64) fun n=>bif zx own [] then K {v:=[.skip],bx:=some (id,⟨.aI .bE a b,(x.1,x.2.1,n),own⟩)} else none else none
 |_,_=>none
def BU(v:SV)(j:Nat)(ta tb:Ty)(K:Out->Option R):Option R:=
 match v with
 | .ptr id (.aI .bE a b) []=>if(a.bV ta&&b.bV tb)=true then bif Nat.ble j 2 then K {v:=[.ptr id (.aI .bE a b) [j]]} else none else none
 |_=>none
def Hy(t:Ty)(n:Int)(id:Nat)(r:Ty)(p:List Nat)(K:Out->Option R):Option R:=
 match r,p with
 | .aI (.gW m) a b,[]=>if a.bV t=true then zc n m (K {v:=[.ptr id (.aI .row a b) [n.toNat]]}) else none
 |_,_=>none
def BN(u':Ty)(B:bj)(t:Ty)(p:List Nat)(K:Out->Option R):Option R:=
 match t,p with
 | .arr n e,[]=>if h:B.t.bV (.aI .row e .unit)=true then if u'.bV (.arr n e)=true then
    bif Nat.beq n (List.length (Ty.cast h B.x:List (El e))) then K {v:=[.ai (.arr n e) (Ty.cast h B.x:List (El e)) []]} else none
   else none else none
 |_,_=>none
def iE(E:Env)(T:TypeId)(s:State)(v:SV)(K:Out->Option R):Option R:=
 match v with
 | .ptr id (.aI .bE a b) [1,j]=>if E.pt T=true then lC s id a b fun x own=>bif zx own [] then K {v:=[.bh id a b j],bx:=some (id,⟨.aI .bE a b,x,own.filter fun q=> !q.isEmpty⟩)} else none else none
 |_=>none
def load(E:Env)(T:TypeId)(s:State)(la:Bool)(a:SV)(K:Out->Option R):Option R:=
 match E.ty T with
 |some u'=>match a with
  | .view t x=>if u'.bV t=true then K {v:=[.ai t x []]} else none
  | .ptr id t p=>if t.bn=true then Ao u' s id t p K else match s.box id with
    |some B=>if B.t.bV t=true then
      match El.get B.t p B.x with
      |some ⟨u,y⟩=>if u'.bV u=true then
        bif la then K {v:=[.ai u y (Ix B.own p)],bx:=some (id,{B with own:=ui B.own p})} else K {v:=[.ai u y []]}
       else none
      |none=>none
     else BN u' B t p K
    |none=>none
  |_=>none
 |none=>iE E T s a K
def store(E:Env)(T:TypeId)(s:State)(a:SV)(vo:Operand)(K:Out->Option R):Option R:=
 match E.ty T with
 |some u=>match a with
  | .ptr id t p=>if t.bn=true then zX u s id t p (s.aF vo) K else match s.box id with
    |some B=>if B.t.bV t=true then
      match t.at_ p with
      |some u'=>if u'.bV u=true then
        (s.aF vo).el u fun y=>match El.set B.t p B.x u y with
        |some z=>K {v:=[.skip],bx:=some (id,{t:=B.t,x:=z,own:=(s.aF vo).own.map (fun q=>p++q)++ui B.own p}),cl:=src vo}
        |none=>none
       else none
      |none=>none
     else none
    |none=>none
  |_=>none
 |none=>none
def Ty.cO:Ty->Bool
 | .pair .. =>true
 |_=>false
def BJ(u:Ty)(id:Nat)(t:Ty)(p:List Nat)(j:Nat)(K:Out->Option R):Option R:=
 match t,p with
 | .aI .bE a b,0::q=>match a.at_ q with
   |some u'=>if(u.bV u'&&u.cO)=true then match u.at_ [j] with
     |some f=>if Nat.beq f.cells 0=true then none else K {v:=[.ptr id (.aI .bE a b) (0::(q++ [j]))]}
     |none=>none
    else none
   |none=>none
 |_,_=>none
def BM(m:Nat)(t:Ty)(n:Int)(id:Nat)(r:Ty)(p:List Nat)(K:Out->Option R):Option R:=
 match r,p with
 | .aI .bE a b,0::q=>match a.at_ q with
   |some u=>if u.bV (.arr m t)=true then zc n m (K {v:=[.ptr id (.aI .bE a b) (0::(q++ [n.toNat]))]}) else none
   |none=>none
 |_,_=>none
def Ir(t?:Option Ty)(a:SV)(j:Nat)(K:Out->Option R):Option R:=
 match t?,a with
 |some u,.ptr id t p=>if t.bn=true then BJ u id t p j K else match t.at_ p with
  |some u'=>if(u.bV u'&&u.cO)=true then match u.at_ [j] with
    |some f=>if Nat.beq f.cells 0=true then none else K {v:=[.ptr id t (p++ [j])]}
    |none=>none
   else none
  |none=>none
 |some u,.view t x=>if(u.bV t&&u.cO)=true then match El.get t [j] x with
   |some ⟨f,y⟩=>if Nat.beq f.cells 0=true then none else K {v:=[.view f y]}
   |none=>none
  else none
 |_,_=>none
def SV.num(s:SV)(K:Int->Option R):Option R:=
 match s with
 | .ai (.int _) n _=>K n
 |_=>none
def Iu(E:Env)(T:TypeId)(a i:SV)(K:Out->Option R):Option R:=
 i.num fun n=>match E.ty T,a with
  |some (.sl e t),.ai t' xs _=>(SV.ai t' xs []).el (.sl e t) fun ys=>zc n ys.length (K {v:=[.view t (List.getD ys n.toNat (El.bH t))]})
  |some (.arr m t),.ptr id r p=>if r.bn=true then BM m t n id r p K else match r.at_ p with
   |some u=>if u.bV (.arr m t)=true then zc n m (K {v:=[.ptr id r (p++ [n.toNat])]}) else none
   |none=>none
  |some (.arr m t),.view t' xs=>(SV.ai t' xs []).el (.arr m t) fun ys=>zc n m (K {v:=[.view t (List.getD ys n.toNat (El.bH t))]})
  |some (.sl _ t),.ptr id r p=>Hy t n id r p K
  |none,.ptr id (.aI .bE a b) [1]=>if E.ga T=true then zc n 2 (K {v:=[.ptr id (.aI .bE a b) [1,n.toNat]]}) else none
  |_,_=>none
def Iv(E:Env)(T:TypeId)(a i:SV)(K:Out->Option R):Option R:=
 i.num fun n=>match E.ty T with
  |some .str=>a.el .str fun s=>zc n s.size (K {v:=[.ai (.int .u8) (zd s n.toNat) []]})
  |some (.arr m t)=>a.el (.arr m t) fun ys=>zc n m (K {v:=[.ai t (List.getD ys n.toNat (El.bH t)) []]})
  |_=>none
def n0(E:Env)(T:TypeId)(a:SV)(lo hi:Option SV)(K:Out->Option R):Option R:=
 match E.ty T with
 |some .str=>a.el .str fun s=>cutAt lo hi s.size fun l h=>K {v:=[.ai .str (s.extract l h) []]}
 |some (.sl e t)=>a.el (.sl e t) fun xs=>cutAt lo hi (List.length xs) fun l h=>K {v:=[.ai (.sl e t) ((List.take h xs).drop l) []]}
 |_=>none
def H6(E:Env)(T U:TypeId)(bo:Operand)(b x:SV)(K:Out->Option R):Option R:=
 if Nat.beq T U=false then none else
 match E.ty T with
 |some (.sl e t)=>if(Nat.beq (E.bytes e) 0||Nat.beq t.cells 0)=true then none else match b with
  | .cj=>x.el (.sl e t) fun ys=>bif decide (List.length ys*E.bytes e<=140737488355328) then K {v:=[.ai (.sl e t) ys [[]]]} else none
  | .ai t' xs o=>if zx o []=false then none else(SV.ai t' xs o).el (.sl e t) fun xs=>x.el (.sl e t) fun ys=>
    bif decide ((List.length xs+List.length ys)*E.bytes e<=140737488355328) then K {v:=[.ai (.sl e t) (xs++ys:List (El t)) [[]]],cl:=src bo} else none
  |_=>none
 |_=>none
def qO(E:Env)(T:TypeId)(x:SV)(K:Out->Option R):Option R:=
 match E.ty T with
 |some .str=>x.el .str fun s=>K {v:=i64 (s.size:Int)}
 |some (.sl e t)=>match x with
  | .ptr _ (.aI (.gW n) _ _) []=>K {v:=i64 (n:Int)}
  |x=>x.el (.sl e t) fun xs=>K {v:=i64 (List.length xs:Int)}
 |some (.arr n _)=>K {v:=i64 (n:Int)}
 |_=>none
def jl(E:Env)(S T:TypeId)(x:SV)(K:Out->Option R):Option R:=
 match E.ty S,E.ty T with
 |some (.int k),some (.int k')=>x.el (.int k) fun n=>K {v:=[.ai (.int k') (k'.wrap n) []]}
 |some .str,some .str=>x.el .str fun s=>K {v:=[.ai .str s []]}
 |some (.sl e (.int .u8)),some .str=>x.el (.sl e (.int .u8)) fun xs=>K {v:=[.ai .str (strOf xs) []]}
 |_,_=>none
def io(E:Env)(S T:TypeId)(s:State)(id n:Nat)(a b:Ty)(K:Out->Option R):Option R:=
 match E.ty S,E.ty T with
 |some (.sl _ (.int .u8)),some .str=>if a.bV (.int .u8)=true then match s.box id with
  |some B=>if h:B.t.bV (.aI .row (.int .u8) b)=true then bif Nat.beq n (List.length (Ty.cast h B.x:List Int)) then K {v:=[.ai .str (strOf (Ty.cast h B.x:List Int)) []]} else none else none
  |none=>none else none
 |_,_=>none
def ld(E:Env)(T:TypeId):Option (Ty×Ty):=
 match E.mp T with
 |some (k,e)=>match E.ty k,E.ty e with
  |some kt,some vt=>if kt.isKey=true then some (kt,vt) else none
  |_,_=>none
 |none=>none
def iG(s:State)(dst:Option Nat)(t:Ty)(x:El t)(p:Ty)(K:Out->Option R):Option R:=
 match dst with
 |some d=>match s.bs[d+1]? with
  |some none=>K {v:=[.ptr (d+1) p []],bx:=some (d+1,⟨t,x,[]⟩)}
  |_=>none
 |none=>none
def rV(s:State)(m:SV)(kt vt:Ty)(K:Nat->List (El kt×El vt)->Option R):Option R:=
 match m with
 | .ptr id (.aI .mp Qb RW) []=>if((Ty.aI .mp Qb RW).bV (.aI .mp kt vt))=true then match s.box id with
   |some B=>if h:B.t.bV (.aI .mp kt vt)=true then K id (Ty.cast h B.x) else none
   |none=>none else none
 |_=>none
def js(E:Env)(T:TypeId)(s:State)(m i:SV)(K:Out->Option R):Option R:=
 match ld E T with
 |some (kt,vt)=>rV s m kt vt fun _ xs=>i.el kt fun k=>K {v:=[.ai vt (dY (eP kt) (El.bH vt) xs k) []]}
 |none=>none
def kd(E:Env)(T:TypeId)(s:State)(m i v:SV)(K:Out->Option R):Option R:=
 match ld E T with
 |some (kt,vt)=>rV s m kt vt fun id xs=>i.el kt fun k=>v.el vt fun y=>bif dZ (eP kt) xs k then none else K {v:=[.skip],bx:=some (id,⟨.aI .mp kt vt,(xs++ [(k,y)]:List (El kt×El vt)),[]⟩)}
 |none=>none
def iz:Ty:= .aI .iter .unit .unit
def ju(s:State)(m:SV)(K:Out->Option R):Option R:=
 match m with
 | .ptr id (.aI .iter .unit .unit) []=>match s.box id with
   |some B=>if h:B.t.bV iz=true then
     bif decide ((Ty.cast h B.x:ByteArray×Nat).2<(Ty.cast h B.x:ByteArray×Nat).1.size) then
      K {v:=[.ai .bool true [],.ai (.int .i64) ((Ty.cast h B.x:ByteArray×Nat).2:Int) [],.ai (.int .i32) ((Utf8.decode (Ty.cast h B.x:ByteArray×Nat).1 (Ty.cast h B.x:ByteArray×Nat).2).1:Int) []],
         bx:=some (id,⟨iz,((Ty.cast h B.x:ByteArray×Nat).1,(Ty.cast h B.x:ByteArray×Nat).2+(Utf8.decode (Ty.cast h B.x:ByteArray×Nat).1 (Ty.cast h B.x:ByteArray×Nat).2).2),[]⟩)}
     else K {v:=[.over]}
    else none
   |none=>none
 |_=>none
def Gr:Operand->Bool
 | .const _=>true
 |_=>false
def jt(E:Env)(T:TypeId)(s:State)(dst:Option Nat)(lo:Operand)(l c:SV)(K:Out->Option R):Option R:=
 match E.ty T with
 |some (.sl e t)=>if(Nat.beq (E.bytes e) 0||Nat.beq t.cells 0)=true then none else l.el (.int .i64) fun n=>c.el (.int .i64) fun m=>
  bif Gr lo then
   bif decide (n=0) then bif decide (0<=m) then bif decide (m*E.bytes e<=140737488355328) then K {v:=[.ai (.sl e t) ([]:List (El t)) [[]]]} else none else none else none
  else bif decide (n=m) then bif decide (0<=n) then bif decide (n*E.bytes e<=140737488355328) then iG s dst (.aI .row t .unit) (List.replicate n.toNat (El.bH t):List (El t)) (.aI (.gW n.toNat) t .unit) K else none else none else none
 |_=>none
def E8(op:UnOp)(x:SV)(K:Out->Option R):Option R:=
 match op,x with
 | .not,.ai .bool b _=>K {v:=bl (!b)}
 | .neg,.ai (.int k) n _=>K {v:=[.ai (.int k) (k.wrap (0-n)) []]}
 |_,_=>none
def kH(f:FuncId)(x:SV)(K:Out->Option R):Option R:=
 match x with
 | .ptr id u []=>if u.nq=true then none else K {v:=[.ptr id (.aI (.oI f) u .unit) []]}
 |_=>none
def qg(n id:Nat)(a b:Ty)(lo hi:Option SV)(K:Out->Option R):Option R:=
 match hi with
 |some _=>none
 |none=>uo lo n fun l=>K {v:=[.ptr id (.aI (.gW n) a b) [l]]}
def nZ(E:Env)(T:TypeId)(s:State)(id n:Nat)(t:Ty)(lo hi:Option SV)(K:Out->Option R):Option R:=
 match E.ty T,lo,hi with
 |some u,none,none=>if u.bV (.arr n t)=true then match s.box id with
  |some B=>if h:B.t.bV (.arr n t)=true then K {v:=[.ptr id (.aI (.gW n) t .unit) []],bx:=some (id,⟨.aI .row t .unit,(Ty.cast h B.x:List (El t)),[]⟩)} else none
  |none=>none else none
 |_,_,_=>none
def nA(s:ByteArray):List Int:=s.data.toList.map fun c=>(c.toNat:Int)
def cu{α:Type}(xs ys:List α)(lo:Nat):List α:=xs.take lo++(ys++xs.drop (lo+ys.length))
def fN(t:Ty)(s:State)(id n lo:Nat)(a b:Ty)(x:SV)(e:TypeId)(K:Out->Option R):Option R:=
 if a.bV t=true then x.el (.sl e t) fun(ys:List (El t))=>match s.box id with
  |some B=>if h:B.t.bV (.aI .row t b)=true then
    bif Nat.beq n (List.length (Ty.cast h B.x:List (El t))) then bif Nat.ble lo n then
     K {v:=i64 ((ys.take (n-lo)).length:Int),bx:=some (id,⟨.aI .row t b,(cu (Ty.cast h B.x:List (El t)) (ys.take (n-lo)) lo:List (El t)),[]⟩)}
    else none else none
   else none
  |none=>none else none
def iq(t:Ty)(s:State)(id n:Nat)(a b:Ty)(y:ByteArray)(K:Out->Option R):Option R:=
 if t.bV (.int .u8)=true then if a.bV (.int .u8)=true then match s.box id with
  |some B=>if h:B.t.bV (.aI .row (.int .u8) b)=true then
    bif Nat.beq n (List.length (Ty.cast h B.x:List Int)) then
     K {v:=i64 ((List.take n (nA y)).length:Int),bx:=some (id,⟨.aI .row (.int .u8) b,(cu (Ty.cast h B.x:List Int) (List.take n (nA y)) 0:List Int),[]⟩)}
    else none
   else none
  |none=>none else none else none
def copyV(E:Env)(T:TypeId)(s:State)(d x:SV)(K:Out->Option R):Option R:=
 match E.ty T,d with
 |some (.sl e t),.ptr id (.aI (.gW n) a b) []=>(match x with
  | .ai .str y _=>iq t s id n a b y K
  |x=>fN t s id n 0 a b x e K)
 |some (.sl e t),.ptr id (.aI (.gW n) a b) [l]=>fN t s id n l a b x e K
 |_,_=>none
def EK(t b:Ty):Bool:=
 b.bV t||(match t with
  | .aI (.oI _) u _=>b.bV u
  |_=>false)
def gP(s:State):List SV->Option (List SV×Option (Nat×bj))
 | []=>some ([],none)
 |v::r=>match gP s r with
  |none=>none
  |some (l,b)=>match v,b with
   | .ai t x _,b=>some (.ai t x []::l,b)
   | .cj,b=>some (.cj::l,b)
   | .view t x,b=>some (.view t x::l,b)
   | .ptr id t [],none=>match s.box id with
     |some B=>if EK t B.t=true then some (.ptr 0 t []::l,some (id,B)) else none
     |none=>none
   |_,_=>none
def SV.eY(id:Nat):SV->SV
 | .ptr _ t p=> .ptr id t p
 |v=>v
def AD(s:State):List Operand->Option (Nat×Nat×Ty×Ty×Nat×List Operand)
 | .tmp t::r=>match s.slot t with
   | [.bh id a b j]=>some (t,id,a,b,j,r)
   |_=>none
 |_=>none
def im(C:FuncId->bI R)(s:State)(f:FuncId)(t id:Nat)(a b:Ty)(j:Nat)(vs:List SV)(K:Out->Option R):Option R:=
 if b.bn=true then none else match gP s vs with
 |some (l,none)=>lC s id a b fun x own=>match getM j x.2.1 with
  |some y=>C f (.ptr 0 b []::l) (some ⟨b,y,wQ⟩) fun r B'=>match B' with
   |some B'=>if h:B'.t.bV b=true then bif zx B'.own [2] then K {v:=r,bx:=some (id,⟨.aI .bE a b,(x.1,fE j (some (Ty.cast h B'.x)) x.2.1,x.2.2),[]::own⟩),cl:=[(t,0)]} else none else none
   |none=>none
  |none=>none
 |_=>none
def eN(C:FuncId->bI R)(s:State)(dst:Option Nat)(f:FuncId)(vs:List SV)(K:Out->Option R):Option R:=
 match gP s vs with
 |some (l,none)=>C f l none fun r B=>match B with
  |none=>K {v:=r}
  |some B=>match dst with
   |some d=>match s.bs[d+1]? with
    |some none=>K {v:=r.map (SV.eY (d+1)),bx:=some (d+1,B)}
    |_=>none
   |none=>none
 |some (l,some (id,B))=>if(B.t.dK&& !zx B.own [])=true then none else C f l (some B) fun r B'=>match B' with
  |some B'=>if B'.t.bV B.t=true then K {v:=r,bx:=some (id,B')} else none
  |none=>none
 |none=>none
def iF(g:Bool)(x y:SV)(K:Out->Option R):Option R:=
 match x,y with
 | .ai (.int k) m _,.ai (.int _) n _=>K {v:=[.ai (.int k) (bif g then(if m<n then n else m) else(if n<m then n else m)) []]}
 |_,_=>none
def l7(E:Env)(T:TypeId)(K:Out->Option R):Option R:=
 match E.ty T with
 |some (.sl e t)=>K {v:=[.ai (.sl e t) ([]:List (El t)) [[]]]}
 |_=>K {v:=[.cj]}
def ln(s:State):Operand->Option (Nat×List SV)
 | .tmp t=>bif Nat.beq (s.slot t).length 1 then none else some (t,s.slot t)
 |_=>none
def iJ(t:Nat):Nat->List (Nat×Nat)
 |0=>[]
 |n+1=>(t,n)::iJ t n
def eD(E:Env)(d:Option Nat):Bool:=
 match d with
 |some d=>E.sh.any (Nat.beq d)
 |none=>false
def takes(E:Env)(d:Option Nat):Bool:=
 match d with
 |some d=>E.mv.any (Nat.beq d)
 |none=>false
def Out.shut(u:Out):Out:={u with v:=u.v.map SV.shut}
def qc(f:FuncId)(x y:SV)(K:Out->Option R):Option R:=
 match x,y with
 | .view t a,.view u b=>K {v:=[.cap f t a u b]}
 |_,_=>none
def act(E:Env)(C:FuncId->bI R)(ops:List Oper)(o:Oper)(s:State)(K:Out->Option R):Option R:=
 match o.op with
 | .move x=>match ln s x with
   |some (t,l)=>bif eD E o.dst then K {v:=l.map SV.shut} else K {v:=l,cl:=bif l.all fun v=>v.own.isEmpty then [] else iJ t l.length}
   |none=>match s.aF x with
    | .ai t y w=>bif On ops o.dst||takes E o.dst then K {v:=[.ai t y w],cl:=uh w x} else K {v:=[.ai t y []]}
    | .undef=>none
    | .bh _ _ _ _=>none
    | .cj=>l7 E o.type K
    |v=>K {v:=[v]}
 | .assign x=>match s.aF x with
   | .ai t y w=>K {v:=[.ai t y w],cl:=uh w x}
   | .undef=>none
   | .bh _ _ _ _=>none
   | .cj=>l7 E o.type K
   |v=>K {v:=[v]}
 | .pick c a b=>match s.aF c with
   | .ai .bool p _=>bif p then K {v:=[(s.aF a).shut]} else K {v:=[(s.aF b).shut]}
   |_=>none
 | .binOp op T x y _=>bin E op T (s.aF x) (s.aF y) fun v=>K {v}
 | .unOp op _ x=>E8 op (s.aF x) K
 | .convert S T x=>match s.aF x with
   | .ptr id (.aI (.gW n) a b) []=>io E S T s id n a b K
   |v=>jl E S T v K
 | .load T a=>load E T s (On ops o.dst||vW E ops o.dst||G4 ops o.dst) (s.aF a) K
 | .store T a x=>store E T s (s.aF a) x K
 | .nilCheck x=>match s.aF x with
   | .ptr id t p=>if(t.bn&& !t.dK)=true then none else K {v:=[.ptr id t p]}
   | .view t y=>K {v:=[.view t y]}
   |_=>none
 | .fieldAddr T x j=>match E.gr T with
   |some (ta,tb)=>BU (s.aF x) j ta tb K
   |none=>Ir (E.ty T) (s.aF x) j K
 | .indexAddr T x i=>Iu E T (s.aF x) (s.aF i) K
 | .index T x i=>Iv E T (s.aF x) (s.aF i) K
 | .field T x j=>match E.ty T with
   |some t=>if t.cO=false then none else(s.aF x).el t fun y=>match El.get t [j] y with
    |some ⟨u,z⟩=>K {v:=[.ai u z []]}
    |none=>none
   |none=>none
 | .slice T x lo hi none=>match s.aF x with
   | .ptr id (.aI (.gW n) a b) []=>(match E.ty T with
     |some (.sl _ t)=>if a.bV t=true then qg n id a b (lo.map s.aF) (hi.map s.aF) K else none
     |_=>none)
   | .ptr id (.arr n t) []=>nZ E T s id n t (lo.map s.aF) (hi.map s.aF) K
   |v=>n0 E T v (lo.map s.aF) (hi.map s.aF) K
 | .makeFunc (.func f) first captured=>match first.toList,captured.toList with
   | [],[x]=>kH f (s.aF x) K
   | [],[x,y]=>qc f (s.aF x) (s.aF y) K
   |_,_=>none
 | .alloc T=>match E.ty T,o.dst with
   |some t,some d=>match s.bs[d+1]? with
    |some none=>K {v:=[.ptr (d+1) t []],bx:=some (d+1,⟨t,El.bH t,uc t⟩)}
    |_=>none
   |none,some d=>(match E.gr T with
    |some (ta,tb)=>match s.bs[d+1]? with
     |some none=>K {v:=[.ptr (d+1) (.aI .bE ta tb) []],bx:=some (d+1,⟨.aI .bE ta tb,(El.bH ta,(none,none),(0:Int)),[]::iY⟩)}
     |_=>none
    |none=>match E.bl T with
    |some e=>match s.bs[d+1]? with
     |some none=>K {v:=[.ptr (d+1) (.aI (.fe T e) .unit .unit) []],bx:=some (d+1,⟨.aI (.fe T e) .unit .unit,(⟨#[]⟩:ByteArray),[[]]⟩)}
     |_=>none
    |none=>none)
   |_,_=>none
 | .box T x=>match E.ty T,o.dst with
   |some t,some d=>match s.bs[d+1]? with
    |some none=>(s.aF x).el t fun y=>K {v:=[.ptr (d+1) t []],bx:=some (d+1,⟨t,y,(s.aF x).own⟩),cl:=src x}
    |_=>none
   |_,_=>none
 | .build T parts=>match E.ty T with
   |some t=>if t.agg=false then none else ou t (El.bH t) (uc t) (kp s parts.toList).1 fun y own=>K {v:=[.ai t y own],cl:=(kp s parts.toList).2}
   |none=>none
 | .buildSlice T n parts=>match E.ty T with
   |some (.sl e t)=>if Nat.beq t.cells 0=true then none else bif Nat.ble (n*t.cells) 16777216 then wO t (List.replicate n (El.bH t)) (parts.toList.map fun p=>(p.1,s.aF p.2)) fun y=>K {v:=[.ai (.sl e t) y [[]]]} else none
   |_=>none
 | .extract x j=>match x with
   | .tmp t=>if Nat.beq (s.slot t).length 1=true then(match one (s.slot t),j with
      | .over,0=>K {v:=bl false}
      |_,_=>none) else match(s.slot t)[j]? with
     |some (.ai u y w)=>K {v:=[.ai u y w],cl:=bif w.isEmpty then [] else [(t,j)]}
     |some .undef=>none
     |some (.bh _ _ _ _)=>none
     |some v=>K {v:=[v]}
     |none=>none
   |_=>none
 | .makeMap T none=>match ld E T with
   |some (kt,vt)=>iG s o.dst (.aI .mp kt vt) ([]:List (El kt×El vt)) (.aI .mp kt vt) K
   |none=>none
 | .lookup T x i false=>js E T s (s.aF x) (s.aF i) K
 | .mapUpdate T m k x=>kd E T s (s.aF m) (s.aF k) (s.aF x) K
 | .insert T m k x=>kd E T s (s.aF m) (s.aF k) (s.aF x) K
 | .range T x=>match E.ty T with
   |some .str=>(s.aF x).el .str fun y=>iG s o.dst iz ((y,0):ByteArray×Nat) iz K
   |_=>none
 | .next x true=>ju s (s.aF x) K
 | .makeSlice T l c=>jt E T s o.dst l (s.aF l) (s.aF c) K
 | .call ⟨.value (.func f),args,_⟩=>match AD s args.toList with
   |some (t,id,a,b,j,r)=>im C s f t id a b j (r.map s.aF) K
   |none=>eN C s o.dst f (args.toList.map s.aF) fun u=>K (bif eD E o.dst then u.shut else u)
 | .call ⟨.value (.tmp y),args,_⟩=>match s.aF (.tmp y) with
   | .ptr id (.aI (.oI f) u _) []=>if u.nq=true then none else eN C s o.dst f (args.toList.map s.aF++ [.ptr id u []]) K
   | .cap f t x u y=>eN C s o.dst f (args.toList.map s.aF++ [.view t x,.view u y]) K
   |_=>none
 | .call ⟨.builtin .copy,args,argTypes⟩=>match args.toList,argTypes.toList with
   | [d,x],T::_=>copyV E T s (s.aF d) (s.aF x) K
   |_,_=>none
 | .call ⟨.builtin .len,args,argTypes⟩=>match args.toList,argTypes.toList with
   | [x],[T]=>qO E T (s.aF x) K
   |_,_=>none
 | .call ⟨.builtin .append,args,argTypes⟩=>match args.toList,argTypes.toList with
   | [b,x],[T,U]=>H6 E T U b (s.aF b) (s.aF x) K
   |_,_=>none
 | .call ⟨.builtin .max,args,_⟩=>match args.toList with
   | [x,y]=>iF true (s.aF x) (s.aF y) K
   |_=>none
 | .call ⟨.builtin .min,args,_⟩=>match args.toList with
   | [x,y]=>iF false (s.aF x) (s.aF y) K
   |_=>none
 |_=>none
def Ia(ops:List Oper)(g:Nat):Option Nat:=(ops[g]?).bind (·.dst)
def step(E:Env)(C:FuncId->bI R)(ops:List Oper)(o:Oper)(s:State)(K:State->Option R):Option R:=
 let go (s:State):Option R:=act E C ops o s fun u=>K (s.apply o.dst u)
 let pass (s:State):Option R:=K (s.ap o.dst [.skip])
 match o.guard with
 |none=>go s
 |some (g,want)=>match Ia ops g with
  |none=>none
  |some d=>match s.slot d with
   | [.ai .bool p []]=>bif p then(let s:=s.ap (some d) (bl true);bif want then go s else pass s) else(let s:=s.ap (some d) (bl false);bif want then pass s else go s)
   | [.skip]=>pass s
   |_=>none
def steps(E:Env)(C:FuncId->bI R)(ops:List Oper):List Oper->State->(State->Option R)->Option R
 | [],s,K=>K s
 |o::r,s,K=>step E C ops o s fun s=>steps E C ops r s K
structure dp where
 i:Nat
 r:Nat
 w:Nat
 br:Nat
 bw:Nat
def bit(i:Nat):Nat:=1<<<i
def gI:List Nat->Nat
 | []=>0
 |i::r=>bit i|||gI r
def oC:List Operand->List Nat
 | []=>[]
 | .tmp t::r=>t::oC r
 |_::r=>oC r
def looks(ops:List Oper)(o:Oper):List Nat:=oC o.op.operands.toList++(match o.guard with
 |some (g,_)=>(Ia ops g).toList
 |none=>[])
def bU:SV->List Nat
 | .ptr id _ _=>[id]
 | .bh id _ _ _=>[id]
 |_=>[]
def zq(s:State)(o:Oper):List Nat:=
 match o.op with
 | .load _ a=>bU (s.aF a)
 | .store _ a _=>bU (s.aF a)
 | .alloc _| .box _ _| .makeMap _ _| .range _ _| .makeSlice _ _ _=>o.dst.toList.map fun d=>d+1
 | .convert _ _ x=>bU (s.aF x)
 | .slice _ x _ _ _=>bU (s.aF x)
 | .lookup _ x _ _=>bU (s.aF x)
 | .mapUpdate _ m _ _=>bU (s.aF m)
 | .insert _ m _ _=>bU (s.aF m)
 | .next x _=>bU (s.aF x)
 | .call ⟨.value y,args,_⟩=>(args.toList.flatMap fun x=>bU (s.aF x))++(bU (s.aF y)++o.dst.toList.map fun d=>d+1)
 | .call ⟨.builtin .copy,args,_⟩=>args.toList.flatMap fun x=>bU (s.aF x)
 |_=>[]
def zv(ops:List Oper)(o:Oper)(i:Nat)(s:State)(u:Out):dp:=
 ⟨i,gI (looks ops o),gI (o.dst.toList++u.cl.map (·.1)),gI (zq s o),gI (u.bx.toList.map (·.1))⟩
def dp.apart(a b:dp):Bool:=
 Nat.beq (a.w&&&(b.r|||b.w)) 0&&(Nat.beq (b.w&&&a.r) 0&&(Nat.beq (a.bw&&&(b.br|||b.bw)) 0&&Nat.beq (b.bw&&&a.br) 0))
def zr:List Edge->Nat
 | []=>0
 |e::r=>bif Region.binds .any e then bit e.on|||zr r else zr r
def gL(ops:List Oper):Nat->Nat->Nat
 |0,m=>m
 |i+1,m=>gL ops i (match ops[i]? with
  |some o=>bif m.testBit i then m|||zr o.after.toList else m
  |none=>m)
def fits(ops:List Oper)(m:Nat)(f:dp)(tr:List dp):Bool:=Nat.ble (m+1) (bit f.i)&&tr.all fun a=>m.testBit a.i||(a.apart f||(gL ops f.i m).testBit a.i)
def jB(E:Env)(C:FuncId->bI R)(ops:List Oper)(o:Oper)(i:Nat)(s:State)(tr:List dp)(K:State->List dp->Option R):Option R:=
 let go (s:State):Option R:=act E C ops o s fun u=>bif fits ops (zr o.after.toList) (zv ops o i s u) tr then K (s.apply o.dst u) (zv ops o i s u::tr) else none
 let pass (s:State):Option R:=bif fits ops (zr o.after.toList) (zv ops o i s {v:=[.skip]}) tr then K (s.apply o.dst {v:=[.skip]}) (zv ops o i s {v:=[.skip]}::tr) else none
 match o.guard with
 |none=>go s
 |some (g,want)=>match Ia ops g with
  |none=>none
  |some d=>match s.slot d with
   | [.ai .bool p []]=>bif p then(let s:=s.ap (some d) (bl true);bif want then go s else pass s) else(let s:=s.ap (some d) (bl false);bif want then pass s else go s)
   | [.skip]=>pass s
   |_=>none
def uw(E:Env)(C:FuncId->bI R)(ops:List Oper):List Oper->Nat->State->List dp->(State->Option R)->Option R
 | [],_,s,_,K=>K s
 |o::r,i,s,tr,K=>jB E C ops o i s tr fun s tr=>uw E C ops r (i+1) s tr K
inductive Ex where
 |normal
 |exit (id:Nat)
 |ret
def rh:Code->Nat
 | .region id _ _=>id
 | .seq a _=>rh a
 | .cond _ a _=>rh a
 | .block _ b=>rh b
 | .loop b=>rh b
 |_=>0
def eU{α:Type}(z:α)(l:List Nat):Nat->List α->List α
 |_,[]=>[]
 |i,x::r=>(bif l.any (Nat.beq i) then x else z)::eU z l (i+1) r
def SV.roots(l:List Nat):SV->Bool
 | .ptr 0 _ _=>true
 | .ptr (id+1) _ _=>l.any (Nat.beq id)
 | .bh 0 _ _ _=>true
 | .bh (id+1) _ _ _=>l.any (Nat.beq id)
 |_=>true
def Qd:List Nat->List Nat->Bool
 | [],[]=>false
 | [],_::_=>true
 |_::_,[]=>false
 |a::p,b::q=>Nat.ble (a+1) b||(Nat.beq a b&&Qd p q)
def qK(p:List Nat):List (List Nat)->List (List Nat)
 | []=>[p]
 |q::r=>bif Qd q p then q::qK p r else p::q::r
def lj:List (List Nat)->List (List Nat)
 | []=>[]
 |p::r=>qK p (lj r)
def SV.norm:SV->SV
 | .ai t x own=> .ai t x (lj own)
 |v=>v
def bj.norm(B:bj):bj:={B with own:=lj B.own}
def State.norm(s:State):State:=⟨s.sl.map fun v=>v.map SV.norm,s.bs.map fun b=>b.map bj.norm⟩
def ox(l:List Nat)(s:State)(K:State->Option R):Option R:=
 let sl:=eU [.undef] l 0 s.sl
 bif sl.all (fun v=>v.all (SV.roots l)) then K (State.norm ⟨sl,s.bs.headD none::eU none l 0 s.bs.tail⟩) else none
def cm(k:Nat)(f:Unit->Option R):Option R:=
 match k with
 |0=>none
 |_+1=>f ()
def lf(E:Env)(k r:Nat)(s:State)(K:State->Option R):Option R:=
 match E.join r with
 |none=>K s
 |some l=>ox l s fun s=>cm k fun _=>K s
def jW(id:Nat)(l:List SV):List SV:=l.map fun v=>match v with
 | .ptr j _ _=>bif Nat.beq j id then .undef else v
 |v=>v
def om(E:Env)(r:Nat)(s:State)(K:State->Option R):Option R:=
 match E.fz r with
 |none=>K s
 |some (d,T)=>match s.slot d,E.ty T with
  | [.ptr id (.aI (.gW n) a b) []],some (.sl e t)=>if a.bV t=true then match s.box id with
    |some B=>if h:B.t.bV (.aI .row t b)=true then
      bif Nat.beq n (List.length (Ty.cast h B.x:List (El t))) then K {sl:=(s.sl.map (jW id)).set d [.ai (.sl e t) (Ty.cast h B.x:List (El t)) []],bs:=s.bs.set id none} else none
     else none
    |none=>none else none
  |_,_=>none
def oE(id:Nat)(B:bj)(v:SV):SV:=
 match v with
 | .ptr j t p=>bif Nat.beq j id then(if t.bV B.t=true then match El.get B.t p B.x with
    |some ⟨u,y⟩=> .view u y
    |none=> .undef else .undef) else .ptr j t p
 |v=>v
def Mz(id:Nat)(s:State)(K:State->Option R):Option R:=
 match s.box id with
 |some B=>if B.t.bn=true then none else K {sl:=s.sl.map fun l=>l.map (oE id B),bs:=s.bs.set id none}
 |none=>none
def BK:List Nat->State->(State->Option R)->Option R
 | [],s,K=>K s
 |id::r,s,K=>Mz id s fun s=>BK r s K
def gB(l:List Nat):Nat->List (Option bj)->List (Option bj)
 |_,[]=>[]
 |i,b::r=>(bif l.any (Nat.beq i) then b.map (fun B=>{B with own:=[]}) else b)::gB l (i+1) r
def State.drop(l:List Nat)(s:State):State:={s with bs:=gB l 0 s.bs}
def aA(body:State->(Ex->State->Option R)->Option R)(l lx:List Nat):Nat->State->(Ex->State->Option R)->Option R
 |0,_,_=>none
 |k+1,s,K=>body s fun e s=>match e with
  | .normal=>ox l s fun s=>aA body l lx k s K
  |e=>ox lx s fun s=>K e s
def Ty.flat:Ty->Bool
 | .sl _ _=>false
 | .aI _ _ _=>false
 | .arr _ t=>t.flat
 | .pair a b=>a.flat&&b.flat
 |_=>true
def SV.flat:SV->Bool
 | .ai t _ own=>t.flat&&own.isEmpty
 | .ptr _ _ _| .view _ _| .cap _ _ _ _ _| .bh _ _ _ _=>false
 |_=>true
def jn(o:Nat):Nat->List (List SV)->Bool
 |_,[]=>true
 |i,l::r=>(Nat.beq i o||l.all SV.flat)&&jn o (i+1) r
def iB:Nat->Nat->List (List SV)->List (List SV)
 |0,_,sl=>sl
 |n+1,m,sl=>iB n (m+1) (sl.set m [.undef])
def isDst(o:Oper)(d:Nat):Bool:=
 match o.dst,o.guard with
 |some d',none=>Nat.beq d' d
 |_,_=>false
def eA(x:Operand)(i:Nat):Bool:=
 match x with
 | .tmp j=>Nat.beq j i
 |_=>false
def tG(E:Env)(T:TypeId):Bool:=
 match E.ty T with
 |some (.int .u8)=>true
 |_=>false
def MA(E:Env)(T:TypeId):Bool:=
 match E.ty T with
 |some (.sl _ (.int .u8))=>true
 |_=>false
def AB(o:Oper)(d x:Nat):Bool:=isDst o d&&(match o.op with
 | .move y=>eA y x
 |_=>false)
def isLen(E:Env)(o:Oper)(d x:Nat):Bool:=isDst o d&&(match o.op with
 | .call ⟨.builtin .len,dd,ts⟩=>match dd.toList,ts.toList with
   | [y],[T]=>eA y x&&MA E T
   |_,_=>false
 |_=>false)
def Oo(o:Oper)(d x:Nat):Bool:=isDst o d&&(match o.op with
 | .binOp .sub _ y (.const (.int .i64 c)) _=>eA y x&&decide (c=1)
 |_=>false)
def tF(E:Env)(o:Oper)(d x i:Nat):Bool:=isDst o d&&(match o.op with
 | .indexAddr T y j=>eA y x&&(eA j i&&MA E T)
 |_=>false)
def yX(E:Env)(o:Oper)(d x:Nat):Bool:=isDst o d&&(match o.op with
 | .load T y=>eA y x&&tG E T
 |_=>false)
def qN(o:Oper)(d x y:Nat):Bool:=isDst o d&&(match o.op with
 | .binOp .add _ u v _=>eA u x&&eA v y
 |_=>false)
def qM(E:Env)(o:Oper)(x y:Nat):Bool:=(match o.dst,o.guard with
 |none,none=>true
 |_,_=>false)&&(match o.op with
 | .store T u v=>eA u x&&(eA v y&&tG E T)
 |_=>false)
def yZ(E:Env)(o x m:Nat)(ops:List Oper):Bool:=
 match ops with
 | [a0,a1,a2,a3,a4,a5,a6,a7,a8,a9,xC,xD,a12,DM]=>AB a0 m o&&(AB a1 (m+1) o&&(isLen E a2 (m+2) (m+1)&&(Oo a3 (m+3) (m+2)&&(AB a4 (m+4) o&&(AB a5 (m+5) o&&(isLen E a6 (m+6) (m+5)&&(Oo a7 (m+7) (m+6)&&(tF E a8 (m+8) (m+4) (m+7)&&(yX E a9 (m+9) (m+8)&&(AB xC (m+10) x&&(qN xD (m+11) (m+9) (m+10)&&(tF E a12 (m+12) m (m+3)&&qM E DM (m+12) (m+11)))))))))))))
 |_=>false
def wu(e:TypeId)(xs:List Int)(y:Int)(own:List (List Nat)):List SV:=[.ai (.sl e (.int .u8)) (xs.set (IntKind.i64.wrap ((xs.length:Int)-1)).toNat (IntKind.u8.wrap (xs.getD (IntKind.i64.wrap ((xs.length:Int)-1)).toNat 0+y)):List Int) own]
def jC(E:Env)(q:Nat×Nat×Nat)(ops:List Oper)(s:State)(K:State->Option R):Option R:=
 bif yZ E q.1 q.2.1 q.2.2 ops then
  bif Nat.ble (q.1+1) q.2.2&&(Nat.ble (q.2.1+1) q.2.2&&(!(Nat.beq q.1 q.2.1)&&Nat.ble (q.2.2+13) s.sl.length)) then
   match s.slot q.1,s.slot q.2.1 with
   | [.ai (.sl e (.int .u8)) xs own],[.ai (.int .u8) y _]=>
     bif zx own [] then
      bif jn q.1 0 (iB 13 q.2.2 s.sl)&&s.bs.all Option.isNone then
       zc (IntKind.i64.wrap ((List.length (xs:List Int):Int)-1)) (List.length (xs:List Int)) (K ⟨(iB 13 q.2.2 s.sl).set q.1 (wu e xs y own),s.bs⟩)
      else none
     else none
   |_,_=>none
  else none
 else none
def tg(own:List (List Nat)):List (List Nat):=own.filterMap fun p=>match p with
 |(j+1)::p=>some (j::p)
 |_=>none
def Ty.cp:Ty->List (List Nat)->Bool
 | .sl _ t,own=>t.flat&&zx own []
 | .pair a b,own=>a.cp (Ix own [0])&&b.cp (tg own)
 | .aI _ _ _,_=>false
 | .arr _ t,_=>t.flat
 |_,_=>true
def bj.cp(B:bj):Bool:= !B.t.bn&&B.t.cp B.own
def SV.cp(bs:List (Option bj)):SV->Bool
 | .ai t _ own=>t.cp own
 | .view _ _| .cap _ _ _ _ _| .bh _ _ _ _=>false
 | .ptr id _ _=>match bs.getD id none with
   |some B=>B.cp
   |none=>false
 |_=>true
def hold(bs:List (Option bj))(l:List SV):List SV:=bif l.all (SV.cp bs) then l else [.undef]
def Ov:Option bj->Option bj
 |some B=>bif B.cp then some B else none
 |none=>none
def State.cp(x:Nat)(s:State):State:=⟨(s.sl.set x [.undef]).map (hold s.bs),s.bs.map Ov⟩
def qR(E:Env)(x d:Nat)(T T':TypeId)(i vo:Operand)(s:State)(K:State->Option R):Option R:=
 match s.slot x with
 | [.ai (.sl e t) xs own]=>bif zx own [] then
     match E.ty T,E.ty T' with
     |some u,some w=>bif u.bV (.sl e t)&&(w.bV t&&Nat.ble (d+1) s.sl.length) then
       (s.aF i).num fun n=>((s.ap (some d) [.undef]).aF vo).el t fun _=>zc n (List.length (xs:List (El t))) (K ((s.ap (some d) [.undef]).cp x))
      else none
     |_,_=>none
   else none
 |_=>none
def jv(o:Oper):Bool:=
 match o.dst,o.guard with
 |none,none=>true
 |_,_=>false
def gK(E:Env)(oA oS:Oper)(s:State)(K:State->Option R):Option R:=
 match oA.op,oS.op with
 | .indexAddr T (.tmp x) i,.store T' (.tmp d) vo=>bif isDst oA d&&(!(Nat.beq x d)&&jv oS) then qR E x d T T' i vo s K else none
 |_,_=>none
def MC{α:Type}:List α->Option (List α×α×α)
 | []=>none
 | [_]=>none
 | [a,b]=>some ([],a,b)
 |a::r=>match MC r with
  |some (l,x,y)=>some (a::l,x,y)
  |none=>none
def jy(E:Env)(C:FuncId->bI R)(ops:List Oper)(s:State)(K:State->Option R):Option R:=
 match MC ops with
 |some (l,oA,oS)=>steps E C ops l s fun s=>gK E oA oS s K
 |none=>none
def JK{α:Type}:List α->Option (List α×α×α×α)
 | []=>none
 | [_]=>none
 | [_,_]=>none
 | [a,b,c]=>some ([],a,b,c)
 |a::r=>match JK r with
  |some (l,x,y,z)=>some (a::l,x,y,z)
  |none=>none
def Qh(s:State)(d1 d2 d3:Nat)(ta tb:Ty)(y:El ta):State:=
 (((s.ap (some d1) [.undef]).az (some (d2+1,⟨.aI .bE ta tb,(y,(none,none),(0:Int)),[]::iY⟩))).ap (some d2) [.undef]).ap (some d3) [.ptr (d2+1) (.aI .bE ta tb) []]
def oh(E:Env)(oB oX oA:Oper)(s:State)(K:State->Option R):Option R:=
 match oB.op,oX.op,oA.op with
 | .build T parts,.box T' (.tmp e1),.assign (.tmp e2)=>match oB.dst,oX.dst,oA.dst with
   |some d1,some d2,some d3=>bif Nat.beq T T'&&(Nat.beq d1 e1&&(Nat.beq d2 e2&&(isDst oB d1&&(isDst oX d2&&(isDst oA d3&&(Nat.ble (d1+1) s.sl.length&&Nat.ble (d2+1) s.sl.length)))))) then
     match parts.toList,E.gr T with
     | [(0,x)],some (ta,tb)=>(s.aF x).el ta fun y=>match s.bs[d2+1]? with
       |some none=>K (Qh s d1 d2 d3 ta tb y)
       |_=>none
     |_,_=>none
    else none
   |_,_,_=>none
 |_,_,_=>none
def A0(E:Env)(C:FuncId->bI R)(ops:List Oper)(s:State)(K:State->Option R):Option R:=
 match JK ops with
 |some (l,oB,oX,oA)=>steps E C ops l s fun s=>oh E oB oX oA s K
 |none=>none
def kZ(s:State)(id m j:Nat)(ta tb:Ty)(x:El (.aI .bE ta tb))(own:List (List Nat))(y:El tb):State:=
 ⟨s.sl.map (jW m),(s.bs.set m none).set id (some ⟨.aI .bE ta tb,(x.1,fE j (some y) x.2.1,x.2.2),own⟩)⟩
def iD(E:Env)(oS:Oper)(s:State)(K:State->Option R):Option R:=
 match oS.op with
 | .store T (.tmp x) (.tmp y)=>bif jv oS then if E.pt T=true then match s.slot x with
    | [.ptr id (.aI .bE ta tb) [1,j]]=>lC s id ta tb fun z own=>bif zx own [] then match s.slot y with
      | [.ptr m RT []]=>match s.box m with
        |some B=>if h:B.t.bV tb=true then bif RT.bV tb&&(!tb.bn&&(zx B.own [2]&& !(Nat.beq id m))) then K (kZ s id m j ta tb z own (Ty.cast h B.x)) else none else none
        |none=>none
      | [.dF]=>K (s.az (some (id,⟨.aI .bE ta tb,(z.1,fE j none z.2.1,z.2.2),own⟩)))
      |_=>none
      else none
    |_=>none
    else none else none
 |_=>none
def MB{α:Type}:List α->Option (List α×α)
 | []=>none
 | [a]=>some ([],a)
 |a::r=>match MB r with
  |some (l,x)=>some (a::l,x)
  |none=>none
def og(E:Env)(C:FuncId->bI R)(k:Nat)(ops:List Oper)(s:State)(K:State->Option R):Option R:=
 match MB ops with
 |some (l,oS)=>match ops[k]? with
  |some oD=>match oD.op,oD.dst with
   | .extract (.tmp t) j,some d=>bif isDst oD d&&(Nat.ble (k+1) l.length&&(Nat.ble (zr oS.after.toList+1) (bit l.length)&&Nat.beq (gL ops l.length (zr oS.after.toList)|||bit k) (bit l.length-1))) then
      uw E C ops l 0 s [] fun s=>bif Nat.ble (j+1) (s.slot t).length&& !(Nat.beq (s.slot t).length 1) then iD E oS (s.ap (some d) [.undef]) K else none
     else none
   |_,_=>none
  |none=>none
 |none=>none
def Ap(E:Env)(C:FuncId->bI R)(i:Nat)(ops:Array Oper)(d:Bool)(s:State)(K:State->Option R):Option R:=
 om E i s fun s=>BK (E.fr i) s fun s=>bif d then uw E C ops.toList ops.toList 0 s [] K else steps E C ops.toList ops.toList s K
def ev(E:Env)(C:FuncId->bI R)(k:Nat):Code->State->(Ex->State->Option R)->Option R
 | .skip,s,K=>K .normal s
 | .region i ops d,s,K=>match E.sp with
   |some (j,q)=>bif Nat.beq i j then(match d with
    |true=>none
    |false=>bif Nat.beq q.2.2 0 then jy E C ops.toList s (K .normal) else jC E q ops.toList s (K .normal)) else Ap E C i ops d s (K .normal)
   |none=>match E.sg with
    |none=>Ap E C i ops d s (K .normal)
    |some (m,l,k)=>bif Nat.beq i m then(match d with
     |true=>none
     |false=>A0 E C ops.toList s (K .normal)) else bif Nat.beq i l then(match d with
     |true=>og E C k ops.toList s (K .normal)
     |false=>none) else Ap E C i ops d s (K .normal)
 | .seq a b,s,K=>ev E C k a s fun e s=>match e with
   | .normal=>lf E k (rh b) s fun s=>ev E C k b s K
   |e=>K e s
 | .cond c a b,s,K=>match s.aF c with
   | .ai .bool p _=>bif p then ev E C k a (s.ap (qY c) (bl true)) K else ev E C k b (s.ap (qY c) (bl false)) K
   |_=>none
 | .block id b,s,K=>ev E C k b s fun e s=>match e with
   | .exit j=>bif Nat.beq j id then K .normal s else K (.exit j) s
   |e=>K e s
 | .loop b,s,K=>ox (E.cS (rh b)) (s.drop (E.dr (rh b))) fun s=>aA (ev E C k b) (E.cS (rh b)) (E.jr (rh b)) k s K
 | .exit id,s,K=>K (.exit id) s
 | .ret,s,K=>K .ret s
 |_,_,_=>none
def fk(E:Env):State->List ResultVar->Option (List SV×State)
 |s,[]=>some ([],s)
 |s,.tmp t::r=>if(one (s.slot t)).bu=true then none else match fk E (s.close [(t,0)]) r with
  |some (l,s')=>some (one (s.slot t)::l,s')
  |none=>none
 |s,.cell p T::r=>match s.slot p,E.ty T with
  | [.ptr id u []],some t=>match s.box id with
    |some B=>if(t.bV B.t&& !u.bn)=true then match fk E (s.az (some (id,{B with own:=[]}))) r with
      |some (l,s')=>some (.ai B.t B.x B.own::l,s')
      |none=>none
     else none
    |none=>none
  |_,_=>none
def wR:List SV->List Nat
 | []=>[]
 | .ptr id _ _::r=>id::wR r
 |_::r=>wR r
def BV(s:State)(bx:Option bj)(l:List SV)(K:List SV->Option bj->Option R):Option R:=
 match bx,wR l with
 |some _,[]=>match s.box 0 with
  |some B=>K l (some B)
  |none=>none
 |none,[]=>K l none
 |none,[id]=>match s.box id with
  |some B=>K (l.map (SV.eY 0)) (some B)
  |none=>none
 |_,_=>none
def fj(E:Env)(l:List SV):List SV:=bif E.ro then l.map SV.shut else l
def aL:List Ty->List SV->List SV
 | .sl e t::r,.cj::q=> .ai (.sl e t) ([]:List (El t)) []::aL r q
 |_::r,v::q=>v.shut::aL r q
 | [],q=>q
 |_,[]=>[]
def gV(E:Env)(C:FuncId->bI R)(k:Nat)(fn:Func)(code:Code)(vs:List SV)(bx:Option bj)(K:List SV->Option bj->Option R):Option R:=
 bif E.sp.isSome&&bx.isSome then none else
 let n:=fn.ntmps-vs.length
 let s:State:=⟨(aL E.ps vs).map (fun v=>[v])++List.replicate n [.undef],bx::List.replicate (vs.length+n) none⟩
 ev E C k code s fun e s=>match e with
  | .exit _=>none
  |_=>match fk E s fn.results.toList with
   |some (l,s')=>BV s' bx (fj E l) K
   |none=>none
end
end Go.Ref

namespace Go.Ref
open Go
theorem zn{R S:Type}{sv:SV}{t:Ty}{F:El t->Option R}{G:El t->Option S}{K:S->Option R}(h:∀y,F y=(G y).bind K):sv.el t F=(sv.el t G).bind K:=by
 cases sv with
 |ai t' x own=>
  simp only[SV.el]
  split
  ·exact h _
  ·rfl
 |cj=>cases t<;>simp only[SV.el]<;>first|rfl|exact h _
 |_=>rfl
theorem zg{R S:Type}{b:Bool}{x y:Option R}{x' y':Option S}{K:S->Option R}(h:x=x'.bind K)(k:y=y'.bind K):(bif b then x else y)=(bif b then x' else y').bind K:=by
 cases b
 ·exact k
 ·exact h
theorem zi{R S:Type}{c:Prop}[Decidable c]{x y:Option R}{x' y':Option S}{K:S->Option R}(h:x=x'.bind K)(k:y=y'.bind K):(if c then x else y)=(if c then x' else y').bind K:=by
 split
 ·exact h
 ·exact k
section
variable {R:Type}
theorem zl6{op:BinOp}{k k':IntKind}{m n:Int}{K:List SV->Option R}:nX op k m k' n K=(nX op k m k' n some).bind K:=by
 unfold nX
 cases op<;>simp only<;>repeat(first|rfl|refine zg ?_ ?_|refine zi ?_ ?_)
theorem zl8{op:BinOp}{m n:ByteArray}{K:List SV->Option R}:nY op m n K=(nY op m n some).bind K:=by
 unfold nY
 cases op<;>simp only<;>repeat(first|rfl|refine zg ?_ ?_|refine zi ?_ ?_)
theorem zl5{E:Env}{op:BinOp}{T:TypeId}{x y:SV}{K:List SV->Option R}:nW E op T x y K=(nW E op T x y some).bind K:=by
 unfold nW
 split
 ·refine zi rfl (zn fun a=>zn fun b=> ?_)
  split
  ·cases op<;>rfl
  ·rfl
 ·rfl
theorem aaJ{E:Env}{op:BinOp}{T:TypeId}{x y:SV}{S:Type}{F:List SV->Option R}{G:List SV->Option S}{K:S->Option R}(h:∀l,F l=(G l).bind K):bin E op T x y F=(bin E op T x y G).bind K:=by
 unfold bin
 split
 ·rw[zl6,zl6 (K:=G),Option.bind_assoc];congr;funext l;exact h l
 ·rw[zl8,zl8 (K:=G),Option.bind_assoc];congr;funext l;exact h l
 ·refine zi rfl ?_;cases op<;>simp only<;>first|exact h _|rfl
 ·refine zi rfl ?_;cases op<;>simp only<;>first|exact h _|rfl
 ·rw[zl5,zl5 (K:=G),Option.bind_assoc];congr;funext l;exact h l
theorem wF{S:Type}{i:Int}{n:Nat}{x:Option R}{x':Option S}{K:S->Option R}(h:x=x'.bind K):zc i n x=(zc i n x').bind K:=by
 unfold zc
 exact zg (zg h rfl) rfl
theorem zag{S:Type}{lo:Option SV}{m:Nat}{F:Nat->Option R}{G:Nat->Option S}{K:S->Option R}(h:∀l,F l=(G l).bind K):uo lo m F=(uo lo m G).bind K:=by
 unfold uo
 cases lo with
 |none=>exact h _
 |some v=>exact zn fun y=>zg (zg (h _) rfl) rfl
theorem zwt{S:Type}{lo hi:Option SV}{n:Nat}{F:Nat->Nat->Option R}{G:Nat->Nat->Option S}{K:S->Option R}(h:∀l h,F l h=(G l h).bind K):cutAt lo hi n F=(cutAt lo hi n G).bind K:=by
 unfold cutAt
 cases hi with
 |none=>exact zag fun l=>h _ _
 |some w=>exact zn fun y=>zg (zg (zag fun l=>h _ _) rfl) rfl
theorem zoq{S:Type}{t:Ty}{F:El t->List (List Nat)->Option R}{G:El t->List (List Nat)->Option S}{K:S->Option R}(h:∀y o,F y o=(G y o).bind K):∀(l:List (Nat×SV×List (List Nat))) (x:El t) (own:List (List Nat)),ou t x own l F=(ou t x own l G).bind K
 | [],x,own=>by simpa [ou] using h x own
 |(i,v,ov)::r,x,own=>by
  simp only[ou]
  refine zi rfl ?_
  split
  ·refine zn fun y=> ?_
   split
   ·exact zoq h r _ _
   ·rfl
  ·rfl
theorem zor{S:Type}{t:Ty}{F:List (El t)->Option R}{G:List (El t)->Option S}{K:S->Option R}(h:∀y,F y=(G y).bind K):∀(l:List (Nat×SV)) (x:List (El t)),wO t x l F=(wO t x l G).bind K
 | [],x=>by simpa [wO] using h x
 |(i,v)::r,x=>by
  simp only[wO]
  exact zi rfl (zn fun y=>zor h r _)
variable {S:Type} {F:Out->Option R} {G:Out->Option S} {K:S->Option R}
theorem zJ{s:State}{id:Nat}{a b:Ty}{F':El (.aI .bE a b)->List (List Nat)->Option R}{G':El (.aI .bE a b)->List (List Nat)->Option S}{K:S->Option R}(h:∀x o,F' x o=(G' x o).bind K):lC s id a b F'=(lC s id a b G').bind K:=by
 unfold lC
 split
 ·split
  ·exact zg (h _ _) rfl
  ·rfl
 ·rfl
theorem z139{u:Ty}{s:State}{id:Nat}{t:Ty}{p:List Nat}(h:∀y,F y=(G y).bind K):Ao u s id t p F=(Ao u s id t p G).bind K:=by
 unfold Ao
 split
 ·split
  ·split
   ·exact zi (zg (h _) rfl) rfl
   ·rfl
  ·rfl
 ·exact zi (zJ fun x o=>h _) rfl
 ·exact zi (zJ fun x o=>h _) rfl
 ·rfl
theorem Sh{u:Ty}{s:State}{id:Nat}{t:Ty}{p:List Nat}{v:SV}(h:∀y,F y=(G y).bind K):zX u s id t p v F=(zX u s id t p v G).bind K:=by
 unfold zX
 split
 ·split
  ·split
   ·exact zi (zn fun y=>zg (h _) rfl) rfl
   ·rfl
  ·rfl
 ·split
  ·refine zi (zJ fun x o=>zn fun y=> ?_) rfl
   split
   ·exact zg (h _) rfl
   ·rfl
  ·rfl
 ·exact zi (zJ fun x o=>zn fun y=>zg (h _) rfl) rfl
 ·rfl
theorem Sv{u:Ty}{id:Nat}{t:Ty}{p:List Nat}{j:Nat}{F:Out->Option R}{G:Out->Option S}{K:S->Option R}(h:∀y,F y=(G y).bind K):BJ u id t p j F=(BJ u id t p j G).bind K:=by
 unfold BJ
 split
 ·split
  ·refine zi ?_ rfl
   split
   ·exact zi rfl (h _)
   ·rfl
  ·rfl
 ·rfl
theorem Sy{m:Nat}{t:Ty}{n:Int}{id:Nat}{r:Ty}{p:List Nat}{F:Out->Option R}{G:Out->Option S}{K:S->Option R}(h:∀y,F y=(G y).bind K):BM m t n id r p F=(BM m t n id r p G).bind K:=by
 unfold BM
 split
 ·split
  ·exact zi (wF (h _)) rfl
  ·rfl
 ·rfl
theorem S1{v:SV}{j:Nat}{ta tb:Ty}{F:Out->Option R}{G:Out->Option S}{K:S->Option R}(h:∀y,F y=(G y).bind K):BU v j ta tb F=(BU v j ta tb G).bind K:=by
 unfold BU
 split
 ·exact zi (zg (h _) rfl) rfl
 ·rfl
theorem Se{t:Ty}{n:Int}{id:Nat}{r:Ty}{p:List Nat}(h:∀y,F y=(G y).bind K):Hy t n id r p F=(Hy t n id r p G).bind K:=by
 unfold Hy
 split
 ·exact zi (wF (h _)) rfl
 ·rfl
theorem z138{u:Ty}{B:bj}{t:Ty}{p:List Nat}(h:∀y,F y=(G y).bind K):BN u B t p F=(BN u B t p G).bind K:=by
 unfold BN
 split
 ·split
  ·exact zi (zg (h _) rfl) rfl
  ·rfl
 ·rfl
theorem VU{E:Env}{T:TypeId}{s:State}{v:SV}(h:∀y,F y=(G y).bind K):iE E T s v F=(iE E T s v G).bind K:=by
 unfold iE
 split
 ·exact zi (zJ fun x o=>zg (h _) rfl) rfl
 ·rfl
theorem YO{E:Env}{T:TypeId}{s:State}{la:Bool}{v:SV}(h:∀y,F y=(G y).bind K):load E T s la v F=(load E T s la v G).bind K:=by
 unfold load
 split
 ·split
  ·exact zi (h _) rfl
  ·refine zi (z139 h) ?_
   split
   ·refine zi ?_ (z138 h)
    split
    ·exact zi (zg (h _) (h _)) rfl
    ·rfl
   ·rfl
  ·rfl
 ·exact VU h
theorem Wk{E:Env}{T:TypeId}{s:State}{v:SV}{x:Operand}(h:∀y,F y=(G y).bind K):store E T s v x F=(store E T s v x G).bind K:=by
 unfold store
 split
 ·split
  ·refine zi (Sh h) ?_
   split
   ·refine zi ?_ rfl
    split
    ·refine zi (zn fun y=> ?_) rfl
     split
     ·exact h _
     ·rfl
    ·rfl
   ·rfl
  ·rfl
 ·rfl
theorem S0{t:Option Ty}{v:SV}{j:Nat}(h:∀y,F y=(G y).bind K):Ir t v j F=(Ir t v j G).bind K:=by
 unfold Ir
 split
 ·refine zi (Sv h) ?_
  split
  ·refine zi ?_ rfl
   split
   ·exact zi rfl (h _)
   ·rfl
  ·rfl
 ·refine zi ?_ rfl
  split
  ·exact zi rfl (h _)
  ·rfl
 ·rfl
theorem zw9{v:SV}{F':Int->Option R}{G':Int->Option S}{K:S->Option R}(h:∀n,F' n=(G' n).bind K):v.num F'=(v.num G').bind K:=by
 unfold SV.num
 split
 ·exact h _
 ·rfl
theorem S6{E:Env}{T:TypeId}{v i:SV}(h:∀y,F y=(G y).bind K):Iu E T v i F=(Iu E T v i G).bind K:=by
 unfold Iu
 refine zw9 fun n=> ?_
 split
 ·exact zn fun y=>wF (h _)
 ·refine zi (Sy h) ?_
  split
  ·exact zi (wF (h _)) rfl
  ·rfl
 ·exact zn fun y=>wF (h _)
 ·exact Se h
 ·exact zi (wF (h _)) rfl
 ·rfl
theorem S7{E:Env}{T:TypeId}{v i:SV}(h:∀y,F y=(G y).bind K):Iv E T v i F=(Iv E T v i G).bind K:=by
 unfold Iv
 refine zw9 fun n=> ?_
 split
 ·exact zn fun y=>wF (h _)
 ·exact zn fun y=>wF (h _)
 ·rfl
theorem Yt{E:Env}{T:TypeId}{v:SV}{lo hi:Option SV}(h:∀y,F y=(G y).bind K):n0 E T v lo hi F=(n0 E T v lo hi G).bind K:=by
 unfold n0
 split
 ·exact zn fun y=>zwt fun _ _=>h _
 ·exact zn fun y=>zwt fun _ _=>h _
 ·rfl
theorem Sk{E:Env}{T U:TypeId}{bo:Operand}{b x:SV}(h:∀y,F y=(G y).bind K):H6 E T U bo b x F=(H6 E T U bo b x G).bind K:=by
 unfold H6
 refine zi rfl ?_
 split
 ·refine zi rfl ?_
  split
  ·exact zn fun y=>zg (h _) rfl
  ·exact zi rfl (zn fun y=>zn fun z=>zg (h _) rfl)
  ·rfl
 ·rfl
theorem YK{E:Env}{T:TypeId}{x:SV}(h:∀y,F y=(G y).bind K):qO E T x F=(qO E T x G).bind K:=by
 unfold qO
 split
 ·exact zn fun y=>h _
 ·split
  ·exact h _
  ·exact zn fun y=>h _
 ·exact h _
 ·rfl
theorem Vx{E:Env}{S' T:TypeId}{x:SV}(h:∀y,F y=(G y).bind K):jl E S' T x F=(jl E S' T x G).bind K:=by
 unfold jl
 split
 ·exact zn fun y=>h _
 ·exact zn fun y=>h _
 ·exact zn fun y=>h _
 ·rfl
theorem Vw{E:Env}{S' T:TypeId}{s:State}{id n:Nat}{a b:Ty}(h:∀y,F y=(G y).bind K):io E S' T s id n a b F=(io E S' T s id n a b G).bind K:=by
 unfold io
 split
 ·refine zi ?_ rfl
  split
  ·split
   ·exact zg (h _) rfl
   ·rfl
  ·rfl
 ·rfl
theorem zle{s:State}{dst:Option Nat}{t:Ty}{x:El t}{p:Ty}(h:∀y,F y=(G y).bind K):iG s dst t x p F=(iG s dst t x p G).bind K:=by
 unfold iG
 split
 ·split
  ·exact h _
  ·rfl
 ·rfl
theorem zp7{s:State}{m:SV}{kt vt:Ty}{F:Nat->List (El kt×El vt)->Option R}{G:Nat->List (El kt×El vt)->Option S}{K:S->Option R}(h:∀n y,F n y=(G n y).bind K):rV s m kt vt F=(rV s m kt vt G).bind K:=by
 unfold rV
 split
 ·refine zi ?_ rfl
  split
  ·split
   ·exact h _ _
   ·rfl
  ·rfl
 ·rfl
theorem VV{E:Env}{T:TypeId}{s:State}{m i:SV}(h:∀y,F y=(G y).bind K):js E T s m i F=(js E T s m i G).bind K:=by
 unfold js
 split
 ·exact zp7 fun _ _=>zn fun _=>h _
 ·rfl
theorem FU{E:Env}{T:TypeId}{s:State}{m i v:SV}(h:∀y,F y=(G y).bind K):kd E T s m i v F=(kd E T s m i v G).bind K:=by
 unfold kd
 split
 ·exact zp7 fun _ _=>zn fun _=>zn fun _=>zg rfl (h _)
 ·rfl
theorem VZ{s:State}{m:SV}(h:∀y,F y=(G y).bind K):ju s m F=(ju s m G).bind K:=by
 unfold ju
 split
 ·split
  ·split
   ·exact zg (h _) (h _)
   ·rfl
  ·rfl
 ·rfl
theorem VX{E:Env}{T:TypeId}{s:State}{dst:Option Nat}{lo:Operand}{l c:SV}(h:∀y,F y=(G y).bind K):jt E T s dst lo l c F=(jt E T s dst lo l c G).bind K:=by
 unfold jt
 split
 ·exact zi rfl (zn fun n=>zn fun m=>zg (zg (zg (zg (h _) rfl) rfl) rfl) (zg (zg (zg (zle h) rfl) rfl) rfl))
 ·rfl
theorem aa8{op:UnOp}{x:SV}(h:∀y,F y=(G y).bind K):E8 op x F=(E8 op x G).bind K:=by
 unfold E8
 split
 ·exact h _
 ·exact h _
 ·rfl
end
abbrev af:=(R:Type)->FuncId->bI R
def af.Nat(C:af):Prop:=∀(R S:Type) (f:FuncId) l b (F:List SV->Option bj->Option R) (G:List SV->Option bj->Option S) (K:S->Option R),(∀r b,F r b=(G r b).bind K)->C R f l b F=(C S f l b G).bind K
section
variable {R S:Type} {F:Out->Option R} {G:Out->Option S} {K:S->Option R} {C:af}
theorem JH(hC:C.Nat){s:State}{dst:Option Nat}{f:FuncId}{vs:List SV}(h:∀y,F y=(G y).bind K):eN (C R) s dst f vs F=(eN (C S) s dst f vs G).bind K:=by
 unfold eN
 split
 ·refine hC R S f _ _ _ _ K fun r b=> ?_
  split
  ·exact h _
  ·split
   ·split
    ·exact h _
    ·rfl
   ·rfl
 ·refine zi rfl (hC R S f _ _ _ _ K fun r b=> ?_)
  split
  ·exact zi (h _) rfl
  ·rfl
 ·rfl
theorem Vt(hC:C.Nat){s:State}{f:FuncId}{t id:Nat}{a b:Ty}{j:Nat}{vs:List SV}(h:∀y,F y=(G y).bind K):im (C R) s f t id a b j vs F=(im (C S) s f t id a b j vs G).bind K:=by
 unfold im
 refine zi rfl ?_
 split
 ·refine zJ fun x o=> ?_
  split
  ·refine hC R S f _ _ _ _ K fun r b=> ?_
   split
   ·split
    ·exact zg (h _) rfl
    ·rfl
   ·rfl
  ·rfl
 ·rfl
theorem Vv{f:FuncId}{x:SV}(h:∀y,F y=(G y).bind K):kH f x F=(kH f x G).bind K:=by
 unfold kH
 split
 ·exact zi rfl (h _)
 ·rfl
theorem Yo{f:FuncId}{x y:SV}(h:∀y,F y=(G y).bind K):qc f x y F=(qc f x y G).bind K:=by
 unfold qc
 split
 ·exact h _
 ·rfl
theorem Ys{n id:Nat}{a b:Ty}{lo hi:Option SV}(h:∀y,F y=(G y).bind K):qg n id a b lo hi F=(qg n id a b lo hi G).bind K:=by
 unfold qg
 split
 ·rfl
 ·exact zag fun l=>h _
theorem zwr{t:Ty}{s:State}{id n lo:Nat}{a b:Ty}{x:SV}{e:TypeId}(h:∀y,F y=(G y).bind K):fN t s id n lo a b x e F=(fN t s id n lo a b x e G).bind K:=by
 unfold fN
 refine zi (zn fun ys=> ?_) rfl
 split
 ·split
  ·exact zg (zg (h _) rfl) rfl
  ·rfl
 ·rfl
theorem Yr{E:Env}{T:TypeId}{s:State}{id n:Nat}{t:Ty}{lo hi:Option SV}(h:∀y,F y=(G y).bind K):nZ E T s id n t lo hi F=(nZ E T s id n t lo hi G).bind K:=by
 unfold nZ
 split
 ·refine zi ?_ rfl
  split
  ·split
   ·exact h _
   ·rfl
  ·rfl
 ·rfl
theorem Vy{t:Ty}{s:State}{id n:Nat}{a b:Ty}{y:ByteArray}(h:∀y,F y=(G y).bind K):iq t s id n a b y F=(iq t s id n a b y G).bind K:=by
 unfold iq
 refine zi (zi ?_ rfl) rfl
 split
 ·split
  ·exact zg (h _) rfl
  ·rfl
 ·rfl
theorem Vz{E:Env}{T:TypeId}{s:State}{d x:SV}(h:∀y,F y=(G y).bind K):copyV E T s d x F=(copyV E T s d x G).bind K:=by
 unfold copyV
 split
 ·split
  ·exact Vy h
  ·exact zwr h
 ·exact zwr h
 ·rfl
theorem zxj{g:Bool}{x y:SV}(h:∀y,F y=(G y).bind K):iF g x y F=(iF g x y G).bind K:=by
 unfold iF
 split
 ·exact h _
 ·rfl
theorem FB{E:Env}{T:TypeId}(h:∀y,F y=(G y).bind K):l7 E T F=(l7 E T G).bind K:=by
 unfold l7
 split
 ·exact h _
 ·exact h _
theorem ug(hC:C.Nat){E:Env}{ops:List Oper}{o:Oper}{s:State}(h:∀y,F y=(G y).bind K):act E (C R) ops o s F=(act E (C S) ops o s G).bind K:=by
 unfold act
 split
 ·split
  ·exact zg (h _) (h _)
  ·split
   ·exact zg (h _) (h _)
   ·rfl
   ·rfl
   ·exact FB h
   ·exact h _
 ·split
  ·exact h _
  ·rfl
  ·rfl
  ·exact FB h
  ·exact h _
 ·split
  ·exact zg (h _) (h _)
  ·rfl
 ·exact aaJ fun l=>h _
 ·exact aa8 h
 ·split
  ·exact Vw h
  ·exact Vx h
 ·exact YO h
 ·exact Wk h
 ·split
  ·exact zi rfl (h _)
  ·exact h _
  ·rfl
 ·split
  ·exact S1 h
  ·exact S0 h
 ·exact S6 h
 ·exact S7 h
 ·split
  ·refine zi rfl (zn fun y=> ?_)
   split
   ·exact h _
   ·rfl
  ·rfl
 ·split
  ·split
   ·exact zi (Ys h) rfl
   ·rfl
  ·exact Yr h
  ·exact Yt h
 ·split
  ·exact Vv h
  ·exact Yo h
  ·rfl
 ·split
  ·split
   ·exact h _
   ·rfl
  ·split
   ·split
    ·exact h _
    ·rfl
   ·split
    ·split
     ·exact h _
     ·rfl
    ·rfl
  ·rfl
 ·split
  ·split
   ·exact zn fun y=>h _
   ·rfl
  ·rfl
 ·split
  ·exact zi rfl (zoq (fun y o=>h _) _ _ _)
  ·rfl
 ·split
  ·exact zi rfl (zg (zor (fun y=>h _) _ _) rfl)
  ·rfl
 ·split
  ·refine zi ?_ ?_
   ·split
    ·exact h _
    ·rfl
   split
   ·exact h _
   ·rfl
   ·rfl
   ·exact h _
   ·rfl
  ·rfl
 ·split
  ·exact zle h
  ·rfl
 ·exact VV h
 ·exact FU h
 ·exact FU h
 ·split
  ·exact zn fun y=>zle h
  ·rfl
 ·exact VZ h
 ·exact VX h
 ·split
  ·exact Vt hC h
  ·exact JH hC fun u=>h _
 ·split
  ·exact zi rfl (JH hC h)
  ·exact JH hC h
  ·rfl
 ·split
  ·exact Vz h
  ·rfl
 ·split
  ·exact YK h
  ·rfl
 ·split
  ·exact Sk h
  ·rfl
 ·split
  ·exact zxj h
  ·rfl
 ·split
  ·exact zxj h
  ·rfl
 ·rfl
end
section
variable {R S:Type} {F:State->Option R} {G:State->Option S} {K:S->Option R} {C:af}
theorem zll(hC:C.Nat){E:Env}{ops:List Oper}{o:Oper}{s:State}(h:∀y,F y=(G y).bind K):step E (C R) ops o s F=(step E (C S) ops o s G).bind K:=by
 unfold step
 simp only
 split
 ·exact ug hC fun y=>h _
 ·split
  ·rfl
  ·split
   ·exact zg (zg (ug hC fun y=>h _) (h _)) (zg (h _) (ug hC fun y=>h _))
   ·exact h _
   ·rfl
theorem zR(hC:C.Nat){E:Env}{ops:List Oper}(h:∀y,F y=(G y).bind K):∀(l:List Oper) (s:State),steps E (C R) ops l s F=(steps E (C S) ops l s G).bind K
 | [],s=>h s
 |o::r,s=>by
  simp only[steps]
  exact zll hC fun s=>zR hC h r s
theorem Wi(hC:C.Nat){E:Env}{ops:List Oper}{o:Oper}{i:Nat}{s:State}{tr:List dp}{F:State->List dp->Option R}{G:State->List dp->Option S}(h:∀y t,F y t=(G y t).bind K):jB E (C R) ops o i s tr F=(jB E (C S) ops o i s tr G).bind K:=by
 unfold jB
 simp only
 split
 ·exact ug hC fun y=>zg (h _ _) rfl
 ·split
  ·rfl
  ·split
   ·exact zg (zg (ug hC fun y=>zg (h _ _) rfl) (zg (h _ _) rfl)) (zg (zg (h _ _) rfl) (ug hC fun y=>zg (h _ _) rfl))
   ·exact zg (h _ _) rfl
   ·rfl
theorem Ho(hC:C.Nat){E:Env}{ops:List Oper}(h:∀y,F y=(G y).bind K):∀(l:List Oper) (i:Nat) (s:State) (tr:List dp),uw E (C R) ops l i s tr F=(uw E (C S) ops l i s tr G).bind K
 | [],i,s,tr=>h s
 |o::r,i,s,tr=>by
  simp only[uw]
  exact Wi hC fun s tr=>Ho hC h r (i+1) s tr
theorem Hj{l:List Nat}{s:State}(h:∀y,F y=(G y).bind K):ox l s F=(ox l s G).bind K:=by
 unfold ox
 exact zg (h _) rfl
end
theorem VR{R S:Type}{k:Nat}{F:Unit->Option R}{G:Unit->Option S}{K:S->Option R}(h:F ()=(G ()).bind K):cm k F=(cm k G).bind K:=by
 unfold cm
 cases k
 ·rfl
 ·exact h
theorem YP{R S:Type}{F:State->Option R}{G:State->Option S}{K:S->Option R}{E:Env}{k r:Nat}{s:State}(h:∀y,F y=(G y).bind K):lf E k r s F=(lf E k r s G).bind K:=by
 unfold lf
 split
 ·exact h _
 ·exact Hj fun s=>VR (h _)
theorem Y7{R S:Type}{F:State->Option R}{G:State->Option S}{K:S->Option R}{E:Env}{r:Nat}{s:State}(h:∀y,F y=(G y).bind K):om E r s F=(om E r s G).bind K:=by
 unfold om
 split
 ·exact h _
 ·split
  ·refine zi ?_ rfl
   split
   ·split
    ·exact zg (h _) rfl
    ·rfl
   ·rfl
  ·rfl
theorem zjq{R S:Type}{F:State->Option R}{G:State->Option S}{K:S->Option R}(h:∀y,F y=(G y).bind K):∀(l:List Nat) (s:State),BK l s F=(BK l s G).bind K
 | [],s=>h s
 |id::r,s=>by
  simp only[BK]
  unfold Mz
  split
  ·exact zi rfl (zjq h r _)
  ·rfl
section
variable {R S:Type} {F:Ex->State->Option R} {G:Ex->State->Option S} {K:S->Option R} {C:af}
theorem zxi{body:State->(Ex->State->Option R)->Option R}{body':State->(Ex->State->Option S)->Option S}{l lx:List Nat}
 (hb:∀(F:Ex->State->Option R) (G:Ex->State->Option S),(∀e s,F e s=(G e s).bind K)->∀s,body s F=(body' s G).bind K) (h:∀e s,F e s=(G e s).bind K):
 ∀(k:Nat) (s:State),aA body l lx k s F=(aA body' l lx k s G).bind K
 |0,_=>rfl
 |k+1,s=>by
  simp only[aA]
  refine hb _ _ (fun e s=> ?_) s
  cases e with
  |normal=>exact Hj fun s=>zxi hb h k s
  |exit id=>exact Hj fun s=>h _ _
  |ret=>exact Hj fun s=>h _ _
theorem FP{E:Env}{q:Nat×Nat×Nat}{ops:List Oper}{s:State}{F:State->Option R}{G:State->Option S}{K:S->Option R}(h:∀s,F s=(G s).bind K):jC E q ops s F=(jC E q ops s G).bind K:=by
 unfold jC
 refine zg (zg ?_ rfl) rfl
 split
 ·refine zg (zg ?_ rfl) rfl
  unfold zc
  exact zg (zg (h _) rfl) rfl
 ·rfl
theorem V7{E:Env}{oA oS:Oper}{s:State}{F:State->Option R}{G:State->Option S}{K:S->Option R}(h:∀s,F s=(G s).bind K):gK E oA oS s F=(gK E oA oS s G).bind K:=by
 unfold gK
 split
 ·refine zg ?_ rfl
  unfold qR
  split
  ·refine zg ?_ rfl
   split
   ·refine zg (zw9 fun n=>zn fun y=> ?_) rfl
    unfold zc
    exact zg (zg (h _) rfl) rfl
   ·rfl
  ·rfl
 ·rfl
theorem FG(hC:C.Nat){E:Env}{ops:List Oper}{s:State}{F:State->Option R}{G:State->Option S}(h:∀s,F s=(G s).bind K):jy E (C R) ops s F=(jy E (C S) ops s G).bind K:=by
 unfold jy
 split
 ·exact zR hC (fun s=>V7 h) _ _
 ·rfl
theorem Gt(hC:C.Nat){E:Env}{ops:List Oper}{s:State}{F:State->Option R}{G:State->Option S}(h:∀s,F s=(G s).bind K):A0 E (C R) ops s F=(A0 E (C S) ops s G).bind K:=by
 unfold A0
 split
 ·refine zR hC (fun s=> ?_) _ _
  unfold oh
  split
  ·split
   ·refine zg ?_ rfl
    split
    ·refine zn fun y=> ?_
     split
     ·exact h _
     ·rfl
    ·rfl
   ·rfl
  ·rfl
 ·rfl
theorem Fu(hC:C.Nat){E:Env}{k:Nat}{ops:List Oper}{s:State}{F:State->Option R}{G:State->Option S}(h:∀s,F s=(G s).bind K):og E (C R) k ops s F=(og E (C S) k ops s G).bind K:=by
 unfold og
 split
 ·split
  ·split
   ·refine zg (Ho hC (fun s=> ?_) _ _ _ _) rfl
    refine zg ?_ rfl
    unfold iD
    split
    ·refine zg (zi ?_ rfl) rfl
     split
     ·refine zJ fun z own=>zg ?_ rfl
      split
      ·split
       ·split
        ·exact zg (h _) rfl
        ·rfl
       ·rfl
      ·exact h _
      ·rfl
     ·rfl
    ·rfl
   ·rfl
  ·rfl
 ·rfl
theorem rU(hC:C.Nat){E:Env}{k:Nat}:∀(c:Code) (F:Ex->State->Option R) (G:Ex->State->Option S),(∀e s,F e s=(G e s).bind K)->∀s,ev E (C R) k c s F=(ev E (C S) k c s G).bind K
 | .skip,F,G,h,s=>h _ _
 | .region i ops d,F,G,h,s=>by
   simp only[ev]
   have key:Ap E (C R) i ops d s (F .normal)=(Ap E (C S) i ops d s (G .normal)).bind K:=Y7 fun s=>zjq (fun s=>zg (Ho hC (fun s=>h _ _) _ _ _ _) (zR hC (fun s=>h _ _) _ _)) _ _
   split
   ·refine zg ?_ key
    cases d with
    |true=>rfl
    |false=>exact zg (FG hC fun s=>h _ _) (FP fun s=>h _ _)
   ·split
    ·exact key
    ·refine zg ?_ (zg ?_ key)
     ·cases d with
      |true=>rfl
      |false=>exact Gt hC fun s=>h _ _
     ·cases d with
      |true=>exact Fu hC fun s=>h _ _
      |false=>rfl
 | .seq a b,F,G,h,s=>by
   simp only[ev]
   refine rU hC a _ _ (fun e s=> ?_) s
   cases e with
   |normal=>exact YP fun s=>rU hC b _ _ h s
   |exit id=>exact h _ _
   |ret=>exact h _ _
 | .cond c a b,F,G,h,s=>by
   simp only[ev]
   split
   ·exact zg (rU hC a _ _ h _) (rU hC b _ _ h _)
   ·rfl
 | .block id b,F,G,h,s=>by
   simp only[ev]
   refine rU hC b _ _ (fun e s=> ?_) s
   cases e with
   |normal=>exact h _ _
   |exit j=>exact zg (h _ _) (h _ _)
   |ret=>exact h _ _
 | .loop b,F,G,h,s=>by
   simp only[ev]
   exact Hj fun s=>zxi (fun F G h s=>rU hC b F G h s) h k s
 | .exit id,F,G,h,s=>h _ _
 | .ret,F,G,h,s=>h _ _
 | .rangeFunc ..,F,G,h,s=>rfl
 | .scope _,F,G,h,s=>rfl
 | .label _,F,G,h,s=>rfl
 | .goto _,F,G,h,s=>rfl
 | .refuse _,F,G,h,s=>rfl
end
theorem zz{R S:Type}{x:Option R}{y:Option S}{K:S->Option R}(h:x=y.bind K){z:R}(hz:x=some z):∃w,y=some w/\K w=some z:=by
 rw[h] at hz
 exact Option.bind_eq_some_iff.1 hz
end Go.Ref

namespace Go.Ref
open Go
def dk(t:Ty)(cs:List Value):Value:=if t.agg=true then .agg cs.toArray else cs.headD undef
def bf(X:ar)(pl:Place)(e:TypeId)(k n:Nat)(v:Value):Prop:=
 (v= .slice none 0 0/\n=0)\/∃g cap cur,v= .slice (some ⟨g,0,none⟩) n cap/\X.w.heap[g]? =some (.cells cur e (0,0))/\n<=cap/\cap<=maxLen/\cur.size=cap*k/\X.ow g= .row pl (n*k)
def bc(X:ar)(pl:List Nat->Place)(t:Ty)(x:El t)(cs:List Value)(own:List (List Nat)):Prop:=
 ∀p∈own,∃e t' xs v,t.dJ p/\El.get t p x=some ⟨.sl e t',xs⟩/\cs[t.off p]? =some v/\bf X (pl p) e t'.cells (List.length xs) v
def lk(t:Ty)(p:List Nat)(r:Nat)(v:Value):Prop:=
 match t,p with
 | .aI .mp _ _,_=>v= .map (some r)
 | .aI (.gW n) _ _,[]=>∃cap,v= .slice (some ⟨r,0,none⟩) n cap/\n<=cap
 | .aI (.gW n) a _,[l]=>∃cap off,v= .slice (some ⟨r,off,none⟩) (n-l) cap/\n-l<=cap/\l<=n/\((n=l/\off=0)\/off=l*a.cells)
 | .aI (.oI f) _ _,[]=>v= .func (.func f) #[] #[.pointer (some ⟨r,0,none⟩)]
 | .aI .row a _,[i]=>v= .pointer (some ⟨r,i*a.cells,none⟩)
 | .aI .bE a _,p=>v= .pointer (some ⟨r,kK a p,none⟩)/\gIn a p
 |t,p=>v= .pointer (some ⟨r,t.off p,none⟩)/\t.dJ p
theorem nv{t:Ty}{p:List Nat}{r:Nat}{v:Value}(h:t.bn=false):lk t p r v↔v= .pointer (some ⟨r,t.off p,none⟩)/\t.dJ p:=by
 unfold lk
 split
 all_goals first
  |exact Iff.rfl
  |simp [Ty.bn] at h
theorem HA{t:Ty}{p:List Nat}{r:Nat}{v:Value}(h:t.nq=false):lk t p r v↔v= .pointer (some ⟨r,t.off p,none⟩)/\t.dJ p:=by
 unfold lk
 split
 all_goals first
  |exact Iff.rfl
  |simp [Ty.nq] at h
def ay(X:ar)(pl:List Nat->Place):SV->Value->Prop
 | .undef,_=>True
 | .skip,v=>v=Go.undef
 | .cj,v=>v= .slice none 0 0
 | .dF,v=>v= .pointer none
 | .ai t x own,v=>∃cs,aY X t x cs/\v=dk t cs/\bc X pl t x cs own
 | .ptr id t p,v=>∃r,X.β id=some r/\lk t p r v
 | .view t x,v=>∃ad cs,v= .pointer (some ad)/\ad.spot=none/\aY X t x cs/\∀i u,cs[i]? =some u->X.ax (ad.add i) u
 | .cap f t x u y,v=>∃ad nk cs dI,v= .func (.func f) #[] #[.pointer (some ad),.pointer (some nk)]/\(ad.spot=none/\aY X t x cs/\∀i w,cs[i]? =some w->X.ax (ad.add i) w)/\(nk.spot=none/\aY X u y dI/\∀i w,dI[i]? =some w->X.ax (nk.add i) w)
 | .over,v=>v= .tuple #[.bool false]
 | .bh id a _ j,v=>∃r,X.β id=some r/\X.ow r= .box id/\X.w.cell? ⟨r,a.cells+j,none⟩=some v
theorem z21{X Y:ar}{pl eX:List Nat->Place}(h:∀a v,X.ax a v->Y.ax a v){f:Nat}{t u:Ty}{x:El t}{y:El u}{v:Value}(hr:ay X pl (.cap f t x u y) v):ay Y eX (.cap f t x u y) v:=by
 obtain⟨ad,nk,cs,dI,h1,⟨h2,h3,h4⟩,h5,h6,h7⟩:=hr
 exact⟨ad,nk,cs,dI,h1,⟨h2,h3.ag h,fun i w hi=>h _ _ (h4 i w hi)⟩,h5,h6.ag h,fun i w hi=>h _ _ (h7 i w hi)⟩
def ct(X:ar)(pl:Nat->List Nat->Place)(l:List SV)(v:Value):Prop:=
 match l with
 | [s]=>ay X (pl 0) s v
 |l=>∃vs:Array Value,v= .tuple vs/\vs.size=l.length/\∀(j:Nat) s u,l[j]? =some s->vs[j]? =some u->ay X (pl j) s u
def dD(X:ar)(t:Ty)(x:El t)(v:Value):Prop:=∃cs,aY X t x cs/\v=dk t cs
def cU(X:ar)(pl:List Nat->Place)(b:Ty)(m:Option (El b))(v:Value):Prop:=
 match m with
 |none=>v= .pointer none
 |some y=>∃g cs T,v= .pointer (some ⟨g,0,none⟩)/\X.w.heap[g]? =some (.cells cs T (0,0))/\X.ow g= .row (pl []) 0/\aY X b y cs.toList/\bc X pl b y cs.toList wQ
def fJ(X:ar)(r:Nat)(pl:List Nat->Place)(a b:Ty)(x:El (.aI .bE a b)):Prop:=
 ∃c p0 p1 T,X.w.heap[r]? =some (.cells (c++ [p0,p1,.int .i64 x.2.2]).toArray T (0,0))/\aY X a x.1 c/\cU X (fun p=>pl (0::p)) b x.2.1.1 p0/\cU X (fun p=>pl (1::p)) b x.2.1.2 p1
def cT(X:ar)(r:Nat)(pl:List Nat->Place):(t:Ty)->El t->List (List Nat)->Prop
 | .aI .iter _ _,x,_=>X.w.heap[r]? =some (.stringIter x.1 x.2)
 | .aI .mp kt vt,x,_=>∃es clock,X.w.heap[r]? =some (.map es clock)/\es.size=List.length x/\∀(i:Nat) (q:El kt×El vt) (e:MapEntry),x[i]? =some q->es[i]? =some e->dD X kt q.1 e.key/\dD X vt q.2 e.val
 | .aI .row t _,xs,_=>∃cs T,X.w.heap[r]? =some (.cells cs T (0,0))/\cs.size=List.length xs*t.cells/\∀(j:Nat) (x:El t),xs[j]? =some x->aY X t x ((cs.toList.drop (j*t.cells)).take t.cells)
 | .aI (.fe T e) _ _,x,own=>(∃o,X.w.heap[r]? =some o)/\([]∈own->∃v,ru T e r v (Lib.strCells x) X.w/\∀g,v.ownBlock=some g->X.ow g= .row (pl []) 0)
 | .aI .bE a b,x,own=>(∃o,X.w.heap[r]? =some o)/\((∀p∈iY,p∈own)->fJ X r pl a b x)
 | .aI _ _ _,_,_=>False
 |t,x,own=>∃cs T,X.w.heap[r]? =some (.cells cs T (0,0))/\aY X t x cs.toList/\bc X pl t x cs.toList own
theorem cT.plain{X:ar}{r:Nat}{pl:List Nat->Place}{t:Ty}{x:El t}{own:List (List Nat)}(hs:t.bn=false):cT X r pl t x own↔∃cs T,X.w.heap[r]? =some (.cells cs T (0,0))/\aY X t x cs.toList/\bc X pl t x cs.toList own:=by
 cases t<;>first|exact Iff.rfl|simp [Ty.bn] at hs
theorem cT.of{X:ar}{r:Nat}{pl:List Nat->Place}{t:Ty}{x:El t}{own:List (List Nat)}{cs:Array Value}{T:TypeId}(hs:t.bn=false)(h1:X.w.heap[r]? =some (.cells cs T (0,0)))(h2:aY X t x cs.toList)(h3:bc X pl t x cs.toList own):cT X r pl t x own:=(cT.plain hs).2 ⟨cs,T,h1,h2,h3⟩
theorem dD.mono{X Y:ar}(h:∀a v,X.ax a v->Y.ax a v){t:Ty}{x:El t}{v:Value}(hr:dD X t x v):dD Y t x v:=by
 obtain⟨cs,h1,h2⟩:=hr
 exact⟨cs,h1.ag h,h2⟩
theorem cT.lt{X:ar}{r:Nat}{pl:List Nat->Place}{t:Ty}{x:El t}{own:List (List Nat)}(h:cT X r pl t x own):r<X.w.heap.size:=by
 have key:∀o,X.w.heap[r]? =some o->r<X.w.heap.size:=fun o ho=>(Array.getElem?_eq_some_iff.1 ho).1
 unfold cT at h
 split at h
 ·exact key _ h
 ·obtain⟨es,c,h1,_⟩:=h;exact key _ h1
 ·obtain⟨cs,T,h1,_⟩:=h;exact key _ h1
 ·obtain⟨⟨o,ho⟩,_⟩:=h;exact key _ ho
 ·obtain⟨⟨o,ho⟩,_⟩:=h;exact key _ ho
 ·exact h.elim
 ·obtain⟨cs,T,h1,_⟩:=h;exact key _ h1
theorem cU.move{X Y:ar}{pl eX:List Nat->Place}{b:Ty}{m:Option (El b)}{v:Value}(hs:∀a v,X.ax a v->Y.ax a v)
 (hg:∀p,p=[]\/p=[2]->∀g o n,X.w.heap[g]? =some o->X.ow g= .row (pl p) n->Y.w.heap[g]? =some o/\Y.ow g= .row (eX p) n) (h:cU X pl b m v):cU Y eX b m v:=by
 cases m with
 |none=>exact h
 |some y=>
  obtain⟨g,cs,T,h1,h2,h3,h4,h5⟩:=h
  obtain⟨k1,k2⟩:=hg [] (.inl rfl) g _ _ h2 h3
  refine⟨g,cs,T,h1,k1,k2,h4.ag hs,fun p hp=> ?_⟩
  have:p=[2]:=by simpa [wQ] using hp
  subst this
  obtain⟨e,t',xs,v,g0,g1,g2,g3⟩:=h5 [2] hp
  refine⟨e,t',xs,v,g0,g1,g2,?_⟩
  rcases g3 with g3|⟨g',cap,cur,q1,q2,q3,q4,q5,q6⟩
  ·exact .inl g3
  ·obtain⟨j1,j2⟩:=hg [2] (.inr rfl) g' _ _ q2 q6
   exact .inr ⟨g',cap,cur,q1,j1,q3,q4,q5,j2⟩
theorem fJ.move{X Y:ar}{r:Nat}{pl eX:List Nat->Place}{a b:Ty}{x:El (.aI .bE a b)}(hs:∀a v,X.ax a v->Y.ax a v)(hh:Y.w.heap[r]? =X.w.heap[r]?)
 (hg:∀p∈iY,∀g o n,X.w.heap[g]? =some o->X.ow g= .row (pl p) n->Y.w.heap[g]? =some o/\Y.ow g= .row (eX p) n) (h:fJ X r pl a b x):fJ Y r eX a b x:=by
 obtain⟨c,p0,p1,T,h1,h2,h3,h4⟩:=h
 refine⟨c,p0,p1,T,hh.trans h1,h2.ag hs,h3.move hs fun p hp=> ?_,h4.move hs fun p hp=> ?_⟩
 ·rcases hp with rfl|rfl<;>exact hg _ (by simp [iY])
 ·rcases hp with rfl|rfl<;>exact hg _ (by simp [iY])
theorem cT.move{X Y:ar}{r:Nat}{pl eX:List Nat->Place}{t:Ty}{x:El t}{own:List (List Nat)}(hs:∀a v,X.ax a v->Y.ax a v)(hh:Y.w.heap[r]? =X.w.heap[r]?)
 (ho:∀cs,bc X pl t x cs own->bc Y eX t x cs own) (hg:∀p∈own,∀g o n,X.w.heap[g]? =some o->X.ow g= .row (pl p) n->Y.w.heap[g]? =some o/\Y.ow g= .row (eX p) n) (h:cT X r pl t x own):cT Y r eX t x own:=by
 unfold cT at h⊢
 split at h
 ·exact hh.trans h
 ·obtain⟨es,c,h1,h2,h3⟩:=h
  exact⟨es,c,hh.trans h1,h2,fun i q e hq he=>⟨(h3 i q e hq he).1.mono hs,(h3 i q e hq he).2.mono hs⟩⟩
 ·obtain⟨cs,T,h1,h2,h3⟩:=h
  exact⟨cs,T,hh.trans h1,h2,fun j x hj=>(h3 j x hj).ag hs⟩
 ·obtain⟨⟨o,h1⟩,h2⟩:=h
  refine⟨⟨o,hh.trans h1⟩,fun hm=> ?_⟩
  obtain⟨v,h3,h4⟩:=h2 hm
  refine⟨v,h3.same hh (fun g o hv ho=>(hg _ hm g o _ ho (h4 g hv)).1),fun g hv=> ?_⟩
  obtain⟨cap,cur,x8⟩:∃cap cur,X.w.heap[g]? =some (.cells cur cap (0,0)):=by
   rcases h3.own.2 with⟨hn,_⟩|⟨g',cap,cur,gX,_,x8,_⟩
   ·rw[hn] at hv;simp [Value.ownBlock] at hv
   ·rw[gX] at hv
    simp [Value.ownBlock] at hv
    subst hv
    exact⟨_,_,x8⟩
  exact(hg _ hm g _ _ x8 (h4 g hv)).2
 ·obtain⟨⟨o,h1⟩,h2⟩:=h
  exact⟨⟨o,hh.trans h1⟩,fun hp=>(h2 hp).move hs hh fun p hm=>hg p (hp p hm)⟩
 ·exact h.elim
 ·obtain⟨cs,T,h1,h2,h3⟩:=h
  exact⟨cs,T,hh.trans h1,h2.ag hs,ho _ h3⟩
def bk(X:ar)(id r:Nat)(B:bj):Prop:=X.ow r= .box id/\cT X r (.b id) B.t B.x B.own
theorem bk.cells{X:ar}{id r:Nat}{B:bj}(h:bk X id r B)(hs:B.t.bn=false):∃cs T,X.w.heap[r]? =some (.cells cs T (0,0))/\aY X B.t B.x cs.toList/\X.ow r= .box id/\bc X (.b id) B.t B.x cs.toList B.own:=by
 obtain⟨cs,T,h1,h2,h3⟩:=(cT.plain hs).1 h.2
 exact⟨cs,T,h1,h2,h.1,h3⟩
def fK(s:State):Prop:=∀(i:Nat) l id a b j,s.sl[i]? =some l->SV.bh id a b j∈l->l=[.bh id a b j]/\(∃x own,s.bs[id]? =some (some ⟨.aI .bE a b,x,own⟩)/\ []∉own)/\
 ∀(i':Nat) l' a' b' j',s.sl[i']? =some l'->SV.bh id a' b' j'∈l'->i'=i
theorem fK.less{s s':State}(h:fK s)(hs:∀(i:Nat) l id a b j,s'.sl[i]? =some l->SV.bh id a b j∈l->∃l0,s.sl[i]? =some l0/\SV.bh id a b j∈l0/\(l0=[.bh id a b j]->l=[.bh id a b j]))
 (hb:∀(id:Nat) a b x own,(∃(i:Nat) (l:List SV) (j:Nat),s'.sl[i]? =some l/\SV.bh id a b j∈l)->s.bs[id]? =some (some ⟨.aI .bE a b,x,own⟩)-> []∉own->∃x' gY,s'.bs[id]? =some (some ⟨.aI .bE a b,x',gY⟩)/\ []∉gY):fK s':=fun i l id a b j hl hm=>by
 obtain⟨l0,h1,h2,h3⟩:=hs i l id a b j hl hm
 obtain⟨g1,⟨x,own,g2,g3⟩,g4⟩:=h i l0 id a b j h1 h2
 refine⟨h3 g1,hb id a b x own ⟨i,l,j,hl,hm⟩ g2 g3,fun i' l' a' b' j' iS oK=> ?_⟩
 obtain⟨l1,k1,k2,_⟩:=hs i' l' id a' b' j' iS oK
 exact g4 i' l1 a' b' j' k1 k2
theorem fK.az{s:State}(h:fK s){d:Nat}{B:bj}(hn:∀(i:Nat) (l:List SV) a b j,s.sl[i]? =some l->SV.bh d a b j∈l->False):fK (s.az (some (d,B))):=
 h.less (fun i l id a b j hl hm=>⟨l,hl,hm,fun h=>h⟩) fun id a b x own hex hb ho=>by
  obtain⟨i,l,j,hl,hm⟩:=hex
  refine⟨x,own,?_,ho⟩
  simp only[State.az,List.getElem?_set]
  rw[if_neg (fun e=>by subst e;exact hn i l a b j hl hm)]
  exact hb
theorem fK.none{s:State}(h:fK s){d:Nat}(hb:∀a b x own,s.bs[d]? =some (some ⟨.aI .bE a b,x,own⟩)-> []∈own):∀(i:Nat) (l:List SV) a b j,s.sl[i]? =some l->SV.bh d a b j∈l->False:=fun i l a b j hl hm=>by
 obtain⟨_,⟨x,own,h1,h2⟩,_⟩:=h i l d a b j hl hm
 exact h2 (hb a b x own h1)
theorem Oq{l:List SV}(h:l.any SV.bu=false){id:Nat}{a b:Ty}{j:Nat}(hm:SV.bh id a b j∈l):False:=by
 have:=List.any_eq_false.1 h _ hm
 exact this rfl
structure Rel(X:ar)(s:State)(a:Act):Prop where
 size:s.sl.length=a.tmps.size
 fh:s.bs.length=s.sl.length+1
 bC:∀(i:Nat) l v,s.sl[i]? =some l->a.tmps[i]? =some v->ct X (.c i) l v
 boxes:∀(id:Nat) B,s.bs[id]? =some (some B)->∃r,X.β id=some r/\bk X id r B
 live:∀(i:Nat) l id t p,s.sl[i]? =some l->SV.ptr id t p∈l->∃B,s.bs[id]? =some (some B)
 defers:a.defers=[]
 bh:fK s
theorem rR{w:World}{g:Nat}{o:Obj}(h:w.heap[g]? =some o):g<w.heap.size:=(Array.getElem?_eq_some_iff.1 h).1
theorem ct.gg{X Y:ar}{pl eX:Nat->List Nat->Place}{l:List SV}{v:Value}(hr:ct X pl l v)(h:∀(j:Nat) s u,l[j]? =some s->ay X (pl j) s u->ay Y (eX j) s u):ct Y eX l v:=by
 match l,hr with
 | [s],hr=>exact h 0 s v (by simp) hr
 | [],⟨vs,h1,h2,h3⟩=>exact⟨vs,h1,h2,fun j s u hs hu=>h j s u hs (h3 j s u hs hu)⟩
 |x::y::r,⟨vs,h1,h2,h3⟩=>exact⟨vs,h1,h2,fun j s u hs hu=>h j s u hs (h3 j s u hs hu)⟩
def cF(s:State):Place->Prop
 | .c i j p=>∃l t x own,s.sl[i]? =some l/\l[j]? =some (.ai t x own)/\p∈own
 | .b id p=>∃B,s.bs[id]? =some (some B)/\p∈B.own
 | .r _ _=>False
structure Mod(s:State)(X Y:ar):Prop where
 ax:∀a v,X.ax a v->Y.ax a v
 size:X.w.heap.size<=Y.w.heap.size
 os:Y.w.os=X.w.os
 tape:Y.w.tape=X.w.tape
 output:Y.w.output=X.w.output
 β0:Y.β 0=X.β 0
 β:∀(id:Nat) B,s.bs[id]? =some (some B)->Y.β id=X.β id
 kG:∀g,g<X.w.heap.size->(Y.ow g=X.ow g/\Y.w.heap[g]? =X.w.heap[g]?)\/∃pl n,X.ow g= .row pl n/\¬cF s pl
theorem Mod.ext{s:State}{X Y:ar}(h:Mod s X Y):Ext X Y:=
 ⟨h.ax,h.size,h.os,h.tape,h.output,h.β0,fun g hg bL=>by
   rcases h.kG g hg with e|⟨pl,n,h1,_⟩
   ·exact e
   ·rw[h1] at bL;exact bL.elim⟩
theorem Mod.refl(s:State)(X:ar):Mod s X X:=⟨fun _ _ h=>h,Nat.le_refl _,rfl,rfl,rfl,rfl,fun _ _ _=>rfl,fun _ _=> .inl ⟨rfl,rfl⟩⟩
theorem bf.mod{s:State}{X Y:ar}(h:Mod s X Y){pl:Place}{e:TypeId}{k n:Nat}{v:Value}(hf:cF s pl)(ho:bf X pl e k n v):bf Y pl e k n v:=by
 rcases ho with ho|⟨g,cap,cur,h1,h2,h3,h4,h5,h6⟩
 ·exact .inl ho
 ·rcases h.kG g (rR h2) with⟨k1,k2⟩|⟨eX,n',k1,k2⟩
  ·exact .inr ⟨g,cap,cur,h1,k2.trans h2,h3,h4,h5,k1.trans h6⟩
  ·rw[h6] at k1;injection k1 with k1;rw[k1] at hf;exact absurd hf k2
theorem bc.mod{s:State}{X Y:ar}(h:Mod s X Y){pl:List Nat->Place}{t:Ty}{x:El t}{cs:List Value}{own:List (List Nat)}(hf:∀p∈own,cF s (pl p))(ho:bc X pl t x cs own):bc Y pl t x cs own:=fun p hp=>by
 obtain⟨e,t',xs,v,g0,g1,g2,g3⟩:=ho p hp
 exact⟨e,t',xs,v,g0,g1,g2,g3.mod h (hf p hp)⟩
theorem ay.mod{s:State}{X Y:ar}(h:Mod s X Y){pl:List Nat->Place}{sv:SV}{v:Value}(hf:∀t x own,sv= .ai t x own->∀p∈own,cF s (pl p))(hl:∀id t p,sv= .ptr id t p->∃B,s.bs[id]? =some (some B))(hk:∀id a b j,sv= .bh id a b j->∃B,s.bs[id]? =some (some B))(hr:ay X pl sv v):ay Y pl sv v:=by
 cases sv with
 |undef=>trivial
 |skip=>exact hr
 |cj=>exact hr
 |dF=>exact hr
 |over=>exact hr
 |ai t x own=>
  obtain⟨cs,h1,h2,h3⟩:=hr
  exact⟨cs,h1.ag h.ax,h2,h3.mod h (hf t x own rfl)⟩
 |ptr id t p=>
  obtain⟨r,h1,h2⟩:=hr
  obtain⟨B,hB⟩:=hl id t p rfl
  exact⟨r,(h.β id B hB).trans h1,h2⟩
 |view t x=>
  obtain⟨ad,cs,h1,h2,h3,h4⟩:=hr
  exact⟨ad,cs,h1,h2,h3.ag h.ax,fun i u hi=>h.ax _ _ (h4 i u hi)⟩
 |cap f t x u y=>exact z21 h.ax hr
 |bh id a b j=>
  obtain⟨r,h1,h2,h3⟩:=hr
  obtain⟨B,hB⟩:=hk id a b j rfl
  have aw:r<X.w.heap.size:=World.block_lt_of_cell? X.w _ h3
  rcases h.kG r aw with⟨k1,k2⟩|⟨eX,n',k1,_⟩
  ·refine⟨r,(h.β id B hB).trans h1,k1.trans h2,?_⟩
   simp only[World.cell?] at h3⊢
   rw[k2];exact h3
  ·rw[h2] at k1;cases k1
theorem Rel.mod{s:State}{X Y:ar}{a:Act}(hr:Rel X s a)(h:Mod s X Y):Rel Y s a where
 size:=hr.size
 fh:=hr.fh
 bC:=fun i l v hl hv=>(hr.bC i l v hl hv).gg fun j sv u hm hH=>hH.mod h (fun t x own e p hp=>⟨l,t,x,own,hl,e▸hm,hp⟩) (fun id t p e=>hr.live i l id t p hl (e▸List.mem_of_getElem? hm)) (fun id a b j e=>by
  obtain⟨_,⟨x,own,hb,_⟩,_⟩:=hr.bh i l id a b j hl (e▸List.mem_of_getElem? hm)
  exact⟨_,hb⟩)
 boxes:=fun id B hB=>by
  obtain⟨r,h1,h4,h2⟩:=hr.boxes id B hB
  have hk:Y.ow r=X.ow r/\Y.w.heap[r]? =X.w.heap[r]? :=by
   rcases h.kG r h2.lt with hk|⟨eX,n',k1,k2⟩
   ·exact hk
   ·rw[h4] at k1;cases k1
  exact⟨r,(h.β id B hB).trans h1,hk.1.trans h4,h2.move h.ax hk.2 (fun cs h5=>h5.mod h fun p hp=>⟨B,hB,hp⟩) fun p hm g o n ho hw=>by
   rcases h.kG g (rR ho) with e|⟨pl,n',e1,e2⟩
   ·exact⟨e.2.trans ho,e.1.trans hw⟩
   ·rw[hw] at e1;injection e1 with e1;exact absurd (e1▸(⟨B,hB,hm⟩:cF s (.b id p))) e2⟩
 live:=hr.live
 defers:=hr.defers
 bh:=hr.bh
structure dO(s:State)(X Y:ar):Prop where
 size:X.w.heap.size<=Y.w.heap.size
 os:Y.w.os=X.w.os
 tape:Y.w.tape=X.w.tape
 output:Y.w.output=X.w.output
 kG:∀g,g<X.w.heap.size->Y.ow g=X.ow g/\Y.w.heap[g]? =X.w.heap[g]?
 β0:Y.β 0=X.β 0
 β:∀(id:Nat) B,s.bs[id]? =some (some B)->Y.β id=X.β id
theorem dO.ax{s:State}{X Y:ar}(h:dO s X Y){a:Addr}{v:Value}(hs:X.ax a v):Y.ax a v:=by
 have aw:=ar.fW hs
 obtain⟨h1,h2⟩:=h.kG _ aw
 refine⟨hs.1,?_,?_⟩
 ·have:=hs.2.1
  simp only[World.cell?] at this⊢
  rw[h2];exact this
 ·rw[h1];exact hs.2.2
theorem dO.mod{s:State}{X Y:ar}(h:dO s X Y):Mod s X Y:=
 ⟨fun _ _=>h.ax,h.size,h.os,h.tape,h.output,h.β0,h.β,fun g hg=> .inl (h.kG g hg)⟩
theorem dO.ext{s:State}{X Y:ar}(h:dO s X Y):Ext X Y:=h.mod.ext
theorem bf.cS{s:State}{X Y:ar}(h:dO s X Y){pl:Place}{e:TypeId}{k n:Nat}{v:Value}(ho:bf X pl e k n v):bf Y pl e k n v:=by
 rcases ho with ho|⟨g,cap,cur,h1,h2,h3,h4,h5,h6⟩
 ·exact .inl ho
 ·obtain⟨k1,k2⟩:=h.kG g (rR h2)
  exact .inr ⟨g,cap,cur,h1,k2.trans h2,h3,h4,h5,k1.trans h6⟩
theorem bc.cS{s:State}{X Y:ar}(h:dO s X Y){pl:List Nat->Place}{t:Ty}{x:El t}{cs:List Value}{own:List (List Nat)}(ho:bc X pl t x cs own):bc Y pl t x cs own:=fun p hp=>by
 obtain⟨e,t',xs,v,g0,g1,g2,g3⟩:=ho p hp
 exact⟨e,t',xs,v,g0,g1,g2,g3.cS h⟩
theorem Rel.cS{s:State}{X Y:ar}{a:Act}(hr:Rel X s a)(h:dO s X Y):Rel Y s a:=hr.mod h.mod
theorem Rel.put{X:ar}{s:State}{a:Act}(hr:Rel X s a){d:Option Nat}{l:List SV}{v:Value}(h:∀d',d=some d'->ct X (.c d') l v)(hl:∀id t p,SV.ptr id t p∈l->∃B,s.bs[id]? =some (some B))(hn:l.any SV.bu=false:=by rfl):Rel X (s.ap d l) (a.put d v):=by
 cases d with
 |none=>exact hr
 |some d=>
  refine⟨by simpa [State.ap,Act.put] using hr.size,by simpa [State.ap] using hr.fh,fun i l' v' hi hv=> ?_,hr.boxes,fun i l' id t p hi hm=> ?_,hr.defers,hr.bh.less (fun i l' id a b j hi hm=> ?_) (fun id a b x own _ hb ho=>⟨x,own,hb,ho⟩)⟩
  ·simp only[State.ap,List.getElem?_set] at hi
   simp only[Act.put,Array.getElem?_setIfInBounds] at hv
   by_cases e:d=i
   ·subst e
    simp only[if_true] at hi hv
    split at hi
    ·split at hv
     ·cases hi;cases hv;exact h d rfl
     ·cases hv
    ·cases hi
   ·rw[if_neg e] at hi hv
    exact hr.bC i l' v' hi hv
  ·simp only[State.ap,List.getElem?_set] at hi
   split at hi
   ·split at hi
    ·cases hi;exact hl id t p hm
    ·cases hi
   ·exact hr.live i l' id t p hi hm
  ·simp only[State.ap,List.getElem?_set] at hi
   split at hi
   ·split at hi
    ·cases hi;exact(Oq hn hm).elim
    ·cases hi
   ·exact⟨l',hi,hm,fun h=>h⟩
theorem Rel.skip{X:ar}{s:State}{a:Act}(hr:Rel X s a)(d:Option Nat):Rel X (s.ap d [.skip]) (a.put d Go.undef):=
 hr.put (fun _ _=>rfl) (fun id t p h=>by simp at h)
structure dt(s:State)(X Y:ar):Prop where
 w:Y.w=X.w
 β:Y.β=X.β
 ow:∀g,Y.ow g=X.ow g\/∃pl n q,X.ow g= .row pl n/\¬cF s pl/\Y.ow g= .row q n
theorem dt.ax{s:State}{X Y:ar}(h:dt s X Y){a:Addr}{v:Value}:X.ax a v↔Y.ax a v:=by
 unfold ar.ax
 rw[h.w]
 rcases h.ow a.block with e|⟨pl,n,q,h1,_,h2⟩
 ·rw[e]
 ·rw[h1,h2];rfl
theorem dt.mod{s:State}{X Y:ar}(h:dt s X Y):Mod s X Y:=
 ⟨fun _ _=>h.ax.1,by rw[h.w];exact Nat.le_refl _,by rw[h.w],by rw[h.w],by rw[h.w],by rw[h.β],fun _ _ _=>by rw[h.β],fun g _=>by
   rcases h.ow g with e|⟨pl,n,q,h1,h2,_⟩
   ·exact .inl ⟨e,by rw[h.w]⟩
   ·exact .inr ⟨pl,n,h1,h2⟩⟩
theorem dt.ext{s:State}{X Y:ar}(h:dt s X Y):Ext X Y:=h.mod.ext
theorem dt.refl(s:State)(X:ar):dt s X X:=⟨rfl,rfl,fun _=> .inl rfl⟩
theorem JY{v:SV}{id:Nat}{t:Ty}{p:List Nat}:v.shut= .ptr id t p->v= .ptr id t p:=by cases v<;>simp [SV.shut]
theorem ay.shut{X:ar}{pl eX:List Nat->Place}{sv:SV}{v:Value}(hr:ay X pl sv v):ay X eX sv.shut v:=by
 cases sv with
 |ai t x own=>
  obtain⟨cs,h1,h2,_⟩:=hr
  exact⟨cs,h1,h2,fun p hp=>by cases hp⟩
 |bh id a b j=>trivial
 |_=>exact hr
theorem z66:∀(l:List SV) (j:Nat),(bz l j).length=l.length
 | [],_=>rfl
 |_::_,0=>rfl
 |_::r,j+1=>by simp [bz,z66 r j]
theorem Hn:∀(l:List SV) (j i:Nat),(bz l j)[i]? =if i=j then(l[i]?).map SV.shut else l[i]?
 | [],j,i=>by simp [bz]
 |v::r,0,0=>by simp [bz]
 |v::r,0,i+1=>by simp [bz]
 |v::r,j+1,0=>by simp [bz]
 |v::r,j+1,i+1=>by
  simp only[bz,List.getElem?_cons_succ,Hn r j i]
  simp
theorem ct.bz{X:ar}{pl:Nat->List Nat->Place}{l:List SV}{v:Value}(hr:ct X pl l v)(j:Nat):ct X pl (bz l j) v:=by
 match l,hr with
 | [s],hr=>
   cases j with
   |zero=>exact hr.shut
   |succ j=>exact hr
 | [],hr=>exact hr
 |x::y::r,⟨vs,h1,h2,h3⟩=>
  have hlen:∃x' y' r',Ref.bz (x::y::r) j=x'::y'::r':=by
   match j with
   |0=>exact⟨_,_,_,rfl⟩
   |1=>exact⟨_,_,_,rfl⟩
   |j+2=>exact⟨_,_,_,rfl⟩
  obtain⟨x',y',r',he⟩:=hlen
  have hl:=z66 (x::y::r) j
  have hg:=Hn (x::y::r) j
  rw[he] at hl hg⊢
  refine⟨vs,h1,by rw[hl];exact h2,fun i s u hs hu=> ?_⟩
  rw[hg] at hs
  split at hs
  ·obtain⟨s0,dW,rfl⟩:=Option.map_eq_some_iff.1 hs
   exact(h3 i s0 u dW hu).shut
  ·exact h3 i s u hs hu
theorem Th{l:List SV}{j:Nat}{id:Nat}{t:Ty}{p:List Nat}(h:SV.ptr id t p∈bz l j):SV.ptr id t p∈l:=by
 obtain⟨i,hi⟩:=List.mem_iff_getElem?.1 h
 rw[Hn] at hi
 split at hi
 ·obtain⟨s0,dW,he⟩:=Option.map_eq_some_iff.1 hi
  rw[JY he] at dW
  exact List.mem_of_getElem? dW
 ·exact List.mem_of_getElem? hi
theorem nz{s:State}{i:Nat}(h:i<s.sl.length):s.sl[i]? =some (s.slot i):=by
 simp [State.slot,List.getD_eq_getElem?_getD,List.getElem?_eq_getElem h]
theorem Tf{l:List SV}{j:Nat}{id:Nat}{a b:Ty}{i:Nat}(h:SV.bh id a b i∈bz l j):SV.bh id a b i∈l/\(l=[.bh id a b i]->bz l j=[.bh id a b i]):=by
 obtain⟨k,hk⟩:=List.mem_iff_getElem?.1 h
 have vK:=hk
 rw[Hn] at hk
 split at hk
 ·obtain⟨s0,dW,he⟩:=Option.map_eq_some_iff.1 hk
  cases s0<;>simp [SV.shut] at he
 ·refine⟨List.mem_of_getElem? hk,fun e=> ?_⟩
  subst e
  cases j with
  |zero=>simp [bz,SV.shut] at h
  |succ j=>rfl
def State.bS(s:State)(i j:Nat):State:={s with sl:=s.sl.set i (bz (s.slot i) j)}
theorem z31{s:State}{i j:Nat}{r:List (Nat×Nat)}:s.close ((i,j)::r)=(s.bS i j).close r:=rfl
theorem zdx{r:List (Nat×Nat)}:∀(l:List (Nat×Nat)) (s:State),s.close (l++r)=(s.close l).close r
 | [],s=>rfl
 |(i,j)::l,s=>by
  rw[List.cons_append,z31,z31]
  exact zdx l _
theorem Rel.bS{X:ar}{s:State}{a:Act}(hr:Rel X s a)(i j:Nat):Rel X (s.bS i j) a:=by
 refine⟨by simpa [State.bS] using hr.size,by simpa [State.bS] using hr.fh,fun k l v hl hv=> ?_,hr.boxes,fun k l id t p hl hm=> ?_,hr.defers,hr.bh.less (fun k l id a b n hl hm=> ?_) (fun id a b x own _ hb ho=>⟨x,own,hb,ho⟩)⟩
 ·simp only[State.bS,List.getElem?_set] at hl
  split at hl
  ·rename_i e
   subst e
   split at hl
   ·rename_i aw
    cases hl
    exact(hr.bC i _ v (nz aw) hv).bz j
   ·cases hl
  ·exact hr.bC k l v hl hv
 ·simp only[State.bS,List.getElem?_set] at hl
  split at hl
  ·rename_i e
   subst e
   split at hl
   ·rename_i aw
    cases hl
    exact hr.live i _ id t p (nz aw) (Th hm)
   ·cases hl
  ·exact hr.live k l id t p hl hm
 ·simp only[State.bS,List.getElem?_set] at hl
  split at hl
  ·rename_i e
   subst e
   split at hl
   ·rename_i aw
    cases hl
    obtain⟨h1,h2⟩:=Tf hm
    exact⟨_,nz aw,h1,h2⟩
   ·cases hl
  ·exact⟨l,hl,hm,fun h=>h⟩
theorem Rel.close{X:ar}{a:Act}:∀(c:List (Nat×Nat)) {s:State},Rel X s a->Rel X (s.close c) a
 | [],s,hr=>hr
 |(i,j)::r,s,hr=>Rel.close r (hr.bS i j)
theorem ub:∀{c:List (Nat×Nat)} {s:State},(s.close c).bs=s.bs
 | [],s=>rfl
 |(i,j)::r,s=>(ub (c:=r) (s:=s.bS i j))
theorem Hr:∀{c:List (Nat×Nat)} {s:State},(s.close c).sl.length=s.sl.length
 | [],s=>rfl
 |(i,j)::r,s=>by rw[z31,Hr (c:=r)];simp [State.bS]
theorem cF.oi{s:State}{i j:Nat}{pl:Place}(h:cF (s.bS i j) pl):cF s pl/\∀p,pl≠ .c i j p:=by
 cases pl with
 |r j p=>exact h.elim
 |b id p=>exact⟨h,fun p=>by simp⟩
 |c i' j' p=>
  obtain⟨l,t,x,own,hl,hx,hp⟩:=h
  simp only[State.bS,List.getElem?_set] at hl
  split at hl
  ·rename_i e
   subst e
   split at hl
   ·rename_i aw
    cases hl
    rw[Hn] at hx
    split at hx
    ·obtain⟨s0,_,he⟩:=Option.map_eq_some_iff.1 hx
     cases s0<;>simp [SV.shut] at he
     obtain⟨rfl,_,rfl⟩:=he
     cases hp
    ·rename_i bB
     exact⟨⟨_,t,x,own,nz aw,hx,hp⟩,fun q e=>by cases e;exact bB rfl⟩
   ·cases hl
  ·rename_i bB
   exact⟨⟨l,t,x,own,hl,hx,hp⟩,fun q e=>by cases e;exact bB rfl⟩
theorem cF.iH{pl:Place}:∀{c:List (Nat×Nat)} {s:State},cF (s.close c) pl->cF s pl/\∀i j,(i,j)∈c->∀p,pl≠ .c i j p
 | [],s,h=>⟨h,fun i j hm=>by cases hm⟩
 |(i,j)::r,s,h=>by
  obtain⟨h1,h2⟩:=cF.iH (c:=r) (s:=s.bS i j) h
  obtain⟨h3,h4⟩:=cF.oi h1
  refine⟨h3,fun i' j' hm p=> ?_⟩
  rcases List.mem_cons.1 hm with e|hm
  ·cases e;exact h4 p
  ·exact h2 i' j' hm p
theorem cF.close{s:State}{i j:Nat}{p:List Nat}:¬cF (s.close [(i,j)]) (.c i j p):=fun h=>(cF.iH h).2 i j (by simp) p rfl
def ar.turn(X:ar)(i j:Nat)(q:List Nat->Place):ar:=
 {X with ow:=fun g=>match X.ow g with
  | .row (.c i' j' p) n=>if i'=i/\j'=j then .row (q p) n else .row (.c i' j' p) n
  |w=>w}
theorem zy4{s:State}{X:ar}{i j:Nat}{q:List Nat->Place}(h:∀p,¬cF s (.c i j p)):dt s X (X.turn i j q):=by
 refine⟨rfl,rfl,fun g=> ?_⟩
 simp only[ar.turn]
 cases hg:X.ow g with
 |row pl n=>
  cases pl with
  |c i' j' p=>
   by_cases e:i'=i/\j'=j
   ·obtain⟨rfl,rfl⟩:=e
    exact .inr ⟨_,n,q p,rfl,h p,by simp⟩
   ·exact .inl (by simp [e])
  |_=>exact .inl rfl
 |_=>exact .inl rfl
theorem bf.kc{X:ar}{i j:Nat}{q:List Nat->Place}{p:List Nat}{e:TypeId}{k n:Nat}{v:Value}(h:bf X (.c i j p) e k n v):bf (X.turn i j q) (q p) e k n v:=by
 rcases h with h|⟨g,cap,cur,h1,h2,h3,h4,h5,h6⟩
 ·exact .inl h
 ·exact .inr ⟨g,cap,cur,h1,h2,h3,h4,h5,by simp [ar.turn,h6]⟩
theorem bc.kc{X:ar}{i j:Nat}{q:List Nat->Place}{t:Ty}{x:El t}{cs:List Value}{own:List (List Nat)}(h:bc X (.c i j) t x cs own):bc (X.turn i j q) q t x cs own:=fun p hp=>by
 obtain⟨e,t',xs,v,g0,g1,g2,g3⟩:=h p hp
 exact⟨e,t',xs,v,g0,g1,g2,g3.kc⟩
def jN(X Y:ar):Prop:=Y.w=X.w/\∀g pl n,X.ow g= .row pl n->(∀i j p,pl≠ .c i j p)->Y.ow g= .row pl n
theorem Wq{X:ar}{i j:Nat}{q:List Nat->Place}:jN X (X.turn i j q):=⟨rfl,fun g pl n h hp=>by
 simp only[ar.turn,h]
 cases pl with
 |c i' j' p=>exact absurd rfl (hp i' j' p)
 |_=>rfl⟩
theorem jN.refl(X:ar):jN X X:=⟨rfl,fun _ _ _ h _=>h⟩
theorem bc.stay{X Y:ar}(h:jN X Y){pl:List Nat->Place}(hp:∀r i j p,pl r≠ .c i j p){t:Ty}{x:El t}{cs:List Value}{own:List (List Nat)}(ho:bc X pl t x cs own):bc Y pl t x cs own:=fun p hm=>by
 obtain⟨e,t',xs,v,g0,g1,g2,g3⟩:=ho p hm
 refine⟨e,t',xs,v,g0,g1,g2,?_⟩
 rcases g3 with h0|⟨g,cap,cur,h1,h2,h3,h4,h5,h6⟩
 ·exact .inl h0
 ·exact .inr ⟨g,cap,cur,h1,by rw[h.1];exact h2,h3,h4,h5,h.2 g _ _ h6 (hp p)⟩
theorem Rel.take{X:ar}{s:State}{a:Act}(hr:Rel X s a){i j:Nat}{t:Ty}{x:El t}{w:List (List Nat)}{v:Value}(h:ay X (.c i j) (.ai t x w) v)(q:List Nat->Place):
 ∃Y,Y.w=X.w/\Ext X Y/\Rel Y (s.close [(i,j)]) a/\ay Y q (.ai t x w) v/\Y.β=X.β/\dt (s.close [(i,j)]) X Y/\jN X Y:=by
 obtain⟨cs,h1,h2,h3⟩:=h
 have hT:dt (s.close [(i,j)]) X (X.turn i j q):=zy4 fun p=>cF.close
 exact⟨X.turn i j q,rfl,hT.ext,(hr.close _).mod hT.mod,⟨cs,h1.ag (fun _ _=>hT.ax.1),h2,h3.kc⟩,rfl,hT,Wq⟩
def ar.dm(X:ar)(i d:Nat):ar:=
 {X with ow:=fun g=>match X.ow g with
  | .row (.c i' j' p) n=>if i'=i then .row (.c d j' p) n else .row (.c i' j' p) n
  |w=>w}
theorem zy3(t:Nat):∀(n j:Nat),j<n->(t,j)∈iJ t n
 |0,j,h=>absurd h (Nat.not_lt_zero j)
 |n+1,j,h=>by
  rcases Nat.lt_or_ge j n with h1|h1
  ·exact List.mem_cons_of_mem _ (zy3 t n j h1)
  ·have:j=n:=by omega
   subst this
   simp [iJ]
theorem cF.closeAll{s:State}{t j:Nat}{p:List Nat}:¬cF (s.close (iJ t (s.slot t).length)) (.c t j p):=fun h=>by
 obtain⟨h1,h2⟩:=cF.iH h
 obtain⟨l,ty,x,own,g1,g2,g3⟩:=h1
 have hl:s.slot t=l:=by simp [State.slot,g1]
 have hj:j<l.length:=(List.getElem?_eq_some_iff.1 g2).1
 exact h2 t j (zy3 t _ j (by rw[hl];exact hj)) p rfl
theorem Sj{s:State}{X:ar}{i d:Nat}(h:∀j p,¬cF s (.c i j p)):dt s X (X.dm i d):=by
 refine⟨rfl,rfl,fun g=> ?_⟩
 simp only[ar.dm]
 cases hg:X.ow g with
 |row pl n=>
  cases pl with
  |c i' j' p=>
   by_cases e:i'=i
   ·subst e
    exact .inr ⟨_,n,.c d j' p,rfl,h j' p,by simp⟩
   ·exact .inl (by simp [e])
  |_=>exact .inl rfl
 |_=>exact .inl rfl
theorem bf.gn{X:ar}{i d j:Nat}{p:List Nat}{e:TypeId}{k n:Nat}{v:Value}(h:bf X (.c i j p) e k n v):bf (X.dm i d) (.c d j p) e k n v:=by
 rcases h with h|⟨g,cap,cur,h1,h2,h3,h4,h5,h6⟩
 ·exact .inl h
 ·exact .inr ⟨g,cap,cur,h1,h2,h3,h4,h5,by simp [ar.dm,h6]⟩
theorem ay.gn{s:State}{X:ar}{i d j:Nat}{sv:SV}{v:Value}(hT:dt s X (X.dm i d))(h:ay X (.c i j) sv v):ay (X.dm i d) (.c d j) sv v:=by
 cases sv with
 |ai t x own=>
  obtain⟨cs,h1,h2,h3⟩:=h
  refine⟨cs,h1.ag (fun _ _=>hT.ax.1),h2,fun p hp=> ?_⟩
  obtain⟨e,t',xs,v,g0,g1,g2,g3⟩:=h3 p hp
  exact⟨e,t',xs,v,g0,g1,g2,g3.gn⟩
 |view t x=>
  obtain⟨ad,cs,h1,h2,h3,h4⟩:=h
  exact⟨ad,cs,h1,h2,h3.ag (fun _ _=>hT.ax.1),fun i u hi=>hT.ax.1 (h4 i u hi)⟩
 |cap f t x u y=>exact z21 (fun _ _=>hT.ax.1) h
 |bh id a b k=>
  obtain⟨r,h1,h2,h3⟩:=h
  exact⟨r,h1,by simp [ar.dm,h2],h3⟩
 |_=>exact h
theorem Rel.tR{X:ar}{s:State}{a:Act}(hr:Rel X s a){t:Nat}{v:Value}(h:ct X (.c t) (s.slot t) v)(d:Nat):
 ∃Y,Y.w=X.w/\Ext X Y/\Rel Y (s.close (iJ t (s.slot t).length)) a/\ct Y (.c d) (s.slot t) v:=by
 have hT:dt (s.close (iJ t (s.slot t).length)) X (X.dm t d):=Sj fun j p=>cF.closeAll
 exact⟨X.dm t d,rfl,hT.ext,(hr.close _).mod hT.mod,h.gg fun j sv u hj hu=>hu.gn hT⟩
def zl:Ty->List Value
 | .bool=>[.bool false]
 | .int k=>[.int k 0]
 | .str=>[.string ⟨#[]⟩]
 | .sl _ _=>[.slice none 0 0]
 | .arr n t=>(List.replicate n (zl t)).flatten
 | .unit=>[]
 | .pair a b=>zl a++zl b
 | .aI _ _ _=>[]
def gO(E:Env):List Field->Ty->Nat->Prop
 | [],.unit,_=>True
 |f::r,.pair a b,off=>f.offset=off/\E.ty f.type=some a/\f.name≠ "_" /\gO E r b (off+a.cells)
 |_,_,_=>False
def GX(P:Program)(E:Env)(T:TypeId):Ty->Prop
 | .bool=>P.underlying T=some .bool
 | .int k=>P.underlying T=some (.int k)
 | .str=>P.underlying T=some .string
 | .sl e t=>P.underlying T=some (.slice e)/\E.ty e=some t
 | .arr n t=>∃e,P.underlying T=some (.array n e)/\E.ty e=some t/\P.eqGuardType P.depth T=false
 | .aI _ _ _=>False
 |t=>∃fs,P.underlying T=some (.struct fs)/\gO E fs.toList t 0/\P.stoodInHeld T=false/\P.eqGuardType P.depth T=false
structure jO(P:Program)(E:Env)(T:TypeId)(t:Ty):Prop where
 info:∃i,P.info? T=some i/\i.size=t.cells/\i.bytes=E.bytes T/\i.zero=some (dk t (zl t))
 cQ:GX P E T t
structure aj(P:Program)(E:Env):Prop where
 ty:∀T t,E.ty T=some t->jO P E T t
 pt:∀T,E.pt T=true->∃e,P.underlying T=some (.pointer e)
 p1:∀T,E.pt T=true->∃i,P.info? T=some i/\i.size=1
 mp:∀T k e,E.mp T=some (k,e)->P.underlying T=some (.map k e)
 bl:∀T e,E.bl T=some e->∃i,P.info? T=some i/\i.zero=some (.agg #[.pointer none,.slice none 0 0])
 gr:∀T a b,E.gr T=some (a,b)->∃fs,P.underlying T=some (.struct fs)/\∀j,j<=2->∃f i,fs[j]? =some f/\f.offset=kK a [j]/\P.info? f.type=some i/\i.size≠0
 gz:∀T a b,E.gr T=some (a,b)->∃i,P.info? T=some i/\i.zero=some (.agg (zl a++ [Value.pointer none,Value.pointer none,Value.int .i64 0]).toArray)
 g3:∀T a b,E.gr T=some (a,b)->∃fs f,P.underlying T=some (.struct fs)/\fs[0]? =some f/\f.offset=0/\E.ty f.type=some a/\∀f∈fs.toList,∃i,P.info? f.type=some i
 ga:∀T,E.ga T=true->∃e i,P.underlying T=some (.array 2 e)/\P.info? e=some i/\i.size=1
theorem aj.gj{P:Program}{E:Env}(hE:aj P E){T:TypeId}{t:Ty}(h:E.ty T=some t):t.bn=false:=by
 have:=(hE.ty T t h).cQ
 cases t<;>first|rfl|exact this.elim
theorem ri:∀t:Ty,(zl t).length=t.cells
 | .bool=>rfl
 | .int _=>rfl
 | .str=>rfl
 | .sl _ _=>rfl
 | .unit=>rfl
 | .arr n t=>by simp [zl,Ty.cells,ri t]
 | .pair a b=>by simp [zl,Ty.cells,ri a,ri b]
 | .aI _ _ _=>rfl
theorem z7o{l:List Value}{k:Nat}(hl:l.length=k):∀(n j:Nat),j<n->(((List.replicate n l).flatten).drop (j*k)).take k=l
 |0,j,h=>by omega
 |n+1,0,_=>by
  simp only[List.replicate_succ,List.flatten_cons,Nat.zero_mul,List.drop_zero]
  rw[<-hl];exact List.take_left
 |n+1,j+1,h=>by
  simp only[List.replicate_succ,List.flatten_cons]
  rw[Nat.add_mul,Nat.one_mul,Nat.add_comm,<-List.drop_drop]
  rw[show List.drop k (l++(List.replicate n l).flatten)=(List.replicate n l).flatten by rw[<-hl];exact List.drop_left]
  exact z7o hl n j (by omega)
theorem oQ(X:ar):∀t:Ty,aY X t (El.bH t) (zl t)
 | .bool=>rfl
 | .int _=>rfl
 | .str=>rfl
 | .unit=>rfl
 | .sl _ t=>⟨none,0,rfl,Nat.le_refl _,fun j x h=>by simp [El.bH] at h⟩
 | .arr n t=>by
   refine⟨by simp [El.bH],by simp [zl,ri],fun j x h=> ?_⟩
   have hj:j<n:=by
    have:=(List.getElem?_eq_some_iff.1 h).1
    simpa [El.bH] using this
   have hx:x=El.bH t:=by
    simp only[El.bH,List.getElem?_replicate] at h
    rw[if_pos hj] at h
    exact(Option.some.inj h).symm
   subst hx
   have:=z7o (ri t) n j hj
   simp only[zl]
   rw[this]
   exact oQ X t
 | .pair a b=>⟨zl a,zl b,rfl,oQ X a,oQ X b⟩
 | .aI _ _ _=>rfl
theorem Ic{t:Ty}{c:Value}(h:t.agg=false):dk t [c]=c:=by simp [dk,h]
theorem hG{t:Ty}{cs:List Value}(h:t.agg=true):dk t cs= .agg cs.toArray:=by simp [dk,h]
theorem rM{t:Ty}{X:ar}{x:El t}{cs:List Value}(h:aY X t x cs):(dk t cs).cells=cs.toArray:=by
 cases ht:t.agg with
 |true=>rw[hG ht];rfl
 |false=>
  have hl:=h.len
  have h1:=h.one
  have hc:t.cells=1:=by cases t<;>simp_all [Ty.agg,Ty.cells]
  rw[hc] at hl
  match cs,hl with
  | [c],_=>
    rw[Ic ht]
    have:=h1 c (by simp)
    cases c<;>simp_all [Value.oneCell',Value.cells]
theorem zt{R:Type}{s:SV}{u:Ty}{K:El u->Option R}{z:R}(h:s.el u K=some z):
 ∃y,K y=some z/\∀(X:ar) pl v,ay X pl s v->∃cs,aY X u y cs/\v=dk u cs:=by
 cases s with
 |ai t x own=>
  simp only[SV.el] at h
  split at h
  ·rename_i he
   have e:=Ty.aH he
   subst e
   exact⟨x,h,fun X pl v hv=>by obtain⟨cs,h1,h2,_⟩:=hv;exact⟨cs,h1,h2⟩⟩
  ·cases h
 |cj=>
  cases u<;>simp only[SV.el] at h<;>first|cases h|skip
  rename_i e t
  refine⟨[],h,fun X pl v hv=>⟨[.slice none 0 0],⟨none,0,rfl,Nat.le_refl _,fun j x hj=>by simp at hj⟩,hv⟩⟩
 |_=>simp [SV.el] at h
theorem jG{X:ar}{k:IntKind}{n:Int}{cs:List Value}(h:aY X (.int k) n cs):dk (.int k) cs= .int k n:=by cases h;rfl
theorem rP{X:ar}{b:Bool}{cs:List Value}(h:aY X .bool b cs):dk .bool cs= .bool b:=by cases h;rfl
theorem lv{X:ar}{s:ByteArray}{cs:List Value}(h:aY X .str s cs):dk .str cs= .string s:=by cases h;rfl
theorem km{X:ar}{pl:List Nat->Place}{t:Ty}{x:El t}{cs:List Value}:bc X pl t x cs []:=fun p hp=>by cases hp
theorem zu{X:ar}{pl:List Nat->Place}{k:IntKind}{n:Int}:ay X pl (.ai (.int k) n []) (.int k n):=⟨[.int k n],rfl,rfl,km⟩
theorem lu{X:ar}{pl:List Nat->Place}{b:Bool}:ay X pl (.ai .bool b []) (.bool b):=⟨[.bool b],rfl,rfl,km⟩
theorem wH{X:ar}{pl:List Nat->Place}{s:ByteArray}:ay X pl (.ai .str s []) (.string s):=⟨[.string s],rfl,rfl,km⟩
theorem wC{X:ar}{pl:List Nat->Place}{k:IntKind}{n:Int}{o:List (List Nat)}{v:Value}(h:ay X pl (.ai (.int k) n o) v):v= .int k n:=by
 obtain⟨cs,h1,h2,_⟩:=h
 rw[h2,jG h1]
theorem He{X:ar}{pl:List Nat->Place}{b:Bool}{o:List (List Nat)}{v:Value}(h:ay X pl (.ai .bool b o) v):v= .bool b:=by
 obtain⟨cs,h1,h2,_⟩:=h
 rw[h2,rP h1]
theorem zeg{X:ar}{pl:List Nat->Place}{s:ByteArray}{o:List (List Nat)}{v:Value}(h:ay X pl (.ai .str s o) v):v= .string s:=by
 obtain⟨cs,h1,h2,_⟩:=h
 rw[h2,lv h1]
def tN:Operand->List Nat->Place
 | .tmp t=> .c t 0
 |_=> .r 0
theorem So(X:ar)(pl:List Nat->Place)(v:Value):ay X pl (wL v) v:=by
 unfold wL
 split
 ·exact lu
 ·exact zu
 ·exact wH
 ·rfl
 ·rfl
 ·trivial
theorem Rel.slot{X:ar}{s:State}{a:Act}(hr:Rel X s a)(t:Nat):ct X (.c t) (s.slot t) (a.tmps.getD t Go.undef):=by
 by_cases h:t<s.sl.length
 ·refine hr.bC t _ _ (nz h) ?_
  have:=hr.size
  simp [Array.getElem?_eq_getElem (show t<a.tmps.size by omega)]
 ·have:s.slot t=[.undef]:=by simp [State.slot,List.getElem?_eq_none (show s.sl.length<=t by omega)]
  rw[this]
  trivial
theorem Rel.aF{X:ar}{s:State}{a:Act}(hr:Rel X s a)(x:Operand):ay X (tN x) (s.aF x) (a.eval x):=by
 cases x with
 |tmp t=>
  have h:=hr.slot t
  unfold State.aF State.tL
  simp only[tN,Act.eval]
  match hl:s.slot t with
  | []=>trivial
  | [sv]=>rw[hl] at h;exact h
  |_::_::_=>trivial
 |const v=>exact So X _ v
 |_=>trivial
theorem oR{X:ar}{s:State}{a:Act}(hr:Rel X s a){x:Operand}{id:Nat}{t:Ty}{p:List Nat}(h:s.aF x= .ptr id t p):∃B,s.bs[id]? =some (some B):=by
 cases x with
 |tmp i=>
  unfold State.aF State.tL at h
  simp only at h
  by_cases hi:i<s.sl.length
  ·refine hr.live i _ id t p (nz hi) ?_
   match hl:s.slot i,h with
   | [sv],h=>have:sv= .ptr id t p:=h;simp [this]
   | [],h=>simp [one] at h
   |_::_::_,h=>simp [one] at h
  ·have:s.slot i=[.undef]:=by simp [State.slot,List.getElem?_eq_none (Nat.le_of_not_lt hi)]
   rw[this] at h
   simp [one] at h
 |const v=>unfold State.aF State.tL wL at h;simp only[one] at h;split at h<;>simp at h
 |_=>simp [State.aF,State.tL,one] at h
theorem Rel.fin{Y:ar}{s:State}{a:Act}(hr:Rel Y s a){dst:Option Nat}{l:List SV}{v:Value}(h:ct Y (.c (dst.getD 0)) l v)(hl:∀id t p,SV.ptr id t p∈l->∃B,s.bs[id]? =some (some B))(hn:l.any SV.bu=false:=by rfl):Rel Y (s.ap dst l) (a.put dst v):=
 hr.put (fun d' e=>by subst e;exact h) hl hn
def aG(P:Program)(X:ar)(s:State)(a:Act)(o:Oper)(u:Out):Prop:=
 ∃Y v,((execOp a.eval o).run P X.w= .ok (.value v) Y.w\/((execOp a.eval o).run P X.w= .ok .skip Y.w/\v=Go.undef))/\Ext X Y/\Rel Y (s.apply o.dst u) (a.put o.dst v)
theorem aG.plain{P:Program}{X:ar}{s:State}{a:Act}{o:Oper}(hr:Rel X s a){sv:SV}{v:Value}
 (h:(execOp a.eval o).run P X.w= .ok (.value v) X.w) (hv:ay X (.c (o.dst.getD 0) 0) sv v) (hl:∀id t p,sv= .ptr id t p->∃B,s.bs[id]? =some (some B)) (hn:sv.bu=false:=by rfl):aG P X s a o {v:=[sv]}:=
 ⟨X,v,.inl h,Ext.refl X,hr.fin hv (fun id t p hm=>hl id t p (by have h':=hm;simp at h';exact h'.symm)) (by simp [hn])⟩
theorem aG.vY{P:Program}{X:ar}{s:State}{a:Act}{o:Oper}(hr:Rel X s a){i j:Nat}{t:Ty}{x:El t}{w:List (List Nat)}{v:Value}
 (h:(execOp a.eval o).run P X.w= .ok (.value v) X.w) (hv:ay X (.c i j) (.ai t x w) v):aG P X s a o {v:=[.ai t x w],cl:=[(i,j)]}:=by
 obtain⟨Y,h1,h2,h3,h4,_,_,_⟩:=hr.take hv (.c (o.dst.getD 0) 0)
 refine⟨Y,v,.inl (by rw[h1];exact h),h2,?_⟩
 exact h3.fin h4 (fun id t p hm=>by simp at hm)
variable {P:Program} {E:Env} {X:ar} {s:State} {a:Act} {o:Oper} {u:Out}
def Plain:SV->Prop
 | .ai _ _ (_::_)=>False
 | .bh _ _ _ _=>False
 |_=>True
theorem Plain.l8{sv:SV}(h:Plain sv):sv.bu=false:=by cases sv<;>first|rfl|exact h.elim
theorem zlk(sv:SV):sv.shut.bu=false:=by cases sv<;>rfl
theorem zej(l:List SV):(l.map SV.shut).any SV.bu=false:=List.any_eq_false.2 fun v hv=>by
 obtain⟨w,_,rfl⟩:=List.mem_map.1 hv
 simp [zlk]
theorem aa3{sv:SV}{v:Value}(h:∀X pl,ay X pl sv v):sv.bu=false:=by
 cases sv with
 |bh id a b j=>
  obtain⟨r,h1,_⟩:=h ⟨default,fun _=> .all,fun _=>none⟩ (fun _=> .r 0 [])
  cases h1
 |_=>rfl
theorem zes(hr:Rel X s a){t:Nat}(hb:Nat.beq (s.slot t).length 1=false):(s.slot t).any SV.bu=false:=List.any_eq_false.2 fun v hv=>by
 cases v with
 |bh id c b j=>
  exfalso
  by_cases aw:t<s.sl.length
  ·obtain⟨e,_⟩:=hr.bh t _ id c b j (nz aw) hv
   rw[e] at hb;simp at hb
  ·have:s.slot t=[.undef]:=by simp [State.slot,List.getElem?_eq_none (Nat.le_of_not_lt aw)]
   rw[this] at hv
   simp at hv
 |_=>simp [SV.bu]
theorem ay.place{pl eX:List Nat->Place}{sv:SV}{v:Value}(h:ay X pl sv v)(hp:Plain sv):ay X eX sv v:=by
 cases sv with
 |ai t x w=>
  cases w with
  |nil=>
   obtain⟨cs,h1,h2,_⟩:=h
   exact⟨cs,h1,h2,km⟩
  |cons p w=>exact hp.elim
 |_=>exact h
theorem ay.bare{pl eX:List Nat->Place}{t:Ty}{x:El t}{w:List (List Nat)}{v:Value}(h:ay X pl (.ai t x w) v):ay X eX (.ai t x []) v:=by
 obtain⟨cs,h1,h2,_⟩:=h
 exact⟨cs,h1,h2,km⟩
theorem ze0{v:Value}{t:Ty}{y:El t}{w:List (List Nat)}(h:wL v= .ai t y w):w=[]:=by
 unfold wL at h
 split at h<;>simp at h
 ·obtain⟨rfl,_,rfl⟩:=h;rfl
 ·obtain⟨rfl,_,rfl⟩:=h;rfl
 ·obtain⟨rfl,_,rfl⟩:=h;rfl
theorem aa1{x:Operand}{t:Ty}{y:El t}{w:List (List Nat)}(h:s.aF x= .ai t y w)(hw:w≠ []):∃i,x= .tmp i:=by
 cases x with
 |tmp i=>exact⟨i,rfl⟩
 |const v=>exact absurd (ze0 h) hw
 |_=>simp [State.aF,State.tL,one] at h
theorem zxr(hr:Rel X s a){x:Operand}(h:(execOp a.eval o).run P X.w= .ok (.value (a.eval x)) X.w)(hp:Plain (s.aF x)):aG P X s a o {v:=[s.aF x]}:=
 aG.plain hr h ((hr.aF x).place hp) (fun id t p e=>oR hr e) hp.l8
theorem zwu(hr:Rel X s a){x:Operand}{t:Ty}{y:El t}{w:List (List Nat)}(aR:(execOp a.eval o).run P X.w= .ok (.value (a.eval x)) X.w)(e:s.aF x= .ai t y w):aG P X s a o {v:=[.ai t y w],cl:=uh w x}:=by
 have cf:=hr.aF x
 rw[e] at cf
 cases hw:w with
 |nil=>
  subst hw
  exact aG.plain hr aR cf.bare (fun _ _ _ h=>by cases h)
 |cons p w'=>
 rw[<-hw]
 have eg:uh w x=src x:=by rw[hw];rfl
 rw[eg]
 clear hw
 cases x with
 |tmp i=>exact aG.vY hr aR cf
 |const v=>
  have hw:=ze0 (show wL v= .ai t y w from e)
  subst hw
  exact aG.plain hr aR cf.bare (fun _ _ _ h=>by cases h)
 |_=>simp [State.aF,State.tL,one] at e
theorem FC(hr:Rel X s a){T:TypeId}{v:Value}{pl:List Nat->Place}(aR:(execOp a.eval o).run P X.w= .ok (.value v) X.w)(hv:ay X pl .cj v)(h:l7 E T some=some u):aG P X s a o u:=by
 unfold l7 at h
 split at h
 ·cases h
  refine aG.plain hr aR ⟨[.slice none 0 0],⟨none,0,rfl,Nat.le_refl _,fun j x hj=>by simp at hj⟩,hv,fun p hp=> ?_⟩ (fun _ _ _ e=>by cases e)
  rename_i e t _
  have hp:p=[]:=by simpa using hp
  subst hp
  exact⟨e,t,[],_,by simp [Ty.dJ],rfl,rfl,.inl ⟨rfl,rfl⟩⟩
 ·cases h
  exact aG.plain hr aR hv (fun _ _ _ e=>by cases e)
theorem ay.eD{pl eX:List Nat->Place}{sv:SV}{v:Value}(hr:ay X pl sv v):ay X eX sv.shut v:=by
 cases sv with
 |ai t x own=>
  obtain⟨cs,h1,h2,_⟩:=hr
  exact⟨cs,h1,h2,km⟩
 |bh id a b j=>trivial
 |_=>exact hr
theorem ct.eD{pl eX:Nat->List Nat->Place}{l:List SV}{v:Value}(hr:ct X pl l v):ct X eX (l.map SV.shut) v:=by
 match l,hr with
 | [s],hr=>exact ay.eD hr
 | [],⟨vs,h1,h2,h3⟩=>exact⟨vs,h1,h2,fun j s u hs=>by simp at hs⟩
 |x::y::r,⟨vs,h1,h2,h3⟩=>
  refine⟨vs,h1,by simpa using h2,fun j s u hs hu=> ?_⟩
  have hs:((x::y::r).map SV.shut)[j]? =some s:=hs
  rw[List.getElem?_map] at hs
  obtain⟨s0,dW,rfl⟩:=Option.map_eq_some_iff.1 hs
  exact ay.eD (h3 j s0 u dW hu)
theorem VG(hr:Rel X s a){ops:List Oper}{x:Operand}(ho:o.op= .move x){C:FuncId->bI Out}(h:act E C ops o s some=some u):aG P X s a o u:=by
 have aR:(execOp a.eval o).run P X.w= .ok (.value (a.eval x)) X.w:=by simp [execOp,ho]
 unfold act at h
 simp only[ho] at h
 have cf:=hr.aF x
 cases ht:ln s x with
 |some tl=>
  obtain⟨t,l⟩:=tl
  rw[ht] at h
  cases x with
  |tmp i=>
   change(bif Nat.beq (s.slot i).length 1 then none else some (i,s.slot i))=some (t,l) at ht
   cases hb:Nat.beq (s.slot i).length 1 with
   |true=>rw[hb] at ht;cases ht
   |false=>
    rw[hb] at ht
    cases ht
    have Eb:∀id ty p,SV.ptr id ty p∈s.slot t->∃B,s.bs[id]? =some (some B):=fun id ty p hm=>by
     by_cases aw:t<s.sl.length
     ·exact hr.live t _ id _ p (nz aw) hm
     ·have:s.slot t=[.undef]:=by simp [State.slot,List.getElem?_eq_none (Nat.le_of_not_lt aw)]
      rw[this] at hm
      simp at hm
    cases hsh:Go.Ref.eD E o.dst with
    |true=>
     rw[hsh] at h
     cases h
     refine⟨X,_,.inl aR,Ext.refl X,?_⟩
     refine Rel.fin hr (ct.eD (hr.slot t)) (fun id ty p hm=> ?_) (zej _)
     obtain⟨s0,dW,he⟩:=List.mem_map.1 hm
     rw[JY he] at dW
     exact Eb id ty p dW
    |false=>
    rw[hsh] at h
    cases h
    cases bG:(s.slot t).all fun v=>v.own.isEmpty with
    |true=>
     refine⟨X,_,.inl aR,Ext.refl X,?_⟩
     refine Rel.fin hr ((hr.slot t).gg fun j sv u hj hu=> ?_) (fun id ty p hm=> ?_) (zes hr hb)
     ·have:=List.all_eq_true.1 bG sv (List.mem_of_getElem? hj)
      refine hu.place ?_
      cases sv with
      |ai ty y w=>
       cases w with
       |nil=>trivial
       |cons p w=>simp [SV.own] at this
      |bh id a b j=>exact(Oq (zes hr hb) (List.mem_of_getElem? hj)).elim
      |_=>trivial
     ·by_cases aw:t<s.sl.length
      ·exact hr.live t _ id _ p (nz aw) hm
      ·have:s.slot t=[.undef]:=by simp [State.slot,List.getElem?_eq_none (Nat.le_of_not_lt aw)]
       rw[this] at hm
       simp at hm
    |false=>
    obtain⟨Y,h1,h2,h3,h4⟩:=hr.tR (hr.slot t) (o.dst.getD 0)
    refine⟨Y,_,.inl (by rw[h1];exact aR),h2,?_⟩
    refine h3.fin h4 (fun id ty p hm=> ?_) (zes hr hb)
    by_cases aw:t<s.sl.length
    ·obtain⟨B,hB⟩:=hr.live t _ id _ p (nz aw) hm
     exact⟨B,by rw[ub];exact hB⟩
    ·have:s.slot t=[.undef]:=by simp [State.slot,List.getElem?_eq_none (Nat.le_of_not_lt aw)]
     rw[this] at hm
     simp at hm
  |_=>cases ht
 |none=>
 rw[ht] at h
 simp only at h
 split at h
 ·rename_i t y w e
  rw[e] at cf
  cases hb:(On ops o.dst||takes E o.dst) with
  |true=>
   rw[hb] at h
   cases h
   exact zwu hr aR e
  |false=>
   rw[hb] at h
   cases h
   exact aG.plain hr aR cf.bare (fun _ _ _ h=>by cases h)
 ·cases h
 ·cases h
 ·rename_i e
  rw[e] at cf
  exact FC hr aR cf h
 ·rename_i h1 h2 h3 h4
  cases h
  refine zxr hr aR ?_
  cases hx:s.aF x with
  |ai t y w=>exact absurd hx (h1 t y w)
  |bh id c b j=>first|exact absurd hx (h2 id c b j)|exact absurd hx (h3 id c b j)
  |_=>trivial
theorem Ss(hr:Rel X s a){ops:List Oper}{x:Operand}(ho:o.op= .assign x){C:FuncId->bI Out}(h:act E C ops o s some=some u):aG P X s a o u:=by
 have aR:(execOp a.eval o).run P X.w= .ok (.value (a.eval x)) X.w:=by simp [execOp,ho]
 unfold act at h
 simp only[ho] at h
 have cf:=hr.aF x
 split at h
 ·rename_i t y w e
  rw[e] at cf
  cases h
  exact zwu hr aR e
 ·cases h
 ·cases h
 ·rename_i e
  rw[e] at cf
  exact FC hr aR cf h
 ·rename_i h1 h2 h3 h4
  cases h
  refine zxr hr aR ?_
  cases hx:s.aF x with
  |ai t y w=>exact absurd hx (h1 t y w)
  |bh id c b j=>first|exact absurd hx (h2 id c b j)|exact absurd hx (h3 id c b j)
  |_=>trivial
theorem VI(hr:Rel X s a){ops:List Oper}{c x y:Operand}(ho:o.op= .pick c x y){C:FuncId->bI Out}(h:act E C ops o s some=some u):aG P X s a o u:=by
 unfold act at h
 simp only[ho] at h
 have hc:=hr.aF c
 split at h
 ·rename_i p w e
  rw[e] at hc
  have hv:=He hc
  have key:∀z,aG P X s a o {v:=[(s.aF z).shut]}\/(execOp a.eval o).run P X.w≠ .ok (.value (a.eval z)) X.w:=by
   intro z
   by_cases hz:(execOp a.eval o).run P X.w= .ok (.value (a.eval z)) X.w
   ·refine .inl (aG.plain hr hz (hr.aF z).shut (fun id t p e=> ?_) (zlk _))
    exact oR hr (JY e)
   ·exact .inr hz
  cases p with
  |true=>
   cases h
   exact(key x).resolve_right (by simp [execOp,ho,hv,asBool])
  |false=>
   cases h
   exact(key y).resolve_right (by simp [execOp,ho,hv,asBool])
 ·cases h
theorem Jn(op:BinOp)(T:TypeId)(x y:Operand)(k k':IntKind)(m n:Int)(w:World):(eqGuard op T x y (.int k m) (.int k' n)).run P w= .ok () w:=by
 cases op<;>simp [eqGuard]
theorem z8d(op:BinOp)(T:TypeId)(x y:Operand)(m n:ByteArray)(w:World):(eqGuard op T x y (.string m) (.string n)).run P w= .ok () w:=by
 cases op<;>simp [eqGuard]
theorem zlj(op:BinOp)(T:TypeId)(x y:Operand)(m n:Bool)(w:World):(eqGuard op T x y (.bool m) (.bool n)).run P w= .ok () w:=by
 cases op<;>simp [eqGuard]
theorem zl7{op:BinOp}{T:TypeId}{k k':IntKind}{m n:Int}{l:List SV}(w:World)(h:nX op k m k' n some=some l):
 ∃sv v,l=[sv]/\(Go.binOp op T (.int k m) (.int k' n)).run P w= .ok v w/\Plain sv/\(∀X pl,ay X pl sv v)/\∀id t p,sv≠ .ptr id t p:=by
 have done:∀{sv:SV} {v:Value},l=[sv]->(Go.binOp op T (.int k m) (.int k' n)).run P w= .ok v w->Plain sv->(∀X pl,ay X pl sv v)->(∀id t p,sv≠ .ptr id t p)->∃sv v,l=[sv]/\(Go.binOp op T (.int k m) (.int k' n)).run P w= .ok v w/\Plain sv/\(∀X pl,ay X pl sv v)/\∀id t p,sv≠ .ptr id t p:=fun h1 h2 h3 h4 h5=>⟨_,_,h1,h2,h3,h4,h5⟩
 have pi:∀{k:IntKind} {n:Int},Plain (.ai (.int k) n []):=trivial
 have pb:∀{b:Bool},Plain (.ai .bool b []):=trivial
 unfold nX at h
 cases op
 case shl=>
  simp only at h
  cases hd:decide (n<0) with
  |true=>rw[hd] at h;cases h
  |false=>
   rw[hd] at h;cases h
   have:¬n<0:=of_decide_eq_false hd
   exact done rfl (by simp [Go.binOp,Op.shift,this]) pi (fun _ _=>zu) (by simp)
 case shr=>
  simp only at h
  cases hd:decide (n<0) with
  |true=>rw[hd] at h;cases h
  |false=>
   rw[hd] at h;cases h
   have:¬n<0:=of_decide_eq_false hd
   exact done rfl (by simp [Go.binOp,Op.shift,this]) pi (fun _ _=>zu) (by simp)
 all_goals
  simp only at h
  split at h
  case isFalse=>cases h
  rename_i hk
  subst hk
 case quo=>
  cases hd:decide (n=0) with
  |true=>rw[hd] at h;cases h
  |false=>
   rw[hd] at h;cases h
   have:¬n=0:=of_decide_eq_false hd
   exact done rfl (by simp [Go.binOp,Op.intDiv,this]) pi (fun _ _=>zu) (by simp)
 case rem=>
  cases hd:decide (n=0) with
  |true=>rw[hd] at h;cases h
  |false=>
   rw[hd] at h;cases h
   have:¬n=0:=of_decide_eq_false hd
   exact done rfl (by simp [Go.binOp,Op.intDiv,this]) pi (fun _ _=>zu) (by simp)
 case add=>cases h;exact done rfl (by simp [Go.binOp,Op.intArith]) pi (fun _ _=>zu) (by simp)
 case sub=>cases h;exact done rfl (by simp [Go.binOp,Op.intArith]) pi (fun _ _=>zu) (by simp)
 case mul=>cases h;exact done rfl (by simp [Go.binOp,Op.intArith]) pi (fun _ _=>zu) (by simp)
 case and=>cases h;exact done rfl (by simp only[Go.binOp,ne_eq,not_true_eq_false,if_false];rfl) pi (fun _ _=>zu) (by simp)
 case or=>cases h;exact done rfl (by simp only[Go.binOp,ne_eq,not_true_eq_false,if_false];rfl) pi (fun _ _=>zu) (by simp)
 case xor=>cases h;exact done rfl (by simp only[Go.binOp,ne_eq,not_true_eq_false,if_false];rfl) pi (fun _ _=>zu) (by simp)
 case andNot=>cases h;exact done rfl (by simp only[Go.binOp,ne_eq,not_true_eq_false,if_false];rfl) pi (fun _ _=>zu) (by simp)
 case eql=>cases h;exact done rfl (by simp only[Go.binOp,ne_eq,not_true_eq_false,if_false];rfl) pb (fun _ _=>lu) (by simp)
 case neq=>cases h;exact done rfl (by simp only[Go.binOp,ne_eq,not_true_eq_false,if_false];rfl) pb (fun _ _=>lu) (by simp)
 case lss=>cases h;exact done rfl (by simp only[Go.binOp,ne_eq,not_true_eq_false,if_false];rfl) pb (fun _ _=>lu) (by simp)
 case leq=>cases h;exact done rfl (by simp only[Go.binOp,ne_eq,not_true_eq_false,if_false];rfl) pb (fun _ _=>lu) (by simp)
 case gtr=>cases h;exact done rfl (by simp only[Go.binOp,ne_eq,not_true_eq_false,if_false];rfl) pb (fun _ _=>lu) (by simp)
 case geq=>cases h;exact done rfl (by simp only[Go.binOp,ne_eq,not_true_eq_false,if_false];rfl) pb (fun _ _=>lu) (by simp)
end Go.Ref

namespace Go.Ref
open Go
variable {P:Program} {E:Env} {X:ar} {s:State} {a:Act} {o:Oper} {u:Out}
theorem MH(x y:ByteArray):(x.toList==y.toList)=decide (x=y):=by
 rw[ByteArray.toList_eq,ByteArray.toList_eq]
 by_cases h:x=y
 ·subst h;simp
 ·have:¬x.data.toList=y.data.toList:=fun e=>h (by
   cases x;cases y
   congr
   exact Array.toList_inj.1 e)
  rw[beq_eq_false_iff_ne.2 this,decide_eq_false h]
theorem Ym{op:BinOp}{T:TypeId}{m n:ByteArray}{l:List SV}(w:World)(h:nY op m n some=some l):
 ∃sv v,l=[sv]/\(Go.binOp op T (.string m) (.string n)).run P w= .ok v w/\Plain sv/\(∀X pl,ay X pl sv v)/\∀id t p,sv≠ .ptr id t p:=by
 have pb:∀{b:Bool},Plain (.ai .bool b []):=trivial
 unfold nY at h
 cases op<;>simp only at h<;>first|(cases h;done)|skip
 case add=>
  cases hd:decide (m.size+n.size<=9223372036854775807) with
  |false=>rw[hd] at h;cases h
  |true=>
   rw[hd] at h;cases h
   have h1:=of_decide_eq_true hd
   have h2:¬((((m.size+n.size:Nat)):Int)>IntKind.i64.max):=by
    show¬((((m.size+n.size:Nat)):Int)>9223372036854775807)
    omega
   refine⟨_,_,rfl,?_,trivial,fun _ _=>wH,by simp⟩
   simp only[Go.binOp,Op.stringOp]
   rw[if_neg h2]
   rfl
 all_goals
  cases h
  refine⟨_,_,rfl,?_,pb,fun _ _=>lu,by simp⟩
  simp only[Go.binOp,Op.stringOp,MH]
  rfl
theorem zxd(hE:aj P E){T:TypeId}{t:Ty}(ht:E.ty T=some t)(w:World):(isAgg T).run P w= .ok t.agg w:=by
 have hu:=(hE.ty T t ht).cQ
 cases t
 case bool=>simp [isAgg,run_underlying hu,Ty.agg]
 case int=>simp [isAgg,run_underlying hu,Ty.agg]
 case str=>simp [isAgg,run_underlying hu,Ty.agg]
 case sl=>simp [isAgg,run_underlying hu.1,Ty.agg]
 case arr=>obtain⟨e,h1,_⟩:=hu;simp [isAgg,run_underlying h1,Ty.agg]
 case unit=>obtain⟨fs,h1,_⟩:=hu;simp [isAgg,run_underlying h1,Ty.agg]
 case pair=>obtain⟨fs,h1,_⟩:=hu;simp [isAgg,run_underlying h1,Ty.agg]
 case aI=>exact hu.elim
theorem zw(hE:aj P E){T:TypeId}{t:Ty}(ht:E.ty T=some t)(w:World):(sizeOf T).run P w= .ok t.cells w:=by
 obtain⟨i,h1,h2,_⟩:=(hE.ty T t ht).info
 simp [sizeOf,typeInfo,h1,h2]
theorem zV(hE:aj P E){T:TypeId}{t:Ty}(ht:E.ty T=some t){x:El t}{cs:List Value}(hr:aY X t x cs){all:Array Value}{off:Nat}(ha:(all.toList.drop off).take t.cells=cs)(w:World):
 (part T all off).run P w= .ok (dk t cs) w:=by
 have hl:=hr.len
 unfold part
 simp only[Sem.run_bind,zxd hE ht,Result.andThen_ok]
 cases hg:t.agg with
 |true=>
  simp only[if_true,Sem.run_bind,zw hE ht,Result.andThen_ok,Sem.run_pure,hG hg]
  congr 2
  apply Array.ext'
  rw[<-ha,Array.toList_extract,List.extract_eq_take_drop]
  simp
 |false=>
  simp only[Bool.false_eq_true,if_false]
  have hc:t.cells=1:=by cases t<;>simp_all [Ty.agg,Ty.cells]
  rw[hc] at hl ha
  match cs,hl with
  | [c],_=>
    rw[Ic hg]
    have cc:all[off]? =some c:=by
     have h1:(all.toList.drop off)[0]? =some c:=by
      have:=congrArg (fun l=>l[0]?) ha
      simpa [List.getElem?_take] using this
     simpa using h1
    simp [cc]
def Ip(d:Nat)(xs ys:Array Value)(f:Field)(_:Option Bool×Unit):Sem (ForInStep (Option Bool×Unit)):=
 if f.name≠ "_" then do
  let __do_lift<-part f.type xs f.offset
  let __do_lift_1<-part f.type ys f.offset
  let __do_lift<-Op.equalIn d f.type __do_lift __do_lift_1
  if(!__do_lift)=true then pure (ForInStep.done (some false,()))
   else pure (ForInStep.yield (none,()))
 else pure (ForInStep.yield (none,()))
theorem zop(hE:aj P E){d:Nat}{xs ys:Array Value}(w:World)
 (ih:∀(t:Ty) (T:TypeId),E.ty T=some t->t.depth<=d->∀(x y:El t) (c1 c2:List Value) (r:Bool),aY X t x c1->aY X t y c2->c9 t x y=some r->(Op.equalIn d T (dk t c1) (dk t c2)).run P w= .ok r w):
 ∀(fl:List Field) (t:Ty) (off:Nat),gO E fl t off->t.depth<=d+1->∀(x y:El t) (c1 c2:List Value) (r:Bool),aY X t x c1->aY X t y c2->(xs.toList.drop off).take t.cells=c1->(ys.toList.drop off).take t.cells=c2->c9 t x y=some r->
  (forIn fl (none,()) (Ip d xs ys)).run P w= .ok (if r=true then(none,()) else(some false,())) w:=by
 intro fl
 induction fl with
 |nil=>
  intro t off hf hd x y c1 c2 r h1 h2 h3 h4 he
  cases t<;>simp only[gO] at hf<;>try exact hf.elim
  simp only[c9,Option.some.injEq] at he
  subst he
  simp [List.forIn_nil]
 |cons f fl Qa=>
  intro t off hf hd x y c1 c2 r h1 h2 h3 h4 he
  cases t<;>simp only[gO] at hf<;>try exact hf.elim
  rename_i ta tb
  obtain⟨ho,AX,hn,bm⟩:=hf
  obtain⟨ca,cb,e1,ra,rb⟩:=h1
  obtain⟨da,db,e2,sa,sb⟩:=h2
  simp only[c9] at he
  split at he
  case h_2=>cases he
  rename_i p q hp hq
  cases he
  simp only[Ty.depth] at hd
  have la:=ra.len
  have lb:=rb.len
  have ma:=sa.len
  have mb:=sb.len
  have t1:(xs.toList.drop off).take ta.cells=ca:=by
   have:=congrArg (fun l=>l.take ta.cells) (h3.trans e1)
   simp only[List.take_take,Ty.cells] at this
   rw[Nat.min_eq_left (Nat.le_add_right _ _),<-la,List.take_left] at this
   rw[<-la];exact this
  have t2:(ys.toList.drop off).take ta.cells=da:=by
   have:=congrArg (fun l=>l.take ta.cells) (h4.trans e2)
   simp only[List.take_take,Ty.cells] at this
   rw[Nat.min_eq_left (Nat.le_add_right _ _),<-ma,List.take_left] at this
   rw[<-ma];exact this
  have u1:(xs.toList.drop (off+ta.cells)).take tb.cells=cb:=by
   have:=congrArg (fun l=>l.drop ta.cells) (h3.trans e1)
   simp only[Ty.cells] at this
   rw[List.drop_take,Nat.add_sub_cancel_left,List.drop_drop,<-la,List.drop_left] at this
   rw[<-la];exact this
  have u2:(ys.toList.drop (off+ta.cells)).take tb.cells=db:=by
   have:=congrArg (fun l=>l.drop ta.cells) (h4.trans e2)
   simp only[Ty.cells] at this
   rw[List.drop_take,Nat.add_sub_cancel_left,List.drop_drop,<-ma,List.drop_left] at this
   rw[<-ma];exact this
  have lZ:=zV hE AX ra (all:=xs) (off:=f.offset) (by rw[ho];exact t1) w
  have yg:=zV hE AX sa (all:=ys) (off:=f.offset) (by rw[ho];exact t2) w
  have heq:=ih ta f.type AX (by omega) x.1 y.1 ca da p ra sa hp
  have Eu:(Ip d xs ys f (none,())).run P w= .ok (if p=true then ForInStep.yield (none,()) else ForInStep.done (some false,())) w:=by
   unfold Ip
   rw[if_pos hn]
   simp only[Sem.run_bind,lZ,yg,heq,Result.andThen_ok]
   cases p<;>rfl
  rw[List.forIn_cons]
  simp only[Sem.run_bind,Eu,Result.andThen_ok]
  cases p with
  |false=>rfl
  |true=>
   simp only[if_true,Bool.true_and]
   exact Qa tb (off+ta.cells) bm (by omega) x.2 y.2 cb db q rb sb u1 u2 hq
theorem VL(hE:aj P E)(w:World){d n:Nat}{k:IntKind}{T e:TypeId}(ht:P.underlying T=some (.array n e))(he:E.ty e=some (.int k)){x y:List Int}{c1 c2:List Value}(r1:aY X (.arr n (.int k)) x c1)(r2:aY X (.arr n (.int k)) y c2):
 (Op.equalIn (d+2) T (.agg c1.toArray) (.agg c2.toArray)).run P w= .ok (decide (x=y)) w:=by
 obtain⟨l1,m1,e1⟩:=r1
 obtain⟨l2,m2,e2⟩:=r2
 have l1:x.length=n:=l1
 have l2:y.length=n:=l2
 have key:decide (x=y)=(List.range n).all fun i=>decide (x.getD i 0=y.getD i 0):=by
  by_cases AZ:x=y
  ·rw[decide_eq_true AZ]
   exact(List.all_eq_true.2 fun i _=>by rw[AZ];simp).symm
  ·rw[decide_eq_false AZ]
   cases ha:(List.range n).all fun i=>decide (x.getD i 0=y.getD i 0) with
   |false=>rfl
   |true=>
    refine absurd (List.ext_getElem (l1.trans l2.symm) fun i h1 h2=> ?_) AZ
    have:=of_decide_eq_true (List.all_eq_true.1 ha i (List.mem_range.2 (by omega)))
    simpa [List.getD_eq_getElem?_getD,List.getElem?_eq_getElem h1,List.getElem?_eq_getElem h2] using this
 rw[key,List.range_eq_range',Op.equalIn]
 simp only[Sem.run_bind,run_underlying ht,Result.andThen_ok,zw hE he,Std.Legacy.Range.forIn_eq_forIn_range',Std.Legacy.Range.size,Nat.sub_zero,Nat.add_sub_cancel,Nat.div_one]
 have hl:∀i∈List.range' 0 n 1,i<n:=fun i hi=>by simpa using(List.mem_range'_1.1 hi).2
 generalize List.range' 0 n 1=l at hl⊢
 induction l with
 |nil=>simp
 |cons i l ih=>
  have hi:i<n:=hl i (by simp)
  have g1:x[i]? =some (x.getD i 0):=by rw[List.getD_eq_getElem?_getD,List.getElem?_eq_getElem (by omega)];rfl
  have g2:y[i]? =some (y.getD i 0):=by rw[List.getD_eq_getElem?_getD,List.getElem?_eq_getElem (by omega)];rfl
  have p1:=e1 i (x.getD i 0) g1
  have p2:=e2 i (y.getD i 0) g2
  have px:=zV hE he p1 (all:=c1.toArray) (off:=i*(Ty.int k).cells) rfl w
  have py:=zV hE he p2 (all:=c2.toArray) (off:=i*(Ty.int k).cells) rfl w
  rw[jG p1] at px
  rw[jG p2] at py
  have pe:(Op.equalIn (d+1) e (.int k (x.getD i 0)) (.int k (y.getD i 0))).run P w= .ok (decide (x.getD i 0=y.getD i 0)) w:=by
   have hu:P.underlying e=some (.int k):=(hE.ty e _ he).cQ
   unfold Op.equalIn
   simp only[Sem.run_bind,run_underlying hu,Result.andThen_ok,if_true,Sem.run_pure]
   rfl
  simp only[List.forIn_cons,Sem.run_bind,px,py,pe,Result.andThen_ok,List.all_cons]
  cases hb:decide (x.getD i 0=y.getD i 0)
  ·simp
  ·simp only[Bool.not_true,Bool.false_eq_true,if_false,Sem.run_pure,Result.andThen_ok,Bool.true_and]
   exact ih fun j hj=>hl j (by simp [hj])
theorem zx1(hE:aj P E)(w:World):∀(d:Nat) (t:Ty) (T:TypeId),E.ty T=some t->t.depth<=d->∀(x y:El t) (c1 c2:List Value) (r:Bool),aY X t x c1->aY X t y c2->c9 t x y=some r->(Op.equalIn d T (dk t c1) (dk t c2)).run P w= .ok r w:=by
 intro d
 induction d with
 |zero=>intro t T ht hd;cases t<;>simp only[Ty.depth] at hd<;>omega
 |succ d ih=>
  intro t T ht hd x y c1 c2 r h1 h2 he
  have hu:=(hE.ty T t ht).cQ
  cases t with
  |bool=>
   rw[rP h1,rP h2]
   simp only[c9,Option.some.injEq] at he
   subst he
   unfold Op.equalIn
   simp only[Sem.run_bind,run_underlying hu,Result.andThen_ok,Sem.run_pure]
  |int k=>
   rw[jG h1,jG h2]
   simp only[c9,Option.some.injEq] at he
   subst he
   unfold Op.equalIn
   simp only[Sem.run_bind,run_underlying hu,Result.andThen_ok,if_true,Sem.run_pure]
   rfl
  |str=>
   rw[lv h1,lv h2]
   simp only[c9,Option.some.injEq] at he
   subst he
   unfold Op.equalIn
   simp only[Sem.run_bind,run_underlying hu,Result.andThen_ok,Sem.run_pure]
   rw[beq_toListBytes,MH]
  |sl e t=>simp [c9] at he
  |arr n t=>
   cases t<;>simp only[c9,Option.some.injEq,reduceCtorEq] at he
   rename_i k
   subst he
   obtain⟨e,fT,gf,_⟩:=hu
   obtain⟨d,rfl⟩:∃d',d=d'+1:=⟨d-1,by simp only[Ty.depth] at hd;omega⟩
   rw[hG rfl,hG rfl]
   exact VL hE w fT gf h1 h2
  |aI _ _ _=>exact hu.elim
  |unit=>
   obtain⟨fs,fT,gf,I3,_⟩:=hu
   rw[hG rfl,hG rfl]
   unfold Op.equalIn
   simp only[Sem.run_bind,run_underlying fT,Result.andThen_ok,run_program,I3,Bool.false_eq_true,if_false]
   rw[<-Array.forIn_toList]
   have:=zop (X:=X) hE (d:=d) (xs:=c1.toArray) (ys:=c2.toArray) w ih fs.toList .unit 0 gf hd x y c1 c2 r h1 h2 (by have:=h1.len;simp [Ty.cells] at this⊢;subst this;rfl) (by have:=h2.len;simp [Ty.cells] at this⊢;subst this;rfl) he
   unfold Ip at this
   rw[this]
   simp only[Result.andThen_ok]
   cases r<;>rfl
  |pair ta tb=>
   obtain⟨fs,fT,gf,I3,_⟩:=hu
   rw[hG rfl,hG rfl]
   unfold Op.equalIn
   simp only[Sem.run_bind,run_underlying fT,Result.andThen_ok,run_program,I3,Bool.false_eq_true,if_false]
   rw[<-Array.forIn_toList]
   have:=zop (X:=X) hE (d:=d) (xs:=c1.toArray) (ys:=c2.toArray) w ih fs.toList (.pair ta tb) 0 gf hd x y c1 c2 r h1 h2 (by have:=h1.len;simp only[List.drop_zero];rw[<-this];exact List.take_length) (by have:=h2.len;simp only[List.drop_zero];rw[<-this];exact List.take_length) he
   unfold Ip at this
   rw[this]
   simp only[Result.andThen_ok]
   cases r<;>rfl
end Go.Ref

namespace Go.Ref
open Go
variable {P:Program} {E:Env} {X:ar} {s:State} {a:Act} {o:Oper} {u:Out}
theorem Yl(hE:aj P E){op:BinOp}{T:TypeId}{x y:SV}{vx vy:Value}{px py:List Nat->Place}{l:List SV}(w:World)(xo yo:Operand)(hx:ay X px x vx)(hy:ay X py y vy)(h:nW E op T x y some=some l):
 ∃b:Bool,l=bl b/\(eqGuard op T xo yo vx vy).run P w= .ok () w/\(Go.binOp op T vx vy).run P w= .ok (.bool b) w:=by
 unfold nW at h
 split at h
 case h_2=>cases h
 rename_i t ht
 split at h
 ·cases h
 rename_i Pm
 obtain⟨m,h,hm⟩:=zt h
 obtain⟨n,h,hn⟩:=zt h
 split at h
 case h_2=>cases h
 rename_i r hr
 obtain⟨c1,r1,e1⟩:=hm X px vx hx
 obtain⟨c2,r2,e2⟩:=hn X py vy hy
 have hd:t.depth<=10000:=by
  have:Nat.ble t.depth 1000=true:=by simpa using Pm
  have:=Nat.le_of_ble_eq_true this
  omega
 have heq:=zx1 hE w 10000 t T ht hd m n c1 c2 r r1 r2 hr
 have hu:=(hE.ty T t ht).cQ
 have hg:(eqGuard op T xo yo vx vy).run P w= .ok () w:=by
  cases t
  case bool=>rw[e1,e2,rP r1,rP r2];exact zlj ..
  case int=>rw[e1,e2,jG r1,jG r2];exact Jn ..
  case str=>rw[e1,e2,lv r1,lv r2];exact z8d ..
  case sl=>simp [c9] at hr
  case arr=>
   obtain⟨fs,_,_,hq⟩:=hu
   rw[e1,e2,hG rfl,hG rfl]
   cases op<;>simp [eqGuard,hq]
  case aI=>simp [c9] at hr
  all_goals
   obtain⟨fs,_,_,_,hq⟩:=hu
   rw[e1,e2,hG rfl,hG rfl]
   cases op<;>simp [eqGuard,hq]
 split at h
 ·cases h
  refine⟨r,rfl,hg,?_⟩
  rw[e1,e2]
  cases t
  case int=>rw[jG r1,jG r2];simp only[c9,Option.some.injEq] at hr;subst hr;simp only[Go.binOp,ne_eq,not_true_eq_false,if_false];rfl
  case str=>rw[lv r1,lv r2];simp only[c9,Option.some.injEq] at hr;subst hr;simp only[Go.binOp,Op.stringOp,MH];rfl
  case bool=>rw[rP r1,rP r2] at heq⊢;simp only[Go.binOp,Sem.run_bind,Op.equal,Op.maxDepth,heq,Result.andThen_ok,Sem.run_pure]
  case sl=>simp [c9] at hr
  case aI=>simp [c9] at hr
  all_goals
   rw[hG rfl,hG rfl] at heq⊢
   simp only[Go.binOp,Sem.run_bind,Op.equal,Op.maxDepth,heq,Result.andThen_ok,Sem.run_pure]
 ·cases h
  refine⟨!r,rfl,hg,?_⟩
  rw[e1,e2]
  cases t
  case int=>rw[jG r1,jG r2];simp only[c9,Option.some.injEq] at hr;subst hr;simp only[Go.binOp,ne_eq,not_true_eq_false,if_false];rfl
  case str=>rw[lv r1,lv r2];simp only[c9,Option.some.injEq] at hr;subst hr;simp only[Go.binOp,Op.stringOp,MH];rfl
  case bool=>rw[rP r1,rP r2] at heq⊢;simp only[Go.binOp,Sem.run_bind,Op.equal,Op.maxDepth,heq,Result.andThen_ok,Sem.run_pure]
  case sl=>simp [c9] at hr
  case aI=>simp [c9] at hr
  all_goals
   rw[hG rfl,hG rfl] at heq⊢
   simp only[Go.binOp,Sem.run_bind,Op.equal,Op.maxDepth,heq,Result.andThen_ok,Sem.run_pure]
 ·cases h
theorem Jo(op:BinOp)(T:TypeId)(x y:Operand)(p q:Option Addr)(w:World):(eqGuard op T x y (.pointer p) (.pointer q)).run P w= .ok () w:=by
 cases op<;>simp [eqGuard]
theorem YB(d:Nat){T e:TypeId}(hu:P.underlying T=some (.pointer e))(w:World)(ad:Addr):(Op.equalIn (d+1) T (.pointer (some ad)) (.pointer none)).run P w= .ok false w:=by
 unfold Op.equalIn
 simp only[Sem.run_bind,run_underlying hu,Result.andThen_ok,Sem.run_pure]
theorem YA(d:Nat){T e:TypeId}(hu:P.underlying T=some (.pointer e))(w:World):(Op.equalIn (d+1) T (.pointer none) (.pointer none)).run P w= .ok true w:=by
 unfold Op.equalIn
 simp only[Sem.run_bind,run_underlying hu,Result.andThen_ok,Sem.run_pure]
 rfl
theorem zxs{t:Ty}{p:List Nat}{r:Nat}{v:Value}(h:(t.bn&& !t.dK)=false)(hv:lk t p r v):∃ad,v= .pointer (some ad):=by
 cases hs:t.bn with
 |false=>exact⟨_,((nv hs).1 hv).1⟩
 |true=>
  rw[hs,Bool.true_and,Bool.not_eq_false'] at h
  unfold Ty.dK at h
  split at h
  ·exact⟨_,hv.1⟩
  ·cases h
theorem aaK(hE:aj P E){op:BinOp}{T:TypeId}{x y:SV}{vx vy:Value}{px py:List Nat->Place}{u:Out}(w:World)(xo yo:Operand)(hx:ay X px x vx)(hy:ay X py y vy)(h:bin E op T x y (fun v=>some ({v:=v}:Out))=some u):
 ∃sv v,u={v:=[sv]}/\(eqGuard op T xo yo vx vy).run P w= .ok () w/\(Go.binOp op T vx vy).run P w= .ok v w/\(∀X pl,ay X pl sv v)/\∀id t p,sv≠ .ptr id t p:=by
 unfold bin at h
 split at h
 ·rename_i k m o1 k' n o2
  rw[wC hx,wC hy]
  obtain⟨l,h1,h2⟩:=zz zl6 h
  obtain⟨sv,v,rfl,hv,_,hr,hp⟩:=zl7 (T:=T) w h1
  cases h2
  exact⟨sv,v,rfl,Jn ..,hv,hr,hp⟩
 ·rename_i m o1 n o2
  rw[zeg hx,zeg hy]
  obtain⟨l,h1,h2⟩:=zz zl8 h
  obtain⟨sv,v,rfl,hv,_,hr,hp⟩:=Ym (T:=T) w h1
  cases h2
  exact⟨sv,v,rfl,z8d ..,hv,hr,hp⟩
 ·obtain⟨r,_,hpv⟩:=hx
  have P4:vy= .pointer none:=hy
  subst P4
  split at h
  ·cases h
  rename_i nn
  rw[Bool.not_eq_true,Bool.or_eq_false_iff,Bool.not_eq_false'] at nn
  obtain⟨ad,rfl⟩:=zxs nn.1 hpv
  obtain⟨e,hu⟩:=hE.pt T nn.2
  have heq:∀ad,(Op.equal T (.pointer (some ad)) (.pointer none)).run P w= .ok false w:=fun ad=>YB 9999 hu w ad
  split at h
  ·cases h
   exact⟨_,_,rfl,Jo ..,by(simp only[Go.binOp,Sem.run_bind,heq,Result.andThen_ok,Sem.run_pure];try rfl),fun _ _=>lu,by simp⟩
  ·cases h
   exact⟨_,_,rfl,Jo ..,by(simp only[Go.binOp,Sem.run_bind,heq,Result.andThen_ok,Sem.run_pure];try rfl),fun _ _=>lu,by simp⟩
  ·cases h
 ·have EA:vx= .pointer none:=hx
  have P4:vy= .pointer none:=hy
  subst EA P4
  split at h
  ·cases h
  rename_i nn
  obtain⟨e,hu⟩:=hE.pt T (by simpa using nn)
  have heq:(Op.equal T (.pointer none) (.pointer none)).run P w= .ok true w:=YA 9999 hu w
  split at h
  ·cases h
   exact⟨_,_,rfl,Jo ..,by(simp only[Go.binOp,Sem.run_bind,heq,Result.andThen_ok,Sem.run_pure];try rfl),fun _ _=>lu,by simp⟩
  ·cases h
   exact⟨_,_,rfl,Jo ..,by(simp only[Go.binOp,Sem.run_bind,heq,Result.andThen_ok,Sem.run_pure];try rfl),fun _ _=>lu,by simp⟩
  ·cases h
 ·obtain⟨l,h1,h2⟩:=zz zl5 h
  obtain⟨b,rfl,hg,hv⟩:=Yl hE w xo yo hx hy h1
  cases h2
  exact⟨_,_,rfl,hg,hv,fun _ _=>lu,by simp⟩
theorem Yu(hE:aj P E)(hr:Rel X s a){ops:List Oper}{op:BinOp}{T T':TypeId}{x y:Operand}(ho:o.op= .binOp op T x y T'){C:FuncId->bI Out}(h:act E C ops o s some=some u):aG P X s a o u:=by
 unfold act at h
 simp only[ho] at h
 obtain⟨sv,v,rfl,hg,hv,aK,hp⟩:=aaK hE X.w x y (hr.aF x) (hr.aF y) h
 exact aG.plain hr (by simp only[execOp,ho,Sem.run_bind,hg,hv,Result.andThen_ok,Sem.run_pure]) (aK _ _) (fun id t p e=>absurd e (hp id t p)) (aa3 aK)
end Go.Ref

namespace Go.Ref
open Go
variable {P:Program} {E:Env} {X:ar} {s:State} {a:Act} {o:Oper} {u:Out}
theorem H5(ad:Addr)(h:ad.spot=none)(m n:Nat):(ad.add m).add n=ad.add (m+n):=by
 unfold Addr.add
 by_cases h1:m=0<;>by_cases h2:n=0<;>simp [h1,h2,Nat.add_assoc]
theorem wG{ad:Addr}(h:ad.spot=none)(m:Nat):(ad.add m).spot=none:=by
 unfold Addr.add
 split
 ·exact h
 ·rfl
theorem zy(g i j:Nat):(⟨g,i,none⟩:Addr).add j=⟨g,i+j,none⟩:=by
 unfold Addr.add
 split<;>simp_all
theorem Be:∀(t:Ty) (p q:List Nat) (u:Ty),t.at_ p=some u->t.off (p++q)=t.off p+u.off q:=by
 intro t
 induction t with
 |arr n t ih=>
  intro p q u h
  cases p with
  |nil=>simp only[Ty.at_,Option.some.injEq] at h;subst h;simp [Ty.off]
  |cons i p=>
   simp only[Ty.at_] at h
   simp only[List.cons_append,Ty.off,ih p q u h]
   omega
 |pair x y EF EG=>
  intro p q u h
  cases p with
  |nil=>simp only[Ty.at_,Option.some.injEq] at h;subst h;simp [Ty.off]
  |cons i p=>
   cases i with
   |zero=>simp only[Ty.at_] at h;simp only[List.cons_append,Ty.off,EF p q u h]
   |succ i=>
    simp only[Ty.at_] at h
    have:=EG (i::p) q u h
    simp only[List.cons_append,Ty.off] at this⊢
    omega
 |_=>
  intro p q u h
  cases p with
  |nil=>simp only[Ty.at_,Option.some.injEq] at h;subst h;simp [Ty.off]
  |cons i p=>simp [Ty.at_] at h
theorem Hl:∀(t:Ty) (p q:List Nat) (u:Ty),t.at_ p=some u->t.dJ p->u.dJ q->t.dJ (p++q):=by
 intro t
 induction t with
 |arr n t ih=>
  intro p q u h hp hq
  cases p with
  |nil=>simp only[Ty.at_,Option.some.injEq] at h;subst h;exact hq
  |cons i p=>exact⟨hp.1,ih p q u h hp.2 hq⟩
 |pair x y EF EG=>
  intro p q u h hp hq
  cases p with
  |nil=>simp only[Ty.at_,Option.some.injEq] at h;subst h;exact hq
  |cons i p=>
   cases i with
   |zero=>exact EF p q u h hp hq
   |succ i=>exact EG (i::p) q u h hp hq
 |_=>
  intro p q u h hp hq
  cases p with
  |nil=>simp only[Ty.at_,Option.some.injEq] at h;subst h;exact hq
  |cons i p=>simp [Ty.at_] at h
theorem getD_some{α:Type}{xs:List α}{i:Nat}(d:α)(h:i<xs.length):xs[i]? =some (xs.getD i d):=by
 simp [List.getD_eq_getElem?_getD,List.getElem?_eq_getElem h]
theorem H9{X:ar}:∀{t:Ty} {p:List Nat} {x:El t} {cs:List Value} {u:Ty} {y:El u},aY X t x cs->t.dJ p->El.get t p x=some ⟨u,y⟩->
 t.at_ p=some u/\t.off p+u.cells<=t.cells/\aY X u y ((cs.drop (t.off p)).take u.cells):=by
 intro t
 induction t with
 |arr n t ih=>
  intro p x cs u y hr hp h
  cases p with
  |nil=>
   simp only[El.get,Option.some.injEq,Sigma.mk.injEq] at h
   obtain⟨rfl,h⟩:=h
   cases h
   refine⟨rfl,by simp [Ty.off],?_⟩
   have:=hr.len
   simp only[Ty.off,List.drop_zero]
   rw[<-this,List.take_length]
   exact hr
  |cons i p=>
   obtain⟨hi,hp⟩:=hp
   obtain⟨h1,h2,h3⟩:=hr
   simp only[El.get] at h
   obtain⟨k1,k2,k3⟩:=ih (h3 i _ (getD_some (El.bH t) (by omega))) hp h
   have hn:(i+1)*t.cells<=n*t.cells:=Nat.mul_le_mul_right _ hi
   rw[Nat.add_mul,Nat.one_mul] at hn
   refine⟨k1,by simp only[Ty.off,Ty.cells];omega,?_⟩
   simp only[Ty.off]
   rw[List.drop_take,List.take_take,List.drop_drop,Nat.min_eq_left (by omega)] at k3
   exact k3
 |pair ta tb j4 j5=>
  intro p x cs u y hr hp h
  cases p with
  |nil=>
   simp only[El.get,Option.some.injEq,Sigma.mk.injEq] at h
   obtain⟨rfl,h⟩:=h
   cases h
   refine⟨rfl,by simp [Ty.off],?_⟩
   have:=hr.len
   simp only[Ty.off,List.drop_zero]
   rw[<-this,List.take_length]
   exact hr
  |cons i p=>
   obtain⟨c1,c2,rfl,r1,r2⟩:=hr
   have l1:=r1.len
   have l2:=r2.len
   cases i with
   |zero=>
    obtain⟨k1,k2,k3⟩:=j4 r1 hp h
    refine⟨k1,by simp only[Ty.off,Ty.cells];omega,?_⟩
    simp only[Ty.off]
    rw[List.drop_append_of_le_length (by omega),List.take_append_of_le_length (by rw[List.length_drop];omega)]
    exact k3
   |succ i=>
    obtain⟨k1,k2,k3⟩:=j5 r2 hp h
    refine⟨k1,by simp only[Ty.off,Ty.cells];omega,?_⟩
    simp only[Ty.off]
    rw[<-List.drop_drop,<-l1,List.drop_left]
    exact k3
 |_=>
  intro p x cs u y hr hp h
  cases p with
  |nil=>
   simp only[El.get,Option.some.injEq,Sigma.mk.injEq] at h
   obtain⟨rfl,h⟩:=h
   cases h
   refine⟨rfl,by simp [Ty.off],?_⟩
   have:=hr.len
   simp only[Ty.off,List.drop_zero]
   rw[<-this,List.take_length]
   exact hr
  |cons i p=>simp [El.get] at h
theorem H8:∀(fl:List Field) (t:Ty) (off j:Nat) (ft:Ty),gO E fl t off->t.cO=true->t.at_ [j]=some ft->∃f,fl[j]? =some f/\f.offset=off+t.off [j]/\E.ty f.type=some ft/\t.dJ [j]:=by
 intro fl
 induction fl with
 |nil=>intro t off j ft hf hp h;cases t<;>simp [gO,Ty.cO] at hf hp
 |cons f fl ih=>
  intro t off j ft hf hp h
  cases t<;>simp only[gO] at hf<;>try exact hf.elim
  rename_i ta tb
  obtain⟨h1,h2,h3,h4⟩:=hf
  cases j with
  |zero=>
   simp only[Ty.at_,Option.some.injEq] at h
   subst h
   exact⟨f,rfl,by simp [Ty.off,h1],h2,by simp [Ty.dJ]⟩
  |succ j=>
   simp only[Ty.at_] at h
   cases htb:tb.cO with
   |true=>
    obtain⟨g,g1,g2,g3,g4⟩:=ih tb (off+ta.cells) j ft h4 htb h
    exact⟨g,g1,by simp only[Ty.off];omega,g3,g4⟩
   |false=>
    cases fl with
    |nil=>cases tb<;>simp [gO,Ty.at_] at h4 h
    |cons g fl=>cases tb<;>simp [gO,Ty.cO] at h4 htb
theorem JB(hE:aj P E){T:TypeId}{t:Ty}(ht:E.ty T=some t)(hp:t.cO=true):∃fs,P.underlying T=some (.struct fs)/\gO E fs.toList t 0:=by
 have hu:=(hE.ty T t ht).cQ
 cases t<;>simp [Ty.cO] at hp
 obtain⟨fs,h1,h2,_⟩:=hu
 exact⟨fs,h1,h2⟩
theorem z5m(hE:aj P E){f:Field}{ft:Ty}(hf:E.ty f.type=some ft)(hc:ft.cells≠0)(ad:Addr)(w:World):(fieldPlace ad f).run P w= .ok (ad.add f.offset) w:=by
 simp [fieldPlace,zw hE hf,hc]
theorem Is:∀(t:Ty) (p:List Nat) (x:El t) (u:Ty) (y:El u),El.get t p x=some ⟨u,y⟩->t.at_ p=some u:=by
 intro t
 induction t with
 |arr n t ih=>
  intro p x u y h
  cases p with
  |nil=>simp only[El.get,Option.some.injEq,Sigma.mk.injEq] at h;rw[Ty.at_,h.1]
  |cons i p=>exact ih p _ u y h
 |pair a b j4 j5=>
  intro p x u y h
  cases p with
  |nil=>simp only[El.get,Option.some.injEq,Sigma.mk.injEq] at h;rw[Ty.at_,h.1]
  |cons i p=>
   cases i with
   |zero=>exact j4 p _ u y h
   |succ i=>exact j5 (i::p) _ u y h
 |_=>
  intro p x u y h
  cases p with
  |nil=>simp only[El.get,Option.some.injEq,Sigma.mk.injEq] at h;rw[Ty.at_,h.1]
  |cons i p=>simp [El.get] at h
theorem St(hE:aj P E)(hr:Rel X s a){T:TypeId}{x:Operand}{j:Nat}{ta tb:Ty}(ho:o.op= .fieldAddr T x j)(hg:E.gr T=some (ta,tb))(h:BU (s.aF x) j ta tb some=some u):aG P X s a o u:=by
 have hx:=hr.aF x
 unfold BU at h
 split at h
 case h_2=>cases h
 rename_i id c d e
 rw[e] at hx
 obtain⟨r,hb,hv,_⟩:=hx
 split at h
 case isFalse=>cases h
 rename_i hcd
 rw[Bool.and_eq_true] at hcd
 have:=Ty.aH hcd.1
 subst this
 cases hj:Nat.ble j 2 with
 |false=>rw[hj] at h;cases h
 |true=>
  rw[hj] at h
  cases h
  have hj:=Nat.le_of_ble_eq_true hj
  obtain⟨fs,hu,hf⟩:=hE.gr T _ _ hg
  obtain⟨f,i,g1,g2,g3,g4⟩:=hf j hj
  refine aG.plain hr (v:= .pointer (some ⟨r,kK c [j],none⟩)) ?_ ⟨r,hb,rfl,?_⟩ (fun aV t' p' e'=> ?_)
  ·have hp:∀(ad:Addr) (w:World),(fieldPlace ad f).run P w= .ok (ad.add f.offset) w:=fun ad w=>by simp [fieldPlace,sizeOf,typeInfo,g3,g4]
   simp only[execOp,ho,Sem.run_bind,Instr.fieldAt,run_underlying hu,Result.andThen_ok,g1,hv,Instr.sureAddr,Sem.run_pure,hp]
   rw[zy,g2]
   simp [kK]
  ·match j,hj with
   |0,_=>simp [gIn,Ty.dJ]
   |1,_=>trivial
   |2,_=>trivial
  ·injection e' with e1 e2 e3
   subst e1
   exact oR hr e
theorem R8(hE:aj P E)(hr:Rel X s a){T:TypeId}{x:Operand}{j:Nat}{u0:Ty}{id:Nat}{t:Ty}{p:List Nat}(ho:o.op= .fieldAddr T x j)(hT:E.ty T=some u0)(e:s.aF x= .ptr id t p)(h:BJ u0 id t p j some=some u):aG P X s a o u:=by
 have hx:=hr.aF x
 rw[e] at hx
 obtain⟨r,hb,hx⟩:=hx
 unfold BJ at h
 split at h
 case h_2=>cases h
 rename_i ta tb q
 obtain⟨hv,cP⟩:=hx
 have hv:a.eval x= .pointer (some ⟨r,ta.off q,none⟩):=hv
 have cP:ta.dJ q:=cP
 split at h
 case h_2=>cases h
 rename_i RU bW
 split at h
 case isFalse=>cases h
 rename_i gE
 rw[Bool.and_eq_true] at gE
 obtain⟨heq,dU⟩:=gE
 have:=Ty.aH heq
 subst this
 split at h
 case h_2=>cases h
 rename_i ft AO
 split at h
 ·cases h
 rename_i df
 cases h
 have hc:ft.cells≠0:=fun e=>df (by rw[e];rfl)
 obtain⟨fs,fT,gf⟩:=JB hE hT dU
 obtain⟨f,g1,g2,g3,g4⟩:=H8 fs.toList u0 0 j ft gf dU AO
 refine aG.plain hr (v:= .pointer (some ⟨r,ta.off (q++ [j]),none⟩)) ?_ ⟨r,hb,rfl,Hl ta q [j] u0 bW cP g4⟩ (fun aV t' p' e'=> ?_)
 ·have fu:fs[j]? =some f:=by rw[<-Array.getElem?_toList];exact g1
  simp only[execOp,ho,Sem.run_bind,Instr.fieldAt,run_underlying fT,Result.andThen_ok,fu,hv,Instr.sureAddr,Sem.run_pure,z5m hE g3 hc]
  rw[zy,Be ta q [j] u0 bW,g2,Nat.zero_add]
 ·injection e' with e1 e2 e3
  subst e1
  exact oR hr e
theorem zw2(hE:aj P E)(hr:Rel X s a){ops:List Oper}{T:TypeId}{x:Operand}{j:Nat}(ho:o.op= .fieldAddr T x j){C:FuncId->bI Out}(h:act E C ops o s some=some u):aG P X s a o u:=by
 unfold act at h
 simp only[ho] at h
 have hx:=hr.aF x
 split at h
 ·rename_i ta tb hg
  exact St hE hr ho hg h
 unfold Ir at h
 split at h
 ·rename_i t u' id root p hT e
  rw[e] at hx
  obtain⟨r,hb,hx⟩:=hx
  split at h
  ·exact R8 hE hr ho hT e h
  rename_i dw
  have dw:root.bn=false:=by simpa using dw
  obtain⟨hv,cP⟩:=(nv dw).1 hx
  split at h
  case h_2=>cases h
  rename_i RU bW
  split at h
  case isFalse=>cases h
  rename_i gE
  rw[Bool.and_eq_true] at gE
  obtain⟨heq,dU⟩:=gE
  have:=Ty.aH heq
  subst this
  split at h
  case h_2=>cases h
  rename_i ft AO
  split at h
  ·cases h
  rename_i df
  cases h
  have hc:ft.cells≠0:=fun e=>df (by rw[e];rfl)
  obtain⟨fs,fT,gf⟩:=JB hE hT dU
  obtain⟨f,g1,g2,g3,g4⟩:=H8 fs.toList u' 0 j ft gf dU AO
  refine aG.plain hr (v:= .pointer (some ⟨r,root.off (p++ [j]),none⟩)) ?_ ⟨r,hb,(nv dw).2 ⟨rfl,Hl root p [j] u' bW cP g4⟩⟩ (fun aV t' p' e'=> ?_)
  ·have fu:fs[j]? =some f:=by rw[<-Array.getElem?_toList];exact g1
   simp only[execOp,ho,Sem.run_bind,Instr.fieldAt,run_underlying fT,Result.andThen_ok,fu,hv,Instr.sureAddr,Sem.run_pure,z5m hE g3 hc]
   rw[zy,Be root p [j] u' bW,g2,Nat.zero_add]
  ·injection e' with e1 e2 e3
   subst e1
   exact oR hr e
 ·rename_i t u' root y hT e
  rw[e] at hx
  obtain⟨ad,cs,hv,kl,aK,dx⟩:=hx
  split at h
  case isFalse=>cases h
  rename_i gE
  rw[Bool.and_eq_true] at gE
  obtain⟨heq,dU⟩:=gE
  have:=Ty.aH heq
  subst this
  split at h
  case h_2=>cases h
  rename_i ft z AO
  split at h
  ·cases h
  rename_i df
  cases h
  have hc:ft.cells≠0:=fun e=>df (by rw[e];rfl)
  obtain⟨fs,fT,gf⟩:=JB hE hT dU
  have bW:u'.at_ [j]=some ft:=Is u' [j] y ft z AO
  obtain⟨f,g1,g2,g3,g4⟩:=H8 fs.toList u' 0 j ft gf dU bW
  obtain⟨k1,k2,k3⟩:=H9 aK g4 AO
  refine aG.plain hr (v:= .pointer (some (ad.add (u'.off [j])))) ?_ ⟨ad.add (u'.off [j]),_,rfl,wG kl _,k3,fun i v hi=> ?_⟩ (fun aV t' p' e'=>by cases e')
  ·have fu:fs[j]? =some f:=by rw[<-Array.getElem?_toList];exact g1
   simp only[execOp,ho,Sem.run_bind,Instr.fieldAt,run_underlying fT,Result.andThen_ok,fu,hv,Instr.sureAddr,Sem.run_pure,z5m hE g3 hc]
   rw[g2,Nat.zero_add]
  ·rw[H5 _ kl]
   refine dx _ v ?_
   rw[List.getElem?_take] at hi
   split at hi
   ·rw[List.getElem?_drop] at hi;exact hi
   ·cases hi
 ·cases h
end Go.Ref

namespace Go.Ref
open Go
variable {P:Program} {E:Env} {X:ar} {s:State} {a:Act} {o:Oper} {u:Out}
theorem rL{R:Type}{i:Int}{n:Nat}{x:Option R}{z:R}(h:zc i n x=some z):0<=i/\i<(n:Int)/\x=some z:=by
 unfold zc at h
 cases h1:decide (0<=i)<;>rw[h1] at h
 ·cases h
 ·cases h2:decide (i<(n:Int))<;>rw[h2] at h
  ·cases h
  ·exact⟨of_decide_eq_true h1,of_decide_eq_true h2,h⟩
theorem Ot{e:TypeId}{t:Ty}{xs:List (El t)}{cs:List Value}(h:aY X (.sl e t) xs cs):∃A c,dk (.sl e t) cs= .slice A xs.length c/\xs.length<=c/\
 ∀(j:Nat) x,xs[j]? =some x->∃ad dI,A=some ad/\ad.spot=none/\aY X t x dI/\∀(i:Nat) v,dI[i]? =some v->X.ax (ad.add (j*t.cells+i)) v:=by
 obtain⟨A,c,rfl,h1,h2⟩:=h
 exact⟨A,c,rfl,h1,h2⟩
theorem aY.tO{e:TypeId}{t:Ty}{xs:List (El t)}{A:Option Addr}{n c:Nat}(hn:xs.length=n)(h1:n<=c)(h2:∀(j:Nat) x,xs[j]? =some x->∃ad dI,A=some ad/\ad.spot=none/\aY X t x dI/\∀(i:Nat) v,dI[i]? =some v->X.ax (ad.add (j*t.cells+i)) v):aY X (.sl e t) xs [.slice A n c]:=by
 subst hn
 exact⟨A,c,rfl,h1,h2⟩
theorem zlf{R:Type}{s:SV}{K:Int->Option R}{z:R}(h:s.num K=some z):∃n k,K n=some z/\∀(X:ar) pl v,ay X pl s v->v= .int k n:=by
 unfold SV.num at h
 split at h
 ·rename_i k n w
  refine⟨n,k,h,fun X pl v hv=> ?_⟩
  obtain⟨cs,h1,h2,_⟩:=hv
  rw[h2,jG h1]
 ·cases h
theorem R9(hE:aj P E)(hr:Rel X s a){T:TypeId}{x i:Operand}{m:Nat}{t:Ty}{n:Int}{ik:IntKind}{id:Nat}{root:Ty}{p:List Nat}(ho:o.op= .indexAddr T x i)(ei:a.eval i= .int ik n)(hT:E.ty T=some (.arr m t))(cX:s.aF x= .ptr id root p)(hx:ay X (tN x) (.ptr id root p) (a.eval x))(h:BM m t n id root p some=some u):aG P X s a o u:=by
 obtain⟨r,hb,hx⟩:=hx
 unfold BM at h
 split at h
 case h_2=>cases h
 rename_i ta tb q
 obtain⟨hv,cP⟩:=hx
 have hv:a.eval x= .pointer (some ⟨r,ta.off q,none⟩):=hv
 have cP:ta.dJ q:=cP
 split at h
 case h_2=>cases h
 rename_i RU bW
 split at h
 case isFalse=>cases h
 rename_i heq
 have:=Ty.aH heq
 subst this
 obtain⟨h0,h1,h⟩:=rL h
 cases h
 obtain⟨e,fT,gf,_⟩:=(hE.ty T _ hT).cQ
 have aw:n.toNat<m:=by omega
 refine aG.plain hr (v:= .pointer (some ⟨r,ta.off (q++ [n.toNat]),none⟩)) ?_ ⟨r,hb,rfl,Hl ta q [n.toNat] _ bW cP ⟨aw,by simp [Ty.dJ]⟩⟩ (fun aV t' p' e'=> ?_)
 ·simp only[execOp,ho,Sem.run_bind,Instr.indexAt,ei,hv,asIntOf,Sem.run_pure,Result.andThen_ok,run_underlying fT,Instr.sureAddr,Sem.run_ite,h0,h1,and_self,if_true,zw hE gf]
  rw[zy,Be ta q [n.toNat] _ bW]
  simp [Ty.off]
 ·injection e' with e1 e2 e3
  subst e1
  exact oR hr cX
theorem zw3(hE:aj P E)(hr:Rel X s a){ops:List Oper}{T:TypeId}{x i:Operand}(ho:o.op= .indexAddr T x i){C:FuncId->bI Out}(h:act E C ops o s some=some u):aG P X s a o u:=by
 unfold act at h
 simp only[ho] at h
 have hx:=hr.aF x
 have hi:=hr.aF i
 unfold Iu at h
 obtain⟨n,ik,h,hn⟩:=zlf h
 have ei:=hn X _ _ hi
 split at h
 ·rename_i e t t' xs w hT cX
  rw[cX] at hx
  obtain⟨ys,h,qJ⟩:=zt h
  obtain⟨h0,h1,h⟩:=rL h
  cases h
  obtain⟨cs,jz,ev⟩:=qJ X (tN x) _ hx.bare
  obtain⟨A,c,hm,hle,eI⟩:=Ot jz
  rw[hm] at ev
  have aw:n.toNat<List.length ys:=by omega
  obtain⟨ad,dI,rfl,kl,aK,dx⟩:=eI n.toNat _ (getD_some (El.bH t) aw)
  have hu:=(hE.ty T _ hT).cQ
  refine aG.plain hr (v:= .pointer (some (ad.add (n.toNat*t.cells)))) ?_ ⟨ad.add (n.toNat*t.cells),dI,rfl,wG kl _,aK,fun j v hj=> ?_⟩ (fun _ _ _ e'=>by cases e')
  ·simp only[execOp,ho,Sem.run_bind,Instr.indexAt,ei,ev,asIntOf,Sem.run_pure,Result.andThen_ok,run_underlying hu.1,Sem.run_ite,h0,h1,and_self,if_true,zw hE hu.2]
  ·rw[H5 _ kl];exact dx j v hj
 ·rename_i m t id root p hT cX
  rw[cX] at hx
  obtain⟨r,hb,hx⟩:=hx
  split at h
  ·exact R9 hE hr ho ei hT cX ⟨r,hb,hx⟩ h
  rename_i dw
  have dw:root.bn=false:=by simpa using dw
  obtain⟨hv,cP⟩:=(nv dw).1 hx
  split at h
  case h_2=>cases h
  rename_i RU bW
  split at h
  case isFalse=>cases h
  rename_i heq
  have:=Ty.aH heq
  subst this
  obtain⟨h0,h1,h⟩:=rL h
  cases h
  obtain⟨e,fT,gf,_⟩:=(hE.ty T _ hT).cQ
  have aw:n.toNat<m:=by omega
  refine aG.plain hr (v:= .pointer (some ⟨r,root.off (p++ [n.toNat]),none⟩)) ?_ ⟨r,hb,(nv dw).2 ⟨rfl,Hl root p [n.toNat] _ bW cP ⟨aw,by simp [Ty.dJ]⟩⟩⟩ (fun aV t' p' e'=> ?_)
  ·simp only[execOp,ho,Sem.run_bind,Instr.indexAt,ei,hv,asIntOf,Sem.run_pure,Result.andThen_ok,run_underlying fT,Instr.sureAddr,Sem.run_ite,h0,h1,and_self,if_true,zw hE gf]
   rw[zy,Be root p [n.toNat] _ bW]
   simp [Ty.off]
  ·injection e' with e1 e2 e3
   subst e1
   exact oR hr cX
 ·rename_i m t t' xs hT cX
  rw[cX] at hx
  obtain⟨ad,cs,hv,kl,aK,dx⟩:=hx
  simp only[SV.el] at h
  split at h
  case isFalse=>cases h
  rename_i heq
  have:=Ty.aH heq
  subst this
  obtain⟨h0,h1,h⟩:=rL h
  cases h
  obtain⟨e,fT,gf,_⟩:=(hE.ty T _ hT).cQ
  obtain⟨l1,l2,l3⟩:=aK
  have aw:n.toNat<m:=by omega
  have AQ:=l3 n.toNat _ (getD_some (El.bH t) (by omega))
  refine aG.plain hr (v:= .pointer (some (ad.add (n.toNat*t.cells)))) ?_ ⟨ad.add (n.toNat*t.cells),_,rfl,wG kl _,AQ,fun j v hj=> ?_⟩ (fun _ _ _ e'=>by cases e')
  ·simp only[execOp,ho,Sem.run_bind,Instr.indexAt,ei,hv,asIntOf,Sem.run_pure,Result.andThen_ok,run_underlying fT,Instr.sureAddr,Sem.run_ite,h0,h1,and_self,if_true,zw hE gf]
  ·rw[H5 _ kl]
   refine dx _ v ?_
   rw[List.getElem?_take] at hj
   split at hj
   ·rw[List.getElem?_drop] at hj;exact hj
   ·cases hj
 ·rename_i e0 t id r p hT cX
  rw[cX] at hx
  unfold Hy at h
  split at h
  case h_2=>cases h
  rename_i m ta tb
  split at h
  case isFalse=>cases h
  rename_i heq
  have:=Ty.aH heq
  subst this
  obtain⟨h0,h1,h⟩:=rL h
  cases h
  obtain⟨r0,hb,cap,hv,kO⟩:=hx
  have hu:=(hE.ty T _ hT).cQ
  refine aG.plain hr (v:= .pointer (some ⟨r0,n.toNat*ta.cells,none⟩)) ?_ ⟨r0,hb,rfl⟩ (fun aV t' p' e'=> ?_)
  ·simp only[execOp,ho,Sem.run_bind,Instr.indexAt,ei,hv,asIntOf,Sem.run_pure,Result.andThen_ok,run_underlying hu.1,Sem.run_ite,h0,h1,and_self,if_true,zw hE hu.2]
   rw[zy,Nat.zero_add]
  ·injection e' with e1 e2 e3
   subst e1
   exact oR hr cX
 ·rename_i id ta tb hT cX
  rw[cX] at hx
  obtain⟨r0,hb,hv,_⟩:=hx
  split at h
  case isFalse=>cases h
  rename_i hga
  obtain⟨h0,h1,h⟩:=rL h
  cases h
  obtain⟨e,i',hu,tv,fa⟩:=hE.ga T hga
  have aw:n.toNat<2:=by omega
  refine aG.plain hr (v:= .pointer (some ⟨r0,kK ta [1,n.toNat],none⟩)) ?_ ⟨r0,hb,rfl,aw⟩ (fun aV t' p' e'=> ?_)
  ·have fR:(sizeOf e).run P X.w= .ok 1 X.w:=by simp [sizeOf,typeInfo,tv,fa]
   have O9:n<((2:Nat):Int):=h1
   simp only[execOp,ho,Sem.run_bind,Instr.indexAt,ei,hv,asIntOf,Sem.run_pure,Result.andThen_ok,run_underlying hu,Instr.sureAddr,Sem.run_ite,h0,O9,and_self,if_true,fR]
   rw[zy,Nat.mul_one]
   rfl
  ·injection e' with e1 e2 e3
   subst e1
   exact oR hr cX
 ·cases h
theorem wM{pl:List Nat->Place}{t:Ty}{x:El t}{cs:List Value}(h:aY X t x cs):ay X pl (.ai t x []) (dk t cs):=⟨cs,h,rfl,km⟩
theorem z159(hE:aj P E)(hr:Rel X s a){ops:List Oper}{T:TypeId}{x i:Operand}(ho:o.op= .index T x i){C:FuncId->bI Out}(h:act E C ops o s some=some u):aG P X s a o u:=by
 unfold act at h
 simp only[ho] at h
 have hx:=hr.aF x
 have hi:=hr.aF i
 unfold Iv at h
 obtain⟨n,ik,h,hn⟩:=zlf h
 have ei:=hn X _ _ hi
 split at h
 ·rename_i hT
  obtain⟨st,h,bL⟩:=zt h
  obtain⟨h0,h1,h⟩:=rL h
  cases h
  obtain⟨cs,EY,ev⟩:=bL X _ _ hx
  rw[lv EY] at ev
  have hu:=(hE.ty T _ hT).cQ
  have aw:n.toNat<st.size:=by omega
  refine aG.plain hr (v:= .int .u8 (zd st n.toNat)) ?_ zu (fun _ _ _ e'=>by cases e')
  have cc:st[n.toNat]? =some (st[n.toNat]'aw):=getElem?_pos st n.toNat aw
  simp only[execOp,ho,Sem.run_bind,Instr.index,ei,ev,asIntOf,Sem.run_pure,Result.andThen_ok,run_underlying hu,h0,if_true,cc]
  simp [zd,aw]
 ·rename_i m t hT
  obtain⟨ys,h,qJ⟩:=zt h
  obtain⟨h0,h1,h⟩:=rL h
  cases h
  obtain⟨cs,jz,ev⟩:=qJ X _ _ hx
  rw[hG rfl] at ev
  obtain⟨e,fT,gf,_⟩:=(hE.ty T _ hT).cQ
  obtain⟨l1,l2,l3⟩:=jz
  have aw:n.toNat<m:=by omega
  have AQ:=l3 n.toNat _ (getD_some (El.bH t) (by omega))
  refine aG.plain hr ?_ (wM AQ) (fun _ _ _ e'=>by cases e')
  have hp:=zV hE gf AQ (all:=cs.toArray) (off:=n.toNat*t.cells) rfl X.w
  simp only[execOp,ho,Sem.run_bind,Instr.index,ei,ev,asIntOf,Sem.run_pure,Result.andThen_ok,run_underlying fT,h0,h1,and_self,if_true,zw hE gf,hp]
 ·cases h
theorem SW(hE:aj P E)(hr:Rel X s a){ops:List Oper}{T:TypeId}{x:Operand}{j:Nat}(ho:o.op= .field T x j){C:FuncId->bI Out}(h:act E C ops o s some=some u):aG P X s a o u:=by
 unfold act at h
 simp only[ho] at h
 have hx:=hr.aF x
 split at h
 case h_2=>cases h
 rename_i t hT
 split at h
 ·cases h
 rename_i dU
 have dU:t.cO=true:=by simpa using dU
 obtain⟨y,h,hy⟩:=zt h
 split at h
 case h_2=>cases h
 rename_i ft z hg
 cases h
 obtain⟨cs,rep,ev⟩:=hy X _ _ hx
 have n5:t.agg=true:=by cases t<;>simp_all [Ty.cO,Ty.agg]
 rw[hG n5] at ev
 obtain⟨fs,fT,gf⟩:=JB hE hT dU
 obtain⟨f,g1,g2,g3,cP⟩:=H8 fs.toList t 0 j ft gf dU (Is t [j] y ft z hg)
 obtain⟨k1,k2,k3⟩:=H9 rep cP hg
 have fu:fs[j]? =some f:=by rw[<-Array.getElem?_toList];exact g1
 refine aG.plain hr ?_ (wM k3) (fun _ _ _ e'=>by cases e')
 have hp:=zV hE g3 k3 (all:=cs.toArray) (off:=f.offset) (by rw[g2,Nat.zero_add]) X.w
 simp only[execOp,ho,Sem.run_bind,Instr.field,run_underlying fT,Result.andThen_ok,fu,ev,asAgg,Sem.run_pure,hp]
theorem Yx(hE:aj P E)(hr:Rel X s a){ops:List Oper}{x:Operand}{T:TypeId}{dd:Array Operand}{ts:Array TypeId}(ho:o.op= .call ⟨.builtin .len,dd,ts⟩){C:FuncId->bI Out}(h:act E C ops o s some=some u):aG P X s a o u:=by
 unfold act at h
 simp only[ho] at h
 split at h
 case h_2=>cases h
 rename_i x T qI xU
 have has:dd= #[x]:=by rw[<-Array.toArray_toList (xs:=dd),qI]
 have n9:ts= #[T]:=by rw[<-Array.toArray_toList (xs:=ts),xU]
 subst has n9
 have hx:=hr.aF x
 unfold qO at h
 split at h
 ·rename_i hT
  obtain⟨st,h,bL⟩:=zt h
  cases h
  obtain⟨cs,EY,ev⟩:=bL X _ _ hx
  rw[lv EY] at ev
  have hu:=(hE.ty T _ hT).cQ
  refine aG.plain hr (v:= .int .i64 st.size) ?_ zu (fun _ _ _ e'=>by cases e')
  simp [execOp,ho,resolve,invoke,builtin,Builtin.len_,ev,run_underlying hu,goInt]
 ·rename_i e t hT
  have hu:=(hE.ty T _ hT).cQ
  split at h
  ·rename_i id n ta tb cX
   cases h
   rw[cX] at hx
   obtain⟨r0,hb,cap,ev,kO⟩:=hx
   refine aG.plain hr (v:= .int .i64 n) ?_ zu (fun _ _ _ e'=>by cases e')
   simp [execOp,ho,resolve,invoke,builtin,Builtin.len_,ev,run_underlying hu.1,goInt]
  ·obtain⟨xs,h,P3⟩:=zt h
   cases h
   obtain⟨cs,yB,ev⟩:=P3 X _ _ hx
   obtain⟨A,c,hm,_,_⟩:=Ot yB
   rw[hm] at ev
   refine aG.plain hr (v:= .int .i64 (List.length xs)) ?_ zu (fun _ _ _ e'=>by cases e')
   simp [execOp,ho,resolve,invoke,builtin,Builtin.len_,ev,run_underlying hu.1,goInt]
 ·rename_i n t hT
  cases h
  obtain⟨e,fT,gf,_⟩:=(hE.ty T _ hT).cQ
  refine aG.plain hr (v:= .int .i64 n) ?_ zu (fun _ _ _ e'=>by cases e')
  simp [execOp,ho,resolve,invoke,builtin,Builtin.len_,run_underlying fT,goInt]
 ·cases h
theorem zwv(hr:Rel X s a){ops:List Oper}{g:Bool}{dd:Array Operand}{ts:Array TypeId}(ho:o.op= .call ⟨.builtin (if g then .max else .min),dd,ts⟩){C:FuncId->bI Out}(h:act E C ops o s some=some u):aG P X s a o u:=by
 have key:∀x y,dd= #[x,y]->iF g (s.aF x) (s.aF y) some=some u->aG P X s a o u:=by
  intro x y has h
  subst has
  have hx:=hr.aF x
  have hy:=hr.aF y
  unfold iF at h
  split at h
  case h_2=>cases h
  rename_i k m _ k' n _ e1 e2
  rw[e1] at hx
  rw[e2] at hy
  have vx:=wC hx
  have vy:=wC hy
  cases h
  refine aG.plain hr (v:= .int k (bif g then(if(m:Int)<n then n else m) else(if(n:Int)<m then n else m))) ?_ zu (fun _ _ _ e'=>by cases e')
  cases g
  ·simp [execOp,ho,resolve,invoke,builtin,Builtin.min_,Builtin.min2,vx,vy]
  ·simp [execOp,ho,resolve,invoke,builtin,Builtin.max_,Builtin.max2,vx,vy]
 unfold act at h
 cases g with
 |true=>
  simp only[ho,if_true] at h
  split at h
  ·rename_i x y e
   exact key x y (by rw[<-Array.toArray_toList (xs:=dd),e]) h
  ·cases h
 |false=>
  simp only[ho,Bool.false_eq_true,if_false] at h
  split at h
  ·rename_i x y e
   exact key x y (by rw[<-Array.toArray_toList (xs:=dd),e]) h
  ·cases h
theorem aaN(hr:Rel X s a){ops:List Oper}{op:UnOp}{T:TypeId}{x:Operand}(ho:o.op= .unOp op T x){C:FuncId->bI Out}(h:act E C ops o s some=some u):aG P X s a o u:=by
 unfold act at h
 simp only[ho] at h
 have hx:=hr.aF x
 unfold E8 at h
 split at h
 ·rename_i b w e
  rw[e] at hx
  cases h
  refine aG.plain hr (v:= .bool (!b)) ?_ lu (fun _ _ _ e'=>by cases e')
  simp [execOp,ho,He hx,Op.unary]
 ·rename_i k n w e
  rw[e] at hx
  cases h
  refine aG.plain hr (v:= .int k (k.wrap (0-n))) ?_ zu (fun _ _ _ e'=>by cases e')
  simp [execOp,ho,wC hx,Op.unary,Op.intArith]
 ·cases h
theorem zya(hr:Rel X s a){ops:List Oper}{x:Operand}(ho:o.op= .nilCheck x){C:FuncId->bI Out}(h:act E C ops o s some=some u):aG P X s a o u:=by
 unfold act at h
 simp only[ho] at h
 have hx:=hr.aF x
 split at h
 ·rename_i id t p e
  rw[e] at hx
  split at h
  ·cases h
  rename_i dw
  have dw:(t.bn&& !t.dK)=false:=by simpa using dw
  cases h
  obtain⟨r,h1,hx⟩:=hx
  obtain⟨ad,h2⟩:=zxs dw hx
  refine aG.plain hr (v:= .pointer (some ad)) ?_ ⟨r,h1,h2▸hx⟩ (fun aV t' p' e'=> ?_)
  ·simp [execOp,ho,h2]
  ·injection e' with e1 e2 e3
   subst e1
   exact oR hr e
 ·rename_i t y e
  rw[e] at hx
  cases h
  obtain⟨ad,cs,h1,h2⟩:=hx
  refine aG.plain hr (v:= .pointer (some ad)) ?_ ⟨ad,cs,rfl,h2⟩ (fun _ _ _ e'=>by cases e')
  simp [execOp,ho,h1]
 ·cases h
theorem R7(hr:Rel X s a){ops:List Oper}{x:Operand}{j:Nat}(ho:o.op= .extract x j){C:FuncId->bI Out}(h:act E C ops o s some=some u):aG P X s a o u:=by
 unfold act at h
 simp only[ho] at h
 split at h
 case h_2=>cases h
 rename_i t
 have hs:=hr.slot t
 split at h
 ·rename_i hlen
  split at h
  case h_2=>cases h
  rename_i qA
  cases h
  have IY:=hr.aF (.tmp t)
  rw[show s.aF (.tmp t)=SV.over from qA] at IY
  have IY:a.eval (.tmp t)= .tuple #[.bool false]:=IY
  refine aG.plain hr (v:= .bool false) ?_ lu (fun _ _ _ e'=>by cases e')
  simp [execOp,ho,IY,Instr.extract]
 rename_i hlen
 have IW:(s.slot t).length≠1:=fun e=>hlen (by rw[e];rfl)
 have yl:∃vs:Array Value,a.tmps.getD t Go.undef= .tuple vs/\vs.size=(s.slot t).length/\∀(j:Nat) sv v,(s.slot t)[j]? =some sv->vs[j]? =some v->ay X (.c t j) sv v:=by
  match hm:s.slot t with
  | [sv]=>rw[hm] at IW;exact absurd rfl IW
  | []=>rw[hm] at hs;exact hs
  |_::_::_=>rw[hm] at hs;exact hs
 obtain⟨vs,h1,h2,h3⟩:=yl
 have aR:∀v,vs[j]? =some v->(execOp a.eval o).run P X.w= .ok (.value v) X.w:=by
  intro v hv
  simp only[execOp,ho,Act.eval,h1,Sem.run_bind,Instr.extract,hv,Sem.run_pure,Result.andThen_ok]
 have hv:∀sv,(s.slot t)[j]? =some sv->∃v,vs[j]? =some v:=by
  intro sv hH
  have:=(List.getElem?_eq_some_iff.1 hH).1
  exact⟨_,Array.getElem?_eq_getElem (by omega)⟩
 split at h
 ·rename_i ut y w e
  cases h
  obtain⟨v,hv⟩:=hv _ e
  cases w with
  |nil=>exact aG.plain hr (aR v hv) (h3 j _ v e hv).bare (fun _ _ _ h=>by cases h)
  |cons p w=>exact aG.vY hr (aR v hv) (h3 j _ v e hv)
 ·cases h
 ·cases h
 ·rename_i sv h4 h5 h6 e
  cases h
  obtain⟨v,hv⟩:=hv _ e
  have eJ:Plain sv:=by
   cases sv with
   |ai ut y w=>exact(h4 ut y w rfl).elim
   |bh id c b n=>first|exact(h5 id c b n rfl).elim|exact(h6 id c b n rfl).elim
   |_=>trivial
  refine aG.plain hr (aR v hv) ((h3 j _ v e hv).place eJ) (fun id ty p e'=> ?_) eJ.l8
  ·by_cases aw:t<s.sl.length
   ·refine hr.live t _ id ty p (nz aw) ?_
    rw[<-e'];exact List.mem_of_getElem? e
   ·have:s.slot t=[.undef]:=by simp [State.slot,List.getElem?_eq_none (Nat.le_of_not_lt aw)]
    rw[this] at IW
    exact absurd rfl IW
 ·cases h
end Go.Ref

namespace Go.Ref
open Go
variable {P:Program} {E:Env} {X:ar} {s:State} {a:Act} {o:Oper} {u:Out}
def lF(v:Option SV)(n:Nat)(d:Nat):Prop:=match v with
 |none=>n=d
 |some v=>∀(X:ar) pl val,ay X pl v val->val= .int .i64 (n:Int)
theorem FT{l:Int}{m:Nat}(h1:0<=l)(h2:l<=(m:Int)):l.toNat<=m:=by omega
theorem zpk{l:Int}(h1:0<=l):((l.toNat:Nat):Int)=l:=by omega
theorem z8g{R:Type}{lo:Option SV}{m:Nat}{G:Nat->Option R}{z:R}(h:uo lo m G=some z):∃l,G l=some z/\l<=m/\lF lo l 0:=by
 unfold uo at h
 cases lo with
 |none=>exact⟨0,h,Nat.zero_le _,rfl⟩
 |some v=>
  obtain⟨l,h,hl⟩:=zt h
  cases h1:decide (0<=l)<;>rw[h1] at h
  ·cases h
  ·cases h2:decide (l<=(m:Int))<;>rw[h2] at h
   ·cases h
   ·have h1:=of_decide_eq_true h1
    have h2:=of_decide_eq_true h2
    refine⟨l.toNat,h,FT h1 h2,fun X pl val hv=> ?_⟩
    obtain⟨cs,r,e⟩:=hl X pl val hv
    rw[e,jG r,zpk h1]
theorem zol{R:Type}{lo hi:Option SV}{n:Nat}{F:Nat->Nat->Option R}{z:R}(h:cutAt lo hi n F=some z):∃l m,F l m=some z/\l<=m/\m<=n/\lF lo l 0/\lF hi m n:=by
 unfold cutAt at h
 cases hi with
 |none=>
  obtain⟨l,h1,h2,h3⟩:=z8g h
  exact⟨l,n,h1,h2,Nat.le_refl _,h3,rfl⟩
 |some v=>
  obtain⟨m,h,hm⟩:=zt h
  cases h1:decide (0<=m)<;>rw[h1] at h
  ·cases h
  ·cases h2:decide (m<=(n:Int))<;>rw[h2] at h
   ·cases h
   ·have h1:=of_decide_eq_true h1
    have h2:=of_decide_eq_true h2
    have h:uo lo (Int.toNat m) (fun l=>F l (Int.toNat m))=some z:=h
    obtain⟨l,g1,g2,g3⟩:=z8g h
    refine⟨l,m.toNat,g1,g2,FT h1 h2,g3,fun X pl val hv=> ?_⟩
    obtain⟨cs,r,e⟩:=hm X pl val hv
    rw[e,jG r,zpk h1]
theorem lF.val(hr:Rel X s a){x:Option Operand}{n d:Nat}(h:lF (x.map s.aF) n d):(x=none/\n=d)\/x.map a.eval=some (.int .i64 (n:Int)):=by
 cases x with
 |none=>exact .inl ⟨rfl,h⟩
 |some x=>exact .inr (by rw[Option.map_some,h X _ _ (hr.aF x)])
theorem zad(hr:Rel X s a){isS:Bool}{lo hi:Option Operand}{l m n c:Nat}(hl:lF (lo.map s.aF) l 0)(hm:lF (hi.map s.aF) m n)(h1:l<=m)(h2:m<=n)(h3:n<=c)(w:World):
 (Instr.sliceBounds isS n c (lo.map a.eval) (hi.map a.eval) none).run P w= .ok (l,m,c) w:=by
 have sb:∀(i y:Nat) (code:BoundsCode),i<=y->(Instr.sliceBound (.int .i64 (i:Int)) y code).run P w= .ok i w:=by
  intro i y code h
  rw[run_sliceBound (P:=P) (w:=w) .i64 (i:Int) y code (by omega) (by omega)]
  simp
 rcases hl.val hr with⟨rfl,rfl⟩|hl<;>rcases hm.val hr with⟨rfl,rfl⟩|hm
 ·simp [Instr.sliceBounds]
 ·simp [Instr.sliceBounds,hm,sb m c _ (by omega)]
 ·simp [Instr.sliceBounds,hl,sb l m _ h1]
 ·simp [Instr.sliceBounds,hl,hm,sb l m _ h1,sb m c _ (by omega)]
theorem VE(hE:aj P E)(hr:Rel X s a){T:TypeId}{x:Operand}{lo hi:Option Operand}(ho:o.op= .slice T x lo hi none)(h:n0 E T (s.aF x) (lo.map s.aF) (hi.map s.aF) some=some u):aG P X s a o u:=by
 have hx:=hr.aF x
 unfold n0 at h
 split at h
 ·rename_i hT
  obtain⟨st,h,bL⟩:=zt h
  obtain⟨l,m,h,h1,h2,hl,hm⟩:=zol h
  cases h
  obtain⟨cs,EY,ev⟩:=bL X _ _ hx
  rw[lv EY] at ev
  have hu:=(hE.ty T _ hT).cQ
  refine aG.plain hr (v:= .string (st.extract l m)) ?_ wH (fun _ _ _ e'=>by cases e')
  simp only[execOp,ho,Sem.run_bind,Instr.sliceAt,run_underlying hu,Result.andThen_ok,Instr.slice,ev,Option.map_none,Option.isSome_none,Bool.false_eq_true,if_false,zad hr hl hm h1 h2 (Nat.le_refl _),Sem.run_pure]
 ·rename_i e t hT
  obtain⟨xs,h,qI⟩:=zt h
  obtain⟨l,m,h,h1,h2,hl,hm⟩:=zol h
  cases h
  obtain⟨cs,yB,ev⟩:=qI X _ _ hx
  obtain⟨A,c,fx,hle,eI⟩:=Ot yB
  rw[fx] at ev
  have hu:=(hE.ty T _ hT).cQ
  have hlen:((List.take m xs).drop l).length=m-l:=by rw[List.length_drop,List.length_take,Nat.min_eq_left h2]
  refine aG.plain hr (v:= .slice (if c=l then A else A.map (·.add (l*t.cells))) (m-l) (c-l)) ?_ ⟨_,aY.tO (A:=if c=l then A else A.map (·.add (l*t.cells))) (n:=m-l) (c:=c-l) hlen (by omega) (fun j y hj=> ?_),rfl,km⟩ (fun _ _ _ e'=>by cases e')
  ·simp only[execOp,ho,Sem.run_bind,Instr.sliceAt,run_underlying hu.1,Result.andThen_ok,Instr.slice,ev,Option.map_none,zad hr hl hm h1 h2 hle,Sem.run_pure,zw hE hu.2]
  ·have qs:=(List.getElem?_eq_some_iff.1 hj).1
   rw[hlen] at qs
   have Pu:xs[l+j]? =some y:=by
    rw[List.getElem?_drop,List.getElem?_take,if_pos (by omega)] at hj
    exact hj
   obtain⟨ad,dI,rfl,kl,aK,dx⟩:=eI (l+j) y Pu
   rw[if_neg (by omega)]
   refine⟨ad.add (l*t.cells),dI,rfl,wG kl _,aK,fun i v hi=> ?_⟩
   rw[H5 _ kl,<-Nat.add_assoc,<-Nat.add_mul]
   exact dx i v hi
 ·cases h
theorem z156(hE:aj P E)(hr:Rel X s a){S T:TypeId}{x:Operand}(ho:o.op= .convert S T x)(h:jl E S T (s.aF x) some=some u):aG P X s a o u:=by
 have hx:=hr.aF x
 unfold jl at h
 split at h
 ·rename_i k k' hS hT
  obtain⟨n,h,hn⟩:=zt h
  cases h
  obtain⟨cs,rn,ev⟩:=hn X _ _ hx
  rw[jG rn] at ev
  have hu:=(hE.ty S _ hS).cQ
  have hv:=(hE.ty T _ hT).cQ
  refine aG.plain hr (v:= .int k' (k'.wrap n)) ?_ zu (fun _ _ _ e'=>by cases e')
  simp [execOp,ho,ev,convert,run_underlying hu,run_underlying hv,Conv.intToInt]
 ·rename_i hS hT
  obtain⟨st,h,bL⟩:=zt h
  cases h
  obtain⟨cs,rn,ev⟩:=bL X _ _ hx
  rw[lv rn] at ev
  have hu:=(hE.ty S _ hS).cQ
  have hv:=(hE.ty T _ hT).cQ
  refine aG.plain hr (v:= .string st) ?_ wH (fun _ _ _ e'=>by cases e')
  simp [execOp,ho,ev,convert,run_underlying hu,run_underlying hv]
 ·rename_i e hS hT
  obtain⟨xs,h,qI⟩:=zt h
  cases h
  obtain⟨cs,yB,ev⟩:=qI X _ _ hx
  obtain⟨A,c,fx,hle,eI⟩:=Ot yB
  rw[fx] at ev
  have hu:=(hE.ty S _ hS).cQ
  have he:=(hE.ty e _ hu.2).cQ
  have hv:=(hE.ty T _ hT).cQ
  refine aG.plain hr (v:= .string (strOf xs)) ?_ wH (fun _ _ _ e'=>by cases e')
  have key:(convert S T (.slice A (List.length xs) c)).run P X.w= .ok (.string (strOf xs)) X.w:=by
   cases A with
   |none=>
    have qy:xs=[]:=by
     cases xs with
     |nil=>rfl
     |cons y ys=>obtain⟨ad,_,h,_⟩:=eI 0 y rfl;cases h
    rw[run_convert_bytes_nil X.w S e hu.1 he _ _ T hv,qy]
    rfl
   |some ad=>
    rw[run_convert_bytes_string X.w S T e _ _ c hu.1 he hv]
    have iu:(loadCells ad (List.length xs)).run P X.w= .ok (List.map (Value.int .u8) xs).toArray X.w:=by
     have:=run_loadCells_list (P:=P) X.w ad (List.map (Value.int .u8) xs) (fun j v hj=>by
      obtain⟨y,hy,rfl⟩:=List.getElem?_map .. ▸hj|>Option.map_eq_some_iff.1
      obtain⟨nk,dI,h1,kl,aK,dx⟩:=eI j y hy
      cases h1
      have hc:dI=[.int .u8 y]:=aK
      have:=dx 0 (.int .u8 y) (by rw[hc];rfl)
      have h2:=this.2.1
      simpa [Ty.cells] using h2)
     rw[List.length_map] at this
     exact this
    rw[run_bytesToString X.w ad _ c xs iu,foldl_push_bytes]
    simp [strOf,ByteArray.empty,ByteArray.emptyWithCapacity]
    rfl
  simp only[execOp,ho,Sem.run_bind,ev,key,Result.andThen_ok,Sem.run_pure]
 ·cases h
def ar.new(X:ar)(cs:Array Value)(T:TypeId)(w:Ow)(β:Nat->Option Nat):ar:={w:=X.w.alloc (.cells cs T),ow:=fun g=>if g=X.w.heap.size then w else X.ow g,β}
theorem Hz(X:ar)(s:State)(cs:Array Value)(T:TypeId)(w:Ow)(β:Nat->Option Nat)(hβ0:β 0=X.β 0)(hβ:∀(id:Nat) B,s.bs[id]? =some (some B)->β id=X.β id):dO s X (X.new cs T w β) where
 size:=by simp [ar.new]
 os:=rfl
 tape:=rfl
 output:=rfl
 kG:=fun g hg=>⟨by simp only[ar.new];rw[if_neg (by omega)],RowKit.Below.heap_alloc _ _ _ hg⟩
 β0:=hβ0
 β:=hβ
theorem Ht(X:ar)(cs:Array Value)(T:TypeId)(w:Ow)(β:Nat->Option Nat):(X.new cs T w β).w.heap[X.w.heap.size]? =some (.cells cs T (0,0))/\(X.new cs T w β).ow X.w.heap.size=w:=⟨heap_alloc_new X.w _,by simp [ar.new]⟩
theorem Hm(T:TypeId)(v:Value)(w:World):(newVar T v).run P w= .ok ⟨w.heap.size,0,none⟩ (w.alloc (.cells v.cells T)):=by
 simp [newVar,newRow]
theorem Rel.ej{Y:ar}(hr:Rel Y s a){d r:Nat}{B:bj}(hd:d<s.bs.length)(hb:s.bs[d]? =some none)(hβ:Y.β d=some r)(h:bk Y d r B):Rel Y (s.az (some (d,B))) a where
 size:=hr.size
 fh:=by simpa [State.az] using hr.fh
 bC:=hr.bC
 boxes:=fun id B' dC=>by
  simp only[State.az,List.getElem?_set] at dC
  by_cases e:d=id
  ·subst e
   rw[if_pos rfl,if_pos hd] at dC
   cases dC;exact⟨r,hβ,h⟩
  ·rw[if_neg e] at dC
   exact hr.boxes id B' dC
 live:=fun i l id t p hi hm=>by
  obtain⟨B',dC⟩:=hr.live i l id t p hi hm
  simp only[State.az,List.getElem?_set]
  by_cases e:d=id
  ·subst e;rw[hb] at dC;cases dC
  ·rw[if_neg e];exact⟨B',dC⟩
 defers:=hr.defers
 bh:=hr.bh.az (hr.bh.none fun a b x own h=>by rw[hb] at h;cases h)
theorem nw{d:Nat}{B:bj}(h:s.box d=some B):s.bs[d]? =some (some B):=by
 unfold State.box at h
 rw[List.getD_eq_getElem?_getD] at h
 cases hg:s.bs[d]? with
 |none=>rw[hg] at h;cases h
 |some x=>rw[hg] at h;simp at h;rw[h]
theorem zwf(hr:Rel X s a){x:Operand}{t:Ty}{R:Type}{K:El t->Option R}{z:R}(h:(s.aF x).el t K=some z){c:List (Nat×Nat)}(hc:c=src x\/((s.aF x).own=[]/\c=[])):
 ∃y,K y=some z/\∀q:List Nat->Place,∃Y cs,Y.w=X.w/\Ext X Y/\Rel Y (s.close c) a/\aY Y t y cs/\a.eval x=dk t cs/\bc Y q t y cs (s.aF x).own/\Y.β=X.β/\dt (s.close c) X Y/\jN X Y:=by
 have hx:=hr.aF x
 cases hs:s.aF x with
 |ai t' y' w=>
  rw[hs] at hx h hc
  simp only[SV.el] at h
  split at h
  case isFalse=>cases h
  rename_i heq
  have:=Ty.aH heq
  subst this
  refine⟨y',h,fun q=> ?_⟩
  have plain:w=[]->∃Y cs,Y.w=X.w/\Ext X Y/\Rel Y (s.close c) a/\aY Y t' y' cs/\a.eval x=dk t' cs/\bc Y q t' y' cs (SV.ai t' y' w).own/\Y.β=X.β/\dt (s.close c) X Y/\jN X Y:=by
   intro hw
   subst hw
   obtain⟨cs,h1,h2,_⟩:=hx
   exact⟨X,cs,rfl,Ext.refl X,hr.close _,h1,h2,km,rfl,dt.refl _ _,jN.refl X⟩
  rcases hc with hc|⟨hw,_⟩
  ·cases x with
   |tmp i=>
    obtain⟨Y,h1,h2,h3,⟨cs,h4,h5,h6⟩,h7,h8,h9⟩:=hr.take hx q
    subst hc
    exact⟨Y,cs,h1,h2,h3,h4,h5,h6,h7,h8,h9⟩
   |const v=>exact plain (ze0 (show wL v= .ai t' y' w from hs))
   |_=>simp [State.aF,State.tL,one] at hs
  ·exact plain hw
 |cj=>
  rw[hs] at hx h
  cases t<;>simp only[SV.el] at h<;>try(cases h;done)
  rename_i e t
  refine⟨[],h,fun q=>⟨X,[.slice none 0 0],rfl,Ext.refl X,hr.close _,⟨none,0,rfl,Nat.le_refl _,fun j x hj=>by simp at hj⟩,hx,fun p hp=> ?_,rfl,dt.refl _ _,jN.refl X⟩⟩
  have hp:p=[]:=by simpa [SV.own] using hp
  subst hp
  exact⟨e,t,[],_,by simp [Ty.dJ],rfl,rfl,.inl ⟨rfl,rfl⟩⟩
 |_=>rw[hs] at h;simp [SV.el] at h
theorem aG.ej{P:Program}(hr:Rel X s a){d:Nat}{T:TypeId}{t:Ty}{y:El t}{cs:List Value}{own:List (List Nat)}{c:List (Nat×Nat)}{W:ar}
 (dw:t.bn=false) (hd:o.dst=some d) (hb:s.bs[d+1]? =some none) (hW:W.w=X.w) (hX:Ext X W) (I1:Rel W (s.close c) a) (aK:aY W t y cs)
 (bG:bc W (.b (d+1)) t y cs own)
 (aR:(execOp a.eval o).run P X.w= .ok (.value (.pointer (some ⟨X.w.heap.size,0,none⟩))) (X.w.alloc (.cells cs.toArray T))):aG P X s a o {v:=[.ptr (d+1) t []],bx:=some (d+1,⟨t,y,own⟩),cl:=c}:=by
 let β:Nat->Option Nat:=fun id=>if id=d+1 then some W.w.heap.size else W.β id
 have aw:d+1<s.bs.length:=(List.getElem?_eq_some_iff.1 hb).1
 have gD:(s.close c).bs[d+1]? =some none:=by rw[ub];exact hb
 have hk:dO (s.close c) W (W.new cs.toArray T (.box (d+1)) β):=Hz W _ _ _ _ _ (by show(if _ then _ else _)=_;rw[if_neg (by omega)]) (fun id B hB=>by
  show(if id=d+1 then _ else _)=_
  rw[if_neg (fun e=>by rw[e,gD] at hB;cases hB)])
 obtain⟨n1,n2⟩:=Ht W cs.toArray T (.box (d+1)) β
 have bp:bk (W.new cs.toArray T (.box (d+1)) β) (d+1) W.w.heap.size ⟨t,y,own⟩:=
  ⟨n2,cT.of dw n1 (by simpa using aK.ag (fun _ _=>hk.ax)) (by simpa using bG.cS hk)⟩
 have hβd:β (d+1)=some W.w.heap.size:=by show(if d+1=d+1 then _ else _)=_;rw[if_pos rfl]
 have eG:=(I1.cS hk).ej (by rw[ub];exact aw) gD hβd bp
 refine⟨W.new cs.toArray T (.box (d+1)) β,.pointer (some ⟨X.w.heap.size,0,none⟩),.inl ?_,hX.trans hk.ext,?_⟩
 ·rw[aR];simp [ar.new,hW]
 ·rw[hd]
  refine eG.put (fun d' e=> ?_) (fun id t' p hm=> ?_)
  ·cases e
   refine⟨W.w.heap.size,hβd,(nv dw).2 ⟨?_,by simp [Ty.dJ]⟩⟩
   rw[hW]
   simp [Ty.off]
  ·have:id=d+1:=by have:=hm;simp at this;exact this.1
   subst this
   exact⟨⟨t,y,own⟩,by simp [State.az,List.getElem?_set,ub,aw]⟩
theorem JZ(hE:aj P E){T:TypeId}{t:Ty}(ht:E.ty T=some t)(w:World):(zeroValue T).run P w= .ok (dk t (zl t)) w:=by
 obtain⟨i,h1,_,_,h2⟩:=(hE.ty T t ht).info
 simp [zeroValue,typeInfo,h1,h2]
theorem zxk(X:ar)(pl:List Nat->Place):∀t:Ty,bc X pl t (El.bH t) (zl t) (uc t):=by
 intro t
 induction t generalizing pl with
 |sl e t=>
  intro p hp
  have hp:p=[]:=by simpa [uc] using hp
  subst hp
  exact⟨e,t,[],.slice none 0 0,by simp [Ty.dJ],rfl,rfl,.inl ⟨rfl,rfl⟩⟩
 |pair ta tb j4 j5=>
  intro p hp
  simp only[uc,List.mem_append,List.mem_map,List.mem_filterMap] at hp
  rcases hp with⟨q,hq,rfl⟩|⟨q,hq,he⟩
  ·obtain⟨e,t',xs,v,g0,g1,g2,g3⟩:=j4 (fun q=>pl (0::q)) q hq
   refine⟨e,t',xs,v,g0,g1,?_,g3⟩
   have hl:=(List.getElem?_eq_some_iff.1 g2).1
   simp only[Ty.off,zl]
   rw[List.getElem?_append_left hl]
   exact g2
  ·cases q with
   |nil=>simp [bump] at he
   |cons j q=>
    simp only[bump,Option.some.injEq] at he
    subst he
    obtain⟨e,t',xs,v,g0,g1,g2,g3⟩:=j5 (fun q=>match q with| []=>pl []|j::q=>pl ((j+1)::q)) (j::q) hq
    refine⟨e,t',xs,v,g0,g1,?_,g3⟩
    simp only[Ty.off,zl]
    rw[List.getElem?_append_right (by rw[ri];omega),ri,Nat.add_sub_cancel_left]
    exact g2
 |_=>intro p hp;simp [uc] at hp
theorem aG.ym{P:Program}(hr:Rel X s a){d:Nat}{T e:TypeId}(hd:o.dst=some d)(hb:s.bs[d+1]? =some none)
 (aR:(execOp a.eval o).run P X.w= .ok (.value (.pointer (some ⟨X.w.heap.size,0,none⟩))) (X.w.alloc (.cells #[.pointer none,.slice none 0 0] T))):
 aG P X s a o {v:=[.ptr (d+1) (.aI (.fe T e) .unit .unit) []],bx:=some (d+1,⟨.aI (.fe T e) .unit .unit,(⟨#[]⟩:ByteArray),[[]]⟩)}:=by
 let β:Nat->Option Nat:=fun id=>if id=d+1 then some X.w.heap.size else X.β id
 have aw:d+1<s.bs.length:=(List.getElem?_eq_some_iff.1 hb).1
 have hk:dO s X (X.new #[.pointer none,.slice none 0 0] T (.box (d+1)) β):=Hz X _ _ _ _ _ (by show(if _ then _ else _)=_;rw[if_neg (by omega)]) (fun id B hB=>by
  show(if id=d+1 then _ else _)=_
  rw[if_neg (fun e=>by rw[e,hb] at hB;cases hB)])
 obtain⟨n1,n2⟩:=Ht X #[.pointer none,.slice none 0 0] T (.box (d+1)) β
 have bp:bk (X.new #[.pointer none,.slice none 0 0] T (.box (d+1)) β) (d+1) X.w.heap.size ⟨.aI (.fe T e) .unit .unit,(⟨#[]⟩:ByteArray),[[]]⟩:=
  ⟨n2,⟨_,n1⟩,fun _=>⟨.slice none 0 0,⟨.inl n1,⟨rfl,.inl ⟨rfl,rfl⟩⟩,by simp [Value.ownBlock]⟩,fun g hg=>by simp [Value.ownBlock] at hg⟩⟩
 have hβd:β (d+1)=some X.w.heap.size:=by show(if d+1=d+1 then _ else _)=_;rw[if_pos rfl]
 have eG:=(hr.cS hk).ej aw hb hβd bp
 refine⟨X.new #[.pointer none,.slice none 0 0] T (.box (d+1)) β,.pointer (some ⟨X.w.heap.size,0,none⟩),.inl aR,hk.ext,?_⟩
 rw[hd]
 refine eG.put (fun d' e=> ?_) (fun id t' p hm=> ?_)
 ·cases e
  exact⟨X.w.heap.size,hβd,(HA rfl).2 ⟨by simp [Ty.off],by simp [Ty.dJ]⟩⟩
 ·have:id=d+1:=by have:=hm;simp at this;exact this.1
  subst this
  exact⟨_,by simp [State.az,List.getElem?_set,aw];rfl⟩
theorem aG.yn{P:Program}(hr:Rel X s a){d:Nat}{T:TypeId}{ta tb:Ty}(hd:o.dst=some d)(hb:s.bs[d+1]? =some none)
 (aR:(execOp a.eval o).run P X.w= .ok (.value (.pointer (some ⟨X.w.heap.size,0,none⟩))) (X.w.alloc (.cells (zl ta++ [Value.pointer none,Value.pointer none,Value.int .i64 0]).toArray T))):aG P X s a o {v:=[.ptr (d+1) (.aI .bE ta tb) []],bx:=some (d+1,⟨.aI .bE ta tb,(El.bH ta,(none,none),(0:Int)),[]::iY⟩)}:=by
 let β:Nat->Option Nat:=fun id=>if id=d+1 then some X.w.heap.size else X.β id
 have aw:d+1<s.bs.length:=(List.getElem?_eq_some_iff.1 hb).1
 have hk:dO s X (X.new (zl ta++ [Value.pointer none,Value.pointer none,Value.int .i64 0]).toArray T (.box (d+1)) β):=Hz X _ _ _ _ _ (by show(if _ then _ else _)=_;rw[if_neg (by omega)]) (fun id B hB=>by
  show(if id=d+1 then _ else _)=_
  rw[if_neg (fun e=>by rw[e,hb] at hB;cases hB)])
 obtain⟨n1,n2⟩:=Ht X (zl ta++ [Value.pointer none,Value.pointer none,Value.int .i64 0]).toArray T (.box (d+1)) β
 have bp:bk (X.new (zl ta++ [Value.pointer none,Value.pointer none,Value.int .i64 0]).toArray T (.box (d+1)) β) (d+1) X.w.heap.size ⟨.aI .bE ta tb,(El.bH ta,(none,none),(0:Int)),[]::iY⟩:=
  ⟨n2,⟨_,n1⟩,fun _=>⟨zl ta,.pointer none,.pointer none,T,n1,(oQ X ta).ag (fun _ _=>hk.ax),rfl,rfl⟩⟩
 have hβd:β (d+1)=some X.w.heap.size:=by show(if d+1=d+1 then _ else _)=_;rw[if_pos rfl]
 have eG:=(hr.cS hk).ej aw hb hβd bp
 refine⟨X.new _ T (.box (d+1)) β,.pointer (some ⟨X.w.heap.size,0,none⟩),.inl aR,hk.ext,?_⟩
 rw[hd]
 refine eG.put (fun d' e=> ?_) (fun id t' p hm=> ?_)
 ·cases e
  exact⟨X.w.heap.size,hβd,rfl,trivial⟩
 ·have:id=d+1:=by have:=hm;simp at this;exact this.1
  subst this
  exact⟨⟨.aI .bE ta tb,(El.bH ta,(none,none),(0:Int)),[]::iY⟩,by simp [State.az,List.getElem?_set,aw]⟩
theorem SR(hE:aj P E)(hr:Rel X s a){ops:List Oper}{T:TypeId}(ho:o.op= .alloc T){C:FuncId->bI Out}(h:act E C ops o s some=some u):aG P X s a o u:=by
 unfold act at h
 simp only[ho] at h
 split at h
 case h_3=>cases h
 case h_2=>
  rename_i d hT hd
  split at h
  ·rename_i ta tb x9
   split at h
   case h_2=>cases h
   rename_i hb
   cases h
   obtain⟨i,h1,h2⟩:=hE.gz T ta tb x9
   refine aG.yn hr hd hb (T:=T) ?_
   have hz:(zeroValue T).run P X.w= .ok (.agg (zl ta++ [Value.pointer none,Value.pointer none,Value.int .i64 0]).toArray) X.w:=by simp [zeroValue,typeInfo,h1,h2]
   simp only[execOp,ho,Sem.run_bind,Instr.alloc,hz,Result.andThen_ok,Hm,Sem.run_pure]
   rfl
  split at h
  case h_2=>cases h
  rename_i e IU
  split at h
  case h_2=>cases h
  rename_i hb
  cases h
  obtain⟨i,h1,h2⟩:=hE.bl T e IU
  refine aG.ym hr hd hb ?_
  have hz:(zeroValue T).run P X.w= .ok (.agg #[.pointer none,.slice none 0 0]) X.w:=by simp [zeroValue,typeInfo,h1,h2]
  simp only[execOp,ho,Sem.run_bind,Instr.alloc,hz,Result.andThen_ok,Hm,Sem.run_pure]
  rfl
 rename_i t d hT hd
 split at h
 case h_2=>cases h
 rename_i hb
 cases h
 have aK:=oQ X t
 refine aG.ej (T:=T) (cs:=zl t) (W:=X) (c:=[]) hr (hE.gj hT) hd hb rfl (Ext.refl X) hr aK (zxk X _ t) ?_
 simp only[execOp,ho,Sem.run_bind,Instr.alloc,JZ hE hT,Result.andThen_ok,Hm,rM aK,Sem.run_pure]
theorem Yv(hE:aj P E)(hr:Rel X s a){ops:List Oper}{T:TypeId}{x:Operand}(ho:o.op= .box T x){C:FuncId->bI Out}(h:act E C ops o s some=some u):aG P X s a o u:=by
 unfold act at h
 simp only[ho] at h
 split at h
 case h_2=>cases h
 rename_i t d hT hd
 split at h
 case h_2=>cases h
 rename_i hb
 obtain⟨y,h,hy⟩:=zwf hr h (.inl rfl)
 cases h
 obtain⟨W,cs,h1,h2,h3,h4,h5,h6,_,_,_⟩:=hy (.b (d+1))
 refine aG.ej (T:=T) (cs:=cs) (W:=W) hr (hE.gj hT) hd hb h1 h2 h3 h4 h6 ?_
 simp only[execOp,ho,Sem.run_bind,Instr.box,Hm,Result.andThen_ok,Sem.run_pure,h5,rM h4]
end Go.Ref

namespace Go.Ref
open Go
variable {P:Program} {E:Env} {X:ar} {s:State} {a:Act} {o:Oper} {u:Out}
theorem wD(hE:aj P E){T:TypeId}{t:Ty}(ht:E.ty T=some t){x:El t}{cs:List Value}(hr:aY X t x cs){ad:Addr}{w:World}(hc:∀(i:Nat) v,cs[i]? =some v->w.cell? (ad.add i)=some v):(loadVar T ad).run P w= .ok (dk t cs) w:=by
 have hl:=hr.len
 unfold loadVar
 simp only[Sem.run_bind,zxd hE ht,Result.andThen_ok]
 cases hg:t.agg with
 |true=>
  have:=run_loadCells_list (P:=P) w ad cs hc
  rw[hl] at this
  simp only[if_true,Sem.run_bind,zw hE ht,Result.andThen_ok,this,Sem.run_pure,hG hg]
 |false=>
  have h1:t.cells=1:=by cases t<;>simp_all [Ty.agg,Ty.cells]
  rw[h1] at hl
  match cs,hl with
  | [c],_=>
    rw[Ic hg]
    have:=hc 0 c rfl
    have h0:ad.add 0=ad:=by simp [Addr.add]
    rw[h0] at this
    simp only[Bool.false_eq_true,if_false,run_load,this]
theorem wE{own:List (List Nat)}{p:List Nat}(h:zx own p=true):p∈own:=by
 unfold zx at h
 obtain⟨q,hq,he⟩:=List.any_eq_true.1 h
 rw[<-eq_of_beq he]
 exact hq
theorem z8h{own:List (List Nat)}{p q:List Nat}(h:q∈ui own p):q∈own/\p.isPrefixOf q=false:=by
 unfold ui at h
 rw[List.mem_filter] at h
 exact⟨h.1,by simpa using h.2⟩
theorem Ie{t:Ty}(h:t.bn=false):t.dK=false:=by cases t<;>first|rfl|cases h
theorem Rel.l8(hr:Rel X s a){id:Nat}{B:bj}(hb:s.bs[id]? =some (some B))(hg:B.t.dK=false\/ []∈B.own):∀(i:Nat) (l:List SV) a b j,s.sl[i]? =some l->SV.bh id a b j∈l->False:=hr.bh.none fun c d x own h=>by
 rw[hb] at h
 cases h
 exact hg.resolve_left fun e=>by cases e
theorem Rel.kb{Y:ar}(hr:Rel Y s a){id r:Nat}{B B':bj}(hb:s.bs[id]? =some (some B))(hβ:Y.β id=some r)(h:bk Y id r B')(hg:B.t.dK=false\/ []∈B.own):Rel Y (s.az (some (id,B'))) a where
 size:=hr.size
 fh:=by simpa [State.az] using hr.fh
 bC:=hr.bC
 boxes:=fun aV B2 cE=>by
  have aw:id<s.bs.length:=(List.getElem?_eq_some_iff.1 hb).1
  simp only[State.az,List.getElem?_set] at cE
  by_cases e:id=aV
  ·subst e
   rw[if_pos rfl,if_pos aw] at cE
   cases cE;exact⟨r,hβ,h⟩
  ·rw[if_neg e] at cE
   exact hr.boxes aV B2 cE
 live:=fun i l aV t p hi hm=>by
  have aw:id<s.bs.length:=(List.getElem?_eq_some_iff.1 hb).1
  obtain⟨B2,cE⟩:=hr.live i l aV t p hi hm
  simp only[State.az,List.getElem?_set]
  by_cases e:id=aV
  ·subst e;exact⟨B',by rw[if_pos rfl,if_pos aw]⟩
  ·rw[if_neg e];exact⟨B2,cE⟩
 defers:=hr.defers
 bh:=hr.bh.az (hr.bh.none fun c d x own h=>by
  rw[hb] at h
  cases h
  exact hg.resolve_left fun e=>by cases e)
theorem Jy{id:Nat}{B B':bj}(hb:s.bs[id]? =some (some B)):(s.az (some (id,B'))).bs[id]? =some (some B'):=by
 have aw:id<s.bs.length:=(List.getElem?_eq_some_iff.1 hb).1
 simp [State.az,List.getElem?_set,aw]
theorem JV{r off i:Nat}{cs:Array Value}{T:TypeId}{w:World}(h:w.heap[r]? =some (.cells cs T (0,0))){k:Nat}{v:Value}(hv:((cs.toList.drop off).take k)[i]? =some v):w.cell? ((⟨r,off,none⟩:Addr).add i)=some v:=by
 rw[zy]
 rw[List.getElem?_take] at hv
 split at hv
 ·rw[List.getElem?_drop] at hv
  simpa [World.cell?,h] using hv
 ·cases hv
theorem dT:∀(t:Ty) (p:List Nat) (u:Ty),t.at_ p=some u->t.dJ p->t.off p+u.cells<=t.cells:=by
 intro t
 induction t with
 |arr n t ih=>
  intro p u h hp
  cases p with
  |nil=>simp only[Ty.at_,Option.some.injEq] at h;subst h;simp [Ty.off]
  |cons i p=>
   have:=ih p u h hp.2
   have hn:(i+1)*t.cells<=n*t.cells:=Nat.mul_le_mul_right _ hp.1
   rw[Nat.add_mul,Nat.one_mul] at hn
   simp only[Ty.off,Ty.cells]
   omega
 |pair x y EF EG=>
  intro p u h hp
  cases p with
  |nil=>simp only[Ty.at_,Option.some.injEq] at h;subst h;simp [Ty.off]
  |cons i p=>
   cases i with
   |zero=>have:=EF p u h hp;simp only[Ty.off,Ty.cells];omega
   |succ i=>have:=EG (i::p) u h hp;simp only[Ty.off,Ty.cells];omega
 |_=>
  intro p u h hp
  cases p with
  |nil=>simp only[Ty.at_,Option.some.injEq] at h;subst h;simp [Ty.off]
  |cons i p=>simp [Ty.at_] at h
theorem acz{t:Ty}{p:List Nat}{e:TypeId}{t':Ty}(h:t.dJ p)(bW:t.at_ p=some (.sl e t')):t.off p<t.cells:=by
 have:=dT t p _ bW h
 simp only[Ty.cells] at this
 omega
theorem S3:∀{t:Ty} {p q:List Nat} {x:El t} {u:Ty} {y:El u} {r:(u:Ty)×El u},El.get t p x=some ⟨u,y⟩->t.dJ (p++q)->El.get t (p++q) x=some r->u.dJ q/\El.get u q y=some r:=by
 intro t
 induction t with
 |arr n t ih=>
  intro p q x u y r h1 h2 h3
  cases p with
  |nil=>simp only[El.get,Option.some.injEq,Sigma.mk.injEq] at h1;obtain⟨rfl,h1⟩:=h1;cases h1;exact⟨h2,h3⟩
  |cons i p=>exact ih h1 h2.2 h3
 |pair ta tb j4 j5=>
  intro p q x u y r h1 h2 h3
  cases p with
  |nil=>simp only[El.get,Option.some.injEq,Sigma.mk.injEq] at h1;obtain⟨rfl,h1⟩:=h1;cases h1;exact⟨h2,h3⟩
  |cons i p=>
   cases i with
   |zero=>exact j4 h1 h2 h3
   |succ i=>exact j5 (p:=i::p) h1 h2 h3
 |_=>
  intro p q x u y r h1 h2 h3
  cases p with
  |nil=>simp only[El.get,Option.some.injEq,Sigma.mk.injEq] at h1;obtain⟨rfl,h1⟩:=h1;cases h1;exact⟨h2,h3⟩
  |cons i p=>simp [El.get] at h1
def ar.fm(X:ar)(id:Nat)(p:List Nat)(q:List Nat->Place):ar:=
 {X with ow:=fun g=>match X.ow g with
  | .row (.b aV p') n=>if aV=id/\p.isPrefixOf p'=true then .row (q (p'.drop p.length)) n else .row (.b aV p') n
  |w=>w}
theorem zpl{s:State}{X:ar}{id:Nat}{p:List Nat}{q:List Nat->Place}(h:∀p',¬cF s (.b id (p++p'))):dt s X (X.fm id p q):=by
 refine⟨rfl,rfl,fun g=> ?_⟩
 simp only[ar.fm]
 cases hg:X.ow g with
 |row pl n=>
  cases pl with
  |b aV p'=>
   by_cases e:aV=id/\p.isPrefixOf p'=true
   ·obtain⟨rfl,hp⟩:=e
    obtain⟨r,rfl⟩:=List.isPrefixOf_iff_prefix.1 hp
    exact .inr ⟨_,n,q r,rfl,h r,by simp⟩
   ·exact .inl (if_neg e)
  |_=>exact .inl rfl
 |_=>exact .inl rfl
theorem bf.nu{X:ar}{id:Nat}{p r:List Nat}{q:List Nat->Place}{e:TypeId}{k n:Nat}{v:Value}(h:bf X (.b id (p++r)) e k n v):bf (X.fm id p q) (q r) e k n v:=by
 rcases h with h|⟨g,cap,cur,h1,h2,h3,h4,h5,h6⟩
 ·exact .inl h
 ·exact .inr ⟨g,cap,cur,h1,h2,h3,h4,h5,by simp [ar.fm,h6]⟩
theorem Aq(hr:Rel X s a){id:Nat}{t b:Ty}{B:bj}(hB:s.box id=some B)(h:B.t.bV (.aI .row t b)=true):s.bs[id]? =some (some B)/\∃r,X.β id=some r/\X.ow r= .box id/\∃cs T,X.w.heap[r]? =some (.cells cs T (0,0))/\cs.size=List.length (Ty.cast h B.x:List (El t))*t.cells/\
 ∀(j:Nat) (x:El t),(Ty.cast h B.x:List (El t))[j]? =some x->aY X t x ((cs.toList.drop (j*t.cells)).take t.cells):=by
 have hb:=nw hB
 obtain⟨r,h1,h2,h3⟩:=hr.boxes id B hb
 refine⟨hb,r,h1,h2,?_⟩
 obtain⟨bt,bx,bo⟩:=B
 have e:=Ty.aH h
 simp only at e
 subst e
 obtain⟨cs,T,g1,g2,g3⟩:=h3
 exact⟨cs,T,g1,g2,g3⟩
theorem SU(hE:aj P E)(hr:Rel X s a){S T:TypeId}{x:Operand}(ho:o.op= .convert S T x){id n:Nat}{ta tb:Ty}(cX:s.aF x= .ptr id (.aI (.gW n) ta tb) [])(h:io E S T s id n ta tb some=some u):aG P X s a o u:=by
 have hx:=hr.aF x
 rw[cX] at hx
 obtain⟨r0,hβ,cap,hv,kO⟩:=hx
 unfold io at h
 split at h
 case h_2=>cases h
 rename_i e hS hT
 split at h
 case isFalse=>cases h
 rename_i heq
 have:=Ty.aH heq
 subst this
 split at h
 case h_2=>cases h
 rename_i B hB
 split at h
 case isFalse=>cases h
 rename_i de
 obtain⟨hb,r,h1,h2,cs,T',aC,fa,eI⟩:=Aq hr hB de
 rw[hβ] at h1
 cases h1
 generalize(Ty.cast de B.x:List Int)=xs at*
 cases hn:Nat.beq n (List.length xs) with
 |false=>rw[hn] at h;cases h
 |true=>
  rw[hn] at h
  cases h
  have hn:=Nat.eq_of_beq_eq_true hn
  subst hn
  have hu:=(hE.ty S _ hS).cQ
  have he:=(hE.ty e _ hu.2).cQ
  have hT:=(hE.ty T _ hT).cQ
  refine aG.plain hr (v:= .string (strOf xs)) ?_ wH (fun _ _ _ e'=>by cases e')
  have key:(convert S T (.slice (some ⟨r0,0,none⟩) (List.length xs) cap)).run P X.w= .ok (.string (strOf xs)) X.w:=by
   rw[run_convert_bytes_string X.w S T e _ _ cap hu.1 he hT]
   have iu:(loadCells ⟨r0,0,none⟩ (List.length xs)).run P X.w= .ok (List.map (Value.int .u8) xs).toArray X.w:=by
    have:=run_loadCells_list (P:=P) X.w ⟨r0,0,none⟩ (List.map (Value.int .u8) xs) (fun j v hj=>by
     obtain⟨y,hy,rfl⟩:=List.getElem?_map .. ▸hj|>Option.map_eq_some_iff.1
     have hc:(cs.toList.drop (j*1)).take 1=[.int .u8 y]:=eI j y hy
     have h0:=congrArg (fun l=>l[0]?) hc
     simp only[List.getElem?_take,List.getElem?_drop] at h0
     simp only[Nat.zero_lt_one,if_true,Nat.mul_one,Nat.add_zero,List.getElem?_cons_zero] at h0
     rw[zy,Nat.zero_add]
     simpa [World.cell?,aC] using h0)
    rw[List.length_map] at this
    exact this
   rw[run_bytesToString X.w _ _ cap xs iu,foldl_push_bytes]
   simp [strOf,ByteArray.empty,ByteArray.emptyWithCapacity]
   rfl
  simp only[execOp,ho,Sem.run_bind,hv,key,Result.andThen_ok,Sem.run_pure]
theorem VC(hE:aj P E)(hr:Rel X s a){ops:List Oper}{S T:TypeId}{x:Operand}(ho:o.op= .convert S T x){C:FuncId->bI Out}(h:act E C ops o s some=some u):aG P X s a o u:=by
 unfold act at h
 simp only[ho] at h
 split at h
 ·rename_i id n ta tb cX
  exact SU hE hr ho cX h
 ·exact z156 hE hr ho h
theorem An(hr:Rel X s a){id:Nat}{ta tb:Ty}{R:Type}{K:El (.aI .bE ta tb)->List (List Nat)->Option R}{z:R}(h:lC s id ta tb K=some z):
 ∃(x:El (.aI .bE ta tb)) (own:List (List Nat)) (r:Nat),s.bs[id]? =some (some ⟨.aI .bE ta tb,x,own⟩)/\K x own=some z/\(∀p∈iY,p∈own)/\X.β id=some r/\X.ow r= .box id/\fJ X r (.b id) ta tb x:=by
 unfold lC at h
 split at h
 case h_2=>cases h
 rename_i B hB
 split at h
 case isFalse=>cases h
 rename_i de
 have hb:=nw hB
 obtain⟨bt,bx,bo⟩:=B
 have e:=Ty.aH de
 simp only at e
 subst e
 cases ho:iY.all (zx bo) with
 |false=>simp only[ho] at h;cases h
 |true=>
  simp only[ho,cond_true] at h
  have bG:∀p∈iY,p∈bo:=fun p hp=>by
   have:=List.all_eq_true.1 ho p hp
   unfold zx at this
   obtain⟨q,h1,h2⟩:=List.any_eq_true.1 this
   have:q=p:=by simpa using h2
   rw[<-this];exact h1
  obtain⟨r,h1,h2,h3⟩:=hr.boxes id _ hb
  exact⟨bx,bo,r,hb,h,bG,h1,h2,h3.2 bG⟩
theorem zla{w:World}{r k:Nat}{l:List Value}{T:TypeId}{v:Value}(h:w.heap[r]? =some (.cells l.toArray T (0,0)))(hv:l[k]? =some v):w.cell? ⟨r,k,none⟩=some v:=by
 simp only[World.cell?,h]
 simpa using hv
theorem Rel.yy(hr:Rel X s a){d:Option Nat}{id j:Nat}{ta tb:Ty}{x:El (.aI .bE ta tb)}{own:List (List Nat)}{v:Value}(hb:s.bs[id]? =some (some ⟨.aI .bE ta tb,x,own⟩))(ho: []∉own)
 (lX:∀(i:Nat) (l:List SV) a b j,s.sl[i]? =some l->SV.bh id a b j∈l->False) (hv:∀pl,ay X pl (.bh id ta tb j) v):Rel X (s.ap d [.bh id ta tb j]) (a.put d v):=by
 cases d with
 |none=>exact hr
 |some d=>
  have dz:∀(i:Nat) (l:List SV),(s.ap (some d) [.bh id ta tb j]).sl[i]? =some l->(i=d/\l=[.bh id ta tb j])\/(i≠d/\s.sl[i]? =some l):=fun i l hi=>by
   simp only[State.ap,List.getElem?_set] at hi
   by_cases e:d=i
   ·rw[if_pos e] at hi
    split at hi
    ·cases hi;exact .inl ⟨e.symm,rfl⟩
    ·cases hi
   ·rw[if_neg e] at hi
    exact .inr ⟨fun h=>e h.symm,hi⟩
  refine⟨by simpa [State.ap,Act.put] using hr.size,by simpa [State.ap] using hr.fh,fun i l v' hi gX=> ?_,hr.boxes,fun i l aV t p hi hm=> ?_,hr.defers,fun i l aV a' b' j' hi hm=> ?_⟩
  ·simp only[Act.put,Array.getElem?_setIfInBounds] at gX
   rcases dz i l hi with⟨rfl,rfl⟩|⟨bB,hi⟩
   ·rw[if_pos rfl] at gX
    split at gX
    ·cases gX;exact hv (.c i 0)
    ·cases gX
   ·rw[if_neg (fun e=>bB e.symm)] at gX
    exact hr.bC i l v' hi gX
  ·rcases dz i l hi with⟨rfl,rfl⟩|⟨_,hi⟩
   ·simp at hm
   ·exact hr.live i l aV t p hi hm
  ·rcases dz i l hi with⟨rfl,rfl⟩|⟨bB,yd⟩
   ·simp only[List.mem_singleton,SV.bh.injEq] at hm
    obtain⟨rfl,rfl,rfl,rfl⟩:=hm
    refine⟨rfl,⟨x,own,hb,ho⟩,fun i' l' a' b' j' tv oK=> ?_⟩
    rcases dz i' l' tv with⟨e1,_⟩|⟨_,Ps⟩
    ·exact e1
    ·exact(lX i' l' a' b' j' Ps oK).elim
   ·obtain⟨g1,g2,g3⟩:=hr.bh i l aV a' b' j' yd hm
    refine⟨g1,g2,fun i' l' a'' b'' j'' tv oK=> ?_⟩
    rcases dz i' l' tv with⟨_,e2⟩|⟨_,Ps⟩
    ·rw[e2] at oK
     simp only[List.mem_singleton,SV.bh.injEq] at oK
     obtain⟨e3,_,_,_⟩:=oK
     rw[e3] at hm
     exact(lX i l a' b' j' yd hm).elim
    ·exact g3 i' l' a'' b'' j'' Ps oK
theorem SX(hE:aj P E)(hr:Rel X s a){T:TypeId}{x:Operand}(ho:o.op= .load T x)(h:iE E T s (s.aF x) some=some u):aG P X s a o u:=by
 have hx:=hr.aF x
 unfold iE at h
 split at h
 case h_2=>cases h
 rename_i id ta tb j cX
 rw[cX] at hx
 obtain⟨r0,hβ,hv,hj⟩:=hx
 have hv:a.eval x= .pointer (some ⟨r0,ta.cells+j,none⟩):=hv
 have hj:j<2:=hj
 split at h
 case isFalse=>cases h
 rename_i nn
 obtain⟨e,hu⟩:=hE.pt T nn
 obtain⟨x0,own,r,hb,h,bG,h1,how,c,p0,p1,T',aC,aK,oL,oM⟩:=An hr h
 rw[hβ] at h1
 cases h1
 cases fx:zx own [] with
 |false=>rw[fx] at h;cases h
 |true=>
 rw[fx,cond_true] at h
 cases h
 have fx:=wE fx
 obtain⟨v,df⟩:∃v,(c++ [p0,p1,Value.int .i64 x0.2.2])[ta.cells+j]? =some v:=by
  rw[List.getElem?_append_right (by rw[aK.len];omega),aK.len,Nat.add_sub_cancel_left]
  match j,hj with
  |0,_=>exact⟨_,rfl⟩
  |1,_=>exact⟨_,rfl⟩
 have hc:=zla aC df
 have aR:(execOp a.eval o).run P X.w= .ok (.value v) X.w:=by
  have hl:(loadVar T ⟨r0,ta.cells+j,none⟩).run P X.w= .ok v X.w:=by
   unfold loadVar
   have hag:(isAgg T).run P X.w= .ok false X.w:=by simp [isAgg,run_underlying hu]
   simp only[Sem.run_bind,hag,Result.andThen_ok,Bool.false_eq_true,if_false,run_load,hc]
  simp only[execOp,ho,Sem.run_bind,Instr.loadAt,hv,Instr.sureAddr,Sem.run_pure,Result.andThen_ok,hl]
 have hg:fJ X r0 (.b id) ta tb x0:=⟨c,p0,p1,T',aC,aK,oL,oM⟩
 have fP:=hr.bh.none (d:=id) fun a' b' x' gY h=>by rw[hb] at h;cases h;exact fx
 have dV:=hr.kb (B':=⟨.aI .bE ta tb,x0,own.filter fun q=> !q.isEmpty⟩) hb hβ ⟨how,⟨_,aC⟩,fun _=>hg⟩ (.inr fx)
 refine⟨X,v,.inl aR,Ext.refl X,dV.yy (Jy hb) (fun hm=> ?_) fP fun pl=>⟨r0,hβ,how,hc⟩⟩
 have:=(List.mem_filter.1 hm).2
 simp at this
theorem Sb(hE:aj P E)(hr:Rel X s a){T:TypeId}{u':Ty}{x:Operand}(ho:o.op= .load T x)(hT:E.ty T=some u'){id:Nat}{t:Ty}{p:List Nat}(cX:s.aF x= .ptr id t p)(h:Ao u' s id t p some=some u):aG P X s a o u:=by
 have hx:=hr.aF x
 rw[cX] at hx
 obtain⟨r0,hβ,hv⟩:=hx
 unfold Ao at h
 split at h
 case h_4=>cases h
 case h_2=>
  rename_i ta tb
  split at h
  case isFalse=>cases h
  rename_i heq
  have:=Ty.aH heq
  subst this
  obtain⟨x0,own,r,hb,h,_,h1,h2,c,p0,p1,T',aC,aK,_⟩:=An hr h
  rw[hβ] at h1
  cases h1
  cases h
  have hv:a.eval x= .pointer (some ⟨r0,0,none⟩):=by
   have:=hv.1
   rw[this];simp [kK,Ty.off]
  refine aG.plain hr ?_ (wM aK) (fun _ _ _ e'=>by cases e')
  have hl:=wD hE hT aK (ad:=⟨r0,0,none⟩) (w:=X.w) (fun j v hj=>by
   rw[zy,Nat.zero_add]
   refine zla aC ?_
   rw[List.getElem?_append_left ((List.getElem?_eq_some_iff.1 hj).1)];exact hj)
  simp only[execOp,ho,Sem.run_bind,Instr.loadAt,hv,Instr.sureAddr,Sem.run_pure,Result.andThen_ok,hl]
 case h_3=>
  rename_i ta tb
  split at h
  case isFalse=>cases h
  rename_i heq
  have:=Ty.aH heq
  subst this
  obtain⟨x0,own,r,hb,h,_,h1,h2,c,p0,p1,T',aC,aK,_⟩:=An hr h
  rw[hβ] at h1
  cases h1
  cases h
  have hv:a.eval x= .pointer (some ⟨r0,ta.cells+2,none⟩):=hv.1
  have hl:=wD (P:=P) hE hT (X:=X) (x:=x0.2.2) (cs:=[.int .i64 x0.2.2]) rfl (ad:=⟨r0,ta.cells+2,none⟩) (w:=X.w) (fun j v hj=>by
   cases j with
   |succ j=>simp at hj
   |zero=>
    rw[zy,Nat.add_zero]
    refine zla aC ?_
    rw[List.getElem?_append_right (by rw[aK.len];omega),aK.len,Nat.add_sub_cancel_left]
    exact hj)
  refine aG.plain hr (v:=dk (.int .i64) [.int .i64 x0.2.2]) ?_ zu (fun _ _ _ e'=>by cases e')
  simp only[execOp,ho,Sem.run_bind,Instr.loadAt,hv,Instr.sureAddr,Sem.run_pure,Result.andThen_ok,hl]
 rename_i ta tb i
 split at h
 case h_2=>cases h
 rename_i B hB
 split at h
 case isFalse=>cases h
 rename_i de
 split at h
 case isFalse=>cases h
 rename_i heq
 have:=Ty.aH heq
 subst this
 obtain⟨hb,r,h1,h2,cs,T',aC,fa,eI⟩:=Aq hr hB de
 rw[hβ] at h1
 cases h1
 generalize(Ty.cast de B.x:List (El u'))=xs at*
 cases hn:Nat.ble (i+1) (List.length xs) with
 |false=>rw[hn] at h;cases h
 |true=>
  rw[hn] at h
  cases h
  have aw:i<List.length xs:=Nat.le_of_ble_eq_true hn
  have aK:=eI i _ (getD_some (El.bH u') aw)
  have hv:a.eval x= .pointer (some ⟨r0,i*u'.cells,none⟩):=hv
  refine aG.plain hr ?_ (wM aK) (fun _ _ _ e'=>by cases e')
  have hl:=wD hE hT aK (ad:=⟨r0,i*u'.cells,none⟩) (w:=X.w) (fun j v hj=>JV aC hj)
  simp only[execOp,ho,Sem.run_bind,Instr.loadAt,hv,Instr.sureAddr,Sem.run_pure,Result.andThen_ok,hl]
theorem Sa(hE:aj P E)(hr:Rel X s a){T:TypeId}{u':Ty}{x:Operand}(ho:o.op= .load T x)(hT:E.ty T=some u'){id:Nat}{t:Ty}{p:List Nat}(cX:s.aF x= .ptr id t p){B:bj}(hB:s.box id=some B)(h:BN u' B t p some=some u):aG P X s a o u:=by
 have hx:=hr.aF x
 rw[cX] at hx
 obtain⟨r0,hβ,hv⟩:=hx
 unfold BN at h
 split at h
 case h_2=>cases h
 rename_i n e
 split at h
 case isFalse=>cases h
 rename_i de
 split at h
 case isFalse=>cases h
 rename_i heq
 have:=Ty.aH heq
 subst this
 obtain⟨hb,r,h1,h2,cs,T',aC,fa,eI⟩:=Aq hr hB de
 rw[hβ] at h1
 cases h1
 generalize(Ty.cast de B.x:List (El e))=xs at*
 cases hn:Nat.beq n (List.length xs) with
 |false=>rw[hn] at h;cases h
 |true=>
  rw[hn] at h
  cases h
  have hn:=Nat.eq_of_beq_eq_true hn
  have aK:aY X (.arr n e) xs cs.toList:=⟨hn.symm,by rw[hn];simpa using fa,eI⟩
  have hv:=((nv rfl).1 hv).1
  have hv:a.eval x= .pointer (some ⟨r0,0,none⟩):=by rw[hv];rfl
  refine aG.plain hr ?_ (wM aK) (fun _ _ _ e'=>by cases e')
  have hl:=wD hE hT aK (ad:=⟨r0,0,none⟩) (w:=X.w) (fun j v hj=>JV (off:=0) (k:=cs.toList.length) aC (by rw[List.drop_zero,List.take_length];exact hj))
  simp only[execOp,ho,Sem.run_bind,Instr.loadAt,hv,Instr.sureAddr,Sem.run_pure,Result.andThen_ok,hl]
theorem VF(hE:aj P E)(hr:Rel X s a){ops:List Oper}{T:TypeId}{x:Operand}(ho:o.op= .load T x){C:FuncId->bI Out}(h:act E C ops o s some=some u):aG P X s a o u:=by
 unfold act at h
 simp only[ho] at h
 have hx:=hr.aF x
 unfold load at h
 split at h
 case h_2=>exact SX hE hr ho h
 rename_i u' hT
 split at h
 ·rename_i t y e
  rw[e] at hx
  obtain⟨ad,cs,hv,kl,aK,dx⟩:=hx
  split at h
  case isFalse=>cases h
  rename_i heq
  have:=Ty.aH heq
  subst this
  cases h
  refine aG.plain hr ?_ (wM aK) (fun _ _ _ e'=>by cases e')
  have hl:=wD hE hT aK (ad:=ad) (w:=X.w) (fun i v hi=>(dx i v hi).2.1)
  simp only[execOp,ho,Sem.run_bind,Instr.loadAt,hv,Instr.sureAddr,Sem.run_pure,Result.andThen_ok,hl]
 ·rename_i id t p e
  rw[e] at hx
  obtain⟨r,hβ,hx⟩:=hx
  split at h
  ·exact Sb hE hr ho hT e h
  rename_i dw
  have dw:t.bn=false:=by simpa using dw
  obtain⟨hv,cP⟩:=(nv dw).1 hx
  split at h
  case h_2=>cases h
  rename_i B hB
  split at h
  case isFalse=>exact Sa hE hr ho hT e hB h
  rename_i heq
  have de:=Ty.aH heq
  split at h
  case h_2=>cases h
  rename_i ut y cc
  split at h
  case isFalse=>cases h
  rename_i x5
  have:=Ty.aH x5
  subst this
  have hb:=nw hB
  obtain⟨r',hβ',ql⟩:=hr.boxes id B hb
  rw[hβ] at hβ'
  cases hβ'
  subst de
  obtain⟨cs,T',aC,aK,how,bG⟩:=ql.cells dw
  obtain⟨k1,k2,k3⟩:=H9 aK cP cc
  have hl:=wD hE hT k3 (ad:=⟨r,B.t.off p,none⟩) (w:=X.w) (fun i v hi=>JV aC hi)
  have aR:(execOp a.eval o).run P X.w= .ok (.value (dk u' ((cs.toList.drop (B.t.off p)).take u'.cells))) X.w:=by
   simp only[execOp,ho,Sem.run_bind,Instr.loadAt,hv,Instr.sureAddr,Sem.run_pure,Result.andThen_ok,hl]
  cases hc:On ops o.dst||vW E ops o.dst||G4 ops o.dst with
  |false=>
   rw[hc] at h
   cases h
   exact aG.plain hr aR (wM k3) (fun _ _ _ e'=>by cases e')
  |true=>
   rw[hc] at h
   cases h
   have dV:Rel X (s.az (some (id,{B with own:=ui B.own p}))) a:=hr.kb hb hβ ⟨how,cT.of dw aC aK fun q hq=>bG q (z8h hq).1⟩ (.inl (Ie dw))
   have AW:∀q,¬cF (s.az (some (id,{B with own:=ui B.own p}))) (.b id (p++q)):=by
    rintro q ⟨B2,cE,hp⟩
    rw[Jy hb] at cE
    cases cE
    have:=(z8h hp).2
    rw[List.isPrefixOf_iff_prefix.2 (List.prefix_append p q)] at this
    cases this
   have kh:=zpl (X:=X) (q:= .c (o.dst.getD 0) 0) AW
   refine⟨X.fm id p (.c (o.dst.getD 0) 0),_,.inl aR,kh.ext,(dV.mod kh.mod).fin ⟨_,k3.ag (fun _ _=>kh.ax.1),rfl,?_⟩ (fun id t p hm=>by simp at hm)⟩
   intro q hq
   obtain⟨q0,hq0,rfl⟩:=List.mem_map.1 hq
   obtain⟨hq1,PN⟩:=List.mem_filter.1 hq0
   obtain⟨q,rfl⟩:=List.isPrefixOf_iff_prefix.1 PN
   rw[List.drop_left]
   obtain⟨e',t',xs,v,h0,h1,h2,h3⟩:=bG _ hq1
   obtain⟨j1,j2⟩:=S3 cc h0 h1
   have hle:=acz j1 (Is _ _ _ _ _ j2)
   refine⟨e',t',xs,v,j1,j2,?_,h3.nu⟩
   rw[Be _ _ _ _ k1] at h2
   rw[List.getElem?_take,if_pos hle,List.getElem?_drop]
   exact h2
 ·cases h
theorem zek{cs c:List Value}{off:Nat}(h:off+c.length<=cs.length)(j k:Nat):(∀h1:j+k<=off\/off+c.length<=j,((cs.take off++c++cs.drop (off+c.length)).drop j).take k=(cs.drop j).take k):=by
 intro h1
 apply List.ext_getElem?
 intro q
 simp only[List.getElem?_take,List.getElem?_drop]
 split
 ·rename_i hq
  rw[List.append_assoc]
  rcases h1 with h1|h1
  ·rw[List.getElem?_append_left (by rw[List.length_take];omega),List.getElem?_take,if_pos (by omega)]
  ·rw[List.getElem?_append_right (by rw[List.length_take];omega),List.length_take,Nat.min_eq_left (by omega),List.getElem?_append_right (by omega),List.getElem?_drop]
   congr 1
   omega
 ·rfl
theorem fb{X:ar}:∀{t:Ty} {p:List Nat} {x:El t} {cs:List Value} {u:Ty} {y:El u} {z:El t} {c:List Value},aY X t x cs->t.dJ p->t.at_ p=some u->El.set t p x u y=some z->aY X u y c->
 aY X t z (cs.take (t.off p)++c++cs.drop (t.off p+c.length)):=by
 intro t
 induction t with
 |arr n t ih=>
  intro p x cs u y z c hr hp bW h hc
  have eg:=hc.len
  cases p with
  |nil=>
   simp only[Ty.at_,Option.some.injEq] at bW
   subst bW
   simp only[El.set,Ty.bT,dite_true,Option.some.injEq] at h
   subst h
   have hl:=hr.len
   simp only[Ty.off,Nat.zero_add,List.take_zero,List.nil_append]
   rw[eg,<-hl,List.drop_length,List.append_nil]
   exact hc
  |cons i p=>
   obtain⟨hi,hp⟩:=hp
   obtain⟨h1,h2,h3⟩:=hr
   simp only[El.set] at h
   obtain⟨z',kX,rfl⟩:=Option.map_eq_some_iff.1 h
   have kM:t.at_ p=some u:=bW
   have hle:=dT t p u kM hp
   have hn:(i+1)*t.cells<=n*t.cells:=Nat.mul_le_mul_right _ hi
   rw[Nat.add_mul,Nat.one_mul] at hn
   have tv:=ih (h3 i _ (getD_some (El.bH t) (by omega))) hp kM kX hc
   have cM:i*t.cells+t.off p+c.length<=cs.length:=by rw[eg,h2];omega
   refine⟨by simpa using h1,?_,fun j w hj=> ?_⟩
   ·simp only[Ty.off,List.length_append,List.length_take,List.length_drop];omega
   ·simp only[Ty.off]
    by_cases e:j=i
    ·subst e
     rw[List.getElem?_set_self (by omega)] at hj
     cases hj
     have hL:((cs.take (j*t.cells+t.off p)++c++cs.drop (j*t.cells+t.off p+c.length)).drop (j*t.cells)).take t.cells=
      ((cs.drop (j*t.cells)).take t.cells).take (t.off p)++c++((cs.drop (j*t.cells)).take t.cells).drop (t.off p+c.length):=by
      apply List.ext_getElem?
      intro q
      rw[List.append_assoc,List.append_assoc]
      simp only[List.getElem?_take,List.getElem?_drop,List.getElem?_append,List.length_take,List.length_drop]
      rw[Nat.min_eq_left (show j*t.cells+t.off p<=cs.length by omega),Nat.min_eq_left (show t.cells<=cs.length-j*t.cells by omega),Nat.min_eq_left (show t.off p<=t.cells by omega)]
      by_cases q1:q<t.cells
      ·by_cases q2:q<t.off p
       ·rw[if_pos q1,if_pos (by omega),if_pos (by omega),if_pos q2,if_pos q2,if_pos q1]
       ·by_cases q3:q-t.off p<c.length
        ·rw[if_pos q1,if_neg (by omega),if_pos (by omega),if_neg q2,if_pos q3]
         congr 1
         omega
        ·rw[if_pos q1,if_neg (by omega),if_neg (by omega),if_neg q2,if_neg q3,if_pos (by omega)]
         congr 1
         omega
      ·rw[if_neg q1,if_neg (by omega),if_neg (by omega),if_neg (by omega)]
     rw[hL]
     exact tv
    ·rw[List.getElem?_set_ne (Ne.symm e)] at hj
     have qs:=(List.getElem?_eq_some_iff.1 hj).1
     rw[zek cM (j*t.cells) t.cells ?_]
     ·exact h3 j w hj
     ·rcases Nat.lt_or_gt_of_ne e with aw|hgt
      ·have:(j+1)*t.cells<=i*t.cells:=Nat.mul_le_mul_right _ aw
       rw[Nat.add_mul,Nat.one_mul] at this
       exact .inl (by omega)
      ·have:(i+1)*t.cells<=j*t.cells:=Nat.mul_le_mul_right _ hgt
       rw[Nat.add_mul,Nat.one_mul] at this
       exact .inr (by omega)
 |pair ta tb j4 j5=>
  intro p x cs u y z c hr hp bW h hc
  have eg:=hc.len
  cases p with
  |nil=>
   simp only[Ty.at_,Option.some.injEq] at bW
   subst bW
   simp only[El.set,Ty.bT,dite_true,Option.some.injEq] at h
   subst h
   have hl:=hr.len
   simp only[Ty.off,Nat.zero_add,List.take_zero,List.nil_append]
   rw[eg,<-hl,List.drop_length,List.append_nil]
   exact hc
  |cons i p=>
   obtain⟨c1,c2,rfl,r1,r2⟩:=hr
   have l1:=r1.len
   have l2:=r2.len
   cases i with
   |zero=>
    simp only[El.set] at h
    obtain⟨z',kX,rfl⟩:=Option.map_eq_some_iff.1 h
    have kM:ta.at_ p=some u:=bW
    have hle:=dT ta p u kM hp
    have:=j4 r1 hp kM kX hc
    refine⟨_,c2,?_,this,r2⟩
    simp only[Ty.off]
    rw[List.take_append_of_le_length (by omega),List.drop_append_of_le_length (by omega)]
    simp [List.append_assoc]
   |succ i=>
    simp only[El.set] at h
    obtain⟨z',kX,rfl⟩:=Option.map_eq_some_iff.1 h
    have kM:tb.at_ (i::p)=some u:=bW
    have hle:=dT tb (i::p) u kM hp
    have:=j5 r2 hp kM kX hc
    refine⟨c1,_,?_,r1,this⟩
    simp only[Ty.off]
    rw[<-l1,List.take_length_add_append,Nat.add_assoc,List.drop_length_add_append]
    simp [List.append_assoc]
 |_=>
  intro p x cs u y z c hr hp bW h hc
  have eg:=hc.len
  cases p with
  |nil=>
   simp only[Ty.at_,Option.some.injEq] at bW
   subst bW
   simp only[El.set,Ty.bT,dite_true,Option.some.injEq] at h
   first|subst h|skip
   have hl:=hr.len
   simp only[Ty.off,Nat.zero_add,List.take_zero,List.nil_append]
   rw[eg,<-hl,List.drop_length,List.append_nil]
   exact hc
  |cons i p=>simp [Ty.at_] at bW
end Go.Ref

namespace Go.Ref
open Go
variable {P:Program} {E:Env} {X:ar} {s:State} {a:Act} {o:Oper} {u:Out}
theorem zyc:∀{t:Ty} {p q:List Nat} {x:El t} {u:Ty} {y:El u} {z:El t} {e:TypeId} {t':Ty} {xs:El (.sl e t')},El.set t p x u y=some z->t.at_ p=some u->t.dJ p->t.dJ q->p.isPrefixOf q=false->El.get t q x=some ⟨.sl e t',xs⟩->
 El.get t q z=some ⟨.sl e t',xs⟩/\(t.off q+1<=t.off p\/t.off p+u.cells<=t.off q):=by
 intro t
 induction t with
 |arr n t ih=>
  intro p q x u y z e t' xs hs bW hp hq eS hg
  cases p with
  |nil=>simp at eS
  |cons i p=>
   cases q with
   |nil=>simp [El.get] at hg
   |cons j q=>
    simp only[El.set] at hs
    obtain⟨z',kX,rfl⟩:=Option.map_eq_some_iff.1 hs
    by_cases OZ:i=j
    ·subst OZ
     have kS:p.isPrefixOf q=false:=by simpa [List.isPrefixOf] using eS
     obtain⟨h1,h2⟩:=ih kX bW hp.2 hq.2 kS hg
     refine⟨?_,by simp only[Ty.off];omega⟩
     simp only[El.get]
     by_cases hl:i<List.length x
     ·rw[List.getD_eq_getElem?_getD,List.getElem?_set_self hl]
      exact h1
     ·have eh:List.set x i z'=x:=by rw[List.set_eq_of_length_le (Nat.le_of_not_lt hl)]
      rw[eh];exact hg
    ·refine⟨?_,?_⟩
     ·simp only[El.get] at hg⊢
      rw[List.getD_eq_getElem?_getD,List.getElem?_set_ne OZ,<-List.getD_eq_getElem?_getD]
      exact hg
     ·have a1:=dT t p u bW hp.2
      have a2:t.off q+1<=t.cells:=by
       have:=dT t q _ (Is t q _ _ _ hg) hq.2
       simpa [Ty.cells] using this
      simp only[Ty.off]
      rcases Nat.lt_or_gt_of_ne OZ with h|h
      ·have:(i+1)*t.cells<=j*t.cells:=Nat.mul_le_mul_right _ h
       rw[Nat.add_mul,Nat.one_mul] at this
       omega
      ·have:(j+1)*t.cells<=i*t.cells:=Nat.mul_le_mul_right _ h
       rw[Nat.add_mul,Nat.one_mul] at this
       omega
 |pair ta tb j4 j5=>
  intro p q x u y z e t' xs hs bW hp hq eS hg
  cases p with
  |nil=>simp at eS
  |cons i p=>
   cases q with
   |nil=>simp [El.get] at hg
   |cons j q=>
    cases i with
    |zero=>
     simp only[El.set] at hs
     obtain⟨z',kX,rfl⟩:=Option.map_eq_some_iff.1 hs
     cases j with
     |zero=>
      have kS:p.isPrefixOf q=false:=by simpa [List.isPrefixOf] using eS
      obtain⟨h1,h2⟩:=j4 kX bW hp hq kS hg
      exact⟨h1,by simp only[Ty.off];omega⟩
     |succ j=>
      have a1:=dT ta p u bW hp
      exact⟨hg,by simp only[Ty.off];omega⟩
    |succ i=>
     simp only[El.set] at hs
     obtain⟨z',kX,rfl⟩:=Option.map_eq_some_iff.1 hs
     cases j with
     |zero=>
      have a2:ta.off q+1<=ta.cells:=by
       have:=dT ta q _ (Is ta q _ _ _ hg) hq
       simpa [Ty.cells] using this
      exact⟨hg,by simp only[Ty.off];omega⟩
     |succ j=>
      have kS:(i::p).isPrefixOf (j::q)=false:=by
       simp [List.isPrefixOf] at eS⊢
       exact eS
      obtain⟨h1,h2⟩:=j5 kX bW hp hq kS hg
      exact⟨h1,by simp only[Ty.off];omega⟩
 |_=>
  intro p q x u y z e t' xs hs bW hp hq eS hg
  cases p with
  |nil=>simp at eS
  |cons i p=>simp [Ty.at_] at bW
def ar.row(X:ar)(r:Nat)(cs:Array Value):ar:={X with w:=X.w.setRow r cs}
theorem ko{r id:Nat}{cs:Array Value}(h:X.ow r= .box id){ad:Addr}{v:Value}(hs:X.ax ad v):(X.row r cs).ax ad v:=by
 have bB:ad.block≠r:=fun e=>by
  have:=hs.2.2
  rw[e,h] at this
  exact this
 refine⟨hs.1,?_,hs.2.2⟩
 have:=hs.2.1
 simp only[World.cell?,ar.row] at this⊢
 rw[setRow_other X.w r ad.block cs bB]
 exact this
theorem Ar{r id:Nat}{cs:Array Value}(h:X.ow r= .box id):Ext X (X.row r cs) where
 ax:=fun _ _=>ko h
 size:=by simp [ar.row]
 os:=rfl
 tape:=rfl
 output:=rfl
 β0:=rfl
 still:=fun g _ bL=>by
  have bB:g≠r:=fun e=>by rw[e,h] at bL;exact bL
  exact⟨rfl,setRow_other X.w r g cs bB⟩
theorem bf.row{r id:Nat}{cs:Array Value}(h:X.ow r= .box id){pl:Place}{e:TypeId}{k n:Nat}{v:Value}(ho:bf X pl e k n v):bf (X.row r cs) pl e k n v:=by
 rcases ho with ho|⟨g,cap,cur,h1,h2,h3,h4,h5,h6⟩
 ·exact .inl ho
 ·have bB:g≠r:=fun e=>by rw[e,h] at h6;cases h6
  exact .inr ⟨g,cap,cur,h1,(setRow_other X.w r g cs bB).trans h2,h3,h4,h5,h6⟩
theorem bc.row{r id:Nat}{cs:Array Value}(h:X.ow r= .box id){pl:List Nat->Place}{t:Ty}{x:El t}{c:List Value}{own:List (List Nat)}(ho:bc X pl t x c own):bc (X.row r cs) pl t x c own:=fun p hp=>by
 obtain⟨e,t',xs,v,g0,g1,g2,g3⟩:=ho p hp
 exact⟨e,t',xs,v,g0,g1,g2,g3.row h⟩
theorem ay.row{r id:Nat}{cs:Array Value}(h:X.ow r= .box id){pl:List Nat->Place}{sv:SV}{v:Value}(hk:∀aV a b j,sv= .bh aV a b j->aV≠id)(hr:ay X pl sv v):ay (X.row r cs) pl sv v:=by
 cases sv with
 |undef=>trivial
 |skip=>exact hr
 |cj=>exact hr
 |dF=>exact hr
 |over=>exact hr
 |ai t x own=>
  obtain⟨c,h1,h2,h3⟩:=hr
  exact⟨c,h1.ag (fun _ _=>ko h),h2,h3.row h⟩
 |ptr id t p=>exact hr
 |view t x=>
  obtain⟨ad,c,h1,h2,h3,h4⟩:=hr
  exact⟨ad,c,h1,h2,h3.ag (fun _ _=>ko h),fun i u hi=>ko h (h4 i u hi)⟩
 |cap f t x u y=>exact z21 (fun _ _=>ko h) hr
 |bh aV a b j=>
  obtain⟨r',h1,h2,h3⟩:=hr
  have bB:r'≠r:=fun e=>by rw[e,h] at h2;injection h2 with h2;exact hk aV a b j rfl h2.symm
  refine⟨r',h1,h2,?_⟩
  simp only[World.cell?] at h3⊢
  rw[show(X.row r cs).w.heap[r']? =X.w.heap[r']? from setRow_other X.w r r' cs bB];exact h3
theorem Rel.row{r id:Nat}{B B':bj}{cs:Array Value}(hr:Rel X s a)(hb:s.bs[id]? =some (some B))(hβ:X.β id=some r)(h:X.ow r= .box id)(hB:bk (X.row r cs) id r B')(hg:B.t.dK=false\/ []∈B.own):Rel (X.row r cs) (s.az (some (id,B'))) a where
 size:=hr.size
 fh:=by simpa [State.az] using hr.fh
 bC:=fun i l v hl hv=>(hr.bC i l v hl hv).gg fun j sv u hm hH=>hH.row h (fun aV a b k e e2=>hr.l8 hb hg i l a b k hl (e2▸e▸List.mem_of_getElem? hm))
 boxes:=fun aV B2 cE=>by
  have aw:id<s.bs.length:=(List.getElem?_eq_some_iff.1 hb).1
  simp only[State.az,List.getElem?_set] at cE
  by_cases e:id=aV
  ·subst e
   rw[if_pos rfl,if_pos aw] at cE
   cases cE;exact⟨r,hβ,hB⟩
  ·rw[if_neg e] at cE
   obtain⟨r',h1,h4,h2⟩:=hr.boxes aV B2 cE
   have bB:r'≠r:=fun e2=>by rw[e2,h] at h4;cases h4;exact e rfl
   exact⟨r',h1,h4,h2.move (fun _ _=>ko h) (setRow_other X.w r r' cs bB) (fun cs h5=>h5.row h) fun _ _ g o _ ho hw=>⟨(setRow_other X.w r g cs (fun e3=>by rw[e3,h] at hw;cases hw)).trans ho,hw⟩⟩
 live:=fun i l aV t p hi hm=>by
  have aw:id<s.bs.length:=(List.getElem?_eq_some_iff.1 hb).1
  obtain⟨B2,cE⟩:=hr.live i l aV t p hi hm
  simp only[State.az,List.getElem?_set]
  by_cases e:id=aV
  ·subst e;exact⟨B',by rw[if_pos rfl,if_pos aw]⟩
  ·rw[if_neg e];exact⟨B2,cE⟩
 defers:=hr.defers
 bh:=hr.bh.az (hr.l8 hb hg)
theorem A9(hE:aj P E){T:TypeId}{t:Ty}(ht:E.ty T=some t){x:El t}{cs:List Value}(hr:aY X t x cs){r off:Nat}{cur:Array Value}{T':TypeId}{w:World}(hg:w.heap[r]? =some (.cells cur T' (0,0)))(hf:off+t.cells<=cur.size):
 (storeVar T ⟨r,off,none⟩ (dk t cs)).run P w= .ok () (w.setRow r (cur.toList.take off++cs++cur.toList.drop (off+cs.length)).toArray):=by
 have hl:=hr.len
 have bL:=run_storeCells_at P r off T' cs 0 cur w hg (by omega) hr.one
 simp only[Nat.add_zero] at bL
 unfold storeVar
 simp only[Sem.run_bind,zw hE ht,Result.andThen_ok,rM hr]
 rw[if_neg (by simp [hl])]
 exact bL
theorem Sx:∀{t:Ty} {p q:List Nat} {x:El t} {u:Ty} {y:El u} {z:El t} {r:(u:Ty)×El u} {X:ar} {cs:List Value},aY X t x cs->El.set t p x u y=some z->t.at_ p=some u->t.dJ p->El.get u q y=some r->El.get t (p++q) z=some r:=by
 intro t
 induction t with
 |arr n t ih=>
  intro p q x u y z r X cs hr hs bW hp hg
  cases p with
  |nil=>
   simp only[Ty.at_,Option.some.injEq] at bW
   subst bW
   simp only[El.set,Ty.bT,dite_true,Option.some.injEq] at hs
   subst hs
   exact hg
  |cons i p=>
   simp only[El.set] at hs
   obtain⟨z',kX,rfl⟩:=Option.map_eq_some_iff.1 hs
   obtain⟨h1,h2,h3⟩:=hr
   have hi:i<List.length x:=by rw[h1];exact hp.1
   simp only[El.get,List.cons_append]
   rw[List.getD_eq_getElem?_getD,List.getElem?_set_self hi]
   exact ih (h3 i _ (getD_some _ hi)) kX bW hp.2 hg
 |pair ta tb j4 j5=>
  intro p q x u y z r X cs hr hs bW hp hg
  cases p with
  |nil=>
   simp only[Ty.at_,Option.some.injEq] at bW
   subst bW
   simp only[El.set,Ty.bT,dite_true,Option.some.injEq] at hs
   subst hs
   exact hg
  |cons i p=>
   obtain⟨c1,c2,_,r1,r2⟩:=hr
   cases i with
   |zero=>
    simp only[El.set] at hs
    obtain⟨z',kX,rfl⟩:=Option.map_eq_some_iff.1 hs
    exact j4 r1 kX bW hp hg
   |succ i=>
    simp only[El.set] at hs
    obtain⟨z',kX,rfl⟩:=Option.map_eq_some_iff.1 hs
    exact j5 (p:=i::p) r2 kX bW hp hg
 |_=>
  intro p q x u y z r X cs hr hs bW hp hg
  cases p with
  |nil=>
   simp only[Ty.at_,Option.some.injEq] at bW
   subst bW
   simp only[El.set,Ty.bT,dite_true,Option.some.injEq] at hs
   first|subst hs|skip
   exact hg
  |cons i p=>simp [Ty.at_] at bW
theorem GC{t u:Ty}{p:List Nat}{x z:El t}{y:El u}{cs cv:List Value}{own oy:List (List Nat)}{pl:List Nat->Place}(hr:aY X t x cs)(cP:t.dJ p)(bW:t.at_ p=some u)(eh:El.set t p x u y=some z)(rep:aY X u y cv)
 (ho:bc X pl t x cs own) (hy:bc X (fun q=>pl (p++q)) u y cv oy):bc X pl t z (cs.take (t.off p)++cv++cs.drop (t.off p+cv.length)) (oy.map (fun q=>p++q)++ui own p):=by
 have eg:=rep.len
 have hle:=dT t p u bW cP
 have eH:=hr.len
 intro q hq
 rcases List.mem_append.1 hq with hq|hq
 ·obtain⟨q,PN,rfl⟩:=List.mem_map.1 hq
  obtain⟨e,t',xs,v,g0,g1,g2,g3⟩:=hy q PN
  have aw:=(List.getElem?_eq_some_iff.1 g2).1
  refine⟨e,t',xs,v,Hl t p q u bW cP g0,Sx hr eh bW cP g1,?_,g3⟩
  rw[Be t p q u bW,List.append_assoc,List.getElem?_append_right (by rw[List.length_take];omega),List.length_take,Nat.min_eq_left (by omega),Nat.add_sub_cancel_left,List.getElem?_append_left aw]
  exact g2
 ·obtain⟨hqm,eS⟩:=z8h hq
  obtain⟨e,t',xs,v,g0,g1,g2,g3⟩:=ho q hqm
  obtain⟨k1,k2⟩:=zyc eh bW cP g0 eS g1
  refine⟨e,t',xs,v,g0,k1,?_,g3⟩
  have kl:=zek (cs:=cs) (c:=cv) (off:=t.off p) (by omega) (t.off q) 1 (by rw[eg];omega)
  have h0:=congrArg (fun l=>l[0]?) kl
  simp only[List.getElem?_take,List.getElem?_drop] at h0
  simp only[Nat.zero_lt_one,if_true,Nat.add_zero] at h0
  rw[h0];exact g2
theorem zyb(hE:aj P E)(hr:Rel X s a){T:TypeId}{u0:Ty}{x y:Operand}(ho:o.op= .store T x y)(hT:E.ty T=some u0){id:Nat}{t:Ty}{p:List Nat}(cX:s.aF x= .ptr id t p)(h:zX u0 s id t p (s.aF y) some=some u):aG P X s a o u:=by
 have hx:=hr.aF x
 rw[cX] at hx
 obtain⟨r0,hβ,hv⟩:=hx
 unfold zX at h
 split at h
 case h_4=>cases h
 case h_2=>
  rename_i ta tb q
  split at h
  case h_2=>cases h
  rename_i u' bW
  split at h
  case isFalse=>cases h
  rename_i heq
  have:=Ty.aH heq
  subst this
  obtain⟨x0,own,r,hb,h,bG,h1,how,c,p0,p1,T',aC,aK,oL,oM⟩:=An hr h
  rw[hβ] at h1
  cases h1
  obtain⟨yv,h,hy⟩:=zt h
  split at h
  case h_2=>cases h
  rename_i z hz
  cases fx:zx own [] with
  |false=>rw[fx] at h;cases h
  |true=>
  rw[fx,cond_true] at h
  cases h
  have fx:=wE fx
  obtain⟨cv,rep,ev⟩:=hy X _ _ (hr.aF y)
  have cP:ta.dJ q:=hv.2
  have hv:a.eval x= .pointer (some ⟨r0,ta.off q,none⟩):=hv.1
  have eg:=aK.len
  have hle:=dT ta q u' bW cP
  have hvl:=rep.len
  have bL:=A9 (P:=P) hE hT rep (off:=ta.off q) (w:=X.w) (r:=r0) (T':=T') aC (by simp;omega)
  have ew:(c++ [p0,p1,Value.int .i64 x0.2.2]).take (ta.off q)++cv++(c++ [p0,p1,Value.int .i64 x0.2.2]).drop (ta.off q+cv.length)=(c.take (ta.off q)++cv++c.drop (ta.off q+cv.length))++ [p0,p1,Value.int .i64 x0.2.2]:=by
   rw[List.take_append_of_le_length (by omega),List.drop_append_of_le_length (by omega)]
   simp only[List.append_assoc]
  have aR:(execOp a.eval o).run P X.w= .ok .skip ((X.row r0 ((c.take (ta.off q)++cv++c.drop (ta.off q+cv.length))++ [p0,p1,Value.int .i64 x0.2.2]).toArray).w):=by
   simp only[execOp,ho,Sem.run_bind,Instr.storeAt,hv,Instr.sureAddr,Sem.run_pure,Result.andThen_ok,ev,bL]
   have e2:(List.take (ta.off q) (c++ [p0,p1,Value.int .i64 x0.2.2]).toArray.toList++cv++List.drop (ta.off q+cv.length) (c++ [p0,p1,Value.int .i64 x0.2.2]).toArray.toList)=(c.take (ta.off q)++cv++c.drop (ta.off q+cv.length))++ [p0,p1,Value.int .i64 x0.2.2]:=ew
   rw[e2]
   rfl
  have bp:bk (X.row r0 ((c.take (ta.off q)++cv++c.drop (ta.off q+cv.length))++ [p0,p1,Value.int .i64 x0.2.2]).toArray) id r0 ⟨.aI .bE ta tb,(z,x0.2),own⟩:=by
   have hg:∀p∈iY,∀g o k,X.w.heap[g]? =some o->X.ow g= .row (.b id p) k->(X.row r0 ((c.take (ta.off q)++cv++c.drop (ta.off q+cv.length))++ [p0,p1,Value.int .i64 x0.2.2]).toArray).w.heap[g]? =some o/\(X.row r0 ((c.take (ta.off q)++cv++c.drop (ta.off q+cv.length))++ [p0,p1,Value.int .i64 x0.2.2]).toArray).ow g= .row (.b id p) k:=fun p _ g o k hg hw=>by
    have bB:g≠r0:=fun e=>by rw[e,how] at hw;cases hw
    exact⟨(setRow_other X.w r0 g _ bB).trans hg,hw⟩
   refine⟨how,⟨_,setRow_heap X.w r0 _ _ T' (0,0) aC⟩,fun _=>⟨c.take (ta.off q)++cv++c.drop (ta.off q+cv.length),p0,p1,T',setRow_heap X.w r0 _ _ T' (0,0) aC,(fb aK cP bW hz rep).ag (fun _ _=>ko how),oL.move (fun _ _=>ko how) fun p hp=> ?_,oM.move (fun _ _=>ko how) fun p hp=> ?_⟩⟩
   ·rcases hp with rfl|rfl<;>exact hg _ (by simp [iY])
   ·rcases hp with rfl|rfl<;>exact hg _ (by simp [iY])
  exact⟨X.row r0 _,Go.undef,.inr ⟨aR,rfl⟩,Ar how,(hr.row (cs:=_) hb hβ how bp (.inr fx)).skip o.dst⟩
 case h_3=>
  rename_i ta tb
  split at h
  case isFalse=>cases h
  rename_i heq
  have:=Ty.aH heq
  subst this
  obtain⟨x0,own,r,hb,h,bG,h1,how,c,p0,p1,T',aC,aK,oL,oM⟩:=An hr h
  rw[hβ] at h1
  cases h1
  obtain⟨n,h,hy⟩:=zt h
  cases fx:zx own [] with
  |false=>rw[fx] at h;cases h
  |true=>
  rw[fx,cond_true] at h
  cases h
  have fx:=wE fx
  obtain⟨cv,rep,ev⟩:=hy X _ _ (hr.aF y)
  have rep:cv=[.int .i64 n]:=rep
  subst rep
  have hv:a.eval x= .pointer (some ⟨r0,ta.cells+2,none⟩):=hv.1
  have eg:=aK.len
  have bL:=A9 (P:=P) hE hT (X:=X) (x:=n) (cs:=[.int .i64 n]) rfl (off:=ta.cells+2) (w:=X.w) (r:=r0) (T':=T') aC (by simp [Ty.cells];omega)
  have ew:(c++ [p0,p1,Value.int .i64 x0.2.2]).take (ta.cells+2)++ [Value.int .i64 n]++(c++ [p0,p1,Value.int .i64 x0.2.2]).drop (ta.cells+2+1)=c++ [p0,p1,Value.int .i64 n]:=by
   rw[<-eg,List.take_append,List.drop_append]
   simp [List.take_of_length_le,List.drop_eq_nil_of_le]
   omega
  have aR:(execOp a.eval o).run P X.w= .ok .skip ((X.row r0 (c++ [p0,p1,Value.int .i64 n]).toArray).w):=by
   simp only[execOp,ho,Sem.run_bind,Instr.storeAt,hv,Instr.sureAddr,Sem.run_pure,Result.andThen_ok,ev,bL]
   have e2:(List.take (ta.cells+2) (c++ [p0,p1,Value.int .i64 x0.2.2]).toArray.toList++ [Value.int .i64 n]++List.drop (ta.cells+2+ [Value.int .i64 n].length) (c++ [p0,p1,Value.int .i64 x0.2.2]).toArray.toList)=c++ [p0,p1,Value.int .i64 n]:=ew
   rw[e2]
   rfl
  have bp:bk (X.row r0 (c++ [p0,p1,Value.int .i64 n]).toArray) id r0 ⟨.aI .bE ta tb,(x0.1,x0.2.1,n),own⟩:=by
   have hm:fJ X r0 (.b id) ta tb x0:=⟨c,p0,p1,T',aC,aK,oL,oM⟩
   have hg:∀p∈iY,∀g o k,X.w.heap[g]? =some o->X.ow g= .row (.b id p) k->(X.row r0 (c++ [p0,p1,Value.int .i64 n]).toArray).w.heap[g]? =some o/\(X.row r0 (c++ [p0,p1,Value.int .i64 n]).toArray).ow g= .row (.b id p) k:=fun p _ g o k hg hw=>by
    have bB:g≠r0:=fun e=>by rw[e,how] at hw;cases hw
    exact⟨(setRow_other X.w r0 g _ bB).trans hg,hw⟩
   refine⟨how,⟨_,setRow_heap X.w r0 _ _ T' (0,0) aC⟩,fun _=>⟨c,p0,p1,T',setRow_heap X.w r0 _ _ T' (0,0) aC,aK.ag (fun _ _=>ko how),oL.move (fun _ _=>ko how) fun p hp=> ?_,oM.move (fun _ _=>ko how) fun p hp=> ?_⟩⟩
   ·rcases hp with rfl|rfl<;>exact hg _ (by simp [iY])
   ·rcases hp with rfl|rfl<;>exact hg _ (by simp [iY])
  exact⟨X.row r0 _,Go.undef,.inr ⟨aR,rfl⟩,Ar how,(hr.row (cs:=_) hb hβ how bp (.inr fx)).skip o.dst⟩
 rename_i ta tb i
 split at h
 case h_2=>cases h
 rename_i B hB
 split at h
 case isFalse=>cases h
 rename_i de
 split at h
 case isFalse=>cases h
 rename_i heq
 have:=Ty.aH heq
 subst this
 obtain⟨hb,r,h1,how,cs,T',aC,fa,eI⟩:=Aq hr hB de
 rw[hβ] at h1
 cases h1
 obtain⟨yv,h,hy⟩:=zt h
 obtain⟨cv,rep,ev⟩:=hy X _ _ (hr.aF y)
 generalize(Ty.cast de B.x:List (El ta))=xs at*
 cases hn:Nat.ble (i+1) (List.length xs) with
 |false=>rw[hn] at h;cases h
 |true=>
  rw[hn] at h
  cases h
  have aw:i<List.length xs:=Nat.le_of_ble_eq_true hn
  have hv:a.eval x= .pointer (some ⟨r0,i*ta.cells,none⟩):=hv
  have eg:=rep.len
  have hmul:(i+1)*ta.cells<=List.length xs*ta.cells:=Nat.mul_le_mul_right _ aw
  rw[Nat.add_mul,Nat.one_mul] at hmul
  have cM:i*ta.cells+ta.cells<=cs.size:=by omega
  have qp:i*ta.cells+cv.length<=cs.toList.length:=by simp;omega
  let new:=(cs.toList.take (i*ta.cells)++cv++cs.toList.drop (i*ta.cells+cv.length)).toArray
  have fy:new.toList=cs.toList.take (i*ta.cells)++cv++cs.toList.drop (i*ta.cells+cv.length):=rfl
  have aR:(execOp a.eval o).run P X.w= .ok .skip ((X.row r0 new).w):=by
   have bL:=A9 (P:=P) hE hT rep (off:=i*ta.cells) (w:=X.w) (r:=r0) (cur:=cs) (T':=T') aC cM
   simp only[execOp,ho,Sem.run_bind,Instr.storeAt,hv,Instr.sureAddr,Sem.run_pure,Result.andThen_ok,ev,bL]
   rfl
  have bN:new.size=cs.size:=by
   have:new.toList.length=cs.toList.length:=by rw[fy];simp;omega
   simpa using this
  have bp:bk (X.row r0 new) id r0 ⟨.aI .row ta tb,(List.set xs i yv:List (El ta)),[]⟩:=by
   refine⟨how,new,T',setRow_heap X.w r0 cs new T' (0,0) aC,?_,fun j z hj=> ?_⟩
   ·rw[bN,fa]
    show _=List.length (List.set xs i yv)*_
    rw[List.length_set]
   ·refine aY.ag (fun _ _=>ko (cs:=new) how) ?_
    have hj:(List.set xs i yv)[j]? =some z:=hj
    rw[fy]
    by_cases e:i=j
    ·subst e
     rw[List.getElem?_set_self aw] at hj
     cases hj
     have:((cs.toList.take (i*ta.cells)++cv++cs.toList.drop (i*ta.cells+cv.length)).drop (i*ta.cells)).take ta.cells=cv:=by
      rw[List.append_assoc,List.drop_append_of_le_length (by rw[List.length_take];omega),List.drop_eq_nil_of_le (by rw[List.length_take];omega),List.nil_append,<-eg,List.take_left]
     rw[this]
     exact rep
    ·rw[List.getElem?_set_ne e] at hj
     rw[zek (cs:=cs.toList) (c:=cv) (off:=i*ta.cells) qp (j*ta.cells) ta.cells ?_]
     ·exact eI j z hj
     ·rcases Nat.lt_or_gt_of_ne e with h|h
      ·have:(i+1)*ta.cells<=j*ta.cells:=Nat.mul_le_mul_right _ h
       rw[Nat.add_mul,Nat.one_mul] at this
       right;omega
      ·have:(j+1)*ta.cells<=i*ta.cells:=Nat.mul_le_mul_right _ h
       rw[Nat.add_mul,Nat.one_mul] at this
       left;omega
  exact⟨X.row r0 new,Go.undef,.inr ⟨aR,rfl⟩,Ar how,(hr.row (cs:=new) hb hβ how bp (.inl (by rw[Ty.aH de];rfl))).skip o.dst⟩
theorem SZ(hE:aj P E)(hr:Rel X s a){ops:List Oper}{T:TypeId}{x y:Operand}(ho:o.op= .store T x y){C:FuncId->bI Out}(h:act E C ops o s some=some u):aG P X s a o u:=by
 unfold act at h
 simp only[ho] at h
 have hx:=hr.aF x
 unfold store at h
 split at h
 case h_2=>cases h
 rename_i u0 hT
 split at h
 case h_2=>cases h
 rename_i id t p e
 rw[e] at hx
 obtain⟨r,hβ,hx⟩:=hx
 split at h
 ·exact zyb hE hr ho hT e h
 rename_i dw
 have dw:t.bn=false:=by simpa using dw
 obtain⟨hv,cP⟩:=(nv dw).1 hx
 split at h
 case h_2=>cases h
 rename_i B hB
 split at h
 case isFalse=>cases h
 rename_i heq
 have de:=Ty.aH heq
 subst de
 split at h
 case h_2=>cases h
 rename_i u' bW
 split at h
 case isFalse=>cases h
 rename_i x5
 have:=Ty.aH x5
 subst this
 have hb:=nw hB
 obtain⟨yv,h,hy⟩:=zwf hr h (.inl rfl)
 split at h
 case h_2=>cases h
 rename_i z eh
 cases h
 obtain⟨W,cv,hW,hX,I1,rep,ev,hO,hβ2,kh,_⟩:=hy (fun q=> .b id (p++q))
 obtain⟨r',hβW,ql⟩:=I1.boxes id B (by rw[ub];exact hb)
 obtain⟨cs,T2,aC,aK,how,bG⟩:=ql.cells dw
 have hrr:r'=r:=by
  rw[hβ2,hβ] at hβW
  exact(Option.some.inj hβW).symm
 subst hrr
 have cM:B.t.off p+u'.cells<=cs.size:=by
  have:=dT B.t p u' bW cP
  have hl:=aK.len
  simp at hl
  omega
 let new:=(cs.toList.take (B.t.off p)++cv++cs.toList.drop (B.t.off p+cv.length)).toArray
 have aR:(execOp a.eval o).run P X.w= .ok .skip ((W.row r' new).w):=by
  have bL:=A9 (P:=P) hE hT rep (off:=B.t.off p) (w:=X.w) (r:=r') (cur:=cs) (T':=T2) (by rw[<-hW];exact aC) cM
  simp only[execOp,ho,Sem.run_bind,Instr.storeAt,hv,Instr.sureAddr,Sem.run_pure,Result.andThen_ok,ev,bL]
  rw[<-hW];rfl
 have qB:=GC aK cP bW eh rep bG hO
 have bp:bk (W.row r' new) id r' {t:=B.t,x:=z,own:=(s.aF y).own.map (fun q=>p++q)++ui B.own p}:=by
  refine⟨how,cT.of dw (setRow_heap W.w r' cs new T2 (0,0) aC) ?_ ?_⟩
  ·have:=(fb aK cP bW eh rep).ag (fun _ _=>ko (cs:=new) how)
   simpa [new] using this
  ·have:=qB.row (cs:=new) how
   simpa [new] using this
 have eG:=I1.row (cs:=new) (by rw[ub];exact hb) hβW how bp (.inl (Ie dw))
 exact⟨W.row r' new,Go.undef,.inr ⟨aR,rfl⟩,hX.trans (Ar how),eG.skip o.dst⟩
end Go.Ref

namespace Go.Ref
open Go
variable {P:Program} {E:Env} {X:ar} {s:State} {a:Act} {o:Oper} {u:Out}
theorem z117(off:Nat):∀(l:List Value) (k:Nat) (cs:Array Value),off+k+l.length<=cs.size->
 ((l.zipIdx k).foldl (fun cs p=>cs.setIfInBounds (off+p.2) p.1) cs).toList=cs.toList.take (off+k)++l++cs.toList.drop (off+k+l.length)
 | [],k,cs,h=>by simp
 |v::r,k,cs,h=>by
  simp only[List.length_cons] at h
  simp only[List.zipIdx_cons,List.foldl_cons]
  rw[z117 off r (k+1) _ (by simp;omega)]
  simp only[Array.toList_setIfInBounds,List.length_cons]
  apply List.ext_getElem?
  intro q
  simp only[List.getElem?_append,List.getElem?_take,List.getElem?_drop,List.length_append,List.length_take,List.length_set,Array.length_toList,List.getElem?_set,List.length_cons,List.getElem?_cons]
  rw[Nat.min_eq_left (show off+(k+1)<=cs.size by omega),Nat.min_eq_left (show off+k<=cs.size by omega)]
  by_cases h1:q<off+k
  ·rw[if_pos (by omega),if_pos (by omega),if_pos (by omega),if_neg (by omega),if_pos (by omega),if_pos (by omega),if_pos (by omega)]
  ·by_cases h2:q=off+k
   ·subst h2
    rw[if_pos (by omega),if_pos (by omega),if_pos (by omega),if_pos rfl,if_pos (by omega),if_pos (by omega),if_neg (by omega),if_pos (by omega)]
   ·by_cases h3:q<off+(k+1)+r.length
    ·rw[if_pos (by omega),if_neg (by omega),if_pos (by omega),if_neg (by omega),if_neg (by omega)]
     try(congr 1<;>omega)
    ·rw[if_neg (by omega),if_neg (by omega),if_neg (by omega)]
     first|done|(congr 1;omega)
theorem zlc(off:Nat)(l:List Value)(cs:Array Value)(h:off+l.length<=cs.size):
 ((l.toArray.zipIdx).foldl (fun cs (p:Value×Nat)=>cs.setIfInBounds (off+p.2) p.1) cs).toList=cs.toList.take off++l++cs.toList.drop (off+l.length):=by
 have:=z117 off l 0 cs (by omega)
 rw[<-Array.foldl_toList,Array.toList_zipIdx]
 simpa using this
theorem Fk(hr:Rel X s a){t:Ty}{pl:Nat->Option (Nat×Nat)}(eJ:∀i ft,t.at_ [i]=some ft->t.iU i=true->t.dJ [i]/\pl i=some (t.off [i],ft.cells)){R:Type}{K:El t->List (List Nat)->Option R}{z:R}:
 ∀(parts:List (Nat×Operand)) (x:El t) (own:List (List Nat)) (cs:Array Value),aY X t x cs.toList->ou t x own (parts.map fun p=>(p.1,s.aF p.2,[])) K=some z->
  ∃y gY cells,K y gY=some z/\Instr.fill pl cs (parts.map fun p=>(p.1,a.eval p.2))=some cells/\aY X t y cells.toList
 | [],x,own,cs,rep,h=>⟨x,own,cs,h,rfl,rep⟩
 |(i,p)::r,x,own,cs,rep,h=>by
  simp only[List.map_cons,ou] at h
  split at h
  case isTrue=>cases h
  rename_i hb
  have hb:t.iU i=true:=by cases xV:t.iU i<;>simp_all
  split at h
  case h_2=>cases h
  rename_i ft bW
  obtain⟨y,h,hy⟩:=zt h
  split at h
  case h_2=>cases h
  rename_i x' eh
  obtain⟨c,rc,ec⟩:=hy X _ _ (hr.aF p)
  obtain⟨cP,hp⟩:=eJ i ft bW hb
  have eg:=rc.len
  have eH:=rep.len
  have hle:=dT t [i] ft bW cP
  have qF:=fb rep cP bW eh rc
  have cM:t.off [i]+c.length<=cs.size:=by rw[eg];simp at eH;omega
  have jq:=zlc (t.off [i]) c cs cM
  obtain⟨y2,iI,cells,h1,h2,h3⟩:=Fk hr eJ r x' _ _ (by rw[jq];exact qF) h
  refine⟨y2,iI,cells,h1,?_,h3⟩
  simp only[List.map_cons,Instr.fill,hp,ec,rM rc]
  rw[if_neg (by simp only[List.size_toArray,eg];simp;simp at eH;omega)]
  exact h2
theorem z85{t:Ty}{pl:Nat->Option (Nat×Nat)}(eJ:∀i ft,t.at_ [i]=some ft->t.iU i=true->t.dJ [i]/\pl i=some (t.off [i],ft.cells)){R:Type}{K:El t->List (List Nat)->Option R}{z:R}:
 ∀(parts:List (Nat×Operand)) (X:ar) (s:State) (x:El t) (own:List (List Nat)) (cs:Array Value),Rel X s a->aY X t x cs.toList->bc X (.r 0) t x cs.toList own->ou t x own (kp s parts).1 K=some z->
  ∃y gY cells Y,K y gY=some z/\Y.w=X.w/\Ext X Y/\Rel Y (s.close (kp s parts).2) a/\Instr.fill pl cs (parts.map fun p=>(p.1,a.eval p.2))=some cells/\aY Y t y cells.toList/\bc Y (.r 0) t y cells.toList gY
 | [],X,s,x,own,cs,hr,rep,ho,h=>⟨x,own,cs,X,h,rfl,Ext.refl X,hr,rfl,rep,ho⟩
 |(i,p)::r,X,s,x,own,cs,hr,rep,ho,h=>by
  simp only[kp,ou] at h
  split at h
  case isTrue=>cases h
  rename_i hb
  have hb:t.iU i=true:=by cases xV:t.iU i<;>simp_all
  split at h
  case h_2=>cases h
  rename_i ft bW
  have hc:uh (s.aF p).own p=src p\/((s.aF p).own=[]/\uh (s.aF p).own p=[]):=by
   cases bG:(s.aF p).own with
   |nil=>exact .inr ⟨rfl,rfl⟩
   |cons _ _=>exact .inl rfl
  obtain⟨y,h,hy⟩:=zwf hr h hc
  split at h
  case h_2=>cases h
  rename_i x' eh
  obtain⟨Y,c,hw,aT,bg,rc,ec,hO,hβ,hT,bL⟩:=hy (fun q=> .r 0 ([i]++q))
  obtain⟨cP,hp⟩:=eJ i ft bW hb
  have eg:=rc.len
  have eH:=rep.len
  have hle:=dT t [i] ft bW cP
  have EW:=rep.mono aT
  have hoY:=ho.stay bL (by simp)
  have qF:=fb EW cP bW eh rc
  have qB:=GC EW cP bW eh rc hoY hO
  have cM:t.off [i]+c.length<=cs.size:=by rw[eg];simp at eH;omega
  have jq:=zlc (t.off [i]) c cs cM
  obtain⟨y2,iI,cells,Z,h1,rH,bR,cJ,h2,h3,h4⟩:=z85 eJ r Y _ x' _ _ bg (by rw[jq];exact qF) (by rw[jq];exact qB) h
  refine⟨y2,iI,cells,Z,h1,rH.trans hw,aT.trans bR,?_,?_,h3,h4⟩
  ·simp only[kp,zdx]
   exact cJ
  ·simp only[List.map_cons,Instr.fill,hp,ec,rM rc]
   rw[if_neg (by simp only[List.size_toArray,eg];simp;simp at eH;omega)]
   exact h2
theorem zwa(hE:aj P E):∀(fl:List Field) (t:Ty) (off:Nat),gO E fl t off->∃places,fl.mapM (fun(f:Field)=>(P.info? f.type).map fun i=>(f.offset,i.size))=some places/\
 ∀(j:Nat) (f:Field) (ft:Ty),fl[j]? =some f->E.ty f.type=some ft->places[j]? =some (f.offset,ft.cells)
 | [],t,off,h=>⟨[],rfl,fun j f ft hj=>by simp at hj⟩
 |f::r,t,off,h=>by
  cases t<;>simp only[gO] at h<;>try exact h.elim
  rename_i ta tb
  obtain⟨h1,h2,h3,h4⟩:=h
  obtain⟨places,g1,g2⟩:=zwa hE r tb _ h4
  obtain⟨i,i1,i2,_⟩:=(hE.ty _ _ h2).info
  refine⟨(f.offset,i.size)::places,?_,fun j g gt hj hg=> ?_⟩
  ·simp [List.mapM_cons,i1,g1]
  ·cases j with
   |zero=>
    simp only[List.getElem?_cons_zero,Option.some.injEq] at hj
    subst hj
    rw[h2] at hg
    cases hg
    simp [i2]
   |succ j=>
    simp only[List.getElem?_cons_succ] at hj⊢
    exact g2 j g gt hj hg
theorem Vq(hE:aj P E)(hr:Rel X s a){T:TypeId}{t:Ty}(hT:E.ty T=some t)(n5:t.agg=true){R:Type}{K:El t->List (List Nat)->Option R}{z:R}(parts:Array (Nat×Operand))
 (h:ou t (El.bH t) (uc t) (kp s parts.toList).1 K=some z):
 ∃y own cs Y,K y own=some z/\Y.w=X.w/\Ext X Y/\Rel Y (s.close (kp s parts.toList).2) a/\aY Y t y cs/\bc Y (.r 0) t y cs own/\(Instr.build T (parts.map fun(i,x)=>(i,a.eval x))).run P X.w= .ok (dk t cs) X.w:=by
 have hf:=hE.ty T t hT
 obtain⟨i,i1,i2,i3,i4⟩:=hf.info
 have hz:=oQ X t
 have hn:=zxk X (.r 0) t
 have ED:(dk t (zl t)).cells=(zl t).toArray:=rM hz
 have iT:(parts.map fun(i,x)=>(i,a.eval x)).toList=parts.toList.map fun p=>(p.1,a.eval p.2):=by simp
 cases t with
 |arr n t=>
  obtain⟨e,hu,he,_⟩:=hf.cQ
  obtain⟨ie,j1,j2,_⟩:=(hE.ty e t he).info
  obtain⟨y,own,cells,Y,k1,hw,aT,bg,k2,k3,k4⟩:=z85 (pl:=fun i=>some (i*ie.size,ie.size)) (fun i ft bW hb=>by
   simp only[Ty.at_,Option.some.injEq] at bW
   subst bW
   have hb:i+1<=n:=by simpa [Ty.iU] using hb
   exact⟨⟨hb,by simp [Ty.dJ]⟩,by simp [Ty.off,j2]⟩) parts.toList X s (El.bH (.arr n t)) _ (zl (.arr n t)).toArray hr (by simpa using hz) (by simpa using hn) h
  refine⟨y,own,cells.toList,Y,k1,hw,aT,bg,k3,k4,?_⟩
  rw[hG rfl]
  refine run_build X.w T _ cells.toList.toArray ?_
  unfold Program.built
  simp only[i1,hu,i4,j1,ED,iT]
  simpa using k2
 |pair ta tb=>
  obtain⟨fs,hu,cM,_⟩:=hf.cQ
  obtain⟨places,p1,p2⟩:=zwa hE fs.toList _ 0 cM
  obtain⟨y,own,cells,Y,k1,hw,aT,bg,k2,k3,k4⟩:=z85 (pl:=(places.toArray[·]?)) (fun i ft bW hb=>by
   obtain⟨f,g1,g2,g3,g4⟩:=H8 fs.toList _ 0 i ft cM rfl bW
   refine⟨g4,?_⟩
   have:=p2 i f ft g1 g3
   simp only[List.getElem?_toArray,this,g2,Nat.zero_add]) parts.toList X s (El.bH (.pair ta tb)) _ (zl (.pair ta tb)).toArray hr (by simpa using hz) (by simpa using hn) h
  refine⟨y,own,cells.toList,Y,k1,hw,aT,bg,k3,k4,?_⟩
  rw[hG rfl]
  refine run_build X.w T _ cells.toList.toArray ?_
  unfold Program.built
  simp only[i1,hu,i4,p1,ED,iT]
  simpa using k2
 |unit=>
  obtain⟨fs,hu,cM,_⟩:=hf.cQ
  obtain⟨places,p1,p2⟩:=zwa hE fs.toList _ 0 cM
  obtain⟨y,own,cells,Y,k1,hw,aT,bg,k2,k3,k4⟩:=z85 (pl:=(places.toArray[·]?)) (fun i ft bW hb=>by simp [Ty.at_] at bW) parts.toList X s (El.bH .unit) _ (zl .unit).toArray hr (by simpa using hz) (by simpa using hn) h
  refine⟨y,own,cells.toList,Y,k1,hw,aT,bg,k3,k4,?_⟩
  rw[hG rfl]
  refine run_build X.w T _ cells.toList.toArray ?_
  unfold Program.built
  simp only[i1,hu,i4,p1,ED,iT]
  simpa using k2
 |aI k a b=>exact absurd (hE.gj hT) (by simp [Ty.bn])
 |_=>simp [Ty.agg] at n5
def ar.lp(X:ar)(j:Nat)(q:List Nat->Place):ar:=
 {X with ow:=fun g=>match X.ow g with
  | .row (.r j' p) n=>if j'=j then .row (q p) n else .row (.r j' p) n
  |w=>w}
theorem Tq{s:State}{X:ar}{j:Nat}{q:List Nat->Place}:dt s X (X.lp j q):=by
 refine⟨rfl,rfl,fun g=> ?_⟩
 simp only[ar.lp]
 cases hg:X.ow g with
 |row pl n=>
  cases pl with
  |r j' p=>
   by_cases e:j'=j
   ·subst e
    exact .inr ⟨_,n,q p,rfl,fun h=>h,by simp⟩
   ·exact .inl (if_neg e)
  |_=>exact .inl rfl
 |_=>exact .inl rfl
theorem bc.tV{X:ar}{j:Nat}{q:List Nat->Place}{t:Ty}{x:El t}{cs:List Value}{own:List (List Nat)}(h:bc X (.r j) t x cs own):bc (X.lp j q) q t x cs own:=fun p hp=>by
 obtain⟨e,t',xs,v,g0,g1,g2,g3⟩:=h p hp
 refine⟨e,t',xs,v,g0,g1,g2,?_⟩
 rcases g3 with h|⟨g,cap,cur,h1,h2,h3,h4,h5,h6⟩
 ·exact .inl h
 ·exact .inr ⟨g,cap,cur,h1,h2,h3,h4,h5,by simp [ar.lp,h6]⟩
theorem z152(hE:aj P E)(hr:Rel X s a){ops:List Oper}{T:TypeId}{parts:Array (Nat×Operand)}(ho:o.op= .build T parts){C:FuncId->bI Out}(h:act E C ops o s some=some u):aG P X s a o u:=by
 unfold act at h
 simp only[ho] at h
 split at h
 case h_2=>cases h
 rename_i t hT
 split at h
 case isTrue=>cases h
 rename_i n5
 have n5:t.agg=true:=by cases xV:t.agg<;>simp_all
 obtain⟨y,own,cs,Y,h,hw,aT,bg,rep,hO,aR⟩:=Vq hE hr hT n5 parts h
 cases h
 have kh:=Tq (s:=s.close (kp s parts.toList).2) (X:=Y) (j:=0) (q:= .c (o.dst.getD 0) 0)
 refine⟨Y.lp 0 (.c (o.dst.getD 0) 0),dk t cs,.inl ?_,aT.trans kh.ext,(bg.mod kh.mod).fin ⟨cs,rep.ag (fun _ _=>kh.ax.1),rfl,hO.tV⟩ (fun id t p hm=>by simp at hm)⟩
 rw[kh.w,hw]
 simp only[execOp,ho,Sem.run_bind,aR,Result.andThen_ok,Sem.run_pure]
end Go.Ref

namespace Go.Ref
open Go
variable {P:Program} {E:Env} {X:ar} {s:State} {a:Act} {o:Oper} {u:Out}
theorem Yk{t:Ty}{x:El t}{xs:List (El t)}{n:Nat}{c cs:List Value}(h1:aY X t x c)(h2:aY X (.arr n t) xs cs):aY X (.arr (n+1) t) (x::xs:List (El t)) (c++cs):=by
 obtain⟨k1,k2,k3⟩:=h2
 have hl:=h1.len
 refine⟨by simp;exact k1,by simp [k2,hl,Nat.add_mul];omega,fun j y hj=> ?_⟩
 cases j with
 |zero=>
  simp only[List.getElem?_cons_zero,Option.some.injEq] at hj
  subst hj
  rw[Nat.zero_mul,List.drop_zero,<-hl,List.take_left]
  exact h1
 |succ j=>
  simp only[List.getElem?_cons_succ] at hj
  have hd:(c++cs).drop ((j+1)*t.cells)=cs.drop (j*t.cells):=by
   rw[Nat.add_mul,Nat.one_mul,Nat.add_comm,<-List.drop_drop,<-hl,List.drop_left]
  rw[hd]
  exact k3 j y hj
theorem Bb{t:Ty}{xs ys:List (El t)}{n m:Nat}{c d:List Value}(h1:aY X (.arr n t) xs c)(h2:aY X (.arr m t) ys d):aY X (.arr (n+m) t) (xs++ys:List (El t)) (c++d):=by
 obtain⟨j1,j2,j3⟩:=h1
 obtain⟨k1,k2,k3⟩:=h2
 refine⟨by rw[List.length_append,j1,k1],by rw[List.length_append,j2,k2,Nat.add_mul],fun j y hj=> ?_⟩
 by_cases aw:j<n
 ·rw[List.getElem?_append_left (by rw[j1];exact aw)] at hj
  have hle:(j+1)*t.cells<=n*t.cells:=Nat.mul_le_mul_right _ aw
  rw[Nat.add_mul,Nat.one_mul] at hle
  rw[List.drop_append_of_le_length (by omega),List.take_append_of_le_length (by rw[List.length_drop];omega)]
  exact j3 j y hj
 ·rw[List.getElem?_append_right (by rw[j1];omega),j1] at hj
  have hd:(c++d).drop (j*t.cells)=d.drop ((j-n)*t.cells):=by
   have hm:j*t.cells=c.length+(j-n)*t.cells:=by
    rw[j2,<-Nat.add_mul]
    congr 1
    omega
   rw[hm,List.drop_length_add_append]
  rw[hd]
  exact k3 _ y hj
theorem zph{t:Ty}{ad:Addr}(hs:ad.spot=none):∀(xs:List (El t)) (p:Nat),(∀(j:Nat) x,xs[j]? =some x->∃dI,aY X t x dI/\∀(i:Nat) v,dI[i]? =some v->X.ax (ad.add (p+(j*t.cells+i))) v)->
 ∃cs,aY X (.arr xs.length t) xs cs/\∀(i:Nat) v,cs[i]? =some v->X.ax (ad.add (p+i)) v
 | [],p,h=>⟨[],⟨rfl,by simp,fun j x hj=>by simp at hj⟩,fun i v hi=>by simp at hi⟩
 |x::xs,p,h=>by
  obtain⟨c,r1,s1⟩:=h 0 x rfl
  obtain⟨cs,r2,s2⟩:=zph hs xs (p+t.cells) (fun j y hj=>by
   obtain⟨c',r',s'⟩:=h (j+1) y hj
   refine⟨c',r',fun i v hi=> ?_⟩
   have:=s' i v hi
   rw[show p+((j+1)*t.cells+i)=p+t.cells+(j*t.cells+i) by rw[Nat.add_mul];omega] at this
   exact this)
  have hl:=r1.len
  refine⟨c++cs,Yk r1 r2,fun i v hi=> ?_⟩
  rw[List.getElem?_append] at hi
  split at hi
  ·have:=s1 i v hi
   rwa [show p+(0*t.cells+i)=p+i by omega] at this
  ·have:=s2 _ v hi
   rwa [show p+t.cells+(i-c.length)=p+i by omega] at this
theorem z8j{e:TypeId}{t:Ty}{xs:List (El t)}{A:Option Addr}{n c:Nat}(h:aY X (.sl e t) xs [.slice A n c]):n=xs.length/\xs.length<=c/\
 ∃cs,aY X (.arr xs.length t) xs cs/\(A=none->xs=[])/\∀ad,A=some ad->∀(i:Nat) v,cs[i]? =some v->X.ax (ad.add i) v:=by
 obtain⟨A',c',h1,h2,h3⟩:=h
 simp only[List.cons.injEq,Value.slice.injEq,and_true] at h1
 obtain⟨rfl,rfl,rfl⟩:=h1
 refine⟨rfl,h2,?_⟩
 cases xs with
 |nil=>exact⟨[],⟨rfl,by simp,fun j x hj=>by simp at hj⟩,fun _=>rfl,fun ad _ i v hi=>by simp at hi⟩
 |cons x r=>
  obtain⟨ad,_,hA,hs,_⟩:=h3 0 x rfl
  subst hA
  obtain⟨cs,k1,k2⟩:=zph (X:=X) hs (x::r) 0 (fun j y hj=>by
   obtain⟨nk,c',e1,_,g1,g2⟩:=h3 j y hj
   cases e1
   exact⟨c',g1,fun i v hi=>by rw[Nat.zero_add];exact g2 i v hi⟩)
  refine⟨cs,k1,(fun e=>by cases e),fun nk e i v hi=> ?_⟩
  cases e
  have:=k2 i v hi
  rwa [Nat.zero_add] at this
theorem zel{e:TypeId}{t:Ty}{xs:List (El t)}{g cap:Nat}{pl:Place}{cur:Array Value}{cs:List Value}(hg:X.w.heap[g]? =some (.cells cur e (0,0)))(how:X.ow g= .row pl (xs.length*t.cells))
 (kW:cur.toList.take (xs.length*t.cells)=cs) (aK:aY X (.arr xs.length t) xs cs) (kO:xs.length<=cap):aY X (.sl e t) xs [.slice (some ⟨g,0,none⟩) xs.length cap]:=by
 refine⟨_,cap,rfl,kO,fun j x hj=>⟨_,_,rfl,rfl,aK.2.2 j x hj,fun i v hi=> ?_⟩⟩
 have qs:=(List.getElem?_eq_some_iff.1 hj).1
 have hle:(j+1)*t.cells<=xs.length*t.cells:=Nat.mul_le_mul_right _ qs
 rw[Nat.add_mul,Nat.one_mul] at hle
 rw[List.getElem?_take] at hi
 split at hi
 case isFalse=>cases hi
 rename_i IV
 rw[List.getElem?_drop,<-kW,List.getElem?_take,if_pos (by omega)] at hi
 refine⟨wG rfl _,?_,?_⟩
 ·rw[zy,Nat.zero_add]
  simp only[World.cell?,hg]
  simpa using hi
 ·rw[zy,Nat.zero_add]
  show Ow.used (X.ow g) _
  rw[how]
  show j*t.cells+i<_
  omega
end Go.Ref

namespace Go.Ref
open Go
variable {P:Program} {E:Env} {X:ar} {s:State} {a:Act} {o:Oper} {u:Out}
theorem zx3{R:Type}{t:Ty}{n:Nat}{K:List (El t)->Option R}:∀(parts:List (Nat×SV)) (xs:List (El t)) (own:List (List Nat)),xs.length=n->wO t xs parts K=ou (.arr n t) xs own (parts.map fun p=>(p.1,p.2,[])) (fun y _=>K y)
 | [],xs,own,h=>rfl
 |(i,v)::r,xs,own,h=>by
  subst h
  simp only[wO,List.map_cons,ou,Ty.iU,Ty.at_,El.set,Ty.bT,dite_true,Option.map_some]
  congr 1
  refine congrArg (v.el t) (funext fun y=> ?_)
  exact zx3 r (xs.set i y) _ (by simp)
theorem WB{t:Ty}(n:Nat)(hk:0<t.cells):((Array.range (n*t.cells)).map fun i=>(zl t).toArray[i % (zl t).toArray.size]!).toList=(List.replicate n (zl t)).flatten:=by
 have hz:=ri t
 apply List.ext_getElem?
 intro q
 have hlen:((List.replicate n (zl t)).flatten).length=n*t.cells:=by simp [hz]
 by_cases hq:q<n*t.cells
 ·have h1:q/t.cells<n:=(Nat.div_lt_iff_lt_mul hk).2 hq
  have h2:=z7o hz n (q/t.cells) h1
  have h3:=congrArg (fun l=>l[q % t.cells]?) h2
  simp only[List.getElem?_take,List.getElem?_drop,if_pos (Nat.mod_lt q hk)] at h3
  rw[Nat.mul_comm,Nat.div_add_mod] at h3
  rw[h3]
  have hm:q % t.cells<(zl t).length:=by rw[hz];exact Nat.mod_lt q hk
  rw[List.getElem?_eq_getElem hm]
  simp [hq,hz,hm]
  rw[List.getElem?_eq_getElem hm]
  rfl
 ·rw[List.getElem?_eq_none (by simp;omega),List.getElem?_eq_none (by omega)]
theorem Gy{X:ar}{pl:List Nat->Place}{e:TypeId}{t:Ty}{xs:List (El t)}{v:Value}(h:bf X (pl []) e t.cells xs.length v):bc X pl (.sl e t) xs [v] [[]]:=fun p hp=>by
 have hp:p=[]:=by simpa using hp
 subst hp
 exact⟨e,t,xs,v,by simp [Ty.dJ],rfl,rfl,h⟩
theorem zom(hE:aj P E)(hr:Rel X s a){ops:List Oper}{T:TypeId}{n:Nat}{parts:Array (Nat×Operand)}(ho:o.op= .buildSlice T n parts){C:FuncId->bI Out}(h:act E C ops o s some=some u):aG P X s a o u:=by
 unfold act at h
 simp only[ho] at h
 split at h
 case h_2=>cases h
 rename_i e t hT
 split at h
 case isTrue=>cases h
 rename_i vK
 have hk:0<t.cells:=by rcases Nat.eq_zero_or_pos t.cells with h0|h0<;>simp_all
 cases hb:Nat.ble (n*t.cells) 16777216 with
 |false=>rw[hb] at h;cases h
 |true=>
  rw[hb] at h
  simp only[cond_true] at h
  have qG:n*t.cells<=16777216:=Nat.le_of_ble_eq_true hb
  rw[zx3 (n:=n) _ _ [] (by simp),List.map_map] at h
  obtain⟨hu,he⟩:=(hE.ty T _ hT).cQ
  have fa:=zw (P:=P) hE he X.w
  have hzr:=JZ (P:=P) hE he X.w
  have P6:=oQ X (.arr n t)
  obtain⟨y,gY,cells,k1,k2,k3⟩:=Fk (pl:=fun i=>some (i*t.cells,t.cells)) hr (fun i ft bW hb=>by
   simp only[Ty.at_,Option.some.injEq] at bW
   subst bW
   have hb:i+1<=n:=by simpa [Ty.iU] using hb
   exact⟨⟨hb,by simp [Ty.dJ]⟩,by simp [Ty.off]⟩) parts.toList (El.bH (.arr n t)) [] (zl (.arr n t)).toArray (by simpa using P6) h
  cases k1
  have hy:List.length y=n:=k3.1
  have eH:cells.size=n*t.cells:=by have:=k3.2.1;simpa using this
  have hn:n<=n*t.cells:=Nat.le_mul_of_pos_right n hk
  let Y:=X.new cells e (.row (.c (o.dst.getD 0) 0 []) (n*t.cells)) X.β
  have tw:dO s X Y:=Hz X s cells e _ _ rfl (fun _ _ _=>rfl)
  obtain⟨n1,n2⟩:=Ht X cells e (.row (.c (o.dst.getD 0) 0 []) (n*t.cells)) X.β
  refine⟨Y,.slice (some ⟨X.w.heap.size,0,none⟩) n n,.inl ?_,tw.ext,?_⟩
  ·have hcz:(Array.map (fun x=>(dk t (zl t)).cells[x % (dk t (zl t)).cells.size]!) (Array.range (n*t.cells)))=(zl (.arr n t)).toArray:=by
    apply Array.ext'
    rw[rM (oQ X t),WB n hk]
    rfl
   have iT:(parts.map fun(i,x)=>(i,a.eval x)).toList=parts.toList.map fun p=>(p.1,a.eval p.2):=by simp
   by_cases hn0:n*t.cells=0
   ·have PA:n=0:=by
     rcases Nat.mul_eq_zero.1 hn0 with h0|h0
     ·exact h0
     ·omega
    subst PA
    have k2':Instr.fill (fun i=>some (i*t.cells,t.cells)) #[] (parts.toList.map fun p=>(p.1,a.eval p.2))=some cells:=k2
    have acT:(parts.map fun x=>(x.1,a.eval x.2)).toList=parts.toList.map fun p=>(p.1,a.eval p.2):=by simp
    simp [execOp,ho,Instr.buildSlice,run_underlying hu,fa,newRow,Y,ar.new]
    rw[show(Array.map (fun x=>default) (Array.range 0):Array Value)= #[] by simp,k2']
    simp
   ·have hc:=hcz
    simp [execOp,ho,Instr.buildSlice,run_underlying hu,fa,hzr,hn0,newRow,Y,ar.new,Nat.not_lt.2 qG]
    rw[hcz,k2]
    simp
  ·refine(hr.cS tw).fin ?_ (fun id t p hm=>by simp at hm)
   refine⟨[.slice (some ⟨X.w.heap.size,0,none⟩) n n],?_,rfl,Gy ?_⟩
   ·rw[<-hy]
    refine zel (pl:= .c (o.dst.getD 0) 0 []) (cur:=cells) (cs:=cells.toList) n1 (by rw[hy];exact n2) ?_ ?_ (Nat.le_refl _)
    ·rw[hy,List.take_of_length_le (by simp [eH])]
    ·rw[hy];exact k3.ag (fun _ _=>tw.ax)
   ·refine .inr ⟨X.w.heap.size,n,cells,by rw[hy],n1,by rw[hy];exact Nat.le_refl _,?_,eH,by rw[hy];exact n2⟩
    simp only[maxLen]
    omega
end Go.Ref

