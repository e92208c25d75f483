/- No condition. -/
import Derived.Orders
import Derived.Below
import Derived.Maps.AppendAt
import Derived.WalkKit
import Derived.Lib.AppendStr
import Derived.Shelf.Strings.BuilderF
set_option linter.unusedVariables false
set_option linter.unusedSimpArgs false
set_option maxRecDepth 100000
namespace Go.Ref
open Go
structure vK(T e:TypeId)(b:Nat)(v:Value)(bs:List Value)(w:World):Prop where
 nx:w.heap[b]? =some (.cells #[.pointer none,v] T (0,0))\/w.heap[b]? =some (.cells #[.pointer (some ⟨b,0,none⟩),v] T (0,0))
 own:w.ownsRow 0 e 1 v bs.length bs
 ne:v.ownBlock≠some b
theorem vK.lt{T e:TypeId}{b:Nat}{v:Value}{bs:List Value}{w:World}(h:vK T e b v bs w):b<w.heap.size:=by
 rcases Nat.lt_or_ge b w.heap.size with h'|h'
 ·exact h'
 ·rcases h.nx with h|h<;>simp [Array.getElem?_eq_none h'] at h
theorem vK.same{T e:TypeId}{b:Nat}{v:Value}{bs:List Value}{w w':World}(h:vK T e b v bs w)(hb:w'.heap[b]? =w.heap[b]?)(hg:∀g o,v.ownBlock=some g->w.heap[g]? =some o->w'.heap[g]? =some o):vK T e b v bs w':=by
 refine⟨by rw[hb];exact h.nx,⟨h.own.1,?_⟩,h.ne⟩
 rcases h.own.2 with hn|⟨g,cap,cur,hv,h0,CM,rest⟩
 ·exact .inl hn
 ·exact .inr ⟨g,cap,cur,hv,h0,hg g _ (by rw[hv];rfl) CM,rest⟩
inductive Z6 where
 |iter
 |mp
 |row
 |ju (n:Nat)
 |gY (T e:Nat)
 |own
 |sS (f:Nat)
 |bC
 deriving DecidableEq,Inhabited
@[reducible] def wV:Z6->Type->Type->Type
  | .iter,_,_=>ByteArray×Nat
  | .mp,a,b=>List (a×b)
  | .row,a,_=>List a
  | .ju _,_,_=>Unit
  | .gY _ _,_,_=>ByteArray
  | .own,a,_=>Option a
  | .sS _,_,_=>Unit
  | .bC,a,b=>a×(Option b×Option b)×Int
def wV.bU:(k:Z6)->(a b:Type)->a->wV k a b
 | .iter,_,_,_=>((⟨#[]⟩:ByteArray),(0:Nat))
 | .mp,_,_,_=>[]
 | .row,_,_,_=>[]
 | .ju _,_,_,_=>()
 | .gY _ _,_,_,_=>(⟨#[]⟩:ByteArray)
 | .own,_,_,_=>none
 | .sS _,_,_,_=>()
 | .bC,_,_,x=>(x,(none,none),(0:Int))
inductive Ty where
 |bool
 |int (k:IntKind)
 |str
 |sl (e:TypeId) (t:Ty)
 |arr (n:Nat) (t:Ty)
 |unit
 |pair (a b:Ty)
 |aF (k:Z6) (a b:Ty)
 deriving Inhabited
@[reducible] def El:Ty->Type
  | .bool=>Bool
  | .int _=>Int
  | .str=>ByteArray
  | .sl _ t=>List (El t)
  | .arr _ t=>List (El t)
  | .unit=>Unit
  | .pair a b=>El a×El b
  | .aF k a b=>wV k (El a) (El b)
def El.bU:(t:Ty)->El t
 | .bool=>false
 | .int _=>(0:Int)
 | .str=>(⟨#[]⟩:ByteArray)
 | .sl _ _=>[]
 | .arr n t=>List.replicate n (El.bU t)
 | .unit=>()
 | .pair a b=>(El.bU a,El.bU b)
 | .aF k a b=>wV.bU k (El a) (El b) (El.bU a)
def Ty.cq:Ty->Ty->Bool
 | .bool,.bool=>true
 | .str,.str=>true
 | .unit,.unit=>true
 | .int j,.int k=>decide (j=k)
 | .sl e t,.sl f u=>Nat.beq e f&&Ty.cq t u
 | .arr n t,.arr m u=>Nat.beq n m&&Ty.cq t u
 | .pair a b,.pair c d=>Ty.cq a c&&Ty.cq b d
 | .aF k a b,.aF j c d=>decide (k=j)&&(Ty.cq a c&&Ty.cq b d)
 |_,_=>false
theorem Ty.aI:∀{t u:Ty},t.cq u=true->t=u:=by
 intro t
 induction t with
 |bool=>intro u h;cases u<;>simp_all [Ty.cq]
 |int k=>intro u h;cases u<;>simp_all [Ty.cq]
 |str=>intro u h;cases u<;>simp_all [Ty.cq]
 |unit=>intro u h;cases u<;>simp_all [Ty.cq]
 |sl e t ih=>
  intro u h
  cases u<;>simp [Ty.cq] at h
  obtain⟨h1,h2⟩:=h
  rw[ih h2,h1]
 |arr e t ih=>
  intro u h
  cases u<;>simp [Ty.cq] at h
  obtain⟨h1,h2⟩:=h
  rw[ih h2,h1]
 |pair a b mK mL=>
  intro u h
  cases u<;>simp [Ty.cq] at h
  rw[mK h.1,mL h.2]
 |aF k a b mK mL=>
  intro u h
  cases u<;>simp [Ty.cq] at h
  rw[h.1,mK h.2.1,mL h.2.2]
theorem Ty.cm:∀t:Ty,t.cq t=true
 | .bool=>rfl
 | .str=>rfl
 | .unit=>rfl
 | .int k=>by simp [Ty.cq]
 | .sl e t=>by simp [Ty.cq,Ty.cm t]
 | .arr e t=>by simp [Ty.cq,Ty.cm t]
 | .pair a b=>by simp [Ty.cq,Ty.cm a,Ty.cm b]
 | .aF k a b=>by simp [Ty.cq,Ty.cm a,Ty.cm b]
def Ty.cast{t u:Ty}(h:t.cq u=true)(x:El t):El u:=Ty.aI h▸x
def Ty.cells:Ty->Nat
 | .arr n t=>n*t.cells
 | .unit=>0
 | .pair a b=>a.cells+b.cells
 | .aF _ _ _=>0
 |_=>1
def Ty.agg:Ty->Bool
 | .arr .. | .unit| .pair .. | .aF .. =>true
 |_=>false
def Ty.at_:Ty->List Nat->Option Ty
 |t,[]=>some t
 | .arr _ t,_::p=>t.at_ p
 | .pair a _,0::p=>a.at_ p
 | .pair _ b,(j+1)::p=>b.at_ (j::p)
 |_,_=>none
def Ty.off:Ty->List Nat->Nat
 |_,[]=>0
 | .arr _ t,i::p=>i*t.cells+t.off p
 | .pair a _,0::p=>a.off p
 | .pair a b,(j+1)::p=>a.cells+b.off (j::p)
 |_,_=>0
def El.get:(t:Ty)->List Nat->El t->Option ((u:Ty)×El u)
 |t,[],x=>some ⟨t,x⟩
 | .arr _ t,i::p,xs=>El.get t p (xs.getD i (El.bU t))
 | .pair a _,0::p,x=>El.get a p x.1
 | .pair _ b,(j+1)::p,x=>El.get b (j::p) x.2
 |_,_::_,_=>none
def El.set:(t:Ty)->List Nat->El t->(u:Ty)->El u->Option (El t)
 |t,[],_,u,y=>if h:u.cq t=true then some (Ty.cast h y) else none
 | .arr _ t,i::p,xs,u,y=>(El.set t p (xs.getD i (El.bU t)) u y).map fun z=>List.set xs i z
 | .pair a _,0::p,x,u,y=>(El.set a p x.1 u y).map fun z=>(z,x.2)
 | .pair _ b,(j+1)::p,x,u,y=>(El.set b (j::p) x.2 u y).map fun z=>(x.1,z)
 |_,_::_,_,_,_=>none
def Ty.fa:Ty->List Nat->Prop
 |_,[]=>True
 | .arr n t,i::p=>i<n/\t.fa p
 | .pair a _,0::p=>a.fa p
 | .pair _ b,(j+1)::p=>b.fa (j::p)
 |_,_=>False
inductive Place where
 |c (i j:Nat) (p:List Nat)
 |b (id:Nat) (p:List Nat)
 |r (j:Nat) (p:List Nat)
inductive Ow where
 |all
 |ro (n:Nat)
 |box (id:Nat)
 |row (pl:Place) (n:Nat)
def Ow.used:Ow->Nat->Prop
 | .all,_=>True
 | .ro n,o=>o<n
 | .box _,_=>False
 | .row _ n,o=>o<n
def Ow.still:Ow->Prop
 | .all| .ro _=>True
 |_=>False
structure ax where
 w:World
 ow:Nat->Ow
 β:Nat->Option Nat
def ax.ay(X:ax)(a:Addr)(v:Value):Prop:=a.spot=none/\X.w.cell? a=some v/\(X.ow a.block).used a.off
structure Ext(X Y:ax):Prop where
 ay:∀a v,X.ay a v->Y.ay a v
 size:X.w.heap.size<=Y.w.heap.size
 os:Y.w.os=X.w.os
 tape:Y.w.tape=X.w.tape
 output:Y.w.output=X.w.output
 β0:Y.β 0=X.β 0
 still:∀g,g<X.w.heap.size->(X.ow g).still->Y.ow g=X.ow g/\Y.w.heap[g]? =X.w.heap[g]?
theorem Ext.refl(X:ax):Ext X X:=⟨fun _ _ h=>h,Nat.le_refl _,rfl,rfl,rfl,rfl,fun _ _ _=>⟨rfl,rfl⟩⟩
theorem Ext.trans{X Y Z:ax}(h:Ext X Y)(k:Ext Y Z):Ext X Z:=
 ⟨fun a v hs=>k.ay a v (h.ay a v hs),Nat.le_trans h.size k.size,k.os.trans h.os,k.tape.trans h.tape,k.output.trans h.output,k.β0.trans h.β0,
  fun g hg bQ=>by
   obtain⟨h1,h2⟩:=h.still g hg bQ
   obtain⟨k1,k2⟩:=k.still g (Nat.lt_of_lt_of_le hg h.size) (by rw[h1];exact bQ)
   exact⟨k1.trans h1,k2.trans h2⟩⟩
theorem ax.jk{X:ax}{a:Addr}{v:Value}(h:X.ay a v):a.block<X.w.heap.size:=World.block_lt_of_cell? X.w a h.2.1
def bh(X:ax):(t:Ty)->El t->List Value->Prop
 | .bool,b,cs=>cs=[.bool b]
 | .int k,n,cs=>cs=[.int k n]
 | .str,s,cs=>cs=[.string s]
 | .sl _ t,xs,cs=>∃A c,cs=[.slice A xs.length c]/\xs.length<=c/\
    ∀j x,xs[j]? =some x->∃ad eZ,A=some ad/\ad.spot=none/\bh X t x eZ/\∀i v,eZ[i]? =some v->X.ay (ad.add (j*t.cells+i)) v
 | .arr n t,xs,cs=>xs.length=n/\cs.length=n*t.cells/\∀j x,xs[j]? =some x->bh X t x ((cs.drop (j*t.cells)).take t.cells)
 | .unit,_,cs=>cs=[]
 | .pair a b,x,cs=>∃c1 c2,cs=c1++c2/\bh X a x.1 c1/\bh X b x.2 c2
 | .aF _ _ _,_,cs=>cs=[]
theorem bh.ai{X Y:ax}(h:∀a v,X.ay a v->Y.ay a v):∀{t:Ty} {x:El t} {cs:List Value},bh X t x cs->bh Y t x cs
 | .bool,_,_,hr=>hr
 | .int _,_,_,hr=>hr
 | .str,_,_,hr=>hr
 | .unit,_,_,hr=>hr
 | .sl _ t,xs,cs,⟨A,c,h1,h2,h3⟩=>⟨A,c,h1,h2,fun j x hj=>by
    obtain⟨ad,eZ,h4,h5,h6,h7⟩:=h3 j x hj
    exact⟨ad,eZ,h4,h5,bh.ai h h6,fun i v hi=>h _ _ (h7 i v hi)⟩⟩
 | .arr n t,xs,cs,⟨h1,h2,h3⟩=>⟨h1,h2,fun j x hj=>bh.ai h (h3 j x hj)⟩
 | .pair a b,x,cs,⟨c1,c2,h1,h2,h3⟩=>⟨c1,c2,h1,bh.ai h h2,bh.ai h h3⟩
 | .aF _ _ _,_,_,hr=>hr
theorem bh.mono{X Y:ax}(h:Ext X Y){t:Ty}{x:El t}{cs:List Value}(hr:bh X t x cs):bh Y t x cs:=bh.ai h.ay hr
theorem bh.len{X:ax}:∀{t:Ty} {x:El t} {cs:List Value},bh X t x cs->cs.length=t.cells
 | .bool,_,_,hr=>by cases hr;rfl
 | .int _,_,_,hr=>by cases hr;rfl
 | .str,_,_,hr=>by cases hr;rfl
 | .unit,_,_,hr=>by cases hr;rfl
 | .sl _ t,xs,cs,⟨A,c,h1,_⟩=>by cases h1;rfl
 | .arr n t,xs,cs,⟨h1,h2,h3⟩=>h2
 | .pair a b,x,cs,⟨c1,c2,h1,h2,h3⟩=>by rw[h1,List.length_append,h2.len,h3.len];rfl
 | .aF _ _ _,_,_,hr=>by cases hr;rfl
theorem acs{cs:List Value}{n k:Nat}{u:Value}(hu:u∈cs)(hk:cs.length=n*k):∃j,j<n/\u∈(cs.drop (j*k)).take k:=by
 obtain⟨q,hq,rfl⟩:=List.mem_iff_getElem.1 hu
 have A3:0<k:=by
  rcases Nat.eq_zero_or_pos k with h|h
  ·subst h;simp at hk;subst hk;simp at hq
  ·exact h
 refine⟨q/k,by rw[Nat.div_lt_iff_lt_mul A3,<-hk];exact hq,?_⟩
 rw[List.mem_iff_getElem?]
 refine⟨q % k,?_⟩
 rw[List.getElem?_take,if_pos (Nat.mod_lt _ A3),List.getElem?_drop,Nat.mul_comm,Nat.div_add_mod,List.getElem?_eq_getElem hq]
theorem bh.one{X:ax}:∀{t:Ty} {x:El t} {cs:List Value},bh X t x cs->∀u∈cs,u.oneCell'=true
 | .bool,_,_,hr,u,hu=>by cases hr;simp at hu;subst hu;rfl
 | .int _,_,_,hr,u,hu=>by cases hr;simp at hu;subst hu;rfl
 | .str,_,_,hr,u,hu=>by cases hr;simp at hu;subst hu;rfl
 | .unit,_,_,hr,u,hu=>by cases hr;simp at hu
 | .sl _ t,xs,cs,⟨A,c,h1,_⟩,u,hu=>by cases h1;simp at hu;subst hu;rfl
 | .arr n t,xs,cs,⟨h1,h2,h3⟩,u,hu=>by
   obtain⟨j,hj,hm⟩:=acs hu h2
   exact bh.one (h3 j _ (List.getElem?_eq_getElem (by omega))) u hm
 | .pair a b,x,cs,⟨c1,c2,h1,h2,h3⟩,u,hu=>by
   rw[h1] at hu
   rcases List.mem_append.1 hu with hu|hu
   ·exact h2.one u hu
   ·exact h3.one u hu
 | .aF _ _ _,_,_,hr,u,hu=>by cases hr;simp at hu
end Go.Ref

namespace Go.Ref
open Go Go.Shelf Go.RowKit Go.Proofs
variable {P:Program} {ρ:Ren}
structure gU(b:Nat)(g:Option Nat)(w w':World):Prop where
 os:w'.os=w.os
 tape:w'.tape=w.tape
 output:w'.output=w.output
 size:w.heap.size<=w'.heap.size
 block:∀k,k<w.heap.size->k≠b->some k≠g->w'.heap[k]? =w.heap[k]?
theorem gU.of{b:Nat}{g:Option Nat}{w w':World}(h:w.grownBy w' g):gU b g w w':=⟨h.os,h.tape,h.output,h.size,fun k hk _ hg=>h.block k hk hg⟩
theorem gU.trans{b:Nat}{g:Option Nat}{u v w:World}(h:gU b g u v)(k:gU b g v w):gU b g u w:=
 ⟨k.os.trans h.os,k.tape.trans h.tape,k.output.trans h.output,Nat.le_trans h.size k.size,fun i hi h1 h2=>(k.block i (Nat.lt_of_lt_of_le hi h.size) h1 h2).trans (h.block i hi h1 h2)⟩
theorem gU.refl{b:Nat}{g:Option Nat}(w:World):gU b g w w:=⟨rfl,rfl,rfl,Nat.le_refl _,fun _ _ _ _=>rfl⟩
theorem gU.setCell{b:Nat}{g:Option Nat}(w:World)(a:Addr)(ha:a.block=b)(u:Value):gU b g w (w.setCell a u):=
 ⟨rfl,rfl,rfl,by simp [World.setCell],fun k _ hk _=>Below.heap_setCell _ _ _ _ (by rw[ha];exact hk)⟩
theorem agA{w:World}(t u ty e:TypeId)(i:TypeInfo)(ht:P.underlying t=some (.slice e))(hu:P.underlying u=some .string)(hi:P.info? e=some i)(hz:i.zero=some (.int .u8 0))(b9:i.size=1)(n9:i.bytes=1)
 (v:Value) (n:Nat) (xs:List Value) (bT:w.ownsRow 0 e 1 v n xs) (s:ByteArray) (AO:n+s.size<=maxLen) (gF:n+s.size<=140737488355328) {v':Value} {w':World}
 (h:(Builtin.append_ #[t,u] ty #[v,.string s]).run P w= .ok v' w'):∀g,v'.ownBlock=some g->v.ownBlock=some g\/g=w.heap.size:=by
 have Bi:xs.length=n:=by simpa using bT.1
 have vd:n+s.size<=9223372036854775807:=by simp only[maxLen] at AO;omega
 intro g0 CL
 rcases bT.2 with⟨rfl,rfl⟩|⟨g,cap,cur,rfl,hbg,hg,Ls,sT,eU,nM⟩
 ·by_cases hm:s.size=0
  ·have hf:=Lib.run_firstCells_string (P:=P) w 1 s
   rw[hm] at hf
   simp [Builtin.append_,run_underlying ht,run_underlying hu,sizeOf,typeInfo,hi,b9,Builtin.lenOf,hm,hf] at h
   rw[<-h.1] at CL
   simp [Value.ownBlock] at CL
  ·have hr:=run_append_nil_string (P:=P) w t u ty e i (.int .u8 0) ht hu hi hz s (by omega) (by omega) (by rw[n9];omega)
   rw[hr] at h
   cases h
   simp [Value.ownBlock] at CL
   exact .inr CL.symm
 ·by_cases nL:n+s.size<=cap
  ·have ap0:cur.size=cap:=by simpa using eU
   have hr:=Lib.run_append_room_string (P:=P) w t u ty e i ht hu hi b9 g n cap cur hg s nL (by omega)
   rw[hr] at h
   cases h
   exact .inl CL
  ·have holds:∀j u,xs[j]? =some u->w.cell? ((⟨g,0,none⟩:Addr).add j)=some u:=bT.cells (g:=g) rfl
   have hr:=Lib.run_append_grow_string (P:=P) w t u ty e i (.int .u8 0) ht hu hi hz ⟨g,0,none⟩ n cap xs (by rw[b9];simpa using Bi) holds s (by omega) (by omega) (by rw[n9];exact growslice_fits (by omega) (by omega))
   rw[hr] at h
   cases h
   simp [Value.ownBlock] at CL
   exact .inr CL.symm
theorem aeM{ops:Array Oper}{rest:List Oper}{o:Oper}{a:Act}{w:World}{Q:Exit->Act->World->Prop}(Hy:o.guard=none)(sl x:Operand)(t u:TypeId)
 (ho:o.op= .call {callee:= .builtin .append,args:= #[sl,x],argTypes:= #[t,u]})
 (e:TypeId) (i:TypeInfo) (ht:P.underlying t=some (.slice e)) (hu:P.underlying u=some .string) (hi:P.info? e=some i) (hz:i.zero=some (.int .u8 0))
 (b9:i.size=1) (n9:i.bytes=1)
 (v:Value) (n:Nat) (xs:List Value) (hs:a.eval sl=v) (bT:w.ownsRow 0 e 1 v n xs) (s:ByteArray) (hx:a.eval x= .string s)
 (AO:n+s.size<=maxLen) (gF:n+s.size<=140737488355328)
 (h:∀v' w',w'.ownsRow 0 e 1 v' (n+s.size) (xs++Lib.strCells s)->w.grownBy w' v.ownBlock->(∀g,v'.ownBlock=some g->v.ownBlock=some g\/g=w.heap.size)->wpList P ops Q rest (a.put o.dst v') w'):wpList P ops Q (o::rest) a w:=by
 refine wpList_plain Hy fun K hK=> ?_
 obtain⟨v',w',hr,h2,h3,h4⟩:=Lib.run_append_own_string (P:=P) w 0 t u o.type e i ht hu hi hz b9 n9 v n xs bT s AO gF (Nat.zero_le _)
 unfold Oper.wp execOp
 simp only[ho,resolve,invoke,builtin,Sem.run_bind,Sem.run_pure,Result.andThen_ok,List.map_toArray,List.map_cons,List.map_nil,hs,hx,hr]
 exact hK _ _ (h v' w' h2 h3 (agA t u o.type e i ht hu hi hz b9 n9 v n xs bT s AO gF hr))
theorem agL(L:Lays.n240 P ρ)(X:Builder.X72 P ρ)(b:Nat)(v:Value)(bs:List Value)(w:World)(h:vK (ρ.t 72) (ρ.t 5) b v bs w):
 Calls P (ρ.f 240) #[.pointer (some ⟨b,0,none⟩)] w fun e w'=>e= .returned (.tuple #[])/\(w'.heap[b]? =some (.cells #[.pointer (some ⟨b,0,none⟩),v] (ρ.t 72) (0,0))/\w'.ownsRow 0 (ρ.t 5) 1 v bs.length bs)/\(gU b none w w'/\w'.heap.size=w.heap.size):=by
 rcases h.nx with hb|hb
 ·have hA:Lib.BuilderAt (ρ.t 72) (ρ.t 5) 0 b (.pointer none) bs w:=⟨Nat.zero_le _,v,hb,h.own,h.ne⟩
  refine(Any.Builder_copyCheck_fresh L X b w hA.cell0 hA.shape hA.frozen0).mono ?_
  rintro e w' ⟨rfl,rfl⟩
  have hu:=hA.used (.pointer (some ⟨b,0,none⟩))
  obtain⟨_,v',si,nI,_⟩:=hu
  have hv:v'=v:=by
   have:(w.setCell ⟨b,0,none⟩ (.pointer (some ⟨b,0,none⟩))).heap[b]? =some (.cells #[.pointer (some ⟨b,0,none⟩),v] (ρ.t 72) (0,0)):=heap_setCell_same w b 0 _ _ _ hb
   rw[si] at this
   simp at this
   exact this
  subst hv
  exact⟨rfl,⟨si,nI⟩,gU.setCell w ⟨b,0,none⟩ rfl _,by simp [World.setCell]⟩
 ·have hA:Lib.BuilderAt (ρ.t 72) (ρ.t 5) 0 b (.pointer (some ⟨b,0,none⟩)) bs w:=⟨Nat.zero_le _,v,hb,h.own,h.ne⟩
  refine(Any.Builder_copyCheck_used L X b w hA.cell0).mono ?_
  rintro e w' ⟨rfl,rfl⟩
  exact⟨rfl,⟨hb,h.own⟩,gU.refl _,rfl⟩
set_option maxHeartbeats 2000000 in
set_option maxRecDepth 100000 in
theorem agM(L:Lays.n166 P ρ)(X:Builder.Extra P ρ)(b:Nat)(v0:Value)(bs:List Value)(s:ByteArray)(w:World)(h:vK (ρ.t 72) (ρ.t 5) b v0 bs w)(hlen:bs.length+s.size<=140737488355328):
 Calls P (ρ.f 166) #[.pointer (some ⟨b,0,none⟩),.string s] w fun e w'=>e= .returned (.tuple #[.int .i64 s.size,.nilIface])/\∃v',vK (ρ.t 72) (ρ.t 5) b v' (bs++Lib.strCells s) w'/\gU b v0.ownBlock w w'/\∀g,v'.ownBlock=some g->v0.ownBlock=some g\/w.heap.size<=g:=by
 obtain⟨i0,hi,C5,Tr,hz2⟩:=info_parts X.infoByte
 have al:=h.lt
 have mixed:=L.mixed
 have t72:=L.t72;have a72:=L.a72;have z72:=L.z72;have v72:=L.v72;have u72:=run_underlying L.t72
 have t70:=L.t70;have a70:=L.a70;have z70:=L.z70;have v70:=L.v70;have u70:=run_underlying L.t70
 have t37:=L.t37;have a37:=L.a37;have z37:=L.z37;have v37:=L.v37;have u37:=run_underlying L.t37
 have t3:=L.t3;have a3:=L.a3;have z3:=L.z3;have v3:=L.v3;have u3:=run_underlying L.t3
 have t9:=L.t9;have a9:=L.a9;have z9:=L.z9;have v9:=L.v9;have u9:=run_underlying L.t9
 have t4:=L.t4;have a4:=L.a4;have z4:=L.z4;have v4:=L.v4;have u4:=run_underlying L.t4
 have t164:=L.t164;have a164:=L.a164;have z164:=L.z164;have v164:=L.v164;have ap5:=run_underlying L.t164
 have t5:=X.t5;have a5:=X.a5;have z5:=X.z5;have v5:=X.v5;have u5:=run_underlying X.t5
 have apY:∀args w,(callFunc (ρ.f 240) args).run P w= .ok (.enter (ρ.f 240) args) w:=enters_of L.f240 (by kernel_rfl) rfl
 go_enter L.f166,Body.n166_ntmps ρ
 go_wp2_with (go_at_fn (ρ.f 240);refine(agL {L with} X.toX72 b v0 bs _ h).mono ?_)
 rintro e w1 ⟨rfl,⟨xM,bT⟩,n8,C1⟩
 have bK:=h.ne
 have c0:w1.cell? ⟨b,0,none⟩=some (.pointer (some ⟨b,0,none⟩)):=by rw[Lib.cell_of_heap xM];rfl
 have c1:w1.cell? ⟨b,1,none⟩=some v0:=by rw[Lib.cell_of_heap xM];rfl
 go_wp2_with (at_builtin;refine aeM rfl _ _ (ρ.t 37) (ρ.t 9) rfl (ρ.t 5) i0 L.t37 L.t9 hi C5 Tr hz2 _ _ _ rfl bT s rfl ?c3 ?c4 ?_)
 case c3=>unfold maxLen;omega
 case c4=>omega
 intro v' w2 nI AZ iE
 have xT:b<w1.heap.size:=by rw[C1];exact al
 have mF:w2.heap[b]? =some (.cells #[.pointer (some ⟨b,0,none⟩),v0] (ρ.t 72) (0,0)):=by
  rw[AZ.block b xT (fun e=>bK e.symm)]
  exact xM
 have d0:w2.cell? ⟨b,0,none⟩=some (.pointer (some ⟨b,0,none⟩)):=by rw[Lib.cell_of_heap mF];rfl
 have d1:w2.cell? ⟨b,1,none⟩=some v0:=by rw[Lib.cell_of_heap mF];rfl
 have f1:w2.frozen? ⟨b,1,none⟩=false:=Lib.frozen_of_heap mF 1
 obtain⟨ao,n',cap,rfl⟩:∃ao n' cap,v'= .slice ao n' cap:=by
  rcases nI.2 with⟨hv,_⟩|⟨g,cap,cur,hv,_⟩
  ·exact⟨_,_,_,hv⟩
  ·exact⟨_,_,_,hv⟩
 go_wp2
 go_ret2
 have Lt:(Value.slice ao n' cap).ownBlock≠some b:=fun e=>by
  rcases iE b e with h1|h1
  ·exact bK h1
  ·omega
 have fP:(w2.setCell ⟨b,1,none⟩ (.slice ao n' cap)).heap[b]? =some (.cells #[.pointer (some ⟨b,0,none⟩),.slice ao n' cap] (ρ.t 72) (0,0)):=heap_setCell_same w2 b 1 _ _ _ mF
 refine⟨rfl,_,⟨.inr fP,?_,Lt⟩,?_,fun g hg=> ?_⟩
 ·have hl:(bs++Lib.strCells s).length=bs.length+s.size:=by rw[List.length_append,Lib.strCells_length]
  rw[hl]
  refine⟨nI.1,?_⟩
  rcases nI.2 with hn|⟨g,xH,cur,hv,hbg,hg,rest⟩
  ·exact .inl hn
  ·refine .inr ⟨g,xH,cur,hv,hbg,?_,rest⟩
   rw[Below.heap_setCell _ _ _ _ (fun e=>Lt (by rw[hv,Value.ownBlock];exact congrArg some e))]
   exact hg
 ·refine gU.trans ⟨n8.os,n8.tape,n8.output,n8.size,fun k hk h1 h2=>n8.block k hk h1 (by simp)⟩ (gU.trans (gU.of AZ) (gU.setCell w2 ⟨b,1,none⟩ rfl _))
 ·rcases iE g hg with h1|h1
  ·exact .inl h1
  ·exact .inr (by omega)
theorem gU.freeze{b:Nat}{g:Nat}(w:World)(a:Addr)(ha:a.block=g)(n:Nat):gU b (some g) w (w.freeze a n):=by
 unfold World.freeze
 split
 ·exact gU.refl _
 ·refine⟨rfl,rfl,rfl,by simp,fun k hk h1 h2=> ?_⟩
  simp only[Array.getElem?_modify]
  rw[if_neg]
  intro e
  exact h2 (by rw[<-e,ha])
theorem gU.drew{b:Nat}{g:Option Nat}(w:World):gU b g w w.drew:=⟨rfl,rfl,rfl,Nat.le_refl _,fun _ _ _ _=>rfl⟩
theorem gU.alloc{b:Nat}{g:Option Nat}(w:World)(o:Obj):gU b g w (w.alloc o):=⟨rfl,rfl,rfl,by simp,fun k hk _ _=>Below.heap_alloc _ _ _ hk⟩
set_option maxHeartbeats 2000000 in
set_option maxRecDepth 100000 in
theorem akw(L:Lays.n169 P ρ)(X:Builder.Extra P ρ)(b:Nat)(v0:Value)(l:List UInt8)(w:World)(h:vK (ρ.t 72) (ρ.t 5) b v0 (Lib.byteCells l) w):
 Calls P (ρ.f 169) #[.pointer (some ⟨b,0,none⟩)] w fun e w'=>e= .returned (.string ⟨l.toArray⟩)/\gU b v0.ownBlock w w':=by
 obtain⟨p,xM⟩:∃p,w.heap[b]? =some (.cells #[p,v0] (ρ.t 72) (0,0)):=by
  rcases h.nx with h|h
  ·exact⟨_,h⟩
  ·exact⟨_,h⟩
 have bT:=h.own
 have al:=h.lt
 rw[Lib.byteCells_length] at bT
 have mixed:=L.mixed
 have t72:=L.t72;have a72:=L.a72;have z72:=L.z72;have v72:=L.v72;have u72:=run_underlying L.t72
 have t70:=L.t70;have a70:=L.a70;have z70:=L.z70;have v70:=L.v70;have u70:=run_underlying L.t70
 have t37:=L.t37;have a37:=L.a37;have z37:=L.z37;have v37:=L.v37;have u37:=run_underlying L.t37
 have t127:=L.t127;have a127:=L.a127;have z127:=L.z127;have v127:=L.v127;have ap4:=run_underlying L.t127
 have t3:=L.t3;have a3:=L.a3;have z3:=L.z3;have v3:=L.v3;have u3:=run_underlying L.t3
 have t9:=L.t9;have a9:=L.a9;have z9:=L.z9;have v9:=L.v9;have u9:=run_underlying L.t9
 have t5:=X.t5;have a5:=X.a5;have z5:=X.z5;have v5:=X.v5;have u5:=run_underlying X.t5
 rcases bT.2 with⟨rfl,hz⟩|⟨g,cap,cur,rfl,hbg,hg,Ls,sT,eU,nM⟩
 ·have hl:l=[]:=List.eq_nil_of_length_eq_zero hz
  subst hl
  have hUS:=Any.unsafeString_none L X
  have c1:w.drew.cell? ⟨b,1,none⟩=some (.slice none 0 0):=by
   have:w.drew.heap[b]? =some (.cells #[p,.slice none 0 0] (ρ.t 72) (0,0)):=xM
   rw[Lib.cell_of_heap this];rfl
  have hSD:(Builtin.unsafeSliceData_ #[(ρ.t 37)] (ρ.t 127) #[.slice none 0 0]).run P w.drew= .ok (.pointer none) w.drew:=rfl
  go_enter L.f169,Body.n169_ntmps ρ
  go_wp2
  go_region_o
  all_goals(go_wp2;go_ret;exact⟨rfl,gU.drew w⟩)
 ·by_cases Ll:l.length=0
  ·have hl:l=[]:=List.eq_nil_of_length_eq_zero Ll
   subst hl
   by_cases hc0:cap=0
   ·subst hc0
    have hUS:=Any.unsafeString_none L X
    have c1:w.drew.cell? ⟨b,1,none⟩=some (.slice (some ⟨g,0,none⟩) 0 0):=by
     have:w.drew.heap[b]? =some (.cells #[p,.slice (some ⟨g,0,none⟩) 0 0] (ρ.t 72) (0,0)):=xM
     rw[Lib.cell_of_heap this];rfl
    have hSD:(Builtin.unsafeSliceData_ #[(ρ.t 37)] (ρ.t 127) #[.slice (some ⟨g,0,none⟩) 0 0]).run P w.drew= .ok (.pointer (some ⟨w.drew.heap.size,0,none⟩)) (w.drew.alloc (.view ⟨g,0,none⟩ (ρ.t 5))):=
     Lib.run_unsafeSliceData_zero w.drew _ _ (ρ.t 5) L.t127 ⟨g,0,none⟩ 0 ((ρ.t 5),cur.size) (by have xQ:w.drew.heap[g]? =some (.cells cur (ρ.t 5) (0,0)):=hg;simp [World.shape?,xQ])
    have c2:(w.drew.alloc (.view ⟨g,0,none⟩ (ρ.t 5))).cell? ⟨b,1,none⟩=some (.slice (some ⟨g,0,none⟩) 0 0):=by
     have:(w.drew.alloc (.view ⟨g,0,none⟩ (ρ.t 5))).heap[b]? =_:=(Lib.alloc_old w.drew _ b al).trans xM
     rw[Lib.cell_of_heap this];rfl
    have c3:(w.alloc (.view ⟨g,0,none⟩ (ρ.t 5))).drew.cell? ⟨b,1,none⟩=some (.slice (some ⟨g,0,none⟩) 0 0):=c2
    have c0:w.cell? ⟨b,1,none⟩=some (.slice (some ⟨g,0,none⟩) 0 0):=c1
    go_enter L.f169,Body.n169_ntmps ρ
    go_wp2
    go_region_o
    all_goals(go_wp2;go_ret;exact⟨rfl,(gU.drew w).trans (gU.alloc _ _)⟩)
   ·have hUS:=Any.unsafeString_none L X
    have c1:w.drew.cell? ⟨b,1,none⟩=some (.slice (some ⟨g,0,none⟩) 0 cap):=by
     have:w.drew.heap[b]? =some (.cells #[p,.slice (some ⟨g,0,none⟩) 0 cap] (ρ.t 72) (0,0)):=xM
     rw[Lib.cell_of_heap this];rfl
    have hSD:(Builtin.unsafeSliceData_ #[(ρ.t 37)] (ρ.t 127) #[.slice (some ⟨g,0,none⟩) 0 cap]).run P w.drew= .ok (.pointer (some ⟨g,0,none⟩)) w.drew:=
     Lib.run_unsafeSliceData_row _ _ _ _ _ _ hc0
    clear hc0
    go_enter L.f169,Body.n169_ntmps ρ
    go_wp2
    go_region_o
    all_goals(go_wp2;go_ret;exact⟨rfl,gU.drew w⟩)
  ·have h0:l≠ []:=fun e=>Ll (by rw[e];rfl)
   have c1:w.drew.cell? ⟨b,1,none⟩=some (.slice (some ⟨g,0,none⟩) l.length cap):=by
    have:w.drew.heap[b]? =some (.cells #[p,.slice (some ⟨g,0,none⟩) l.length cap] (ρ.t 72) (0,0)):=xM
    rw[Lib.cell_of_heap this];rfl
   have hSD:(Builtin.unsafeSliceData_ #[(ρ.t 37)] (ρ.t 127) #[.slice (some ⟨g,0,none⟩) l.length cap]).run P w.drew= .ok (.pointer (some ⟨g,0,none⟩)) w.drew:=
    Lib.run_unsafeSliceData_row _ _ _ _ _ _ (by omega)
   have hUS:(Builtin.unsafeString_ #[(ρ.t 127),(ρ.t 3)] (ρ.t 9) #[.pointer (some ⟨g,0,none⟩),.int .i64 l.length]).run P w.drew= .ok (.string ⟨l.toArray⟩) (w.drew.freeze ⟨g,0,none⟩ l.length):=by
    refine Lib.run_unsafeString_row w.drew (ρ.t 127) (ρ.t 3) (ρ.t 9) (ρ.t 5) L.t127 X.cellsByte g cur.size (by have xQ:w.drew.heap[g]? =some (.cells cur (ρ.t 5) (0,0)):=hg;simp [World.shape?,xQ]) l h0 (by omega) (by unfold maxLen at sT;omega) ?_
    intro j x hx
    have:=bT.cells (g:=g) rfl j (.int .u8 x.toNat) (by simp [Lib.byteCells,hx])
    exact this
   go_enter L.f169,Body.n169_ntmps ρ
   go_wp2
   go_region_o
   all_goals(go_wp2;go_ret;exact⟨rfl,(gU.drew w).trans (gU.freeze _ _ rfl _)⟩)
end Go.Ref

namespace Go.Ref
open Go
inductive SV where
 |undef
 |skip
 |cJ
 |eh
 |aj (t:Ty) (x:El t) (own:List (List Nat))
 |ptr (id:Nat) (t:Ty) (p:List Nat)
 |view (t:Ty) (x:El t)
 |cap (f:Nat) (t:Ty) (x:El t) (u:Ty) (y:El u)
 |over
 |bA (id:Nat) (a b:Ty) (j:Nat)
def Ty.qW:Ty->Bool
 | .aF (.gY _ _) _ _=>false
 | .aF _ _ _=>true
 |_=>false
def Ty.bH:Ty->Bool
 | .aF _ _ _=>true
 |_=>false
def SV.bM:SV->Bool
 | .bA _ _ _ _=>true
 |_=>false
structure bD where
 t:Ty
 x:El t
 own:List (List Nat)
structure State where
 sl:List (List SV)
 bs:List (Option bD)
def nB(a:Ty):List Nat->Nat
 |0::q=>a.off q
 | [1]=>a.cells
 | [1,i]=>a.cells+i
 | [2]=>a.cells+2
 |_=>0
def gIn(a:Ty):List Nat->Prop
 | []=>True
 |0::q=>a.fa q
 | [1]=>True
 | [1,i]=>i<2
 | [2]=>True
 |_=>False
def B5:List (List Nat):=[[2]]
def lC:List (List Nat):=[[0],[1],[0,2],[1,2]]
def Ty.fb:Ty->Bool
 | .aF .bC _ _=>true
 |_=>false
structure Env where
 ty:TypeId->Option Ty
 bytes:TypeId->Nat
 pt:TypeId->Bool
 dF:Nat->List Nat
 lU:Nat->List Nat
 outs:List Nat
 ps:List Ty
 mp:TypeId->Option (TypeId×TypeId):=fun _=>none
 join:Nat->Option (List Nat):=fun _=>none
 fz:Nat->Option (Nat×TypeId):=fun _=>none
 dr:Nat->List Nat:=fun _=>[]
 sh:List Nat:=[]
 ro:Bool:=false
 mv:List Nat:=[]
 fr:Nat->List Nat:=fun _=>[]
 bl:TypeId->Option TypeId:=fun _=>none
 gr:TypeId->Option (Ty×Ty):=fun _=>none
 ga:TypeId->Bool:=fun _=>false
 sg:Option (Nat×Nat×Nat):=none
 sp:Option (Nat×Nat×Nat×Nat):=none
def Ty.iH:Ty->Bool
 | .unit=>true
 | .pair (.int _) b=>b.iH
 |_=>false
def Ty.isKey:Ty->Bool
 | .bool| .int _| .str=>true
 | .pair a b=>(Ty.pair a b).iH
 |_=>false
def vO:(t:Ty)->El t->El t->Bool
 | .pair (.int _) b,x,y=>decide (x.1=y.1)&&vO b x.2 y.2
 |_,_,_=>true
def gD:(t:Ty)->El t->El t->Bool
 | .bool,x,y=>decide (x=y)
 | .int _,x,y=>decide (x=y)
 | .str,x,y=>decide (x=y)
 | .pair a b,x,y=>vO (.pair a b) x y
 |_,_,_=>false
def fH{K V:Type}(eq:K->K->Bool)(d:V):List (K×V)->K->V
 | [],_=>d
 |q::r,k=>bif eq k q.1 then q.2 else fH eq d r k
def fI{K V:Type}(eq:K->K->Bool):List (K×V)->K->Bool
 | [],_=>false
 |q::r,k=>bif eq k q.1 then true else fI eq r k
section
variable {R:Type}
abbrev bV(R:Type):=List SV->Option bD->(List SV->Option bD->Option R)->Option R
def SV.el(s:SV)(u:Ty)(K:El u->Option R):Option R:=
 match s with
 | .aj t x _=>if h:t.cq u=true then K (Ty.cast h x) else none
 | .cJ=>match u with
   | .sl _ _=>K []
   |_=>none
 |_=>none
def BU:Value->SV
 | .bool b=> .aj .bool b []
 | .int k n=> .aj (.int k) n []
 | .string s=> .aj .str s []
 | .slice none 0 0=> .cJ
 | .pointer none=> .eh
 |_=> .undef
def State.slot(s:State)(t:Nat):List SV:=s.sl.getD t [.undef]
def State.ye(s:State):Operand->List SV
 | .tmp t=>s.slot t
 | .const v=>[BU v]
 |_=>[.undef]
def one:List SV->SV
 | [x]=>x
 |_=> .undef
def State.aG(s:State)(x:Operand):SV:=one (s.ye x)
def State.box(s:State)(id:Nat):Option bD:=(s.bs.getD id none)
def SV.shut:SV->SV
 | .aj t x _=> .aj t x []
 | .bA _ _ _ _=> .undef
 |v=>v
def SV.own:SV->List (List Nat)
 | .aj _ _ o=>o
 | .cJ=>[[]]
 |_=>[]
def bP:List SV->Nat->List SV
 | [],_=>[]
 |v::r,0=>v.shut::r
 |v::r,j+1=>v::bP r j
structure Out where
 v:List SV
 bx:Option (Nat×bD):=none
 cl:List (Nat×Nat):=[]
def State.close(s:State):List (Nat×Nat)->State
 | []=>s
 |(i,j)::r=>State.close {s with sl:=s.sl.set i (bP (s.slot i) j)} r
def State.aB(s:State):Option (Nat×bD)->State
 |some (id,B)=>{s with bs:=s.bs.set id (some B)}
 |none=>s
def State.av(s:State):Option Nat->List SV->State
 |some d,v=>{s with sl:=s.sl.set d v}
 |none,_=>s
def State.apply(s:State)(dst:Option Nat)(o:Out):State:=((s.close o.cl).aB o.bx).av dst o.v
def vA:Operand->Option Nat
 | .tmp t=>some t
 |_=>none
def src:Operand->List (Nat×Nat)
 | .tmp t=>[(t,0)]
 |_=>[]
def aR(op:BinOp)(k:IntKind)(a b:Int):Int:=
 match op with
 | .and=>k.wrap ((BitVec.ofInt k.bits a&&&BitVec.ofInt k.bits b).toNat:Nat)
 | .or=>k.wrap ((BitVec.ofInt k.bits a|||BitVec.ofInt k.bits b).toNat:Nat)
 | .xor=>k.wrap ((BitVec.ofInt k.bits a^^^BitVec.ofInt k.bits b).toNat:Nat)
 |_=>k.wrap ((BitVec.ofInt k.bits a&&& ~~~ BitVec.ofInt k.bits b).toNat:Nat)
def dQ:(t:Ty)->El t->El t->Option Bool
 | .bool,x,y=>some (x==y)
 | .int _,x,y=>some (decide (x=y))
 | .str,x,y=>some (decide (x=y))
 | .unit,_,_=>some true
 | .arr _ (.int _),x,y=>some (decide ((x:List Int)=y))
 | .pair a b,x,y=>match dQ a x.1 y.1,dQ b x.2 y.2 with
   |some p,some q=>some (p&&q)
   |_,_=>none
 |_,_,_=>none
def i64(n:Int):List SV:=[.aj (.int .i64) n []]
def bl(b:Bool):List SV:=[.aj .bool b []]
def rX(op:BinOp)(k:IntKind)(a:Int)(k':IntKind)(b:Int)(K:List SV->Option R):Option R:=
 match op with
 | .shl=>bif decide (b<0) then none else K [.aj (.int k) (k.wrap (a*2^min b.toNat k.bits)) []]
 | .shr=>bif decide (b<0) then none else K [.aj (.int k) (a.fdiv (2^min b.toNat k.bits)) []]
 |_=>if k=k' then
  match op with
  | .add=>K [.aj (.int k) (k.wrap (a+b)) []]
  | .sub=>K [.aj (.int k) (k.wrap (a-b)) []]
  | .mul=>K [.aj (.int k) (k.wrap (a*b)) []]
  | .quo=>bif decide (b=0) then none else K [.aj (.int k) (k.wrap (a.tdiv b)) []]
  | .rem=>bif decide (b=0) then none else K [.aj (.int k) (a.tmod b) []]
  | .and| .or| .xor| .andNot=>K [.aj (.int k) (aR op k a b) []]
  | .eql=>K (bl (decide (a=b)))
  | .neq=>K (bl (!decide (a=b)))
  | .lss=>K (bl (decide (a<b)))
  | .leq=>K (bl (decide (a<=b)))
  | .gtr=>K (bl (decide (b<a)))
  | .geq=>K (bl (decide (b<=a)))
  |_=>none
  else none
def rY(op:BinOp)(a b:ByteArray)(K:List SV->Option R):Option R:=
 match op with
 | .add=>bif decide (a.size+b.size<=9223372036854775807) then K [.aj .str (a++b) []] else none
 | .eql=>K (bl (decide (a=b)))
 | .neq=>K (bl (!decide (a=b)))
 | .lss=>K (bl (Op.bytesLess a.toList b.toList))
 | .leq=>K (bl (Op.bytesLess a.toList b.toList||decide (a=b)))
 | .gtr=>K (bl (!(Op.bytesLess a.toList b.toList||decide (a=b))))
 | .geq=>K (bl (!(Op.bytesLess a.toList b.toList)))
 |_=>none
def Ty.depth:Ty->Nat
 | .arr _ t=>t.depth+1
 | .pair a b=>max (a.depth+1) b.depth
 |_=>1
def rW(E:Env)(op:BinOp)(T:TypeId)(x y:SV)(K:List SV->Option R):Option R:=
 match E.ty T with
 |some t=>if Nat.ble t.depth 1000=false then none else x.el t fun a=>y.el t fun b=>match dQ t a b with
  |some r=>match op with
   | .eql=>K (bl r)
   | .neq=>K (bl (!r))
   |_=>none
  |none=>none
 |none=>none
def bin(E:Env)(op:BinOp)(T:TypeId)(x y:SV)(K:List SV->Option R):Option R:=
 match x,y with
 | .aj (.int k) a _,.aj (.int k') b _=>rX op k a k' b K
 | .aj .str a _,.aj .str b _=>rY op a b K
 | .ptr _ t _,.eh=>if((t.bH&& !t.fb)|| !E.pt T)=true then none else match op with
   | .eql=>K (bl false)
   | .neq=>K (bl true)
   |_=>none
 | .eh,.eh=>if E.pt T=false then none else match op with
   | .eql=>K (bl true)
   | .neq=>K (bl false)
   |_=>none
 |x,y=>rW E op T x y K
def ze(s:ByteArray)(i:Nat):Int:=if h:i<s.size then((s[i]'h).toNat:Int) else 0
def strOf(xs:List Int):ByteArray:=⟨(xs.map fun x=>UInt8.ofNat x.toNat).toArray⟩
def zd(i:Int)(n:Nat)(K:Option R):Option R:=bif decide (0<=i) then bif decide (i<(n:Int)) then K else none else none
def yJ(lo:Option SV)(h:Nat)(K:Nat->Option R):Option R:=
 match lo with
 |none=>K 0
 |some v=>v.el (.int .i64) fun l=>bif decide (0<=l) then bif decide (l<=(h:Int)) then K l.toNat else none else none
def cutAt(lo hi:Option SV)(n:Nat)(K:Nat->Nat->Option R):Option R:=
 match hi with
 |none=>yJ lo n fun l=>K l n
 |some v=>v.el (.int .i64) fun h=>bif decide (0<=h) then bif decide (h<=(n:Int)) then yJ lo h.toNat (fun l=>K l h.toNat) else none else none
def Ty.lv:Ty->Nat->Bool
 | .arr n _,i=>Nat.ble (i+1) n
 |_,_=>true
def yF(own:List (List Nat))(p:List Nat):List (List Nat):=own.filter fun q=> !(p.isPrefixOf q)
def hM(own:List (List Nat))(p:List Nat):Bool:=own.any fun q=>q==p
def SS(own:List (List Nat))(p:List Nat):List (List Nat):=(own.filter fun q=>p.isPrefixOf q).map fun q=>q.drop p.length
def bump:List Nat->Option (List Nat)
 | []=>none
 |j::p=>some ((j+1)::p)
def yC:Ty->List (List Nat)
 | .sl _ _=>[[]]
 | .pair a b=>(yC a).map (fun p=>0::p)++(yC b).filterMap bump
 |_=>[]
def sL(t:Ty):El t->List (List Nat)->List (Nat×SV×List (List Nat))->(El t->List (List Nat)->Option R)->Option R
 |x,own,[],K=>K x own
 |x,own,(i,v,ov)::r,K=>if t.lv i=false then none else match t.at_ [i] with
  |some u=>v.el u fun y=>match El.set t [i] x u y with
   |some z=>sL t z (ov.map (fun p=>i::p)++yF own [i]) r K
   |none=>none
  |none=>none
def yE(o:List (List Nat))(x:Operand):List (Nat×Nat):=
 match o with
 | []=>[]
 |_::_=>src x
def m9:State->List (Nat×Operand)->List (Nat×SV×List (List Nat))×List (Nat×Nat)
 |_,[]=>([],[])
 |s,(i,x)::r=>((i,s.aG x,(s.aG x).own)::(m9 (s.close (yE (s.aG x).own x)) r).1,yE (s.aG x).own x++(m9 (s.close (yE (s.aG x).own x)) r).2)
def B4(t:Ty):List (El t)->List (Nat×SV)->(List (El t)->Option R)->Option R
 |xs,[],K=>K xs
 |xs,(i,v)::r,K=>if Nat.ble (i+1) xs.length=false then none else v.el t fun y=>B4 t (xs.set i y) r K
def ZN(ops:List Oper)(d:Option Nat):Bool:=
 match d with
 |some d=>ops.any fun o=>match o.op with
  | .call ⟨.builtin .append,args,_⟩=>match args.toList with
    | .tmp t::_=>Nat.beq t d
    |_=>false
  |_=>false
 |none=>false
def Qu(ops:List Oper)(d:Option Nat):Bool:=
 match d with
 |some d=>ops.any fun o=>match o.op,o.dst with
  | .indexAddr _ (.tmp t) _,some a=>Nat.beq t d&&ops.any fun q=>match q.op with
    | .store _ (.tmp b) _=>Nat.beq a b
    |_=>false
  |_,_=>false
 |none=>false
def Bl(E:Env)(ops:List Oper)(d:Option Nat):Bool:=
 match d with
 |some d=>ops.any fun o=>match o.op with
  | .store _ (.tmp r) (.tmp t)=>Nat.beq t d&&E.outs.any (Nat.beq r)
  |_=>false
 |none=>false
def getM{α:Type}(j:Nat)(m:Option α×Option α):Option α:=bif Nat.beq j 0 then m.1 else bif Nat.beq j 1 then m.2 else none
def gj{α:Type}(j:Nat)(y:Option α)(m:Option α×Option α):Option α×Option α:=bif Nat.beq j 0 then(y,m.2) else(m.1,y)
def om(s:State)(id:Nat)(a b:Ty)(K:El (.aF .bC a b)->List (List Nat)->Option R):Option R:=
 match s.box id with
 |some B=>if h:B.t.cq (.aF .bC a b)=true then bif lC.all (hM B.own) then K (Ty.cast h B.x) B.own else none else none
 |none=>none
def GU(u':Ty)(s:State)(id:Nat)(t:Ty)(p:List Nat)(K:Out->Option R):Option R:=
 match t,p with
 | .aF .row a b,[i]=>match s.box id with
   |some B=>if h:B.t.cq (.aF .row a b)=true then if u'.cq a=true then
     bif Nat.ble (i+1) (List.length (Ty.cast h B.x:List (El a))) then K {v:=[.aj a (List.getD (Ty.cast h B.x:List (El a)) i (El.bU a)) []]} else none
    else none else none
   |none=>none
 | .aF .bC a b,[0]=>if u'.cq a=true then om s id a b fun x _=>K {v:=[.aj a x.1 []]} else none
 | .aF .bC a b,[2]=>if u'.cq (.int .i64)=true then om s id a b fun x _=>K {v:=i64 x.2.2} else none
 |_,_=>none
def Gs(u:Ty)(s:State)(id:Nat)(t:Ty)(p:List Nat)(v:SV)(K:Out->Option R):Option R:=
 match t,p with
 | .aF .row a b,[i]=>match s.box id with
   |some B=>if h:B.t.cq (.aF .row a b)=true then if a.cq u=true then
     v.el a fun y=>bif Nat.ble (i+1) (List.length (Ty.cast h B.x:List (El a))) then K {v:=[.skip],bx:=some (id,⟨.aF .row a b,(List.set (Ty.cast h B.x:List (El a)) i y:List (El a)),[]⟩)} else none
    else none else none
   |none=>none
 | .aF .bC a b,0::q=>match a.at_ q with
   |some u'=>if u'.cq u=true then om s id a b fun x own=>v.el u fun y=>match El.set a q x.1 u y with
     |some z=>bif hM own [] then K {v:=[.skip],bx:=some (id,⟨.aF .bC a b,(z,x.2),own⟩)} else none
     |none=>none
    else none
   |none=>none
 | .aF .bC a b,[2]=>if u.cq (.int .i64)=true then om s id a b fun x own=>v.el (.int .i64) fun n=>bif hM own [] then K {v:=[.skip],bx:=some (id,⟨.aF .bC a b,(x.1,x.2.1,n),own⟩)} else none else none
 |_,_=>none
def IC(v:SV)(j:Nat)(ta tb:Ty)(K:Out->Option R):Option R:=
 match v with
 | .ptr id (.aF .bC a b) []=>if(a.cq ta&&b.cq tb)=true then bif Nat.ble j 2 then K {v:=[.ptr id (.aF .bC a b) [j]]} else none else none
 |_=>none
def Rl(t:Ty)(n:Int)(id:Nat)(r:Ty)(p:List Nat)(K:Out->Option R):Option R:=
 match r,p with
 | .aF (.ju m) a b,[]=>if a.cq t=true then zd n m (K {v:=[.ptr id (.aF .row a b) [n.toNat]]}) else none
 |_,_=>none
def z93(u':Ty)(B:bD)(t:Ty)(p:List Nat)(K:Out->Option R):Option R:=
 match t,p with
 | .arr n e,[]=>if h:B.t.cq (.aF .row e .unit)=true then if u'.cq (.arr n e)=true then
    bif Nat.beq n (List.length (Ty.cast h B.x:List (El e))) then K {v:=[.aj (.arr n e) (Ty.cast h B.x:List (El e)) []]} else none
   else none else none
 |_,_=>none
def kM(E:Env)(T:TypeId)(s:State)(v:SV)(K:Out->Option R):Option R:=
 match v with
 | .ptr id (.aF .bC a b) [1,j]=>if E.pt T=true then om s id a b fun x own=>bif hM own [] then K {v:=[.bA id a b j],bx:=some (id,⟨.aF .bC a b,x,own.filter fun q=> !q.isEmpty⟩)} else none else none
 |_=>none
def load(E:Env)(T:TypeId)(s:State)(la:Bool)(a:SV)(K:Out->Option R):Option R:=
 match E.ty T with
 |some u'=>match a with
  | .view t x=>if u'.cq t=true then K {v:=[.aj t x []]} else none
  | .ptr id t p=>if t.bH=true then GU u' s id t p K else match s.box id with
    |some B=>if B.t.cq t=true then
      match El.get B.t p B.x with
      |some ⟨u,y⟩=>if u'.cq u=true then
        bif la then K {v:=[.aj u y (SS B.own p)],bx:=some (id,{B with own:=yF B.own p})} else K {v:=[.aj u y []]}
       else none
      |none=>none
     else z93 u' B t p K
    |none=>none
  |_=>none
 |none=>kM E T s a K
def store(E:Env)(T:TypeId)(s:State)(a:SV)(vo:Operand)(K:Out->Option R):Option R:=
 match E.ty T with
 |some u=>match a with
  | .ptr id t p=>if t.bH=true then Gs u s id t p (s.aG vo) K else match s.box id with
    |some B=>if B.t.cq t=true then
      match t.at_ p with
      |some u'=>if u'.cq u=true then
        (s.aG vo).el u fun y=>match El.set B.t p B.x u y with
        |some z=>K {v:=[.skip],bx:=some (id,{t:=B.t,x:=z,own:=(s.aG vo).own.map (fun q=>p++q)++yF B.own p}),cl:=src vo}
        |none=>none
       else none
      |none=>none
     else none
    |none=>none
  |_=>none
 |none=>none
def Ty.dx:Ty->Bool
 | .pair .. =>true
 |_=>false
def Ik(u:Ty)(id:Nat)(t:Ty)(p:List Nat)(j:Nat)(K:Out->Option R):Option R:=
 match t,p with
 | .aF .bC a b,0::q=>match a.at_ q with
   |some u'=>if(u.cq u'&&u.dx)=true then match u.at_ [j] with
     |some f=>if Nat.beq f.cells 0=true then none else K {v:=[.ptr id (.aF .bC a b) (0::(q++ [j]))]}
     |none=>none
    else none
   |none=>none
 |_,_=>none
def Io(m:Nat)(t:Ty)(n:Int)(id:Nat)(r:Ty)(p:List Nat)(K:Out->Option R):Option R:=
 match r,p with
 | .aF .bC a b,0::q=>match a.at_ q with
   |some u=>if u.cq (.arr m t)=true then zd n m (K {v:=[.ptr id (.aF .bC a b) (0::(q++ [n.toNat]))]}) else none
   |none=>none
 |_,_=>none
def SK(t?:Option Ty)(a:SV)(j:Nat)(K:Out->Option R):Option R:=
 match t?,a with
 |some u,.ptr id t p=>if t.bH=true then Ik u id t p j K else match t.at_ p with
  |some u'=>if(u.cq u'&&u.dx)=true then match u.at_ [j] with
    |some f=>if Nat.beq f.cells 0=true then none else K {v:=[.ptr id t (p++ [j])]}
    |none=>none
   else none
  |none=>none
 |some u,.view t x=>if(u.cq t&&u.dx)=true then match El.get t [j] x with
   |some ⟨f,y⟩=>if Nat.beq f.cells 0=true then none else K {v:=[.view f y]}
   |none=>none
  else none
 |_,_=>none
def SV.num(s:SV)(K:Int->Option R):Option R:=
 match s with
 | .aj (.int _) n _=>K n
 |_=>none
def SN(E:Env)(T:TypeId)(a i:SV)(K:Out->Option R):Option R:=
 i.num fun n=>match E.ty T,a with
  |some (.sl e t),.aj t' xs _=>(SV.aj t' xs []).el (.sl e t) fun ys=>zd n ys.length (K {v:=[.view t (List.getD ys n.toNat (El.bU t))]})
  |some (.arr m t),.ptr id r p=>if r.bH=true then Io m t n id r p K else match r.at_ p with
   |some u=>if u.cq (.arr m t)=true then zd n m (K {v:=[.ptr id r (p++ [n.toNat])]}) else none
   |none=>none
  |some (.arr m t),.view t' xs=>(SV.aj t' xs []).el (.arr m t) fun ys=>zd n m (K {v:=[.view t (List.getD ys n.toNat (El.bU t))]})
  |some (.sl _ t),.ptr id r p=>Rl t n id r p K
  |none,.ptr id (.aF .bC a b) [1]=>if E.ga T=true then zd n 2 (K {v:=[.ptr id (.aF .bC a b) [1,n.toNat]]}) else none
  |_,_=>none
def SO(E:Env)(T:TypeId)(a i:SV)(K:Out->Option R):Option R:=
 i.num fun n=>match E.ty T with
  |some .str=>a.el .str fun s=>zd n s.size (K {v:=[.aj (.int .u8) (ze s n.toNat) []]})
  |some (.arr m t)=>a.el (.arr m t) fun ys=>zd n m (K {v:=[.aj t (List.getD ys n.toNat (El.bU t)) []]})
  |_=>none
def sc(E:Env)(T:TypeId)(a:SV)(lo hi:Option SV)(K:Out->Option R):Option R:=
 match E.ty T with
 |some .str=>a.el .str fun s=>cutAt lo hi s.size fun l h=>K {v:=[.aj .str (s.extract l h) []]}
 |some (.sl e t)=>a.el (.sl e t) fun xs=>cutAt lo hi (List.length xs) fun l h=>K {v:=[.aj (.sl e t) ((List.take h xs).drop l) []]}
 |_=>none
def R5(E:Env)(T U:TypeId)(bo:Operand)(b x:SV)(K:Out->Option R):Option R:=
 if Nat.beq T U=false then none else
 match E.ty T with
 |some (.sl e t)=>if(Nat.beq (E.bytes e) 0||Nat.beq t.cells 0)=true then none else match b with
  | .cJ=>x.el (.sl e t) fun ys=>bif decide (List.length ys*E.bytes e<=140737488355328) then K {v:=[.aj (.sl e t) ys [[]]]} else none
  | .aj t' xs o=>if hM o []=false then none else(SV.aj t' xs o).el (.sl e t) fun xs=>x.el (.sl e t) fun ys=>
    bif decide ((List.length xs+List.length ys)*E.bytes e<=140737488355328) then K {v:=[.aj (.sl e t) (xs++ys:List (El t)) [[]]],cl:=src bo} else none
  |_=>none
 |_=>none
def vj(E:Env)(T:TypeId)(x:SV)(K:Out->Option R):Option R:=
 match E.ty T with
 |some .str=>x.el .str fun s=>K {v:=i64 (s.size:Int)}
 |some (.sl e t)=>match x with
  | .ptr _ (.aF (.ju n) _ _) []=>K {v:=i64 (n:Int)}
  |x=>x.el (.sl e t) fun xs=>K {v:=i64 (List.length xs:Int)}
 |some (.arr n _)=>K {v:=i64 (n:Int)}
 |_=>none
def lQ(E:Env)(S T:TypeId)(x:SV)(K:Out->Option R):Option R:=
 match E.ty S,E.ty T with
 |some (.int k),some (.int k')=>x.el (.int k) fun n=>K {v:=[.aj (.int k') (k'.wrap n) []]}
 |some .str,some .str=>x.el .str fun s=>K {v:=[.aj .str s []]}
 |some (.sl e (.int .u8)),some .str=>x.el (.sl e (.int .u8)) fun xs=>K {v:=[.aj .str (strOf xs) []]}
 |_,_=>none
def kz(E:Env)(S T:TypeId)(s:State)(id n:Nat)(a b:Ty)(K:Out->Option R):Option R:=
 match E.ty S,E.ty T with
 |some (.sl _ (.int .u8)),some .str=>if a.cq (.int .u8)=true then match s.box id with
  |some B=>if h:B.t.cq (.aF .row (.int .u8) b)=true then bif Nat.beq n (List.length (Ty.cast h B.x:List Int)) then K {v:=[.aj .str (strOf (Ty.cast h B.x:List Int)) []]} else none else none
  |none=>none else none
 |_,_=>none
def nQ(E:Env)(T:TypeId):Option (Ty×Ty):=
 match E.mp T with
 |some (k,e)=>match E.ty k,E.ty e with
  |some kt,some vt=>if kt.isKey=true then some (kt,vt) else none
  |_,_=>none
 |none=>none
def kO(s:State)(dst:Option Nat)(t:Ty)(x:El t)(p:Ty)(K:Out->Option R):Option R:=
 match dst with
 |some d=>match s.bs[d+1]? with
  |some none=>K {v:=[.ptr (d+1) p []],bx:=some (d+1,⟨t,x,[]⟩)}
  |_=>none
 |none=>none
def wC(s:State)(m:SV)(kt vt:Ty)(K:Nat->List (El kt×El vt)->Option R):Option R:=
 match m with
 | .ptr id (.aF .mp kt' vt') []=>if((Ty.aF .mp kt' vt').cq (.aF .mp kt vt))=true then match s.box id with
   |some B=>if h:B.t.cq (.aF .mp kt vt)=true then K id (Ty.cast h B.x) else none
   |none=>none else none
 |_=>none
def lV(E:Env)(T:TypeId)(s:State)(m i:SV)(K:Out->Option R):Option R:=
 match nQ E T with
 |some (kt,vt)=>wC s m kt vt fun _ xs=>i.el kt fun k=>K {v:=[.aj vt (fH (gD kt) (El.bU vt) xs k) []]}
 |none=>none
def mS(E:Env)(T:TypeId)(s:State)(m i v:SV)(K:Out->Option R):Option R:=
 match nQ E T with
 |some (kt,vt)=>wC s m kt vt fun id xs=>i.el kt fun k=>v.el vt fun y=>bif fI (gD kt) xs k then none else K {v:=[.skip],bx:=some (id,⟨.aF .mp kt vt,(xs++ [(k,y)]:List (El kt×El vt)),[]⟩)}
 |none=>none
def kI:Ty:= .aF .iter .unit .unit
def lX(s:State)(m:SV)(K:Out->Option R):Option R:=
 match m with
 | .ptr id (.aF .iter .unit .unit) []=>match s.box id with
   |some B=>if h:B.t.cq kI=true then
     bif decide ((Ty.cast h B.x:ByteArray×Nat).2<(Ty.cast h B.x:ByteArray×Nat).1.size) then
      K {v:=[.aj .bool true [],.aj (.int .i64) ((Ty.cast h B.x:ByteArray×Nat).2:Int) [],.aj (.int .i32) ((Utf8.decode (Ty.cast h B.x:ByteArray×Nat).1 (Ty.cast h B.x:ByteArray×Nat).2).1:Int) []],
         bx:=some (id,⟨kI,((Ty.cast h B.x:ByteArray×Nat).1,(Ty.cast h B.x:ByteArray×Nat).2+(Utf8.decode (Ty.cast h B.x:ByteArray×Nat).1 (Ty.cast h B.x:ByteArray×Nat).2).2),[]⟩)}
     else K {v:=[.over]}
    else none
   |none=>none
 |_=>none
def PG:Operand->Bool
 | .const _=>true
 |_=>false
def lW(E:Env)(T:TypeId)(s:State)(dst:Option Nat)(lo:Operand)(l c:SV)(K:Out->Option R):Option R:=
 match E.ty T with
 |some (.sl e t)=>if(Nat.beq (E.bytes e) 0||Nat.beq t.cells 0)=true then none else l.el (.int .i64) fun n=>c.el (.int .i64) fun m=>
  bif PG lo then
   bif decide (n=0) then bif decide (0<=m) then bif decide (m*E.bytes e<=140737488355328) then K {v:=[.aj (.sl e t) ([]:List (El t)) [[]]]} else none else none else none
  else bif decide (n=m) then bif decide (0<=n) then bif decide (n*E.bytes e<=140737488355328) then kO s dst (.aF .row t .unit) (List.replicate n.toNat (El.bU t):List (El t)) (.aF (.ju n.toNat) t .unit) K else none else none else none
 |_=>none
def Mh(op:UnOp)(x:SV)(K:Out->Option R):Option R:=
 match op,x with
 | .not,.aj .bool b _=>K {v:=bl (!b)}
 | .neg,.aj (.int k) n _=>K {v:=[.aj (.int k) (k.wrap (0-n)) []]}
 |_,_=>none
def nz(f:FuncId)(x:SV)(K:Out->Option R):Option R:=
 match x with
 | .ptr id u []=>if u.qW=true then none else K {v:=[.ptr id (.aF (.sS f) u .unit) []]}
 |_=>none
def uC(n id:Nat)(a b:Ty)(lo hi:Option SV)(K:Out->Option R):Option R:=
 match hi with
 |some _=>none
 |none=>yJ lo n fun l=>K {v:=[.ptr id (.aF (.ju n) a b) [l]]}
def rZ(E:Env)(T:TypeId)(s:State)(id n:Nat)(t:Ty)(lo hi:Option SV)(K:Out->Option R):Option R:=
 match E.ty T,lo,hi with
 |some u,none,none=>if u.cq (.arr n t)=true then match s.box id with
  |some B=>if h:B.t.cq (.arr n t)=true then K {v:=[.ptr id (.aF (.ju n) t .unit) []],bx:=some (id,⟨.aF .row t .unit,(Ty.cast h B.x:List (El t)),[]⟩)} else none
  |none=>none else none
 |_,_,_=>none
def z31(s:ByteArray):List Int:=s.data.toList.map fun c=>(c.toNat:Int)
def bZ{α:Type}(xs ys:List α)(lo:Nat):List α:=xs.take lo++(ys++xs.drop (lo+ys.length))
def iZ(t:Ty)(s:State)(id n lo:Nat)(a b:Ty)(x:SV)(e:TypeId)(K:Out->Option R):Option R:=
 if a.cq t=true then x.el (.sl e t) fun(ys:List (El t))=>match s.box id with
  |some B=>if h:B.t.cq (.aF .row t b)=true then
    bif Nat.beq n (List.length (Ty.cast h B.x:List (El t))) then bif Nat.ble lo n then
     K {v:=i64 ((ys.take (n-lo)).length:Int),bx:=some (id,⟨.aF .row t b,(bZ (Ty.cast h B.x:List (El t)) (ys.take (n-lo)) lo:List (El t)),[]⟩)}
    else none else none
   else none
  |none=>none else none
def kA(t:Ty)(s:State)(id n:Nat)(a b:Ty)(y:ByteArray)(K:Out->Option R):Option R:=
 if t.cq (.int .u8)=true then if a.cq (.int .u8)=true then match s.box id with
  |some B=>if h:B.t.cq (.aF .row (.int .u8) b)=true then
    bif Nat.beq n (List.length (Ty.cast h B.x:List Int)) then
     K {v:=i64 ((List.take n (z31 y)).length:Int),bx:=some (id,⟨.aF .row (.int .u8) b,(bZ (Ty.cast h B.x:List Int) (List.take n (z31 y)) 0:List Int),[]⟩)}
    else none
   else none
  |none=>none else none else none
def copyV(E:Env)(T:TypeId)(s:State)(d x:SV)(K:Out->Option R):Option R:=
 match E.ty T,d with
 |some (.sl e t),.ptr id (.aF (.ju n) a b) []=>(match x with
  | .aj .str y _=>kA t s id n a b y K
  |x=>iZ t s id n 0 a b x e K)
 |some (.sl e t),.ptr id (.aF (.ju n) a b) [l]=>iZ t s id n l a b x e K
 |_,_=>none
def LZ(t b:Ty):Bool:=
 b.cq t||(match t with
  | .aF (.sS _) u _=>b.cq u
  |_=>false)
def jT(s:State):List SV->Option (List SV×Option (Nat×bD))
 | []=>some ([],none)
 |v::r=>match jT s r with
  |none=>none
  |some (l,b)=>match v,b with
   | .aj t x _,b=>some (.aj t x []::l,b)
   | .cJ,b=>some (.cJ::l,b)
   | .view t x,b=>some (.view t x::l,b)
   | .ptr id t [],none=>match s.box id with
     |some B=>if LZ t B.t=true then some (.ptr 0 t []::l,some (id,B)) else none
     |none=>none
   |_,_=>none
def SV.gO(id:Nat):SV->SV
 | .ptr _ t p=> .ptr id t p
 |v=>v
def He(s:State):List Operand->Option (Nat×Nat×Ty×Ty×Nat×List Operand)
 | .tmp t::r=>match s.slot t with
   | [.bA id a b j]=>some (t,id,a,b,j,r)
   |_=>none
 |_=>none
def kv(C:FuncId->bV R)(s:State)(f:FuncId)(t id:Nat)(a b:Ty)(j:Nat)(vs:List SV)(K:Out->Option R):Option R:=
 if b.bH=true then none else match jT s vs with
 |some (l,none)=>om s id a b fun x own=>match getM j x.2.1 with
  |some y=>C f (.ptr 0 b []::l) (some ⟨b,y,B5⟩) fun r B'=>match B' with
   |some B'=>if h:B'.t.cq b=true then bif hM B'.own [2] then K {v:=r,bx:=some (id,⟨.aF .bC a b,(x.1,gj j (some (Ty.cast h B'.x)) x.2.1,x.2.2),[]::own⟩),cl:=[(t,0)]} else none else none
   |none=>none
  |none=>none
 |_=>none
def gy(C:FuncId->bV R)(s:State)(dst:Option Nat)(f:FuncId)(vs:List SV)(K:Out->Option R):Option R:=
 match jT s vs with
 |some (l,none)=>C f l none fun r B=>match B with
  |none=>K {v:=r}
  |some B=>match dst with
   |some d=>match s.bs[d+1]? with
    |some none=>K {v:=r.map (SV.gO (d+1)),bx:=some (d+1,B)}
    |_=>none
   |none=>none
 |some (l,some (id,B))=>if(B.t.fb&& !hM B.own [])=true then none else C f l (some B) fun r B'=>match B' with
  |some B'=>if B'.t.cq B.t=true then K {v:=r,bx:=some (id,B')} else none
  |none=>none
 |none=>none
def kN(g:Bool)(x y:SV)(K:Out->Option R):Option R:=
 match x,y with
 | .aj (.int k) m _,.aj (.int _) n _=>K {v:=[.aj (.int k) (bif g then(if m<n then n else m) else(if n<m then n else m)) []]}
 |_,_=>none
def ph(E:Env)(T:TypeId)(K:Out->Option R):Option R:=
 match E.ty T with
 |some (.sl e t)=>K {v:=[.aj (.sl e t) ([]:List (El t)) [[]]]}
 |_=>K {v:=[.cJ]}
def nX(s:State):Operand->Option (Nat×List SV)
 | .tmp t=>bif Nat.beq (s.slot t).length 1 then none else some (t,s.slot t)
 |_=>none
def kV(t:Nat):Nat->List (Nat×Nat)
 |0=>[]
 |n+1=>(t,n)::kV t n
def gb(E:Env)(d:Option Nat):Bool:=
 match d with
 |some d=>E.sh.any (Nat.beq d)
 |none=>false
def takes(E:Env)(d:Option Nat):Bool:=
 match d with
 |some d=>E.mv.any (Nat.beq d)
 |none=>false
def Out.shut(u:Out):Out:={u with v:=u.v.map SV.shut}
def uz(f:FuncId)(x y:SV)(K:Out->Option R):Option R:=
 match x,y with
 | .view t a,.view u b=>K {v:=[.cap f t a u b]}
 |_,_=>none
def act(E:Env)(C:FuncId->bV R)(ops:List Oper)(o:Oper)(s:State)(K:Out->Option R):Option R:=
 match o.op with
 | .move x=>match nX s x with
   |some (t,l)=>bif gb E o.dst then K {v:=l.map SV.shut} else K {v:=l,cl:=bif l.all fun v=>v.own.isEmpty then [] else kV t l.length}
   |none=>match s.aG x with
    | .aj t y w=>bif ZN ops o.dst||takes E o.dst then K {v:=[.aj t y w],cl:=yE w x} else K {v:=[.aj t y []]}
    | .undef=>none
    | .bA _ _ _ _=>none
    | .cJ=>ph E o.type K
    |v=>K {v:=[v]}
 | .assign x=>match s.aG x with
   | .aj t y w=>K {v:=[.aj t y w],cl:=yE w x}
   | .undef=>none
   | .bA _ _ _ _=>none
   | .cJ=>ph E o.type K
   |v=>K {v:=[v]}
 | .pick c a b=>match s.aG c with
   | .aj .bool p _=>bif p then K {v:=[(s.aG a).shut]} else K {v:=[(s.aG b).shut]}
   |_=>none
 | .binOp op T x y _=>bin E op T (s.aG x) (s.aG y) fun v=>K {v}
 | .unOp op _ x=>Mh op (s.aG x) K
 | .convert S T x=>match s.aG x with
   | .ptr id (.aF (.ju n) a b) []=>kz E S T s id n a b K
   |v=>lQ E S T v K
 | .load T a=>load E T s (ZN ops o.dst||Bl E ops o.dst||Qu ops o.dst) (s.aG a) K
 | .store T a x=>store E T s (s.aG a) x K
 | .nilCheck x=>match s.aG x with
   | .ptr id t p=>if(t.bH&& !t.fb)=true then none else K {v:=[.ptr id t p]}
   | .view t y=>K {v:=[.view t y]}
   |_=>none
 | .fieldAddr T x j=>match E.gr T with
   |some (ta,tb)=>IC (s.aG x) j ta tb K
   |none=>SK (E.ty T) (s.aG x) j K
 | .indexAddr T x i=>SN E T (s.aG x) (s.aG i) K
 | .index T x i=>SO E T (s.aG x) (s.aG i) K
 | .field T x j=>match E.ty T with
   |some t=>if t.dx=false then none else(s.aG x).el t fun y=>match El.get t [j] y with
    |some ⟨u,z⟩=>K {v:=[.aj u z []]}
    |none=>none
   |none=>none
 | .slice T x lo hi none=>match s.aG x with
   | .ptr id (.aF (.ju n) a b) []=>(match E.ty T with
     |some (.sl _ t)=>if a.cq t=true then uC n id a b (lo.map s.aG) (hi.map s.aG) K else none
     |_=>none)
   | .ptr id (.arr n t) []=>rZ E T s id n t (lo.map s.aG) (hi.map s.aG) K
   |v=>sc E T v (lo.map s.aG) (hi.map s.aG) K
 | .makeFunc (.func f) first captured=>match first.toList,captured.toList with
   | [],[x]=>nz f (s.aG x) K
   | [],[x,y]=>uz f (s.aG x) (s.aG y) K
   |_,_=>none
 | .alloc T=>match E.ty T,o.dst with
   |some t,some d=>match s.bs[d+1]? with
    |some none=>K {v:=[.ptr (d+1) t []],bx:=some (d+1,⟨t,El.bU t,yC t⟩)}
    |_=>none
   |none,some d=>(match E.gr T with
    |some (ta,tb)=>match s.bs[d+1]? with
     |some none=>K {v:=[.ptr (d+1) (.aF .bC ta tb) []],bx:=some (d+1,⟨.aF .bC ta tb,(El.bU ta,(none,none),(0:Int)),[]::lC⟩)}
     |_=>none
    |none=>match E.bl T with
    |some e=>match s.bs[d+1]? with
     |some none=>K {v:=[.ptr (d+1) (.aF (.gY T e) .unit .unit) []],bx:=some (d+1,⟨.aF (.gY T e) .unit .unit,(⟨#[]⟩:ByteArray),[[]]⟩)}
     |_=>none
    |none=>none)
   |_,_=>none
 | .box T x=>match E.ty T,o.dst with
   |some t,some d=>match s.bs[d+1]? with
    |some none=>(s.aG x).el t fun y=>K {v:=[.ptr (d+1) t []],bx:=some (d+1,⟨t,y,(s.aG x).own⟩),cl:=src x}
    |_=>none
   |_,_=>none
 | .build T parts=>match E.ty T with
   |some t=>if t.agg=false then none else sL t (El.bU t) (yC t) (m9 s parts.toList).1 fun y own=>K {v:=[.aj t y own],cl:=(m9 s parts.toList).2}
   |none=>none
 | .buildSlice T n parts=>match E.ty T with
   |some (.sl e t)=>if Nat.beq t.cells 0=true then none else bif Nat.ble (n*t.cells) 16777216 then B4 t (List.replicate n (El.bU t)) (parts.toList.map fun p=>(p.1,s.aG p.2)) fun y=>K {v:=[.aj (.sl e t) y [[]]]} else none
   |_=>none
 | .extract x j=>match x with
   | .tmp t=>if Nat.beq (s.slot t).length 1=true then(match one (s.slot t),j with
      | .over,0=>K {v:=bl false}
      |_,_=>none) else match(s.slot t)[j]? with
     |some (.aj u y w)=>K {v:=[.aj u y w],cl:=bif w.isEmpty then [] else [(t,j)]}
     |some .undef=>none
     |some (.bA _ _ _ _)=>none
     |some v=>K {v:=[v]}
     |none=>none
   |_=>none
 | .makeMap T none=>match nQ E T with
   |some (kt,vt)=>kO s o.dst (.aF .mp kt vt) ([]:List (El kt×El vt)) (.aF .mp kt vt) K
   |none=>none
 | .lookup T x i false=>lV E T s (s.aG x) (s.aG i) K
 | .mapUpdate T m k x=>mS E T s (s.aG m) (s.aG k) (s.aG x) K
 | .insert T m k x=>mS E T s (s.aG m) (s.aG k) (s.aG x) K
 | .range T x=>match E.ty T with
   |some .str=>(s.aG x).el .str fun y=>kO s o.dst kI ((y,0):ByteArray×Nat) kI K
   |_=>none
 | .next x true=>lX s (s.aG x) K
 | .makeSlice T l c=>lW E T s o.dst l (s.aG l) (s.aG c) K
 | .call ⟨.value (.func f),args,_⟩=>match He s args.toList with
   |some (t,id,a,b,j,r)=>kv C s f t id a b j (r.map s.aG) K
   |none=>gy C s o.dst f (args.toList.map s.aG) fun u=>K (bif gb E o.dst then u.shut else u)
 | .call ⟨.value (.tmp y),args,_⟩=>match s.aG (.tmp y) with
   | .ptr id (.aF (.sS f) u _) []=>if u.qW=true then none else gy C s o.dst f (args.toList.map s.aG++ [.ptr id u []]) K
   | .cap f t x u y=>gy C s o.dst f (args.toList.map s.aG++ [.view t x,.view u y]) K
   |_=>none
 | .call ⟨.builtin .copy,args,argTypes⟩=>match args.toList,argTypes.toList with
   | [d,x],T::_=>copyV E T s (s.aG d) (s.aG x) K
   |_,_=>none
 | .call ⟨.builtin .len,args,argTypes⟩=>match args.toList,argTypes.toList with
   | [x],[T]=>vj E T (s.aG x) K
   |_,_=>none
 | .call ⟨.builtin .append,args,argTypes⟩=>match args.toList,argTypes.toList with
   | [b,x],[T,U]=>R5 E T U b (s.aG b) (s.aG x) K
   |_,_=>none
 | .call ⟨.builtin .max,args,_⟩=>match args.toList with
   | [x,y]=>kN true (s.aG x) (s.aG y) K
   |_=>none
 | .call ⟨.builtin .min,args,_⟩=>match args.toList with
   | [x,y]=>kN false (s.aG x) (s.aG y) K
   |_=>none
 |_=>none
def Sc(ops:List Oper)(g:Nat):Option Nat:=(ops[g]?).bind (·.dst)
def step(E:Env)(C:FuncId->bV R)(ops:List Oper)(o:Oper)(s:State)(K:State->Option R):Option R:=
 let go (s:State):Option R:=act E C ops o s fun u=>K (s.apply o.dst u)
 let pass (s:State):Option R:=K (s.av o.dst [.skip])
 match o.guard with
 |none=>go s
 |some (g,want)=>match Sc ops g with
  |none=>none
  |some d=>match s.slot d with
   | [.aj .bool p []]=>bif p then(let s:=s.av (some d) (bl true);bif want then go s else pass s) else(let s:=s.av (some d) (bl false);bif want then pass s else go s)
   | [.skip]=>pass s
   |_=>none
def steps(E:Env)(C:FuncId->bV R)(ops:List Oper):List Oper->State->(State->Option R)->Option R
 | [],s,K=>K s
 |o::r,s,K=>step E C ops o s fun s=>steps E C ops r s K
structure eB where
 i:Nat
 r:Nat
 w:Nat
 br:Nat
 bw:Nat
def bit(i:Nat):Nat:=1<<<i
def jN:List Nat->Nat
 | []=>0
 |i::r=>bit i|||jN r
def z40:List Operand->List Nat
 | []=>[]
 | .tmp t::r=>t::z40 r
 |_::r=>z40 r
def looks(ops:List Oper)(o:Oper):List Nat:=z40 o.op.operands.toList++(match o.guard with
 |some (g,_)=>(Sc ops g).toList
 |none=>[])
def cp:SV->List Nat
 | .ptr id _ _=>[id]
 | .bA id _ _ _=>[id]
 |_=>[]
def zx(s:State)(o:Oper):List Nat:=
 match o.op with
 | .load _ a=>cp (s.aG a)
 | .store _ a _=>cp (s.aG a)
 | .alloc _| .box _ _| .makeMap _ _| .range _ _| .makeSlice _ _ _=>o.dst.toList.map fun d=>d+1
 | .convert _ _ x=>cp (s.aG x)
 | .slice _ x _ _ _=>cp (s.aG x)
 | .lookup _ x _ _=>cp (s.aG x)
 | .mapUpdate _ m _ _=>cp (s.aG m)
 | .insert _ m _ _=>cp (s.aG m)
 | .next x _=>cp (s.aG x)
 | .call ⟨.value y,args,_⟩=>(args.toList.flatMap fun x=>cp (s.aG x))++(cp (s.aG y)++o.dst.toList.map fun d=>d+1)
 | .call ⟨.builtin .copy,args,_⟩=>args.toList.flatMap fun x=>cp (s.aG x)
 |_=>[]
def gS(ops:List Oper)(o:Oper)(i:Nat)(s:State)(u:Out):eB:=
 ⟨i,jN (looks ops o),jN (o.dst.toList++u.cl.map (·.1)),jN (zx s o),jN (u.bx.toList.map (·.1))⟩
def eB.apart(a b:eB):Bool:=
 Nat.beq (a.w&&&(b.r|||b.w)) 0&&(Nat.beq (b.w&&&a.r) 0&&(Nat.beq (a.bw&&&(b.br|||b.bw)) 0&&Nat.beq (b.bw&&&a.br) 0))
def zy:List Edge->Nat
 | []=>0
 |e::r=>bif Region.binds .any e then bit e.on|||zy r else zy r
def jQ(ops:List Oper):Nat->Nat->Nat
 |0,m=>m
 |i+1,m=>jQ ops i (match ops[i]? with
  |some o=>bif m.testBit i then m|||zy o.after.toList else m
  |none=>m)
def fits(ops:List Oper)(m:Nat)(f:eB)(tr:List eB):Bool:=Nat.ble (m+1) (bit f.i)&&tr.all fun a=>m.testBit a.i||(a.apart f||(jQ ops f.i m).testBit a.i)
def l7(E:Env)(C:FuncId->bV R)(ops:List Oper)(o:Oper)(i:Nat)(s:State)(tr:List eB)(K:State->List eB->Option R):Option R:=
 let go (s:State):Option R:=act E C ops o s fun u=>bif fits ops (zy o.after.toList) (gS ops o i s u) tr then K (s.apply o.dst u) (gS ops o i s u::tr) else none
 let pass (s:State):Option R:=bif fits ops (zy o.after.toList) (gS ops o i s {v:=[.skip]}) tr then K (s.apply o.dst {v:=[.skip]}) (gS ops o i s {v:=[.skip]}::tr) else none
 match o.guard with
 |none=>go s
 |some (g,want)=>match Sc ops g with
  |none=>none
  |some d=>match s.slot d with
   | [.aj .bool p []]=>bif p then(let s:=s.av (some d) (bl true);bif want then go s else pass s) else(let s:=s.av (some d) (bl false);bif want then pass s else go s)
   | [.skip]=>pass s
   |_=>none
def yO(E:Env)(C:FuncId->bV R)(ops:List Oper):List Oper->Nat->State->List eB->(State->Option R)->Option R
 | [],_,s,_,K=>K s
 |o::r,i,s,tr,K=>l7 E C ops o i s tr fun s tr=>yO E C ops r (i+1) s tr K
inductive Ex where
 |normal
 |exit (id:Nat)
 |ret
def vD:Code->Nat
 | .region id _ _=>id
 | .seq a _=>vD a
 | .cond _ a _=>vD a
 | .block _ b=>vD b
 | .loop b=>vD b
 |_=>0
def gJ{α:Type}(z:α)(l:List Nat):Nat->List α->List α
 |_,[]=>[]
 |i,x::r=>(bif l.any (Nat.beq i) then x else z)::gJ z l (i+1) r
def SV.roots(l:List Nat):SV->Bool
 | .ptr 0 _ _=>true
 | .ptr (id+1) _ _=>l.any (Nat.beq id)
 | .bA 0 _ _ _=>true
 | .bA (id+1) _ _ _=>l.any (Nat.beq id)
 |_=>true
def ltL:List Nat->List Nat->Bool
 | [],[]=>false
 | [],_::_=>true
 |_::_,[]=>false
 |a::p,b::q=>Nat.ble (a+1) b||(Nat.beq a b&&ltL p q)
def vg(p:List Nat):List (List Nat)->List (List Nat)
 | []=>[p]
 |q::r=>bif ltL q p then q::vg p r else p::q::r
def nV:List (List Nat)->List (List Nat)
 | []=>[]
 |p::r=>vg p (nV r)
def SV.norm:SV->SV
 | .aj t x own=> .aj t x (nV own)
 |v=>v
def bD.norm(B:bD):bD:={B with own:=nV B.own}
def State.norm(s:State):State:=⟨s.sl.map fun v=>v.map SV.norm,s.bs.map fun b=>b.map bD.norm⟩
def sM(l:List Nat)(s:State)(K:State->Option R):Option R:=
 let sl:=gJ [.undef] l 0 s.sl
 bif sl.all (fun v=>v.all (SV.roots l)) then K (State.norm ⟨sl,s.bs.headD none::gJ none l 0 s.bs.tail⟩) else none
def cL(k:Nat)(f:Unit->Option R):Option R:=
 match k with
 |0=>none
 |_+1=>f ()
def nR(E:Env)(k r:Nat)(s:State)(K:State->Option R):Option R:=
 match E.join r with
 |none=>K s
 |some l=>sM l s fun s=>cL k fun _=>K s
def mC(id:Nat)(l:List SV):List SV:=l.map fun v=>match v with
 | .ptr j _ _=>bif Nat.beq j id then .undef else v
 |v=>v
def sw(E:Env)(r:Nat)(s:State)(K:State->Option R):Option R:=
 match E.fz r with
 |none=>K s
 |some (d,T)=>match s.slot d,E.ty T with
  | [.ptr id (.aF (.ju n) a b) []],some (.sl e t)=>if a.cq t=true then match s.box id with
    |some B=>if h:B.t.cq (.aF .row t b)=true then
      bif Nat.beq n (List.length (Ty.cast h B.x:List (El t))) then K {sl:=(s.sl.map (mC id)).set d [.aj (.sl e t) (Ty.cast h B.x:List (El t)) []],bs:=s.bs.set id none} else none
     else none
    |none=>none else none
  |_,_=>none
def sO(id:Nat)(B:bD)(v:SV):SV:=
 match v with
 | .ptr j t p=>bif Nat.beq j id then(if t.cq B.t=true then match El.get B.t p B.x with
    |some ⟨u,y⟩=> .view u y
    |none=> .undef else .undef) else .ptr j t p
 |v=>v
def Xt(id:Nat)(s:State)(K:State->Option R):Option R:=
 match s.box id with
 |some B=>if B.t.bH=true then none else K {sl:=s.sl.map fun l=>l.map (sO id B),bs:=s.bs.set id none}
 |none=>none
def Il:List Nat->State->(State->Option R)->Option R
 | [],s,K=>K s
 |id::r,s,K=>Xt id s fun s=>Il r s K
def jG(l:List Nat):Nat->List (Option bD)->List (Option bD)
 |_,[]=>[]
 |i,b::r=>(bif l.any (Nat.beq i) then b.map (fun B=>{B with own:=[]}) else b)::jG l (i+1) r
def State.drop(l:List Nat)(s:State):State:={s with bs:=jG l 0 s.bs}
def az(body:State->(Ex->State->Option R)->Option R)(l lx:List Nat):Nat->State->(Ex->State->Option R)->Option R
 |0,_,_=>none
 |k+1,s,K=>body s fun e s=>match e with
  | .normal=>sM l s fun s=>az body l lx k s K
  |e=>sM lx s fun s=>K e s
def Ty.flat:Ty->Bool
 | .sl _ _=>false
 | .aF _ _ _=>false
 | .arr _ t=>t.flat
 | .pair a b=>a.flat&&b.flat
 |_=>true
def SV.flat:SV->Bool
 | .aj t _ own=>t.flat&&own.isEmpty
 | .ptr _ _ _| .view _ _| .cap _ _ _ _ _| .bA _ _ _ _=>false
 |_=>true
def lR(o:Nat):Nat->List (List SV)->Bool
 |_,[]=>true
 |i,l::r=>(Nat.beq i o||l.all SV.flat)&&lR o (i+1) r
def kK:Nat->Nat->List (List SV)->List (List SV)
 |0,_,sl=>sl
 |n+1,m,sl=>kK n (m+1) (sl.set m [.undef])
def isDst(o:Oper)(d:Nat):Bool:=
 match o.dst,o.guard with
 |some d',none=>Nat.beq d' d
 |_,_=>false
def fZ(x:Operand)(i:Nat):Bool:=
 match x with
 | .tmp j=>Nat.beq j i
 |_=>false
def ya(E:Env)(T:TypeId):Bool:=
 match E.ty T with
 |some (.int .u8)=>true
 |_=>false
def Xu(E:Env)(T:TypeId):Bool:=
 match E.ty T with
 |some (.sl _ (.int .u8))=>true
 |_=>false
def Hd(o:Oper)(d x:Nat):Bool:=isDst o d&&(match o.op with
 | .move y=>fZ y x
 |_=>false)
def isLen(E:Env)(o:Oper)(d x:Nat):Bool:=isDst o d&&(match o.op with
 | .call ⟨.builtin .len,dT,ts⟩=>match dT.toList,ts.toList with
   | [y],[T]=>fZ y x&&Xu E T
   |_,_=>false
 |_=>false)
def ZO(o:Oper)(d x:Nat):Bool:=isDst o d&&(match o.op with
 | .binOp .sub _ y (.const (.int .i64 c)) _=>fZ y x&&decide (c=1)
 |_=>false)
def x9(E:Env)(o:Oper)(d x i:Nat):Bool:=isDst o d&&(match o.op with
 | .indexAddr T y j=>fZ y x&&(fZ j i&&Xu E T)
 |_=>false)
def F4(E:Env)(o:Oper)(d x:Nat):Bool:=isDst o d&&(match o.op with
 | .load T y=>fZ y x&&ya E T
 |_=>false)
def vi(o:Oper)(d x y:Nat):Bool:=isDst o d&&(match o.op with
 | .binOp .add _ u v _=>fZ u x&&fZ v y
 |_=>false)
def vh(E:Env)(o:Oper)(x y:Nat):Bool:=(match o.dst,o.guard with
 |none,none=>true
 |_,_=>false)&&(match o.op with
 | .store T u v=>fZ u x&&(fZ v y&&ya E T)
 |_=>false)
def F7(E:Env)(o x m:Nat)(ops:List Oper):Bool:=
 match ops with
 | [a0,a1,a2,a3,a4,a5,a6,a7,a8,a9,Ck,Cl,a12,KR]=>Hd a0 m o&&(Hd a1 (m+1) o&&(isLen E a2 (m+2) (m+1)&&(ZO a3 (m+3) (m+2)&&(Hd a4 (m+4) o&&(Hd a5 (m+5) o&&(isLen E a6 (m+6) (m+5)&&(ZO a7 (m+7) (m+6)&&(x9 E a8 (m+8) (m+4) (m+7)&&(F4 E a9 (m+9) (m+8)&&(Hd Ck (m+10) x&&(vi Cl (m+11) (m+9) (m+10)&&(x9 E a12 (m+12) m (m+3)&&vh E KR (m+12) (m+11)))))))))))))
 |_=>false
def Bz(e:TypeId)(xs:List Int)(y:Int)(own:List (List Nat)):List SV:=[.aj (.sl e (.int .u8)) (xs.set (IntKind.i64.wrap ((xs.length:Int)-1)).toNat (IntKind.u8.wrap (xs.getD (IntKind.i64.wrap ((xs.length:Int)-1)).toNat 0+y)):List Int) own]
def l8(E:Env)(q:Nat×Nat×Nat)(ops:List Oper)(s:State)(K:State->Option R):Option R:=
 bif F7 E q.1 q.2.1 q.2.2 ops then
  bif Nat.ble (q.1+1) q.2.2&&(Nat.ble (q.2.1+1) q.2.2&&(!(Nat.beq q.1 q.2.1)&&Nat.ble (q.2.2+13) s.sl.length)) then
   match s.slot q.1,s.slot q.2.1 with
   | [.aj (.sl e (.int .u8)) xs own],[.aj (.int .u8) y _]=>
     bif hM own [] then
      bif lR q.1 0 (kK 13 q.2.2 s.sl)&&s.bs.all Option.isNone then
       zd (IntKind.i64.wrap ((List.length (xs:List Int):Int)-1)) (List.length (xs:List Int)) (K ⟨(kK 13 q.2.2 s.sl).set q.1 (Bz e xs y own),s.bs⟩)
      else none
     else none
   |_,_=>none
  else none
 else none
def xI(own:List (List Nat)):List (List Nat):=own.filterMap fun p=>match p with
 |(j+1)::p=>some (j::p)
 |_=>none
def Ty.cM:Ty->List (List Nat)->Bool
 | .sl _ t,own=>t.flat&&hM own []
 | .pair a b,own=>a.cM (SS own [0])&&b.cM (xI own)
 | .aF _ _ _,_=>false
 | .arr _ t,_=>t.flat
 |_,_=>true
def bD.cM(B:bD):Bool:= !B.t.bH&&B.t.cM B.own
def SV.cM(bs:List (Option bD)):SV->Bool
 | .aj t _ own=>t.cM own
 | .view _ _| .cap _ _ _ _ _| .bA _ _ _ _=>false
 | .ptr id _ _=>match bs.getD id none with
   |some B=>B.cM
   |none=>false
 |_=>true
def hold(bs:List (Option bD))(l:List SV):List SV:=bif l.all (SV.cM bs) then l else [.undef]
def ZU:Option bD->Option bD
 |some B=>bif B.cM then some B else none
 |none=>none
def State.cM(x:Nat)(s:State):State:=⟨(s.sl.set x [.undef]).map (hold s.bs),s.bs.map ZU⟩
def vp(E:Env)(x d:Nat)(T T':TypeId)(i vo:Operand)(s:State)(K:State->Option R):Option R:=
 match s.slot x with
 | [.aj (.sl e t) xs own]=>bif hM own [] then
     match E.ty T,E.ty T' with
     |some u,some w=>bif u.cq (.sl e t)&&(w.cq t&&Nat.ble (d+1) s.sl.length) then
       (s.aG i).num fun n=>((s.av (some d) [.undef]).aG vo).el t fun _=>zd n (List.length (xs:List (El t))) (K ((s.av (some d) [.undef]).cM x))
      else none
     |_,_=>none
   else none
 |_=>none
def lY(o:Oper):Bool:=
 match o.dst,o.guard with
 |none,none=>true
 |_,_=>false
def jP(E:Env)(oA oS:Oper)(s:State)(K:State->Option R):Option R:=
 match oA.op,oS.op with
 | .indexAddr T (.tmp x) i,.store T' (.tmp d) vo=>bif isDst oA d&&(!(Nat.beq x d)&&lY oS) then vp E x d T T' i vo s K else none
 |_,_=>none
def Xx{α:Type}:List α->Option (List α×α×α)
 | []=>none
 | [_]=>none
 | [a,b]=>some ([],a,b)
 |a::r=>match Xx r with
  |some (l,x,y)=>some (a::l,x,y)
  |none=>none
def l5(E:Env)(C:FuncId->bV R)(ops:List Oper)(s:State)(K:State->Option R):Option R:=
 match Xx ops with
 |some (l,oA,oS)=>steps E C ops l s fun s=>jP E oA oS s K
 |none=>none
def T7{α:Type}:List α->Option (List α×α×α×α)
 | []=>none
 | [_]=>none
 | [_,_]=>none
 | [a,b,c]=>some ([],a,b,c)
 |a::r=>match T7 r with
  |some (l,x,y,z)=>some (a::l,x,y,z)
  |none=>none
def aaL(s:State)(d1 d2 d3:Nat)(ta tb:Ty)(y:El ta):State:=
 (((s.av (some d1) [.undef]).aB (some (d2+1,⟨.aF .bC ta tb,(y,(none,none),(0:Int)),[]::lC⟩))).av (some d2) [.undef]).av (some d3) [.ptr (d2+1) (.aF .bC ta tb) []]
def ss(E:Env)(oB oX oA:Oper)(s:State)(K:State->Option R):Option R:=
 match oB.op,oX.op,oA.op with
 | .build T parts,.box T' (.tmp e1),.assign (.tmp e2)=>match oB.dst,oX.dst,oA.dst with
   |some d1,some d2,some d3=>bif Nat.beq T T'&&(Nat.beq d1 e1&&(Nat.beq d2 e2&&(isDst oB d1&&(isDst oX d2&&(isDst oA d3&&(Nat.ble (d1+1) s.sl.length&&Nat.ble (d2+1) s.sl.length)))))) then
     match parts.toList,E.gr T with
     | [(0,x)],some (ta,tb)=>(s.aG x).el ta fun y=>match s.bs[d2+1]? with
       |some none=>K (aaL s d1 d2 d3 ta tb y)
       |_=>none
     |_,_=>none
    else none
   |_,_,_=>none
 |_,_,_=>none
def HG(E:Env)(C:FuncId->bV R)(ops:List Oper)(s:State)(K:State->Option R):Option R:=
 match T7 ops with
 |some (l,oB,oX,oA)=>steps E C ops l s fun s=>ss E oB oX oA s K
 |none=>none
def nP(s:State)(id m j:Nat)(ta tb:Ty)(x:El (.aF .bC ta tb))(own:List (List Nat))(y:El tb):State:=
 ⟨s.sl.map (mC m),(s.bs.set m none).set id (some ⟨.aF .bC ta tb,(x.1,gj j (some y) x.2.1,x.2.2),own⟩)⟩
def kL(E:Env)(oS:Oper)(s:State)(K:State->Option R):Option R:=
 match oS.op with
 | .store T (.tmp x) (.tmp y)=>bif lY oS then if E.pt T=true then match s.slot x with
    | [.ptr id (.aF .bC ta tb) [1,j]]=>om s id ta tb fun z own=>bif hM own [] then match s.slot y with
      | [.ptr m tb' []]=>match s.box m with
        |some B=>if h:B.t.cq tb=true then bif tb'.cq tb&&(!tb.bH&&(hM B.own [2]&& !(Nat.beq id m))) then K (nP s id m j ta tb z own (Ty.cast h B.x)) else none else none
        |none=>none
      | [.eh]=>K (s.aB (some (id,⟨.aF .bC ta tb,(z.1,gj j none z.2.1,z.2.2),own⟩)))
      |_=>none
      else none
    |_=>none
    else none else none
 |_=>none
def Xw{α:Type}:List α->Option (List α×α)
 | []=>none
 | [a]=>some ([],a)
 |a::r=>match Xw r with
  |some (l,x)=>some (a::l,x)
  |none=>none
def sr(E:Env)(C:FuncId->bV R)(k:Nat)(ops:List Oper)(s:State)(K:State->Option R):Option R:=
 match Xw ops with
 |some (l,oS)=>match ops[k]? with
  |some oD=>match oD.op,oD.dst with
   | .extract (.tmp t) j,some d=>bif isDst oD d&&(Nat.ble (k+1) l.length&&(Nat.ble (zy oS.after.toList+1) (bit l.length)&&Nat.beq (jQ ops l.length (zy oS.after.toList)|||bit k) (bit l.length-1))) then
      yO E C ops l 0 s [] fun s=>bif Nat.ble (j+1) (s.slot t).length&& !(Nat.beq (s.slot t).length 1) then kL E oS (s.av (some d) [.undef]) K else none
     else none
   |_,_=>none
  |none=>none
 |none=>none
def GV(E:Env)(C:FuncId->bV R)(i:Nat)(ops:Array Oper)(d:Bool)(s:State)(K:State->Option R):Option R:=
 sw E i s fun s=>Il (E.fr i) s fun s=>bif d then yO E C ops.toList ops.toList 0 s [] K else steps E C ops.toList ops.toList s K
def ev(E:Env)(C:FuncId->bV R)(k:Nat):Code->State->(Ex->State->Option R)->Option R
 | .skip,s,K=>K .normal s
 | .region i ops d,s,K=>match E.sp with
   |some (j,q)=>bif Nat.beq i j then(match d with
    |true=>none
    |false=>bif Nat.beq q.2.2 0 then l5 E C ops.toList s (K .normal) else l8 E q ops.toList s (K .normal)) else GV E C i ops d s (K .normal)
   |none=>match E.sg with
    |none=>GV E C i ops d s (K .normal)
    |some (m,l,k)=>bif Nat.beq i m then(match d with
     |true=>none
     |false=>HG E C ops.toList s (K .normal)) else bif Nat.beq i l then(match d with
     |true=>sr E C k ops.toList s (K .normal)
     |false=>none) else GV E C i ops d s (K .normal)
 | .seq a b,s,K=>ev E C k a s fun e s=>match e with
   | .normal=>nR E k (vD b) s fun s=>ev E C k b s K
   |e=>K e s
 | .cond c a b,s,K=>match s.aG c with
   | .aj .bool p _=>bif p then ev E C k a (s.av (vA c) (bl true)) K else ev E C k b (s.av (vA c) (bl false)) K
   |_=>none
 | .block id b,s,K=>ev E C k b s fun e s=>match e with
   | .exit j=>bif Nat.beq j id then K .normal s else K (.exit j) s
   |e=>K e s
 | .loop b,s,K=>sM (E.dF (vD b)) (s.drop (E.dr (vD b))) fun s=>az (ev E C k b) (E.dF (vD b)) (E.lU (vD b)) k s K
 | .exit id,s,K=>K (.exit id) s
 | .ret,s,K=>K .ret s
 |_,_,_=>none
def ic(E:Env):State->List ResultVar->Option (List SV×State)
 |s,[]=>some ([],s)
 |s,.tmp t::r=>if(one (s.slot t)).bM=true then none else match ic E (s.close [(t,0)]) r with
  |some (l,s')=>some (one (s.slot t)::l,s')
  |none=>none
 |s,.cell p T::r=>match s.slot p,E.ty T with
  | [.ptr id u []],some t=>match s.box id with
    |some B=>if(t.cq B.t&& !u.bH)=true then match ic E (s.aB (some (id,{B with own:=[]}))) r with
      |some (l,s')=>some (.aj B.t B.x B.own::l,s')
      |none=>none
     else none
    |none=>none
  |_,_=>none
def B6:List SV->List Nat
 | []=>[]
 | .ptr id _ _::r=>id::B6 r
 |_::r=>B6 r
def ID(s:State)(bx:Option bD)(l:List SV)(K:List SV->Option bD->Option R):Option R:=
 match bx,B6 l with
 |some _,[]=>match s.box 0 with
  |some B=>K l (some B)
  |none=>none
 |none,[]=>K l none
 |none,[id]=>match s.box id with
  |some B=>K (l.map (SV.gO 0)) (some B)
  |none=>none
 |_,_=>none
def ib(E:Env)(l:List SV):List SV:=bif E.ro then l.map SV.shut else l
def aN:List Ty->List SV->List SV
 | .sl e t::r,.cJ::q=> .aj (.sl e t) ([]:List (El t)) []::aN r q
 |_::r,v::q=>v.shut::aN r q
 | [],q=>q
 |_,[]=>[]
def jY(E:Env)(C:FuncId->bV R)(k:Nat)(fn:Func)(code:Code)(vs:List SV)(bx:Option bD)(K:List SV->Option bD->Option R):Option R:=
 bif E.sp.isSome&&bx.isSome then none else
 let n:=fn.ntmps-vs.length
 let s:State:=⟨(aN E.ps vs).map (fun v=>[v])++List.replicate n [.undef],bx::List.replicate (vs.length+n) none⟩
 ev E C k code s fun e s=>match e with
  | .exit _=>none
  |_=>match ic E s fn.results.toList with
   |some (l,s')=>ID s' bx (ib E l) K
   |none=>none
end
end Go.Ref

namespace Go.Ref
open Go
theorem zt{R S:Type}{sv:SV}{t:Ty}{F:El t->Option R}{G:El t->Option S}{K:S->Option R}(h:∀y,F y=(G y).bind K):sv.el t F=(sv.el t G).bind K:=by
 cases sv with
 |aj t' x own=>
  simp only[SV.el]
  split
  ·exact h _
  ·rfl
 |cJ=>cases t<;>simp only[SV.el]<;>first|rfl|exact h _
 |_=>rfl
theorem zl{R S:Type}{b:Bool}{x y:Option R}{x' y':Option S}{K:S->Option R}(h:x=x'.bind K)(k:y=y'.bind K):(bif b then x else y)=(bif b then x' else y').bind K:=by
 cases b
 ·exact k
 ·exact h
theorem zn{R S:Type}{c:Prop}[Decidable c]{x y:Option R}{x' y':Option S}{K:S->Option R}(h:x=x'.bind K)(k:y=y'.bind K):(if c then x else y)=(if c then x' else y').bind K:=by
 split
 ·exact h
 ·exact k
section
variable {R:Type}
theorem zqx{op:BinOp}{k k':IntKind}{m n:Int}{K:List SV->Option R}:rX op k m k' n K=(rX op k m k' n some).bind K:=by
 unfold rX
 cases op<;>simp only<;>repeat(first|rfl|refine zl ?_ ?_|refine zn ?_ ?_)
theorem zqz{op:BinOp}{m n:ByteArray}{K:List SV->Option R}:rY op m n K=(rY op m n some).bind K:=by
 unfold rY
 cases op<;>simp only<;>repeat(first|rfl|refine zl ?_ ?_|refine zn ?_ ?_)
theorem zqw{E:Env}{op:BinOp}{T:TypeId}{x y:SV}{K:List SV->Option R}:rW E op T x y K=(rW E op T x y some).bind K:=by
 unfold rW
 split
 ·refine zn rfl (zt fun a=>zt fun b=> ?_)
  split
  ·cases op<;>rfl
  ·rfl
 ·rfl
theorem anC{E:Env}{op:BinOp}{T:TypeId}{x y:SV}{S:Type}{F:List SV->Option R}{G:List SV->Option S}{K:S->Option R}(h:∀l,F l=(G l).bind K):bin E op T x y F=(bin E op T x y G).bind K:=by
 unfold bin
 split
 ·rw[zqx,zqx (K:=G),Option.bind_assoc];congr;funext l;exact h l
 ·rw[zqz,zqz (K:=G),Option.bind_assoc];congr;funext l;exact h l
 ·refine zn rfl ?_;cases op<;>simp only<;>first|exact h _|rfl
 ·refine zn rfl ?_;cases op<;>simp only<;>first|exact h _|rfl
 ·rw[zqw,zqw (K:=G),Option.bind_assoc];congr;funext l;exact h l
theorem BJ{S:Type}{i:Int}{n:Nat}{x:Option R}{x':Option S}{K:S->Option R}(h:x=x'.bind K):zd i n x=(zd i n x').bind K:=by
 unfold zd
 exact zl (zl h rfl) rfl
theorem zdp{S:Type}{lo:Option SV}{m:Nat}{F:Nat->Option R}{G:Nat->Option S}{K:S->Option R}(h:∀l,F l=(G l).bind K):yJ lo m F=(yJ lo m G).bind K:=by
 unfold yJ
 cases lo with
 |none=>exact h _
 |some v=>exact zt fun y=>zl (zl (h _) rfl) rfl
theorem MB{S:Type}{lo hi:Option SV}{n:Nat}{F:Nat->Nat->Option R}{G:Nat->Nat->Option S}{K:S->Option R}(h:∀l h,F l h=(G l h).bind K):cutAt lo hi n F=(cutAt lo hi n G).bind K:=by
 unfold cutAt
 cases hi with
 |none=>exact zdp fun l=>h _ _
 |some w=>exact zt fun y=>zl (zl (zdp fun l=>h _ _) rfl) rfl
theorem zvt{S:Type}{t:Ty}{F:El t->List (List Nat)->Option R}{G:El t->List (List Nat)->Option S}{K:S->Option R}(h:∀y o,F y o=(G y o).bind K):∀(l:List (Nat×SV×List (List Nat))) (x:El t) (own:List (List Nat)),sL t x own l F=(sL t x own l G).bind K
 | [],x,own=>by simpa [sL] using h x own
 |(i,v,ov)::r,x,own=>by
  simp only[sL]
  refine zn rfl ?_
  split
  ·refine zt fun y=> ?_
   split
   ·exact zvt h r _ _
   ·rfl
  ·rfl
theorem zvu{S:Type}{t:Ty}{F:List (El t)->Option R}{G:List (El t)->Option S}{K:S->Option R}(h:∀y,F y=(G y).bind K):∀(l:List (Nat×SV)) (x:List (El t)),B4 t x l F=(B4 t x l G).bind K
 | [],x=>by simpa [B4] using h x
 |(i,v)::r,x=>by
  simp only[B4]
  exact zn rfl (zt fun y=>zvu h r _)
variable {S:Type} {F:Out->Option R} {G:Out->Option S} {K:S->Option R}
theorem Gd{s:State}{id:Nat}{a b:Ty}{F':El (.aF .bC a b)->List (List Nat)->Option R}{G':El (.aF .bC a b)->List (List Nat)->Option S}{K:S->Option R}(h:∀x o,F' x o=(G' x o).bind K):om s id a b F'=(om s id a b G').bind K:=by
 unfold om
 split
 ·split
  ·exact zl (h _ _) rfl
  ·rfl
 ·rfl
theorem adw{u:Ty}{s:State}{id:Nat}{t:Ty}{p:List Nat}(h:∀y,F y=(G y).bind K):GU u s id t p F=(GU u s id t p G).bind K:=by
 unfold GU
 split
 ·split
  ·split
   ·exact zn (zl (h _) rfl) rfl
   ·rfl
  ·rfl
 ·exact zn (Gd fun x o=>h _) rfl
 ·exact zn (Gd fun x o=>h _) rfl
 ·rfl
theorem acZ{u:Ty}{s:State}{id:Nat}{t:Ty}{p:List Nat}{v:SV}(h:∀y,F y=(G y).bind K):Gs u s id t p v F=(Gs u s id t p v G).bind K:=by
 unfold Gs
 split
 ·split
  ·split
   ·exact zn (zt fun y=>zl (h _) rfl) rfl
   ·rfl
  ·rfl
 ·split
  ·refine zn (Gd fun x o=>zt fun y=> ?_) rfl
   split
   ·exact zl (h _) rfl
   ·rfl
  ·rfl
 ·exact zn (Gd fun x o=>zt fun y=>zl (h _) rfl) rfl
 ·rfl
theorem adn{u:Ty}{id:Nat}{t:Ty}{p:List Nat}{j:Nat}{F:Out->Option R}{G:Out->Option S}{K:S->Option R}(h:∀y,F y=(G y).bind K):Ik u id t p j F=(Ik u id t p j G).bind K:=by
 unfold Ik
 split
 ·split
  ·refine zn ?_ rfl
   split
   ·exact zn rfl (h _)
   ·rfl
  ·rfl
 ·rfl
theorem ads{m:Nat}{t:Ty}{n:Int}{id:Nat}{r:Ty}{p:List Nat}{F:Out->Option R}{G:Out->Option S}{K:S->Option R}(h:∀y,F y=(G y).bind K):Io m t n id r p F=(Io m t n id r p G).bind K:=by
 unfold Io
 split
 ·split
  ·exact zn (BJ (h _)) rfl
  ·rfl
 ·rfl
theorem aec{v:SV}{j:Nat}{ta tb:Ty}{F:Out->Option R}{G:Out->Option S}{K:S->Option R}(h:∀y,F y=(G y).bind K):IC v j ta tb F=(IC v j ta tb G).bind K:=by
 unfold IC
 split
 ·exact zn (zl (h _) rfl) rfl
 ·rfl
theorem acP{t:Ty}{n:Int}{id:Nat}{r:Ty}{p:List Nat}(h:∀y,F y=(G y).bind K):Rl t n id r p F=(Rl t n id r p G).bind K:=by
 unfold Rl
 split
 ·exact zn (BJ (h _)) rfl
 ·rfl
theorem adv{u:Ty}{B:bD}{t:Ty}{p:List Nat}(h:∀y,F y=(G y).bind K):z93 u B t p F=(z93 u B t p G).bind K:=by
 unfold z93
 split
 ·split
  ·exact zn (zl (h _) rfl) rfl
  ·rfl
 ·rfl
theorem ahz{E:Env}{T:TypeId}{s:State}{v:SV}(h:∀y,F y=(G y).bind K):kM E T s v F=(kM E T s v G).bind K:=by
 unfold kM
 split
 ·exact zn (Gd fun x o=>zl (h _) rfl) rfl
 ·rfl
theorem ald{E:Env}{T:TypeId}{s:State}{la:Bool}{v:SV}(h:∀y,F y=(G y).bind K):load E T s la v F=(load E T s la v G).bind K:=by
 unfold load
 split
 ·split
  ·exact zn (h _) rfl
  ·refine zn (adw h) ?_
   split
   ·refine zn ?_ (adv h)
    split
    ·exact zn (zl (h _) (h _)) rfl
    ·rfl
   ·rfl
  ·rfl
 ·exact ahz h
theorem aie{E:Env}{T:TypeId}{s:State}{v:SV}{x:Operand}(h:∀y,F y=(G y).bind K):store E T s v x F=(store E T s v x G).bind K:=by
 unfold store
 split
 ·split
  ·refine zn (acZ h) ?_
   split
   ·refine zn ?_ rfl
    split
    ·refine zn (zt fun y=> ?_) rfl
     split
     ·exact h _
     ·rfl
    ·rfl
   ·rfl
  ·rfl
 ·rfl
theorem aeb{t:Option Ty}{v:SV}{j:Nat}(h:∀y,F y=(G y).bind K):SK t v j F=(SK t v j G).bind K:=by
 unfold SK
 split
 ·refine zn (adn h) ?_
  split
  ·refine zn ?_ rfl
   split
   ·exact zn rfl (h _)
   ·rfl
  ·rfl
 ·refine zn ?_ rfl
  split
  ·exact zn rfl (h _)
  ·rfl
 ·rfl
theorem EN{v:SV}{F':Int->Option R}{G':Int->Option S}{K:S->Option R}(h:∀n,F' n=(G' n).bind K):v.num F'=(v.num G').bind K:=by
 unfold SV.num
 split
 ·exact h _
 ·rfl
theorem aeh{E:Env}{T:TypeId}{v i:SV}(h:∀y,F y=(G y).bind K):SN E T v i F=(SN E T v i G).bind K:=by
 unfold SN
 refine EN fun n=> ?_
 split
 ·exact zt fun y=>BJ (h _)
 ·refine zn (ads h) ?_
  split
  ·exact zn (BJ (h _)) rfl
  ·rfl
 ·exact zt fun y=>BJ (h _)
 ·exact acP h
 ·exact zn (BJ (h _)) rfl
 ·rfl
theorem aei{E:Env}{T:TypeId}{v i:SV}(h:∀y,F y=(G y).bind K):SO E T v i F=(SO E T v i G).bind K:=by
 unfold SO
 refine EN fun n=> ?_
 split
 ·exact zt fun y=>BJ (h _)
 ·exact zt fun y=>BJ (h _)
 ·rfl
theorem akG{E:Env}{T:TypeId}{v:SV}{lo hi:Option SV}(h:∀y,F y=(G y).bind K):sc E T v lo hi F=(sc E T v lo hi G).bind K:=by
 unfold sc
 split
 ·exact zt fun y=>MB fun _ _=>h _
 ·exact zt fun y=>MB fun _ _=>h _
 ·rfl
theorem ac6{E:Env}{T U:TypeId}{bo:Operand}{b x:SV}(h:∀y,F y=(G y).bind K):R5 E T U bo b x F=(R5 E T U bo b x G).bind K:=by
 unfold R5
 refine zn rfl ?_
 split
 ·refine zn rfl ?_
  split
  ·exact zt fun y=>zl (h _) rfl
  ·exact zn rfl (zt fun y=>zt fun z=>zl (h _) rfl)
  ·rfl
 ·rfl
theorem ak9{E:Env}{T:TypeId}{x:SV}(h:∀y,F y=(G y).bind K):vj E T x F=(vj E T x G).bind K:=by
 unfold vj
 split
 ·exact zt fun y=>h _
 ·split
  ·exact h _
  ·exact zt fun y=>h _
 ·exact h _
 ·rfl
theorem ag0{E:Env}{S' T:TypeId}{x:SV}(h:∀y,F y=(G y).bind K):lQ E S' T x F=(lQ E S' T x G).bind K:=by
 unfold lQ
 split
 ·exact zt fun y=>h _
 ·exact zt fun y=>h _
 ·exact zt fun y=>h _
 ·rfl
theorem agZ{E:Env}{S' T:TypeId}{s:State}{id n:Nat}{a b:Ty}(h:∀y,F y=(G y).bind K):kz E S' T s id n a b F=(kz E S' T s id n a b G).bind K:=by
 unfold kz
 split
 ·refine zn ?_ rfl
  split
  ·split
   ·exact zl (h _) rfl
   ·rfl
  ·rfl
 ·rfl
theorem zrc{s:State}{dst:Option Nat}{t:Ty}{x:El t}{p:Ty}(h:∀y,F y=(G y).bind K):kO s dst t x p F=(kO s dst t x p G).bind K:=by
 unfold kO
 split
 ·split
  ·exact h _
  ·rfl
 ·rfl
theorem zwd{s:State}{m:SV}{kt vt:Ty}{F:Nat->List (El kt×El vt)->Option R}{G:Nat->List (El kt×El vt)->Option S}{K:S->Option R}(h:∀n y,F n y=(G n y).bind K):wC s m kt vt F=(wC s m kt vt G).bind K:=by
 unfold wC
 split
 ·refine zn ?_ rfl
  split
  ·split
   ·exact h _ _
   ·rfl
  ·rfl
 ·rfl
theorem ahA{E:Env}{T:TypeId}{s:State}{m i:SV}(h:∀y,F y=(G y).bind K):lV E T s m i F=(lV E T s m i G).bind K:=by
 unfold lV
 split
 ·exact zwd fun _ _=>zt fun _=>h _
 ·rfl
theorem OU{E:Env}{T:TypeId}{s:State}{m i v:SV}(h:∀y,F y=(G y).bind K):mS E T s m i v F=(mS E T s m i v G).bind K:=by
 unfold mS
 split
 ·exact zwd fun _ _=>zt fun _=>zt fun _=>zl rfl (h _)
 ·rfl
theorem ahJ{s:State}{m:SV}(h:∀y,F y=(G y).bind K):lX s m F=(lX s m G).bind K:=by
 unfold lX
 split
 ·split
  ·split
   ·exact zl (h _) (h _)
   ·rfl
  ·rfl
 ·rfl
theorem ahE{E:Env}{T:TypeId}{s:State}{dst:Option Nat}{lo:Operand}{l c:SV}(h:∀y,F y=(G y).bind K):lW E T s dst lo l c F=(lW E T s dst lo l c G).bind K:=by
 unfold lW
 split
 ·exact zn rfl (zt fun n=>zt fun m=>zl (zl (zl (zl (h _) rfl) rfl) rfl) (zl (zl (zl (zrc h) rfl) rfl) rfl))
 ·rfl
theorem aoc{op:UnOp}{x:SV}(h:∀y,F y=(G y).bind K):Mh op x F=(Mh op x G).bind K:=by
 unfold Mh
 split
 ·exact h _
 ·exact h _
 ·rfl
end
abbrev ag:=(R:Type)->FuncId->bV R
def ag.Nat(C:ag):Prop:=∀(R S:Type) (f:FuncId) l b (F:List SV->Option bD->Option R) (G:List SV->Option bD->Option S) (K:S->Option R),(∀r b,F r b=(G r b).bind K)->C R f l b F=(C S f l b G).bind K
section
variable {R S:Type} {F:Out->Option R} {G:Out->Option S} {K:S->Option R} {C:ag}
theorem TZ(hC:C.Nat){s:State}{dst:Option Nat}{f:FuncId}{vs:List SV}(h:∀y,F y=(G y).bind K):gy (C R) s dst f vs F=(gy (C S) s dst f vs G).bind K:=by
 unfold gy
 split
 ·refine hC R S f _ _ _ _ K fun r b=> ?_
  split
  ·exact h _
  ·split
   ·split
    ·exact h _
    ·rfl
   ·rfl
 ·refine zn rfl (hC R S f _ _ _ _ K fun r b=> ?_)
  split
  ·exact zn (h _) rfl
  ·rfl
 ·rfl
theorem agS(hC:C.Nat){s:State}{f:FuncId}{t id:Nat}{a b:Ty}{j:Nat}{vs:List SV}(h:∀y,F y=(G y).bind K):kv (C R) s f t id a b j vs F=(kv (C S) s f t id a b j vs G).bind K:=by
 unfold kv
 refine zn rfl ?_
 split
 ·refine Gd fun x o=> ?_
  split
  ·refine hC R S f _ _ _ _ K fun r b=> ?_
   split
   ·split
    ·exact zl (h _) rfl
    ·rfl
   ·rfl
  ·rfl
 ·rfl
theorem agX{f:FuncId}{x:SV}(h:∀y,F y=(G y).bind K):nz f x F=(nz f x G).bind K:=by
 unfold nz
 split
 ·exact zn rfl (h _)
 ·rfl
theorem akA{f:FuncId}{x y:SV}(h:∀y,F y=(G y).bind K):uz f x y F=(uz f x y G).bind K:=by
 unfold uz
 split
 ·exact h _
 ·rfl
theorem akF{n id:Nat}{a b:Ty}{lo hi:Option SV}(h:∀y,F y=(G y).bind K):uC n id a b lo hi F=(uC n id a b lo hi G).bind K:=by
 unfold uC
 split
 ·rfl
 ·exact zdp fun l=>h _
theorem z139{t:Ty}{s:State}{id n lo:Nat}{a b:Ty}{x:SV}{e:TypeId}(h:∀y,F y=(G y).bind K):iZ t s id n lo a b x e F=(iZ t s id n lo a b x e G).bind K:=by
 unfold iZ
 refine zn (zt fun ys=> ?_) rfl
 split
 ·split
  ·exact zl (zl (h _) rfl) rfl
  ·rfl
 ·rfl
theorem akE{E:Env}{T:TypeId}{s:State}{id n:Nat}{t:Ty}{lo hi:Option SV}(h:∀y,F y=(G y).bind K):rZ E T s id n t lo hi F=(rZ E T s id n t lo hi G).bind K:=by
 unfold rZ
 split
 ·refine zn ?_ rfl
  split
  ·split
   ·exact h _
   ·rfl
  ·rfl
 ·rfl
theorem ag3{t:Ty}{s:State}{id n:Nat}{a b:Ty}{y:ByteArray}(h:∀y,F y=(G y).bind K):kA t s id n a b y F=(kA t s id n a b y G).bind K:=by
 unfold kA
 refine zn (zn ?_ rfl) rfl
 split
 ·split
  ·exact zl (h _) rfl
  ·rfl
 ·rfl
theorem ag4{E:Env}{T:TypeId}{s:State}{d x:SV}(h:∀y,F y=(G y).bind K):copyV E T s d x F=(copyV E T s d x G).bind K:=by
 unfold copyV
 split
 ·split
  ·exact ag3 h
  ·exact z139 h
 ·exact z139 h
 ·rfl
theorem Nf{g:Bool}{x y:SV}(h:∀y,F y=(G y).bind K):kN g x y F=(kN g x y G).bind K:=by
 unfold kN
 split
 ·exact h _
 ·rfl
theorem Oy{E:Env}{T:TypeId}(h:∀y,F y=(G y).bind K):ph E T F=(ph E T G).bind K:=by
 unfold ph
 split
 ·exact h _
 ·exact h _
theorem yD(hC:C.Nat){E:Env}{ops:List Oper}{o:Oper}{s:State}(h:∀y,F y=(G y).bind K):act E (C R) ops o s F=(act E (C S) ops o s G).bind K:=by
 unfold act
 split
 ·split
  ·exact zl (h _) (h _)
  ·split
   ·exact zl (h _) (h _)
   ·rfl
   ·rfl
   ·exact Oy h
   ·exact h _
 ·split
  ·exact h _
  ·rfl
  ·rfl
  ·exact Oy h
  ·exact h _
 ·split
  ·exact zl (h _) (h _)
  ·rfl
 ·exact anC fun l=>h _
 ·exact aoc h
 ·split
  ·exact agZ h
  ·exact ag0 h
 ·exact ald h
 ·exact aie h
 ·split
  ·exact zn rfl (h _)
  ·exact h _
  ·rfl
 ·split
  ·exact aec h
  ·exact aeb h
 ·exact aeh h
 ·exact aei h
 ·split
  ·refine zn rfl (zt fun y=> ?_)
   split
   ·exact h _
   ·rfl
  ·rfl
 ·split
  ·split
   ·exact zn (akF h) rfl
   ·rfl
  ·exact akE h
  ·exact akG h
 ·split
  ·exact agX h
  ·exact akA h
  ·rfl
 ·split
  ·split
   ·exact h _
   ·rfl
  ·split
   ·split
    ·exact h _
    ·rfl
   ·split
    ·split
     ·exact h _
     ·rfl
    ·rfl
  ·rfl
 ·split
  ·split
   ·exact zt fun y=>h _
   ·rfl
  ·rfl
 ·split
  ·exact zn rfl (zvt (fun y o=>h _) _ _ _)
  ·rfl
 ·split
  ·exact zn rfl (zl (zvu (fun y=>h _) _ _) rfl)
  ·rfl
 ·split
  ·refine zn ?_ ?_
   ·split
    ·exact h _
    ·rfl
   split
   ·exact h _
   ·rfl
   ·rfl
   ·exact h _
   ·rfl
  ·rfl
 ·split
  ·exact zrc h
  ·rfl
 ·exact ahA h
 ·exact OU h
 ·exact OU h
 ·split
  ·exact zt fun y=>zrc h
  ·rfl
 ·exact ahJ h
 ·exact ahE h
 ·split
  ·exact agS hC h
  ·exact TZ hC fun u=>h _
 ·split
  ·exact zn rfl (TZ hC h)
  ·exact TZ hC h
  ·rfl
 ·split
  ·exact ag4 h
  ·rfl
 ·split
  ·exact ak9 h
  ·rfl
 ·split
  ·exact ac6 h
  ·rfl
 ·split
  ·exact Nf h
  ·rfl
 ·split
  ·exact Nf h
  ·rfl
 ·rfl
end
section
variable {R S:Type} {F:State->Option R} {G:State->Option S} {K:S->Option R} {C:ag}
theorem zrn(hC:C.Nat){E:Env}{ops:List Oper}{o:Oper}{s:State}(h:∀y,F y=(G y).bind K):step E (C R) ops o s F=(step E (C S) ops o s G).bind K:=by
 unfold step
 simp only
 split
 ·exact yD hC fun y=>h _
 ·split
  ·rfl
  ·split
   ·exact zl (zl (yD hC fun y=>h _) (h _)) (zl (h _) (yD hC fun y=>h _))
   ·exact h _
   ·rfl
theorem Gm(hC:C.Nat){E:Env}{ops:List Oper}(h:∀y,F y=(G y).bind K):∀(l:List Oper) (s:State),steps E (C R) ops l s F=(steps E (C S) ops l s G).bind K
 | [],s=>h s
 |o::r,s=>by
  simp only[steps]
  exact zrn hC fun s=>Gm hC h r s
theorem aic(hC:C.Nat){E:Env}{ops:List Oper}{o:Oper}{i:Nat}{s:State}{tr:List eB}{F:State->List eB->Option R}{G:State->List eB->Option S}(h:∀y t,F y t=(G y t).bind K):l7 E (C R) ops o i s tr F=(l7 E (C S) ops o i s tr G).bind K:=by
 unfold l7
 simp only
 split
 ·exact yD hC fun y=>zl (h _ _) rfl
 ·split
  ·rfl
  ·split
   ·exact zl (zl (yD hC fun y=>zl (h _ _) rfl) (zl (h _ _) rfl)) (zl (zl (h _ _) rfl) (yD hC fun y=>zl (h _ _) rfl))
   ·exact zl (h _ _) rfl
   ·rfl
theorem QY(hC:C.Nat){E:Env}{ops:List Oper}(h:∀y,F y=(G y).bind K):∀(l:List Oper) (i:Nat) (s:State) (tr:List eB),yO E (C R) ops l i s tr F=(yO E (C S) ops l i s tr G).bind K
 | [],i,s,tr=>h s
 |o::r,i,s,tr=>by
  simp only[yO]
  exact aic hC fun s tr=>QY hC h r (i+1) s tr
theorem QT{l:List Nat}{s:State}(h:∀y,F y=(G y).bind K):sM l s F=(sM l s G).bind K:=by
 unfold sM
 exact zl (h _) rfl
end
theorem ahu{R S:Type}{k:Nat}{F:Unit->Option R}{G:Unit->Option S}{K:S->Option R}(h:F ()=(G ()).bind K):cL k F=(cL k G).bind K:=by
 unfold cL
 cases k
 ·rfl
 ·exact h
theorem ale{R S:Type}{F:State->Option R}{G:State->Option S}{K:S->Option R}{E:Env}{k r:Nat}{s:State}(h:∀y,F y=(G y).bind K):nR E k r s F=(nR E k r s G).bind K:=by
 unfold nR
 split
 ·exact h _
 ·exact QT fun s=>ahu (h _)
theorem alP{R S:Type}{F:State->Option R}{G:State->Option S}{K:S->Option R}{E:Env}{r:Nat}{s:State}(h:∀y,F y=(G y).bind K):sw E r s F=(sw E r s G).bind K:=by
 unfold sw
 split
 ·exact h _
 ·split
  ·refine zn ?_ rfl
   split
   ·split
    ·exact zl (h _) rfl
    ·rfl
   ·rfl
  ·rfl
theorem zov{R S:Type}{F:State->Option R}{G:State->Option S}{K:S->Option R}(h:∀y,F y=(G y).bind K):∀(l:List Nat) (s:State),Il l s F=(Il l s G).bind K
 | [],s=>h s
 |id::r,s=>by
  simp only[Il]
  unfold Xt
  split
  ·exact zn rfl (zov h r _)
  ·rfl
section
variable {R S:Type} {F:Ex->State->Option R} {G:Ex->State->Option S} {K:S->Option R} {C:ag}
theorem Nd{body:State->(Ex->State->Option R)->Option R}{body':State->(Ex->State->Option S)->Option S}{l lx:List Nat}
 (hb:∀(F:Ex->State->Option R) (G:Ex->State->Option S),(∀e s,F e s=(G e s).bind K)->∀s,body s F=(body' s G).bind K) (h:∀e s,F e s=(G e s).bind K):
 ∀(k:Nat) (s:State),az body l lx k s F=(az body' l lx k s G).bind K
 |0,_=>rfl
 |k+1,s=>by
  simp only[az]
  refine hb _ _ (fun e s=> ?_) s
  cases e with
  |normal=>exact QT fun s=>Nd hb h k s
  |exit id=>exact QT fun s=>h _ _
  |ret=>exact QT fun s=>h _ _
theorem OQ{E:Env}{q:Nat×Nat×Nat}{ops:List Oper}{s:State}{F:State->Option R}{G:State->Option S}{K:S->Option R}(h:∀s,F s=(G s).bind K):l8 E q ops s F=(l8 E q ops s G).bind K:=by
 unfold l8
 refine zl (zl ?_ rfl) rfl
 split
 ·refine zl (zl ?_ rfl) rfl
  unfold zd
  exact zl (zl (h _) rfl) rfl
 ·rfl
theorem ahS{E:Env}{oA oS:Oper}{s:State}{F:State->Option R}{G:State->Option S}{K:S->Option R}(h:∀s,F s=(G s).bind K):jP E oA oS s F=(jP E oA oS s G).bind K:=by
 unfold jP
 split
 ·refine zl ?_ rfl
  unfold vp
  split
  ·refine zl ?_ rfl
   split
   ·refine zl (EN fun n=>zt fun y=> ?_) rfl
    unfold zd
    exact zl (zl (h _) rfl) rfl
   ·rfl
  ·rfl
 ·rfl
theorem OE(hC:C.Nat){E:Env}{ops:List Oper}{s:State}{F:State->Option R}{G:State->Option S}(h:∀s,F s=(G s).bind K):l5 E (C R) ops s F=(l5 E (C S) ops s G).bind K:=by
 unfold l5
 split
 ·exact Gm hC (fun s=>ahS h) _ _
 ·rfl
theorem PM(hC:C.Nat){E:Env}{ops:List Oper}{s:State}{F:State->Option R}{G:State->Option S}(h:∀s,F s=(G s).bind K):HG E (C R) ops s F=(HG E (C S) ops s G).bind K:=by
 unfold HG
 split
 ·refine Gm hC (fun s=> ?_) _ _
  unfold ss
  split
  ·split
   ·refine zl ?_ rfl
    split
    ·refine zt fun y=> ?_
     split
     ·exact h _
     ·rfl
    ·rfl
   ·rfl
  ·rfl
 ·rfl
theorem On(hC:C.Nat){E:Env}{k:Nat}{ops:List Oper}{s:State}{F:State->Option R}{G:State->Option S}(h:∀s,F s=(G s).bind K):sr E (C R) k ops s F=(sr E (C S) k ops s G).bind K:=by
 unfold sr
 split
 ·split
  ·split
   ·refine zl (QY hC (fun s=> ?_) _ _ _ _) rfl
    refine zl ?_ rfl
    unfold kL
    split
    ·refine zl (zn ?_ rfl) rfl
     split
     ·refine Gd fun z own=>zl ?_ rfl
      split
      ·split
       ·split
        ·exact zl (h _) rfl
        ·rfl
       ·rfl
      ·exact h _
      ·rfl
     ·rfl
    ·rfl
   ·rfl
  ·rfl
 ·rfl
theorem wA(hC:C.Nat){E:Env}{k:Nat}:∀(c:Code) (F:Ex->State->Option R) (G:Ex->State->Option S),(∀e s,F e s=(G e s).bind K)->∀s,ev E (C R) k c s F=(ev E (C S) k c s G).bind K
 | .skip,F,G,h,s=>h _ _
 | .region i ops d,F,G,h,s=>by
   simp only[ev]
   have key:GV E (C R) i ops d s (F .normal)=(GV E (C S) i ops d s (G .normal)).bind K:=alP fun s=>zov (fun s=>zl (QY hC (fun s=>h _ _) _ _ _ _) (Gm hC (fun s=>h _ _) _ _)) _ _
   split
   ·refine zl ?_ key
    cases d with
    |true=>rfl
    |false=>exact zl (OE hC fun s=>h _ _) (OQ fun s=>h _ _)
   ·split
    ·exact key
    ·refine zl ?_ (zl ?_ key)
     ·cases d with
      |true=>rfl
      |false=>exact PM hC fun s=>h _ _
     ·cases d with
      |true=>exact On hC fun s=>h _ _
      |false=>rfl
 | .seq a b,F,G,h,s=>by
   simp only[ev]
   refine wA hC a _ _ (fun e s=> ?_) s
   cases e with
   |normal=>exact ale fun s=>wA hC b _ _ h s
   |exit id=>exact h _ _
   |ret=>exact h _ _
 | .cond c a b,F,G,h,s=>by
   simp only[ev]
   split
   ·exact zl (wA hC a _ _ h _) (wA hC b _ _ h _)
   ·rfl
 | .block id b,F,G,h,s=>by
   simp only[ev]
   refine wA hC b _ _ (fun e s=> ?_) s
   cases e with
   |normal=>exact h _ _
   |exit j=>exact zl (h _ _) (h _ _)
   |ret=>exact h _ _
 | .loop b,F,G,h,s=>by
   simp only[ev]
   exact QT fun s=>Nd (fun F G h s=>wA hC b F G h s) h k s
 | .exit id,F,G,h,s=>h _ _
 | .ret,F,G,h,s=>h _ _
 | .rangeFunc ..,F,G,h,s=>rfl
 | .scope _,F,G,h,s=>rfl
 | .label _,F,G,h,s=>rfl
 | .goto _,F,G,h,s=>rfl
 | .refuse _,F,G,h,s=>rfl
end
theorem kf{R S:Type}{x:Option R}{y:Option S}{K:S->Option R}(h:x=y.bind K){z:R}(hz:x=some z):∃w,y=some w/\K w=some z:=by
 rw[h] at hz
 exact Option.bind_eq_some_iff.1 hz
end Go.Ref

namespace Go.Ref
open Go
def eb(t:Ty)(cs:List Value):Value:=if t.agg=true then .agg cs.toArray else cs.headD undef
def bu(X:ax)(pl:Place)(e:TypeId)(k n:Nat)(v:Value):Prop:=
 (v= .slice none 0 0/\n=0)\/∃g cap cur,v= .slice (some ⟨g,0,none⟩) n cap/\X.w.heap[g]? =some (.cells cur e (0,0))/\n<=cap/\cap<=maxLen/\cur.size=cap*k/\X.ow g= .row pl (n*k)
def bn(X:ax)(pl:List Nat->Place)(t:Ty)(x:El t)(cs:List Value)(own:List (List Nat)):Prop:=
 ∀p∈own,∃e t' xs v,t.fa p/\El.get t p x=some ⟨.sl e t',xs⟩/\cs[t.off p]? =some v/\bu X (pl p) e t'.cells (List.length xs) v
def nW(t:Ty)(p:List Nat)(r:Nat)(v:Value):Prop:=
 match t,p with
 | .aF .mp _ _,_=>v= .map (some r)
 | .aF (.ju n) _ _,[]=>∃cap,v= .slice (some ⟨r,0,none⟩) n cap/\n<=cap
 | .aF (.ju n) a _,[l]=>∃cap off,v= .slice (some ⟨r,off,none⟩) (n-l) cap/\n-l<=cap/\l<=n/\((n=l/\off=0)\/off=l*a.cells)
 | .aF (.sS f) _ _,[]=>v= .func (.func f) #[] #[.pointer (some ⟨r,0,none⟩)]
 | .aF .row a _,[i]=>v= .pointer (some ⟨r,i*a.cells,none⟩)
 | .aF .bC a _,p=>v= .pointer (some ⟨r,nB a p,none⟩)/\gIn a p
 |t,p=>v= .pointer (some ⟨r,t.off p,none⟩)/\t.fa p
theorem rf{t:Ty}{p:List Nat}{r:Nat}{v:Value}(h:t.bH=false):nW t p r v↔v= .pointer (some ⟨r,t.off p,none⟩)/\t.fa p:=by
 unfold nW
 split
 all_goals first
  |exact Iff.rfl
  |simp [Ty.bH] at h
theorem Rp{t:Ty}{p:List Nat}{r:Nat}{v:Value}(h:t.qW=false):nW t p r v↔v= .pointer (some ⟨r,t.off p,none⟩)/\t.fa p:=by
 unfold nW
 split
 all_goals first
  |exact Iff.rfl
  |simp [Ty.qW] at h
def aA(X:ax)(pl:List Nat->Place):SV->Value->Prop
 | .undef,_=>True
 | .skip,v=>v=Go.undef
 | .cJ,v=>v= .slice none 0 0
 | .eh,v=>v= .pointer none
 | .aj t x own,v=>∃cs,bh X t x cs/\v=eb t cs/\bn X pl t x cs own
 | .ptr id t p,v=>∃r,X.β id=some r/\nW t p r v
 | .view t x,v=>∃ad cs,v= .pointer (some ad)/\ad.spot=none/\bh X t x cs/\∀i u,cs[i]? =some u->X.ay (ad.add i) u
 | .cap f t x u y,v=>∃ad qT cs eZ,v= .func (.func f) #[] #[.pointer (some ad),.pointer (some qT)]/\(ad.spot=none/\bh X t x cs/\∀i w,cs[i]? =some w->X.ay (ad.add i) w)/\(qT.spot=none/\bh X u y eZ/\∀i w,eZ[i]? =some w->X.ay (qT.add i) w)
 | .over,v=>v= .tuple #[.bool false]
 | .bA id a _ j,v=>∃r,X.β id=some r/\X.ow r= .box id/\X.w.cell? ⟨r,a.cells+j,none⟩=some v
theorem sG{X Y:ax}{pl gM:List Nat->Place}(h:∀a v,X.ay a v->Y.ay a v){f:Nat}{t u:Ty}{x:El t}{y:El u}{v:Value}(hr:aA X pl (.cap f t x u y) v):aA Y gM (.cap f t x u y) v:=by
 obtain⟨ad,qT,cs,eZ,h1,⟨h2,h3,h4⟩,h5,h6,h7⟩:=hr
 exact⟨ad,qT,cs,eZ,h1,⟨h2,h3.ai h,fun i w hi=>h _ _ (h4 i w hi)⟩,h5,h6.ai h,fun i w hi=>h _ _ (h7 i w hi)⟩
def cS(X:ax)(pl:Nat->List Nat->Place)(l:List SV)(v:Value):Prop:=
 match l with
 | [s]=>aA X (pl 0) s v
 |l=>∃vs:Array Value,v= .tuple vs/\vs.size=l.length/\∀(j:Nat) s u,l[j]? =some s->vs[j]? =some u->aA X (pl j) s u
def eR(X:ax)(t:Ty)(x:El t)(v:Value):Prop:=∃cs,bh X t x cs/\v=eb t cs
def dL(X:ax)(pl:List Nat->Place)(b:Ty)(m:Option (El b))(v:Value):Prop:=
 match m with
 |none=>v= .pointer none
 |some y=>∃g cs T,v= .pointer (some ⟨g,0,none⟩)/\X.w.heap[g]? =some (.cells cs T (0,0))/\X.ow g= .row (pl []) 0/\bh X b y cs.toList/\bn X pl b y cs.toList B5
def iQ(X:ax)(r:Nat)(pl:List Nat->Place)(a b:Ty)(x:El (.aF .bC a b)):Prop:=
 ∃c p0 p1 T,X.w.heap[r]? =some (.cells (c++ [p0,p1,.int .i64 x.2.2]).toArray T (0,0))/\bh X a x.1 c/\dL X (fun p=>pl (0::p)) b x.2.1.1 p0/\dL X (fun p=>pl (1::p)) b x.2.1.2 p1
def dK(X:ax)(r:Nat)(pl:List Nat->Place):(t:Ty)->El t->List (List Nat)->Prop
 | .aF .iter _ _,x,_=>X.w.heap[r]? =some (.stringIter x.1 x.2)
 | .aF .mp kt vt,x,_=>∃es clock,X.w.heap[r]? =some (.map es clock)/\es.size=List.length x/\∀(i:Nat) (q:El kt×El vt) (e:MapEntry),x[i]? =some q->es[i]? =some e->eR X kt q.1 e.key/\eR X vt q.2 e.val
 | .aF .row t _,xs,_=>∃cs T,X.w.heap[r]? =some (.cells cs T (0,0))/\cs.size=List.length xs*t.cells/\∀(j:Nat) (x:El t),xs[j]? =some x->bh X t x ((cs.toList.drop (j*t.cells)).take t.cells)
 | .aF (.gY T e) _ _,x,own=>(∃o,X.w.heap[r]? =some o)/\([]∈own->∃v,vK T e r v (Lib.strCells x) X.w/\∀g,v.ownBlock=some g->X.ow g= .row (pl []) 0)
 | .aF .bC a b,x,own=>(∃o,X.w.heap[r]? =some o)/\((∀p∈lC,p∈own)->iQ X r pl a b x)
 | .aF _ _ _,_,_=>False
 |t,x,own=>∃cs T,X.w.heap[r]? =some (.cells cs T (0,0))/\bh X t x cs.toList/\bn X pl t x cs.toList own
theorem dK.plain{X:ax}{r:Nat}{pl:List Nat->Place}{t:Ty}{x:El t}{own:List (List Nat)}(hs:t.bH=false):dK X r pl t x own↔∃cs T,X.w.heap[r]? =some (.cells cs T (0,0))/\bh X t x cs.toList/\bn X pl t x cs.toList own:=by
 cases t<;>first|exact Iff.rfl|simp [Ty.bH] at hs
theorem dK.of{X:ax}{r:Nat}{pl:List Nat->Place}{t:Ty}{x:El t}{own:List (List Nat)}{cs:Array Value}{T:TypeId}(hs:t.bH=false)(h1:X.w.heap[r]? =some (.cells cs T (0,0)))(h2:bh X t x cs.toList)(h3:bn X pl t x cs.toList own):dK X r pl t x own:=(dK.plain hs).2 ⟨cs,T,h1,h2,h3⟩
theorem eR.mono{X Y:ax}(h:∀a v,X.ay a v->Y.ay a v){t:Ty}{x:El t}{v:Value}(hr:eR X t x v):eR Y t x v:=by
 obtain⟨cs,h1,h2⟩:=hr
 exact⟨cs,h1.ai h,h2⟩
theorem dK.lt{X:ax}{r:Nat}{pl:List Nat->Place}{t:Ty}{x:El t}{own:List (List Nat)}(h:dK X r pl t x own):r<X.w.heap.size:=by
 have key:∀o,X.w.heap[r]? =some o->r<X.w.heap.size:=fun o ho=>(Array.getElem?_eq_some_iff.1 ho).1
 unfold dK at h
 split at h
 ·exact key _ h
 ·obtain⟨es,c,h1,_⟩:=h;exact key _ h1
 ·obtain⟨cs,T,h1,_⟩:=h;exact key _ h1
 ·obtain⟨⟨o,ho⟩,_⟩:=h;exact key _ ho
 ·obtain⟨⟨o,ho⟩,_⟩:=h;exact key _ ho
 ·exact h.elim
 ·obtain⟨cs,T,h1,_⟩:=h;exact key _ h1
theorem dL.move{X Y:ax}{pl gM:List Nat->Place}{b:Ty}{m:Option (El b)}{v:Value}(hs:∀a v,X.ay a v->Y.ay a v)
 (hg:∀p,p=[]\/p=[2]->∀g o n,X.w.heap[g]? =some o->X.ow g= .row (pl p) n->Y.w.heap[g]? =some o/\Y.ow g= .row (gM p) n) (h:dL X pl b m v):dL Y gM b m v:=by
 cases m with
 |none=>exact h
 |some y=>
  obtain⟨g,cs,T,h1,h2,h3,h4,h5⟩:=h
  obtain⟨k1,k2⟩:=hg [] (.inl rfl) g _ _ h2 h3
  refine⟨g,cs,T,h1,k1,k2,h4.ai hs,fun p hp=> ?_⟩
  have:p=[2]:=by simpa [B5] using hp
  subst this
  obtain⟨e,t',xs,v,g0,g1,g2,g3⟩:=h5 [2] hp
  refine⟨e,t',xs,v,g0,g1,g2,?_⟩
  rcases g3 with g3|⟨g',cap,cur,q1,q2,q3,q4,q5,q6⟩
  ·exact .inl g3
  ·obtain⟨j1,j2⟩:=hg [2] (.inr rfl) g' _ _ q2 q6
   exact .inr ⟨g',cap,cur,q1,j1,q3,q4,q5,j2⟩
theorem iQ.move{X Y:ax}{r:Nat}{pl gM:List Nat->Place}{a b:Ty}{x:El (.aF .bC a b)}(hs:∀a v,X.ay a v->Y.ay a v)(hh:Y.w.heap[r]? =X.w.heap[r]?)
 (hg:∀p∈lC,∀g o n,X.w.heap[g]? =some o->X.ow g= .row (pl p) n->Y.w.heap[g]? =some o/\Y.ow g= .row (gM p) n) (h:iQ X r pl a b x):iQ Y r gM a b x:=by
 obtain⟨c,p0,p1,T,h1,h2,h3,h4⟩:=h
 refine⟨c,p0,p1,T,hh.trans h1,h2.ai hs,h3.move hs fun p hp=> ?_,h4.move hs fun p hp=> ?_⟩
 ·rcases hp with rfl|rfl<;>exact hg _ (by simp [lC])
 ·rcases hp with rfl|rfl<;>exact hg _ (by simp [lC])
theorem dK.move{X Y:ax}{r:Nat}{pl gM:List Nat->Place}{t:Ty}{x:El t}{own:List (List Nat)}(hs:∀a v,X.ay a v->Y.ay a v)(hh:Y.w.heap[r]? =X.w.heap[r]?)
 (ho:∀cs,bn X pl t x cs own->bn Y gM t x cs own) (hg:∀p∈own,∀g o n,X.w.heap[g]? =some o->X.ow g= .row (pl p) n->Y.w.heap[g]? =some o/\Y.ow g= .row (gM p) n) (h:dK X r pl t x own):dK Y r gM t x own:=by
 unfold dK at h⊢
 split at h
 ·exact hh.trans h
 ·obtain⟨es,c,h1,h2,h3⟩:=h
  exact⟨es,c,hh.trans h1,h2,fun i q e hq he=>⟨(h3 i q e hq he).1.mono hs,(h3 i q e hq he).2.mono hs⟩⟩
 ·obtain⟨cs,T,h1,h2,h3⟩:=h
  exact⟨cs,T,hh.trans h1,h2,fun j x hj=>(h3 j x hj).ai hs⟩
 ·obtain⟨⟨o,h1⟩,h2⟩:=h
  refine⟨⟨o,hh.trans h1⟩,fun hm=> ?_⟩
  obtain⟨v,h3,h4⟩:=h2 hm
  refine⟨v,h3.same hh (fun g o hv ho=>(hg _ hm g o _ ho (h4 g hv)).1),fun g hv=> ?_⟩
  obtain⟨cap,cur,CM⟩:∃cap cur,X.w.heap[g]? =some (.cells cur cap (0,0)):=by
   rcases h3.own.2 with⟨hn,_⟩|⟨g',cap,cur,jK,_,CM,_⟩
   ·rw[hn] at hv;simp [Value.ownBlock] at hv
   ·rw[jK] at hv
    simp [Value.ownBlock] at hv
    subst hv
    exact⟨_,_,CM⟩
  exact(hg _ hm g _ _ CM (h4 g hv)).2
 ·obtain⟨⟨o,h1⟩,h2⟩:=h
  exact⟨⟨o,hh.trans h1⟩,fun hp=>(h2 hp).move hs hh fun p hm=>hg p (hp p hm)⟩
 ·exact h.elim
 ·obtain⟨cs,T,h1,h2,h3⟩:=h
  exact⟨cs,T,hh.trans h1,h2.ai hs,ho _ h3⟩
def bE(X:ax)(id r:Nat)(B:bD):Prop:=X.ow r= .box id/\dK X r (.b id) B.t B.x B.own
theorem bE.cells{X:ax}{id r:Nat}{B:bD}(h:bE X id r B)(hs:B.t.bH=false):∃cs T,X.w.heap[r]? =some (.cells cs T (0,0))/\bh X B.t B.x cs.toList/\X.ow r= .box id/\bn X (.b id) B.t B.x cs.toList B.own:=by
 obtain⟨cs,T,h1,h2,h3⟩:=(dK.plain hs).1 h.2
 exact⟨cs,T,h1,h2,h.1,h3⟩
def iR(s:State):Prop:=∀(i:Nat) l id a b j,s.sl[i]? =some l->SV.bA id a b j∈l->l=[.bA id a b j]/\(∃x own,s.bs[id]? =some (some ⟨.aF .bC a b,x,own⟩)/\ []∉own)/\
 ∀(i':Nat) l' a' b' j',s.sl[i']? =some l'->SV.bA id a' b' j'∈l'->i'=i
theorem iR.less{s s':State}(h:iR s)(hs:∀(i:Nat) l id a b j,s'.sl[i]? =some l->SV.bA id a b j∈l->∃l0,s.sl[i]? =some l0/\SV.bA id a b j∈l0/\(l0=[.bA id a b j]->l=[.bA id a b j]))
 (hb:∀(id:Nat) a b x own,(∃(i:Nat) (l:List SV) (j:Nat),s'.sl[i]? =some l/\SV.bA id a b j∈l)->s.bs[id]? =some (some ⟨.aF .bC a b,x,own⟩)-> []∉own->∃x' jZ,s'.bs[id]? =some (some ⟨.aF .bC a b,x',jZ⟩)/\ []∉jZ):iR s':=fun i l id a b j hl hm=>by
 obtain⟨l0,h1,h2,h3⟩:=hs i l id a b j hl hm
 obtain⟨g1,⟨x,own,g2,g3⟩,g4⟩:=h i l0 id a b j h1 h2
 refine⟨h3 g1,hb id a b x own ⟨i,l,j,hl,hm⟩ g2 g3,fun i' l' a' b' j' kC sU=> ?_⟩
 obtain⟨l1,k1,k2,_⟩:=hs i' l' id a' b' j' kC sU
 exact g4 i' l1 a' b' j' k1 k2
theorem iR.aB{s:State}(h:iR s){d:Nat}{B:bD}(hn:∀(i:Nat) (l:List SV) a b j,s.sl[i]? =some l->SV.bA d a b j∈l->False):iR (s.aB (some (d,B))):=
 h.less (fun i l id a b j hl hm=>⟨l,hl,hm,fun h=>h⟩) fun id a b x own hex hb ho=>by
  obtain⟨i,l,j,hl,hm⟩:=hex
  refine⟨x,own,?_,ho⟩
  simp only[State.aB,List.getElem?_set]
  rw[if_neg (fun e=>by subst e;exact hn i l a b j hl hm)]
  exact hb
theorem iR.none{s:State}(h:iR s){d:Nat}(hb:∀a b x own,s.bs[d]? =some (some ⟨.aF .bC a b,x,own⟩)-> []∈own):∀(i:Nat) (l:List SV) a b j,s.sl[i]? =some l->SV.bA d a b j∈l->False:=fun i l a b j hl hm=>by
 obtain⟨_,⟨x,own,h1,h2⟩,_⟩:=h i l d a b j hl hm
 exact h2 (hb a b x own h1)
theorem ZP{l:List SV}(h:l.any SV.bM=false){id:Nat}{a b:Ty}{j:Nat}(hm:SV.bA id a b j∈l):False:=by
 have:=List.any_eq_false.1 h _ hm
 exact this rfl
structure Rel(X:ax)(s:State)(a:Act):Prop where
 size:s.sl.length=a.tmps.size
 ia:s.bs.length=s.sl.length+1
 bR:∀(i:Nat) l v,s.sl[i]? =some l->a.tmps[i]? =some v->cS X (.c i) l v
 boxes:∀(id:Nat) B,s.bs[id]? =some (some B)->∃r,X.β id=some r/\bE X id r B
 live:∀(i:Nat) l id t p,s.sl[i]? =some l->SV.ptr id t p∈l->∃B,s.bs[id]? =some (some B)
 defers:a.defers=[]
 bA:iR s
theorem wq{w:World}{g:Nat}{o:Obj}(h:w.heap[g]? =some o):g<w.heap.size:=(Array.getElem?_eq_some_iff.1 h).1
theorem cS.jx{X Y:ax}{pl gM:Nat->List Nat->Place}{l:List SV}{v:Value}(hr:cS X pl l v)(h:∀(j:Nat) s u,l[j]? =some s->aA X (pl j) s u->aA Y (gM j) s u):cS Y gM l v:=by
 match l,hr with
 | [s],hr=>exact h 0 s v (by simp) hr
 | [],⟨vs,h1,h2,h3⟩=>exact⟨vs,h1,h2,fun j s u hs hu=>h j s u hs (h3 j s u hs hu)⟩
 |x::y::r,⟨vs,h1,h2,h3⟩=>exact⟨vs,h1,h2,fun j s u hs hu=>h j s u hs (h3 j s u hs hu)⟩
def dc(s:State):Place->Prop
 | .c i j p=>∃l t x own,s.sl[i]? =some l/\l[j]? =some (.aj t x own)/\p∈own
 | .b id p=>∃B,s.bs[id]? =some (some B)/\p∈B.own
 | .r _ _=>False
structure Mod(s:State)(X Y:ax):Prop where
 ay:∀a v,X.ay a v->Y.ay a v
 size:X.w.heap.size<=Y.w.heap.size
 os:Y.w.os=X.w.os
 tape:Y.w.tape=X.w.tape
 output:Y.w.output=X.w.output
 β0:Y.β 0=X.β 0
 β:∀(id:Nat) B,s.bs[id]? =some (some B)->Y.β id=X.β id
 nx:∀g,g<X.w.heap.size->(Y.ow g=X.ow g/\Y.w.heap[g]? =X.w.heap[g]?)\/∃pl n,X.ow g= .row pl n/\¬dc s pl
theorem Mod.ext{s:State}{X Y:ax}(h:Mod s X Y):Ext X Y:=
 ⟨h.ay,h.size,h.os,h.tape,h.output,h.β0,fun g hg bQ=>by
   rcases h.nx g hg with e|⟨pl,n,h1,_⟩
   ·exact e
   ·rw[h1] at bQ;exact bQ.elim⟩
theorem Mod.refl(s:State)(X:ax):Mod s X X:=⟨fun _ _ h=>h,Nat.le_refl _,rfl,rfl,rfl,rfl,fun _ _ _=>rfl,fun _ _=> .inl ⟨rfl,rfl⟩⟩
theorem bu.mod{s:State}{X Y:ax}(h:Mod s X Y){pl:Place}{e:TypeId}{k n:Nat}{v:Value}(hf:dc s pl)(ho:bu X pl e k n v):bu Y pl e k n v:=by
 rcases ho with ho|⟨g,cap,cur,h1,h2,h3,h4,h5,h6⟩
 ·exact .inl ho
 ·rcases h.nx g (wq h2) with⟨k1,k2⟩|⟨gM,n',k1,k2⟩
  ·exact .inr ⟨g,cap,cur,h1,k2.trans h2,h3,h4,h5,k1.trans h6⟩
  ·rw[h6] at k1;injection k1 with k1;rw[k1] at hf;exact absurd hf k2
theorem bn.mod{s:State}{X Y:ax}(h:Mod s X Y){pl:List Nat->Place}{t:Ty}{x:El t}{cs:List Value}{own:List (List Nat)}(hf:∀p∈own,dc s (pl p))(ho:bn X pl t x cs own):bn Y pl t x cs own:=fun p hp=>by
 obtain⟨e,t',xs,v,g0,g1,g2,g3⟩:=ho p hp
 exact⟨e,t',xs,v,g0,g1,g2,g3.mod h (hf p hp)⟩
theorem aA.mod{s:State}{X Y:ax}(h:Mod s X Y){pl:List Nat->Place}{sv:SV}{v:Value}(hf:∀t x own,sv= .aj t x own->∀p∈own,dc s (pl p))(hl:∀id t p,sv= .ptr id t p->∃B,s.bs[id]? =some (some B))(hk:∀id a b j,sv= .bA id a b j->∃B,s.bs[id]? =some (some B))(hr:aA X pl sv v):aA Y pl sv v:=by
 cases sv with
 |undef=>trivial
 |skip=>exact hr
 |cJ=>exact hr
 |eh=>exact hr
 |over=>exact hr
 |aj t x own=>
  obtain⟨cs,h1,h2,h3⟩:=hr
  exact⟨cs,h1.ai h.ay,h2,h3.mod h (hf t x own rfl)⟩
 |ptr id t p=>
  obtain⟨r,h1,h2⟩:=hr
  obtain⟨B,hB⟩:=hl id t p rfl
  exact⟨r,(h.β id B hB).trans h1,h2⟩
 |view t x=>
  obtain⟨ad,cs,h1,h2,h3,h4⟩:=hr
  exact⟨ad,cs,h1,h2,h3.ai h.ay,fun i u hi=>h.ay _ _ (h4 i u hi)⟩
 |cap f t x u y=>exact sG h.ay hr
 |bA id a b j=>
  obtain⟨r,h1,h2,h3⟩:=hr
  obtain⟨B,hB⟩:=hk id a b j rfl
  have al:r<X.w.heap.size:=World.block_lt_of_cell? X.w _ h3
  rcases h.nx r al with⟨k1,k2⟩|⟨gM,n',k1,_⟩
  ·refine⟨r,(h.β id B hB).trans h1,k1.trans h2,?_⟩
   simp only[World.cell?] at h3⊢
   rw[k2];exact h3
  ·rw[h2] at k1;cases k1
theorem Rel.mod{s:State}{X Y:ax}{a:Act}(hr:Rel X s a)(h:Mod s X Y):Rel Y s a where
 size:=hr.size
 ia:=hr.ia
 bR:=fun i l v hl hv=>(hr.bR i l v hl hv).jx fun j sv u hm kc=>kc.mod h (fun t x own e p hp=>⟨l,t,x,own,hl,e▸hm,hp⟩) (fun id t p e=>hr.live i l id t p hl (e▸List.mem_of_getElem? hm)) (fun id a b j e=>by
  obtain⟨_,⟨x,own,hb,_⟩,_⟩:=hr.bA i l id a b j hl (e▸List.mem_of_getElem? hm)
  exact⟨_,hb⟩)
 boxes:=fun id B hB=>by
  obtain⟨r,h1,h4,h2⟩:=hr.boxes id B hB
  have hk:Y.ow r=X.ow r/\Y.w.heap[r]? =X.w.heap[r]? :=by
   rcases h.nx r h2.lt with hk|⟨gM,n',k1,k2⟩
   ·exact hk
   ·rw[h4] at k1;cases k1
  exact⟨r,(h.β id B hB).trans h1,hk.1.trans h4,h2.move h.ay hk.2 (fun cs h5=>h5.mod h fun p hp=>⟨B,hB,hp⟩) fun p hm g o n ho hw=>by
   rcases h.nx g (wq ho) with e|⟨pl,n',e1,e2⟩
   ·exact⟨e.2.trans ho,e.1.trans hw⟩
   ·rw[hw] at e1;injection e1 with e1;exact absurd (e1▸(⟨B,hB,hm⟩:dc s (.b id p))) e2⟩
 live:=hr.live
 defers:=hr.defers
 bA:=hr.bA
structure fj(s:State)(X Y:ax):Prop where
 size:X.w.heap.size<=Y.w.heap.size
 os:Y.w.os=X.w.os
 tape:Y.w.tape=X.w.tape
 output:Y.w.output=X.w.output
 nx:∀g,g<X.w.heap.size->Y.ow g=X.ow g/\Y.w.heap[g]? =X.w.heap[g]?
 β0:Y.β 0=X.β 0
 β:∀(id:Nat) B,s.bs[id]? =some (some B)->Y.β id=X.β id
theorem fj.ay{s:State}{X Y:ax}(h:fj s X Y){a:Addr}{v:Value}(hs:X.ay a v):Y.ay a v:=by
 have al:=ax.jk hs
 obtain⟨h1,h2⟩:=h.nx _ al
 refine⟨hs.1,?_,?_⟩
 ·have:=hs.2.1
  simp only[World.cell?] at this⊢
  rw[h2];exact this
 ·rw[h1];exact hs.2.2
theorem fj.mod{s:State}{X Y:ax}(h:fj s X Y):Mod s X Y:=
 ⟨fun _ _=>h.ay,h.size,h.os,h.tape,h.output,h.β0,h.β,fun g hg=> .inl (h.nx g hg)⟩
theorem fj.ext{s:State}{X Y:ax}(h:fj s X Y):Ext X Y:=h.mod.ext
theorem bu.dF{s:State}{X Y:ax}(h:fj s X Y){pl:Place}{e:TypeId}{k n:Nat}{v:Value}(ho:bu X pl e k n v):bu Y pl e k n v:=by
 rcases ho with ho|⟨g,cap,cur,h1,h2,h3,h4,h5,h6⟩
 ·exact .inl ho
 ·obtain⟨k1,k2⟩:=h.nx g (wq h2)
  exact .inr ⟨g,cap,cur,h1,k2.trans h2,h3,h4,h5,k1.trans h6⟩
theorem bn.dF{s:State}{X Y:ax}(h:fj s X Y){pl:List Nat->Place}{t:Ty}{x:El t}{cs:List Value}{own:List (List Nat)}(ho:bn X pl t x cs own):bn Y pl t x cs own:=fun p hp=>by
 obtain⟨e,t',xs,v,g0,g1,g2,g3⟩:=ho p hp
 exact⟨e,t',xs,v,g0,g1,g2,g3.dF h⟩
theorem Rel.dF{s:State}{X Y:ax}{a:Act}(hr:Rel X s a)(h:fj s X Y):Rel Y s a:=hr.mod h.mod
theorem Rel.put{X:ax}{s:State}{a:Act}(hr:Rel X s a){d:Option Nat}{l:List SV}{v:Value}(h:∀d',d=some d'->cS X (.c d') l v)(hl:∀id t p,SV.ptr id t p∈l->∃B,s.bs[id]? =some (some B))(hn:l.any SV.bM=false:=by rfl):Rel X (s.av d l) (a.put d v):=by
 cases d with
 |none=>exact hr
 |some d=>
  refine⟨by simpa [State.av,Act.put] using hr.size,by simpa [State.av] using hr.ia,fun i l' v' hi hv=> ?_,hr.boxes,fun i l' id t p hi hm=> ?_,hr.defers,hr.bA.less (fun i l' id a b j hi hm=> ?_) (fun id a b x own _ hb ho=>⟨x,own,hb,ho⟩)⟩
  ·simp only[State.av,List.getElem?_set] at hi
   simp only[Act.put,Array.getElem?_setIfInBounds] at hv
   by_cases e:d=i
   ·subst e
    simp only[if_true] at hi hv
    split at hi
    ·split at hv
     ·cases hi;cases hv;exact h d rfl
     ·cases hv
    ·cases hi
   ·rw[if_neg e] at hi hv
    exact hr.bR i l' v' hi hv
  ·simp only[State.av,List.getElem?_set] at hi
   split at hi
   ·split at hi
    ·cases hi;exact hl id t p hm
    ·cases hi
   ·exact hr.live i l' id t p hi hm
  ·simp only[State.av,List.getElem?_set] at hi
   split at hi
   ·split at hi
    ·cases hi;exact(ZP hn hm).elim
    ·cases hi
   ·exact⟨l',hi,hm,fun h=>h⟩
theorem Rel.skip{X:ax}{s:State}{a:Act}(hr:Rel X s a)(d:Option Nat):Rel X (s.av d [.skip]) (a.put d Go.undef):=
 hr.put (fun _ _=>rfl) (fun id t p h=>by simp at h)
structure eD(s:State)(X Y:ax):Prop where
 w:Y.w=X.w
 β:Y.β=X.β
 ow:∀g,Y.ow g=X.ow g\/∃pl n q,X.ow g= .row pl n/\¬dc s pl/\Y.ow g= .row q n
theorem eD.ay{s:State}{X Y:ax}(h:eD s X Y){a:Addr}{v:Value}:X.ay a v↔Y.ay a v:=by
 unfold ax.ay
 rw[h.w]
 rcases h.ow a.block with e|⟨pl,n,q,h1,_,h2⟩
 ·rw[e]
 ·rw[h1,h2];rfl
theorem eD.mod{s:State}{X Y:ax}(h:eD s X Y):Mod s X Y:=
 ⟨fun _ _=>h.ay.1,by rw[h.w];exact Nat.le_refl _,by rw[h.w],by rw[h.w],by rw[h.w],by rw[h.β],fun _ _ _=>by rw[h.β],fun g _=>by
   rcases h.ow g with e|⟨pl,n,q,h1,h2,_⟩
   ·exact .inl ⟨e,by rw[h.w]⟩
   ·exact .inr ⟨pl,n,h1,h2⟩⟩
theorem eD.ext{s:State}{X Y:ax}(h:eD s X Y):Ext X Y:=h.mod.ext
theorem eD.refl(s:State)(X:ax):eD s X X:=⟨rfl,rfl,fun _=> .inl rfl⟩
theorem Uu{v:SV}{id:Nat}{t:Ty}{p:List Nat}:v.shut= .ptr id t p->v= .ptr id t p:=by cases v<;>simp [SV.shut]
theorem aA.shut{X:ax}{pl gM:List Nat->Place}{sv:SV}{v:Value}(hr:aA X pl sv v):aA X gM sv.shut v:=by
 cases sv with
 |aj t x own=>
  obtain⟨cs,h1,h2,_⟩:=hr
  exact⟨cs,h1,h2,fun p hp=>by cases hp⟩
 |bA id a b j=>trivial
 |_=>exact hr
theorem z81:∀(l:List SV) (j:Nat),(bP l j).length=l.length
 | [],_=>rfl
 |_::_,0=>rfl
 |_::r,j+1=>by simp [bP,z81 r j]
theorem QX:∀(l:List SV) (j i:Nat),(bP l j)[i]? =if i=j then(l[i]?).map SV.shut else l[i]?
 | [],j,i=>by simp [bP]
 |v::r,0,0=>by simp [bP]
 |v::r,0,i+1=>by simp [bP]
 |v::r,j+1,0=>by simp [bP]
 |v::r,j+1,i+1=>by
  simp only[bP,List.getElem?_cons_succ,QX r j i]
  simp
theorem cS.bP{X:ax}{pl:Nat->List Nat->Place}{l:List SV}{v:Value}(hr:cS X pl l v)(j:Nat):cS X pl (bP l j) v:=by
 match l,hr with
 | [s],hr=>
   cases j with
   |zero=>exact hr.shut
   |succ j=>exact hr
 | [],hr=>exact hr
 |x::y::r,⟨vs,h1,h2,h3⟩=>
  have hlen:∃x' y' r',Ref.bP (x::y::r) j=x'::y'::r':=by
   match j with
   |0=>exact⟨_,_,_,rfl⟩
   |1=>exact⟨_,_,_,rfl⟩
   |j+2=>exact⟨_,_,_,rfl⟩
  obtain⟨x',y',r',he⟩:=hlen
  have hl:=z81 (x::y::r) j
  have hg:=QX (x::y::r) j
  rw[he] at hl hg⊢
  refine⟨vs,h1,by rw[hl];exact h2,fun i s u hs hu=> ?_⟩
  rw[hg] at hs
  split at hs
  ·obtain⟨s0,fF,rfl⟩:=Option.map_eq_some_iff.1 hs
   exact(h3 i s0 u fF hu).shut
  ·exact h3 i s u hs hu
theorem aey{l:List SV}{j:Nat}{id:Nat}{t:Ty}{p:List Nat}(h:SV.ptr id t p∈bP l j):SV.ptr id t p∈l:=by
 obtain⟨i,hi⟩:=List.mem_iff_getElem?.1 h
 rw[QX] at hi
 split at hi
 ·obtain⟨s0,fF,he⟩:=Option.map_eq_some_iff.1 hi
  rw[Uu he] at fF
  exact List.mem_of_getElem? fF
 ·exact List.mem_of_getElem? hi
theorem rj{s:State}{i:Nat}(h:i<s.sl.length):s.sl[i]? =some (s.slot i):=by
 simp [State.slot,List.getD_eq_getElem?_getD,List.getElem?_eq_getElem h]
theorem aex{l:List SV}{j:Nat}{id:Nat}{a b:Ty}{i:Nat}(h:SV.bA id a b i∈bP l j):SV.bA id a b i∈l/\(l=[.bA id a b i]->bP l j=[.bA id a b i]):=by
 obtain⟨k,hk⟩:=List.mem_iff_getElem?.1 h
 have A3:=hk
 rw[QX] at hk
 split at hk
 ·obtain⟨s0,fF,he⟩:=Option.map_eq_some_iff.1 hk
  cases s0<;>simp [SV.shut] at he
 ·refine⟨List.mem_of_getElem? hk,fun e=> ?_⟩
  subst e
  cases j with
  |zero=>simp [bP,SV.shut] at h
  |succ j=>rfl
def State.cg(s:State)(i j:Nat):State:={s with sl:=s.sl.set i (bP (s.slot i) j)}
theorem Gc{s:State}{i j:Nat}{r:List (Nat×Nat)}:s.close ((i,j)::r)=(s.cg i j).close r:=rfl
theorem zi0{r:List (Nat×Nat)}:∀(l:List (Nat×Nat)) (s:State),s.close (l++r)=(s.close l).close r
 | [],s=>rfl
 |(i,j)::l,s=>by
  rw[List.cons_append,Gc,Gc]
  exact zi0 l _
theorem Rel.cg{X:ax}{s:State}{a:Act}(hr:Rel X s a)(i j:Nat):Rel X (s.cg i j) a:=by
 refine⟨by simpa [State.cg] using hr.size,by simpa [State.cg] using hr.ia,fun k l v hl hv=> ?_,hr.boxes,fun k l id t p hl hm=> ?_,hr.defers,hr.bA.less (fun k l id a b n hl hm=> ?_) (fun id a b x own _ hb ho=>⟨x,own,hb,ho⟩)⟩
 ·simp only[State.cg,List.getElem?_set] at hl
  split at hl
  ·rename_i e
   subst e
   split at hl
   ·rename_i al
    cases hl
    exact(hr.bR i _ v (rj al) hv).bP j
   ·cases hl
  ·exact hr.bR k l v hl hv
 ·simp only[State.cg,List.getElem?_set] at hl
  split at hl
  ·rename_i e
   subst e
   split at hl
   ·rename_i al
    cases hl
    exact hr.live i _ id t p (rj al) (aey hm)
   ·cases hl
  ·exact hr.live k l id t p hl hm
 ·simp only[State.cg,List.getElem?_set] at hl
  split at hl
  ·rename_i e
   subst e
   split at hl
   ·rename_i al
    cases hl
    obtain⟨h1,h2⟩:=aex hm
    exact⟨_,rj al,h1,h2⟩
   ·cases hl
  ·exact⟨l,hl,hm,fun h=>h⟩
theorem Rel.close{X:ax}{a:Act}:∀(c:List (Nat×Nat)) {s:State},Rel X s a->Rel X (s.close c) a
 | [],s,hr=>hr
 |(i,j)::r,s,hr=>Rel.close r (hr.cg i j)
theorem yB:∀{c:List (Nat×Nat)} {s:State},(s.close c).bs=s.bs
 | [],s=>rfl
 |(i,j)::r,s=>(yB (c:=r) (s:=s.cg i j))
theorem Rb:∀{c:List (Nat×Nat)} {s:State},(s.close c).sl.length=s.sl.length
 | [],s=>rfl
 |(i,j)::r,s=>by rw[Gc,Rb (c:=r)];simp [State.cg]
theorem dc.su{s:State}{i j:Nat}{pl:Place}(h:dc (s.cg i j) pl):dc s pl/\∀p,pl≠ .c i j p:=by
 cases pl with
 |r j p=>exact h.elim
 |b id p=>exact⟨h,fun p=>by simp⟩
 |c i' j' p=>
  obtain⟨l,t,x,own,hl,hx,hp⟩:=h
  simp only[State.cg,List.getElem?_set] at hl
  split at hl
  ·rename_i e
   subst e
   split at hl
   ·rename_i al
    cases hl
    rw[QX] at hx
    split at hx
    ·obtain⟨s0,_,he⟩:=Option.map_eq_some_iff.1 hx
     cases s0<;>simp [SV.shut] at he
     obtain⟨rfl,_,rfl⟩:=he
     cases hp
    ·rename_i bK
     exact⟨⟨_,t,x,own,rj al,hx,hp⟩,fun q e=>by cases e;exact bK rfl⟩
   ·cases hl
  ·rename_i bK
   exact⟨⟨l,t,x,own,hl,hx,hp⟩,fun q e=>by cases e;exact bK rfl⟩
theorem dc.kP{pl:Place}:∀{c:List (Nat×Nat)} {s:State},dc (s.close c) pl->dc s pl/\∀i j,(i,j)∈c->∀p,pl≠ .c i j p
 | [],s,h=>⟨h,fun i j hm=>by cases hm⟩
 |(i,j)::r,s,h=>by
  obtain⟨h1,h2⟩:=dc.kP (c:=r) (s:=s.cg i j) h
  obtain⟨h3,h4⟩:=dc.su h1
  refine⟨h3,fun i' j' hm p=> ?_⟩
  rcases List.mem_cons.1 hm with e|hm
  ·cases e;exact h4 p
  ·exact h2 i' j' hm p
theorem dc.close{s:State}{i j:Nat}{p:List Nat}:¬dc (s.close [(i,j)]) (.c i j p):=fun h=>(dc.kP h).2 i j (by simp) p rfl
def ax.turn(X:ax)(i j:Nat)(q:List Nat->Place):ax:=
 {X with ow:=fun g=>match X.ow g with
  | .row (.c i' j' p) n=>if i'=i/\j'=j then .row (q p) n else .row (.c i' j' p) n
  |w=>w}
theorem z156{s:State}{X:ax}{i j:Nat}{q:List Nat->Place}(h:∀p,¬dc s (.c i j p)):eD s X (X.turn i j q):=by
 refine⟨rfl,rfl,fun g=> ?_⟩
 simp only[ax.turn]
 cases hg:X.ow g with
 |row pl n=>
  cases pl with
  |c i' j' p=>
   by_cases e:i'=i/\j'=j
   ·obtain⟨rfl,rfl⟩:=e
    exact .inr ⟨_,n,q p,rfl,h p,by simp⟩
   ·exact .inl (by simp [e])
  |_=>exact .inl rfl
 |_=>exact .inl rfl
theorem bu.mR{X:ax}{i j:Nat}{q:List Nat->Place}{p:List Nat}{e:TypeId}{k n:Nat}{v:Value}(h:bu X (.c i j p) e k n v):bu (X.turn i j q) (q p) e k n v:=by
 rcases h with h|⟨g,cap,cur,h1,h2,h3,h4,h5,h6⟩
 ·exact .inl h
 ·exact .inr ⟨g,cap,cur,h1,h2,h3,h4,h5,by simp [ax.turn,h6]⟩
theorem bn.mR{X:ax}{i j:Nat}{q:List Nat->Place}{t:Ty}{x:El t}{cs:List Value}{own:List (List Nat)}(h:bn X (.c i j) t x cs own):bn (X.turn i j q) q t x cs own:=fun p hp=>by
 obtain⟨e,t',xs,v,g0,g1,g2,g3⟩:=h p hp
 exact⟨e,t',xs,v,g0,g1,g2,g3.mR⟩
def ml(X Y:ax):Prop:=Y.w=X.w/\∀g pl n,X.ow g= .row pl n->(∀i j p,pl≠ .c i j p)->Y.ow g= .row pl n
theorem aik{X:ax}{i j:Nat}{q:List Nat->Place}:ml X (X.turn i j q):=⟨rfl,fun g pl n h hp=>by
 simp only[ax.turn,h]
 cases pl with
 |c i' j' p=>exact absurd rfl (hp i' j' p)
 |_=>rfl⟩
theorem ml.refl(X:ax):ml X X:=⟨rfl,fun _ _ _ h _=>h⟩
theorem bn.stay{X Y:ax}(h:ml X Y){pl:List Nat->Place}(hp:∀r i j p,pl r≠ .c i j p){t:Ty}{x:El t}{cs:List Value}{own:List (List Nat)}(ho:bn X pl t x cs own):bn Y pl t x cs own:=fun p hm=>by
 obtain⟨e,t',xs,v,g0,g1,g2,g3⟩:=ho p hm
 refine⟨e,t',xs,v,g0,g1,g2,?_⟩
 rcases g3 with h0|⟨g,cap,cur,h1,h2,h3,h4,h5,h6⟩
 ·exact .inl h0
 ·exact .inr ⟨g,cap,cur,h1,by rw[h.1];exact h2,h3,h4,h5,h.2 g _ _ h6 (hp p)⟩
theorem Rel.take{X:ax}{s:State}{a:Act}(hr:Rel X s a){i j:Nat}{t:Ty}{x:El t}{w:List (List Nat)}{v:Value}(h:aA X (.c i j) (.aj t x w) v)(q:List Nat->Place):
 ∃Y,Y.w=X.w/\Ext X Y/\Rel Y (s.close [(i,j)]) a/\aA Y q (.aj t x w) v/\Y.β=X.β/\eD (s.close [(i,j)]) X Y/\ml X Y:=by
 obtain⟨cs,h1,h2,h3⟩:=h
 have hT:eD (s.close [(i,j)]) X (X.turn i j q):=z156 fun p=>dc.close
 exact⟨X.turn i j q,rfl,hT.ext,(hr.close _).mod hT.mod,⟨cs,h1.ai (fun _ _=>hT.ay.1),h2,h3.mR⟩,rfl,hT,aik⟩
def ax.ew(X:ax)(i d:Nat):ax:=
 {X with ow:=fun g=>match X.ow g with
  | .row (.c i' j' p) n=>if i'=i then .row (.c d j' p) n else .row (.c i' j' p) n
  |w=>w}
theorem ND(t:Nat):∀(n j:Nat),j<n->(t,j)∈kV t n
 |0,j,h=>absurd h (Nat.not_lt_zero j)
 |n+1,j,h=>by
  rcases Nat.lt_or_ge j n with h1|h1
  ·exact List.mem_cons_of_mem _ (ND t n j h1)
  ·have:j=n:=by omega
   subst this
   simp [kV]
theorem dc.closeAll{s:State}{t j:Nat}{p:List Nat}:¬dc (s.close (kV t (s.slot t).length)) (.c t j p):=fun h=>by
 obtain⟨h1,h2⟩:=dc.kP h
 obtain⟨l,ty,x,own,g1,g2,g3⟩:=h1
 have hl:s.slot t=l:=by simp [State.slot,g1]
 have hj:j<l.length:=(List.getElem?_eq_some_iff.1 g2).1
 exact h2 t j (ND t _ j (by rw[hl];exact hj)) p rfl
theorem ac2{s:State}{X:ax}{i d:Nat}(h:∀j p,¬dc s (.c i j p)):eD s X (X.ew i d):=by
 refine⟨rfl,rfl,fun g=> ?_⟩
 simp only[ax.ew]
 cases hg:X.ow g with
 |row pl n=>
  cases pl with
  |c i' j' p=>
   by_cases e:i'=i
   ·subst e
    exact .inr ⟨_,n,.c d j' p,rfl,h j' p,by simp⟩
   ·exact .inl (by simp [e])
  |_=>exact .inl rfl
 |_=>exact .inl rfl
theorem bu.jD{X:ax}{i d j:Nat}{p:List Nat}{e:TypeId}{k n:Nat}{v:Value}(h:bu X (.c i j p) e k n v):bu (X.ew i d) (.c d j p) e k n v:=by
 rcases h with h|⟨g,cap,cur,h1,h2,h3,h4,h5,h6⟩
 ·exact .inl h
 ·exact .inr ⟨g,cap,cur,h1,h2,h3,h4,h5,by simp [ax.ew,h6]⟩
theorem aA.jD{s:State}{X:ax}{i d j:Nat}{sv:SV}{v:Value}(hT:eD s X (X.ew i d))(h:aA X (.c i j) sv v):aA (X.ew i d) (.c d j) sv v:=by
 cases sv with
 |aj t x own=>
  obtain⟨cs,h1,h2,h3⟩:=h
  refine⟨cs,h1.ai (fun _ _=>hT.ay.1),h2,fun p hp=> ?_⟩
  obtain⟨e,t',xs,v,g0,g1,g2,g3⟩:=h3 p hp
  exact⟨e,t',xs,v,g0,g1,g2,g3.jD⟩
 |view t x=>
  obtain⟨ad,cs,h1,h2,h3,h4⟩:=h
  exact⟨ad,cs,h1,h2,h3.ai (fun _ _=>hT.ay.1),fun i u hi=>hT.ay.1 (h4 i u hi)⟩
 |cap f t x u y=>exact sG (fun _ _=>hT.ay.1) h
 |bA id a b k=>
  obtain⟨r,h1,h2,h3⟩:=h
  exact⟨r,h1,by simp [ax.ew,h2],h3⟩
 |_=>exact h
theorem Rel.yn{X:ax}{s:State}{a:Act}(hr:Rel X s a){t:Nat}{v:Value}(h:cS X (.c t) (s.slot t) v)(d:Nat):
 ∃Y,Y.w=X.w/\Ext X Y/\Rel Y (s.close (kV t (s.slot t).length)) a/\cS Y (.c d) (s.slot t) v:=by
 have hT:eD (s.close (kV t (s.slot t).length)) X (X.ew t d):=ac2 fun j p=>dc.closeAll
 exact⟨X.ew t d,rfl,hT.ext,(hr.close _).mod hT.mod,h.jx fun j sv u hj hu=>hu.jD hT⟩
def zp:Ty->List Value
 | .bool=>[.bool false]
 | .int k=>[.int k 0]
 | .str=>[.string ⟨#[]⟩]
 | .sl _ _=>[.slice none 0 0]
 | .arr n t=>(List.replicate n (zp t)).flatten
 | .unit=>[]
 | .pair a b=>zp a++zp b
 | .aF _ _ _=>[]
def jS(E:Env):List Field->Ty->Nat->Prop
 | [],.unit,_=>True
 |f::r,.pair a b,off=>f.offset=off/\E.ty f.type=some a/\f.name≠ "_" /\jS E r b (off+a.cells)
 |_,_,_=>False
def Qk(P:Program)(E:Env)(T:TypeId):Ty->Prop
 | .bool=>P.underlying T=some .bool
 | .int k=>P.underlying T=some (.int k)
 | .str=>P.underlying T=some .string
 | .sl e t=>P.underlying T=some (.slice e)/\E.ty e=some t
 | .arr n t=>∃e,P.underlying T=some (.array n e)/\E.ty e=some t/\P.eqGuardType P.depth T=false
 | .aF _ _ _=>False
 |t=>∃fs,P.underlying T=some (.struct fs)/\jS E fs.toList t 0/\P.stoodInHeld T=false/\P.eqGuardType P.depth T=false
structure mm(P:Program)(E:Env)(T:TypeId)(t:Ty):Prop where
 info:∃i,P.info? T=some i/\i.size=t.cells/\i.bytes=E.bytes T/\i.zero=some (eb t (zp t))
 dC:Qk P E T t
structure ak(P:Program)(E:Env):Prop where
 ty:∀T t,E.ty T=some t->mm P E T t
 pt:∀T,E.pt T=true->∃e,P.underlying T=some (.pointer e)
 p1:∀T,E.pt T=true->∃i,P.info? T=some i/\i.size=1
 mp:∀T k e,E.mp T=some (k,e)->P.underlying T=some (.map k e)
 bl:∀T e,E.bl T=some e->∃i,P.info? T=some i/\i.zero=some (.agg #[.pointer none,.slice none 0 0])
 gr:∀T a b,E.gr T=some (a,b)->∃fs,P.underlying T=some (.struct fs)/\∀j,j<=2->∃f i,fs[j]? =some f/\f.offset=nB a [j]/\P.info? f.type=some i/\i.size≠0
 gz:∀T a b,E.gr T=some (a,b)->∃i,P.info? T=some i/\i.zero=some (.agg (zp a++ [Value.pointer none,Value.pointer none,Value.int .i64 0]).toArray)
 g3:∀T a b,E.gr T=some (a,b)->∃fs f,P.underlying T=some (.struct fs)/\fs[0]? =some f/\f.offset=0/\E.ty f.type=some a/\∀f∈fs.toList,∃i,P.info? f.type=some i
 ga:∀T,E.ga T=true->∃e i,P.underlying T=some (.array 2 e)/\P.info? e=some i/\i.size=1
theorem ak.jA{P:Program}{E:Env}(hE:ak P E){T:TypeId}{t:Ty}(h:E.ty T=some t):t.bH=false:=by
 have:=(hE.ty T t h).dC
 cases t<;>first|rfl|exact this.elim
theorem vE:∀t:Ty,(zp t).length=t.cells
 | .bool=>rfl
 | .int _=>rfl
 | .str=>rfl
 | .sl _ _=>rfl
 | .unit=>rfl
 | .arr n t=>by simp [zp,Ty.cells,vE t]
 | .pair a b=>by simp [zp,Ty.cells,vE a,vE b]
 | .aF _ _ _=>rfl
theorem z9r{l:List Value}{k:Nat}(hl:l.length=k):∀(n j:Nat),j<n->(((List.replicate n l).flatten).drop (j*k)).take k=l
 |0,j,h=>by omega
 |n+1,0,_=>by
  simp only[List.replicate_succ,List.flatten_cons,Nat.zero_mul,List.drop_zero]
  rw[<-hl];exact List.take_left
 |n+1,j+1,h=>by
  simp only[List.replicate_succ,List.flatten_cons]
  rw[Nat.add_mul,Nat.one_mul,Nat.add_comm,<-List.drop_drop]
  rw[show List.drop k (l++(List.replicate n l).flatten)=(List.replicate n l).flatten by rw[<-hl];exact List.drop_left]
  exact z9r hl n j (by omega)
theorem tc(X:ax):∀t:Ty,bh X t (El.bU t) (zp t)
 | .bool=>rfl
 | .int _=>rfl
 | .str=>rfl
 | .unit=>rfl
 | .sl _ t=>⟨none,0,rfl,Nat.le_refl _,fun j x h=>by simp [El.bU] at h⟩
 | .arr n t=>by
   refine⟨by simp [El.bU],by simp [zp,vE],fun j x h=> ?_⟩
   have hj:j<n:=by
    have:=(List.getElem?_eq_some_iff.1 h).1
    simpa [El.bU] using this
   have hx:x=El.bU t:=by
    simp only[El.bU,List.getElem?_replicate] at h
    rw[if_pos hj] at h
    exact(Option.some.inj h).symm
   subst hx
   have:=z9r (vE t) n j hj
   simp only[zp]
   rw[this]
   exact tc X t
 | .pair a b=>⟨zp a,zp b,rfl,tc X a,tc X b⟩
 | .aF _ _ _=>rfl
theorem Sd{t:Ty}{c:Value}(h:t.agg=false):eb t [c]=c:=by simp [eb,h]
theorem j9{t:Ty}{cs:List Value}(h:t.agg=true):eb t cs= .agg cs.toArray:=by simp [eb,h]
theorem vZ{t:Ty}{X:ax}{x:El t}{cs:List Value}(h:bh X t x cs):(eb t cs).cells=cs.toArray:=by
 cases ht:t.agg with
 |true=>rw[j9 ht];rfl
 |false=>
  have hl:=h.len
  have h1:=h.one
  have hc:t.cells=1:=by cases t<;>simp_all [Ty.agg,Ty.cells]
  rw[hc] at hl
  match cs,hl with
  | [c],_=>
    rw[Sd ht]
    have:=h1 c (by simp)
    cases c<;>simp_all [Value.oneCell',Value.cells]
theorem zz{R:Type}{s:SV}{u:Ty}{K:El u->Option R}{z:R}(h:s.el u K=some z):
 ∃y,K y=some z/\∀(X:ax) pl v,aA X pl s v->∃cs,bh X u y cs/\v=eb u cs:=by
 cases s with
 |aj t x own=>
  simp only[SV.el] at h
  split at h
  ·rename_i he
   have e:=Ty.aI he
   subst e
   exact⟨x,h,fun X pl v hv=>by obtain⟨cs,h1,h2,_⟩:=hv;exact⟨cs,h1,h2⟩⟩
  ·cases h
 |cJ=>
  cases u<;>simp only[SV.el] at h<;>first|cases h|skip
  rename_i e t
  refine⟨[],h,fun X pl v hv=>⟨[.slice none 0 0],⟨none,0,rfl,Nat.le_refl _,fun j x hj=>by simp at hj⟩,hv⟩⟩
 |_=>simp [SV.el] at h
theorem me{X:ax}{k:IntKind}{n:Int}{cs:List Value}(h:bh X (.int k) n cs):eb (.int k) cs= .int k n:=by cases h;rfl
theorem wl{X:ax}{b:Bool}{cs:List Value}(h:bh X .bool b cs):eb .bool cs= .bool b:=by cases h;rfl
theorem n6{X:ax}{s:ByteArray}{cs:List Value}(h:bh X .str s cs):eb .str cs= .string s:=by cases h;rfl
theorem m7{X:ax}{pl:List Nat->Place}{t:Ty}{x:El t}{cs:List Value}:bn X pl t x cs []:=fun p hp=>by cases hp
theorem jR{X:ax}{pl:List Nat->Place}{k:IntKind}{n:Int}:aA X pl (.aj (.int k) n []) (.int k n):=⟨[.int k n],rfl,rfl,m7⟩
theorem n4{X:ax}{pl:List Nat->Place}{b:Bool}:aA X pl (.aj .bool b []) (.bool b):=⟨[.bool b],rfl,rfl,m7⟩
theorem BO{X:ax}{pl:List Nat->Place}{s:ByteArray}:aA X pl (.aj .str s []) (.string s):=⟨[.string s],rfl,rfl,m7⟩
theorem BE{X:ax}{pl:List Nat->Place}{k:IntKind}{n:Int}{o:List (List Nat)}{v:Value}(h:aA X pl (.aj (.int k) n o) v):v= .int k n:=by
 obtain⟨cs,h1,h2,_⟩:=h
 rw[h2,me h1]
theorem QI{X:ax}{pl:List Nat->Place}{b:Bool}{o:List (List Nat)}{v:Value}(h:aA X pl (.aj .bool b o) v):v= .bool b:=by
 obtain⟨cs,h1,h2,_⟩:=h
 rw[h2,wl h1]
theorem ziw{X:ax}{pl:List Nat->Place}{s:ByteArray}{o:List (List Nat)}{v:Value}(h:aA X pl (.aj .str s o) v):v= .string s:=by
 obtain⟨cs,h1,h2,_⟩:=h
 rw[h2,n6 h1]
def yh:Operand->List Nat->Place
 | .tmp t=> .c t 0
 |_=> .r 0
theorem ada(X:ax)(pl:List Nat->Place)(v:Value):aA X pl (BU v) v:=by
 unfold BU
 split
 ·exact n4
 ·exact jR
 ·exact BO
 ·rfl
 ·rfl
 ·trivial
theorem Rel.slot{X:ax}{s:State}{a:Act}(hr:Rel X s a)(t:Nat):cS X (.c t) (s.slot t) (a.tmps.getD t Go.undef):=by
 by_cases h:t<s.sl.length
 ·refine hr.bR t _ _ (rj h) ?_
  have:=hr.size
  simp [Array.getElem?_eq_getElem (show t<a.tmps.size by omega)]
 ·have:s.slot t=[.undef]:=by simp [State.slot,List.getElem?_eq_none (show s.sl.length<=t by omega)]
  rw[this]
  trivial
theorem Rel.aG{X:ax}{s:State}{a:Act}(hr:Rel X s a)(x:Operand):aA X (yh x) (s.aG x) (a.eval x):=by
 cases x with
 |tmp t=>
  have h:=hr.slot t
  unfold State.aG State.ye
  simp only[yh,Act.eval]
  match hl:s.slot t with
  | []=>trivial
  | [sv]=>rw[hl] at h;exact h
  |_::_::_=>trivial
 |const v=>exact ada X _ v
 |_=>trivial
theorem te{X:ax}{s:State}{a:Act}(hr:Rel X s a){x:Operand}{id:Nat}{t:Ty}{p:List Nat}(h:s.aG x= .ptr id t p):∃B,s.bs[id]? =some (some B):=by
 cases x with
 |tmp i=>
  unfold State.aG State.ye at h
  simp only at h
  by_cases hi:i<s.sl.length
  ·refine hr.live i _ id t p (rj hi) ?_
   match hl:s.slot i,h with
   | [sv],h=>have:sv= .ptr id t p:=h;simp [this]
   | [],h=>simp [one] at h
   |_::_::_,h=>simp [one] at h
  ·have:s.slot i=[.undef]:=by simp [State.slot,List.getElem?_eq_none (Nat.le_of_not_lt hi)]
   rw[this] at h
   simp [one] at h
 |const v=>unfold State.aG State.ye BU at h;simp only[one] at h;split at h<;>simp at h
 |_=>simp [State.aG,State.ye,one] at h
theorem Rel.fin{Y:ax}{s:State}{a:Act}(hr:Rel Y s a){dst:Option Nat}{l:List SV}{v:Value}(h:cS Y (.c (dst.getD 0)) l v)(hl:∀id t p,SV.ptr id t p∈l->∃B,s.bs[id]? =some (some B))(hn:l.any SV.bM=false:=by rfl):Rel Y (s.av dst l) (a.put dst v):=
 hr.put (fun d' e=>by subst e;exact h) hl hn
def aH(P:Program)(X:ax)(s:State)(a:Act)(o:Oper)(u:Out):Prop:=
 ∃Y v,((execOp a.eval o).run P X.w= .ok (.value v) Y.w\/((execOp a.eval o).run P X.w= .ok .skip Y.w/\v=Go.undef))/\Ext X Y/\Rel Y (s.apply o.dst u) (a.put o.dst v)
theorem aH.plain{P:Program}{X:ax}{s:State}{a:Act}{o:Oper}(hr:Rel X s a){sv:SV}{v:Value}
 (h:(execOp a.eval o).run P X.w= .ok (.value v) X.w) (hv:aA X (.c (o.dst.getD 0) 0) sv v) (hl:∀id t p,sv= .ptr id t p->∃B,s.bs[id]? =some (some B)) (hn:sv.bM=false:=by rfl):aH P X s a o {v:=[sv]}:=
 ⟨X,v,.inl h,Ext.refl X,hr.fin hv (fun id t p hm=>hl id t p (by have h':=hm;simp at h';exact h'.symm)) (by simp [hn])⟩
theorem aH.Bp{P:Program}{X:ax}{s:State}{a:Act}{o:Oper}(hr:Rel X s a){i j:Nat}{t:Ty}{x:El t}{w:List (List Nat)}{v:Value}
 (h:(execOp a.eval o).run P X.w= .ok (.value v) X.w) (hv:aA X (.c i j) (.aj t x w) v):aH P X s a o {v:=[.aj t x w],cl:=[(i,j)]}:=by
 obtain⟨Y,h1,h2,h3,h4,_,_,_⟩:=hr.take hv (.c (o.dst.getD 0) 0)
 refine⟨Y,v,.inl (by rw[h1];exact h),h2,?_⟩
 exact h3.fin h4 (fun id t p hm=>by simp at hm)
variable {P:Program} {E:Env} {X:ax} {s:State} {a:Act} {o:Oper} {u:Out}
def Plain:SV->Prop
 | .aj _ _ (_::_)=>False
 | .bA _ _ _ _=>False
 |_=>True
theorem Plain.pj{sv:SV}(h:Plain sv):sv.bM=false:=by cases sv<;>first|rfl|exact h.elim
theorem zrm(sv:SV):sv.shut.bM=false:=by cases sv<;>rfl
theorem zj1(l:List SV):(l.map SV.shut).any SV.bM=false:=List.any_eq_false.2 fun v hv=>by
 obtain⟨w,_,rfl⟩:=List.mem_map.1 hv
 simp [zrm]
theorem an6{sv:SV}{v:Value}(h:∀X pl,aA X pl sv v):sv.bM=false:=by
 cases sv with
 |bA id a b j=>
  obtain⟨r,h1,_⟩:=h ⟨default,fun _=> .all,fun _=>none⟩ (fun _=> .r 0 [])
  cases h1
 |_=>rfl
theorem zj9(hr:Rel X s a){t:Nat}(hb:Nat.beq (s.slot t).length 1=false):(s.slot t).any SV.bM=false:=List.any_eq_false.2 fun v hv=>by
 cases v with
 |bA id c b j=>
  exfalso
  by_cases al:t<s.sl.length
  ·obtain⟨e,_⟩:=hr.bA t _ id c b j (rj al) hv
   rw[e] at hb;simp at hb
  ·have:s.slot t=[.undef]:=by simp [State.slot,List.getElem?_eq_none (Nat.le_of_not_lt al)]
   rw[this] at hv
   simp at hv
 |_=>simp [SV.bM]
theorem aA.place{pl gM:List Nat->Place}{sv:SV}{v:Value}(h:aA X pl sv v)(hp:Plain sv):aA X gM sv v:=by
 cases sv with
 |aj t x w=>
  cases w with
  |nil=>
   obtain⟨cs,h1,h2,_⟩:=h
   exact⟨cs,h1,h2,m7⟩
  |cons p w=>exact hp.elim
 |_=>exact h
theorem aA.bare{pl gM:List Nat->Place}{t:Ty}{x:El t}{w:List (List Nat)}{v:Value}(h:aA X pl (.aj t x w) v):aA X gM (.aj t x []) v:=by
 obtain⟨cs,h1,h2,_⟩:=h
 exact⟨cs,h1,h2,m7⟩
theorem zi3{v:Value}{t:Ty}{y:El t}{w:List (List Nat)}(h:BU v= .aj t y w):w=[]:=by
 unfold BU at h
 split at h<;>simp at h
 ·obtain⟨rfl,_,rfl⟩:=h;rfl
 ·obtain⟨rfl,_,rfl⟩:=h;rfl
 ·obtain⟨rfl,_,rfl⟩:=h;rfl
theorem an4{x:Operand}{t:Ty}{y:El t}{w:List (List Nat)}(h:s.aG x= .aj t y w)(hw:w≠ []):∃i,x= .tmp i:=by
 cases x with
 |tmp i=>exact⟨i,rfl⟩
 |const v=>exact absurd (zi3 h) hw
 |_=>simp [State.aG,State.ye,one] at h
theorem Np(hr:Rel X s a){x:Operand}(h:(execOp a.eval o).run P X.w= .ok (.value (a.eval x)) X.w)(hp:Plain (s.aG x)):aH P X s a o {v:=[s.aG x]}:=
 aH.plain hr h ((hr.aG x).place hp) (fun id t p e=>te hr e) hp.pj
theorem MC(hr:Rel X s a){x:Operand}{t:Ty}{y:El t}{w:List (List Nat)}(aX:(execOp a.eval o).run P X.w= .ok (.value (a.eval x)) X.w)(e:s.aG x= .aj t y w):aH P X s a o {v:=[.aj t y w],cl:=yE w x}:=by
 have cH:=hr.aG x
 rw[e] at cH
 cases hw:w with
 |nil=>
  subst hw
  exact aH.plain hr aX cH.bare (fun _ _ _ h=>by cases h)
 |cons p w'=>
 rw[<-hw]
 have fM:yE w x=src x:=by rw[hw];rfl
 rw[fM]
 clear hw
 cases x with
 |tmp i=>exact aH.Bp hr aX cH
 |const v=>
  have hw:=zi3 (show BU v= .aj t y w from e)
  subst hw
  exact aH.plain hr aX cH.bare (fun _ _ _ h=>by cases h)
 |_=>simp [State.aG,State.ye,one] at e
theorem Oz(hr:Rel X s a){T:TypeId}{v:Value}{pl:List Nat->Place}(aX:(execOp a.eval o).run P X.w= .ok (.value v) X.w)(hv:aA X pl .cJ v)(h:ph E T some=some u):aH P X s a o u:=by
 unfold ph at h
 split at h
 ·cases h
  refine aH.plain hr aX ⟨[.slice none 0 0],⟨none,0,rfl,Nat.le_refl _,fun j x hj=>by simp at hj⟩,hv,fun p hp=> ?_⟩ (fun _ _ _ e=>by cases e)
  rename_i e t _
  have hp:p=[]:=by simpa using hp
  subst hp
  exact⟨e,t,[],_,by simp [Ty.fa],rfl,rfl,.inl ⟨rfl,rfl⟩⟩
 ·cases h
  exact aH.plain hr aX hv (fun _ _ _ e=>by cases e)
theorem aA.gb{pl gM:List Nat->Place}{sv:SV}{v:Value}(hr:aA X pl sv v):aA X gM sv.shut v:=by
 cases sv with
 |aj t x own=>
  obtain⟨cs,h1,h2,_⟩:=hr
  exact⟨cs,h1,h2,m7⟩
 |bA id a b j=>trivial
 |_=>exact hr
theorem cS.gb{pl gM:Nat->List Nat->Place}{l:List SV}{v:Value}(hr:cS X pl l v):cS X gM (l.map SV.shut) v:=by
 match l,hr with
 | [s],hr=>exact aA.gb hr
 | [],⟨vs,h1,h2,h3⟩=>exact⟨vs,h1,h2,fun j s u hs=>by simp at hs⟩
 |x::y::r,⟨vs,h1,h2,h3⟩=>
  refine⟨vs,h1,by simpa using h2,fun j s u hs hu=> ?_⟩
  have hs:((x::y::r).map SV.shut)[j]? =some s:=hs
  rw[List.getElem?_map] at hs
  obtain⟨s0,fF,rfl⟩:=Option.map_eq_some_iff.1 hs
  exact aA.gb (h3 j s0 u fF hu)
theorem ahc(hr:Rel X s a){ops:List Oper}{x:Operand}(ho:o.op= .move x){C:FuncId->bV Out}(h:act E C ops o s some=some u):aH P X s a o u:=by
 have aX:(execOp a.eval o).run P X.w= .ok (.value (a.eval x)) X.w:=by simp [execOp,ho]
 unfold act at h
 simp only[ho] at h
 have cH:=hr.aG x
 cases ht:nX s x with
 |some tl=>
  obtain⟨t,l⟩:=tl
  rw[ht] at h
  cases x with
  |tmp i=>
   change(bif Nat.beq (s.slot i).length 1 then none else some (i,s.slot i))=some (t,l) at ht
   cases hb:Nat.beq (s.slot i).length 1 with
   |true=>rw[hb] at ht;cases ht
   |false=>
    rw[hb] at ht
    cases ht
    have Lo:∀id ty p,SV.ptr id ty p∈s.slot t->∃B,s.bs[id]? =some (some B):=fun id ty p hm=>by
     by_cases al:t<s.sl.length
     ·exact hr.live t _ id _ p (rj al) hm
     ·have:s.slot t=[.undef]:=by simp [State.slot,List.getElem?_eq_none (Nat.le_of_not_lt al)]
      rw[this] at hm
      simp at hm
    cases Bc:Go.Ref.gb E o.dst with
    |true=>
     rw[Bc] at h
     cases h
     refine⟨X,_,.inl aX,Ext.refl X,?_⟩
     refine Rel.fin hr (cS.gb (hr.slot t)) (fun id ty p hm=> ?_) (zj1 _)
     obtain⟨s0,fF,he⟩:=List.mem_map.1 hm
     rw[Uu he] at fF
     exact Lo id ty p fF
    |false=>
    rw[Bc] at h
    cases h
    cases bT:(s.slot t).all fun v=>v.own.isEmpty with
    |true=>
     refine⟨X,_,.inl aX,Ext.refl X,?_⟩
     refine Rel.fin hr ((hr.slot t).jx fun j sv u hj hu=> ?_) (fun id ty p hm=> ?_) (zj9 hr hb)
     ·have:=List.all_eq_true.1 bT sv (List.mem_of_getElem? hj)
      refine hu.place ?_
      cases sv with
      |aj ty y w=>
       cases w with
       |nil=>trivial
       |cons p w=>simp [SV.own] at this
      |bA id a b j=>exact(ZP (zj9 hr hb) (List.mem_of_getElem? hj)).elim
      |_=>trivial
     ·by_cases al:t<s.sl.length
      ·exact hr.live t _ id _ p (rj al) hm
      ·have:s.slot t=[.undef]:=by simp [State.slot,List.getElem?_eq_none (Nat.le_of_not_lt al)]
       rw[this] at hm
       simp at hm
    |false=>
    obtain⟨Y,h1,h2,h3,h4⟩:=hr.yn (hr.slot t) (o.dst.getD 0)
    refine⟨Y,_,.inl (by rw[h1];exact aX),h2,?_⟩
    refine h3.fin h4 (fun id ty p hm=> ?_) (zj9 hr hb)
    by_cases al:t<s.sl.length
    ·obtain⟨B,hB⟩:=hr.live t _ id _ p (rj al) hm
     exact⟨B,by rw[yB];exact hB⟩
    ·have:s.slot t=[.undef]:=by simp [State.slot,List.getElem?_eq_none (Nat.le_of_not_lt al)]
     rw[this] at hm
     simp at hm
  |_=>cases ht
 |none=>
 rw[ht] at h
 simp only at h
 split at h
 ·rename_i t y w e
  rw[e] at cH
  cases hb:(ZN ops o.dst||takes E o.dst) with
  |true=>
   rw[hb] at h
   cases h
   exact MC hr aX e
  |false=>
   rw[hb] at h
   cases h
   exact aH.plain hr aX cH.bare (fun _ _ _ h=>by cases h)
 ·cases h
 ·cases h
 ·rename_i e
  rw[e] at cH
  exact Oz hr aX cH h
 ·rename_i h1 h2 h3 h4
  cases h
  refine Np hr aX ?_
  cases hx:s.aG x with
  |aj t y w=>exact absurd hx (h1 t y w)
  |bA id c b j=>first|exact absurd hx (h2 id c b j)|exact absurd hx (h3 id c b j)
  |_=>trivial
theorem adg(hr:Rel X s a){ops:List Oper}{x:Operand}(ho:o.op= .assign x){C:FuncId->bV Out}(h:act E C ops o s some=some u):aH P X s a o u:=by
 have aX:(execOp a.eval o).run P X.w= .ok (.value (a.eval x)) X.w:=by simp [execOp,ho]
 unfold act at h
 simp only[ho] at h
 have cH:=hr.aG x
 split at h
 ·rename_i t y w e
  rw[e] at cH
  cases h
  exact MC hr aX e
 ·cases h
 ·cases h
 ·rename_i e
  rw[e] at cH
  exact Oz hr aX cH h
 ·rename_i h1 h2 h3 h4
  cases h
  refine Np hr aX ?_
  cases hx:s.aG x with
  |aj t y w=>exact absurd hx (h1 t y w)
  |bA id c b j=>first|exact absurd hx (h2 id c b j)|exact absurd hx (h3 id c b j)
  |_=>trivial
theorem ahe(hr:Rel X s a){ops:List Oper}{c x y:Operand}(ho:o.op= .pick c x y){C:FuncId->bV Out}(h:act E C ops o s some=some u):aH P X s a o u:=by
 unfold act at h
 simp only[ho] at h
 have hc:=hr.aG c
 split at h
 ·rename_i p w e
  rw[e] at hc
  have hv:=QI hc
  have key:∀z,aH P X s a o {v:=[(s.aG z).shut]}\/(execOp a.eval o).run P X.w≠ .ok (.value (a.eval z)) X.w:=by
   intro z
   by_cases hz:(execOp a.eval o).run P X.w= .ok (.value (a.eval z)) X.w
   ·refine .inl (aH.plain hr hz (hr.aG z).shut (fun id t p e=> ?_) (zrm _))
    exact te hr (Uu e)
   ·exact .inr hz
  cases p with
  |true=>
   cases h
   exact(key x).resolve_right (by simp [execOp,ho,hv,asBool])
  |false=>
   cases h
   exact(key y).resolve_right (by simp [execOp,ho,hv,asBool])
 ·cases h
theorem TE(op:BinOp)(T:TypeId)(x y:Operand)(k k':IntKind)(m n:Int)(w:World):(eqGuard op T x y (.int k m) (.int k' n)).run P w= .ok () w:=by
 cases op<;>simp [eqGuard]
theorem zam(op:BinOp)(T:TypeId)(x y:Operand)(m n:ByteArray)(w:World):(eqGuard op T x y (.string m) (.string n)).run P w= .ok () w:=by
 cases op<;>simp [eqGuard]
theorem zrl(op:BinOp)(T:TypeId)(x y:Operand)(m n:Bool)(w:World):(eqGuard op T x y (.bool m) (.bool n)).run P w= .ok () w:=by
 cases op<;>simp [eqGuard]
theorem zqy{op:BinOp}{T:TypeId}{k k':IntKind}{m n:Int}{l:List SV}(w:World)(h:rX op k m k' n some=some l):
 ∃sv v,l=[sv]/\(Go.binOp op T (.int k m) (.int k' n)).run P w= .ok v w/\Plain sv/\(∀X pl,aA X pl sv v)/\∀id t p,sv≠ .ptr id t p:=by
 have done:∀{sv:SV} {v:Value},l=[sv]->(Go.binOp op T (.int k m) (.int k' n)).run P w= .ok v w->Plain sv->(∀X pl,aA X pl sv v)->(∀id t p,sv≠ .ptr id t p)->∃sv v,l=[sv]/\(Go.binOp op T (.int k m) (.int k' n)).run P w= .ok v w/\Plain sv/\(∀X pl,aA X pl sv v)/\∀id t p,sv≠ .ptr id t p:=fun h1 h2 h3 h4 h5=>⟨_,_,h1,h2,h3,h4,h5⟩
 have pi:∀{k:IntKind} {n:Int},Plain (.aj (.int k) n []):=trivial
 have pb:∀{b:Bool},Plain (.aj .bool b []):=trivial
 unfold rX at h
 cases op
 case shl=>
  simp only at h
  cases hd:decide (n<0) with
  |true=>rw[hd] at h;cases h
  |false=>
   rw[hd] at h;cases h
   have:¬n<0:=of_decide_eq_false hd
   exact done rfl (by simp [Go.binOp,Op.shift,this]) pi (fun _ _=>jR) (by simp)
 case shr=>
  simp only at h
  cases hd:decide (n<0) with
  |true=>rw[hd] at h;cases h
  |false=>
   rw[hd] at h;cases h
   have:¬n<0:=of_decide_eq_false hd
   exact done rfl (by simp [Go.binOp,Op.shift,this]) pi (fun _ _=>jR) (by simp)
 all_goals
  simp only at h
  split at h
  case isFalse=>cases h
  rename_i hk
  subst hk
 case quo=>
  cases hd:decide (n=0) with
  |true=>rw[hd] at h;cases h
  |false=>
   rw[hd] at h;cases h
   have:¬n=0:=of_decide_eq_false hd
   exact done rfl (by simp [Go.binOp,Op.intDiv,this]) pi (fun _ _=>jR) (by simp)
 case rem=>
  cases hd:decide (n=0) with
  |true=>rw[hd] at h;cases h
  |false=>
   rw[hd] at h;cases h
   have:¬n=0:=of_decide_eq_false hd
   exact done rfl (by simp [Go.binOp,Op.intDiv,this]) pi (fun _ _=>jR) (by simp)
 case add=>cases h;exact done rfl (by simp [Go.binOp,Op.intArith]) pi (fun _ _=>jR) (by simp)
 case sub=>cases h;exact done rfl (by simp [Go.binOp,Op.intArith]) pi (fun _ _=>jR) (by simp)
 case mul=>cases h;exact done rfl (by simp [Go.binOp,Op.intArith]) pi (fun _ _=>jR) (by simp)
 case and=>cases h;exact done rfl (by simp only[Go.binOp,ne_eq,not_true_eq_false,if_false];rfl) pi (fun _ _=>jR) (by simp)
 case or=>cases h;exact done rfl (by simp only[Go.binOp,ne_eq,not_true_eq_false,if_false];rfl) pi (fun _ _=>jR) (by simp)
 case xor=>cases h;exact done rfl (by simp only[Go.binOp,ne_eq,not_true_eq_false,if_false];rfl) pi (fun _ _=>jR) (by simp)
 case andNot=>cases h;exact done rfl (by simp only[Go.binOp,ne_eq,not_true_eq_false,if_false];rfl) pi (fun _ _=>jR) (by simp)
 case eql=>cases h;exact done rfl (by simp only[Go.binOp,ne_eq,not_true_eq_false,if_false];rfl) pb (fun _ _=>n4) (by simp)
 case neq=>cases h;exact done rfl (by simp only[Go.binOp,ne_eq,not_true_eq_false,if_false];rfl) pb (fun _ _=>n4) (by simp)
 case lss=>cases h;exact done rfl (by simp only[Go.binOp,ne_eq,not_true_eq_false,if_false];rfl) pb (fun _ _=>n4) (by simp)
 case leq=>cases h;exact done rfl (by simp only[Go.binOp,ne_eq,not_true_eq_false,if_false];rfl) pb (fun _ _=>n4) (by simp)
 case gtr=>cases h;exact done rfl (by simp only[Go.binOp,ne_eq,not_true_eq_false,if_false];rfl) pb (fun _ _=>n4) (by simp)
 case geq=>cases h;exact done rfl (by simp only[Go.binOp,ne_eq,not_true_eq_false,if_false];rfl) pb (fun _ _=>n4) (by simp)
end Go.Ref

namespace Go.Ref
open Go
variable {P:Program} {E:Env} {X:ax} {s:State} {a:Act} {o:Oper} {u:Out}
theorem XD(x y:ByteArray):(x.toList==y.toList)=decide (x=y):=by
 rw[ByteArray.toList_eq,ByteArray.toList_eq]
 by_cases h:x=y
 ·subst h;simp
 ·have:¬x.data.toList=y.data.toList:=fun e=>h (by
   cases x;cases y
   congr
   exact Array.toList_inj.1 e)
  rw[beq_eq_false_iff_ne.2 this,decide_eq_false h]
theorem akv{op:BinOp}{T:TypeId}{m n:ByteArray}{l:List SV}(w:World)(h:rY op m n some=some l):
 ∃sv v,l=[sv]/\(Go.binOp op T (.string m) (.string n)).run P w= .ok v w/\Plain sv/\(∀X pl,aA X pl sv v)/\∀id t p,sv≠ .ptr id t p:=by
 have pb:∀{b:Bool},Plain (.aj .bool b []):=trivial
 unfold rY at h
 cases op<;>simp only at h<;>first|(cases h;done)|skip
 case add=>
  cases hd:decide (m.size+n.size<=9223372036854775807) with
  |false=>rw[hd] at h;cases h
  |true=>
   rw[hd] at h;cases h
   have h1:=of_decide_eq_true hd
   have h2:¬((((m.size+n.size:Nat)):Int)>IntKind.i64.max):=by
    show¬((((m.size+n.size:Nat)):Int)>9223372036854775807)
    omega
   refine⟨_,_,rfl,?_,trivial,fun _ _=>BO,by simp⟩
   simp only[Go.binOp,Op.stringOp]
   rw[if_neg h2]
   rfl
 all_goals
  cases h
  refine⟨_,_,rfl,?_,pb,fun _ _=>n4,by simp⟩
  simp only[Go.binOp,Op.stringOp,XD]
  rfl
theorem M7(hE:ak P E){T:TypeId}{t:Ty}(ht:E.ty T=some t)(w:World):(isAgg T).run P w= .ok t.agg w:=by
 have hu:=(hE.ty T t ht).dC
 cases t
 case bool=>simp [isAgg,run_underlying hu,Ty.agg]
 case int=>simp [isAgg,run_underlying hu,Ty.agg]
 case str=>simp [isAgg,run_underlying hu,Ty.agg]
 case sl=>simp [isAgg,run_underlying hu.1,Ty.agg]
 case arr=>obtain⟨e,h1,_⟩:=hu;simp [isAgg,run_underlying h1,Ty.agg]
 case unit=>obtain⟨fs,h1,_⟩:=hu;simp [isAgg,run_underlying h1,Ty.agg]
 case pair=>obtain⟨fs,h1,_⟩:=hu;simp [isAgg,run_underlying h1,Ty.agg]
 case aF=>exact hu.elim
theorem l9(hE:ak P E){T:TypeId}{t:Ty}(ht:E.ty T=some t)(w:World):(sizeOf T).run P w= .ok t.cells w:=by
 obtain⟨i,h1,h2,_⟩:=(hE.ty T t ht).info
 simp [sizeOf,typeInfo,h1,h2]
theorem Gr(hE:ak P E){T:TypeId}{t:Ty}(ht:E.ty T=some t){x:El t}{cs:List Value}(hr:bh X t x cs){all:Array Value}{off:Nat}(ha:(all.toList.drop off).take t.cells=cs)(w:World):
 (part T all off).run P w= .ok (eb t cs) w:=by
 have hl:=hr.len
 unfold part
 simp only[Sem.run_bind,M7 hE ht,Result.andThen_ok]
 cases hg:t.agg with
 |true=>
  simp only[if_true,Sem.run_bind,l9 hE ht,Result.andThen_ok,Sem.run_pure,j9 hg]
  congr 2
  apply Array.ext'
  rw[<-ha,Array.toList_extract,List.extract_eq_take_drop]
  simp
 |false=>
  simp only[Bool.false_eq_true,if_false]
  have hc:t.cells=1:=by cases t<;>simp_all [Ty.agg,Ty.cells]
  rw[hc] at hl ha
  match cs,hl with
  | [c],_=>
    rw[Sd hg]
    have cC:all[off]? =some c:=by
     have h1:(all.toList.drop off)[0]? =some c:=by
      have:=congrArg (fun l=>l[0]?) ha
      simpa [List.getElem?_take] using this
     simpa using h1
    simp [cC]
def SJ(d:Nat)(xs ys:Array Value)(f:Field)(_:Option Bool×Unit):Sem (ForInStep (Option Bool×Unit)):=
 if f.name≠ "_" then do
  let __do_lift<-part f.type xs f.offset
  let __do_lift_1<-part f.type ys f.offset
  let __do_lift<-Op.equalIn d f.type __do_lift __do_lift_1
  if(!__do_lift)=true then pure (ForInStep.done (some false,()))
   else pure (ForInStep.yield (none,()))
 else pure (ForInStep.yield (none,()))
theorem zvr(hE:ak P E){d:Nat}{xs ys:Array Value}(w:World)
 (ih:∀(t:Ty) (T:TypeId),E.ty T=some t->t.depth<=d->∀(x y:El t) (c1 c2:List Value) (r:Bool),bh X t x c1->bh X t y c2->dQ t x y=some r->(Op.equalIn d T (eb t c1) (eb t c2)).run P w= .ok r w):
 ∀(fl:List Field) (t:Ty) (off:Nat),jS E fl t off->t.depth<=d+1->∀(x y:El t) (c1 c2:List Value) (r:Bool),bh X t x c1->bh X t y c2->(xs.toList.drop off).take t.cells=c1->(ys.toList.drop off).take t.cells=c2->dQ t x y=some r->
  (forIn fl (none,()) (SJ d xs ys)).run P w= .ok (if r=true then(none,()) else(some false,())) w:=by
 intro fl
 induction fl with
 |nil=>
  intro t off hf hd x y c1 c2 r h1 h2 h3 h4 he
  cases t<;>simp only[jS] at hf<;>try exact hf.elim
  simp only[dQ,Option.some.injEq] at he
  subst he
  simp [List.forIn_nil]
 |cons f fl ihl=>
  intro t off hf hd x y c1 c2 r h1 h2 h3 h4 he
  cases t<;>simp only[jS] at hf<;>try exact hf.elim
  rename_i ta tb
  obtain⟨ho,HF,hn,bG⟩:=hf
  obtain⟨ca,cb,e1,ra,rb⟩:=h1
  obtain⟨da,db,e2,sa,sb⟩:=h2
  simp only[dQ] at he
  split at he
  case h_2=>cases he
  rename_i p q hp hq
  cases he
  simp only[Ty.depth] at hd
  have la:=ra.len
  have lb:=rb.len
  have ma:=sa.len
  have mb:=sb.len
  have t1:(xs.toList.drop off).take ta.cells=ca:=by
   have:=congrArg (fun l=>l.take ta.cells) (h3.trans e1)
   simp only[List.take_take,Ty.cells] at this
   rw[Nat.min_eq_left (Nat.le_add_right _ _),<-la,List.take_left] at this
   rw[<-la];exact this
  have t2:(ys.toList.drop off).take ta.cells=da:=by
   have:=congrArg (fun l=>l.take ta.cells) (h4.trans e2)
   simp only[List.take_take,Ty.cells] at this
   rw[Nat.min_eq_left (Nat.le_add_right _ _),<-ma,List.take_left] at this
   rw[<-ma];exact this
  have u1:(xs.toList.drop (off+ta.cells)).take tb.cells=cb:=by
   have:=congrArg (fun l=>l.drop ta.cells) (h3.trans e1)
   simp only[Ty.cells] at this
   rw[List.drop_take,Nat.add_sub_cancel_left,List.drop_drop,<-la,List.drop_left] at this
   rw[<-la];exact this
  have u2:(ys.toList.drop (off+ta.cells)).take tb.cells=db:=by
   have:=congrArg (fun l=>l.drop ta.cells) (h4.trans e2)
   simp only[Ty.cells] at this
   rw[List.drop_take,Nat.add_sub_cancel_left,List.drop_drop,<-ma,List.drop_left] at this
   rw[<-ma];exact this
  have pc:=Gr hE HF ra (all:=xs) (off:=f.offset) (by rw[ho];exact t1) w
  have CW:=Gr hE HF sa (all:=ys) (off:=f.offset) (by rw[ho];exact t2) w
  have heq:=ih ta f.type HF (by omega) x.1 y.1 ca da p ra sa hp
  have LI:(SJ d xs ys f (none,())).run P w= .ok (if p=true then ForInStep.yield (none,()) else ForInStep.done (some false,())) w:=by
   unfold SJ
   rw[if_pos hn]
   simp only[Sem.run_bind,pc,CW,heq,Result.andThen_ok]
   cases p<;>rfl
  rw[List.forIn_cons]
  simp only[Sem.run_bind,LI,Result.andThen_ok]
  cases p with
  |false=>rfl
  |true=>
   simp only[if_true,Bool.true_and]
   exact ihl tb (off+ta.cells) bG (by omega) x.2 y.2 cb db q rb sb u1 u2 hq
theorem ahh(hE:ak P E)(w:World){d n:Nat}{k:IntKind}{T e:TypeId}(ht:P.underlying T=some (.array n e))(he:E.ty e=some (.int k)){x y:List Int}{c1 c2:List Value}(r1:bh X (.arr n (.int k)) x c1)(r2:bh X (.arr n (.int k)) y c2):
 (Op.equalIn (d+2) T (.agg c1.toArray) (.agg c2.toArray)).run P w= .ok (decide (x=y)) w:=by
 obtain⟨l1,m1,e1⟩:=r1
 obtain⟨l2,m2,e2⟩:=r2
 have l1:x.length=n:=l1
 have l2:y.length=n:=l2
 have key:decide (x=y)=(List.range n).all fun i=>decide (x.getD i 0=y.getD i 0):=by
  by_cases Bj:x=y
  ·rw[decide_eq_true Bj]
   exact(List.all_eq_true.2 fun i _=>by rw[Bj];simp).symm
  ·rw[decide_eq_false Bj]
   cases ha:(List.range n).all fun i=>decide (x.getD i 0=y.getD i 0) with
   |false=>rfl
   |true=>
    refine absurd (List.ext_getElem (l1.trans l2.symm) fun i h1 h2=> ?_) Bj
    have:=of_decide_eq_true (List.all_eq_true.1 ha i (List.mem_range.2 (by omega)))
    simpa [List.getD_eq_getElem?_getD,List.getElem?_eq_getElem h1,List.getElem?_eq_getElem h2] using this
 rw[key,List.range_eq_range',Op.equalIn]
 simp only[Sem.run_bind,run_underlying ht,Result.andThen_ok,l9 hE he,Std.Legacy.Range.forIn_eq_forIn_range',Std.Legacy.Range.size,Nat.sub_zero,Nat.add_sub_cancel,Nat.div_one]
 have hl:∀i∈List.range' 0 n 1,i<n:=fun i hi=>by simpa using(List.mem_range'_1.1 hi).2
 generalize List.range' 0 n 1=l at hl⊢
 induction l with
 |nil=>simp
 |cons i l ih=>
  have hi:i<n:=hl i (by simp)
  have g1:x[i]? =some (x.getD i 0):=by rw[List.getD_eq_getElem?_getD,List.getElem?_eq_getElem (by omega)];rfl
  have g2:y[i]? =some (y.getD i 0):=by rw[List.getD_eq_getElem?_getD,List.getElem?_eq_getElem (by omega)];rfl
  have p1:=e1 i (x.getD i 0) g1
  have p2:=e2 i (y.getD i 0) g2
  have px:=Gr hE he p1 (all:=c1.toArray) (off:=i*(Ty.int k).cells) rfl w
  have py:=Gr hE he p2 (all:=c2.toArray) (off:=i*(Ty.int k).cells) rfl w
  rw[me p1] at px
  rw[me p2] at py
  have pe:(Op.equalIn (d+1) e (.int k (x.getD i 0)) (.int k (y.getD i 0))).run P w= .ok (decide (x.getD i 0=y.getD i 0)) w:=by
   have hu:P.underlying e=some (.int k):=(hE.ty e _ he).dC
   unfold Op.equalIn
   simp only[Sem.run_bind,run_underlying hu,Result.andThen_ok,if_true,Sem.run_pure]
   rfl
  simp only[List.forIn_cons,Sem.run_bind,px,py,pe,Result.andThen_ok,List.all_cons]
  cases hb:decide (x.getD i 0=y.getD i 0)
  ·simp
  ·simp only[Bool.not_true,Bool.false_eq_true,if_false,Sem.run_pure,Result.andThen_ok,Bool.true_and]
   exact ih fun j hj=>hl j (by simp [hj])
theorem MR(hE:ak P E)(w:World):∀(d:Nat) (t:Ty) (T:TypeId),E.ty T=some t->t.depth<=d->∀(x y:El t) (c1 c2:List Value) (r:Bool),bh X t x c1->bh X t y c2->dQ t x y=some r->(Op.equalIn d T (eb t c1) (eb t c2)).run P w= .ok r w:=by
 intro d
 induction d with
 |zero=>intro t T ht hd;cases t<;>simp only[Ty.depth] at hd<;>omega
 |succ d ih=>
  intro t T ht hd x y c1 c2 r h1 h2 he
  have hu:=(hE.ty T t ht).dC
  cases t with
  |bool=>
   rw[wl h1,wl h2]
   simp only[dQ,Option.some.injEq] at he
   subst he
   unfold Op.equalIn
   simp only[Sem.run_bind,run_underlying hu,Result.andThen_ok,Sem.run_pure]
  |int k=>
   rw[me h1,me h2]
   simp only[dQ,Option.some.injEq] at he
   subst he
   unfold Op.equalIn
   simp only[Sem.run_bind,run_underlying hu,Result.andThen_ok,if_true,Sem.run_pure]
   rfl
  |str=>
   rw[n6 h1,n6 h2]
   simp only[dQ,Option.some.injEq] at he
   subst he
   unfold Op.equalIn
   simp only[Sem.run_bind,run_underlying hu,Result.andThen_ok,Sem.run_pure]
   rw[beq_toListBytes,XD]
  |sl e t=>simp [dQ] at he
  |arr n t=>
   cases t<;>simp only[dQ,Option.some.injEq,reduceCtorEq] at he
   rename_i k
   subst he
   obtain⟨e,je,jw,_⟩:=hu
   obtain⟨d,rfl⟩:∃d',d=d'+1:=⟨d-1,by simp only[Ty.depth] at hd;omega⟩
   rw[j9 rfl,j9 rfl]
   exact ahh hE w je jw h1 h2
  |aF _ _ _=>exact hu.elim
  |unit=>
   obtain⟨fs,je,jw,Tm,_⟩:=hu
   rw[j9 rfl,j9 rfl]
   unfold Op.equalIn
   simp only[Sem.run_bind,run_underlying je,Result.andThen_ok,run_program,Tm,Bool.false_eq_true,if_false]
   rw[<-Array.forIn_toList]
   have:=zvr (X:=X) hE (d:=d) (xs:=c1.toArray) (ys:=c2.toArray) w ih fs.toList .unit 0 jw hd x y c1 c2 r h1 h2 (by have:=h1.len;simp [Ty.cells] at this⊢;subst this;rfl) (by have:=h2.len;simp [Ty.cells] at this⊢;subst this;rfl) he
   unfold SJ at this
   rw[this]
   simp only[Result.andThen_ok]
   cases r<;>rfl
  |pair ta tb=>
   obtain⟨fs,je,jw,Tm,_⟩:=hu
   rw[j9 rfl,j9 rfl]
   unfold Op.equalIn
   simp only[Sem.run_bind,run_underlying je,Result.andThen_ok,run_program,Tm,Bool.false_eq_true,if_false]
   rw[<-Array.forIn_toList]
   have:=zvr (X:=X) hE (d:=d) (xs:=c1.toArray) (ys:=c2.toArray) w ih fs.toList (.pair ta tb) 0 jw hd x y c1 c2 r h1 h2 (by have:=h1.len;simp only[List.drop_zero];rw[<-this];exact List.take_length) (by have:=h2.len;simp only[List.drop_zero];rw[<-this];exact List.take_length) he
   unfold SJ at this
   rw[this]
   simp only[Result.andThen_ok]
   cases r<;>rfl
end Go.Ref

namespace Go.Ref
open Go
variable {P:Program} {E:Env} {X:ax} {s:State} {a:Act} {o:Oper} {u:Out}
theorem aku(hE:ak P E){op:BinOp}{T:TypeId}{x y:SV}{vx vy:Value}{px py:List Nat->Place}{l:List SV}(w:World)(xo yo:Operand)(hx:aA X px x vx)(hy:aA X py y vy)(h:rW E op T x y some=some l):
 ∃b:Bool,l=bl b/\(eqGuard op T xo yo vx vy).run P w= .ok () w/\(Go.binOp op T vx vy).run P w= .ok (.bool b) w:=by
 unfold rW at h
 split at h
 case h_2=>cases h
 rename_i t ht
 split at h
 ·cases h
 rename_i aaj
 obtain⟨m,h,hm⟩:=zz h
 obtain⟨n,h,hn⟩:=zz h
 split at h
 case h_2=>cases h
 rename_i r hr
 obtain⟨c1,r1,e1⟩:=hm X px vx hx
 obtain⟨c2,r2,e2⟩:=hn X py vy hy
 have hd:t.depth<=10000:=by
  have:Nat.ble t.depth 1000=true:=by simpa using aaj
  have:=Nat.le_of_ble_eq_true this
  omega
 have heq:=MR hE w 10000 t T ht hd m n c1 c2 r r1 r2 hr
 have hu:=(hE.ty T t ht).dC
 have hg:(eqGuard op T xo yo vx vy).run P w= .ok () w:=by
  cases t
  case bool=>rw[e1,e2,wl r1,wl r2];exact zrl ..
  case int=>rw[e1,e2,me r1,me r2];exact TE ..
  case str=>rw[e1,e2,n6 r1,n6 r2];exact zam ..
  case sl=>simp [dQ] at hr
  case arr=>
   obtain⟨fs,_,_,hq⟩:=hu
   rw[e1,e2,j9 rfl,j9 rfl]
   cases op<;>simp [eqGuard,hq]
  case aF=>simp [dQ] at hr
  all_goals
   obtain⟨fs,_,_,_,hq⟩:=hu
   rw[e1,e2,j9 rfl,j9 rfl]
   cases op<;>simp [eqGuard,hq]
 split at h
 ·cases h
  refine⟨r,rfl,hg,?_⟩
  rw[e1,e2]
  cases t
  case int=>rw[me r1,me r2];simp only[dQ,Option.some.injEq] at hr;subst hr;simp only[Go.binOp,ne_eq,not_true_eq_false,if_false];rfl
  case str=>rw[n6 r1,n6 r2];simp only[dQ,Option.some.injEq] at hr;subst hr;simp only[Go.binOp,Op.stringOp,XD];rfl
  case bool=>rw[wl r1,wl r2] at heq⊢;simp only[Go.binOp,Sem.run_bind,Op.equal,Op.maxDepth,heq,Result.andThen_ok,Sem.run_pure]
  case sl=>simp [dQ] at hr
  case aF=>simp [dQ] at hr
  all_goals
   rw[j9 rfl,j9 rfl] at heq⊢
   simp only[Go.binOp,Sem.run_bind,Op.equal,Op.maxDepth,heq,Result.andThen_ok,Sem.run_pure]
 ·cases h
  refine⟨!r,rfl,hg,?_⟩
  rw[e1,e2]
  cases t
  case int=>rw[me r1,me r2];simp only[dQ,Option.some.injEq] at hr;subst hr;simp only[Go.binOp,ne_eq,not_true_eq_false,if_false];rfl
  case str=>rw[n6 r1,n6 r2];simp only[dQ,Option.some.injEq] at hr;subst hr;simp only[Go.binOp,Op.stringOp,XD];rfl
  case bool=>rw[wl r1,wl r2] at heq⊢;simp only[Go.binOp,Sem.run_bind,Op.equal,Op.maxDepth,heq,Result.andThen_ok,Sem.run_pure]
  case sl=>simp [dQ] at hr
  case aF=>simp [dQ] at hr
  all_goals
   rw[j9 rfl,j9 rfl] at heq⊢
   simp only[Go.binOp,Sem.run_bind,Op.equal,Op.maxDepth,heq,Result.andThen_ok,Sem.run_pure]
 ·cases h
theorem TF(op:BinOp)(T:TypeId)(x y:Operand)(p q:Option Addr)(w:World):(eqGuard op T x y (.pointer p) (.pointer q)).run P w= .ok () w:=by
 cases op<;>simp [eqGuard]
theorem akS(d:Nat){T e:TypeId}(hu:P.underlying T=some (.pointer e))(w:World)(ad:Addr):(Op.equalIn (d+1) T (.pointer (some ad)) (.pointer none)).run P w= .ok false w:=by
 unfold Op.equalIn
 simp only[Sem.run_bind,run_underlying hu,Result.andThen_ok,Sem.run_pure]
theorem akR(d:Nat){T e:TypeId}(hu:P.underlying T=some (.pointer e))(w:World):(Op.equalIn (d+1) T (.pointer none) (.pointer none)).run P w= .ok true w:=by
 unfold Op.equalIn
 simp only[Sem.run_bind,run_underlying hu,Result.andThen_ok,Sem.run_pure]
 rfl
theorem Nr{t:Ty}{p:List Nat}{r:Nat}{v:Value}(h:(t.bH&& !t.fb)=false)(hv:nW t p r v):∃ad,v= .pointer (some ad):=by
 cases hs:t.bH with
 |false=>exact⟨_,((rf hs).1 hv).1⟩
 |true=>
  rw[hs,Bool.true_and,Bool.not_eq_false'] at h
  unfold Ty.fb at h
  split at h
  ·exact⟨_,hv.1⟩
  ·cases h
theorem anD(hE:ak P E){op:BinOp}{T:TypeId}{x y:SV}{vx vy:Value}{px py:List Nat->Place}{u:Out}(w:World)(xo yo:Operand)(hx:aA X px x vx)(hy:aA X py y vy)(h:bin E op T x y (fun v=>some ({v:=v}:Out))=some u):
 ∃sv v,u={v:=[sv]}/\(eqGuard op T xo yo vx vy).run P w= .ok () w/\(Go.binOp op T vx vy).run P w= .ok v w/\(∀X pl,aA X pl sv v)/\∀id t p,sv≠ .ptr id t p:=by
 unfold bin at h
 split at h
 ·rename_i k m o1 k' n o2
  rw[BE hx,BE hy]
  obtain⟨l,h1,h2⟩:=kf zqx h
  obtain⟨sv,v,rfl,hv,_,hr,hp⟩:=zqy (T:=T) w h1
  cases h2
  exact⟨sv,v,rfl,TE ..,hv,hr,hp⟩
 ·rename_i m o1 n o2
  rw[ziw hx,ziw hy]
  obtain⟨l,h1,h2⟩:=kf zqz h
  obtain⟨sv,v,rfl,hv,_,hr,hp⟩:=akv (T:=T) w h1
  cases h2
  exact⟨sv,v,rfl,zam ..,hv,hr,hp⟩
 ·obtain⟨r,_,hpv⟩:=hx
  have C4:vy= .pointer none:=hy
  subst C4
  split at h
  ·cases h
  rename_i lf
  rw[Bool.not_eq_true,Bool.or_eq_false_iff,Bool.not_eq_false'] at lf
  obtain⟨ad,rfl⟩:=Nr lf.1 hpv
  obtain⟨e,hu⟩:=hE.pt T lf.2
  have heq:∀ad,(Op.equal T (.pointer (some ad)) (.pointer none)).run P w= .ok false w:=fun ad=>akS 9999 hu w ad
  split at h
  ·cases h
   exact⟨_,_,rfl,TF ..,by(simp only[Go.binOp,Sem.run_bind,heq,Result.andThen_ok,Sem.run_pure];try rfl),fun _ _=>n4,by simp⟩
  ·cases h
   exact⟨_,_,rfl,TF ..,by(simp only[Go.binOp,Sem.run_bind,heq,Result.andThen_ok,Sem.run_pure];try rfl),fun _ _=>n4,by simp⟩
  ·cases h
 ·have Bg:vx= .pointer none:=hx
  have C4:vy= .pointer none:=hy
  subst Bg C4
  split at h
  ·cases h
  rename_i lf
  obtain⟨e,hu⟩:=hE.pt T (by simpa using lf)
  have heq:(Op.equal T (.pointer none) (.pointer none)).run P w= .ok true w:=akR 9999 hu w
  split at h
  ·cases h
   exact⟨_,_,rfl,TF ..,by(simp only[Go.binOp,Sem.run_bind,heq,Result.andThen_ok,Sem.run_pure];try rfl),fun _ _=>n4,by simp⟩
  ·cases h
   exact⟨_,_,rfl,TF ..,by(simp only[Go.binOp,Sem.run_bind,heq,Result.andThen_ok,Sem.run_pure];try rfl),fun _ _=>n4,by simp⟩
  ·cases h
 ·obtain⟨l,h1,h2⟩:=kf zqw h
  obtain⟨b,rfl,hg,hv⟩:=aku hE w xo yo hx hy h1
  cases h2
  exact⟨_,_,rfl,hg,hv,fun _ _=>n4,by simp⟩
theorem akK(hE:ak P E)(hr:Rel X s a){ops:List Oper}{op:BinOp}{T T':TypeId}{x y:Operand}(ho:o.op= .binOp op T x y T'){C:FuncId->bV Out}(h:act E C ops o s some=some u):aH P X s a o u:=by
 unfold act at h
 simp only[ho] at h
 obtain⟨sv,v,rfl,hg,hv,aM,hp⟩:=anD hE X.w x y (hr.aG x) (hr.aG y) h
 exact aH.plain hr (by simp only[execOp,ho,Sem.run_bind,hg,hv,Result.andThen_ok,Sem.run_pure]) (aM _ _) (fun id t p e=>absurd e (hp id t p)) (an6 aM)
end Go.Ref

namespace Go.Ref
open Go
variable {P:Program} {E:Env} {X:ax} {s:State} {a:Act} {o:Oper} {u:Out}
theorem R4(ad:Addr)(h:ad.spot=none)(m n:Nat):(ad.add m).add n=ad.add (m+n):=by
 unfold Addr.add
 by_cases h1:m=0<;>by_cases h2:n=0<;>simp [h1,h2,Nat.add_assoc]
theorem BN{ad:Addr}(h:ad.spot=none)(m:Nat):(ad.add m).spot=none:=by
 unfold Addr.add
 split
 ·exact h
 ·rfl
theorem jq(g i j:Nat):(⟨g,i,none⟩:Addr).add j=⟨g,i+j,none⟩:=by
 unfold Addr.add
 split<;>simp_all
theorem z59:∀(t:Ty) (p q:List Nat) (u:Ty),t.at_ p=some u->t.off (p++q)=t.off p+u.off q:=by
 intro t
 induction t with
 |arr n t ih=>
  intro p q u h
  cases p with
  |nil=>simp only[Ty.at_,Option.some.injEq] at h;subst h;simp [Ty.off]
  |cons i p=>
   simp only[Ty.at_] at h
   simp only[List.cons_append,Ty.off,ih p q u h]
   omega
 |pair x y LS LU=>
  intro p q u h
  cases p with
  |nil=>simp only[Ty.at_,Option.some.injEq] at h;subst h;simp [Ty.off]
  |cons i p=>
   cases i with
   |zero=>simp only[Ty.at_] at h;simp only[List.cons_append,Ty.off,LS p q u h]
   |succ i=>
    simp only[Ty.at_] at h
    have:=LU (i::p) q u h
    simp only[List.cons_append,Ty.off] at this⊢
    omega
 |_=>
  intro p q u h
  cases p with
  |nil=>simp only[Ty.at_,Option.some.injEq] at h;subst h;simp [Ty.off]
  |cons i p=>simp [Ty.at_] at h
theorem QV:∀(t:Ty) (p q:List Nat) (u:Ty),t.at_ p=some u->t.fa p->u.fa q->t.fa (p++q):=by
 intro t
 induction t with
 |arr n t ih=>
  intro p q u h hp hq
  cases p with
  |nil=>simp only[Ty.at_,Option.some.injEq] at h;subst h;exact hq
  |cons i p=>exact⟨hp.1,ih p q u h hp.2 hq⟩
 |pair x y LS LU=>
  intro p q u h hp hq
  cases p with
  |nil=>simp only[Ty.at_,Option.some.injEq] at h;subst h;exact hq
  |cons i p=>
   cases i with
   |zero=>exact LS p q u h hp hq
   |succ i=>exact LU (i::p) q u h hp hq
 |_=>
  intro p q u h hp hq
  cases p with
  |nil=>simp only[Ty.at_,Option.some.injEq] at h;subst h;exact hq
  |cons i p=>simp [Ty.at_] at h
theorem getD_some{α:Type}{xs:List α}{i:Nat}(d:α)(h:i<xs.length):xs[i]? =some (xs.getD i d):=by
 simp [List.getD_eq_getElem?_getD,List.getElem?_eq_getElem h]
theorem Sb{X:ax}:∀{t:Ty} {p:List Nat} {x:El t} {cs:List Value} {u:Ty} {y:El u},bh X t x cs->t.fa p->El.get t p x=some ⟨u,y⟩->
 t.at_ p=some u/\t.off p+u.cells<=t.cells/\bh X u y ((cs.drop (t.off p)).take u.cells):=by
 intro t
 induction t with
 |arr n t ih=>
  intro p x cs u y hr hp h
  cases p with
  |nil=>
   simp only[El.get,Option.some.injEq,Sigma.mk.injEq] at h
   obtain⟨rfl,h⟩:=h
   cases h
   refine⟨rfl,by simp [Ty.off],?_⟩
   have:=hr.len
   simp only[Ty.off,List.drop_zero]
   rw[<-this,List.take_length]
   exact hr
  |cons i p=>
   obtain⟨hi,hp⟩:=hp
   obtain⟨h1,h2,h3⟩:=hr
   simp only[El.get] at h
   obtain⟨k1,k2,k3⟩:=ih (h3 i _ (getD_some (El.bU t) (by omega))) hp h
   have hn:(i+1)*t.cells<=n*t.cells:=Nat.mul_le_mul_right _ hi
   rw[Nat.add_mul,Nat.one_mul] at hn
   refine⟨k1,by simp only[Ty.off,Ty.cells];omega,?_⟩
   simp only[Ty.off]
   rw[List.drop_take,List.take_take,List.drop_drop,Nat.min_eq_left (by omega)] at k3
   exact k3
 |pair ta tb mK mL=>
  intro p x cs u y hr hp h
  cases p with
  |nil=>
   simp only[El.get,Option.some.injEq,Sigma.mk.injEq] at h
   obtain⟨rfl,h⟩:=h
   cases h
   refine⟨rfl,by simp [Ty.off],?_⟩
   have:=hr.len
   simp only[Ty.off,List.drop_zero]
   rw[<-this,List.take_length]
   exact hr
  |cons i p=>
   obtain⟨c1,c2,rfl,r1,r2⟩:=hr
   have l1:=r1.len
   have l2:=r2.len
   cases i with
   |zero=>
    obtain⟨k1,k2,k3⟩:=mK r1 hp h
    refine⟨k1,by simp only[Ty.off,Ty.cells];omega,?_⟩
    simp only[Ty.off]
    rw[List.drop_append_of_le_length (by omega),List.take_append_of_le_length (by rw[List.length_drop];omega)]
    exact k3
   |succ i=>
    obtain⟨k1,k2,k3⟩:=mL r2 hp h
    refine⟨k1,by simp only[Ty.off,Ty.cells];omega,?_⟩
    simp only[Ty.off]
    rw[<-List.drop_drop,<-l1,List.drop_left]
    exact k3
 |_=>
  intro p x cs u y hr hp h
  cases p with
  |nil=>
   simp only[El.get,Option.some.injEq,Sigma.mk.injEq] at h
   obtain⟨rfl,h⟩:=h
   cases h
   refine⟨rfl,by simp [Ty.off],?_⟩
   have:=hr.len
   simp only[Ty.off,List.drop_zero]
   rw[<-this,List.take_length]
   exact hr
  |cons i p=>simp [El.get] at h
theorem R9:∀(fl:List Field) (t:Ty) (off j:Nat) (ft:Ty),jS E fl t off->t.dx=true->t.at_ [j]=some ft->∃f,fl[j]? =some f/\f.offset=off+t.off [j]/\E.ty f.type=some ft/\t.fa [j]:=by
 intro fl
 induction fl with
 |nil=>intro t off j ft hf hp h;cases t<;>simp [jS,Ty.dx] at hf hp
 |cons f fl ih=>
  intro t off j ft hf hp h
  cases t<;>simp only[jS] at hf<;>try exact hf.elim
  rename_i ta tb
  obtain⟨h1,h2,h3,h4⟩:=hf
  cases j with
  |zero=>
   simp only[Ty.at_,Option.some.injEq] at h
   subst h
   exact⟨f,rfl,by simp [Ty.off,h1],h2,by simp [Ty.fa]⟩
  |succ j=>
   simp only[Ty.at_] at h
   cases htb:tb.dx with
   |true=>
    obtain⟨g,g1,g2,g3,g4⟩:=ih tb (off+ta.cells) j ft h4 htb h
    exact⟨g,g1,by simp only[Ty.off];omega,g3,g4⟩
   |false=>
    cases fl with
    |nil=>cases tb<;>simp [jS,Ty.at_] at h4 h
    |cons g fl=>cases tb<;>simp [jS,Ty.dx] at h4 htb
theorem TT(hE:ak P E){T:TypeId}{t:Ty}(ht:E.ty T=some t)(hp:t.dx=true):∃fs,P.underlying T=some (.struct fs)/\jS E fs.toList t 0:=by
 have hu:=(hE.ty T t ht).dC
 cases t<;>simp [Ty.dx] at hp
 obtain⟨fs,h1,h2,_⟩:=hu
 exact⟨fs,h1,h2⟩
theorem z7c(hE:ak P E){f:Field}{ft:Ty}(hf:E.ty f.type=some ft)(hc:ft.cells≠0)(ad:Addr)(w:World):(fieldPlace ad f).run P w= .ok (ad.add f.offset) w:=by
 simp [fieldPlace,l9 hE hf,hc]
theorem SL:∀(t:Ty) (p:List Nat) (x:El t) (u:Ty) (y:El u),El.get t p x=some ⟨u,y⟩->t.at_ p=some u:=by
 intro t
 induction t with
 |arr n t ih=>
  intro p x u y h
  cases p with
  |nil=>simp only[El.get,Option.some.injEq,Sigma.mk.injEq] at h;rw[Ty.at_,h.1]
  |cons i p=>exact ih p _ u y h
 |pair a b mK mL=>
  intro p x u y h
  cases p with
  |nil=>simp only[El.get,Option.some.injEq,Sigma.mk.injEq] at h;rw[Ty.at_,h.1]
  |cons i p=>
   cases i with
   |zero=>exact mK p _ u y h
   |succ i=>exact mL (i::p) _ u y h
 |_=>
  intro p x u y h
  cases p with
  |nil=>simp only[El.get,Option.some.injEq,Sigma.mk.injEq] at h;rw[Ty.at_,h.1]
  |cons i p=>simp [El.get] at h
theorem adh(hE:ak P E)(hr:Rel X s a){T:TypeId}{x:Operand}{j:Nat}{ta tb:Ty}(ho:o.op= .fieldAddr T x j)(hg:E.gr T=some (ta,tb))(h:IC (s.aG x) j ta tb some=some u):aH P X s a o u:=by
 have hx:=hr.aG x
 unfold IC at h
 split at h
 case h_2=>cases h
 rename_i id c d e
 rw[e] at hx
 obtain⟨r,hb,hv,_⟩:=hx
 split at h
 case isFalse=>cases h
 rename_i hcd
 rw[Bool.and_eq_true] at hcd
 have:=Ty.aI hcd.1
 subst this
 cases hj:Nat.ble j 2 with
 |false=>rw[hj] at h;cases h
 |true=>
  rw[hj] at h
  cases h
  have hj:=Nat.le_of_ble_eq_true hj
  obtain⟨fs,hu,hf⟩:=hE.gr T _ _ hg
  obtain⟨f,i,g1,g2,g3,g4⟩:=hf j hj
  refine aH.plain hr (v:= .pointer (some ⟨r,nB c [j],none⟩)) ?_ ⟨r,hb,rfl,?_⟩ (fun bc t' p' e'=> ?_)
  ·have hp:∀(ad:Addr) (w:World),(fieldPlace ad f).run P w= .ok (ad.add f.offset) w:=fun ad w=>by simp [fieldPlace,sizeOf,typeInfo,g3,g4]
   simp only[execOp,ho,Sem.run_bind,Instr.fieldAt,run_underlying hu,Result.andThen_ok,g1,hv,Instr.sureAddr,Sem.run_pure,hp]
   rw[jq,g2]
   simp [nB]
  ·match j,hj with
   |0,_=>simp [gIn,Ty.fa]
   |1,_=>trivial
   |2,_=>trivial
  ·injection e' with e1 e2 e3
   subst e1
   exact te hr e
theorem acG(hE:ak P E)(hr:Rel X s a){T:TypeId}{x:Operand}{j:Nat}{u0:Ty}{id:Nat}{t:Ty}{p:List Nat}(ho:o.op= .fieldAddr T x j)(hT:E.ty T=some u0)(e:s.aG x= .ptr id t p)(h:Ik u0 id t p j some=some u):aH P X s a o u:=by
 have hx:=hr.aG x
 rw[e] at hx
 obtain⟨r,hb,hx⟩:=hx
 unfold Ik at h
 split at h
 case h_2=>cases h
 rename_i ta tb q
 obtain⟨hv,dv⟩:=hx
 have hv:a.eval x= .pointer (some ⟨r,ta.off q,none⟩):=hv
 have dv:ta.fa q:=dv
 split at h
 case h_2=>cases h
 rename_i u'' cj
 split at h
 case isFalse=>cases h
 rename_i jI
 rw[Bool.and_eq_true] at jI
 obtain⟨heq,fE⟩:=jI
 have:=Ty.aI heq
 subst this
 split at h
 case h_2=>cases h
 rename_i ft Hx
 split at h
 ·cases h
 rename_i dU
 cases h
 have hc:ft.cells≠0:=fun e=>dU (by rw[e];rfl)
 obtain⟨fs,je,jw⟩:=TT hE hT fE
 obtain⟨f,g1,g2,g3,g4⟩:=R9 fs.toList u0 0 j ft jw fE Hx
 refine aH.plain hr (v:= .pointer (some ⟨r,ta.off (q++ [j]),none⟩)) ?_ ⟨r,hb,rfl,QV ta q [j] u0 cj dv g4⟩ (fun bc t' p' e'=> ?_)
 ·have iC:fs[j]? =some f:=by rw[<-Array.getElem?_toList];exact g1
  simp only[execOp,ho,Sem.run_bind,Instr.fieldAt,run_underlying je,Result.andThen_ok,iC,hv,Instr.sureAddr,Sem.run_pure,z7c hE g3 hc]
  rw[jq,z59 ta q [j] u0 cj,g2,Nat.zero_add]
 ·injection e' with e1 e2 e3
  subst e1
  exact te hr e
theorem acd(hE:ak P E)(hr:Rel X s a){ops:List Oper}{T:TypeId}{x:Operand}{j:Nat}(ho:o.op= .fieldAddr T x j){C:FuncId->bV Out}(h:act E C ops o s some=some u):aH P X s a o u:=by
 unfold act at h
 simp only[ho] at h
 have hx:=hr.aG x
 split at h
 ·rename_i ta tb hg
  exact adh hE hr ho hg h
 unfold SK at h
 split at h
 ·rename_i t u' id root p hT e
  rw[e] at hx
  obtain⟨r,hb,hx⟩:=hx
  split at h
  ·exact acG hE hr ho hT e h
  rename_i eI
  have eI:root.bH=false:=by simpa using eI
  obtain⟨hv,dv⟩:=(rf eI).1 hx
  split at h
  case h_2=>cases h
  rename_i u'' cj
  split at h
  case isFalse=>cases h
  rename_i jI
  rw[Bool.and_eq_true] at jI
  obtain⟨heq,fE⟩:=jI
  have:=Ty.aI heq
  subst this
  split at h
  case h_2=>cases h
  rename_i ft Hx
  split at h
  ·cases h
  rename_i dU
  cases h
  have hc:ft.cells≠0:=fun e=>dU (by rw[e];rfl)
  obtain⟨fs,je,jw⟩:=TT hE hT fE
  obtain⟨f,g1,g2,g3,g4⟩:=R9 fs.toList u' 0 j ft jw fE Hx
  refine aH.plain hr (v:= .pointer (some ⟨r,root.off (p++ [j]),none⟩)) ?_ ⟨r,hb,(rf eI).2 ⟨rfl,QV root p [j] u' cj dv g4⟩⟩ (fun bc t' p' e'=> ?_)
  ·have iC:fs[j]? =some f:=by rw[<-Array.getElem?_toList];exact g1
   simp only[execOp,ho,Sem.run_bind,Instr.fieldAt,run_underlying je,Result.andThen_ok,iC,hv,Instr.sureAddr,Sem.run_pure,z7c hE g3 hc]
   rw[jq,z59 root p [j] u' cj,g2,Nat.zero_add]
  ·injection e' with e1 e2 e3
   subst e1
   exact te hr e
 ·rename_i t u' root y hT e
  rw[e] at hx
  obtain⟨ad,cs,hv,m5,aM,eJ⟩:=hx
  split at h
  case isFalse=>cases h
  rename_i jI
  rw[Bool.and_eq_true] at jI
  obtain⟨heq,fE⟩:=jI
  have:=Ty.aI heq
  subst this
  split at h
  case h_2=>cases h
  rename_i ft z Hx
  split at h
  ·cases h
  rename_i dU
  cases h
  have hc:ft.cells≠0:=fun e=>dU (by rw[e];rfl)
  obtain⟨fs,je,jw⟩:=TT hE hT fE
  have cj:u'.at_ [j]=some ft:=SL u' [j] y ft z Hx
  obtain⟨f,g1,g2,g3,g4⟩:=R9 fs.toList u' 0 j ft jw fE cj
  obtain⟨k1,k2,k3⟩:=Sb aM g4 Hx
  refine aH.plain hr (v:= .pointer (some (ad.add (u'.off [j])))) ?_ ⟨ad.add (u'.off [j]),_,rfl,BN m5 _,k3,fun i v hi=> ?_⟩ (fun bc t' p' e'=>by cases e')
  ·have iC:fs[j]? =some f:=by rw[<-Array.getElem?_toList];exact g1
   simp only[execOp,ho,Sem.run_bind,Instr.fieldAt,run_underlying je,Result.andThen_ok,iC,hv,Instr.sureAddr,Sem.run_pure,z7c hE g3 hc]
   rw[g2,Nat.zero_add]
  ·rw[R4 _ m5]
   refine eJ _ v ?_
   rw[List.getElem?_take] at hi
   split at hi
   ·rw[List.getElem?_drop] at hi;exact hi
   ·cases hi
 ·cases h
end Go.Ref

namespace Go.Ref
open Go
variable {P:Program} {E:Env} {X:ax} {s:State} {a:Act} {o:Oper} {u:Out}
theorem vW{R:Type}{i:Int}{n:Nat}{x:Option R}{z:R}(h:zd i n x=some z):0<=i/\i<(n:Int)/\x=some z:=by
 unfold zd at h
 cases h1:decide (0<=i)<;>rw[h1] at h
 ·cases h
 ·cases h2:decide (i<(n:Int))<;>rw[h2] at h
  ·cases h
  ·exact⟨of_decide_eq_true h1,of_decide_eq_true h2,h⟩
theorem ZS{e:TypeId}{t:Ty}{xs:List (El t)}{cs:List Value}(h:bh X (.sl e t) xs cs):∃A c,eb (.sl e t) cs= .slice A xs.length c/\xs.length<=c/\
 ∀(j:Nat) x,xs[j]? =some x->∃ad eZ,A=some ad/\ad.spot=none/\bh X t x eZ/\∀(i:Nat) v,eZ[i]? =some v->X.ay (ad.add (j*t.cells+i)) v:=by
 obtain⟨A,c,rfl,h1,h2⟩:=h
 exact⟨A,c,rfl,h1,h2⟩
theorem bh.yk{e:TypeId}{t:Ty}{xs:List (El t)}{A:Option Addr}{n c:Nat}(hn:xs.length=n)(h1:n<=c)(h2:∀(j:Nat) x,xs[j]? =some x->∃ad eZ,A=some ad/\ad.spot=none/\bh X t x eZ/\∀(i:Nat) v,eZ[i]? =some v->X.ay (ad.add (j*t.cells+i)) v):bh X (.sl e t) xs [.slice A n c]:=by
 subst hn
 exact⟨A,c,rfl,h1,h2⟩
theorem zrd{R:Type}{s:SV}{K:Int->Option R}{z:R}(h:s.num K=some z):∃n k,K n=some z/\∀(X:ax) pl v,aA X pl s v->v= .int k n:=by
 unfold SV.num at h
 split at h
 ·rename_i k n w
  refine⟨n,k,h,fun X pl v hv=> ?_⟩
  obtain⟨cs,h1,h2,_⟩:=hv
  rw[h2,me h1]
 ·cases h
theorem acH(hE:ak P E)(hr:Rel X s a){T:TypeId}{x i:Operand}{m:Nat}{t:Ty}{n:Int}{ik:IntKind}{id:Nat}{root:Ty}{p:List Nat}(ho:o.op= .indexAddr T x i)(ei:a.eval i= .int ik n)(hT:E.ty T=some (.arr m t))(dP:s.aG x= .ptr id root p)(hx:aA X (yh x) (.ptr id root p) (a.eval x))(h:Io m t n id root p some=some u):aH P X s a o u:=by
 obtain⟨r,hb,hx⟩:=hx
 unfold Io at h
 split at h
 case h_2=>cases h
 rename_i ta tb q
 obtain⟨hv,dv⟩:=hx
 have hv:a.eval x= .pointer (some ⟨r,ta.off q,none⟩):=hv
 have dv:ta.fa q:=dv
 split at h
 case h_2=>cases h
 rename_i u'' cj
 split at h
 case isFalse=>cases h
 rename_i heq
 have:=Ty.aI heq
 subst this
 obtain⟨h0,h1,h⟩:=vW h
 cases h
 obtain⟨e,je,jw,_⟩:=(hE.ty T _ hT).dC
 have al:n.toNat<m:=by omega
 refine aH.plain hr (v:= .pointer (some ⟨r,ta.off (q++ [n.toNat]),none⟩)) ?_ ⟨r,hb,rfl,QV ta q [n.toNat] _ cj dv ⟨al,by simp [Ty.fa]⟩⟩ (fun bc t' p' e'=> ?_)
 ·simp only[execOp,ho,Sem.run_bind,Instr.indexAt,ei,hv,asIntOf,Sem.run_pure,Result.andThen_ok,run_underlying je,Instr.sureAddr,Sem.run_ite,h0,h1,and_self,if_true,l9 hE jw]
  rw[jq,z59 ta q [n.toNat] _ cj]
  simp [Ty.off]
 ·injection e' with e1 e2 e3
  subst e1
  exact te hr dP
theorem ace(hE:ak P E)(hr:Rel X s a){ops:List Oper}{T:TypeId}{x i:Operand}(ho:o.op= .indexAddr T x i){C:FuncId->bV Out}(h:act E C ops o s some=some u):aH P X s a o u:=by
 unfold act at h
 simp only[ho] at h
 have hx:=hr.aG x
 have hi:=hr.aG i
 unfold SN at h
 obtain⟨n,ik,h,hn⟩:=zrd h
 have ei:=hn X _ _ hi
 split at h
 ·rename_i e t t' xs w hT dP
  rw[dP] at hx
  obtain⟨ys,h,vf⟩:=zz h
  obtain⟨h0,h1,h⟩:=vW h
  cases h
  obtain⟨cs,l6,ev⟩:=vf X (yh x) _ hx.bare
  obtain⟨A,c,hm,hle,fX⟩:=ZS l6
  rw[hm] at ev
  have al:n.toNat<List.length ys:=by omega
  obtain⟨ad,eZ,rfl,m5,aM,eJ⟩:=fX n.toNat _ (getD_some (El.bU t) al)
  have hu:=(hE.ty T _ hT).dC
  refine aH.plain hr (v:= .pointer (some (ad.add (n.toNat*t.cells)))) ?_ ⟨ad.add (n.toNat*t.cells),eZ,rfl,BN m5 _,aM,fun j v hj=> ?_⟩ (fun _ _ _ e'=>by cases e')
  ·simp only[execOp,ho,Sem.run_bind,Instr.indexAt,ei,ev,asIntOf,Sem.run_pure,Result.andThen_ok,run_underlying hu.1,Sem.run_ite,h0,h1,and_self,if_true,l9 hE hu.2]
  ·rw[R4 _ m5];exact eJ j v hj
 ·rename_i m t id root p hT dP
  rw[dP] at hx
  obtain⟨r,hb,hx⟩:=hx
  split at h
  ·exact acH hE hr ho ei hT dP ⟨r,hb,hx⟩ h
  rename_i eI
  have eI:root.bH=false:=by simpa using eI
  obtain⟨hv,dv⟩:=(rf eI).1 hx
  split at h
  case h_2=>cases h
  rename_i u'' cj
  split at h
  case isFalse=>cases h
  rename_i heq
  have:=Ty.aI heq
  subst this
  obtain⟨h0,h1,h⟩:=vW h
  cases h
  obtain⟨e,je,jw,_⟩:=(hE.ty T _ hT).dC
  have al:n.toNat<m:=by omega
  refine aH.plain hr (v:= .pointer (some ⟨r,root.off (p++ [n.toNat]),none⟩)) ?_ ⟨r,hb,(rf eI).2 ⟨rfl,QV root p [n.toNat] _ cj dv ⟨al,by simp [Ty.fa]⟩⟩⟩ (fun bc t' p' e'=> ?_)
  ·simp only[execOp,ho,Sem.run_bind,Instr.indexAt,ei,hv,asIntOf,Sem.run_pure,Result.andThen_ok,run_underlying je,Instr.sureAddr,Sem.run_ite,h0,h1,and_self,if_true,l9 hE jw]
   rw[jq,z59 root p [n.toNat] _ cj]
   simp [Ty.off]
  ·injection e' with e1 e2 e3
   subst e1
   exact te hr dP
 ·rename_i m t t' xs hT dP
  rw[dP] at hx
  obtain⟨ad,cs,hv,m5,aM,eJ⟩:=hx
  simp only[SV.el] at h
  split at h
  case isFalse=>cases h
  rename_i heq
  have:=Ty.aI heq
  subst this
  obtain⟨h0,h1,h⟩:=vW h
  cases h
  obtain⟨e,je,jw,_⟩:=(hE.ty T _ hT).dC
  obtain⟨l1,l2,l3⟩:=aM
  have al:n.toNat<m:=by omega
  have Hy:=l3 n.toNat _ (getD_some (El.bU t) (by omega))
  refine aH.plain hr (v:= .pointer (some (ad.add (n.toNat*t.cells)))) ?_ ⟨ad.add (n.toNat*t.cells),_,rfl,BN m5 _,Hy,fun j v hj=> ?_⟩ (fun _ _ _ e'=>by cases e')
  ·simp only[execOp,ho,Sem.run_bind,Instr.indexAt,ei,hv,asIntOf,Sem.run_pure,Result.andThen_ok,run_underlying je,Instr.sureAddr,Sem.run_ite,h0,h1,and_self,if_true,l9 hE jw]
  ·rw[R4 _ m5]
   refine eJ _ v ?_
   rw[List.getElem?_take] at hj
   split at hj
   ·rw[List.getElem?_drop] at hj;exact hj
   ·cases hj
 ·rename_i e0 t id r p hT dP
  rw[dP] at hx
  unfold Rl at h
  split at h
  case h_2=>cases h
  rename_i m ta tb
  split at h
  case isFalse=>cases h
  rename_i heq
  have:=Ty.aI heq
  subst this
  obtain⟨h0,h1,h⟩:=vW h
  cases h
  obtain⟨r0,hb,cap,hv,nF⟩:=hx
  have hu:=(hE.ty T _ hT).dC
  refine aH.plain hr (v:= .pointer (some ⟨r0,n.toNat*ta.cells,none⟩)) ?_ ⟨r0,hb,rfl⟩ (fun bc t' p' e'=> ?_)
  ·simp only[execOp,ho,Sem.run_bind,Instr.indexAt,ei,hv,asIntOf,Sem.run_pure,Result.andThen_ok,run_underlying hu.1,Sem.run_ite,h0,h1,and_self,if_true,l9 hE hu.2]
   rw[jq,Nat.zero_add]
  ·injection e' with e1 e2 e3
   subst e1
   exact te hr dP
 ·rename_i id ta tb hT dP
  rw[dP] at hx
  obtain⟨r0,hb,hv,_⟩:=hx
  split at h
  case isFalse=>cases h
  rename_i hga
  obtain⟨h0,h1,h⟩:=vW h
  cases h
  obtain⟨e,i',hu,xR,c9⟩:=hE.ga T hga
  have al:n.toNat<2:=by omega
  refine aH.plain hr (v:= .pointer (some ⟨r0,nB ta [1,n.toNat],none⟩)) ?_ ⟨r0,hb,rfl,al⟩ (fun bc t' p' e'=> ?_)
  ·have gI:(sizeOf e).run P X.w= .ok 1 X.w:=by simp [sizeOf,typeInfo,xR,c9]
   have h1':n<((2:Nat):Int):=h1
   simp only[execOp,ho,Sem.run_bind,Instr.indexAt,ei,hv,asIntOf,Sem.run_pure,Result.andThen_ok,run_underlying hu,Instr.sureAddr,Sem.run_ite,h0,h1',and_self,if_true,gI]
   rw[jq,Nat.mul_one]
   rfl
  ·injection e' with e1 e2 e3
   subst e1
   exact te hr dP
 ·cases h
theorem BW{pl:List Nat->Place}{t:Ty}{x:El t}{cs:List Value}(h:bh X t x cs):aA X pl (.aj t x []) (eb t cs):=⟨cs,h,rfl,m7⟩
theorem ad7(hE:ak P E)(hr:Rel X s a){ops:List Oper}{T:TypeId}{x i:Operand}(ho:o.op= .index T x i){C:FuncId->bV Out}(h:act E C ops o s some=some u):aH P X s a o u:=by
 unfold act at h
 simp only[ho] at h
 have hx:=hr.aG x
 have hi:=hr.aG i
 unfold SO at h
 obtain⟨n,ik,h,hn⟩:=zrd h
 have ei:=hn X _ _ hi
 split at h
 ·rename_i hT
  obtain⟨st,h,bQ⟩:=zz h
  obtain⟨h0,h1,h⟩:=vW h
  cases h
  obtain⟨cs,Mb,ev⟩:=bQ X _ _ hx
  rw[n6 Mb] at ev
  have hu:=(hE.ty T _ hT).dC
  have al:n.toNat<st.size:=by omega
  refine aH.plain hr (v:= .int .u8 (ze st n.toNat)) ?_ jR (fun _ _ _ e'=>by cases e')
  have cC:st[n.toNat]? =some (st[n.toNat]'al):=getElem?_pos st n.toNat al
  simp only[execOp,ho,Sem.run_bind,Instr.index,ei,ev,asIntOf,Sem.run_pure,Result.andThen_ok,run_underlying hu,h0,if_true,cC]
  simp [ze,al]
 ·rename_i m t hT
  obtain⟨ys,h,vf⟩:=zz h
  obtain⟨h0,h1,h⟩:=vW h
  cases h
  obtain⟨cs,l6,ev⟩:=vf X _ _ hx
  rw[j9 rfl] at ev
  obtain⟨e,je,jw,_⟩:=(hE.ty T _ hT).dC
  obtain⟨l1,l2,l3⟩:=l6
  have al:n.toNat<m:=by omega
  have Hy:=l3 n.toNat _ (getD_some (El.bU t) (by omega))
  refine aH.plain hr ?_ (BW Hy) (fun _ _ _ e'=>by cases e')
  have hp:=Gr hE jw Hy (all:=cs.toArray) (off:=n.toNat*t.cells) rfl X.w
  simp only[execOp,ho,Sem.run_bind,Instr.index,ei,ev,asIntOf,Sem.run_pure,Result.andThen_ok,run_underlying je,h0,h1,and_self,if_true,l9 hE jw,hp]
 ·cases h
theorem ad6(hE:ak P E)(hr:Rel X s a){ops:List Oper}{T:TypeId}{x:Operand}{j:Nat}(ho:o.op= .field T x j){C:FuncId->bV Out}(h:act E C ops o s some=some u):aH P X s a o u:=by
 unfold act at h
 simp only[ho] at h
 have hx:=hr.aG x
 split at h
 case h_2=>cases h
 rename_i t hT
 split at h
 ·cases h
 rename_i fE
 have fE:t.dx=true:=by simpa using fE
 obtain⟨y,h,hy⟩:=zz h
 split at h
 case h_2=>cases h
 rename_i ft z hg
 cases h
 obtain⟨cs,rep,ev⟩:=hy X _ _ hx
 have sf:t.agg=true:=by cases t<;>simp_all [Ty.dx,Ty.agg]
 rw[j9 sf] at ev
 obtain⟨fs,je,jw⟩:=TT hE hT fE
 obtain⟨f,g1,g2,g3,dv⟩:=R9 fs.toList t 0 j ft jw fE (SL t [j] y ft z hg)
 obtain⟨k1,k2,k3⟩:=Sb rep dv hg
 have iC:fs[j]? =some f:=by rw[<-Array.getElem?_toList];exact g1
 refine aH.plain hr ?_ (BW k3) (fun _ _ _ e'=>by cases e')
 have hp:=Gr hE g3 k3 (all:=cs.toArray) (off:=f.offset) (by rw[g2,Nat.zero_add]) X.w
 simp only[execOp,ho,Sem.run_bind,Instr.field,run_underlying je,Result.andThen_ok,iC,ev,asAgg,Sem.run_pure,hp]
theorem akN(hE:ak P E)(hr:Rel X s a){ops:List Oper}{x:Operand}{T:TypeId}{dT:Array Operand}{ts:Array TypeId}(ho:o.op= .call ⟨.builtin .len,dT,ts⟩){C:FuncId->bV Out}(h:act E C ops o s some=some u):aH P X s a o u:=by
 unfold act at h
 simp only[ho] at h
 split at h
 case h_2=>cases h
 rename_i x T sY CC
 have has:dT= #[x]:=by rw[<-Array.toArray_toList (xs:=dT),sY]
 have lg:ts= #[T]:=by rw[<-Array.toArray_toList (xs:=ts),CC]
 subst has lg
 have hx:=hr.aG x
 unfold vj at h
 split at h
 ·rename_i hT
  obtain⟨st,h,bQ⟩:=zz h
  cases h
  obtain⟨cs,Mb,ev⟩:=bQ X _ _ hx
  rw[n6 Mb] at ev
  have hu:=(hE.ty T _ hT).dC
  refine aH.plain hr (v:= .int .i64 st.size) ?_ jR (fun _ _ _ e'=>by cases e')
  simp [execOp,ho,resolve,invoke,builtin,Builtin.len_,ev,run_underlying hu,goInt]
 ·rename_i e t hT
  have hu:=(hE.ty T _ hT).dC
  split at h
  ·rename_i id n ta tb dP
   cases h
   rw[dP] at hx
   obtain⟨r0,hb,cap,ev,nF⟩:=hx
   refine aH.plain hr (v:= .int .i64 n) ?_ jR (fun _ _ _ e'=>by cases e')
   simp [execOp,ho,resolve,invoke,builtin,Builtin.len_,ev,run_underlying hu.1,goInt]
  ·obtain⟨xs,h,aaG⟩:=zz h
   cases h
   obtain⟨cs,Dp,ev⟩:=aaG X _ _ hx
   obtain⟨A,c,hm,_,_⟩:=ZS Dp
   rw[hm] at ev
   refine aH.plain hr (v:= .int .i64 (List.length xs)) ?_ jR (fun _ _ _ e'=>by cases e')
   simp [execOp,ho,resolve,invoke,builtin,Builtin.len_,ev,run_underlying hu.1,goInt]
 ·rename_i n t hT
  cases h
  obtain⟨e,je,jw,_⟩:=(hE.ty T _ hT).dC
  refine aH.plain hr (v:= .int .i64 n) ?_ jR (fun _ _ _ e'=>by cases e')
  simp [execOp,ho,resolve,invoke,builtin,Builtin.len_,run_underlying je,goInt]
 ·cases h
theorem MG(hr:Rel X s a){ops:List Oper}{g:Bool}{dT:Array Operand}{ts:Array TypeId}(ho:o.op= .call ⟨.builtin (if g then .max else .min),dT,ts⟩){C:FuncId->bV Out}(h:act E C ops o s some=some u):aH P X s a o u:=by
 have key:∀x y,dT= #[x,y]->kN g (s.aG x) (s.aG y) some=some u->aH P X s a o u:=by
  intro x y has h
  subst has
  have hx:=hr.aG x
  have hy:=hr.aG y
  unfold kN at h
  split at h
  case h_2=>cases h
  rename_i k m _ k' n _ e1 e2
  rw[e1] at hx
  rw[e2] at hy
  have vx:=BE hx
  have vy:=BE hy
  cases h
  refine aH.plain hr (v:= .int k (bif g then(if(m:Int)<n then n else m) else(if(n:Int)<m then n else m))) ?_ jR (fun _ _ _ e'=>by cases e')
  cases g
  ·simp [execOp,ho,resolve,invoke,builtin,Builtin.min_,Builtin.min2,vx,vy]
  ·simp [execOp,ho,resolve,invoke,builtin,Builtin.max_,Builtin.max2,vx,vy]
 unfold act at h
 cases g with
 |true=>
  simp only[ho,if_true] at h
  split at h
  ·rename_i x y e
   exact key x y (by rw[<-Array.toArray_toList (xs:=dT),e]) h
  ·cases h
 |false=>
  simp only[ho,Bool.false_eq_true,if_false] at h
  split at h
  ·rename_i x y e
   exact key x y (by rw[<-Array.toArray_toList (xs:=dT),e]) h
  ·cases h
theorem anL(hr:Rel X s a){ops:List Oper}{op:UnOp}{T:TypeId}{x:Operand}(ho:o.op= .unOp op T x){C:FuncId->bV Out}(h:act E C ops o s some=some u):aH P X s a o u:=by
 unfold act at h
 simp only[ho] at h
 have hx:=hr.aG x
 unfold Mh at h
 split at h
 ·rename_i b w e
  rw[e] at hx
  cases h
  refine aH.plain hr (v:= .bool (!b)) ?_ n4 (fun _ _ _ e'=>by cases e')
  simp [execOp,ho,QI hx,Op.unary]
 ·rename_i k n w e
  rw[e] at hx
  cases h
  refine aH.plain hr (v:= .int k (k.wrap (0-n))) ?_ jR (fun _ _ _ e'=>by cases e')
  simp [execOp,ho,BE hx,Op.unary,Op.intArith]
 ·cases h
theorem ack(hr:Rel X s a){ops:List Oper}{x:Operand}(ho:o.op= .nilCheck x){C:FuncId->bV Out}(h:act E C ops o s some=some u):aH P X s a o u:=by
 unfold act at h
 simp only[ho] at h
 have hx:=hr.aG x
 split at h
 ·rename_i id t p e
  rw[e] at hx
  split at h
  ·cases h
  rename_i eI
  have eI:(t.bH&& !t.fb)=false:=by simpa using eI
  cases h
  obtain⟨r,h1,hx⟩:=hx
  obtain⟨ad,h2⟩:=Nr eI hx
  refine aH.plain hr (v:= .pointer (some ad)) ?_ ⟨r,h1,h2▸hx⟩ (fun bc t' p' e'=> ?_)
  ·simp [execOp,ho,h2]
  ·injection e' with e1 e2 e3
   subst e1
   exact te hr e
 ·rename_i t y e
  rw[e] at hx
  cases h
  obtain⟨ad,cs,h1,h2⟩:=hx
  refine aH.plain hr (v:= .pointer (some ad)) ?_ ⟨ad,cs,rfl,h2⟩ (fun _ _ _ e'=>by cases e')
  simp [execOp,ho,h1]
 ·cases h
theorem acF(hr:Rel X s a){ops:List Oper}{x:Operand}{j:Nat}(ho:o.op= .extract x j){C:FuncId->bV Out}(h:act E C ops o s some=some u):aH P X s a o u:=by
 unfold act at h
 simp only[ho] at h
 split at h
 case h_2=>cases h
 rename_i t
 have hs:=hr.slot t
 split at h
 ·rename_i hlen
  split at h
  case h_2=>cases h
  rename_i uW
  cases h
  have Ti:=hr.aG (.tmp t)
  rw[show s.aG (.tmp t)=SV.over from uW] at Ti
  have Ti:a.eval (.tmp t)= .tuple #[.bool false]:=Ti
  refine aH.plain hr (v:= .bool false) ?_ n4 (fun _ _ _ e'=>by cases e')
  simp [execOp,ho,Ti,Instr.extract]
 rename_i hlen
 have A5:(s.slot t).length≠1:=fun e=>hlen (by rw[e];rfl)
 have C3:∃vs:Array Value,a.tmps.getD t Go.undef= .tuple vs/\vs.size=(s.slot t).length/\∀(j:Nat) sv v,(s.slot t)[j]? =some sv->vs[j]? =some v->aA X (.c t j) sv v:=by
  match hm:s.slot t with
  | [sv]=>rw[hm] at A5;exact absurd rfl A5
  | []=>rw[hm] at hs;exact hs
  |_::_::_=>rw[hm] at hs;exact hs
 obtain⟨vs,h1,h2,h3⟩:=C3
 have aX:∀v,vs[j]? =some v->(execOp a.eval o).run P X.w= .ok (.value v) X.w:=by
  intro v hv
  simp only[execOp,ho,Act.eval,h1,Sem.run_bind,Instr.extract,hv,Sem.run_pure,Result.andThen_ok]
 have hv:∀sv,(s.slot t)[j]? =some sv->∃v,vs[j]? =some v:=by
  intro sv kc
  have:=(List.getElem?_eq_some_iff.1 kc).1
  exact⟨_,Array.getElem?_eq_getElem (by omega)⟩
 split at h
 ·rename_i ut y w e
  cases h
  obtain⟨v,hv⟩:=hv _ e
  cases w with
  |nil=>exact aH.plain hr (aX v hv) (h3 j _ v e hv).bare (fun _ _ _ h=>by cases h)
  |cons p w=>exact aH.Bp hr (aX v hv) (h3 j _ v e hv)
 ·cases h
 ·cases h
 ·rename_i sv h4 h5 h6 e
  cases h
  obtain⟨v,hv⟩:=hv _ e
  have gk:Plain sv:=by
   cases sv with
   |aj ut y w=>exact(h4 ut y w rfl).elim
   |bA id c b n=>first|exact(h5 id c b n rfl).elim|exact(h6 id c b n rfl).elim
   |_=>trivial
  refine aH.plain hr (aX v hv) ((h3 j _ v e hv).place gk) (fun id ty p e'=> ?_) gk.pj
  ·by_cases al:t<s.sl.length
   ·refine hr.live t _ id ty p (rj al) ?_
    rw[<-e'];exact List.mem_of_getElem? e
   ·have:s.slot t=[.undef]:=by simp [State.slot,List.getElem?_eq_none (Nat.le_of_not_lt al)]
    rw[this] at A5
    exact absurd rfl A5
 ·cases h
end Go.Ref

namespace Go.Ref
open Go
variable {P:Program} {E:Env} {X:ax} {s:State} {a:Act} {o:Oper} {u:Out}
def ot(v:Option SV)(n:Nat)(d:Nat):Prop:=match v with
 |none=>n=d
 |some v=>∀(X:ax) pl val,aA X pl v val->val= .int .i64 (n:Int)
theorem OT{l:Int}{m:Nat}(h1:0<=l)(h2:l<=(m:Int)):l.toNat<=m:=by omega
theorem zwu{l:Int}(h1:0<=l):((l.toNat:Nat):Int)=l:=by omega
theorem zaw{R:Type}{lo:Option SV}{m:Nat}{G:Nat->Option R}{z:R}(h:yJ lo m G=some z):∃l,G l=some z/\l<=m/\ot lo l 0:=by
 unfold yJ at h
 cases lo with
 |none=>exact⟨0,h,Nat.zero_le _,rfl⟩
 |some v=>
  obtain⟨l,h,hl⟩:=zz h
  cases h1:decide (0<=l)<;>rw[h1] at h
  ·cases h
  ·cases h2:decide (l<=(m:Int))<;>rw[h2] at h
   ·cases h
   ·have h1:=of_decide_eq_true h1
    have h2:=of_decide_eq_true h2
    refine⟨l.toNat,h,OT h1 h2,fun X pl val hv=> ?_⟩
    obtain⟨cs,r,e⟩:=hl X pl val hv
    rw[e,me r,zwu h1]
theorem zvm{R:Type}{lo hi:Option SV}{n:Nat}{F:Nat->Nat->Option R}{z:R}(h:cutAt lo hi n F=some z):∃l m,F l m=some z/\l<=m/\m<=n/\ot lo l 0/\ot hi m n:=by
 unfold cutAt at h
 cases hi with
 |none=>
  obtain⟨l,h1,h2,h3⟩:=zaw h
  exact⟨l,n,h1,h2,Nat.le_refl _,h3,rfl⟩
 |some v=>
  obtain⟨m,h,hm⟩:=zz h
  cases h1:decide (0<=m)<;>rw[h1] at h
  ·cases h
  ·cases h2:decide (m<=(n:Int))<;>rw[h2] at h
   ·cases h
   ·have h1:=of_decide_eq_true h1
    have h2:=of_decide_eq_true h2
    have h:yJ lo (Int.toNat m) (fun l=>F l (Int.toNat m))=some z:=h
    obtain⟨l,g1,g2,g3⟩:=zaw h
    refine⟨l,m.toNat,g1,g2,OT h1 h2,g3,fun X pl val hv=> ?_⟩
    obtain⟨cs,r,e⟩:=hm X pl val hv
    rw[e,me r,zwu h1]
theorem ot.val(hr:Rel X s a){x:Option Operand}{n d:Nat}(h:ot (x.map s.aG) n d):(x=none/\n=d)\/x.map a.eval=some (.int .i64 (n:Int)):=by
 cases x with
 |none=>exact .inl ⟨rfl,h⟩
 |some x=>exact .inr (by rw[Option.map_some,h X _ _ (hr.aG x)])
theorem zdj(hr:Rel X s a){isS:Bool}{lo hi:Option Operand}{l m n c:Nat}(hl:ot (lo.map s.aG) l 0)(hm:ot (hi.map s.aG) m n)(h1:l<=m)(h2:m<=n)(h3:n<=c)(w:World):
 (Instr.sliceBounds isS n c (lo.map a.eval) (hi.map a.eval) none).run P w= .ok (l,m,c) w:=by
 have sb:∀(i y:Nat) (code:BoundsCode),i<=y->(Instr.sliceBound (.int .i64 (i:Int)) y code).run P w= .ok i w:=by
  intro i y code h
  rw[run_sliceBound (P:=P) (w:=w) .i64 (i:Int) y code (by omega) (by omega)]
  simp
 rcases hl.val hr with⟨rfl,rfl⟩|hl<;>rcases hm.val hr with⟨rfl,rfl⟩|hm
 ·simp [Instr.sliceBounds]
 ·simp [Instr.sliceBounds,hm,sb m c _ (by omega)]
 ·simp [Instr.sliceBounds,hl,sb l m _ h1]
 ·simp [Instr.sliceBounds,hl,hm,sb l m _ h1,sb m c _ (by omega)]
theorem aha(hE:ak P E)(hr:Rel X s a){T:TypeId}{x:Operand}{lo hi:Option Operand}(ho:o.op= .slice T x lo hi none)(h:sc E T (s.aG x) (lo.map s.aG) (hi.map s.aG) some=some u):aH P X s a o u:=by
 have hx:=hr.aG x
 unfold sc at h
 split at h
 ·rename_i hT
  obtain⟨st,h,bQ⟩:=zz h
  obtain⟨l,m,h,h1,h2,hl,hm⟩:=zvm h
  cases h
  obtain⟨cs,Mb,ev⟩:=bQ X _ _ hx
  rw[n6 Mb] at ev
  have hu:=(hE.ty T _ hT).dC
  refine aH.plain hr (v:= .string (st.extract l m)) ?_ BO (fun _ _ _ e'=>by cases e')
  simp only[execOp,ho,Sem.run_bind,Instr.sliceAt,run_underlying hu,Result.andThen_ok,Instr.slice,ev,Option.map_none,Option.isSome_none,Bool.false_eq_true,if_false,zdj hr hl hm h1 h2 (Nat.le_refl _),Sem.run_pure]
 ·rename_i e t hT
  obtain⟨xs,h,sY⟩:=zz h
  obtain⟨l,m,h,h1,h2,hl,hm⟩:=zvm h
  cases h
  obtain⟨cs,Dp,ev⟩:=sY X _ _ hx
  obtain⟨A,c,iD,hle,fX⟩:=ZS Dp
  rw[iD] at ev
  have hu:=(hE.ty T _ hT).dC
  have hlen:((List.take m xs).drop l).length=m-l:=by rw[List.length_drop,List.length_take,Nat.min_eq_left h2]
  refine aH.plain hr (v:= .slice (if c=l then A else A.map (·.add (l*t.cells))) (m-l) (c-l)) ?_ ⟨_,bh.yk (A:=if c=l then A else A.map (·.add (l*t.cells))) (n:=m-l) (c:=c-l) hlen (by omega) (fun j y hj=> ?_),rfl,m7⟩ (fun _ _ _ e'=>by cases e')
  ·simp only[execOp,ho,Sem.run_bind,Instr.sliceAt,run_underlying hu.1,Result.andThen_ok,Instr.slice,ev,Option.map_none,zdj hr hl hm h1 h2 hle,Sem.run_pure,l9 hE hu.2]
  ·have uN:=(List.getElem?_eq_some_iff.1 hj).1
   rw[hlen] at uN
   have Li:xs[l+j]? =some y:=by
    rw[List.getElem?_drop,List.getElem?_take,if_pos (by omega)] at hj
    exact hj
   obtain⟨ad,eZ,rfl,m5,aM,eJ⟩:=fX (l+j) y Li
   rw[if_neg (by omega)]
   refine⟨ad.add (l*t.cells),eZ,rfl,BN m5 _,aM,fun i v hi=> ?_⟩
   rw[R4 _ m5,<-Nat.add_assoc,<-Nat.add_mul]
   exact eJ i v hi
 ·cases h
theorem ad4(hE:ak P E)(hr:Rel X s a){S T:TypeId}{x:Operand}(ho:o.op= .convert S T x)(h:lQ E S T (s.aG x) some=some u):aH P X s a o u:=by
 have hx:=hr.aG x
 unfold lQ at h
 split at h
 ·rename_i k k' hS hT
  obtain⟨n,h,hn⟩:=zz h
  cases h
  obtain⟨cs,rn,ev⟩:=hn X _ _ hx
  rw[me rn] at ev
  have hu:=(hE.ty S _ hS).dC
  have hv:=(hE.ty T _ hT).dC
  refine aH.plain hr (v:= .int k' (k'.wrap n)) ?_ jR (fun _ _ _ e'=>by cases e')
  simp [execOp,ho,ev,convert,run_underlying hu,run_underlying hv,Conv.intToInt]
 ·rename_i hS hT
  obtain⟨st,h,bQ⟩:=zz h
  cases h
  obtain⟨cs,rn,ev⟩:=bQ X _ _ hx
  rw[n6 rn] at ev
  have hu:=(hE.ty S _ hS).dC
  have hv:=(hE.ty T _ hT).dC
  refine aH.plain hr (v:= .string st) ?_ BO (fun _ _ _ e'=>by cases e')
  simp [execOp,ho,ev,convert,run_underlying hu,run_underlying hv]
 ·rename_i e hS hT
  obtain⟨xs,h,sY⟩:=zz h
  cases h
  obtain⟨cs,Dp,ev⟩:=sY X _ _ hx
  obtain⟨A,c,iD,hle,fX⟩:=ZS Dp
  rw[iD] at ev
  have hu:=(hE.ty S _ hS).dC
  have he:=(hE.ty e _ hu.2).dC
  have hv:=(hE.ty T _ hT).dC
  refine aH.plain hr (v:= .string (strOf xs)) ?_ BO (fun _ _ _ e'=>by cases e')
  have key:(convert S T (.slice A (List.length xs) c)).run P X.w= .ok (.string (strOf xs)) X.w:=by
   cases A with
   |none=>
    have uU:xs=[]:=by
     cases xs with
     |nil=>rfl
     |cons y ys=>obtain⟨ad,_,h,_⟩:=fX 0 y rfl;cases h
    rw[run_convert_bytes_nil X.w S e hu.1 he _ _ T hv,uU]
    rfl
   |some ad=>
    rw[run_convert_bytes_string X.w S T e _ _ c hu.1 he hv]
    have kD:(loadCells ad (List.length xs)).run P X.w= .ok (List.map (Value.int .u8) xs).toArray X.w:=by
     have:=run_loadCells_list (P:=P) X.w ad (List.map (Value.int .u8) xs) (fun j v hj=>by
      obtain⟨y,hy,rfl⟩:=List.getElem?_map .. ▸hj|>Option.map_eq_some_iff.1
      obtain⟨qT,eZ,h1,m5,aM,eJ⟩:=fX j y hy
      cases h1
      have hc:eZ=[.int .u8 y]:=aM
      have:=eJ 0 (.int .u8 y) (by rw[hc];rfl)
      have h2:=this.2.1
      simpa [Ty.cells] using h2)
     rw[List.length_map] at this
     exact this
    rw[run_bytesToString X.w ad _ c xs kD,foldl_push_bytes]
    simp [strOf,ByteArray.empty,ByteArray.emptyWithCapacity]
    rfl
  simp only[execOp,ho,Sem.run_bind,ev,key,Result.andThen_ok,Sem.run_pure]
 ·cases h
def ax.new(X:ax)(cs:Array Value)(T:TypeId)(w:Ow)(β:Nat->Option Nat):ax:={w:=X.w.alloc (.cells cs T),ow:=fun g=>if g=X.w.heap.size then w else X.ow g,β}
theorem Rm(X:ax)(s:State)(cs:Array Value)(T:TypeId)(w:Ow)(β:Nat->Option Nat)(hβ0:β 0=X.β 0)(hβ:∀(id:Nat) B,s.bs[id]? =some (some B)->β id=X.β id):fj s X (X.new cs T w β) where
 size:=by simp [ax.new]
 os:=rfl
 tape:=rfl
 output:=rfl
 nx:=fun g hg=>⟨by simp only[ax.new];rw[if_neg (by omega)],RowKit.Below.heap_alloc _ _ _ hg⟩
 β0:=hβ0
 β:=hβ
theorem Rc(X:ax)(cs:Array Value)(T:TypeId)(w:Ow)(β:Nat->Option Nat):(X.new cs T w β).w.heap[X.w.heap.size]? =some (.cells cs T (0,0))/\(X.new cs T w β).ow X.w.heap.size=w:=⟨heap_alloc_new X.w _,by simp [ax.new]⟩
theorem QW(T:TypeId)(v:Value)(w:World):(newVar T v).run P w= .ok ⟨w.heap.size,0,none⟩ (w.alloc (.cells v.cells T)):=by
 simp [newVar,newRow]
theorem Rel.fR{Y:ax}(hr:Rel Y s a){d r:Nat}{B:bD}(hd:d<s.bs.length)(hb:s.bs[d]? =some none)(hβ:Y.β d=some r)(h:bE Y d r B):Rel Y (s.aB (some (d,B))) a where
 size:=hr.size
 ia:=by simpa [State.aB] using hr.ia
 bR:=hr.bR
 boxes:=fun id B' eQ=>by
  simp only[State.aB,List.getElem?_set] at eQ
  by_cases e:d=id
  ·subst e
   rw[if_pos rfl,if_pos hd] at eQ
   cases eQ;exact⟨r,hβ,h⟩
  ·rw[if_neg e] at eQ
   exact hr.boxes id B' eQ
 live:=fun i l id t p hi hm=>by
  obtain⟨B',eQ⟩:=hr.live i l id t p hi hm
  simp only[State.aB,List.getElem?_set]
  by_cases e:d=id
  ·subst e;rw[hb] at eQ;cases eQ
  ·rw[if_neg e];exact⟨B',eQ⟩
 defers:=hr.defers
 bA:=hr.bA.aB (hr.bA.none fun a b x own h=>by rw[hb] at h;cases h)
theorem rh{d:Nat}{B:bD}(h:s.box d=some B):s.bs[d]? =some (some B):=by
 unfold State.box at h
 rw[List.getD_eq_getElem?_getD] at h
 cases hg:s.bs[d]? with
 |none=>rw[hg] at h;cases h
 |some x=>rw[hg] at h;simp at h;rw[h]
theorem EW(hr:Rel X s a){x:Operand}{t:Ty}{R:Type}{K:El t->Option R}{z:R}(h:(s.aG x).el t K=some z){c:List (Nat×Nat)}(hc:c=src x\/((s.aG x).own=[]/\c=[])):
 ∃y,K y=some z/\∀q:List Nat->Place,∃Y cs,Y.w=X.w/\Ext X Y/\Rel Y (s.close c) a/\bh Y t y cs/\a.eval x=eb t cs/\bn Y q t y cs (s.aG x).own/\Y.β=X.β/\eD (s.close c) X Y/\ml X Y:=by
 have hx:=hr.aG x
 cases hs:s.aG x with
 |aj t' y' w=>
  rw[hs] at hx h hc
  simp only[SV.el] at h
  split at h
  case isFalse=>cases h
  rename_i heq
  have:=Ty.aI heq
  subst this
  refine⟨y',h,fun q=> ?_⟩
  have plain:w=[]->∃Y cs,Y.w=X.w/\Ext X Y/\Rel Y (s.close c) a/\bh Y t' y' cs/\a.eval x=eb t' cs/\bn Y q t' y' cs (SV.aj t' y' w).own/\Y.β=X.β/\eD (s.close c) X Y/\ml X Y:=by
   intro hw
   subst hw
   obtain⟨cs,h1,h2,_⟩:=hx
   exact⟨X,cs,rfl,Ext.refl X,hr.close _,h1,h2,m7,rfl,eD.refl _ _,ml.refl X⟩
  rcases hc with hc|⟨hw,_⟩
  ·cases x with
   |tmp i=>
    obtain⟨Y,h1,h2,h3,⟨cs,h4,h5,h6⟩,h7,h8,h9⟩:=hr.take hx q
    subst hc
    exact⟨Y,cs,h1,h2,h3,h4,h5,h6,h7,h8,h9⟩
   |const v=>exact plain (zi3 (show BU v= .aj t' y' w from hs))
   |_=>simp [State.aG,State.ye,one] at hs
  ·exact plain hw
 |cJ=>
  rw[hs] at hx h
  cases t<;>simp only[SV.el] at h<;>try(cases h;done)
  rename_i e t
  refine⟨[],h,fun q=>⟨X,[.slice none 0 0],rfl,Ext.refl X,hr.close _,⟨none,0,rfl,Nat.le_refl _,fun j x hj=>by simp at hj⟩,hx,fun p hp=> ?_,rfl,eD.refl _ _,ml.refl X⟩⟩
  have hp:p=[]:=by simpa [SV.own] using hp
  subst hp
  exact⟨e,t,[],_,by simp [Ty.fa],rfl,rfl,.inl ⟨rfl,rfl⟩⟩
 |_=>rw[hs] at h;simp [SV.el] at h
theorem aH.fR{P:Program}(hr:Rel X s a){d:Nat}{T:TypeId}{t:Ty}{y:El t}{cs:List Value}{own:List (List Nat)}{c:List (Nat×Nat)}{W:ax}
 (eI:t.bH=false) (hd:o.dst=some d) (hb:s.bs[d+1]? =some none) (hW:W.w=X.w) (hX:Ext X W) (Tk:Rel W (s.close c) a) (aM:bh W t y cs)
 (bT:bn W (.b (d+1)) t y cs own)
 (aX:(execOp a.eval o).run P X.w= .ok (.value (.pointer (some ⟨X.w.heap.size,0,none⟩))) (X.w.alloc (.cells cs.toArray T))):aH P X s a o {v:=[.ptr (d+1) t []],bx:=some (d+1,⟨t,y,own⟩),cl:=c}:=by
 let β:Nat->Option Nat:=fun id=>if id=d+1 then some W.w.heap.size else W.β id
 have al:d+1<s.bs.length:=(List.getElem?_eq_some_iff.1 hb).1
 have jH:(s.close c).bs[d+1]? =some none:=by rw[yB];exact hb
 have hk:fj (s.close c) W (W.new cs.toArray T (.box (d+1)) β):=Rm W _ _ _ _ _ (by show(if _ then _ else _)=_;rw[if_neg (by omega)]) (fun id B hB=>by
  show(if id=d+1 then _ else _)=_
  rw[if_neg (fun e=>by rw[e,jH] at hB;cases hB)])
 obtain⟨n1,n2⟩:=Rc W cs.toArray T (.box (d+1)) β
 have bJ:bE (W.new cs.toArray T (.box (d+1)) β) (d+1) W.w.heap.size ⟨t,y,own⟩:=
  ⟨n2,dK.of eI n1 (by simpa using aM.ai (fun _ _=>hk.ay)) (by simpa using bT.dF hk)⟩
 have hβd:β (d+1)=some W.w.heap.size:=by show(if d+1=d+1 then _ else _)=_;rw[if_pos rfl]
 have fp:=(Tk.dF hk).fR (by rw[yB];exact al) jH hβd bJ
 refine⟨W.new cs.toArray T (.box (d+1)) β,.pointer (some ⟨X.w.heap.size,0,none⟩),.inl ?_,hX.trans hk.ext,?_⟩
 ·rw[aX];simp [ax.new,hW]
 ·rw[hd]
  refine fp.put (fun d' e=> ?_) (fun id t' p hm=> ?_)
  ·cases e
   refine⟨W.w.heap.size,hβd,(rf eI).2 ⟨?_,by simp [Ty.fa]⟩⟩
   rw[hW]
   simp [Ty.off]
  ·have:id=d+1:=by have:=hm;simp at this;exact this.1
   subst this
   exact⟨⟨t,y,own⟩,by simp [State.aB,List.getElem?_set,yB,al]⟩
theorem Ux(hE:ak P E){T:TypeId}{t:Ty}(ht:E.ty T=some t)(w:World):(zeroValue T).run P w= .ok (eb t (zp t)) w:=by
 obtain⟨i,h1,_,_,h2⟩:=(hE.ty T t ht).info
 simp [zeroValue,typeInfo,h1,h2]
theorem Ng(X:ax)(pl:List Nat->Place):∀t:Ty,bn X pl t (El.bU t) (zp t) (yC t):=by
 intro t
 induction t generalizing pl with
 |sl e t=>
  intro p hp
  have hp:p=[]:=by simpa [yC] using hp
  subst hp
  exact⟨e,t,[],.slice none 0 0,by simp [Ty.fa],rfl,rfl,.inl ⟨rfl,rfl⟩⟩
 |pair ta tb mK mL=>
  intro p hp
  simp only[yC,List.mem_append,List.mem_map,List.mem_filterMap] at hp
  rcases hp with⟨q,hq,rfl⟩|⟨q,hq,he⟩
  ·obtain⟨e,t',xs,v,g0,g1,g2,g3⟩:=mK (fun q=>pl (0::q)) q hq
   refine⟨e,t',xs,v,g0,g1,?_,g3⟩
   have hl:=(List.getElem?_eq_some_iff.1 g2).1
   simp only[Ty.off,zp]
   rw[List.getElem?_append_left hl]
   exact g2
  ·cases q with
   |nil=>simp [bump] at he
   |cons j q=>
    simp only[bump,Option.some.injEq] at he
    subst he
    obtain⟨e,t',xs,v,g0,g1,g2,g3⟩:=mL (fun q=>match q with| []=>pl []|j::q=>pl ((j+1)::q)) (j::q) hq
    refine⟨e,t',xs,v,g0,g1,?_,g3⟩
    simp only[Ty.off,zp]
    rw[List.getElem?_append_right (by rw[vE];omega),vE,Nat.add_sub_cancel_left]
    exact g2
 |_=>intro p hp;simp [yC] at hp
theorem aH.C8{P:Program}(hr:Rel X s a){d:Nat}{T e:TypeId}(hd:o.dst=some d)(hb:s.bs[d+1]? =some none)
 (aX:(execOp a.eval o).run P X.w= .ok (.value (.pointer (some ⟨X.w.heap.size,0,none⟩))) (X.w.alloc (.cells #[.pointer none,.slice none 0 0] T))):
 aH P X s a o {v:=[.ptr (d+1) (.aF (.gY T e) .unit .unit) []],bx:=some (d+1,⟨.aF (.gY T e) .unit .unit,(⟨#[]⟩:ByteArray),[[]]⟩)}:=by
 let β:Nat->Option Nat:=fun id=>if id=d+1 then some X.w.heap.size else X.β id
 have al:d+1<s.bs.length:=(List.getElem?_eq_some_iff.1 hb).1
 have hk:fj s X (X.new #[.pointer none,.slice none 0 0] T (.box (d+1)) β):=Rm X _ _ _ _ _ (by show(if _ then _ else _)=_;rw[if_neg (by omega)]) (fun id B hB=>by
  show(if id=d+1 then _ else _)=_
  rw[if_neg (fun e=>by rw[e,hb] at hB;cases hB)])
 obtain⟨n1,n2⟩:=Rc X #[.pointer none,.slice none 0 0] T (.box (d+1)) β
 have bJ:bE (X.new #[.pointer none,.slice none 0 0] T (.box (d+1)) β) (d+1) X.w.heap.size ⟨.aF (.gY T e) .unit .unit,(⟨#[]⟩:ByteArray),[[]]⟩:=
  ⟨n2,⟨_,n1⟩,fun _=>⟨.slice none 0 0,⟨.inl n1,⟨rfl,.inl ⟨rfl,rfl⟩⟩,by simp [Value.ownBlock]⟩,fun g hg=>by simp [Value.ownBlock] at hg⟩⟩
 have hβd:β (d+1)=some X.w.heap.size:=by show(if d+1=d+1 then _ else _)=_;rw[if_pos rfl]
 have fp:=(hr.dF hk).fR al hb hβd bJ
 refine⟨X.new #[.pointer none,.slice none 0 0] T (.box (d+1)) β,.pointer (some ⟨X.w.heap.size,0,none⟩),.inl aX,hk.ext,?_⟩
 rw[hd]
 refine fp.put (fun d' e=> ?_) (fun id t' p hm=> ?_)
 ·cases e
  exact⟨X.w.heap.size,hβd,(Rp rfl).2 ⟨by simp [Ty.off],by simp [Ty.fa]⟩⟩
 ·have:id=d+1:=by have:=hm;simp at this;exact this.1
  subst this
  exact⟨_,by simp [State.aB,List.getElem?_set,al];rfl⟩
theorem aH.C9{P:Program}(hr:Rel X s a){d:Nat}{T:TypeId}{ta tb:Ty}(hd:o.dst=some d)(hb:s.bs[d+1]? =some none)
 (aX:(execOp a.eval o).run P X.w= .ok (.value (.pointer (some ⟨X.w.heap.size,0,none⟩))) (X.w.alloc (.cells (zp ta++ [Value.pointer none,Value.pointer none,Value.int .i64 0]).toArray T))):aH P X s a o {v:=[.ptr (d+1) (.aF .bC ta tb) []],bx:=some (d+1,⟨.aF .bC ta tb,(El.bU ta,(none,none),(0:Int)),[]::lC⟩)}:=by
 let β:Nat->Option Nat:=fun id=>if id=d+1 then some X.w.heap.size else X.β id
 have al:d+1<s.bs.length:=(List.getElem?_eq_some_iff.1 hb).1
 have hk:fj s X (X.new (zp ta++ [Value.pointer none,Value.pointer none,Value.int .i64 0]).toArray T (.box (d+1)) β):=Rm X _ _ _ _ _ (by show(if _ then _ else _)=_;rw[if_neg (by omega)]) (fun id B hB=>by
  show(if id=d+1 then _ else _)=_
  rw[if_neg (fun e=>by rw[e,hb] at hB;cases hB)])
 obtain⟨n1,n2⟩:=Rc X (zp ta++ [Value.pointer none,Value.pointer none,Value.int .i64 0]).toArray T (.box (d+1)) β
 have bJ:bE (X.new (zp ta++ [Value.pointer none,Value.pointer none,Value.int .i64 0]).toArray T (.box (d+1)) β) (d+1) X.w.heap.size ⟨.aF .bC ta tb,(El.bU ta,(none,none),(0:Int)),[]::lC⟩:=
  ⟨n2,⟨_,n1⟩,fun _=>⟨zp ta,.pointer none,.pointer none,T,n1,(tc X ta).ai (fun _ _=>hk.ay),rfl,rfl⟩⟩
 have hβd:β (d+1)=some X.w.heap.size:=by show(if d+1=d+1 then _ else _)=_;rw[if_pos rfl]
 have fp:=(hr.dF hk).fR al hb hβd bJ
 refine⟨X.new _ T (.box (d+1)) β,.pointer (some ⟨X.w.heap.size,0,none⟩),.inl aX,hk.ext,?_⟩
 rw[hd]
 refine fp.put (fun d' e=> ?_) (fun id t' p hm=> ?_)
 ·cases e
  exact⟨X.w.heap.size,hβd,rfl,trivial⟩
 ·have:id=d+1:=by have:=hm;simp at this;exact this.1
  subst this
  exact⟨⟨.aF .bC ta tb,(El.bU ta,(none,none),(0:Int)),[]::lC⟩,by simp [State.aB,List.getElem?_set,al]⟩
theorem adZ(hE:ak P E)(hr:Rel X s a){ops:List Oper}{T:TypeId}(ho:o.op= .alloc T){C:FuncId->bV Out}(h:act E C ops o s some=some u):aH P X s a o u:=by
 unfold act at h
 simp only[ho] at h
 split at h
 case h_3=>cases h
 case h_2=>
  rename_i d hT hd
  split at h
  ·rename_i ta tb CN
   split at h
   case h_2=>cases h
   rename_i hb
   cases h
   obtain⟨i,h1,h2⟩:=hE.gz T ta tb CN
   refine aH.C9 hr hd hb (T:=T) ?_
   have hz:(zeroValue T).run P X.w= .ok (.agg (zp ta++ [Value.pointer none,Value.pointer none,Value.int .i64 0]).toArray) X.w:=by simp [zeroValue,typeInfo,h1,h2]
   simp only[execOp,ho,Sem.run_bind,Instr.alloc,hz,Result.andThen_ok,QW,Sem.run_pure]
   rfl
  split at h
  case h_2=>cases h
  rename_i e Tb
  split at h
  case h_2=>cases h
  rename_i hb
  cases h
  obtain⟨i,h1,h2⟩:=hE.bl T e Tb
  refine aH.C8 hr hd hb ?_
  have hz:(zeroValue T).run P X.w= .ok (.agg #[.pointer none,.slice none 0 0]) X.w:=by simp [zeroValue,typeInfo,h1,h2]
  simp only[execOp,ho,Sem.run_bind,Instr.alloc,hz,Result.andThen_ok,QW,Sem.run_pure]
  rfl
 rename_i t d hT hd
 split at h
 case h_2=>cases h
 rename_i hb
 cases h
 have aM:=tc X t
 refine aH.fR (T:=T) (cs:=zp t) (W:=X) (c:=[]) hr (hE.jA hT) hd hb rfl (Ext.refl X) hr aM (Ng X _ t) ?_
 simp only[execOp,ho,Sem.run_bind,Instr.alloc,Ux hE hT,Result.andThen_ok,QW,vZ aM,Sem.run_pure]
theorem akL(hE:ak P E)(hr:Rel X s a){ops:List Oper}{T:TypeId}{x:Operand}(ho:o.op= .box T x){C:FuncId->bV Out}(h:act E C ops o s some=some u):aH P X s a o u:=by
 unfold act at h
 simp only[ho] at h
 split at h
 case h_2=>cases h
 rename_i t d hT hd
 split at h
 case h_2=>cases h
 rename_i hb
 obtain⟨y,h,hy⟩:=EW hr h (.inl rfl)
 cases h
 obtain⟨W,cs,h1,h2,h3,h4,h5,h6,_,_,_⟩:=hy (.b (d+1))
 refine aH.fR (T:=T) (cs:=cs) (W:=W) hr (hE.jA hT) hd hb h1 h2 h3 h4 h6 ?_
 simp only[execOp,ho,Sem.run_bind,Instr.box,QW,Result.andThen_ok,Sem.run_pure,h5,vZ h4]
end Go.Ref

namespace Go.Ref
open Go
variable {P:Program} {E:Env} {X:ax} {s:State} {a:Act} {o:Oper} {u:Out}
theorem BG(hE:ak P E){T:TypeId}{t:Ty}(ht:E.ty T=some t){x:El t}{cs:List Value}(hr:bh X t x cs){ad:Addr}{w:World}(hc:∀(i:Nat) v,cs[i]? =some v->w.cell? (ad.add i)=some v):(loadVar T ad).run P w= .ok (eb t cs) w:=by
 have hl:=hr.len
 unfold loadVar
 simp only[Sem.run_bind,M7 hE ht,Result.andThen_ok]
 cases hg:t.agg with
 |true=>
  have:=run_loadCells_list (P:=P) w ad cs hc
  rw[hl] at this
  simp only[if_true,Sem.run_bind,l9 hE ht,Result.andThen_ok,this,Sem.run_pure,j9 hg]
 |false=>
  have h1:t.cells=1:=by cases t<;>simp_all [Ty.agg,Ty.cells]
  rw[h1] at hl
  match cs,hl with
  | [c],_=>
    rw[Sd hg]
    have:=hc 0 c rfl
    have h0:ad.add 0=ad:=by simp [Addr.add]
    rw[h0] at this
    simp only[Bool.false_eq_true,if_false,run_load,this]
theorem BH{own:List (List Nat)}{p:List Nat}(h:hM own p=true):p∈own:=by
 unfold hM at h
 obtain⟨q,hq,he⟩:=List.any_eq_true.1 h
 rw[<-eq_of_beq he]
 exact hq
theorem zax{own:List (List Nat)}{p q:List Nat}(h:q∈yF own p):q∈own/\p.isPrefixOf q=false:=by
 unfold yF at h
 rw[List.mem_filter] at h
 exact⟨h.1,by simpa using h.2⟩
theorem Se{t:Ty}(h:t.bH=false):t.fb=false:=by cases t<;>first|rfl|cases h
theorem Rel.pj(hr:Rel X s a){id:Nat}{B:bD}(hb:s.bs[id]? =some (some B))(hg:B.t.fb=false\/ []∈B.own):∀(i:Nat) (l:List SV) a b j,s.sl[i]? =some l->SV.bA id a b j∈l->False:=hr.bA.none fun c d x own h=>by
 rw[hb] at h
 cases h
 exact hg.resolve_left fun e=>by cases e
theorem Rel.mQ{Y:ax}(hr:Rel Y s a){id r:Nat}{B B':bD}(hb:s.bs[id]? =some (some B))(hβ:Y.β id=some r)(h:bE Y id r B')(hg:B.t.fb=false\/ []∈B.own):Rel Y (s.aB (some (id,B'))) a where
 size:=hr.size
 ia:=by simpa [State.aB] using hr.ia
 bR:=hr.bR
 boxes:=fun bc B2 c8=>by
  have al:id<s.bs.length:=(List.getElem?_eq_some_iff.1 hb).1
  simp only[State.aB,List.getElem?_set] at c8
  by_cases e:id=bc
  ·subst e
   rw[if_pos rfl,if_pos al] at c8
   cases c8;exact⟨r,hβ,h⟩
  ·rw[if_neg e] at c8
   exact hr.boxes bc B2 c8
 live:=fun i l bc t p hi hm=>by
  have al:id<s.bs.length:=(List.getElem?_eq_some_iff.1 hb).1
  obtain⟨B2,c8⟩:=hr.live i l bc t p hi hm
  simp only[State.aB,List.getElem?_set]
  by_cases e:id=bc
  ·subst e;exact⟨B',by rw[if_pos rfl,if_pos al]⟩
  ·rw[if_neg e];exact⟨B2,c8⟩
 defers:=hr.defers
 bA:=hr.bA.aB (hr.bA.none fun c d x own h=>by
  rw[hb] at h
  cases h
  exact hg.resolve_left fun e=>by cases e)
theorem TQ{id:Nat}{B B':bD}(hb:s.bs[id]? =some (some B)):(s.aB (some (id,B'))).bs[id]? =some (some B'):=by
 have al:id<s.bs.length:=(List.getElem?_eq_some_iff.1 hb).1
 simp [State.aB,List.getElem?_set,al]
theorem Um{r off i:Nat}{cs:Array Value}{T:TypeId}{w:World}(h:w.heap[r]? =some (.cells cs T (0,0))){k:Nat}{v:Value}(hv:((cs.toList.drop off).take k)[i]? =some v):w.cell? ((⟨r,off,none⟩:Addr).add i)=some v:=by
 rw[jq]
 rw[List.getElem?_take] at hv
 split at hv
 ·rw[List.getElem?_drop] at hv
  simpa [World.cell?,h] using hv
 ·cases hv
theorem fB:∀(t:Ty) (p:List Nat) (u:Ty),t.at_ p=some u->t.fa p->t.off p+u.cells<=t.cells:=by
 intro t
 induction t with
 |arr n t ih=>
  intro p u h hp
  cases p with
  |nil=>simp only[Ty.at_,Option.some.injEq] at h;subst h;simp [Ty.off]
  |cons i p=>
   have:=ih p u h hp.2
   have hn:(i+1)*t.cells<=n*t.cells:=Nat.mul_le_mul_right _ hp.1
   rw[Nat.add_mul,Nat.one_mul] at hn
   simp only[Ty.off,Ty.cells]
   omega
 |pair x y LS LU=>
  intro p u h hp
  cases p with
  |nil=>simp only[Ty.at_,Option.some.injEq] at h;subst h;simp [Ty.off]
  |cons i p=>
   cases i with
   |zero=>have:=LS p u h hp;simp only[Ty.off,Ty.cells];omega
   |succ i=>have:=LU (i::p) u h hp;simp only[Ty.off,Ty.cells];omega
 |_=>
  intro p u h hp
  cases p with
  |nil=>simp only[Ty.at_,Option.some.injEq] at h;subst h;simp [Ty.off]
  |cons i p=>simp [Ty.at_] at h
theorem apz{t:Ty}{p:List Nat}{e:TypeId}{t':Ty}(h:t.fa p)(cj:t.at_ p=some (.sl e t')):t.off p<t.cells:=by
 have:=fB t p _ cj h
 simp only[Ty.cells] at this
 omega
theorem aef:∀{t:Ty} {p q:List Nat} {x:El t} {u:Ty} {y:El u} {r:(u:Ty)×El u},El.get t p x=some ⟨u,y⟩->t.fa (p++q)->El.get t (p++q) x=some r->u.fa q/\El.get u q y=some r:=by
 intro t
 induction t with
 |arr n t ih=>
  intro p q x u y r h1 h2 h3
  cases p with
  |nil=>simp only[El.get,Option.some.injEq,Sigma.mk.injEq] at h1;obtain⟨rfl,h1⟩:=h1;cases h1;exact⟨h2,h3⟩
  |cons i p=>exact ih h1 h2.2 h3
 |pair ta tb mK mL=>
  intro p q x u y r h1 h2 h3
  cases p with
  |nil=>simp only[El.get,Option.some.injEq,Sigma.mk.injEq] at h1;obtain⟨rfl,h1⟩:=h1;cases h1;exact⟨h2,h3⟩
  |cons i p=>
   cases i with
   |zero=>exact mK h1 h2 h3
   |succ i=>exact mL (p:=i::p) h1 h2 h3
 |_=>
  intro p q x u y r h1 h2 h3
  cases p with
  |nil=>simp only[El.get,Option.some.injEq,Sigma.mk.injEq] at h1;obtain⟨rfl,h1⟩:=h1;cases h1;exact⟨h2,h3⟩
  |cons i p=>simp [El.get] at h1
def ax.ij(X:ax)(id:Nat)(p:List Nat)(q:List Nat->Place):ax:=
 {X with ow:=fun g=>match X.ow g with
  | .row (.b bc p') n=>if bc=id/\p.isPrefixOf p'=true then .row (q (p'.drop p.length)) n else .row (.b bc p') n
  |w=>w}
theorem zwx{s:State}{X:ax}{id:Nat}{p:List Nat}{q:List Nat->Place}(h:∀p',¬dc s (.b id (p++p'))):eD s X (X.ij id p q):=by
 refine⟨rfl,rfl,fun g=> ?_⟩
 simp only[ax.ij]
 cases hg:X.ow g with
 |row pl n=>
  cases pl with
  |b bc p'=>
   by_cases e:bc=id/\p.isPrefixOf p'=true
   ·obtain⟨rfl,hp⟩:=e
    obtain⟨r,rfl⟩:=List.isPrefixOf_iff_prefix.1 hp
    exact .inr ⟨_,n,q r,rfl,h r,by simp⟩
   ·exact .inl (if_neg e)
  |_=>exact .inl rfl
 |_=>exact .inl rfl
theorem bu.qZ{X:ax}{id:Nat}{p r:List Nat}{q:List Nat->Place}{e:TypeId}{k n:Nat}{v:Value}(h:bu X (.b id (p++r)) e k n v):bu (X.ij id p q) (q r) e k n v:=by
 rcases h with h|⟨g,cap,cur,h1,h2,h3,h4,h5,h6⟩
 ·exact .inl h
 ·exact .inr ⟨g,cap,cur,h1,h2,h3,h4,h5,by simp [ax.ij,h6]⟩
theorem GX(hr:Rel X s a){id:Nat}{t b:Ty}{B:bD}(hB:s.box id=some B)(h:B.t.cq (.aF .row t b)=true):s.bs[id]? =some (some B)/\∃r,X.β id=some r/\X.ow r= .box id/\∃cs T,X.w.heap[r]? =some (.cells cs T (0,0))/\cs.size=List.length (Ty.cast h B.x:List (El t))*t.cells/\
 ∀(j:Nat) (x:El t),(Ty.cast h B.x:List (El t))[j]? =some x->bh X t x ((cs.toList.drop (j*t.cells)).take t.cells):=by
 have hb:=rh hB
 obtain⟨r,h1,h2,h3⟩:=hr.boxes id B hb
 refine⟨hb,r,h1,h2,?_⟩
 obtain⟨bt,bx,bo⟩:=B
 have e:=Ty.aI h
 simp only at e
 subst e
 obtain⟨cs,T,g1,g2,g3⟩:=h3
 exact⟨cs,T,g1,g2,g3⟩
theorem ad3(hE:ak P E)(hr:Rel X s a){S T:TypeId}{x:Operand}(ho:o.op= .convert S T x){id n:Nat}{ta tb:Ty}(dP:s.aG x= .ptr id (.aF (.ju n) ta tb) [])(h:kz E S T s id n ta tb some=some u):aH P X s a o u:=by
 have hx:=hr.aG x
 rw[dP] at hx
 obtain⟨r0,hβ,cap,hv,nF⟩:=hx
 unfold kz at h
 split at h
 case h_2=>cases h
 rename_i e hS hT
 split at h
 case isFalse=>cases h
 rename_i heq
 have:=Ty.aI heq
 subst this
 split at h
 case h_2=>cases h
 rename_i B hB
 split at h
 case isFalse=>cases h
 rename_i dy
 obtain⟨hb,r,h1,h2,cs,T',aE,c9,fX⟩:=GX hr hB dy
 rw[hβ] at h1
 cases h1
 generalize(Ty.cast dy B.x:List Int)=xs at*
 cases hn:Nat.beq n (List.length xs) with
 |false=>rw[hn] at h;cases h
 |true=>
  rw[hn] at h
  cases h
  have hn:=Nat.eq_of_beq_eq_true hn
  subst hn
  have hu:=(hE.ty S _ hS).dC
  have he:=(hE.ty e _ hu.2).dC
  have hT:=(hE.ty T _ hT).dC
  refine aH.plain hr (v:= .string (strOf xs)) ?_ BO (fun _ _ _ e'=>by cases e')
  have key:(convert S T (.slice (some ⟨r0,0,none⟩) (List.length xs) cap)).run P X.w= .ok (.string (strOf xs)) X.w:=by
   rw[run_convert_bytes_string X.w S T e _ _ cap hu.1 he hT]
   have kD:(loadCells ⟨r0,0,none⟩ (List.length xs)).run P X.w= .ok (List.map (Value.int .u8) xs).toArray X.w:=by
    have:=run_loadCells_list (P:=P) X.w ⟨r0,0,none⟩ (List.map (Value.int .u8) xs) (fun j v hj=>by
     obtain⟨y,hy,rfl⟩:=List.getElem?_map .. ▸hj|>Option.map_eq_some_iff.1
     have hc:(cs.toList.drop (j*1)).take 1=[.int .u8 y]:=fX j y hy
     have h0:=congrArg (fun l=>l[0]?) hc
     simp only[List.getElem?_take,List.getElem?_drop] at h0
     simp only[Nat.zero_lt_one,if_true,Nat.mul_one,Nat.add_zero,List.getElem?_cons_zero] at h0
     rw[jq,Nat.zero_add]
     simpa [World.cell?,aE] using h0)
    rw[List.length_map] at this
    exact this
   rw[run_bytesToString X.w _ _ cap xs kD,foldl_push_bytes]
   simp [strOf,ByteArray.empty,ByteArray.emptyWithCapacity]
   rfl
  simp only[execOp,ho,Sem.run_bind,hv,key,Result.andThen_ok,Sem.run_pure]
theorem ag8(hE:ak P E)(hr:Rel X s a){ops:List Oper}{S T:TypeId}{x:Operand}(ho:o.op= .convert S T x){C:FuncId->bV Out}(h:act E C ops o s some=some u):aH P X s a o u:=by
 unfold act at h
 simp only[ho] at h
 split at h
 ·rename_i id n ta tb dP
  exact ad3 hE hr ho dP h
 ·exact ad4 hE hr ho h
theorem GR(hr:Rel X s a){id:Nat}{ta tb:Ty}{R:Type}{K:El (.aF .bC ta tb)->List (List Nat)->Option R}{z:R}(h:om s id ta tb K=some z):
 ∃(x:El (.aF .bC ta tb)) (own:List (List Nat)) (r:Nat),s.bs[id]? =some (some ⟨.aF .bC ta tb,x,own⟩)/\K x own=some z/\(∀p∈lC,p∈own)/\X.β id=some r/\X.ow r= .box id/\iQ X r (.b id) ta tb x:=by
 unfold om at h
 split at h
 case h_2=>cases h
 rename_i B hB
 split at h
 case isFalse=>cases h
 rename_i dy
 have hb:=rh hB
 obtain⟨bt,bx,bo⟩:=B
 have e:=Ty.aI dy
 simp only at e
 subst e
 cases ho:lC.all (hM bo) with
 |false=>simp only[ho] at h;cases h
 |true=>
  simp only[ho,cond_true] at h
  have bT:∀p∈lC,p∈bo:=fun p hp=>by
   have:=List.all_eq_true.1 ho p hp
   unfold hM at this
   obtain⟨q,h1,h2⟩:=List.any_eq_true.1 this
   have:q=p:=by simpa using h2
   rw[<-this];exact h1
  obtain⟨r,h1,h2,h3⟩:=hr.boxes id _ hb
  exact⟨bx,bo,r,hb,h,bT,h1,h2,h3.2 bT⟩
theorem zr7{w:World}{r k:Nat}{l:List Value}{T:TypeId}{v:Value}(h:w.heap[r]? =some (.cells l.toArray T (0,0)))(hv:l[k]? =some v):w.cell? ⟨r,k,none⟩=some v:=by
 simp only[World.cell?,h]
 simpa using hv
theorem Rel.Di(hr:Rel X s a){d:Option Nat}{id j:Nat}{ta tb:Ty}{x:El (.aF .bC ta tb)}{own:List (List Nat)}{v:Value}(hb:s.bs[id]? =some (some ⟨.aF .bC ta tb,x,own⟩))(ho: []∉own)
 (og:∀(i:Nat) (l:List SV) a b j,s.sl[i]? =some l->SV.bA id a b j∈l->False) (hv:∀pl,aA X pl (.bA id ta tb j) v):Rel X (s.av d [.bA id ta tb j]) (a.put d v):=by
 cases d with
 |none=>exact hr
 |some d=>
  have eL:∀(i:Nat) (l:List SV),(s.av (some d) [.bA id ta tb j]).sl[i]? =some l->(i=d/\l=[.bA id ta tb j])\/(i≠d/\s.sl[i]? =some l):=fun i l hi=>by
   simp only[State.av,List.getElem?_set] at hi
   by_cases e:d=i
   ·rw[if_pos e] at hi
    split at hi
    ·cases hi;exact .inl ⟨e.symm,rfl⟩
    ·cases hi
   ·rw[if_neg e] at hi
    exact .inr ⟨fun h=>e h.symm,hi⟩
  refine⟨by simpa [State.av,Act.put] using hr.size,by simpa [State.av] using hr.ia,fun i l v' hi jK=> ?_,hr.boxes,fun i l bc t p hi hm=> ?_,hr.defers,fun i l bc a' b' j' hi hm=> ?_⟩
  ·simp only[Act.put,Array.getElem?_setIfInBounds] at jK
   rcases eL i l hi with⟨rfl,rfl⟩|⟨bK,hi⟩
   ·rw[if_pos rfl] at jK
    split at jK
    ·cases jK;exact hv (.c i 0)
    ·cases jK
   ·rw[if_neg (fun e=>bK e.symm)] at jK
    exact hr.bR i l v' hi jK
  ·rcases eL i l hi with⟨rfl,rfl⟩|⟨_,hi⟩
   ·simp at hm
   ·exact hr.live i l bc t p hi hm
  ·rcases eL i l hi with⟨rfl,rfl⟩|⟨bK,CR⟩
   ·simp only[List.mem_singleton,SV.bA.injEq] at hm
    obtain⟨rfl,rfl,rfl,rfl⟩:=hm
    refine⟨rfl,⟨x,own,hb,ho⟩,fun i' l' a' b' j' xR sU=> ?_⟩
    rcases eL i' l' xR with⟨e1,_⟩|⟨_,hi3⟩
    ·exact e1
    ·exact(og i' l' a' b' j' hi3 sU).elim
   ·obtain⟨g1,g2,g3⟩:=hr.bA i l bc a' b' j' CR hm
    refine⟨g1,g2,fun i' l' a'' b'' j'' xR sU=> ?_⟩
    rcases eL i' l' xR with⟨_,e2⟩|⟨_,hi3⟩
    ·rw[e2] at sU
     simp only[List.mem_singleton,SV.bA.injEq] at sU
     obtain⟨e3,_,_,_⟩:=sU
     rw[e3] at hm
     exact(og i l a' b' j' CR hm).elim
    ·exact g3 i' l' a'' b'' j'' hi3 sU
theorem ad8(hE:ak P E)(hr:Rel X s a){T:TypeId}{x:Operand}(ho:o.op= .load T x)(h:kM E T s (s.aG x) some=some u):aH P X s a o u:=by
 have hx:=hr.aG x
 unfold kM at h
 split at h
 case h_2=>cases h
 rename_i id ta tb j dP
 rw[dP] at hx
 obtain⟨r0,hβ,hv,hj⟩:=hx
 have hv:a.eval x= .pointer (some ⟨r0,ta.cells+j,none⟩):=hv
 have hj:j<2:=hj
 split at h
 case isFalse=>cases h
 rename_i lf
 obtain⟨e,hu⟩:=hE.pt T lf
 obtain⟨x0,own,r,hb,h,bT,h1,how,c,p0,p1,T',aE,aM,sV,sW⟩:=GR hr h
 rw[hβ] at h1
 cases h1
 cases iD:hM own [] with
 |false=>rw[iD] at h;cases h
 |true=>
 rw[iD,cond_true] at h
 cases h
 have iD:=BH iD
 obtain⟨v,dU⟩:∃v,(c++ [p0,p1,Value.int .i64 x0.2.2])[ta.cells+j]? =some v:=by
  rw[List.getElem?_append_right (by rw[aM.len];omega),aM.len,Nat.add_sub_cancel_left]
  match j,hj with
  |0,_=>exact⟨_,rfl⟩
  |1,_=>exact⟨_,rfl⟩
 have hc:=zr7 aE dU
 have aX:(execOp a.eval o).run P X.w= .ok (.value v) X.w:=by
  have hl:(loadVar T ⟨r0,ta.cells+j,none⟩).run P X.w= .ok v X.w:=by
   unfold loadVar
   have hag:(isAgg T).run P X.w= .ok false X.w:=by simp [isAgg,run_underlying hu]
   simp only[Sem.run_bind,hag,Result.andThen_ok,Bool.false_eq_true,if_false,run_load,hc]
  simp only[execOp,ho,Sem.run_bind,Instr.loadAt,hv,Instr.sureAddr,Sem.run_pure,Result.andThen_ok,hl]
 have hg:iQ X r0 (.b id) ta tb x0:=⟨c,p0,p1,T',aE,aM,sV,sW⟩
 have jb:=hr.bA.none (d:=id) fun a' b' x' jZ h=>by rw[hb] at h;cases h;exact iD
 have ea:=hr.mQ (B':=⟨.aF .bC ta tb,x0,own.filter fun q=> !q.isEmpty⟩) hb hβ ⟨how,⟨_,aE⟩,fun _=>hg⟩ (.inr iD)
 refine⟨X,v,.inl aX,Ext.refl X,ea.Di (TQ hb) (fun hm=> ?_) jb fun pl=>⟨r0,hβ,how,hc⟩⟩
 have:=(List.mem_filter.1 hm).2
 simp at this
theorem acJ(hE:ak P E)(hr:Rel X s a){T:TypeId}{u':Ty}{x:Operand}(ho:o.op= .load T x)(hT:E.ty T=some u'){id:Nat}{t:Ty}{p:List Nat}(dP:s.aG x= .ptr id t p)(h:GU u' s id t p some=some u):aH P X s a o u:=by
 have hx:=hr.aG x
 rw[dP] at hx
 obtain⟨r0,hβ,hv⟩:=hx
 unfold GU at h
 split at h
 case h_4=>cases h
 case h_2=>
  rename_i ta tb
  split at h
  case isFalse=>cases h
  rename_i heq
  have:=Ty.aI heq
  subst this
  obtain⟨x0,own,r,hb,h,_,h1,h2,c,p0,p1,T',aE,aM,_⟩:=GR hr h
  rw[hβ] at h1
  cases h1
  cases h
  have hv:a.eval x= .pointer (some ⟨r0,0,none⟩):=by
   have:=hv.1
   rw[this];simp [nB,Ty.off]
  refine aH.plain hr ?_ (BW aM) (fun _ _ _ e'=>by cases e')
  have hl:=BG hE hT aM (ad:=⟨r0,0,none⟩) (w:=X.w) (fun j v hj=>by
   rw[jq,Nat.zero_add]
   refine zr7 aE ?_
   rw[List.getElem?_append_left ((List.getElem?_eq_some_iff.1 hj).1)];exact hj)
  simp only[execOp,ho,Sem.run_bind,Instr.loadAt,hv,Instr.sureAddr,Sem.run_pure,Result.andThen_ok,hl]
 case h_3=>
  rename_i ta tb
  split at h
  case isFalse=>cases h
  rename_i heq
  have:=Ty.aI heq
  subst this
  obtain⟨x0,own,r,hb,h,_,h1,h2,c,p0,p1,T',aE,aM,_⟩:=GR hr h
  rw[hβ] at h1
  cases h1
  cases h
  have hv:a.eval x= .pointer (some ⟨r0,ta.cells+2,none⟩):=hv.1
  have hl:=BG (P:=P) hE hT (X:=X) (x:=x0.2.2) (cs:=[.int .i64 x0.2.2]) rfl (ad:=⟨r0,ta.cells+2,none⟩) (w:=X.w) (fun j v hj=>by
   cases j with
   |succ j=>simp at hj
   |zero=>
    rw[jq,Nat.add_zero]
    refine zr7 aE ?_
    rw[List.getElem?_append_right (by rw[aM.len];omega),aM.len,Nat.add_sub_cancel_left]
    exact hj)
  refine aH.plain hr (v:=eb (.int .i64) [.int .i64 x0.2.2]) ?_ jR (fun _ _ _ e'=>by cases e')
  simp only[execOp,ho,Sem.run_bind,Instr.loadAt,hv,Instr.sureAddr,Sem.run_pure,Result.andThen_ok,hl]
 rename_i ta tb i
 split at h
 case h_2=>cases h
 rename_i B hB
 split at h
 case isFalse=>cases h
 rename_i dy
 split at h
 case isFalse=>cases h
 rename_i heq
 have:=Ty.aI heq
 subst this
 obtain⟨hb,r,h1,h2,cs,T',aE,c9,fX⟩:=GX hr hB dy
 rw[hβ] at h1
 cases h1
 generalize(Ty.cast dy B.x:List (El u'))=xs at*
 cases hn:Nat.ble (i+1) (List.length xs) with
 |false=>rw[hn] at h;cases h
 |true=>
  rw[hn] at h
  cases h
  have al:i<List.length xs:=Nat.le_of_ble_eq_true hn
  have aM:=fX i _ (getD_some (El.bU u') al)
  have hv:a.eval x= .pointer (some ⟨r0,i*u'.cells,none⟩):=hv
  refine aH.plain hr ?_ (BW aM) (fun _ _ _ e'=>by cases e')
  have hl:=BG hE hT aM (ad:=⟨r0,i*u'.cells,none⟩) (w:=X.w) (fun j v hj=>Um aE hj)
  simp only[execOp,ho,Sem.run_bind,Instr.loadAt,hv,Instr.sureAddr,Sem.run_pure,Result.andThen_ok,hl]
theorem acI(hE:ak P E)(hr:Rel X s a){T:TypeId}{u':Ty}{x:Operand}(ho:o.op= .load T x)(hT:E.ty T=some u'){id:Nat}{t:Ty}{p:List Nat}(dP:s.aG x= .ptr id t p){B:bD}(hB:s.box id=some B)(h:z93 u' B t p some=some u):aH P X s a o u:=by
 have hx:=hr.aG x
 rw[dP] at hx
 obtain⟨r0,hβ,hv⟩:=hx
 unfold z93 at h
 split at h
 case h_2=>cases h
 rename_i n e
 split at h
 case isFalse=>cases h
 rename_i dy
 split at h
 case isFalse=>cases h
 rename_i heq
 have:=Ty.aI heq
 subst this
 obtain⟨hb,r,h1,h2,cs,T',aE,c9,fX⟩:=GX hr hB dy
 rw[hβ] at h1
 cases h1
 generalize(Ty.cast dy B.x:List (El e))=xs at*
 cases hn:Nat.beq n (List.length xs) with
 |false=>rw[hn] at h;cases h
 |true=>
  rw[hn] at h
  cases h
  have hn:=Nat.eq_of_beq_eq_true hn
  have aM:bh X (.arr n e) xs cs.toList:=⟨hn.symm,by rw[hn];simpa using c9,fX⟩
  have hv:=((rf rfl).1 hv).1
  have hv:a.eval x= .pointer (some ⟨r0,0,none⟩):=by rw[hv];rfl
  refine aH.plain hr ?_ (BW aM) (fun _ _ _ e'=>by cases e')
  have hl:=BG hE hT aM (ad:=⟨r0,0,none⟩) (w:=X.w) (fun j v hj=>Um (off:=0) (k:=cs.toList.length) aE (by rw[List.drop_zero,List.take_length];exact hj))
  simp only[execOp,ho,Sem.run_bind,Instr.loadAt,hv,Instr.sureAddr,Sem.run_pure,Result.andThen_ok,hl]
theorem ahb(hE:ak P E)(hr:Rel X s a){ops:List Oper}{T:TypeId}{x:Operand}(ho:o.op= .load T x){C:FuncId->bV Out}(h:act E C ops o s some=some u):aH P X s a o u:=by
 unfold act at h
 simp only[ho] at h
 have hx:=hr.aG x
 unfold load at h
 split at h
 case h_2=>exact ad8 hE hr ho h
 rename_i u' hT
 split at h
 ·rename_i t y e
  rw[e] at hx
  obtain⟨ad,cs,hv,m5,aM,eJ⟩:=hx
  split at h
  case isFalse=>cases h
  rename_i heq
  have:=Ty.aI heq
  subst this
  cases h
  refine aH.plain hr ?_ (BW aM) (fun _ _ _ e'=>by cases e')
  have hl:=BG hE hT aM (ad:=ad) (w:=X.w) (fun i v hi=>(eJ i v hi).2.1)
  simp only[execOp,ho,Sem.run_bind,Instr.loadAt,hv,Instr.sureAddr,Sem.run_pure,Result.andThen_ok,hl]
 ·rename_i id t p e
  rw[e] at hx
  obtain⟨r,hβ,hx⟩:=hx
  split at h
  ·exact acJ hE hr ho hT e h
  rename_i eI
  have eI:t.bH=false:=by simpa using eI
  obtain⟨hv,dv⟩:=(rf eI).1 hx
  split at h
  case h_2=>cases h
  rename_i B hB
  split at h
  case isFalse=>exact acI hE hr ho hT e hB h
  rename_i heq
  have dy:=Ty.aI heq
  split at h
  case h_2=>cases h
  rename_i ut y cC
  split at h
  case isFalse=>cases h
  rename_i CJ
  have:=Ty.aI CJ
  subst this
  have hb:=rh hB
  obtain⟨r',hβ',uH⟩:=hr.boxes id B hb
  rw[hβ] at hβ'
  cases hβ'
  subst dy
  obtain⟨cs,T',aE,aM,how,bT⟩:=uH.cells eI
  obtain⟨k1,k2,k3⟩:=Sb aM dv cC
  have hl:=BG hE hT k3 (ad:=⟨r,B.t.off p,none⟩) (w:=X.w) (fun i v hi=>Um aE hi)
  have aX:(execOp a.eval o).run P X.w= .ok (.value (eb u' ((cs.toList.drop (B.t.off p)).take u'.cells))) X.w:=by
   simp only[execOp,ho,Sem.run_bind,Instr.loadAt,hv,Instr.sureAddr,Sem.run_pure,Result.andThen_ok,hl]
  cases hc:ZN ops o.dst||Bl E ops o.dst||Qu ops o.dst with
  |false=>
   rw[hc] at h
   cases h
   exact aH.plain hr aX (BW k3) (fun _ _ _ e'=>by cases e')
  |true=>
   rw[hc] at h
   cases h
   have ea:Rel X (s.aB (some (id,{B with own:=yF B.own p}))) a:=hr.mQ hb hβ ⟨how,dK.of eI aE aM fun q hq=>bT q (zax hq).1⟩ (.inl (Se eI))
   have HD:∀q,¬dc (s.aB (some (id,{B with own:=yF B.own p}))) (.b id (p++q)):=by
    rintro q ⟨B2,c8,hp⟩
    rw[TQ hb] at c8
    cases c8
    have:=(zax hp).2
    rw[List.isPrefixOf_iff_prefix.2 (List.prefix_append p q)] at this
    cases this
   have mY:=zwx (X:=X) (q:= .c (o.dst.getD 0) 0) HD
   refine⟨X.ij id p (.c (o.dst.getD 0) 0),_,.inl aX,mY.ext,(ea.mod mY.mod).fin ⟨_,k3.ai (fun _ _=>mY.ay.1),rfl,?_⟩ (fun id t p hm=>by simp at hm)⟩
   intro q hq
   obtain⟨q0,hq0,rfl⟩:=List.mem_map.1 hq
   obtain⟨hq1,hq2⟩:=List.mem_filter.1 hq0
   obtain⟨q,rfl⟩:=List.isPrefixOf_iff_prefix.1 hq2
   rw[List.drop_left]
   obtain⟨e',t',xs,v,h0,h1,h2,h3⟩:=bT _ hq1
   obtain⟨j1,j2⟩:=aef cC h0 h1
   have hle:=apz j1 (SL _ _ _ _ _ j2)
   refine⟨e',t',xs,v,j1,j2,?_,h3.qZ⟩
   rw[z59 _ _ _ _ k1] at h2
   rw[List.getElem?_take,if_pos hle,List.getElem?_drop]
   exact h2
 ·cases h
theorem zj2{cs c:List Value}{off:Nat}(h:off+c.length<=cs.length)(j k:Nat):(∀h1:j+k<=off\/off+c.length<=j,((cs.take off++c++cs.drop (off+c.length)).drop j).take k=(cs.drop j).take k):=by
 intro h1
 apply List.ext_getElem?
 intro q
 simp only[List.getElem?_take,List.getElem?_drop]
 split
 ·rename_i hq
  rw[List.append_assoc]
  rcases h1 with h1|h1
  ·rw[List.getElem?_append_left (by rw[List.length_take];omega),List.getElem?_take,if_pos (by omega)]
  ·rw[List.getElem?_append_right (by rw[List.length_take];omega),List.length_take,Nat.min_eq_left (by omega),List.getElem?_append_right (by omega),List.getElem?_drop]
   congr 1
   omega
 ·rfl
theorem fT{X:ax}:∀{t:Ty} {p:List Nat} {x:El t} {cs:List Value} {u:Ty} {y:El u} {z:El t} {c:List Value},bh X t x cs->t.fa p->t.at_ p=some u->El.set t p x u y=some z->bh X u y c->
 bh X t z (cs.take (t.off p)++c++cs.drop (t.off p+c.length)):=by
 intro t
 induction t with
 |arr n t ih=>
  intro p x cs u y z c hr hp cj h hc
  have fM:=hc.len
  cases p with
  |nil=>
   simp only[Ty.at_,Option.some.injEq] at cj
   subst cj
   simp only[El.set,Ty.cm,dite_true,Option.some.injEq] at h
   subst h
   have hl:=hr.len
   simp only[Ty.off,Nat.zero_add,List.take_zero,List.nil_append]
   rw[fM,<-hl,List.drop_length,List.append_nil]
   exact hc
  |cons i p=>
   obtain⟨hi,hp⟩:=hp
   obtain⟨h1,h2,h3⟩:=hr
   simp only[El.set] at h
   obtain⟨z',nN,rfl⟩:=Option.map_eq_some_iff.1 h
   have nD:t.at_ p=some u:=cj
   have hle:=fB t p u nD hp
   have hn:(i+1)*t.cells<=n*t.cells:=Nat.mul_le_mul_right _ hi
   rw[Nat.add_mul,Nat.one_mul] at hn
   have xR:=ih (h3 i _ (getD_some (El.bU t) (by omega))) hp nD nN hc
   have du:i*t.cells+t.off p+c.length<=cs.length:=by rw[fM,h2];omega
   refine⟨by simpa using h1,?_,fun j w hj=> ?_⟩
   ·simp only[Ty.off,List.length_append,List.length_take,List.length_drop];omega
   ·simp only[Ty.off]
    by_cases e:j=i
    ·subst e
     rw[List.getElem?_set_self (by omega)] at hj
     cases hj
     have hL:((cs.take (j*t.cells+t.off p)++c++cs.drop (j*t.cells+t.off p+c.length)).drop (j*t.cells)).take t.cells=
      ((cs.drop (j*t.cells)).take t.cells).take (t.off p)++c++((cs.drop (j*t.cells)).take t.cells).drop (t.off p+c.length):=by
      apply List.ext_getElem?
      intro q
      rw[List.append_assoc,List.append_assoc]
      simp only[List.getElem?_take,List.getElem?_drop,List.getElem?_append,List.length_take,List.length_drop]
      rw[Nat.min_eq_left (show j*t.cells+t.off p<=cs.length by omega),Nat.min_eq_left (show t.cells<=cs.length-j*t.cells by omega),Nat.min_eq_left (show t.off p<=t.cells by omega)]
      by_cases q1:q<t.cells
      ·by_cases q2:q<t.off p
       ·rw[if_pos q1,if_pos (by omega),if_pos (by omega),if_pos q2,if_pos q2,if_pos q1]
       ·by_cases q3:q-t.off p<c.length
        ·rw[if_pos q1,if_neg (by omega),if_pos (by omega),if_neg q2,if_pos q3]
         congr 1
         omega
        ·rw[if_pos q1,if_neg (by omega),if_neg (by omega),if_neg q2,if_neg q3,if_pos (by omega)]
         congr 1
         omega
      ·rw[if_neg q1,if_neg (by omega),if_neg (by omega),if_neg (by omega)]
     rw[hL]
     exact xR
    ·rw[List.getElem?_set_ne (Ne.symm e)] at hj
     have uN:=(List.getElem?_eq_some_iff.1 hj).1
     rw[zj2 du (j*t.cells) t.cells ?_]
     ·exact h3 j w hj
     ·rcases Nat.lt_or_gt_of_ne e with al|hgt
      ·have:(j+1)*t.cells<=i*t.cells:=Nat.mul_le_mul_right _ al
       rw[Nat.add_mul,Nat.one_mul] at this
       exact .inl (by omega)
      ·have:(i+1)*t.cells<=j*t.cells:=Nat.mul_le_mul_right _ hgt
       rw[Nat.add_mul,Nat.one_mul] at this
       exact .inr (by omega)
 |pair ta tb mK mL=>
  intro p x cs u y z c hr hp cj h hc
  have fM:=hc.len
  cases p with
  |nil=>
   simp only[Ty.at_,Option.some.injEq] at cj
   subst cj
   simp only[El.set,Ty.cm,dite_true,Option.some.injEq] at h
   subst h
   have hl:=hr.len
   simp only[Ty.off,Nat.zero_add,List.take_zero,List.nil_append]
   rw[fM,<-hl,List.drop_length,List.append_nil]
   exact hc
  |cons i p=>
   obtain⟨c1,c2,rfl,r1,r2⟩:=hr
   have l1:=r1.len
   have l2:=r2.len
   cases i with
   |zero=>
    simp only[El.set] at h
    obtain⟨z',nN,rfl⟩:=Option.map_eq_some_iff.1 h
    have nD:ta.at_ p=some u:=cj
    have hle:=fB ta p u nD hp
    have:=mK r1 hp nD nN hc
    refine⟨_,c2,?_,this,r2⟩
    simp only[Ty.off]
    rw[List.take_append_of_le_length (by omega),List.drop_append_of_le_length (by omega)]
    simp [List.append_assoc]
   |succ i=>
    simp only[El.set] at h
    obtain⟨z',nN,rfl⟩:=Option.map_eq_some_iff.1 h
    have nD:tb.at_ (i::p)=some u:=cj
    have hle:=fB tb (i::p) u nD hp
    have:=mL r2 hp nD nN hc
    refine⟨c1,_,?_,r1,this⟩
    simp only[Ty.off]
    rw[<-l1,List.take_length_add_append,Nat.add_assoc,List.drop_length_add_append]
    simp [List.append_assoc]
 |_=>
  intro p x cs u y z c hr hp cj h hc
  have fM:=hc.len
  cases p with
  |nil=>
   simp only[Ty.at_,Option.some.injEq] at cj
   subst cj
   simp only[El.set,Ty.cm,dite_true,Option.some.injEq] at h
   first|subst h|skip
   have hl:=hr.len
   simp only[Ty.off,Nat.zero_add,List.take_zero,List.nil_append]
   rw[fM,<-hl,List.drop_length,List.append_nil]
   exact hc
  |cons i p=>simp [Ty.at_] at cj
end Go.Ref

namespace Go.Ref
open Go
variable {P:Program} {E:Env} {X:ax} {s:State} {a:Act} {o:Oper} {u:Out}
theorem acn:∀{t:Ty} {p q:List Nat} {x:El t} {u:Ty} {y:El u} {z:El t} {e:TypeId} {t':Ty} {xs:El (.sl e t')},El.set t p x u y=some z->t.at_ p=some u->t.fa p->t.fa q->p.isPrefixOf q=false->El.get t q x=some ⟨.sl e t',xs⟩->
 El.get t q z=some ⟨.sl e t',xs⟩/\(t.off q+1<=t.off p\/t.off p+u.cells<=t.off q):=by
 intro t
 induction t with
 |arr n t ih=>
  intro p q x u y z e t' xs hs cj hp hq gH hg
  cases p with
  |nil=>simp at gH
  |cons i p=>
   cases q with
   |nil=>simp [El.get] at hg
   |cons j q=>
    simp only[El.set] at hs
    obtain⟨z',nN,rfl⟩:=Option.map_eq_some_iff.1 hs
    by_cases eij:i=j
    ·subst eij
     have nJ:p.isPrefixOf q=false:=by simpa [List.isPrefixOf] using gH
     obtain⟨h1,h2⟩:=ih nN cj hp.2 hq.2 nJ hg
     refine⟨?_,by simp only[Ty.off];omega⟩
     simp only[El.get]
     by_cases hl:i<List.length x
     ·rw[List.getD_eq_getElem?_getD,List.getElem?_set_self hl]
      exact h1
     ·have fP:List.set x i z'=x:=by rw[List.set_eq_of_length_le (Nat.le_of_not_lt hl)]
      rw[fP];exact hg
    ·refine⟨?_,?_⟩
     ·simp only[El.get] at hg⊢
      rw[List.getD_eq_getElem?_getD,List.getElem?_set_ne eij,<-List.getD_eq_getElem?_getD]
      exact hg
     ·have a1:=fB t p u cj hp.2
      have a2:t.off q+1<=t.cells:=by
       have:=fB t q _ (SL t q _ _ _ hg) hq.2
       simpa [Ty.cells] using this
      simp only[Ty.off]
      rcases Nat.lt_or_gt_of_ne eij with h|h
      ·have:(i+1)*t.cells<=j*t.cells:=Nat.mul_le_mul_right _ h
       rw[Nat.add_mul,Nat.one_mul] at this
       omega
      ·have:(j+1)*t.cells<=i*t.cells:=Nat.mul_le_mul_right _ h
       rw[Nat.add_mul,Nat.one_mul] at this
       omega
 |pair ta tb mK mL=>
  intro p q x u y z e t' xs hs cj hp hq gH hg
  cases p with
  |nil=>simp at gH
  |cons i p=>
   cases q with
   |nil=>simp [El.get] at hg
   |cons j q=>
    cases i with
    |zero=>
     simp only[El.set] at hs
     obtain⟨z',nN,rfl⟩:=Option.map_eq_some_iff.1 hs
     cases j with
     |zero=>
      have nJ:p.isPrefixOf q=false:=by simpa [List.isPrefixOf] using gH
      obtain⟨h1,h2⟩:=mK nN cj hp hq nJ hg
      exact⟨h1,by simp only[Ty.off];omega⟩
     |succ j=>
      have a1:=fB ta p u cj hp
      exact⟨hg,by simp only[Ty.off];omega⟩
    |succ i=>
     simp only[El.set] at hs
     obtain⟨z',nN,rfl⟩:=Option.map_eq_some_iff.1 hs
     cases j with
     |zero=>
      have a2:ta.off q+1<=ta.cells:=by
       have:=fB ta q _ (SL ta q _ _ _ hg) hq
       simpa [Ty.cells] using this
      exact⟨hg,by simp only[Ty.off];omega⟩
     |succ j=>
      have nJ:(i::p).isPrefixOf (j::q)=false:=by
       simp [List.isPrefixOf] at gH⊢
       exact gH
      obtain⟨h1,h2⟩:=mL nN cj hp hq nJ hg
      exact⟨h1,by simp only[Ty.off];omega⟩
 |_=>
  intro p q x u y z e t' xs hs cj hp hq gH hg
  cases p with
  |nil=>simp at gH
  |cons i p=>simp [Ty.at_] at cj
def ax.row(X:ax)(r:Nat)(cs:Array Value):ax:={X with w:=X.w.setRow r cs}
theorem m8{r id:Nat}{cs:Array Value}(h:X.ow r= .box id){ad:Addr}{v:Value}(hs:X.ay ad v):(X.row r cs).ay ad v:=by
 have bK:ad.block≠r:=fun e=>by
  have:=hs.2.2
  rw[e,h] at this
  exact this
 refine⟨hs.1,?_,hs.2.2⟩
 have:=hs.2.1
 simp only[World.cell?,ax.row] at this⊢
 rw[setRow_other X.w r ad.block cs bK]
 exact this
theorem GY{r id:Nat}{cs:Array Value}(h:X.ow r= .box id):Ext X (X.row r cs) where
 ay:=fun _ _=>m8 h
 size:=by simp [ax.row]
 os:=rfl
 tape:=rfl
 output:=rfl
 β0:=rfl
 still:=fun g _ bQ=>by
  have bK:g≠r:=fun e=>by rw[e,h] at bQ;exact bQ
  exact⟨rfl,setRow_other X.w r g cs bK⟩
theorem bu.row{r id:Nat}{cs:Array Value}(h:X.ow r= .box id){pl:Place}{e:TypeId}{k n:Nat}{v:Value}(ho:bu X pl e k n v):bu (X.row r cs) pl e k n v:=by
 rcases ho with ho|⟨g,cap,cur,h1,h2,h3,h4,h5,h6⟩
 ·exact .inl ho
 ·have bK:g≠r:=fun e=>by rw[e,h] at h6;cases h6
  exact .inr ⟨g,cap,cur,h1,(setRow_other X.w r g cs bK).trans h2,h3,h4,h5,h6⟩
theorem bn.row{r id:Nat}{cs:Array Value}(h:X.ow r= .box id){pl:List Nat->Place}{t:Ty}{x:El t}{c:List Value}{own:List (List Nat)}(ho:bn X pl t x c own):bn (X.row r cs) pl t x c own:=fun p hp=>by
 obtain⟨e,t',xs,v,g0,g1,g2,g3⟩:=ho p hp
 exact⟨e,t',xs,v,g0,g1,g2,g3.row h⟩
theorem aA.row{r id:Nat}{cs:Array Value}(h:X.ow r= .box id){pl:List Nat->Place}{sv:SV}{v:Value}(hk:∀bc a b j,sv= .bA bc a b j->bc≠id)(hr:aA X pl sv v):aA (X.row r cs) pl sv v:=by
 cases sv with
 |undef=>trivial
 |skip=>exact hr
 |cJ=>exact hr
 |eh=>exact hr
 |over=>exact hr
 |aj t x own=>
  obtain⟨c,h1,h2,h3⟩:=hr
  exact⟨c,h1.ai (fun _ _=>m8 h),h2,h3.row h⟩
 |ptr id t p=>exact hr
 |view t x=>
  obtain⟨ad,c,h1,h2,h3,h4⟩:=hr
  exact⟨ad,c,h1,h2,h3.ai (fun _ _=>m8 h),fun i u hi=>m8 h (h4 i u hi)⟩
 |cap f t x u y=>exact sG (fun _ _=>m8 h) hr
 |bA bc a b j=>
  obtain⟨r',h1,h2,h3⟩:=hr
  have bK:r'≠r:=fun e=>by rw[e,h] at h2;injection h2 with h2;exact hk bc a b j rfl h2.symm
  refine⟨r',h1,h2,?_⟩
  simp only[World.cell?] at h3⊢
  rw[show(X.row r cs).w.heap[r']? =X.w.heap[r']? from setRow_other X.w r r' cs bK];exact h3
theorem Rel.row{r id:Nat}{B B':bD}{cs:Array Value}(hr:Rel X s a)(hb:s.bs[id]? =some (some B))(hβ:X.β id=some r)(h:X.ow r= .box id)(hB:bE (X.row r cs) id r B')(hg:B.t.fb=false\/ []∈B.own):Rel (X.row r cs) (s.aB (some (id,B'))) a where
 size:=hr.size
 ia:=by simpa [State.aB] using hr.ia
 bR:=fun i l v hl hv=>(hr.bR i l v hl hv).jx fun j sv u hm kc=>kc.row h (fun bc a b k e e2=>hr.pj hb hg i l a b k hl (e2▸e▸List.mem_of_getElem? hm))
 boxes:=fun bc B2 c8=>by
  have al:id<s.bs.length:=(List.getElem?_eq_some_iff.1 hb).1
  simp only[State.aB,List.getElem?_set] at c8
  by_cases e:id=bc
  ·subst e
   rw[if_pos rfl,if_pos al] at c8
   cases c8;exact⟨r,hβ,hB⟩
  ·rw[if_neg e] at c8
   obtain⟨r',h1,h4,h2⟩:=hr.boxes bc B2 c8
   have bK:r'≠r:=fun e2=>by rw[e2,h] at h4;cases h4;exact e rfl
   exact⟨r',h1,h4,h2.move (fun _ _=>m8 h) (setRow_other X.w r r' cs bK) (fun cs h5=>h5.row h) fun _ _ g o _ ho hw=>⟨(setRow_other X.w r g cs (fun e3=>by rw[e3,h] at hw;cases hw)).trans ho,hw⟩⟩
 live:=fun i l bc t p hi hm=>by
  have al:id<s.bs.length:=(List.getElem?_eq_some_iff.1 hb).1
  obtain⟨B2,c8⟩:=hr.live i l bc t p hi hm
  simp only[State.aB,List.getElem?_set]
  by_cases e:id=bc
  ·subst e;exact⟨B',by rw[if_pos rfl,if_pos al]⟩
  ·rw[if_neg e];exact⟨B2,c8⟩
 defers:=hr.defers
 bA:=hr.bA.aB (hr.pj hb hg)
theorem HL(hE:ak P E){T:TypeId}{t:Ty}(ht:E.ty T=some t){x:El t}{cs:List Value}(hr:bh X t x cs){r off:Nat}{cur:Array Value}{T':TypeId}{w:World}(hg:w.heap[r]? =some (.cells cur T' (0,0)))(hf:off+t.cells<=cur.size):
 (storeVar T ⟨r,off,none⟩ (eb t cs)).run P w= .ok () (w.setRow r (cur.toList.take off++cs++cur.toList.drop (off+cs.length)).toArray):=by
 have hl:=hr.len
 have bQ:=run_storeCells_at P r off T' cs 0 cur w hg (by omega) hr.one
 simp only[Nat.add_zero] at bQ
 unfold storeVar
 simp only[Sem.run_bind,l9 hE ht,Result.andThen_ok,vZ hr]
 rw[if_neg (by simp [hl])]
 exact bQ
theorem adq:∀{t:Ty} {p q:List Nat} {x:El t} {u:Ty} {y:El u} {z:El t} {r:(u:Ty)×El u} {X:ax} {cs:List Value},bh X t x cs->El.set t p x u y=some z->t.at_ p=some u->t.fa p->El.get u q y=some r->El.get t (p++q) z=some r:=by
 intro t
 induction t with
 |arr n t ih=>
  intro p q x u y z r X cs hr hs cj hp hg
  cases p with
  |nil=>
   simp only[Ty.at_,Option.some.injEq] at cj
   subst cj
   simp only[El.set,Ty.cm,dite_true,Option.some.injEq] at hs
   subst hs
   exact hg
  |cons i p=>
   simp only[El.set] at hs
   obtain⟨z',nN,rfl⟩:=Option.map_eq_some_iff.1 hs
   obtain⟨h1,h2,h3⟩:=hr
   have hi:i<List.length x:=by rw[h1];exact hp.1
   simp only[El.get,List.cons_append]
   rw[List.getD_eq_getElem?_getD,List.getElem?_set_self hi]
   exact ih (h3 i _ (getD_some _ hi)) nN cj hp.2 hg
 |pair ta tb mK mL=>
  intro p q x u y z r X cs hr hs cj hp hg
  cases p with
  |nil=>
   simp only[Ty.at_,Option.some.injEq] at cj
   subst cj
   simp only[El.set,Ty.cm,dite_true,Option.some.injEq] at hs
   subst hs
   exact hg
  |cons i p=>
   obtain⟨c1,c2,_,r1,r2⟩:=hr
   cases i with
   |zero=>
    simp only[El.set] at hs
    obtain⟨z',nN,rfl⟩:=Option.map_eq_some_iff.1 hs
    exact mK r1 nN cj hp hg
   |succ i=>
    simp only[El.set] at hs
    obtain⟨z',nN,rfl⟩:=Option.map_eq_some_iff.1 hs
    exact mL (p:=i::p) r2 nN cj hp hg
 |_=>
  intro p q x u y z r X cs hr hs cj hp hg
  cases p with
  |nil=>
   simp only[Ty.at_,Option.some.injEq] at cj
   subst cj
   simp only[El.set,Ty.cm,dite_true,Option.some.injEq] at hs
   first|subst hs|skip
   exact hg
  |cons i p=>simp [Ty.at_] at cj
theorem PT{t u:Ty}{p:List Nat}{x z:El t}{y:El u}{cs cv:List Value}{own oy:List (List Nat)}{pl:List Nat->Place}(hr:bh X t x cs)(dv:t.fa p)(cj:t.at_ p=some u)(fP:El.set t p x u y=some z)(rep:bh X u y cv)
 (ho:bn X pl t x cs own) (hy:bn X (fun q=>pl (p++q)) u y cv oy):bn X pl t z (cs.take (t.off p)++cv++cs.drop (t.off p+cv.length)) (oy.map (fun q=>p++q)++yF own p):=by
 have fM:=rep.len
 have hle:=fB t p u cj dv
 have eU:=hr.len
 intro q hq
 rcases List.mem_append.1 hq with hq|hq
 ·obtain⟨q,hq2,rfl⟩:=List.mem_map.1 hq
  obtain⟨e,t',xs,v,g0,g1,g2,g3⟩:=hy q hq2
  have al:=(List.getElem?_eq_some_iff.1 g2).1
  refine⟨e,t',xs,v,QV t p q u cj dv g0,adq hr fP cj dv g1,?_,g3⟩
  rw[z59 t p q u cj,List.append_assoc,List.getElem?_append_right (by rw[List.length_take];omega),List.length_take,Nat.min_eq_left (by omega),Nat.add_sub_cancel_left,List.getElem?_append_left al]
  exact g2
 ·obtain⟨hqm,gH⟩:=zax hq
  obtain⟨e,t',xs,v,g0,g1,g2,g3⟩:=ho q hqm
  obtain⟨k1,k2⟩:=acn fP cj dv g0 gH g1
  refine⟨e,t',xs,v,g0,k1,?_,g3⟩
  have m5:=zj2 (cs:=cs) (c:=cv) (off:=t.off p) (by omega) (t.off q) 1 (by rw[fM];omega)
  have h0:=congrArg (fun l=>l[0]?) m5
  simp only[List.getElem?_take,List.getElem?_drop] at h0
  simp only[Nat.zero_lt_one,if_true,Nat.add_zero] at h0
  rw[h0];exact g2
theorem acm(hE:ak P E)(hr:Rel X s a){T:TypeId}{u0:Ty}{x y:Operand}(ho:o.op= .store T x y)(hT:E.ty T=some u0){id:Nat}{t:Ty}{p:List Nat}(dP:s.aG x= .ptr id t p)(h:Gs u0 s id t p (s.aG y) some=some u):aH P X s a o u:=by
 have hx:=hr.aG x
 rw[dP] at hx
 obtain⟨r0,hβ,hv⟩:=hx
 unfold Gs at h
 split at h
 case h_4=>cases h
 case h_2=>
  rename_i ta tb q
  split at h
  case h_2=>cases h
  rename_i u' cj
  split at h
  case isFalse=>cases h
  rename_i heq
  have:=Ty.aI heq
  subst this
  obtain⟨x0,own,r,hb,h,bT,h1,how,c,p0,p1,T',aE,aM,sV,sW⟩:=GR hr h
  rw[hβ] at h1
  cases h1
  obtain⟨yv,h,hy⟩:=zz h
  split at h
  case h_2=>cases h
  rename_i z hz
  cases iD:hM own [] with
  |false=>rw[iD] at h;cases h
  |true=>
  rw[iD,cond_true] at h
  cases h
  have iD:=BH iD
  obtain⟨cv,rep,ev⟩:=hy X _ _ (hr.aG y)
  have dv:ta.fa q:=hv.2
  have hv:a.eval x= .pointer (some ⟨r0,ta.off q,none⟩):=hv.1
  have fM:=aM.len
  have hle:=fB ta q u' cj dv
  have hvl:=rep.len
  have bQ:=HL (P:=P) hE hT rep (off:=ta.off q) (w:=X.w) (r:=r0) (T':=T') aE (by simp;omega)
  have fY:(c++ [p0,p1,Value.int .i64 x0.2.2]).take (ta.off q)++cv++(c++ [p0,p1,Value.int .i64 x0.2.2]).drop (ta.off q+cv.length)=(c.take (ta.off q)++cv++c.drop (ta.off q+cv.length))++ [p0,p1,Value.int .i64 x0.2.2]:=by
   rw[List.take_append_of_le_length (by omega),List.drop_append_of_le_length (by omega)]
   simp only[List.append_assoc]
  have aX:(execOp a.eval o).run P X.w= .ok .skip ((X.row r0 ((c.take (ta.off q)++cv++c.drop (ta.off q+cv.length))++ [p0,p1,Value.int .i64 x0.2.2]).toArray).w):=by
   simp only[execOp,ho,Sem.run_bind,Instr.storeAt,hv,Instr.sureAddr,Sem.run_pure,Result.andThen_ok,ev,bQ]
   have e2:(List.take (ta.off q) (c++ [p0,p1,Value.int .i64 x0.2.2]).toArray.toList++cv++List.drop (ta.off q+cv.length) (c++ [p0,p1,Value.int .i64 x0.2.2]).toArray.toList)=(c.take (ta.off q)++cv++c.drop (ta.off q+cv.length))++ [p0,p1,Value.int .i64 x0.2.2]:=fY
   rw[e2]
   rfl
  have bJ:bE (X.row r0 ((c.take (ta.off q)++cv++c.drop (ta.off q+cv.length))++ [p0,p1,Value.int .i64 x0.2.2]).toArray) id r0 ⟨.aF .bC ta tb,(z,x0.2),own⟩:=by
   have hg:∀p∈lC,∀g o k,X.w.heap[g]? =some o->X.ow g= .row (.b id p) k->(X.row r0 ((c.take (ta.off q)++cv++c.drop (ta.off q+cv.length))++ [p0,p1,Value.int .i64 x0.2.2]).toArray).w.heap[g]? =some o/\(X.row r0 ((c.take (ta.off q)++cv++c.drop (ta.off q+cv.length))++ [p0,p1,Value.int .i64 x0.2.2]).toArray).ow g= .row (.b id p) k:=fun p _ g o k hg hw=>by
    have bK:g≠r0:=fun e=>by rw[e,how] at hw;cases hw
    exact⟨(setRow_other X.w r0 g _ bK).trans hg,hw⟩
   refine⟨how,⟨_,setRow_heap X.w r0 _ _ T' (0,0) aE⟩,fun _=>⟨c.take (ta.off q)++cv++c.drop (ta.off q+cv.length),p0,p1,T',setRow_heap X.w r0 _ _ T' (0,0) aE,(fT aM dv cj hz rep).ai (fun _ _=>m8 how),sV.move (fun _ _=>m8 how) fun p hp=> ?_,sW.move (fun _ _=>m8 how) fun p hp=> ?_⟩⟩
   ·rcases hp with rfl|rfl<;>exact hg _ (by simp [lC])
   ·rcases hp with rfl|rfl<;>exact hg _ (by simp [lC])
  exact⟨X.row r0 _,Go.undef,.inr ⟨aX,rfl⟩,GY how,(hr.row (cs:=_) hb hβ how bJ (.inr iD)).skip o.dst⟩
 case h_3=>
  rename_i ta tb
  split at h
  case isFalse=>cases h
  rename_i heq
  have:=Ty.aI heq
  subst this
  obtain⟨x0,own,r,hb,h,bT,h1,how,c,p0,p1,T',aE,aM,sV,sW⟩:=GR hr h
  rw[hβ] at h1
  cases h1
  obtain⟨n,h,hy⟩:=zz h
  cases iD:hM own [] with
  |false=>rw[iD] at h;cases h
  |true=>
  rw[iD,cond_true] at h
  cases h
  have iD:=BH iD
  obtain⟨cv,rep,ev⟩:=hy X _ _ (hr.aG y)
  have rep:cv=[.int .i64 n]:=rep
  subst rep
  have hv:a.eval x= .pointer (some ⟨r0,ta.cells+2,none⟩):=hv.1
  have fM:=aM.len
  have bQ:=HL (P:=P) hE hT (X:=X) (x:=n) (cs:=[.int .i64 n]) rfl (off:=ta.cells+2) (w:=X.w) (r:=r0) (T':=T') aE (by simp [Ty.cells];omega)
  have fY:(c++ [p0,p1,Value.int .i64 x0.2.2]).take (ta.cells+2)++ [Value.int .i64 n]++(c++ [p0,p1,Value.int .i64 x0.2.2]).drop (ta.cells+2+1)=c++ [p0,p1,Value.int .i64 n]:=by
   rw[<-fM,List.take_append,List.drop_append]
   simp [List.take_of_length_le,List.drop_eq_nil_of_le]
   omega
  have aX:(execOp a.eval o).run P X.w= .ok .skip ((X.row r0 (c++ [p0,p1,Value.int .i64 n]).toArray).w):=by
   simp only[execOp,ho,Sem.run_bind,Instr.storeAt,hv,Instr.sureAddr,Sem.run_pure,Result.andThen_ok,ev,bQ]
   have e2:(List.take (ta.cells+2) (c++ [p0,p1,Value.int .i64 x0.2.2]).toArray.toList++ [Value.int .i64 n]++List.drop (ta.cells+2+ [Value.int .i64 n].length) (c++ [p0,p1,Value.int .i64 x0.2.2]).toArray.toList)=c++ [p0,p1,Value.int .i64 n]:=fY
   rw[e2]
   rfl
  have bJ:bE (X.row r0 (c++ [p0,p1,Value.int .i64 n]).toArray) id r0 ⟨.aF .bC ta tb,(x0.1,x0.2.1,n),own⟩:=by
   have hm:iQ X r0 (.b id) ta tb x0:=⟨c,p0,p1,T',aE,aM,sV,sW⟩
   have hg:∀p∈lC,∀g o k,X.w.heap[g]? =some o->X.ow g= .row (.b id p) k->(X.row r0 (c++ [p0,p1,Value.int .i64 n]).toArray).w.heap[g]? =some o/\(X.row r0 (c++ [p0,p1,Value.int .i64 n]).toArray).ow g= .row (.b id p) k:=fun p _ g o k hg hw=>by
    have bK:g≠r0:=fun e=>by rw[e,how] at hw;cases hw
    exact⟨(setRow_other X.w r0 g _ bK).trans hg,hw⟩
   refine⟨how,⟨_,setRow_heap X.w r0 _ _ T' (0,0) aE⟩,fun _=>⟨c,p0,p1,T',setRow_heap X.w r0 _ _ T' (0,0) aE,aM.ai (fun _ _=>m8 how),sV.move (fun _ _=>m8 how) fun p hp=> ?_,sW.move (fun _ _=>m8 how) fun p hp=> ?_⟩⟩
   ·rcases hp with rfl|rfl<;>exact hg _ (by simp [lC])
   ·rcases hp with rfl|rfl<;>exact hg _ (by simp [lC])
  exact⟨X.row r0 _,Go.undef,.inr ⟨aX,rfl⟩,GY how,(hr.row (cs:=_) hb hβ how bJ (.inr iD)).skip o.dst⟩
 rename_i ta tb i
 split at h
 case h_2=>cases h
 rename_i B hB
 split at h
 case isFalse=>cases h
 rename_i dy
 split at h
 case isFalse=>cases h
 rename_i heq
 have:=Ty.aI heq
 subst this
 obtain⟨hb,r,h1,how,cs,T',aE,c9,fX⟩:=GX hr hB dy
 rw[hβ] at h1
 cases h1
 obtain⟨yv,h,hy⟩:=zz h
 obtain⟨cv,rep,ev⟩:=hy X _ _ (hr.aG y)
 generalize(Ty.cast dy B.x:List (El ta))=xs at*
 cases hn:Nat.ble (i+1) (List.length xs) with
 |false=>rw[hn] at h;cases h
 |true=>
  rw[hn] at h
  cases h
  have al:i<List.length xs:=Nat.le_of_ble_eq_true hn
  have hv:a.eval x= .pointer (some ⟨r0,i*ta.cells,none⟩):=hv
  have fM:=rep.len
  have hmul:(i+1)*ta.cells<=List.length xs*ta.cells:=Nat.mul_le_mul_right _ al
  rw[Nat.add_mul,Nat.one_mul] at hmul
  have du:i*ta.cells+ta.cells<=cs.size:=by omega
  have uL:i*ta.cells+cv.length<=cs.toList.length:=by simp;omega
  let new:=(cs.toList.take (i*ta.cells)++cv++cs.toList.drop (i*ta.cells+cv.length)).toArray
  have iE:new.toList=cs.toList.take (i*ta.cells)++cv++cs.toList.drop (i*ta.cells+cv.length):=rfl
  have aX:(execOp a.eval o).run P X.w= .ok .skip ((X.row r0 new).w):=by
   have bQ:=HL (P:=P) hE hT rep (off:=i*ta.cells) (w:=X.w) (r:=r0) (cur:=cs) (T':=T') aE du
   simp only[execOp,ho,Sem.run_bind,Instr.storeAt,hv,Instr.sureAddr,Sem.run_pure,Result.andThen_ok,ev,bQ]
   rfl
  have b9:new.size=cs.size:=by
   have:new.toList.length=cs.toList.length:=by rw[iE];simp;omega
   simpa using this
  have bJ:bE (X.row r0 new) id r0 ⟨.aF .row ta tb,(List.set xs i yv:List (El ta)),[]⟩:=by
   refine⟨how,new,T',setRow_heap X.w r0 cs new T' (0,0) aE,?_,fun j z hj=> ?_⟩
   ·rw[b9,c9]
    show _=List.length (List.set xs i yv)*_
    rw[List.length_set]
   ·refine bh.ai (fun _ _=>m8 (cs:=new) how) ?_
    have hj:(List.set xs i yv)[j]? =some z:=hj
    rw[iE]
    by_cases e:i=j
    ·subst e
     rw[List.getElem?_set_self al] at hj
     cases hj
     have:((cs.toList.take (i*ta.cells)++cv++cs.toList.drop (i*ta.cells+cv.length)).drop (i*ta.cells)).take ta.cells=cv:=by
      rw[List.append_assoc,List.drop_append_of_le_length (by rw[List.length_take];omega),List.drop_eq_nil_of_le (by rw[List.length_take];omega),List.nil_append,<-fM,List.take_left]
     rw[this]
     exact rep
    ·rw[List.getElem?_set_ne e] at hj
     rw[zj2 (cs:=cs.toList) (c:=cv) (off:=i*ta.cells) uL (j*ta.cells) ta.cells ?_]
     ·exact fX j z hj
     ·rcases Nat.lt_or_gt_of_ne e with h|h
      ·have:(i+1)*ta.cells<=j*ta.cells:=Nat.mul_le_mul_right _ h
       rw[Nat.add_mul,Nat.one_mul] at this
       right;omega
      ·have:(j+1)*ta.cells<=i*ta.cells:=Nat.mul_le_mul_right _ h
       rw[Nat.add_mul,Nat.one_mul] at this
       left;omega
  exact⟨X.row r0 new,Go.undef,.inr ⟨aX,rfl⟩,GY how,(hr.row (cs:=new) hb hβ how bJ (.inl (by rw[Ty.aI dy];rfl))).skip o.dst⟩
theorem aea(hE:ak P E)(hr:Rel X s a){ops:List Oper}{T:TypeId}{x y:Operand}(ho:o.op= .store T x y){C:FuncId->bV Out}(h:act E C ops o s some=some u):aH P X s a o u:=by
 unfold act at h
 simp only[ho] at h
 have hx:=hr.aG x
 unfold store at h
 split at h
 case h_2=>cases h
 rename_i u0 hT
 split at h
 case h_2=>cases h
 rename_i id t p e
 rw[e] at hx
 obtain⟨r,hβ,hx⟩:=hx
 split at h
 ·exact acm hE hr ho hT e h
 rename_i eI
 have eI:t.bH=false:=by simpa using eI
 obtain⟨hv,dv⟩:=(rf eI).1 hx
 split at h
 case h_2=>cases h
 rename_i B hB
 split at h
 case isFalse=>cases h
 rename_i heq
 have dy:=Ty.aI heq
 subst dy
 split at h
 case h_2=>cases h
 rename_i u' cj
 split at h
 case isFalse=>cases h
 rename_i CJ
 have:=Ty.aI CJ
 subst this
 have hb:=rh hB
 obtain⟨yv,h,hy⟩:=EW hr h (.inl rfl)
 split at h
 case h_2=>cases h
 rename_i z fP
 cases h
 obtain⟨W,cv,hW,hX,Tk,rep,ev,hO,hβ2,mY,_⟩:=hy (fun q=> .b id (p++q))
 obtain⟨r',hβW,uH⟩:=Tk.boxes id B (by rw[yB];exact hb)
 obtain⟨cs,T2,aE,aM,how,bT⟩:=uH.cells eI
 have hrr:r'=r:=by
  rw[hβ2,hβ] at hβW
  exact(Option.some.inj hβW).symm
 subst hrr
 have du:B.t.off p+u'.cells<=cs.size:=by
  have:=fB B.t p u' cj dv
  have hl:=aM.len
  simp at hl
  omega
 let new:=(cs.toList.take (B.t.off p)++cv++cs.toList.drop (B.t.off p+cv.length)).toArray
 have aX:(execOp a.eval o).run P X.w= .ok .skip ((W.row r' new).w):=by
  have bQ:=HL (P:=P) hE hT rep (off:=B.t.off p) (w:=X.w) (r:=r') (cur:=cs) (T':=T2) (by rw[<-hW];exact aE) du
  simp only[execOp,ho,Sem.run_bind,Instr.storeAt,hv,Instr.sureAddr,Sem.run_pure,Result.andThen_ok,ev,bQ]
  rw[<-hW];rfl
 have uX:=PT aM dv cj fP rep bT hO
 have bJ:bE (W.row r' new) id r' {t:=B.t,x:=z,own:=(s.aG y).own.map (fun q=>p++q)++yF B.own p}:=by
  refine⟨how,dK.of eI (setRow_heap W.w r' cs new T2 (0,0) aE) ?_ ?_⟩
  ·have:=(fT aM dv cj fP rep).ai (fun _ _=>m8 (cs:=new) how)
   simpa [new] using this
  ·have:=uX.row (cs:=new) how
   simpa [new] using this
 have fp:=Tk.row (cs:=new) (by rw[yB];exact hb) hβW how bJ (.inl (Se eI))
 exact⟨W.row r' new,Go.undef,.inr ⟨aX,rfl⟩,hX.trans (GY how),fp.skip o.dst⟩
end Go.Ref

namespace Go.Ref
open Go
variable {P:Program} {E:Env} {X:ax} {s:State} {a:Act} {o:Oper} {u:Out}
theorem z193(off:Nat):∀(l:List Value) (k:Nat) (cs:Array Value),off+k+l.length<=cs.size->
 ((l.zipIdx k).foldl (fun cs p=>cs.setIfInBounds (off+p.2) p.1) cs).toList=cs.toList.take (off+k)++l++cs.toList.drop (off+k+l.length)
 | [],k,cs,h=>by simp
 |v::r,k,cs,h=>by
  simp only[List.length_cons] at h
  simp only[List.zipIdx_cons,List.foldl_cons]
  rw[z193 off r (k+1) _ (by simp;omega)]
  simp only[Array.toList_setIfInBounds,List.length_cons]
  apply List.ext_getElem?
  intro q
  simp only[List.getElem?_append,List.getElem?_take,List.getElem?_drop,List.length_append,List.length_take,List.length_set,Array.length_toList,List.getElem?_set,List.length_cons,List.getElem?_cons]
  rw[Nat.min_eq_left (show off+(k+1)<=cs.size by omega),Nat.min_eq_left (show off+k<=cs.size by omega)]
  by_cases h1:q<off+k
  ·rw[if_pos (by omega),if_pos (by omega),if_pos (by omega),if_neg (by omega),if_pos (by omega),if_pos (by omega),if_pos (by omega)]
  ·by_cases h2:q=off+k
   ·subst h2
    rw[if_pos (by omega),if_pos (by omega),if_pos (by omega),if_pos rfl,if_pos (by omega),if_pos (by omega),if_neg (by omega),if_pos (by omega)]
   ·by_cases h3:q<off+(k+1)+r.length
    ·rw[if_pos (by omega),if_neg (by omega),if_pos (by omega),if_neg (by omega),if_neg (by omega)]
     try(congr 1<;>omega)
    ·rw[if_neg (by omega),if_neg (by omega),if_neg (by omega)]
     first|done|(congr 1;omega)
theorem zra(off:Nat)(l:List Value)(cs:Array Value)(h:off+l.length<=cs.size):
 ((l.toArray.zipIdx).foldl (fun cs (p:Value×Nat)=>cs.setIfInBounds (off+p.2) p.1) cs).toList=cs.toList.take off++l++cs.toList.drop (off+l.length):=by
 have:=z193 off l 0 cs (by omega)
 rw[<-Array.foldl_toList,Array.toList_zipIdx]
 simpa using this
theorem Oa(hr:Rel X s a){t:Ty}{pl:Nat->Option (Nat×Nat)}(gk:∀i ft,t.at_ [i]=some ft->t.lv i=true->t.fa [i]/\pl i=some (t.off [i],ft.cells)){R:Type}{K:El t->List (List Nat)->Option R}{z:R}:
 ∀(parts:List (Nat×Operand)) (x:El t) (own:List (List Nat)) (cs:Array Value),bh X t x cs.toList->sL t x own (parts.map fun p=>(p.1,s.aG p.2,[])) K=some z->
  ∃y jZ cells,K y jZ=some z/\Instr.fill pl cs (parts.map fun p=>(p.1,a.eval p.2))=some cells/\bh X t y cells.toList
 | [],x,own,cs,rep,h=>⟨x,own,cs,h,rfl,rep⟩
 |(i,p)::r,x,own,cs,rep,h=>by
  simp only[List.map_cons,sL] at h
  split at h
  case isTrue=>cases h
  rename_i hb
  have hb:t.lv i=true:=by cases si:t.lv i<;>simp_all
  split at h
  case h_2=>cases h
  rename_i ft cj
  obtain⟨y,h,hy⟩:=zz h
  split at h
  case h_2=>cases h
  rename_i x' fP
  obtain⟨c,rc,ec⟩:=hy X _ _ (hr.aG p)
  obtain⟨dv,hp⟩:=gk i ft cj hb
  have fM:=rc.len
  have eU:=rep.len
  have hle:=fB t [i] ft cj dv
  have va:=fT rep dv cj fP rc
  have du:t.off [i]+c.length<=cs.size:=by rw[fM];simp at eU;omega
  have lT:=zra (t.off [i]) c cs du
  obtain⟨y2,kQ,cells,h1,h2,h3⟩:=Oa hr gk r x' _ _ (by rw[lT];exact va) h
  refine⟨y2,kQ,cells,h1,?_,h3⟩
  simp only[List.map_cons,Instr.fill,hp,ec,vZ rc]
  rw[if_neg (by simp only[List.size_toArray,fM];simp;simp at eU;omega)]
  exact h2
theorem T3{t:Ty}{pl:Nat->Option (Nat×Nat)}(gk:∀i ft,t.at_ [i]=some ft->t.lv i=true->t.fa [i]/\pl i=some (t.off [i],ft.cells)){R:Type}{K:El t->List (List Nat)->Option R}{z:R}:
 ∀(parts:List (Nat×Operand)) (X:ax) (s:State) (x:El t) (own:List (List Nat)) (cs:Array Value),Rel X s a->bh X t x cs.toList->bn X (.r 0) t x cs.toList own->sL t x own (m9 s parts).1 K=some z->
  ∃y jZ cells Y,K y jZ=some z/\Y.w=X.w/\Ext X Y/\Rel Y (s.close (m9 s parts).2) a/\Instr.fill pl cs (parts.map fun p=>(p.1,a.eval p.2))=some cells/\bh Y t y cells.toList/\bn Y (.r 0) t y cells.toList jZ
 | [],X,s,x,own,cs,hr,rep,ho,h=>⟨x,own,cs,X,h,rfl,Ext.refl X,hr,rfl,rep,ho⟩
 |(i,p)::r,X,s,x,own,cs,hr,rep,ho,h=>by
  simp only[m9,sL] at h
  split at h
  case isTrue=>cases h
  rename_i hb
  have hb:t.lv i=true:=by cases si:t.lv i<;>simp_all
  split at h
  case h_2=>cases h
  rename_i ft cj
  have hc:yE (s.aG p).own p=src p\/((s.aG p).own=[]/\yE (s.aG p).own p=[]):=by
   cases bT:(s.aG p).own with
   |nil=>exact .inr ⟨rfl,rfl⟩
   |cons _ _=>exact .inl rfl
  obtain⟨y,h,hy⟩:=EW hr h hc
  split at h
  case h_2=>cases h
  rename_i x' fP
  obtain⟨Y,c,hw,aY,bz,rc,ec,hO,hβ,hT,bQ⟩:=hy (fun q=> .r 0 ([i]++q))
  obtain⟨dv,hp⟩:=gk i ft cj hb
  have fM:=rc.len
  have eU:=rep.len
  have hle:=fB t [i] ft cj dv
  have L9:=rep.mono aY
  have hoY:=ho.stay bQ (by simp)
  have va:=fT L9 dv cj fP rc
  have uX:=PT L9 dv cj fP rc hoY hO
  have du:t.off [i]+c.length<=cs.size:=by rw[fM];simp at eU;omega
  have lT:=zra (t.off [i]) c cs du
  obtain⟨y2,kQ,cells,Z,h1,vT,cf,dg,h2,h3,h4⟩:=T3 gk r Y _ x' _ _ bz (by rw[lT];exact va) (by rw[lT];exact uX) h
  refine⟨y2,kQ,cells,Z,h1,vT.trans hw,aY.trans cf,?_,?_,h3,h4⟩
  ·simp only[m9,zi0]
   exact dg
  ·simp only[List.map_cons,Instr.fill,hp,ec,vZ rc]
   rw[if_neg (by simp only[List.size_toArray,fM];simp;simp at eU;omega)]
   exact h2
theorem EQ(hE:ak P E):∀(fl:List Field) (t:Ty) (off:Nat),jS E fl t off->∃places,fl.mapM (fun(f:Field)=>(P.info? f.type).map fun i=>(f.offset,i.size))=some places/\
 ∀(j:Nat) (f:Field) (ft:Ty),fl[j]? =some f->E.ty f.type=some ft->places[j]? =some (f.offset,ft.cells)
 | [],t,off,h=>⟨[],rfl,fun j f ft hj=>by simp at hj⟩
 |f::r,t,off,h=>by
  cases t<;>simp only[jS] at h<;>try exact h.elim
  rename_i ta tb
  obtain⟨h1,h2,h3,h4⟩:=h
  obtain⟨places,g1,g2⟩:=EQ hE r tb _ h4
  obtain⟨i,i1,i2,_⟩:=(hE.ty _ _ h2).info
  refine⟨(f.offset,i.size)::places,?_,fun j g gt hj hg=> ?_⟩
  ·simp [List.mapM_cons,i1,g1]
  ·cases j with
   |zero=>
    simp only[List.getElem?_cons_zero,Option.some.injEq] at hj
    subst hj
    rw[h2] at hg
    cases hg
    simp [i2]
   |succ j=>
    simp only[List.getElem?_cons_succ] at hj⊢
    exact g2 j g gt hj hg
theorem agO(hE:ak P E)(hr:Rel X s a){T:TypeId}{t:Ty}(hT:E.ty T=some t)(sf:t.agg=true){R:Type}{K:El t->List (List Nat)->Option R}{z:R}(parts:Array (Nat×Operand))
 (h:sL t (El.bU t) (yC t) (m9 s parts.toList).1 K=some z):
 ∃y own cs Y,K y own=some z/\Y.w=X.w/\Ext X Y/\Rel Y (s.close (m9 s parts.toList).2) a/\bh Y t y cs/\bn Y (.r 0) t y cs own/\(Instr.build T (parts.map fun(i,x)=>(i,a.eval x))).run P X.w= .ok (eb t cs) X.w:=by
 have hf:=hE.ty T t hT
 obtain⟨i,i1,i2,i3,i4⟩:=hf.info
 have hz:=tc X t
 have hn:=Ng X (.r 0) t
 have LP:(eb t (zp t)).cells=(zp t).toArray:=vZ hz
 have lu:(parts.map fun(i,x)=>(i,a.eval x)).toList=parts.toList.map fun p=>(p.1,a.eval p.2):=by simp
 cases t with
 |arr n t=>
  obtain⟨e,hu,he,_⟩:=hf.dC
  obtain⟨ie,j1,j2,_⟩:=(hE.ty e t he).info
  obtain⟨y,own,cells,Y,k1,hw,aY,bz,k2,k3,k4⟩:=T3 (pl:=fun i=>some (i*ie.size,ie.size)) (fun i ft cj hb=>by
   simp only[Ty.at_,Option.some.injEq] at cj
   subst cj
   have hb:i+1<=n:=by simpa [Ty.lv] using hb
   exact⟨⟨hb,by simp [Ty.fa]⟩,by simp [Ty.off,j2]⟩) parts.toList X s (El.bU (.arr n t)) _ (zp (.arr n t)).toArray hr (by simpa using hz) (by simpa using hn) h
  refine⟨y,own,cells.toList,Y,k1,hw,aY,bz,k3,k4,?_⟩
  rw[j9 rfl]
  refine run_build X.w T _ cells.toList.toArray ?_
  unfold Program.built
  simp only[i1,hu,i4,j1,LP,lu]
  simpa using k2
 |pair ta tb=>
  obtain⟨fs,hu,du,_⟩:=hf.dC
  obtain⟨places,p1,p2⟩:=EQ hE fs.toList _ 0 du
  obtain⟨y,own,cells,Y,k1,hw,aY,bz,k2,k3,k4⟩:=T3 (pl:=(places.toArray[·]?)) (fun i ft cj hb=>by
   obtain⟨f,g1,g2,g3,g4⟩:=R9 fs.toList _ 0 i ft du rfl cj
   refine⟨g4,?_⟩
   have:=p2 i f ft g1 g3
   simp only[List.getElem?_toArray,this,g2,Nat.zero_add]) parts.toList X s (El.bU (.pair ta tb)) _ (zp (.pair ta tb)).toArray hr (by simpa using hz) (by simpa using hn) h
  refine⟨y,own,cells.toList,Y,k1,hw,aY,bz,k3,k4,?_⟩
  rw[j9 rfl]
  refine run_build X.w T _ cells.toList.toArray ?_
  unfold Program.built
  simp only[i1,hu,i4,p1,LP,lu]
  simpa using k2
 |unit=>
  obtain⟨fs,hu,du,_⟩:=hf.dC
  obtain⟨places,p1,p2⟩:=EQ hE fs.toList _ 0 du
  obtain⟨y,own,cells,Y,k1,hw,aY,bz,k2,k3,k4⟩:=T3 (pl:=(places.toArray[·]?)) (fun i ft cj hb=>by simp [Ty.at_] at cj) parts.toList X s (El.bU .unit) _ (zp .unit).toArray hr (by simpa using hz) (by simpa using hn) h
  refine⟨y,own,cells.toList,Y,k1,hw,aY,bz,k3,k4,?_⟩
  rw[j9 rfl]
  refine run_build X.w T _ cells.toList.toArray ?_
  unfold Program.built
  simp only[i1,hu,i4,p1,LP,lu]
  simpa using k2
 |aF k a b=>exact absurd (hE.jA hT) (by simp [Ty.bH])
 |_=>simp [Ty.agg] at sf
def ax.nY(X:ax)(j:Nat)(q:List Nat->Place):ax:=
 {X with ow:=fun g=>match X.ow g with
  | .row (.r j' p) n=>if j'=j then .row (q p) n else .row (.r j' p) n
  |w=>w}
theorem aeG{s:State}{X:ax}{j:Nat}{q:List Nat->Place}:eD s X (X.nY j q):=by
 refine⟨rfl,rfl,fun g=> ?_⟩
 simp only[ax.nY]
 cases hg:X.ow g with
 |row pl n=>
  cases pl with
  |r j' p=>
   by_cases e:j'=j
   ·subst e
    exact .inr ⟨_,n,q p,rfl,fun h=>h,by simp⟩
   ·exact .inl (if_neg e)
  |_=>exact .inl rfl
 |_=>exact .inl rfl
theorem bn.yq{X:ax}{j:Nat}{q:List Nat->Place}{t:Ty}{x:El t}{cs:List Value}{own:List (List Nat)}(h:bn X (.r j) t x cs own):bn (X.nY j q) q t x cs own:=fun p hp=>by
 obtain⟨e,t',xs,v,g0,g1,g2,g3⟩:=h p hp
 refine⟨e,t',xs,v,g0,g1,g2,?_⟩
 rcases g3 with h|⟨g,cap,cur,h1,h2,h3,h4,h5,h6⟩
 ·exact .inl h
 ·exact .inr ⟨g,cap,cur,h1,h2,h3,h4,h5,by simp [ax.nY,h6]⟩
theorem ad0(hE:ak P E)(hr:Rel X s a){ops:List Oper}{T:TypeId}{parts:Array (Nat×Operand)}(ho:o.op= .build T parts){C:FuncId->bV Out}(h:act E C ops o s some=some u):aH P X s a o u:=by
 unfold act at h
 simp only[ho] at h
 split at h
 case h_2=>cases h
 rename_i t hT
 split at h
 case isTrue=>cases h
 rename_i sf
 have sf:t.agg=true:=by cases si:t.agg<;>simp_all
 obtain⟨y,own,cs,Y,h,hw,aY,bz,rep,hO,aX⟩:=agO hE hr hT sf parts h
 cases h
 have mY:=aeG (s:=s.close (m9 s parts.toList).2) (X:=Y) (j:=0) (q:= .c (o.dst.getD 0) 0)
 refine⟨Y.nY 0 (.c (o.dst.getD 0) 0),eb t cs,.inl ?_,aY.trans mY.ext,(bz.mod mY.mod).fin ⟨cs,rep.ai (fun _ _=>mY.ay.1),rfl,hO.yq⟩ (fun id t p hm=>by simp at hm)⟩
 rw[mY.w,hw]
 simp only[execOp,ho,Sem.run_bind,aX,Result.andThen_ok,Sem.run_pure]
end Go.Ref

namespace Go.Ref
open Go
variable {P:Program} {E:Env} {X:ax} {s:State} {a:Act} {o:Oper} {u:Out}
theorem aks{t:Ty}{x:El t}{xs:List (El t)}{n:Nat}{c cs:List Value}(h1:bh X t x c)(h2:bh X (.arr n t) xs cs):bh X (.arr (n+1) t) (x::xs:List (El t)) (c++cs):=by
 obtain⟨k1,k2,k3⟩:=h2
 have hl:=h1.len
 refine⟨by simp;exact k1,by simp [k2,hl,Nat.add_mul];omega,fun j y hj=> ?_⟩
 cases j with
 |zero=>
  simp only[List.getElem?_cons_zero,Option.some.injEq] at hj
  subst hj
  rw[Nat.zero_mul,List.drop_zero,<-hl,List.take_left]
  exact h1
 |succ j=>
  simp only[List.getElem?_cons_succ] at hj
  have hd:(c++cs).drop ((j+1)*t.cells)=cs.drop (j*t.cells):=by
   rw[Nat.add_mul,Nat.one_mul,Nat.add_comm,<-List.drop_drop,<-hl,List.drop_left]
  rw[hd]
  exact k3 j y hj
theorem HO{t:Ty}{xs ys:List (El t)}{n m:Nat}{c d:List Value}(h1:bh X (.arr n t) xs c)(h2:bh X (.arr m t) ys d):bh X (.arr (n+m) t) (xs++ys:List (El t)) (c++d):=by
 obtain⟨j1,j2,j3⟩:=h1
 obtain⟨k1,k2,k3⟩:=h2
 refine⟨by rw[List.length_append,j1,k1],by rw[List.length_append,j2,k2,Nat.add_mul],fun j y hj=> ?_⟩
 by_cases al:j<n
 ·rw[List.getElem?_append_left (by rw[j1];exact al)] at hj
  have hle:(j+1)*t.cells<=n*t.cells:=Nat.mul_le_mul_right _ al
  rw[Nat.add_mul,Nat.one_mul] at hle
  rw[List.drop_append_of_le_length (by omega),List.take_append_of_le_length (by rw[List.length_drop];omega)]
  exact j3 j y hj
 ·rw[List.getElem?_append_right (by rw[j1];omega),j1] at hj
  have hd:(c++d).drop (j*t.cells)=d.drop ((j-n)*t.cells):=by
   have hm:j*t.cells=c.length+(j-n)*t.cells:=by
    rw[j2,<-Nat.add_mul]
    congr 1
    omega
   rw[hm,List.drop_length_add_append]
  rw[hd]
  exact k3 _ y hj
theorem zwr{t:Ty}{ad:Addr}(hs:ad.spot=none):∀(xs:List (El t)) (p:Nat),(∀(j:Nat) x,xs[j]? =some x->∃eZ,bh X t x eZ/\∀(i:Nat) v,eZ[i]? =some v->X.ay (ad.add (p+(j*t.cells+i))) v)->
 ∃cs,bh X (.arr xs.length t) xs cs/\∀(i:Nat) v,cs[i]? =some v->X.ay (ad.add (p+i)) v
 | [],p,h=>⟨[],⟨rfl,by simp,fun j x hj=>by simp at hj⟩,fun i v hi=>by simp at hi⟩
 |x::xs,p,h=>by
  obtain⟨c,r1,s1⟩:=h 0 x rfl
  obtain⟨cs,r2,s2⟩:=zwr hs xs (p+t.cells) (fun j y hj=>by
   obtain⟨c',r',s'⟩:=h (j+1) y hj
   refine⟨c',r',fun i v hi=> ?_⟩
   have:=s' i v hi
   rw[show p+((j+1)*t.cells+i)=p+t.cells+(j*t.cells+i) by rw[Nat.add_mul];omega] at this
   exact this)
  have hl:=r1.len
  refine⟨c++cs,aks r1 r2,fun i v hi=> ?_⟩
  rw[List.getElem?_append] at hi
  split at hi
  ·have:=s1 i v hi
   rwa [show p+(0*t.cells+i)=p+i by omega] at this
  ·have:=s2 _ v hi
   rwa [show p+t.cells+(i-c.length)=p+i by omega] at this
theorem zb4{e:TypeId}{t:Ty}{xs:List (El t)}{A:Option Addr}{n c:Nat}(h:bh X (.sl e t) xs [.slice A n c]):n=xs.length/\xs.length<=c/\
 ∃cs,bh X (.arr xs.length t) xs cs/\(A=none->xs=[])/\∀ad,A=some ad->∀(i:Nat) v,cs[i]? =some v->X.ay (ad.add i) v:=by
 obtain⟨A',c',h1,h2,h3⟩:=h
 simp only[List.cons.injEq,Value.slice.injEq,and_true] at h1
 obtain⟨rfl,rfl,rfl⟩:=h1
 refine⟨rfl,h2,?_⟩
 cases xs with
 |nil=>exact⟨[],⟨rfl,by simp,fun j x hj=>by simp at hj⟩,fun _=>rfl,fun ad _ i v hi=>by simp at hi⟩
 |cons x r=>
  obtain⟨ad,_,hA,hs,_⟩:=h3 0 x rfl
  subst hA
  obtain⟨cs,k1,k2⟩:=zwr (X:=X) hs (x::r) 0 (fun j y hj=>by
   obtain⟨qT,c',e1,_,g1,g2⟩:=h3 j y hj
   cases e1
   exact⟨c',g1,fun i v hi=>by rw[Nat.zero_add];exact g2 i v hi⟩)
  refine⟨cs,k1,(fun e=>by cases e),fun qT e i v hi=> ?_⟩
  cases e
  have:=k2 i v hi
  rwa [Nat.zero_add] at this
theorem zj3{e:TypeId}{t:Ty}{xs:List (El t)}{g cap:Nat}{pl:Place}{cur:Array Value}{cs:List Value}(hg:X.w.heap[g]? =some (.cells cur e (0,0)))(how:X.ow g= .row pl (xs.length*t.cells))
 (nM:cur.toList.take (xs.length*t.cells)=cs) (aM:bh X (.arr xs.length t) xs cs) (nF:xs.length<=cap):bh X (.sl e t) xs [.slice (some ⟨g,0,none⟩) xs.length cap]:=by
 refine⟨_,cap,rfl,nF,fun j x hj=>⟨_,_,rfl,rfl,aM.2.2 j x hj,fun i v hi=> ?_⟩⟩
 have uN:=(List.getElem?_eq_some_iff.1 hj).1
 have hle:(j+1)*t.cells<=xs.length*t.cells:=Nat.mul_le_mul_right _ uN
 rw[Nat.add_mul,Nat.one_mul] at hle
 rw[List.getElem?_take] at hi
 split at hi
 case isFalse=>cases hi
 rename_i Te
 rw[List.getElem?_drop,<-nM,List.getElem?_take,if_pos (by omega)] at hi
 refine⟨BN rfl _,?_,?_⟩
 ·rw[jq,Nat.zero_add]
  simp only[World.cell?,hg]
  simpa using hi
 ·rw[jq,Nat.zero_add]
  show Ow.used (X.ow g) _
  rw[how]
  show j*t.cells+i<_
  omega
end Go.Ref

namespace Go.Ref
open Go
variable {P:Program} {E:Env} {X:ax} {s:State} {a:Act} {o:Oper} {u:Out}
theorem MV{R:Type}{t:Ty}{n:Nat}{K:List (El t)->Option R}:∀(parts:List (Nat×SV)) (xs:List (El t)) (own:List (List Nat)),xs.length=n->B4 t xs parts K=sL (.arr n t) xs own (parts.map fun p=>(p.1,p.2,[])) (fun y _=>K y)
 | [],xs,own,h=>rfl
 |(i,v)::r,xs,own,h=>by
  subst h
  simp only[B4,List.map_cons,sL,Ty.lv,Ty.at_,El.set,Ty.cm,dite_true,Option.map_some]
  congr 1
  refine congrArg (v.el t) (funext fun y=> ?_)
  exact MV r (xs.set i y) _ (by simp)
theorem aix{t:Ty}(n:Nat)(hk:0<t.cells):((Array.range (n*t.cells)).map fun i=>(zp t).toArray[i % (zp t).toArray.size]!).toList=(List.replicate n (zp t)).flatten:=by
 have hz:=vE t
 apply List.ext_getElem?
 intro q
 have hlen:((List.replicate n (zp t)).flatten).length=n*t.cells:=by simp [hz]
 by_cases hq:q<n*t.cells
 ·have h1:q/t.cells<n:=(Nat.div_lt_iff_lt_mul hk).2 hq
  have h2:=z9r hz n (q/t.cells) h1
  have h3:=congrArg (fun l=>l[q % t.cells]?) h2
  simp only[List.getElem?_take,List.getElem?_drop,if_pos (Nat.mod_lt q hk)] at h3
  rw[Nat.mul_comm,Nat.div_add_mod] at h3
  rw[h3]
  have hm:q % t.cells<(zp t).length:=by rw[hz];exact Nat.mod_lt q hk
  rw[List.getElem?_eq_getElem hm]
  simp [hq,hz,hm]
  rw[List.getElem?_eq_getElem hm]
  rfl
 ·rw[List.getElem?_eq_none (by simp;omega),List.getElem?_eq_none (by omega)]
theorem PR{X:ax}{pl:List Nat->Place}{e:TypeId}{t:Ty}{xs:List (El t)}{v:Value}(h:bu X (pl []) e t.cells xs.length v):bn X pl (.sl e t) xs [v] [[]]:=fun p hp=>by
 have hp:p=[]:=by simpa using hp
 subst hp
 exact⟨e,t,xs,v,by simp [Ty.fa],rfl,rfl,h⟩
theorem zvo(hE:ak P E)(hr:Rel X s a){ops:List Oper}{T:TypeId}{n:Nat}{parts:Array (Nat×Operand)}(ho:o.op= .buildSlice T n parts){C:FuncId->bV Out}(h:act E C ops o s some=some u):aH P X s a o u:=by
 unfold act at h
 simp only[ho] at h
 split at h
 case h_2=>cases h
 rename_i e t hT
 split at h
 case isTrue=>cases h
 rename_i A3
 have hk:0<t.cells:=by rcases Nat.eq_zero_or_pos t.cells with h0|h0<;>simp_all
 cases hb:Nat.ble (n*t.cells) 16777216 with
 |false=>rw[hb] at h;cases h
 |true=>
  rw[hb] at h
  simp only[cond_true] at h
  have vd:n*t.cells<=16777216:=Nat.le_of_ble_eq_true hb
  rw[MV (n:=n) _ _ [] (by simp),List.map_map] at h
  obtain⟨hu,he⟩:=(hE.ty T _ hT).dC
  have c9:=l9 (P:=P) hE he X.w
  have hzr:=Ux (P:=P) hE he X.w
  have C5:=tc X (.arr n t)
  obtain⟨y,jZ,cells,k1,k2,k3⟩:=Oa (pl:=fun i=>some (i*t.cells,t.cells)) hr (fun i ft cj hb=>by
   simp only[Ty.at_,Option.some.injEq] at cj
   subst cj
   have hb:i+1<=n:=by simpa [Ty.lv] using hb
   exact⟨⟨hb,by simp [Ty.fa]⟩,by simp [Ty.off]⟩) parts.toList (El.bU (.arr n t)) [] (zp (.arr n t)).toArray (by simpa using C5) h
  cases k1
  have hy:List.length y=n:=k3.1
  have eU:cells.size=n*t.cells:=by have:=k3.2.1;simpa using this
  have hn:n<=n*t.cells:=Nat.le_mul_of_pos_right n hk
  let Y:=X.new cells e (.row (.c (o.dst.getD 0) 0 []) (n*t.cells)) X.β
  have xS:fj s X Y:=Rm X s cells e _ _ rfl (fun _ _ _=>rfl)
  obtain⟨n1,n2⟩:=Rc X cells e (.row (.c (o.dst.getD 0) 0 []) (n*t.cells)) X.β
  refine⟨Y,.slice (some ⟨X.w.heap.size,0,none⟩) n n,.inl ?_,xS.ext,?_⟩
  ·have hcz:(Array.map (fun x=>(eb t (zp t)).cells[x % (eb t (zp t)).cells.size]!) (Array.range (n*t.cells)))=(zp (.arr n t)).toArray:=by
    apply Array.ext'
    rw[vZ (tc X t),aix n hk]
    rfl
   have lu:(parts.map fun(i,x)=>(i,a.eval x)).toList=parts.toList.map fun p=>(p.1,a.eval p.2):=by simp
   by_cases hn0:n*t.cells=0
   ·have aao:n=0:=by
     rcases Nat.mul_eq_zero.1 hn0 with h0|h0
     ·exact h0
     ·omega
    subst aao
    have k2':Instr.fill (fun i=>some (i*t.cells,t.cells)) #[] (parts.toList.map fun p=>(p.1,a.eval p.2))=some cells:=k2
    have apX:(parts.map fun x=>(x.1,a.eval x.2)).toList=parts.toList.map fun p=>(p.1,a.eval p.2):=by simp
    simp [execOp,ho,Instr.buildSlice,run_underlying hu,c9,newRow,Y,ax.new]
    rw[show(Array.map (fun x=>default) (Array.range 0):Array Value)= #[] by simp,k2']
    simp
   ·have hc:=hcz
    simp [execOp,ho,Instr.buildSlice,run_underlying hu,c9,hzr,hn0,newRow,Y,ax.new,Nat.not_lt.2 vd]
    rw[hcz,k2]
    simp
  ·refine(hr.dF xS).fin ?_ (fun id t p hm=>by simp at hm)
   refine⟨[.slice (some ⟨X.w.heap.size,0,none⟩) n n],?_,rfl,PR ?_⟩
   ·rw[<-hy]
    refine zj3 (pl:= .c (o.dst.getD 0) 0 []) (cur:=cells) (cs:=cells.toList) n1 (by rw[hy];exact n2) ?_ ?_ (Nat.le_refl _)
    ·rw[hy,List.take_of_length_le (by simp [eU])]
    ·rw[hy];exact k3.ai (fun _ _=>xS.ay)
   ·refine .inr ⟨X.w.heap.size,n,cells,by rw[hy],n1,by rw[hy];exact Nat.le_refl _,?_,eU,by rw[hy];exact n2⟩
    simp only[maxLen]
    omega
end Go.Ref

