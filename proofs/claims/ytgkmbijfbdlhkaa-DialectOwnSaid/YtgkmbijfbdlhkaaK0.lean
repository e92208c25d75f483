/- No condition. -/
import Derived.Orders
import Derived.Below
import Derived.Maps.AppendAt
import Derived.WalkKit
import Derived.Lib.AppendStr
import Derived.Shelf.Strings.BuilderF
import Derived.WideKeyRuns
import Derived.MapKept
import Derived.Laws.CopyRow
set_option linter.unusedVariables false
set_option linter.unusedSimpArgs false
set_option maxRecDepth 100000
namespace Go.Ref
open Go
structure ky(T e:TypeId)(b:Nat)(v:Value)(bs:List Value)(w:World):Prop where
 fQ:w.heap[b]? =some (.cells #[.pointer none,v] T (0,0))\/w.heap[b]? =some (.cells #[.pointer (some ⟨b,0,none⟩),v] T (0,0))
 own:w.ownsRow 0 e 1 v bs.length bs
 ne:v.ownBlock≠some b
theorem ky.lt{T e:TypeId}{b:Nat}{v:Value}{bs:List Value}{w:World}(h:ky T e b v bs w):b<w.heap.size:=by
 rcases Nat.lt_or_ge b w.heap.size with h'|h'
 ·exact h'
 ·rcases h.fQ with h|h<;>simp [Array.getElem?_eq_none h'] at h
theorem ky.same{T e:TypeId}{b:Nat}{v:Value}{bs:List Value}{w w':World}(h:ky T e b v bs w)(hb:w'.heap[b]? =w.heap[b]?)(hg:∀g o,v.ownBlock=some g->w.heap[g]? =some o->w'.heap[g]? =some o):ky T e b v bs w':=by
 refine⟨by rw[hb];exact h.fQ,⟨h.own.1,?_⟩,h.ne⟩
 rcases h.own.2 with hn|⟨g,cap,cur,hv,h0,j6,rest⟩
 ·exact .inl hn
 ·exact .inr ⟨g,cap,cur,hv,h0,hg g _ (by rw[hv];rfl) j6,rest⟩
inductive oR where
 |iter
 |mp
 |row
 |dD (n:Nat)
 |gp (T e:Nat)
 |own
 |kA (f:Nat)
 deriving DecidableEq,Inhabited
@[reducible] def iy:oR->Type->Type->Type
  | .iter,_,_=>ByteArray×Nat
  | .mp,a,b=>List (a×b)
  | .row,a,_=>List a
  | .dD _,_,_=>Unit
  | .gp _ _,_,_=>ByteArray
  | .own,a,_=>Option a
  | .kA _,_,_=>Unit
def iy.aM:(k:oR)->(a b:Type)->iy k a b
 | .iter,_,_=>((⟨#[]⟩:ByteArray),(0:Nat))
 | .mp,_,_=>[]
 | .row,_,_=>[]
 | .dD _,_,_=>()
 | .gp _ _,_,_=>(⟨#[]⟩:ByteArray)
 | .own,_,_=>none
 | .kA _,_,_=>()
inductive Ty where
 |bool
 |int (k:IntKind)
 |str
 |sl (e:TypeId) (t:Ty)
 |aK (n:Nat) (t:Ty)
 |unit
 |pair (a b:Ty)
 |aF (k:oR) (a b:Ty)
 deriving Inhabited
@[reducible] def El:Ty->Type
  | .bool=>Bool
  | .int _=>Int
  | .str=>ByteArray
  | .sl _ t=>List (El t)
  | .aK _ t=>List (El t)
  | .unit=>Unit
  | .pair a b=>El a×El b
  | .aF k a b=>iy k (El a) (El b)
def El.aM:(t:Ty)->El t
 | .bool=>false
 | .int _=>(0:Int)
 | .str=>(⟨#[]⟩:ByteArray)
 | .sl _ _=>[]
 | .aK n t=>List.replicate n (El.aM t)
 | .unit=>()
 | .pair a b=>(El.aM a,El.aM b)
 | .aF k a b=>iy.aM k (El a) (El b)
def Ty.aX:Ty->Ty->Bool
 | .bool,.bool=>true
 | .str,.str=>true
 | .unit,.unit=>true
 | .int j,.int k=>decide (j=k)
 | .sl e t,.sl f u=>Nat.beq e f&&Ty.aX t u
 | .aK n t,.aK m u=>Nat.beq n m&&Ty.aX t u
 | .pair a b,.pair c d=>Ty.aX a c&&Ty.aX b d
 | .aF k a b,.aF j c d=>decide (k=j)&&(Ty.aX a c&&Ty.aX b d)
 |_,_=>false
theorem Ty.av:∀{t u:Ty},t.aX u=true->t=u:=by
 intro t
 induction t with
 |bool=>intro u h;cases u<;>simp_all [Ty.aX]
 |int k=>intro u h;cases u<;>simp_all [Ty.aX]
 |str=>intro u h;cases u<;>simp_all [Ty.aX]
 |unit=>intro u h;cases u<;>simp_all [Ty.aX]
 |sl e t ih=>
  intro u h
  cases u<;>simp [Ty.aX] at h
  obtain⟨h1,h2⟩:=h
  rw[ih h2,h1]
 |aK e t ih=>
  intro u h
  cases u<;>simp [Ty.aX] at h
  obtain⟨h1,h2⟩:=h
  rw[ih h2,h1]
 |pair a b ep er=>
  intro u h
  cases u<;>simp [Ty.aX] at h
  rw[ep h.1,er h.2]
 |aF k a b ep er=>
  intro u h
  cases u<;>simp [Ty.aX] at h
  rw[h.1,ep h.2.1,er h.2.2]
theorem Ty.aO:∀t:Ty,t.aX t=true
 | .bool=>rfl
 | .str=>rfl
 | .unit=>rfl
 | .int k=>by simp [Ty.aX]
 | .sl e t=>by simp [Ty.aX,Ty.aO t]
 | .aK e t=>by simp [Ty.aX,Ty.aO t]
 | .pair a b=>by simp [Ty.aX,Ty.aO a,Ty.aO b]
 | .aF k a b=>by simp [Ty.aX,Ty.aO a,Ty.aO b]
def Ty.cast{t u:Ty}(h:t.aX u=true)(x:El t):El u:=Ty.av h▸x
def Ty.cells:Ty->Nat
 | .aK n t=>n*t.cells
 | .unit=>0
 | .pair a b=>a.cells+b.cells
 | .aF _ _ _=>0
 |_=>1
def Ty.agg:Ty->Bool
 | .aK .. | .unit| .pair .. | .aF .. =>true
 |_=>false
def Ty.at_:Ty->List Nat->Option Ty
 |t,[]=>some t
 | .aK _ t,_::p=>t.at_ p
 | .pair a _,0::p=>a.at_ p
 | .pair _ b,(j+1)::p=>b.at_ (j::p)
 |_,_=>none
def Ty.off:Ty->List Nat->Nat
 |_,[]=>0
 | .aK _ t,i::p=>i*t.cells+t.off p
 | .pair a _,0::p=>a.off p
 | .pair a b,(j+1)::p=>a.cells+b.off (j::p)
 |_,_=>0
def El.get:(t:Ty)->List Nat->El t->Option ((u:Ty)×El u)
 |t,[],x=>some ⟨t,x⟩
 | .aK _ t,i::p,xs=>El.get t p (xs.getD i (El.aM t))
 | .pair a _,0::p,x=>El.get a p x.1
 | .pair _ b,(j+1)::p,x=>El.get b (j::p) x.2
 |_,_::_,_=>none
def El.set:(t:Ty)->List Nat->El t->(u:Ty)->El u->Option (El t)
 |t,[],_,u,y=>if h:u.aX t=true then some (Ty.cast h y) else none
 | .aK _ t,i::p,xs,u,y=>(El.set t p (xs.getD i (El.aM t)) u y).map fun z=>List.set xs i z
 | .pair a _,0::p,x,u,y=>(El.set a p x.1 u y).map fun z=>(z,x.2)
 | .pair _ b,(j+1)::p,x,u,y=>(El.set b (j::p) x.2 u y).map fun z=>(x.1,z)
 |_,_::_,_,_,_=>none
def Ty.b5:Ty->List Nat->Prop
 |_,[]=>True
 | .aK n t,i::p=>i<n/\t.b5 p
 | .pair a _,0::p=>a.b5 p
 | .pair _ b,(j+1)::p=>b.b5 (j::p)
 |_,_=>False
inductive Place where
 |c (i j:Nat) (p:List Nat)
 |b (id:Nat) (p:List Nat)
 |r (j:Nat) (p:List Nat)
inductive Ow where
 |all
 |ro (n:Nat)
 |box (id:Nat)
 |row (pl:Place) (n:Nat)
def Ow.used:Ow->Nat->Prop
 | .all,_=>True
 | .ro n,o=>o<n
 | .box _,_=>False
 | .row _ n,o=>o<n
def Ow.still:Ow->Prop
 | .all| .ro _=>True
 |_=>False
structure ag where
 w:World
 ow:Nat->Ow
 β:Nat->Option Nat
def ag.ai(X:ag)(a:Addr)(v:Value):Prop:=a.spot=none/\X.w.cell? a=some v/\(X.ow a.block).used a.off
structure Ext(X Y:ag):Prop where
 ai:∀a v,X.ai a v->Y.ai a v
 size:X.w.heap.size<=Y.w.heap.size
 os:Y.w.os=X.w.os
 tape:Y.w.tape=X.w.tape
 output:Y.w.output=X.w.output
 β0:Y.β 0=X.β 0
 still:∀g,g<X.w.heap.size->(X.ow g).still->Y.ow g=X.ow g/\Y.w.heap[g]? =X.w.heap[g]?
theorem Ext.refl(X:ag):Ext X X:=⟨fun _ _ h=>h,Nat.le_refl _,rfl,rfl,rfl,rfl,fun _ _ _=>⟨rfl,rfl⟩⟩
theorem Ext.trans{X Y Z:ag}(h:Ext X Y)(k:Ext Y Z):Ext X Z:=
 ⟨fun a v hs=>k.ai a v (h.ai a v hs),Nat.le_trans h.size k.size,k.os.trans h.os,k.tape.trans h.tape,k.output.trans h.output,k.β0.trans h.β0,
  fun g hg bm=>by
   obtain⟨h1,h2⟩:=h.still g hg bm
   obtain⟨k1,k2⟩:=k.still g (Nat.lt_of_lt_of_le hg h.size) (by rw[h1];exact bm)
   exact⟨k1.trans h1,k2.trans h2⟩⟩
theorem ag.ew{X:ag}{a:Addr}{v:Value}(h:X.ai a v):a.block<X.w.heap.size:=World.block_lt_of_cell? X.w a h.2.1
def az(X:ag):(t:Ty)->El t->List Value->Prop
 | .bool,b,cs=>cs=[.bool b]
 | .int k,n,cs=>cs=[.int k n]
 | .str,s,cs=>cs=[.string s]
 | .sl _ t,xs,cs=>∃A c,cs=[.slice A xs.length c]/\xs.length<=c/\
    ∀j x,xs[j]? =some x->∃ad bS,A=some ad/\ad.spot=none/\az X t x bS/\∀i v,bS[i]? =some v->X.ai (ad.add (j*t.cells+i)) v
 | .aK n t,xs,cs=>xs.length=n/\cs.length=n*t.cells/\∀j x,xs[j]? =some x->az X t x ((cs.drop (j*t.cells)).take t.cells)
 | .unit,_,cs=>cs=[]
 | .pair a b,x,cs=>∃c1 c2,cs=c1++c2/\az X a x.1 c1/\az X b x.2 c2
 | .aF _ _ _,_,cs=>cs=[]
theorem az.af{X Y:ag}(h:∀a v,X.ai a v->Y.ai a v):∀{t:Ty} {x:El t} {cs:List Value},az X t x cs->az Y t x cs
 | .bool,_,_,hr=>hr
 | .int _,_,_,hr=>hr
 | .str,_,_,hr=>hr
 | .unit,_,_,hr=>hr
 | .sl _ t,xs,cs,⟨A,c,h1,h2,h3⟩=>⟨A,c,h1,h2,fun j x hj=>by
    obtain⟨ad,bS,h4,h5,h6,h7⟩:=h3 j x hj
    exact⟨ad,bS,h4,h5,az.af h h6,fun i v hi=>h _ _ (h7 i v hi)⟩⟩
 | .aK n t,xs,cs,⟨h1,h2,h3⟩=>⟨h1,h2,fun j x hj=>az.af h (h3 j x hj)⟩
 | .pair a b,x,cs,⟨c1,c2,h1,h2,h3⟩=>⟨c1,c2,h1,az.af h h2,az.af h h3⟩
 | .aF _ _ _,_,_,hr=>hr
theorem az.mono{X Y:ag}(h:Ext X Y){t:Ty}{x:El t}{cs:List Value}(hr:az X t x cs):az Y t x cs:=az.af h.ai hr
theorem az.len{X:ag}:∀{t:Ty} {x:El t} {cs:List Value},az X t x cs->cs.length=t.cells
 | .bool,_,_,hr=>by cases hr;rfl
 | .int _,_,_,hr=>by cases hr;rfl
 | .str,_,_,hr=>by cases hr;rfl
 | .unit,_,_,hr=>by cases hr;rfl
 | .sl _ t,xs,cs,⟨A,c,h1,_⟩=>by cases h1;rfl
 | .aK n t,xs,cs,⟨h1,h2,h3⟩=>h2
 | .pair a b,x,cs,⟨c1,c2,h1,h2,h3⟩=>by rw[h1,List.length_append,h2.len,h3.len];rfl
 | .aF _ _ _,_,_,hr=>by cases hr;rfl
theorem xF{cs:List Value}{n k:Nat}{u:Value}(hu:u∈cs)(hk:cs.length=n*k):∃j,j<n/\u∈(cs.drop (j*k)).take k:=by
 obtain⟨q,hq,rfl⟩:=List.mem_iff_getElem.1 hu
 have l4:0<k:=by
  rcases Nat.eq_zero_or_pos k with h|h
  ·subst h;simp at hk;subst hk;simp at hq
  ·exact h
 refine⟨q/k,by rw[Nat.div_lt_iff_lt_mul l4,<-hk];exact hq,?_⟩
 rw[List.mem_iff_getElem?]
 refine⟨q % k,?_⟩
 rw[List.getElem?_take,if_pos (Nat.mod_lt _ l4),List.getElem?_drop,Nat.mul_comm,Nat.div_add_mod,List.getElem?_eq_getElem hq]
theorem az.one{X:ag}:∀{t:Ty} {x:El t} {cs:List Value},az X t x cs->∀u∈cs,u.oneCell'=true
 | .bool,_,_,hr,u,hu=>by cases hr;simp at hu;subst hu;rfl
 | .int _,_,_,hr,u,hu=>by cases hr;simp at hu;subst hu;rfl
 | .str,_,_,hr,u,hu=>by cases hr;simp at hu;subst hu;rfl
 | .unit,_,_,hr,u,hu=>by cases hr;simp at hu
 | .sl _ t,xs,cs,⟨A,c,h1,_⟩,u,hu=>by cases h1;simp at hu;subst hu;rfl
 | .aK n t,xs,cs,⟨h1,h2,h3⟩,u,hu=>by
   obtain⟨j,hj,hm⟩:=xF hu h2
   exact az.one (h3 j _ (List.getElem?_eq_getElem (by omega))) u hm
 | .pair a b,x,cs,⟨c1,c2,h1,h2,h3⟩,u,hu=>by
   rw[h1] at hu
   rcases List.mem_append.1 hu with hu|hu
   ·exact h2.one u hu
   ·exact h3.one u hu
 | .aF _ _ _,_,_,hr,u,hu=>by cases hr;simp at hu
end Go.Ref

namespace Go.Ref
open Go Go.Shelf Go.RowKit Go.Proofs
variable {P:Program} {ρ:Ren}
structure gf(b:Nat)(g:Option Nat)(w w':World):Prop where
 os:w'.os=w.os
 tape:w'.tape=w.tape
 output:w'.output=w.output
 size:w.heap.size<=w'.heap.size
 block:∀k,k<w.heap.size->k≠b->some k≠g->w'.heap[k]? =w.heap[k]?
theorem gf.of{b:Nat}{g:Option Nat}{w w':World}(h:w.grownBy w' g):gf b g w w':=⟨h.os,h.tape,h.output,h.size,fun k hk _ hg=>h.block k hk hg⟩
theorem gf.trans{b:Nat}{g:Option Nat}{u v w:World}(h:gf b g u v)(k:gf b g v w):gf b g u w:=
 ⟨k.os.trans h.os,k.tape.trans h.tape,k.output.trans h.output,Nat.le_trans h.size k.size,fun i hi h1 h2=>(k.block i (Nat.lt_of_lt_of_le hi h.size) h1 h2).trans (h.block i hi h1 h2)⟩
theorem gf.refl{b:Nat}{g:Option Nat}(w:World):gf b g w w:=⟨rfl,rfl,rfl,Nat.le_refl _,fun _ _ _ _=>rfl⟩
set_option maxHeartbeats 2000000 in
set_option maxRecDepth 100000 in
theorem gf.drew{b:Nat}{g:Option Nat}(w:World):gf b g w w.drew:=⟨rfl,rfl,rfl,Nat.le_refl _,fun _ _ _ _=>rfl⟩
theorem gf.alloc{b:Nat}{g:Option Nat}(w:World)(o:Obj):gf b g w (w.alloc o):=⟨rfl,rfl,rfl,by simp,fun k hk _ _=>Below.heap_alloc _ _ _ hk⟩
end Go.Ref

namespace Go.Ref
open Go
inductive SV where
 |undef
 |skip
 |bc
 |cH
 |aj (t:Ty) (x:El t) (own:List (List Nat))
 |ptr (id:Nat) (t:Ty) (p:List Nat)
 |view (t:Ty) (x:El t)
 |cap (f:Nat) (t:Ty) (x:El t) (u:Ty) (y:El u)
 |over
def Ty.fH:Ty->Bool
 | .aF (.gp _ _) _ _=>false
 | .aF _ _ _=>true
 |_=>false
def Ty.aI:Ty->Bool
 | .aF _ _ _=>true
 |_=>false
structure aH where
 t:Ty
 x:El t
 own:List (List Nat)
structure State where
 sl:List (List SV)
 bs:List (Option aH)
structure Env where
 ty:TypeId->Option Ty
 bytes:TypeId->Nat
 pt:TypeId->Bool
 bP:Nat->List Nat
 dR:Nat->List Nat
 outs:List Nat
 ps:List Ty
 mp:TypeId->Option (TypeId×TypeId):=fun _=>none
 join:Nat->Option (List Nat):=fun _=>none
 fz:Nat->Option (Nat×TypeId):=fun _=>none
 dr:Nat->List Nat:=fun _=>[]
 sh:List Nat:=[]
 ro:Bool:=false
 mv:List Nat:=[]
 fr:Nat->List Nat:=fun _=>[]
 bl:TypeId->Option TypeId:=fun _=>none
 sp:Option (Nat×Nat×Nat×Nat):=none
def Ty.cB:Ty->Bool
 | .unit=>true
 | .pair (.int _) b=>b.cB
 |_=>false
def Ty.isKey:Ty->Bool
 | .bool| .int _| .str=>true
 | .pair a b=>(Ty.pair a b).cB
 |_=>false
def hP:(t:Ty)->El t->El t->Bool
 | .pair (.int _) b,x,y=>decide (x.1=y.1)&&hP b x.2 y.2
 |_,_,_=>true
def fj:(t:Ty)->El t->El t->Bool
 | .bool,x,y=>decide (x=y)
 | .int _,x,y=>decide (x=y)
 | .str,x,y=>decide (x=y)
 | .pair a b,x,y=>hP (.pair a b) x y
 |_,_,_=>false
def dG{K V:Type}(eq:K->K->Bool)(d:V):List (K×V)->K->V
 | [],_=>d
 |q::r,k=>bif eq k q.1 then q.2 else dG eq d r k
def dH{K V:Type}(eq:K->K->Bool):List (K×V)->K->Bool
 | [],_=>false
 |q::r,k=>bif eq k q.1 then true else dH eq r k
section
variable {R:Type}
abbrev aJ(R:Type):=List SV->Option aH->(List SV->Option aH->Option R)->Option R
def SV.el(s:SV)(u:Ty)(K:El u->Option R):Option R:=
 match s with
 | .aj t x _=>if h:t.aX u=true then K (Ty.cast h x) else none
 | .bc=>match u with
   | .sl _ _=>K []
   |_=>none
 |_=>none
def jG:Value->SV
 | .bool b=> .aj .bool b []
 | .int k n=> .aj (.int k) n []
 | .string s=> .aj .str s []
 | .slice none 0 0=> .bc
 | .pointer none=> .cH
 |_=> .undef
def State.slot(s:State)(t:Nat):List SV:=s.sl.getD t [.undef]
def State.iS(s:State):Operand->List SV
 | .tmp t=>s.slot t
 | .const v=>[jG v]
 |_=>[.undef]
def one:List SV->SV
 | [x]=>x
 |_=> .undef
def State.ak(s:State)(x:Operand):SV:=one (s.iS x)
def State.box(s:State)(id:Nat):Option aH:=(s.bs.getD id none)
def SV.shut:SV->SV
 | .aj t x _=> .aj t x []
 |v=>v
def SV.own:SV->List (List Nat)
 | .aj _ _ o=>o
 | .bc=>[[]]
 |_=>[]
def aP:List SV->Nat->List SV
 | [],_=>[]
 |v::r,0=>v.shut::r
 |v::r,j+1=>v::aP r j
structure Out where
 v:List SV
 bx:Option (Nat×aH):=none
 cl:List (Nat×Nat):=[]
def State.close(s:State):List (Nat×Nat)->State
 | []=>s
 |(i,j)::r=>State.close {s with sl:=s.sl.set i (aP (s.slot i) j)} r
def State.ao(s:State):Option (Nat×aH)->State
 |some (id,B)=>{s with bs:=s.bs.set id (some B)}
 |none=>s
def State.ar(s:State):Option Nat->List SV->State
 |some d,v=>{s with sl:=s.sl.set d v}
 |none,_=>s
def State.apply(s:State)(dst:Option Nat)(o:Out):State:=((s.close o.cl).ao o.bx).ar dst o.v
def hH:Operand->Option Nat
 | .tmp t=>some t
 |_=>none
def src:Operand->List (Nat×Nat)
 | .tmp t=>[(t,0)]
 |_=>[]
def eS(op:BinOp)(k:IntKind)(a b:Int):Int:=
 match op with
 | .and=>k.wrap ((BitVec.ofInt k.bits a&&&BitVec.ofInt k.bits b).toNat:Nat)
 | .or=>k.wrap ((BitVec.ofInt k.bits a|||BitVec.ofInt k.bits b).toNat:Nat)
 | .xor=>k.wrap ((BitVec.ofInt k.bits a^^^BitVec.ofInt k.bits b).toNat:Nat)
 |_=>k.wrap ((BitVec.ofInt k.bits a&&& ~~~ BitVec.ofInt k.bits b).toNat:Nat)
def bA:(t:Ty)->El t->El t->Option Bool
 | .bool,x,y=>some (x==y)
 | .int _,x,y=>some (decide (x=y))
 | .str,x,y=>some (decide (x=y))
 | .unit,_,_=>some true
 | .aK _ (.int _),x,y=>some (decide ((x:List Int)=y))
 | .pair a b,x,y=>match bA a x.1 y.1,bA b x.2 y.2 with
   |some p,some q=>some (p&&q)
   |_,_=>none
 |_,_,_=>none
def i64(n:Int):List SV:=[.aj (.int .i64) n []]
def bl(b:Bool):List SV:=[.aj .bool b []]
def fO(op:BinOp)(k:IntKind)(a:Int)(k':IntKind)(b:Int)(K:List SV->Option R):Option R:=
 match op with
 | .shl=>bif decide (b<0) then none else K [.aj (.int k) (k.wrap (a*2^min b.toNat k.bits)) []]
 | .shr=>bif decide (b<0) then none else K [.aj (.int k) (a.fdiv (2^min b.toNat k.bits)) []]
 |_=>if k=k' then
  match op with
  | .add=>K [.aj (.int k) (k.wrap (a+b)) []]
  | .sub=>K [.aj (.int k) (k.wrap (a-b)) []]
  | .mul=>K [.aj (.int k) (k.wrap (a*b)) []]
  | .quo=>bif decide (b=0) then none else K [.aj (.int k) (k.wrap (a.tdiv b)) []]
  | .rem=>bif decide (b=0) then none else K [.aj (.int k) (a.tmod b) []]
  | .and| .or| .xor| .andNot=>K [.aj (.int k) (eS op k a b) []]
  | .eql=>K (bl (decide (a=b)))
  | .neq=>K (bl (!decide (a=b)))
  | .lss=>K (bl (decide (a<b)))
  | .leq=>K (bl (decide (a<=b)))
  | .gtr=>K (bl (decide (b<a)))
  | .geq=>K (bl (decide (b<=a)))
  |_=>none
  else none
def fP(op:BinOp)(a b:ByteArray)(K:List SV->Option R):Option R:=
 match op with
 | .add=>bif decide (a.size+b.size<=9223372036854775807) then K [.aj .str (a++b) []] else none
 | .eql=>K (bl (decide (a=b)))
 | .neq=>K (bl (!decide (a=b)))
 | .lss=>K (bl (Op.bytesLess a.toList b.toList))
 | .leq=>K (bl (Op.bytesLess a.toList b.toList||decide (a=b)))
 | .gtr=>K (bl (!(Op.bytesLess a.toList b.toList||decide (a=b))))
 | .geq=>K (bl (!(Op.bytesLess a.toList b.toList)))
 |_=>none
def Ty.depth:Ty->Nat
 | .aK _ t=>t.depth+1
 | .pair a b=>max (a.depth+1) b.depth
 |_=>1
def fN(E:Env)(op:BinOp)(T:TypeId)(x y:SV)(K:List SV->Option R):Option R:=
 match E.ty T with
 |some t=>if Nat.ble t.depth 1000=false then none else x.el t fun a=>y.el t fun b=>match bA t a b with
  |some r=>match op with
   | .eql=>K (bl r)
   | .neq=>K (bl (!r))
   |_=>none
  |none=>none
 |none=>none
def bin(E:Env)(op:BinOp)(T:TypeId)(x y:SV)(K:List SV->Option R):Option R:=
 match x,y with
 | .aj (.int k) a _,.aj (.int k') b _=>fO op k a k' b K
 | .aj .str a _,.aj .str b _=>fP op a b K
 | .ptr _ t _,.cH=>if(t.aI|| !E.pt T)=true then none else match op with
   | .eql=>K (bl false)
   | .neq=>K (bl true)
   |_=>none
 | .cH,.cH=>if E.pt T=false then none else match op with
   | .eql=>K (bl true)
   | .neq=>K (bl false)
   |_=>none
 |x,y=>fN E op T x y K
def sn(s:ByteArray)(i:Nat):Int:=if h:i<s.size then((s[i]'h).toNat:Int) else 0
def strOf(xs:List Int):ByteArray:=⟨(xs.map fun x=>UInt8.ofNat x.toNat).toArray⟩
def zc(i:Int)(n:Nat)(K:Option R):Option R:=bif decide (0<=i) then bif decide (i<(n:Int)) then K else none else none
def jh(lo:Option SV)(h:Nat)(K:Nat->Option R):Option R:=
 match lo with
 |none=>K 0
 |some v=>v.el (.int .i64) fun l=>bif decide (0<=l) then bif decide (l<=(h:Int)) then K l.toNat else none else none
def cutAt(lo hi:Option SV)(n:Nat)(K:Nat->Nat->Option R):Option R:=
 match hi with
 |none=>jh lo n fun l=>K l n
 |some v=>v.el (.int .i64) fun h=>bif decide (0<=h) then bif decide (h<=(n:Int)) then jh lo h.toNat (fun l=>K l h.toNat) else none else none
def Ty.dF:Ty->Nat->Bool
 | .aK n _,i=>Nat.ble (i+1) n
 |_,_=>true
def jf(own:List (List Nat))(p:List Nat):List (List Nat):=own.filter fun q=> !(p.isPrefixOf q)
def fc(own:List (List Nat))(p:List Nat):Bool:=own.any fun q=>q==p
def ng(own:List (List Nat))(p:List Nat):List (List Nat):=(own.filter fun q=>p.isPrefixOf q).map fun q=>q.drop p.length
def jT:List Nat->Option (List Nat)
 | []=>none
 |j::p=>some ((j+1)::p)
def jd:Ty->List (List Nat)
 | .sl _ _=>[[]]
 | .pair a b=>(jd a).map (fun p=>0::p)++(jd b).filterMap jT
 |_=>[]
def ga(t:Ty):El t->List (List Nat)->List (Nat×SV×List (List Nat))->(El t->List (List Nat)->Option R)->Option R
 |x,own,[],K=>K x own
 |x,own,(i,v,ov)::r,K=>if t.dF i=false then none else match t.at_ [i] with
  |some u=>v.el u fun y=>match El.set t [i] x u y with
   |some z=>ga t z (ov.map (fun p=>i::p)++jf own [i]) r K
   |none=>none
  |none=>none
def z20(o:List (List Nat))(x:Operand):List (Nat×Nat):=
 match o with
 | []=>[]
 |_::_=>src x
def zt:State->List (Nat×Operand)->List (Nat×SV×List (List Nat))×List (Nat×Nat)
 |_,[]=>([],[])
 |s,(i,x)::r=>((i,s.ak x,(s.ak x).own)::(zt (s.close (z20 (s.ak x).own x)) r).1,z20 (s.ak x).own x++(zt (s.close (z20 (s.ak x).own x)) r).2)
def jJ(t:Ty):List (El t)->List (Nat×SV)->(List (El t)->Option R)->Option R
 |xs,[],K=>K xs
 |xs,(i,v)::r,K=>if Nat.ble (i+1) xs.length=false then none else v.el t fun y=>jJ t (xs.set i y) r K
def z72(ops:List Oper)(d:Option Nat):Bool:=
 match d with
 |some d=>ops.any fun o=>match o.op with
  | .call ⟨.builtin .append,args,_⟩=>match args.toList with
    | .tmp t::_=>Nat.beq t d
    |_=>false
  |_=>false
 |none=>false
def vK(ops:List Oper)(d:Option Nat):Bool:=
 match d with
 |some d=>ops.any fun o=>match o.op,o.dst with
  | .indexAddr _ (.tmp t) _,some a=>Nat.beq t d&&ops.any fun q=>match q.op with
    | .store _ (.tmp b) _=>Nat.beq a b
    |_=>false
  |_,_=>false
 |none=>false
def jx(E:Env)(ops:List Oper)(d:Option Nat):Bool:=
 match d with
 |some d=>ops.any fun o=>match o.op with
  | .store _ (.tmp r) (.tmp t)=>Nat.beq t d&&E.outs.any (Nat.beq r)
  |_=>false
 |none=>false
def kq(u':Ty)(s:State)(id:Nat)(t:Ty)(p:List Nat)(K:Out->Option R):Option R:=
 match t,p with
 | .aF .row a b,[i]=>match s.box id with
   |some B=>if h:B.t.aX (.aF .row a b)=true then if u'.aX a=true then
     bif Nat.ble (i+1) (List.length (Ty.cast h B.x:List (El a))) then K {v:=[.aj a (List.getD (Ty.cast h B.x:List (El a)) i (El.aM a)) []]} else none
    else none else none
   |none=>none
 |_,_=>none
def kp(u:Ty)(s:State)(id:Nat)(t:Ty)(p:List Nat)(v:SV)(K:Out->Option R):Option R:=
 match t,p with
 | .aF .row a b,[i]=>match s.box id with
   |some B=>if h:B.t.aX (.aF .row a b)=true then if a.aX u=true then
     v.el a fun y=>bif Nat.ble (i+1) (List.length (Ty.cast h B.x:List (El a))) then K {v:=[.skip],bx:=some (id,⟨.aF .row a b,(List.set (Ty.cast h B.x:List (El a)) i y:List (El a)),[]⟩)} else none
    else none else none
   |none=>none
 |_,_=>none
def mX(t:Ty)(n:Int)(id:Nat)(r:Ty)(p:List Nat)(K:Out->Option R):Option R:=
 match r,p with
 | .aF (.dD m) a b,[]=>if a.aX t=true then zc n m (K {v:=[.ptr id (.aF .row a b) [n.toNat]]}) else none
 |_,_=>none
def ld(u':Ty)(B:aH)(t:Ty)(p:List Nat)(K:Out->Option R):Option R:=
 match t,p with
 | .aK n e,[]=>if h:B.t.aX (.aF .row e .unit)=true then if u'.aX (.aK n e)=true then
    bif Nat.beq n (List.length (Ty.cast h B.x:List (El e))) then K {v:=[.aj (.aK n e) (Ty.cast h B.x:List (El e)) []]} else none
   else none else none
 |_,_=>none
def load(E:Env)(T:TypeId)(s:State)(la:Bool)(a:SV)(K:Out->Option R):Option R:=
 match E.ty T with
 |some u'=>match a with
  | .view t x=>if u'.aX t=true then K {v:=[.aj t x []]} else none
  | .ptr id t p=>if t.aI=true then kq u' s id t p K else match s.box id with
    |some B=>if B.t.aX t=true then
      match El.get B.t p B.x with
      |some ⟨u,y⟩=>if u'.aX u=true then
        bif la then K {v:=[.aj u y (ng B.own p)],bx:=some (id,{B with own:=jf B.own p})} else K {v:=[.aj u y []]}
       else none
      |none=>none
     else ld u' B t p K
    |none=>none
  |_=>none
 |none=>none
def store(E:Env)(T:TypeId)(s:State)(a:SV)(vo:Operand)(K:Out->Option R):Option R:=
 match E.ty T with
 |some u=>match a with
  | .ptr id t p=>if t.aI=true then kp u s id t p (s.ak vo) K else match s.box id with
    |some B=>if B.t.aX t=true then
      match t.at_ p with
      |some u'=>if u'.aX u=true then
        (s.ak vo).el u fun y=>match El.set B.t p B.x u y with
        |some z=>K {v:=[.skip],bx:=some (id,{t:=B.t,x:=z,own:=(s.ak vo).own.map (fun q=>p++q)++jf B.own p}),cl:=src vo}
        |none=>none
       else none
      |none=>none
     else none
    |none=>none
  |_=>none
 |none=>none
def Ty.bq:Ty->Bool
 | .pair .. =>true
 |_=>false
def nb(t?:Option Ty)(a:SV)(j:Nat)(K:Out->Option R):Option R:=
 match t?,a with
 |some u,.ptr id t p=>if t.aI=true then none else match t.at_ p with
  |some u'=>if(u.aX u'&&u.bq)=true then match u.at_ [j] with
    |some f=>if Nat.beq f.cells 0=true then none else K {v:=[.ptr id t (p++ [j])]}
    |none=>none
   else none
  |none=>none
 |some u,.view t x=>if(u.aX t&&u.bq)=true then match El.get t [j] x with
   |some ⟨f,y⟩=>if Nat.beq f.cells 0=true then none else K {v:=[.view f y]}
   |none=>none
  else none
 |_,_=>none
def SV.num(s:SV)(K:Int->Option R):Option R:=
 match s with
 | .aj (.int _) n _=>K n
 |_=>none
def nf(E:Env)(T:TypeId)(a i:SV)(K:Out->Option R):Option R:=
 i.num fun n=>match E.ty T,a with
  |some (.sl e t),.aj t' xs _=>(SV.aj t' xs []).el (.sl e t) fun ys=>zc n ys.length (K {v:=[.view t (List.getD ys n.toNat (El.aM t))]})
  |some (.aK m t),.ptr id r p=>if r.aI=true then none else match r.at_ p with
   |some u=>if u.aX (.aK m t)=true then zc n m (K {v:=[.ptr id r (p++ [n.toNat])]}) else none
   |none=>none
  |some (.aK m t),.view t' xs=>(SV.aj t' xs []).el (.aK m t) fun ys=>zc n m (K {v:=[.view t (List.getD ys n.toNat (El.aM t))]})
  |some (.sl _ t),.ptr id r p=>mX t n id r p K
  |_,_=>none
def z51(E:Env)(T:TypeId)(a i:SV)(K:Out->Option R):Option R:=
 i.num fun n=>match E.ty T with
  |some .str=>a.el .str fun s=>zc n s.size (K {v:=[.aj (.int .u8) (sn s n.toNat) []]})
  |some (.aK m t)=>a.el (.aK m t) fun ys=>zc n m (K {v:=[.aj t (List.getD ys n.toNat (El.aM t)) []]})
  |_=>none
def fS(E:Env)(T:TypeId)(a:SV)(lo hi:Option SV)(K:Out->Option R):Option R:=
 match E.ty T with
 |some .str=>a.el .str fun s=>cutAt lo hi s.size fun l h=>K {v:=[.aj .str (s.extract l h) []]}
 |some (.sl e t)=>a.el (.sl e t) fun xs=>cutAt lo hi (List.length xs) fun l h=>K {v:=[.aj (.sl e t) ((List.take h xs).drop l) []]}
 |_=>none
def m3(E:Env)(T U:TypeId)(bo:Operand)(b x:SV)(K:Out->Option R):Option R:=
 if Nat.beq T U=false then none else
 match E.ty T with
 |some (.sl e t)=>if(Nat.beq (E.bytes e) 0||Nat.beq t.cells 0)=true then none else match b with
  | .bc=>x.el (.sl e t) fun ys=>bif decide (List.length ys*E.bytes e<=140737488355328) then K {v:=[.aj (.sl e t) ys [[]]]} else none
  | .aj t' xs o=>if fc o []=false then none else(SV.aj t' xs o).el (.sl e t) fun xs=>x.el (.sl e t) fun ys=>
    bif decide ((List.length xs+List.length ys)*E.bytes e<=140737488355328) then K {v:=[.aj (.sl e t) (xs++ys:List (El t)) [[]]],cl:=src bo} else none
  |_=>none
 |_=>none
def gY(E:Env)(T:TypeId)(x:SV)(K:Out->Option R):Option R:=
 match E.ty T with
 |some .str=>x.el .str fun s=>K {v:=i64 (s.size:Int)}
 |some (.sl e t)=>match x with
  | .ptr _ (.aF (.dD n) _ _) []=>K {v:=i64 (n:Int)}
  |x=>x.el (.sl e t) fun xs=>K {v:=i64 (List.length xs:Int)}
 |some (.aK n _)=>K {v:=i64 (n:Int)}
 |_=>none
def dO(E:Env)(S T:TypeId)(x:SV)(K:Out->Option R):Option R:=
 match E.ty S,E.ty T with
 |some (.int k),some (.int k')=>x.el (.int k) fun n=>K {v:=[.aj (.int k') (k'.wrap n) []]}
 |some .str,some .str=>x.el .str fun s=>K {v:=[.aj .str s []]}
 |some (.sl e (.int .u8)),some .str=>x.el (.sl e (.int .u8)) fun xs=>K {v:=[.aj .str (strOf xs) []]}
 |_,_=>none
def di(E:Env)(S T:TypeId)(s:State)(id n:Nat)(a b:Ty)(K:Out->Option R):Option R:=
 match E.ty S,E.ty T with
 |some (.sl _ (.int .u8)),some .str=>if a.aX (.int .u8)=true then match s.box id with
  |some B=>if h:B.t.aX (.aF .row (.int .u8) b)=true then bif Nat.beq n (List.length (Ty.cast h B.x:List Int)) then K {v:=[.aj .str (strOf (Ty.cast h B.x:List Int)) []]} else none else none
  |none=>none else none
 |_,_=>none
def eV(E:Env)(T:TypeId):Option (Ty×Ty):=
 match E.mp T with
 |some (k,e)=>match E.ty k,E.ty e with
  |some kt,some vt=>if kt.isKey=true then some (kt,vt) else none
  |_,_=>none
 |none=>none
def dy(s:State)(dst:Option Nat)(t:Ty)(x:El t)(p:Ty)(K:Out->Option R):Option R:=
 match dst with
 |some d=>match s.bs[d+1]? with
  |some none=>K {v:=[.ptr (d+1) p []],bx:=some (d+1,⟨t,x,[]⟩)}
  |_=>none
 |none=>none
def iw(s:State)(m:SV)(kt vt:Ty)(K:Nat->List (El kt×El vt)->Option R):Option R:=
 match m with
 | .ptr id (.aF .mp p8 qv) []=>if((Ty.aF .mp p8 qv).aX (.aF .mp kt vt))=true then match s.box id with
   |some B=>if h:B.t.aX (.aF .mp kt vt)=true then K id (Ty.cast h B.x) else none
   |none=>none else none
 |_=>none
def dS(E:Env)(T:TypeId)(s:State)(m i:SV)(K:Out->Option R):Option R:=
 match eV E T with
 |some (kt,vt)=>iw s m kt vt fun _ xs=>i.el kt fun k=>K {v:=[.aj vt (dG (fj kt) (El.aM vt) xs k) []]}
 |none=>none
def eB(E:Env)(T:TypeId)(s:State)(m i v:SV)(K:Out->Option R):Option R:=
 match eV E T with
 |some (kt,vt)=>iw s m kt vt fun id xs=>i.el kt fun k=>v.el vt fun y=>bif dH (fj kt) xs k then none else K {v:=[.skip],bx:=some (id,⟨.aF .mp kt vt,(xs++ [(k,y)]:List (El kt×El vt)),[]⟩)}
 |none=>none
def du:Ty:= .aF .iter .unit .unit
def dU(s:State)(m:SV)(K:Out->Option R):Option R:=
 match m with
 | .ptr id (.aF .iter .unit .unit) []=>match s.box id with
   |some B=>if h:B.t.aX du=true then
     bif decide ((Ty.cast h B.x:ByteArray×Nat).2<(Ty.cast h B.x:ByteArray×Nat).1.size) then
      K {v:=[.aj .bool true [],.aj (.int .i64) ((Ty.cast h B.x:ByteArray×Nat).2:Int) [],.aj (.int .i32) ((Utf8.decode (Ty.cast h B.x:ByteArray×Nat).1 (Ty.cast h B.x:ByteArray×Nat).2).1:Int) []],
         bx:=some (id,⟨du,((Ty.cast h B.x:ByteArray×Nat).1,(Ty.cast h B.x:ByteArray×Nat).2+(Utf8.decode (Ty.cast h B.x:ByteArray×Nat).1 (Ty.cast h B.x:ByteArray×Nat).2).2),[]⟩)}
     else K {v:=[.over]}
    else none
   |none=>none
 |_=>none
def vv:Operand->Bool
 | .const _=>true
 |_=>false
def dT(E:Env)(T:TypeId)(s:State)(dst:Option Nat)(lo:Operand)(l c:SV)(K:Out->Option R):Option R:=
 match E.ty T with
 |some (.sl e t)=>if(Nat.beq (E.bytes e) 0||Nat.beq t.cells 0)=true then none else l.el (.int .i64) fun n=>c.el (.int .i64) fun m=>
  bif vv lo then
   bif decide (n=0) then bif decide (0<=m) then bif decide (m*E.bytes e<=140737488355328) then K {v:=[.aj (.sl e t) ([]:List (El t)) [[]]]} else none else none else none
  else bif decide (n=m) then bif decide (0<=n) then bif decide (n*E.bytes e<=140737488355328) then dy s dst (.aF .row t .unit) (List.replicate n.toNat (El.aM t):List (El t)) (.aF (.dD n.toNat) t .unit) K else none else none else none
 |_=>none
def mJ(op:UnOp)(x:SV)(K:Out->Option R):Option R:=
 match op,x with
 | .not,.aj .bool b _=>K {v:=bl (!b)}
 | .neg,.aj (.int k) n _=>K {v:=[.aj (.int k) (k.wrap (0-n)) []]}
 |_,_=>none
def eI(f:FuncId)(x:SV)(K:Out->Option R):Option R:=
 match x with
 | .ptr id u []=>if u.fH=true then none else K {v:=[.ptr id (.aF (.kA f) u .unit) []]}
 |_=>none
def gw(n id:Nat)(a b:Ty)(lo hi:Option SV)(K:Out->Option R):Option R:=
 match hi with
 |some _=>none
 |none=>jh lo n fun l=>K {v:=[.ptr id (.aF (.dD n) a b) [l]]}
def fR(E:Env)(T:TypeId)(s:State)(id n:Nat)(t:Ty)(lo hi:Option SV)(K:Out->Option R):Option R:=
 match E.ty T,lo,hi with
 |some u,none,none=>if u.aX (.aK n t)=true then match s.box id with
  |some B=>if h:B.t.aX (.aK n t)=true then K {v:=[.ptr id (.aF (.dD n) t .unit) []],bx:=some (id,⟨.aF .row t .unit,(Ty.cast h B.x:List (El t)),[]⟩)} else none
  |none=>none else none
 |_,_,_=>none
def lh(s:ByteArray):List Int:=s.data.toList.map fun c=>(c.toNat:Int)
def cI{α:Type}(xs ys:List α)(lo:Nat):List α:=xs.take lo++(ys++xs.drop (lo+ys.length))
def cD(t:Ty)(s:State)(id n lo:Nat)(a b:Ty)(x:SV)(e:TypeId)(K:Out->Option R):Option R:=
 if a.aX t=true then x.el (.sl e t) fun(ys:List (El t))=>match s.box id with
  |some B=>if h:B.t.aX (.aF .row t b)=true then
    bif Nat.beq n (List.length (Ty.cast h B.x:List (El t))) then bif Nat.ble lo n then
     K {v:=i64 ((ys.take (n-lo)).length:Int),bx:=some (id,⟨.aF .row t b,(cI (Ty.cast h B.x:List (El t)) (ys.take (n-lo)) lo:List (El t)),[]⟩)}
    else none else none
   else none
  |none=>none else none
def dj(t:Ty)(s:State)(id n:Nat)(a b:Ty)(y:ByteArray)(K:Out->Option R):Option R:=
 if t.aX (.int .u8)=true then if a.aX (.int .u8)=true then match s.box id with
  |some B=>if h:B.t.aX (.aF .row (.int .u8) b)=true then
    bif Nat.beq n (List.length (Ty.cast h B.x:List Int)) then
     K {v:=i64 ((List.take n (lh y)).length:Int),bx:=some (id,⟨.aF .row (.int .u8) b,(cI (Ty.cast h B.x:List Int) (List.take n (lh y)) 0:List Int),[]⟩)}
    else none
   else none
  |none=>none else none else none
def copyV(E:Env)(T:TypeId)(s:State)(d x:SV)(K:Out->Option R):Option R:=
 match E.ty T,d with
 |some (.sl e t),.ptr id (.aF (.dD n) a b) []=>(match x with
  | .aj .str y _=>dj t s id n a b y K
  |x=>cD t s id n 0 a b x e K)
 |some (.sl e t),.ptr id (.aF (.dD n) a b) [l]=>cD t s id n l a b x e K
 |_,_=>none
def my(t b:Ty):Bool:=
 b.aX t||(match t with
  | .aF (.kA _) u _=>b.aX u
  |_=>false)
def zx(s:State):List SV->Option (List SV×Option (Nat×aH))
 | []=>some ([],none)
 |v::r=>match zx s r with
  |none=>none
  |some (l,b)=>match v,b with
   | .aj t x _,b=>some (.aj t x []::l,b)
   | .bc,b=>some (.bc::l,b)
   | .view t x,b=>some (.view t x::l,b)
   | .ptr id t [],none=>match s.box id with
     |some B=>if my t B.t=true then some (.ptr 0 t []::l,some (id,B)) else none
     |none=>none
   |_,_=>none
def SV.cJ(id:Nat):SV->SV
 | .ptr _ t p=> .ptr id t p
 |v=>v
def b9(C:FuncId->aJ R)(s:State)(dst:Option Nat)(f:FuncId)(vs:List SV)(K:Out->Option R):Option R:=
 match zx s vs with
 |some (l,none)=>C f l none fun r B=>match B with
  |none=>K {v:=r}
  |some B=>match dst with
   |some d=>match s.bs[d+1]? with
    |some none=>K {v:=r.map (SV.cJ (d+1)),bx:=some (d+1,B)}
    |_=>none
   |none=>none
 |some (l,some (id,B))=>C f l (some B) fun r B'=>match B' with
  |some B'=>if B'.t.aX B.t=true then K {v:=r,bx:=some (id,B')} else none
  |none=>none
 |none=>none
def dx(g:Bool)(x y:SV)(K:Out->Option R):Option R:=
 match x,y with
 | .aj (.int k) m _,.aj (.int _) n _=>K {v:=[.aj (.int k) (bif g then(if m<n then n else m) else(if n<m then n else m)) []]}
 |_,_=>none
def fu(E:Env)(T:TypeId)(K:Out->Option R):Option R:=
 match E.ty T with
 |some (.sl e t)=>K {v:=[.aj (.sl e t) ([]:List (El t)) [[]]]}
 |_=>K {v:=[.bc]}
def eZ(s:State):Operand->Option (Nat×List SV)
 | .tmp t=>bif Nat.beq (s.slot t).length 1 then none else some (t,s.slot t)
 |_=>none
def dA(t:Nat):Nat->List (Nat×Nat)
 |0=>[]
 |n+1=>(t,n)::dA t n
def bZ(E:Env)(d:Option Nat):Bool:=
 match d with
 |some d=>E.sh.any (Nat.beq d)
 |none=>false
def takes(E:Env)(d:Option Nat):Bool:=
 match d with
 |some d=>E.mv.any (Nat.beq d)
 |none=>false
def Out.shut(u:Out):Out:={u with v:=u.v.map SV.shut}
def gv(f:FuncId)(x y:SV)(K:Out->Option R):Option R:=
 match x,y with
 | .view t a,.view u b=>K {v:=[.cap f t a u b]}
 |_,_=>none
def act(E:Env)(C:FuncId->aJ R)(ops:List Oper)(o:Oper)(s:State)(K:Out->Option R):Option R:=
 match o.op with
 | .move x=>match eZ s x with
   |some (t,l)=>bif bZ E o.dst then K {v:=l.map SV.shut} else K {v:=l,cl:=bif l.all fun v=>v.own.isEmpty then [] else dA t l.length}
   |none=>match s.ak x with
    | .aj t y w=>bif z72 ops o.dst||takes E o.dst then K {v:=[.aj t y w],cl:=z20 w x} else K {v:=[.aj t y []]}
    | .undef=>none
    | .bc=>fu E o.type K
    |v=>K {v:=[v]}
 | .assign x=>match s.ak x with
   | .aj t y w=>K {v:=[.aj t y w],cl:=z20 w x}
   | .undef=>none
   | .bc=>fu E o.type K
   |v=>K {v:=[v]}
 | .pick c a b=>match s.ak c with
   | .aj .bool p _=>bif p then K {v:=[(s.ak a).shut]} else K {v:=[(s.ak b).shut]}
   |_=>none
 | .binOp op T x y _=>bin E op T (s.ak x) (s.ak y) fun v=>K {v}
 | .unOp op _ x=>mJ op (s.ak x) K
 | .convert S T x=>match s.ak x with
   | .ptr id (.aF (.dD n) a b) []=>di E S T s id n a b K
   |v=>dO E S T v K
 | .load T a=>load E T s (z72 ops o.dst||jx E ops o.dst||vK ops o.dst) (s.ak a) K
 | .store T a x=>store E T s (s.ak a) x K
 | .nilCheck x=>match s.ak x with
   | .ptr id t p=>if t.aI=true then none else K {v:=[.ptr id t p]}
   | .view t y=>K {v:=[.view t y]}
   |_=>none
 | .fieldAddr T x j=>nb (E.ty T) (s.ak x) j K
 | .indexAddr T x i=>nf E T (s.ak x) (s.ak i) K
 | .index T x i=>z51 E T (s.ak x) (s.ak i) K
 | .field T x j=>match E.ty T with
   |some t=>if t.bq=false then none else(s.ak x).el t fun y=>match El.get t [j] y with
    |some ⟨u,z⟩=>K {v:=[.aj u z []]}
    |none=>none
   |none=>none
 | .slice T x lo hi none=>match s.ak x with
   | .ptr id (.aF (.dD n) a b) []=>(match E.ty T with
     |some (.sl _ t)=>if a.aX t=true then gw n id a b (lo.map s.ak) (hi.map s.ak) K else none
     |_=>none)
   | .ptr id (.aK n t) []=>fR E T s id n t (lo.map s.ak) (hi.map s.ak) K
   |v=>fS E T v (lo.map s.ak) (hi.map s.ak) K
 | .makeFunc (.func f) first captured=>match first.toList,captured.toList with
   | [],[x]=>eI f (s.ak x) K
   | [],[x,y]=>gv f (s.ak x) (s.ak y) K
   |_,_=>none
 | .alloc T=>match E.ty T,o.dst with
   |some t,some d=>match s.bs[d+1]? with
    |some none=>K {v:=[.ptr (d+1) t []],bx:=some (d+1,⟨t,El.aM t,jd t⟩)}
    |_=>none
   |none,some d=>(match E.bl T with
    |some e=>match s.bs[d+1]? with
     |some none=>K {v:=[.ptr (d+1) (.aF (.gp T e) .unit .unit) []],bx:=some (d+1,⟨.aF (.gp T e) .unit .unit,(⟨#[]⟩:ByteArray),[[]]⟩)}
     |_=>none
    |none=>none)
   |_,_=>none
 | .box T x=>match E.ty T,o.dst with
   |some t,some d=>match s.bs[d+1]? with
    |some none=>(s.ak x).el t fun y=>K {v:=[.ptr (d+1) t []],bx:=some (d+1,⟨t,y,(s.ak x).own⟩),cl:=src x}
    |_=>none
   |_,_=>none
 | .build T parts=>match E.ty T with
   |some t=>if t.agg=false then none else ga t (El.aM t) (jd t) (zt s parts.toList).1 fun y own=>K {v:=[.aj t y own],cl:=(zt s parts.toList).2}
   |none=>none
 | .buildSlice T n parts=>match E.ty T with
   |some (.sl e t)=>if Nat.beq t.cells 0=true then none else bif Nat.ble (n*t.cells) 16777216 then jJ t (List.replicate n (El.aM t)) (parts.toList.map fun p=>(p.1,s.ak p.2)) fun y=>K {v:=[.aj (.sl e t) y [[]]]} else none
   |_=>none
 | .extract x j=>match x with
   | .tmp t=>if Nat.beq (s.slot t).length 1=true then(match one (s.slot t),j with
      | .over,0=>K {v:=bl false}
      |_,_=>none) else match(s.slot t)[j]? with
     |some (.aj u y w)=>K {v:=[.aj u y w],cl:=bif w.isEmpty then [] else [(t,j)]}
     |some .undef=>none
     |some v=>K {v:=[v]}
     |none=>none
   |_=>none
 | .makeMap T none=>match eV E T with
   |some (kt,vt)=>dy s o.dst (.aF .mp kt vt) ([]:List (El kt×El vt)) (.aF .mp kt vt) K
   |none=>none
 | .lookup T x i false=>dS E T s (s.ak x) (s.ak i) K
 | .mapUpdate T m k x=>eB E T s (s.ak m) (s.ak k) (s.ak x) K
 | .insert T m k x=>eB E T s (s.ak m) (s.ak k) (s.ak x) K
 | .range T x=>match E.ty T with
   |some .str=>(s.ak x).el .str fun y=>dy s o.dst du ((y,0):ByteArray×Nat) du K
   |_=>none
 | .next x true=>dU s (s.ak x) K
 | .makeSlice T l c=>dT E T s o.dst l (s.ak l) (s.ak c) K
 | .call ⟨.value (.func f),args,_⟩=>b9 C s o.dst f (args.toList.map s.ak) fun u=>K (bif bZ E o.dst then u.shut else u)
 | .call ⟨.value (.tmp y),args,_⟩=>match s.ak (.tmp y) with
   | .ptr id (.aF (.kA f) u _) []=>if u.fH=true then none else b9 C s o.dst f (args.toList.map s.ak++ [.ptr id u []]) K
   | .cap f t x u y=>b9 C s o.dst f (args.toList.map s.ak++ [.view t x,.view u y]) K
   |_=>none
 | .call ⟨.builtin .copy,args,argTypes⟩=>match args.toList,argTypes.toList with
   | [d,x],T::_=>copyV E T s (s.ak d) (s.ak x) K
   |_,_=>none
 | .call ⟨.builtin .len,args,argTypes⟩=>match args.toList,argTypes.toList with
   | [x],[T]=>gY E T (s.ak x) K
   |_,_=>none
 | .call ⟨.builtin .append,args,argTypes⟩=>match args.toList,argTypes.toList with
   | [b,x],[T,U]=>m3 E T U b (s.ak b) (s.ak x) K
   |_,_=>none
 | .call ⟨.builtin .max,args,_⟩=>match args.toList with
   | [x,y]=>dx true (s.ak x) (s.ak y) K
   |_=>none
 | .call ⟨.builtin .min,args,_⟩=>match args.toList with
   | [x,y]=>dx false (s.ak x) (s.ak y) K
   |_=>none
 |_=>none
def m6(ops:List Oper)(g:Nat):Option Nat:=(ops[g]?).bind (·.dst)
def step(E:Env)(C:FuncId->aJ R)(ops:List Oper)(o:Oper)(s:State)(K:State->Option R):Option R:=
 let go (s:State):Option R:=act E C ops o s fun u=>K (s.apply o.dst u)
 let pass (s:State):Option R:=K (s.ar o.dst [.skip])
 match o.guard with
 |none=>go s
 |some (g,want)=>match m6 ops g with
  |none=>none
  |some d=>match s.slot d with
   | [.aj .bool p []]=>bif p then(let s:=s.ar (some d) (bl true);bif want then go s else pass s) else(let s:=s.ar (some d) (bl false);bif want then pass s else go s)
   | [.skip]=>pass s
   |_=>none
def steps(E:Env)(C:FuncId->aJ R)(ops:List Oper):List Oper->State->(State->Option R)->Option R
 | [],s,K=>K s
 |o::r,s,K=>step E C ops o s fun s=>steps E C ops r s K
structure bI where
 i:Nat
 r:Nat
 w:Nat
 br:Nat
 bw:Nat
def bit(i:Nat):Nat:=1<<<i
def cU:List Nat->Nat
 | []=>0
 |i::r=>bit i|||cU r
def gd:List Operand->List Nat
 | []=>[]
 | .tmp t::r=>t::gd r
 |_::r=>gd r
def looks(ops:List Oper)(o:Oper):List Nat:=gd o.op.operands.toList++(match o.guard with
 |some (g,_)=>(m6 ops g).toList
 |none=>[])
def aR:SV->List Nat
 | .ptr id _ _=>[id]
 |_=>[]
def ze(s:State)(o:Oper):List Nat:=
 match o.op with
 | .load _ a=>aR (s.ak a)
 | .store _ a _=>aR (s.ak a)
 | .alloc _| .box _ _| .makeMap _ _| .range _ _| .makeSlice _ _ _=>o.dst.toList.map fun d=>d+1
 | .convert _ _ x=>aR (s.ak x)
 | .slice _ x _ _ _=>aR (s.ak x)
 | .lookup _ x _ _=>aR (s.ak x)
 | .mapUpdate _ m _ _=>aR (s.ak m)
 | .insert _ m _ _=>aR (s.ak m)
 | .next x _=>aR (s.ak x)
 | .call ⟨.value y,args,_⟩=>(args.toList.flatMap fun x=>aR (s.ak x))++(aR (s.ak y)++o.dst.toList.map fun d=>d+1)
 | .call ⟨.builtin .copy,args,_⟩=>args.toList.flatMap fun x=>aR (s.ak x)
 |_=>[]
def zf(ops:List Oper)(o:Oper)(i:Nat)(s:State)(u:Out):bI:=
 ⟨i,cU (looks ops o),cU (o.dst.toList++u.cl.map (·.1)),cU (ze s o),cU (u.bx.toList.map (·.1))⟩
def bI.apart(a b:bI):Bool:=
 Nat.beq (a.w&&&(b.r|||b.w)) 0&&(Nat.beq (b.w&&&a.r) 0&&(Nat.beq (a.bw&&&(b.br|||b.bw)) 0&&Nat.beq (b.bw&&&a.br) 0))
def zk:List Edge->Nat
 | []=>0
 |e::r=>bif Region.binds .any e then bit e.on|||zk r else zk r
def fits(m:Nat)(f:bI)(tr:List bI):Bool:=Nat.ble (m+1) (bit f.i)&&tr.all fun a=>m.testBit a.i||a.apart f
def dX(E:Env)(C:FuncId->aJ R)(ops:List Oper)(o:Oper)(i:Nat)(s:State)(tr:List bI)(K:State->List bI->Option R):Option R:=
 let go (s:State):Option R:=act E C ops o s fun u=>bif fits (zk o.after.toList) (zf ops o i s u) tr then K (s.apply o.dst u) (zf ops o i s u::tr) else none
 let pass (s:State):Option R:=bif fits (zk o.after.toList) (zf ops o i s {v:=[.skip]}) tr then K (s.apply o.dst {v:=[.skip]}) (zf ops o i s {v:=[.skip]}::tr) else none
 match o.guard with
 |none=>go s
 |some (g,want)=>match m6 ops g with
  |none=>none
  |some d=>match s.slot d with
   | [.aj .bool p []]=>bif p then(let s:=s.ar (some d) (bl true);bif want then go s else pass s) else(let s:=s.ar (some d) (bl false);bif want then pass s else go s)
   | [.skip]=>pass s
   |_=>none
def z31(E:Env)(C:FuncId->aJ R)(ops:List Oper):List Oper->Nat->State->List bI->(State->Option R)->Option R
 | [],_,s,_,K=>K s
 |o::r,i,s,tr,K=>dX E C ops o i s tr fun s tr=>z31 E C ops r (i+1) s tr K
inductive Ex where
 |normal
 |exit (id:Nat)
 |ret
def zu:Code->Nat
 | .region id _ _=>id
 | .seq a _=>zu a
 | .cond _ a _=>zu a
 | .block _ b=>zu b
 | .loop b=>zu b
 |_=>0
def cg{α:Type}(z:α)(l:List Nat):Nat->List α->List α
 |_,[]=>[]
 |i,x::r=>(bif l.any (Nat.beq i) then x else z)::cg z l (i+1) r
def SV.roots(l:List Nat):SV->Bool
 | .ptr 0 _ _=>true
 | .ptr (id+1) _ _=>l.any (Nat.beq id)
 |_=>true
def p9:List Nat->List Nat->Bool
 | [],[]=>false
 | [],_::_=>true
 |_::_,[]=>false
 |a::p,b::q=>Nat.ble (a+1) b||(Nat.beq a b&&p9 p q)
def gV(p:List Nat):List (List Nat)->List (List Nat)
 | []=>[p]
 |q::r=>bif p9 q p then q::gV p r else p::q::r
def fI:List (List Nat)->List (List Nat)
 | []=>[]
 |p::r=>gV p (fI r)
def SV.norm:SV->SV
 | .aj t x own=> .aj t x (fI own)
 |v=>v
def aH.norm(B:aH):aH:={B with own:=fI B.own}
def State.norm(s:State):State:=⟨s.sl.map fun v=>v.map SV.norm,s.bs.map fun b=>b.map aH.norm⟩
def hN(l:List Nat)(s:State)(K:State->Option R):Option R:=
 let sl:=cg [.undef] l 0 s.sl
 bif sl.all (fun v=>v.all (SV.roots l)) then K (State.norm ⟨sl,s.bs.headD none::cg none l 0 s.bs.tail⟩) else none
def eU(k:Nat)(f:Unit->Option R):Option R:=
 match k with
 |0=>none
 |_+1=>f ()
def eW(E:Env)(k r:Nat)(s:State)(K:State->Option R):Option R:=
 match E.join r with
 |none=>K s
 |some l=>hN l s fun s=>eU k fun _=>K s
def iD(id:Nat)(l:List SV):List SV:=l.map fun v=>match v with
 | .ptr j _ _=>bif Nat.beq j id then .undef else v
 |v=>v
def fZ(E:Env)(r:Nat)(s:State)(K:State->Option R):Option R:=
 match E.fz r with
 |none=>K s
 |some (d,T)=>match s.slot d,E.ty T with
  | [.ptr id (.aF (.dD n) a b) []],some (.sl e t)=>if a.aX t=true then match s.box id with
    |some B=>if h:B.t.aX (.aF .row t b)=true then
      bif Nat.beq n (List.length (Ty.cast h B.x:List (El t))) then K {sl:=(s.sl.map (iD id)).set d [.aj (.sl e t) (Ty.cast h B.x:List (El t)) []],bs:=s.bs.set id none} else none
     else none
    |none=>none else none
  |_,_=>none
def ji(id:Nat)(B:aH)(v:SV):SV:=
 match v with
 | .ptr j t p=>bif Nat.beq j id then(if t.aX B.t=true then match El.get B.t p B.x with
    |some ⟨u,y⟩=> .view u y
    |none=> .undef else .undef) else .ptr j t p
 |v=>v
def oh(id:Nat)(s:State)(K:State->Option R):Option R:=
 match s.box id with
 |some B=>if B.t.aI=true then none else K {sl:=s.sl.map fun l=>l.map (ji id B),bs:=s.bs.set id none}
 |none=>none
def z37:List Nat->State->(State->Option R)->Option R
 | [],s,K=>K s
 |id::r,s,K=>oh id s fun s=>z37 r s K
def cT(l:List Nat):Nat->List (Option aH)->List (Option aH)
 |_,[]=>[]
 |i,b::r=>(bif l.any (Nat.beq i) then b.map (fun B=>{B with own:=[]}) else b)::cT l (i+1) r
def State.drop(l:List Nat)(s:State):State:={s with bs:=cT l 0 s.bs}
def bT(body:State->(Ex->State->Option R)->Option R)(l lx:List Nat):Nat->State->(Ex->State->Option R)->Option R
 |0,_,_=>none
 |k+1,s,K=>body s fun e s=>match e with
  | .normal=>hN l s fun s=>bT body l lx k s K
  |e=>hN lx s fun s=>K e s
def Ty.flat:Ty->Bool
 | .sl _ _=>false
 | .aF _ _ _=>false
 | .aK _ t=>t.flat
 | .pair a b=>a.flat&&b.flat
 |_=>true
def SV.flat:SV->Bool
 | .aj t _ own=>t.flat&&own.isEmpty
 | .ptr _ _ _| .view _ _| .cap _ _ _ _ _=>false
 |_=>true
def dP(o:Nat):Nat->List (List SV)->Bool
 |_,[]=>true
 |i,l::r=>(Nat.beq i o||l.all SV.flat)&&dP o (i+1) r
def dw:Nat->Nat->List (List SV)->List (List SV)
 |0,_,sl=>sl
 |n+1,m,sl=>dw n (m+1) (sl.set m [.undef])
def isDst(o:Oper)(d:Nat):Bool:=
 match o.dst,o.guard with
 |some d',none=>Nat.beq d' d
 |_,_=>false
def bY(x:Operand)(i:Nat):Bool:=
 match x with
 | .tmp j=>Nat.beq j i
 |_=>false
def iO(E:Env)(T:TypeId):Bool:=
 match E.ty T with
 |some (.int .u8)=>true
 |_=>false
def oi(E:Env)(T:TypeId):Bool:=
 match E.ty T with
 |some (.sl _ (.int .u8))=>true
 |_=>false
def kx(o:Oper)(d x:Nat):Bool:=isDst o d&&(match o.op with
 | .move y=>bY y x
 |_=>false)
def isLen(E:Env)(o:Oper)(d x:Nat):Bool:=isDst o d&&(match o.op with
 | .call ⟨.builtin .len,bR,ts⟩=>match bR.toList,ts.toList with
   | [y],[T]=>bY y x&&oi E T
   |_,_=>false
 |_=>false)
def oF(o:Oper)(d x:Nat):Bool:=isDst o d&&(match o.op with
 | .binOp .sub _ y (.const (.int .i64 c)) _=>bY y x&&decide (c=1)
 |_=>false)
def iN(E:Env)(o:Oper)(d x i:Nat):Bool:=isDst o d&&(match o.op with
 | .indexAddr T y j=>bY y x&&(bY j i&&oi E T)
 |_=>false)
def sr(E:Env)(o:Oper)(d x:Nat):Bool:=isDst o d&&(match o.op with
 | .load T y=>bY y x&&iO E T
 |_=>false)
def gX(o:Oper)(d x y:Nat):Bool:=isDst o d&&(match o.op with
 | .binOp .add _ u v _=>bY u x&&bY v y
 |_=>false)
def gW(E:Env)(o:Oper)(x y:Nat):Bool:=(match o.dst,o.guard with
 |none,none=>true
 |_,_=>false)&&(match o.op with
 | .store T u v=>bY u x&&(bY v y&&iO E T)
 |_=>false)
def ss(E:Env)(o x m:Nat)(ops:List Oper):Bool:=
 match ops with
 | [a0,a1,a2,a3,a4,a5,a6,a7,a8,a9,jQ,jR,a12,lN]=>kx a0 m o&&(kx a1 (m+1) o&&(isLen E a2 (m+2) (m+1)&&(oF a3 (m+3) (m+2)&&(kx a4 (m+4) o&&(kx a5 (m+5) o&&(isLen E a6 (m+6) (m+5)&&(oF a7 (m+7) (m+6)&&(iN E a8 (m+8) (m+4) (m+7)&&(sr E a9 (m+9) (m+8)&&(kx jQ (m+10) x&&(gX jR (m+11) (m+9) (m+10)&&(iN E a12 (m+12) m (m+3)&&gW E lN (m+12) (m+11)))))))))))))
 |_=>false
def jD(e:TypeId)(xs:List Int)(y:Int)(own:List (List Nat)):List SV:=[.aj (.sl e (.int .u8)) (xs.set (IntKind.i64.wrap ((xs.length:Int)-1)).toNat (IntKind.u8.wrap (xs.getD (IntKind.i64.wrap ((xs.length:Int)-1)).toNat 0+y)):List Int) own]
def dY(E:Env)(q:Nat×Nat×Nat)(ops:List Oper)(s:State)(K:State->Option R):Option R:=
 bif ss E q.1 q.2.1 q.2.2 ops then
  bif Nat.ble (q.1+1) q.2.2&&(Nat.ble (q.2.1+1) q.2.2&&(!(Nat.beq q.1 q.2.1)&&Nat.ble (q.2.2+13) s.sl.length)) then
   match s.slot q.1,s.slot q.2.1 with
   | [.aj (.sl e (.int .u8)) xs own],[.aj (.int .u8) y _]=>
     bif fc own [] then
      bif dP q.1 0 (dw 13 q.2.2 s.sl)&&s.bs.all Option.isNone then
       zc (IntKind.i64.wrap ((List.length (xs:List Int):Int)-1)) (List.length (xs:List Int)) (K ⟨(dw 13 q.2.2 s.sl).set q.1 (jD e xs y own),s.bs⟩)
      else none
     else none
   |_,_=>none
  else none
 else none
def iE(own:List (List Nat)):List (List Nat):=own.filterMap fun p=>match p with
 |(j+1)::p=>some (j::p)
 |_=>none
def Ty.aY:Ty->List (List Nat)->Bool
 | .sl _ t,own=>t.flat&&fc own []
 | .pair a b,own=>a.aY (ng own [0])&&b.aY (iE own)
 | .aF _ _ _,_=>false
 | .aK _ t,_=>t.flat
 |_,_=>true
def aH.aY(B:aH):Bool:= !B.t.aI&&B.t.aY B.own
def SV.aY(bs:List (Option aH)):SV->Bool
 | .aj t _ own=>t.aY own
 | .view _ _| .cap _ _ _ _ _=>false
 | .ptr id _ _=>match bs.getD id none with
   |some B=>B.aY
   |none=>false
 |_=>true
def hold(bs:List (Option aH))(l:List SV):List SV:=bif l.all (SV.aY bs) then l else [.undef]
def oH:Option aH->Option aH
 |some B=>bif B.aY then some B else none
 |none=>none
def State.aY(x:Nat)(s:State):State:=⟨(s.sl.set x [.undef]).map (hold s.bs),s.bs.map oH⟩
def hG(E:Env)(x d:Nat)(T T':TypeId)(i vo:Operand)(s:State)(K:State->Option R):Option R:=
 match s.slot x with
 | [.aj (.sl e t) xs own]=>bif fc own [] then
     match E.ty T,E.ty T' with
     |some u,some w=>bif u.aX (.sl e t)&&(w.aX t&&Nat.ble (d+1) s.sl.length) then
       (s.ak i).num fun n=>((s.ar (some d) [.undef]).ak vo).el t fun _=>zc n (List.length (xs:List (El t))) (K ((s.ar (some d) [.undef]).aY x))
      else none
     |_,_=>none
   else none
 |_=>none
def gZ(o:Oper):Bool:=
 match o.dst,o.guard with
 |none,none=>true
 |_,_=>false
def cY(E:Env)(oA oS:Oper)(s:State)(K:State->Option R):Option R:=
 match oA.op,oS.op with
 | .indexAddr T (.tmp x) i,.store T' (.tmp d) vo=>bif isDst oA d&&(!(Nat.beq x d)&&gZ oS) then hG E x d T T' i vo s K else none
 |_,_=>none
def oj{α:Type}:List α->Option (List α×α×α)
 | []=>none
 | [_]=>none
 | [a,b]=>some ([],a,b)
 |a::r=>match oj r with
  |some (l,x,y)=>some (a::l,x,y)
  |none=>none
def dW(E:Env)(C:FuncId->aJ R)(ops:List Oper)(s:State)(K:State->Option R):Option R:=
 match oj ops with
 |some (l,oA,oS)=>steps E C ops l s fun s=>cY E oA oS s K
 |none=>none
def lf(E:Env)(C:FuncId->aJ R)(i:Nat)(ops:Array Oper)(d:Bool)(s:State)(K:State->Option R):Option R:=
 fZ E i s fun s=>z37 (E.fr i) s fun s=>bif d then z31 E C ops.toList ops.toList 0 s [] K else steps E C ops.toList ops.toList s K
def ev(E:Env)(C:FuncId->aJ R)(k:Nat):Code->State->(Ex->State->Option R)->Option R
 | .skip,s,K=>K .normal s
 | .region i ops d,s,K=>match E.sp with
   |some (j,q)=>bif Nat.beq i j then(match d with
    |true=>none
    |false=>bif Nat.beq q.2.2 0 then dW E C ops.toList s (K .normal) else dY E q ops.toList s (K .normal)) else lf E C i ops d s (K .normal)
   |none=>lf E C i ops d s (K .normal)
 | .seq a b,s,K=>ev E C k a s fun e s=>match e with
   | .normal=>eW E k (zu b) s fun s=>ev E C k b s K
   |e=>K e s
 | .cond c a b,s,K=>match s.ak c with
   | .aj .bool p _=>bif p then ev E C k a (s.ar (hH c) (bl true)) K else ev E C k b (s.ar (hH c) (bl false)) K
   |_=>none
 | .block id b,s,K=>ev E C k b s fun e s=>match e with
   | .exit j=>bif Nat.beq j id then K .normal s else K (.exit j) s
   |e=>K e s
 | .loop b,s,K=>hN (E.bP (zu b)) (s.drop (E.dr (zu b))) fun s=>bT (ev E C k b) (E.bP (zu b)) (E.dR (zu b)) k s K
 | .exit id,s,K=>K (.exit id) s
 | .ret,s,K=>K .ret s
 |_,_,_=>none
def cr(E:Env):State->List ResultVar->Option (List SV×State)
 |s,[]=>some ([],s)
 |s,.tmp t::r=>match cr E (s.close [(t,0)]) r with
  |some (l,s')=>some (one (s.slot t)::l,s')
  |none=>none
 |s,.cell p T::r=>match s.slot p,E.ty T with
  | [.ptr id u []],some t=>match s.box id with
    |some B=>if(t.aX B.t&& !u.aI)=true then match cr E (s.ao (some (id,{B with own:=[]}))) r with
      |some (l,s')=>some (.aj B.t B.x B.own::l,s')
      |none=>none
     else none
    |none=>none
  |_,_=>none
def jK:List SV->List Nat
 | []=>[]
 | .ptr id _ _::r=>id::jK r
 |_::r=>jK r
def lj(s:State)(bx:Option aH)(l:List SV)(K:List SV->Option aH->Option R):Option R:=
 match bx,jK l with
 |some _,[]=>match s.box 0 with
  |some B=>K l (some B)
  |none=>none
 |none,[]=>K l none
 |none,[id]=>match s.box id with
  |some B=>K (l.map (SV.cJ 0)) (some B)
  |none=>none
 |_,_=>none
def cX(E:Env)(l:List SV):List SV:=bif E.ro then l.map SV.shut else l
def ay:List Ty->List SV->List SV
 | .sl e t::r,.bc::q=> .aj (.sl e t) ([]:List (El t)) []::ay r q
 |_::r,v::q=>v.shut::ay r q
 | [],q=>q
 |_,[]=>[]
def cZ(E:Env)(C:FuncId->aJ R)(k:Nat)(fn:Func)(code:Code)(vs:List SV)(bx:Option aH)(K:List SV->Option aH->Option R):Option R:=
 bif E.sp.isSome&&bx.isSome then none else
 let n:=fn.ntmps-vs.length
 let s:State:=⟨(ay E.ps vs).map (fun v=>[v])++List.replicate n [.undef],bx::List.replicate (vs.length+n) none⟩
 ev E C k code s fun e s=>match e with
  | .exit _=>none
  |_=>match cr E s fn.results.toList with
   |some (l,s')=>lj s' bx (cX E l) K
   |none=>none
end
end Go.Ref

namespace Go.Ref
open Go
theorem zd{R S:Type}{sv:SV}{t:Ty}{F:El t->Option R}{G:El t->Option S}{K:S->Option R}(h:∀y,F y=(G y).bind K):sv.el t F=(sv.el t G).bind K:=by
 cases sv with
 |aj t' x own=>
  simp only[SV.el]
  split
  ·exact h _
  ·rfl
 |bc=>cases t<;>simp only[SV.el]<;>first|rfl|exact h _
 |_=>rfl
theorem z0{R S:Type}{b:Bool}{x y:Option R}{x' y':Option S}{K:S->Option R}(h:x=x'.bind K)(k:y=y'.bind K):(bif b then x else y)=(bif b then x' else y').bind K:=by
 cases b
 ·exact k
 ·exact h
theorem za{R S:Type}{c:Prop}[Decidable c]{x y:Option R}{x' y':Option S}{K:S->Option R}(h:x=x'.bind K)(k:y=y'.bind K):(if c then x else y)=(if c then x' else y').bind K:=by
 split
 ·exact h
 ·exact k
section
variable {R:Type}
theorem re{op:BinOp}{k k':IntKind}{m n:Int}{K:List SV->Option R}:fO op k m k' n K=(fO op k m k' n some).bind K:=by
 unfold fO
 cases op<;>simp only<;>repeat(first|rfl|refine z0 ?_ ?_|refine za ?_ ?_)
theorem rh{op:BinOp}{m n:ByteArray}{K:List SV->Option R}:fP op m n K=(fP op m n some).bind K:=by
 unfold fP
 cases op<;>simp only<;>repeat(first|rfl|refine z0 ?_ ?_|refine za ?_ ?_)
theorem q9{E:Env}{op:BinOp}{T:TypeId}{x y:SV}{K:List SV->Option R}:fN E op T x y K=(fN E op T x y some).bind K:=by
 unfold fN
 split
 ·refine za rfl (zd fun a=>zd fun b=> ?_)
  split
  ·cases op<;>rfl
  ·rfl
 ·rfl
theorem Bv{E:Env}{op:BinOp}{T:TypeId}{x y:SV}{S:Type}{F:List SV->Option R}{G:List SV->Option S}{K:S->Option R}(h:∀l,F l=(G l).bind K):bin E op T x y F=(bin E op T x y G).bind K:=by
 unfold bin
 split
 ·rw[re,re (K:=G),Option.bind_assoc];congr;funext l;exact h l
 ·rw[rh,rh (K:=G),Option.bind_assoc];congr;funext l;exact h l
 ·refine za rfl ?_;cases op<;>simp only<;>first|exact h _|rfl
 ·refine za rfl ?_;cases op<;>simp only<;>first|exact h _|rfl
 ·rw[q9,q9 (K:=G),Option.bind_assoc];congr;funext l;exact h l
theorem z24{S:Type}{i:Int}{n:Nat}{x:Option R}{x':Option S}{K:S->Option R}(h:x=x'.bind K):zc i n x=(zc i n x').bind K:=by
 unfold zc
 exact z0 (z0 h rfl) rfl
theorem qE{S:Type}{lo:Option SV}{m:Nat}{F:Nat->Option R}{G:Nat->Option S}{K:S->Option R}(h:∀l,F l=(G l).bind K):jh lo m F=(jh lo m G).bind K:=by
 unfold jh
 cases lo with
 |none=>exact h _
 |some v=>exact zd fun y=>z0 (z0 (h _) rfl) rfl
theorem ur{S:Type}{lo hi:Option SV}{n:Nat}{F:Nat->Nat->Option R}{G:Nat->Nat->Option S}{K:S->Option R}(h:∀l h,F l h=(G l h).bind K):cutAt lo hi n F=(cutAt lo hi n G).bind K:=by
 unfold cutAt
 cases hi with
 |none=>exact qE fun l=>h _ _
 |some w=>exact zd fun y=>z0 (z0 (qE fun l=>h _ _) rfl) rfl
theorem ub{S:Type}{t:Ty}{F:El t->List (List Nat)->Option R}{G:El t->List (List Nat)->Option S}{K:S->Option R}(h:∀y o,F y o=(G y o).bind K):∀(l:List (Nat×SV×List (List Nat))) (x:El t) (own:List (List Nat)),ga t x own l F=(ga t x own l G).bind K
 | [],x,own=>by simpa [ga] using h x own
 |(i,v,ov)::r,x,own=>by
  simp only[ga]
  refine za rfl ?_
  split
  ·refine zd fun y=> ?_
   split
   ·exact ub h r _ _
   ·rfl
  ·rfl
theorem uc{S:Type}{t:Ty}{F:List (El t)->Option R}{G:List (El t)->Option S}{K:S->Option R}(h:∀y,F y=(G y).bind K):∀(l:List (Nat×SV)) (x:List (El t)),jJ t x l F=(jJ t x l G).bind K
 | [],x=>by simpa [jJ] using h x
 |(i,v)::r,x=>by
  simp only[jJ]
  exact za rfl (zd fun y=>uc h r _)
variable {S:Type} {F:Out->Option R} {G:Out->Option S} {K:S->Option R}
theorem xZ{u:Ty}{s:State}{id:Nat}{t:Ty}{p:List Nat}(h:∀y,F y=(G y).bind K):kq u s id t p F=(kq u s id t p G).bind K:=by
 unfold kq
 split
 ·split
  ·split
   ·exact za (z0 (h _) rfl) rfl
   ·rfl
  ·rfl
 ·rfl
theorem xO{u:Ty}{s:State}{id:Nat}{t:Ty}{p:List Nat}{v:SV}(h:∀y,F y=(G y).bind K):kp u s id t p v F=(kp u s id t p v G).bind K:=by
 unfold kp
 split
 ·split
  ·split
   ·exact za (zd fun y=>z0 (h _) rfl) rfl
   ·rfl
  ·rfl
 ·rfl
theorem xM{t:Ty}{n:Int}{id:Nat}{r:Ty}{p:List Nat}(h:∀y,F y=(G y).bind K):mX t n id r p F=(mX t n id r p G).bind K:=by
 unfold mX
 split
 ·exact za (z24 (h _)) rfl
 ·rfl
theorem xY{u:Ty}{B:aH}{t:Ty}{p:List Nat}(h:∀y,F y=(G y).bind K):ld u B t p F=(ld u B t p G).bind K:=by
 unfold ld
 split
 ·split
  ·exact za (z0 (h _) rfl) rfl
  ·rfl
 ·rfl
theorem AU{E:Env}{T:TypeId}{s:State}{la:Bool}{v:SV}(h:∀y,F y=(G y).bind K):load E T s la v F=(load E T s la v G).bind K:=by
 unfold load
 split
 ·split
  ·exact za (h _) rfl
  ·refine za (xZ h) ?_
   split
   ·refine za ?_ (xY h)
    split
    ·exact za (z0 (h _) (h _)) rfl
    ·rfl
   ·rfl
  ·rfl
 ·rfl
theorem Aj{E:Env}{T:TypeId}{s:State}{v:SV}{x:Operand}(h:∀y,F y=(G y).bind K):store E T s v x F=(store E T s v x G).bind K:=by
 unfold store
 split
 ·split
  ·refine za (xO h) ?_
   split
   ·refine za ?_ rfl
    split
    ·refine za (zd fun y=> ?_) rfl
     split
     ·exact h _
     ·rfl
    ·rfl
   ·rfl
  ·rfl
 ·rfl
theorem yl{t:Option Ty}{v:SV}{j:Nat}(h:∀y,F y=(G y).bind K):nb t v j F=(nb t v j G).bind K:=by
 unfold nb
 split
 ·refine za rfl ?_
  split
  ·refine za ?_ rfl
   split
   ·exact za rfl (h _)
   ·rfl
  ·rfl
 ·refine za ?_ rfl
  split
  ·exact za rfl (h _)
  ·rfl
 ·rfl
theorem rR{v:SV}{F':Int->Option R}{G':Int->Option S}{K:S->Option R}(h:∀n,F' n=(G' n).bind K):v.num F'=(v.num G').bind K:=by
 unfold SV.num
 split
 ·exact h _
 ·rfl
theorem yq{E:Env}{T:TypeId}{v i:SV}(h:∀y,F y=(G y).bind K):nf E T v i F=(nf E T v i G).bind K:=by
 unfold nf
 refine rR fun n=> ?_
 split
 ·exact zd fun y=>z24 (h _)
 ·refine za rfl ?_
  split
  ·exact za (z24 (h _)) rfl
  ·rfl
 ·exact zd fun y=>z24 (h _)
 ·exact xM h
 ·rfl
theorem yr{E:Env}{T:TypeId}{v i:SV}(h:∀y,F y=(G y).bind K):z51 E T v i F=(z51 E T v i G).bind K:=by
 unfold z51
 refine rR fun n=> ?_
 split
 ·exact zd fun y=>z24 (h _)
 ·exact zd fun y=>z24 (h _)
 ·rfl
theorem AH{E:Env}{T:TypeId}{v:SV}{lo hi:Option SV}(h:∀y,F y=(G y).bind K):fS E T v lo hi F=(fS E T v lo hi G).bind K:=by
 unfold fS
 split
 ·exact zd fun y=>ur fun _ _=>h _
 ·exact zd fun y=>ur fun _ _=>h _
 ·rfl
theorem xR{E:Env}{T U:TypeId}{bo:Operand}{b x:SV}(h:∀y,F y=(G y).bind K):m3 E T U bo b x F=(m3 E T U bo b x G).bind K:=by
 unfold m3
 refine za rfl ?_
 split
 ·refine za rfl ?_
  split
  ·exact zd fun y=>z0 (h _) rfl
  ·exact za rfl (zd fun y=>zd fun z=>z0 (h _) rfl)
  ·rfl
 ·rfl
theorem AS{E:Env}{T:TypeId}{x:SV}(h:∀y,F y=(G y).bind K):gY E T x F=(gY E T x G).bind K:=by
 unfold gY
 split
 ·exact zd fun y=>h _
 ·split
  ·exact h _
  ·exact zd fun y=>h _
 ·exact h _
 ·rfl
theorem yW{E:Env}{S' T:TypeId}{x:SV}(h:∀y,F y=(G y).bind K):dO E S' T x F=(dO E S' T x G).bind K:=by
 unfold dO
 split
 ·exact zd fun y=>h _
 ·exact zd fun y=>h _
 ·exact zd fun y=>h _
 ·rfl
theorem yV{E:Env}{S' T:TypeId}{s:State}{id n:Nat}{a b:Ty}(h:∀y,F y=(G y).bind K):di E S' T s id n a b F=(di E S' T s id n a b G).bind K:=by
 unfold di
 split
 ·refine za ?_ rfl
  split
  ·split
   ·exact z0 (h _) rfl
   ·rfl
  ·rfl
 ·rfl
theorem rp{s:State}{dst:Option Nat}{t:Ty}{x:El t}{p:Ty}(h:∀y,F y=(G y).bind K):dy s dst t x p F=(dy s dst t x p G).bind K:=by
 unfold dy
 split
 ·split
  ·exact h _
  ·rfl
 ·rfl
theorem uf{s:State}{m:SV}{kt vt:Ty}{F:Nat->List (El kt×El vt)->Option R}{G:Nat->List (El kt×El vt)->Option S}{K:S->Option R}(h:∀n y,F n y=(G n y).bind K):iw s m kt vt F=(iw s m kt vt G).bind K:=by
 unfold iw
 split
 ·refine za ?_ rfl
  split
  ·split
   ·exact h _ _
   ·rfl
  ·rfl
 ·rfl
theorem zN{E:Env}{T:TypeId}{s:State}{m i:SV}(h:∀y,F y=(G y).bind K):dS E T s m i F=(dS E T s m i G).bind K:=by
 unfold dS
 split
 ·exact uf fun _ _=>zd fun _=>h _
 ·rfl
theorem vm{E:Env}{T:TypeId}{s:State}{m i v:SV}(h:∀y,F y=(G y).bind K):eB E T s m i v F=(eB E T s m i v G).bind K:=by
 unfold eB
 split
 ·exact uf fun _ _=>zd fun _=>zd fun _=>z0 rfl (h _)
 ·rfl
theorem zQ{s:State}{m:SV}(h:∀y,F y=(G y).bind K):dU s m F=(dU s m G).bind K:=by
 unfold dU
 split
 ·split
  ·split
   ·exact z0 (h _) (h _)
   ·rfl
  ·rfl
 ·rfl
theorem zP{E:Env}{T:TypeId}{s:State}{dst:Option Nat}{lo:Operand}{l c:SV}(h:∀y,F y=(G y).bind K):dT E T s dst lo l c F=(dT E T s dst lo l c G).bind K:=by
 unfold dT
 split
 ·exact za rfl (zd fun n=>zd fun m=>z0 (z0 (z0 (z0 (h _) rfl) rfl) rfl) (z0 (z0 (z0 (rp h) rfl) rfl) rfl))
 ·rfl
theorem BL{op:UnOp}{x:SV}(h:∀y,F y=(G y).bind K):mJ op x F=(mJ op x G).bind K:=by
 unfold mJ
 split
 ·exact h _
 ·exact h _
 ·rfl
end
abbrev ax:=(R:Type)->FuncId->aJ R
def ax.Nat(C:ax):Prop:=∀(R S:Type) (f:FuncId) l b (F:List SV->Option aH->Option R) (G:List SV->Option aH->Option S) (K:S->Option R),(∀r b,F r b=(G r b).bind K)->C R f l b F=(C S f l b G).bind K
section
variable {R S:Type} {F:Out->Option R} {G:Out->Option S} {K:S->Option R} {C:ax}
theorem nV(hC:C.Nat){s:State}{dst:Option Nat}{f:FuncId}{vs:List SV}(h:∀y,F y=(G y).bind K):b9 (C R) s dst f vs F=(b9 (C S) s dst f vs G).bind K:=by
 unfold b9
 split
 ·refine hC R S f _ _ _ _ K fun r b=> ?_
  split
  ·exact h _
  ·split
   ·split
    ·exact h _
    ·rfl
   ·rfl
 ·refine hC R S f _ _ _ _ K fun r b=> ?_
  split
  ·exact za (h _) rfl
  ·rfl
 ·rfl
theorem yU{f:FuncId}{x:SV}(h:∀y,F y=(G y).bind K):eI f x F=(eI f x G).bind K:=by
 unfold eI
 split
 ·exact za rfl (h _)
 ·rfl
theorem AB{f:FuncId}{x y:SV}(h:∀y,F y=(G y).bind K):gv f x y F=(gv f x y G).bind K:=by
 unfold gv
 split
 ·exact h _
 ·rfl
theorem AG{n id:Nat}{a b:Ty}{lo hi:Option SV}(h:∀y,F y=(G y).bind K):gw n id a b lo hi F=(gw n id a b lo hi G).bind K:=by
 unfold gw
 split
 ·rfl
 ·exact qE fun l=>h _
theorem z85{t:Ty}{s:State}{id n lo:Nat}{a b:Ty}{x:SV}{e:TypeId}(h:∀y,F y=(G y).bind K):cD t s id n lo a b x e F=(cD t s id n lo a b x e G).bind K:=by
 unfold cD
 refine za (zd fun ys=> ?_) rfl
 split
 ·split
  ·exact z0 (z0 (h _) rfl) rfl
  ·rfl
 ·rfl
theorem AF{E:Env}{T:TypeId}{s:State}{id n:Nat}{t:Ty}{lo hi:Option SV}(h:∀y,F y=(G y).bind K):fR E T s id n t lo hi F=(fR E T s id n t lo hi G).bind K:=by
 unfold fR
 split
 ·refine za ?_ rfl
  split
  ·split
   ·exact h _
   ·rfl
  ·rfl
 ·rfl
theorem yX{t:Ty}{s:State}{id n:Nat}{a b:Ty}{y:ByteArray}(h:∀y,F y=(G y).bind K):dj t s id n a b y F=(dj t s id n a b y G).bind K:=by
 unfold dj
 refine za (za ?_ rfl) rfl
 split
 ·split
  ·exact z0 (h _) rfl
  ·rfl
 ·rfl
theorem yY{E:Env}{T:TypeId}{s:State}{d x:SV}(h:∀y,F y=(G y).bind K):copyV E T s d x F=(copyV E T s d x G).bind K:=by
 unfold copyV
 split
 ·split
  ·exact yX h
  ·exact z85 h
 ·exact z85 h
 ·rfl
theorem uE{g:Bool}{x y:SV}(h:∀y,F y=(G y).bind K):dx g x y F=(dx g x y G).bind K:=by
 unfold dx
 split
 ·exact h _
 ·rfl
theorem u9{E:Env}{T:TypeId}(h:∀y,F y=(G y).bind K):fu E T F=(fu E T G).bind K:=by
 unfold fu
 split
 ·exact h _
 ·exact h _
theorem je(hC:C.Nat){E:Env}{ops:List Oper}{o:Oper}{s:State}(h:∀y,F y=(G y).bind K):act E (C R) ops o s F=(act E (C S) ops o s G).bind K:=by
 unfold act
 split
 ·split
  ·exact z0 (h _) (h _)
  ·split
   ·exact z0 (h _) (h _)
   ·rfl
   ·exact u9 h
   ·exact h _
 ·split
  ·exact h _
  ·rfl
  ·exact u9 h
  ·exact h _
 ·split
  ·exact z0 (h _) (h _)
  ·rfl
 ·exact Bv fun l=>h _
 ·exact BL h
 ·split
  ·exact yV h
  ·exact yW h
 ·exact AU h
 ·exact Aj h
 ·split
  ·exact za rfl (h _)
  ·exact h _
  ·rfl
 ·exact yl h
 ·exact yq h
 ·exact yr h
 ·split
  ·refine za rfl (zd fun y=> ?_)
   split
   ·exact h _
   ·rfl
  ·rfl
 ·split
  ·split
   ·exact za (AG h) rfl
   ·rfl
  ·exact AF h
  ·exact AH h
 ·split
  ·exact yU h
  ·exact AB h
  ·rfl
 ·split
  ·split
   ·exact h _
   ·rfl
  ·split
   ·split
    ·exact h _
    ·rfl
   ·rfl
  ·rfl
 ·split
  ·split
   ·exact zd fun y=>h _
   ·rfl
  ·rfl
 ·split
  ·exact za rfl (ub (fun y o=>h _) _ _ _)
  ·rfl
 ·split
  ·exact za rfl (z0 (uc (fun y=>h _) _ _) rfl)
  ·rfl
 ·split
  ·refine za ?_ ?_
   ·split
    ·exact h _
    ·rfl
   split
   ·exact h _
   ·rfl
   ·exact h _
   ·rfl
  ·rfl
 ·split
  ·exact rp h
  ·rfl
 ·exact zN h
 ·exact vm h
 ·exact vm h
 ·split
  ·exact zd fun y=>rp h
  ·rfl
 ·exact zQ h
 ·exact zP h
 ·exact nV hC fun u=>h _
 ·split
  ·exact za rfl (nV hC h)
  ·exact nV hC h
  ·rfl
 ·split
  ·exact yY h
  ·rfl
 ·split
  ·exact AS h
  ·rfl
 ·split
  ·exact xR h
  ·rfl
 ·split
  ·exact uE h
  ·rfl
 ·split
  ·exact uE h
  ·rfl
 ·rfl
end
section
variable {R S:Type} {F:State->Option R} {G:State->Option S} {K:S->Option R} {C:ax}
theorem rD(hC:C.Nat){E:Env}{ops:List Oper}{o:Oper}{s:State}(h:∀y,F y=(G y).bind K):step E (C R) ops o s F=(step E (C S) ops o s G).bind K:=by
 unfold step
 simp only
 split
 ·exact je hC fun y=>h _
 ·split
  ·rfl
  ·split
   ·exact z0 (z0 (je hC fun y=>h _) (h _)) (z0 (h _) (je hC fun y=>h _))
   ·exact h _
   ·rfl
theorem mV(hC:C.Nat){E:Env}{ops:List Oper}(h:∀y,F y=(G y).bind K):∀(l:List Oper) (s:State),steps E (C R) ops l s F=(steps E (C S) ops l s G).bind K
 | [],s=>h s
 |o::r,s=>by
  simp only[steps]
  exact rD hC fun s=>mV hC h r s
theorem Ah(hC:C.Nat){E:Env}{ops:List Oper}{o:Oper}{i:Nat}{s:State}{tr:List bI}{F:State->List bI->Option R}{G:State->List bI->Option S}(h:∀y t,F y t=(G y t).bind K):dX E (C R) ops o i s tr F=(dX E (C S) ops o i s tr G).bind K:=by
 unfold dX
 simp only
 split
 ·exact je hC fun y=>z0 (h _ _) rfl
 ·split
  ·rfl
  ·split
   ·exact z0 (z0 (je hC fun y=>z0 (h _ _) rfl) (z0 (h _ _) rfl)) (z0 (z0 (h _ _) rfl) (je hC fun y=>z0 (h _ _) rfl))
   ·exact z0 (h _ _) rfl
   ·rfl
theorem qJ(hC:C.Nat){E:Env}{ops:List Oper}(h:∀y,F y=(G y).bind K):∀(l:List Oper) (i:Nat) (s:State) (tr:List bI),z31 E (C R) ops l i s tr F=(z31 E (C S) ops l i s tr G).bind K
 | [],i,s,tr=>h s
 |o::r,i,s,tr=>by
  simp only[z31]
  exact Ah hC fun s tr=>qJ hC h r (i+1) s tr
theorem mM{l:List Nat}{s:State}(h:∀y,F y=(G y).bind K):hN l s F=(hN l s G).bind K:=by
 unfold hN
 exact z0 (h _) rfl
end
theorem zM{R S:Type}{k:Nat}{F:Unit->Option R}{G:Unit->Option S}{K:S->Option R}(h:F ()=(G ()).bind K):eU k F=(eU k G).bind K:=by
 unfold eU
 cases k
 ·rfl
 ·exact h
theorem AV{R S:Type}{F:State->Option R}{G:State->Option S}{K:S->Option R}{E:Env}{k r:Nat}{s:State}(h:∀y,F y=(G y).bind K):eW E k r s F=(eW E k r s G).bind K:=by
 unfold eW
 split
 ·exact h _
 ·exact mM fun s=>zM (h _)
theorem Bd{R S:Type}{F:State->Option R}{G:State->Option S}{K:S->Option R}{E:Env}{r:Nat}{s:State}(h:∀y,F y=(G y).bind K):fZ E r s F=(fZ E r s G).bind K:=by
 unfold fZ
 split
 ·exact h _
 ·split
  ·refine za ?_ rfl
   split
   ·split
    ·exact z0 (h _) rfl
    ·rfl
   ·rfl
  ·rfl
theorem tR{R S:Type}{F:State->Option R}{G:State->Option S}{K:S->Option R}(h:∀y,F y=(G y).bind K):∀(l:List Nat) (s:State),z37 l s F=(z37 l s G).bind K
 | [],s=>h s
 |id::r,s=>by
  simp only[z37]
  unfold oh
  split
  ·exact za rfl (tR h r _)
  ·rfl
section
variable {R S:Type} {F:Ex->State->Option R} {G:Ex->State->Option S} {K:S->Option R} {C:ax}
theorem uD{body:State->(Ex->State->Option R)->Option R}{body':State->(Ex->State->Option S)->Option S}{l lx:List Nat}
 (hb:∀(F:Ex->State->Option R) (G:Ex->State->Option S),(∀e s,F e s=(G e s).bind K)->∀s,body s F=(body' s G).bind K) (h:∀e s,F e s=(G e s).bind K):
 ∀(k:Nat) (s:State),bT body l lx k s F=(bT body' l lx k s G).bind K
 |0,_=>rfl
 |k+1,s=>by
  simp only[bT]
  refine hb _ _ (fun e s=> ?_) s
  cases e with
  |normal=>exact mM fun s=>uD hb h k s
  |exit id=>exact mM fun s=>h _ _
  |ret=>exact mM fun s=>h _ _
theorem vj{E:Env}{q:Nat×Nat×Nat}{ops:List Oper}{s:State}{F:State->Option R}{G:State->Option S}{K:S->Option R}(h:∀s,F s=(G s).bind K):dY E q ops s F=(dY E q ops s G).bind K:=by
 unfold dY
 refine z0 (z0 ?_ rfl) rfl
 split
 ·refine z0 (z0 ?_ rfl) rfl
  unfold zc
  exact z0 (z0 (h _) rfl) rfl
 ·rfl
theorem zZ{E:Env}{oA oS:Oper}{s:State}{F:State->Option R}{G:State->Option S}{K:S->Option R}(h:∀s,F s=(G s).bind K):cY E oA oS s F=(cY E oA oS s G).bind K:=by
 unfold cY
 split
 ·refine z0 ?_ rfl
  unfold hG
  split
  ·refine z0 ?_ rfl
   split
   ·refine z0 (rR fun n=>zd fun y=> ?_) rfl
    unfold zc
    exact z0 (z0 (h _) rfl) rfl
   ·rfl
  ·rfl
 ·rfl
theorem ve(hC:C.Nat){E:Env}{ops:List Oper}{s:State}{F:State->Option R}{G:State->Option S}(h:∀s,F s=(G s).bind K):dW E (C R) ops s F=(dW E (C S) ops s G).bind K:=by
 unfold dW
 split
 ·exact mV hC (fun s=>zZ h) _ _
 ·rfl
theorem iv(hC:C.Nat){E:Env}{k:Nat}:∀(c:Code) (F:Ex->State->Option R) (G:Ex->State->Option S),(∀e s,F e s=(G e s).bind K)->∀s,ev E (C R) k c s F=(ev E (C S) k c s G).bind K
 | .skip,F,G,h,s=>h _ _
 | .region i ops d,F,G,h,s=>by
   simp only[ev]
   have key:lf E (C R) i ops d s (F .normal)=(lf E (C S) i ops d s (G .normal)).bind K:=Bd fun s=>tR (fun s=>z0 (qJ hC (fun s=>h _ _) _ _ _ _) (mV hC (fun s=>h _ _) _ _)) _ _
   split
   ·refine z0 ?_ key
    cases d with
    |true=>rfl
    |false=>exact z0 (ve hC fun s=>h _ _) (vj fun s=>h _ _)
   ·exact key
 | .seq a b,F,G,h,s=>by
   simp only[ev]
   refine iv hC a _ _ (fun e s=> ?_) s
   cases e with
   |normal=>exact AV fun s=>iv hC b _ _ h s
   |exit id=>exact h _ _
   |ret=>exact h _ _
 | .cond c a b,F,G,h,s=>by
   simp only[ev]
   split
   ·exact z0 (iv hC a _ _ h _) (iv hC b _ _ h _)
   ·rfl
 | .block id b,F,G,h,s=>by
   simp only[ev]
   refine iv hC b _ _ (fun e s=> ?_) s
   cases e with
   |normal=>exact h _ _
   |exit j=>exact z0 (h _ _) (h _ _)
   |ret=>exact h _ _
 | .loop b,F,G,h,s=>by
   simp only[ev]
   exact mM fun s=>uD (fun F G h s=>iv hC b F G h s) h k s
 | .exit id,F,G,h,s=>h _ _
 | .ret,F,G,h,s=>h _ _
 | .rangeFunc ..,F,G,h,s=>rfl
 | .scope _,F,G,h,s=>rfl
 | .label _,F,G,h,s=>rfl
 | .goto _,F,G,h,s=>rfl
 | .refuse _,F,G,h,s=>rfl
end
theorem zo{R S:Type}{x:Option R}{y:Option S}{K:S->Option R}(h:x=y.bind K){z:R}(hz:x=some z):∃w,y=some w/\K w=some z:=by
 rw[h] at hz
 exact Option.bind_eq_some_iff.1 hz
end Go.Ref

namespace Go.Ref
open Go
def bL(t:Ty)(cs:List Value):Value:=if t.agg=true then .agg cs.toArray else cs.headD undef
def aD(X:ag)(pl:Place)(e:TypeId)(k n:Nat)(v:Value):Prop:=
 (v= .slice none 0 0/\n=0)\/∃g cap cur,v= .slice (some ⟨g,0,none⟩) n cap/\X.w.heap[g]? =some (.cells cur e (0,0))/\n<=cap/\cap<=maxLen/\cur.size=cap*k/\X.ow g= .row pl (n*k)
def aC(X:ag)(pl:List Nat->Place)(t:Ty)(x:El t)(cs:List Value)(own:List (List Nat)):Prop:=
 ∀p∈own,∃e t' xs v,t.b5 p/\El.get t p x=some ⟨.sl e t',xs⟩/\cs[t.off p]? =some v/\aD X (pl p) e t'.cells (List.length xs) v
def fw(t:Ty)(p:List Nat)(r:Nat)(v:Value):Prop:=
 match t,p with
 | .aF .mp _ _,_=>v= .map (some r)
 | .aF (.dD n) _ _,[]=>∃cap,v= .slice (some ⟨r,0,none⟩) n cap/\n<=cap
 | .aF (.dD n) a _,[l]=>∃cap off,v= .slice (some ⟨r,off,none⟩) (n-l) cap/\n-l<=cap/\l<=n/\((n=l/\off=0)\/off=l*a.cells)
 | .aF (.kA f) _ _,[]=>v= .func (.func f) #[] #[.pointer (some ⟨r,0,none⟩)]
 | .aF .row a _,[i]=>v= .pointer (some ⟨r,i*a.cells,none⟩)
 |t,p=>v= .pointer (some ⟨r,t.off p,none⟩)/\t.b5 p
theorem zq{t:Ty}{p:List Nat}{r:Nat}{v:Value}(h:t.aI=false):fw t p r v↔v= .pointer (some ⟨r,t.off p,none⟩)/\t.b5 p:=by
 unfold fw
 split
 all_goals first
  |exact Iff.rfl
  |simp [Ty.aI] at h
theorem rA{t:Ty}{p:List Nat}{r:Nat}{v:Value}(h:t.fH=false):fw t p r v↔v= .pointer (some ⟨r,t.off p,none⟩)/\t.b5 p:=by
 unfold fw
 split
 all_goals first
  |exact Iff.rfl
  |simp [Ty.fH] at h
def ah(X:ag)(pl:List Nat->Place):SV->Value->Prop
 | .undef,_=>True
 | .skip,v=>v=Go.undef
 | .bc,v=>v= .slice none 0 0
 | .cH,v=>v= .pointer none
 | .aj t x own,v=>∃cs,az X t x cs/\v=bL t cs/\aC X pl t x cs own
 | .ptr id t p,v=>∃r,X.β id=some r/\fw t p r v
 | .view t x,v=>∃ad cs,v= .pointer (some ad)/\ad.spot=none/\az X t x cs/\∀i u,cs[i]? =some u->X.ai (ad.add i) u
 | .cap f t x u y,v=>∃ad fC cs bS,v= .func (.func f) #[] #[.pointer (some ad),.pointer (some fC)]/\(ad.spot=none/\az X t x cs/\∀i w,cs[i]? =some w->X.ai (ad.add i) w)/\(fC.spot=none/\az X u y bS/\∀i w,bS[i]? =some w->X.ai (fC.add i) w)
 | .over,v=>v= .tuple #[.bool false]
theorem ij{X Y:ag}{pl de:List Nat->Place}(h:∀a v,X.ai a v->Y.ai a v){f:Nat}{t u:Ty}{x:El t}{y:El u}{v:Value}(hr:ah X pl (.cap f t x u y) v):ah Y de (.cap f t x u y) v:=by
 obtain⟨ad,fC,cs,bS,h1,⟨h2,h3,h4⟩,h5,h6,h7⟩:=hr
 exact⟨ad,fC,cs,bS,h1,⟨h2,h3.af h,fun i w hi=>h _ _ (h4 i w hi)⟩,h5,h6.af h,fun i w hi=>h _ _ (h7 i w hi)⟩
def bj(X:ag)(pl:Nat->List Nat->Place)(l:List SV)(v:Value):Prop:=
 match l with
 | [s]=>ah X (pl 0) s v
 |l=>∃vs:Array Value,v= .tuple vs/\vs.size=l.length/\∀(j:Nat) s u,l[j]? =some s->vs[j]? =some u->ah X (pl j) s u
def bJ(X:ag)(t:Ty)(x:El t)(v:Value):Prop:=∃cs,az X t x cs/\v=bL t cs
def bD(X:ag)(r:Nat)(pl:List Nat->Place):(t:Ty)->El t->List (List Nat)->Prop
 | .aF .iter _ _,x,_=>X.w.heap[r]? =some (.stringIter x.1 x.2)
 | .aF .mp kt vt,x,_=>∃es clock,X.w.heap[r]? =some (.map es clock)/\es.size=List.length x/\∀(i:Nat) (q:El kt×El vt) (e:MapEntry),x[i]? =some q->es[i]? =some e->bJ X kt q.1 e.key/\bJ X vt q.2 e.val
 | .aF .row t _,xs,_=>∃cs T,X.w.heap[r]? =some (.cells cs T (0,0))/\cs.size=List.length xs*t.cells/\∀(j:Nat) (x:El t),xs[j]? =some x->az X t x ((cs.toList.drop (j*t.cells)).take t.cells)
 | .aF (.gp T e) _ _,x,own=>(∃o,X.w.heap[r]? =some o)/\([]∈own->∃v,ky T e r v (Lib.strCells x) X.w/\∀g,v.ownBlock=some g->X.ow g= .row (pl []) 0)
 | .aF _ _ _,_,_=>False
 |t,x,own=>∃cs T,X.w.heap[r]? =some (.cells cs T (0,0))/\az X t x cs.toList/\aC X pl t x cs.toList own
theorem bD.plain{X:ag}{r:Nat}{pl:List Nat->Place}{t:Ty}{x:El t}{own:List (List Nat)}(hs:t.aI=false):bD X r pl t x own↔∃cs T,X.w.heap[r]? =some (.cells cs T (0,0))/\az X t x cs.toList/\aC X pl t x cs.toList own:=by
 cases t<;>first|exact Iff.rfl|simp [Ty.aI] at hs
theorem bD.of{X:ag}{r:Nat}{pl:List Nat->Place}{t:Ty}{x:El t}{own:List (List Nat)}{cs:Array Value}{T:TypeId}(hs:t.aI=false)(h1:X.w.heap[r]? =some (.cells cs T (0,0)))(h2:az X t x cs.toList)(h3:aC X pl t x cs.toList own):bD X r pl t x own:=(bD.plain hs).2 ⟨cs,T,h1,h2,h3⟩
theorem bJ.mono{X Y:ag}(h:∀a v,X.ai a v->Y.ai a v){t:Ty}{x:El t}{v:Value}(hr:bJ X t x v):bJ Y t x v:=by
 obtain⟨cs,h1,h2⟩:=hr
 exact⟨cs,h1.af h,h2⟩
theorem bD.lt{X:ag}{r:Nat}{pl:List Nat->Place}{t:Ty}{x:El t}{own:List (List Nat)}(h:bD X r pl t x own):r<X.w.heap.size:=by
 have key:∀o,X.w.heap[r]? =some o->r<X.w.heap.size:=fun o ho=>(Array.getElem?_eq_some_iff.1 ho).1
 unfold bD at h
 split at h
 ·exact key _ h
 ·obtain⟨es,c,h1,_⟩:=h;exact key _ h1
 ·obtain⟨cs,T,h1,_⟩:=h;exact key _ h1
 ·obtain⟨⟨o,ho⟩,_⟩:=h;exact key _ ho
 ·exact h.elim
 ·obtain⟨cs,T,h1,_⟩:=h;exact key _ h1
theorem bD.move{X Y:ag}{r:Nat}{pl de:List Nat->Place}{t:Ty}{x:El t}{own:List (List Nat)}(hs:∀a v,X.ai a v->Y.ai a v)(hh:Y.w.heap[r]? =X.w.heap[r]?)
 (ho:∀cs,aC X pl t x cs own->aC Y de t x cs own) (hg: []∈own->∀g o,X.w.heap[g]? =some o->X.ow g= .row (pl []) 0->Y.w.heap[g]? =some o/\Y.ow g= .row (de []) 0) (h:bD X r pl t x own):bD Y r de t x own:=by
 unfold bD at h⊢
 split at h
 ·exact hh.trans h
 ·obtain⟨es,c,h1,h2,h3⟩:=h
  exact⟨es,c,hh.trans h1,h2,fun i q e hq he=>⟨(h3 i q e hq he).1.mono hs,(h3 i q e hq he).2.mono hs⟩⟩
 ·obtain⟨cs,T,h1,h2,h3⟩:=h
  exact⟨cs,T,hh.trans h1,h2,fun j x hj=>(h3 j x hj).af hs⟩
 ·obtain⟨⟨o,h1⟩,h2⟩:=h
  refine⟨⟨o,hh.trans h1⟩,fun hm=> ?_⟩
  obtain⟨v,h3,h4⟩:=h2 hm
  refine⟨v,h3.same hh (fun g o hv ho=>(hg hm g o ho (h4 g hv)).1),fun g hv=> ?_⟩
  obtain⟨cap,cur,j6⟩:∃cap cur,X.w.heap[g]? =some (.cells cur cap (0,0)):=by
   rcases h3.own.2 with⟨hn,_⟩|⟨g',cap,cur,gS,_,j6,_⟩
   ·rw[hn] at hv;simp [Value.ownBlock] at hv
   ·rw[gS] at hv
    simp [Value.ownBlock] at hv
    subst hv
    exact⟨_,_,j6⟩
  exact(hg hm g _ j6 (h4 g hv)).2
 ·exact h.elim
 ·obtain⟨cs,T,h1,h2,h3⟩:=h
  exact⟨cs,T,hh.trans h1,h2.af hs,ho _ h3⟩
def aG(X:ag)(id r:Nat)(B:aH):Prop:=X.ow r= .box id/\bD X r (.b id) B.t B.x B.own
theorem aG.cells{X:ag}{id r:Nat}{B:aH}(h:aG X id r B)(hs:B.t.aI=false):∃cs T,X.w.heap[r]? =some (.cells cs T (0,0))/\az X B.t B.x cs.toList/\X.ow r= .box id/\aC X (.b id) B.t B.x cs.toList B.own:=by
 obtain⟨cs,T,h1,h2,h3⟩:=(bD.plain hs).1 h.2
 exact⟨cs,T,h1,h2,h.1,h3⟩
structure Rel(X:ag)(s:State)(a:Act):Prop where
 size:s.sl.length=a.tmps.size
 cL:s.bs.length=s.sl.length+1
 aL:∀(i:Nat) l v,s.sl[i]? =some l->a.tmps[i]? =some v->bj X (.c i) l v
 boxes:∀(id:Nat) B,s.bs[id]? =some (some B)->∃r,X.β id=some r/\aG X id r B
 live:∀(i:Nat) l id t p,s.sl[i]? =some l->SV.ptr id t p∈l->∃B,s.bs[id]? =some (some B)
 defers:a.defers=[]
theorem kZ{w:World}{g:Nat}{o:Obj}(h:w.heap[g]? =some o):g<w.heap.size:=(Array.getElem?_eq_some_iff.1 h).1
theorem bj.dE{X Y:ag}{pl de:Nat->List Nat->Place}{l:List SV}{v:Value}(hr:bj X pl l v)(h:∀(j:Nat) s u,l[j]? =some s->ah X (pl j) s u->ah Y (de j) s u):bj Y de l v:=by
 match l,hr with
 | [s],hr=>exact h 0 s v (by simp) hr
 | [],⟨vs,h1,h2,h3⟩=>exact⟨vs,h1,h2,fun j s u hs hu=>h j s u hs (h3 j s u hs hu)⟩
 |x::y::r,⟨vs,h1,h2,h3⟩=>exact⟨vs,h1,h2,fun j s u hs hu=>h j s u hs (h3 j s u hs hu)⟩
def bg(s:State):Place->Prop
 | .c i j p=>∃l t x own,s.sl[i]? =some l/\l[j]? =some (.aj t x own)/\p∈own
 | .b id p=>∃B,s.bs[id]? =some (some B)/\p∈B.own
 | .r _ _=>False
structure Mod(s:State)(X Y:ag):Prop where
 ai:∀a v,X.ai a v->Y.ai a v
 size:X.w.heap.size<=Y.w.heap.size
 os:Y.w.os=X.w.os
 tape:Y.w.tape=X.w.tape
 output:Y.w.output=X.w.output
 β0:Y.β 0=X.β 0
 β:∀(id:Nat) B,s.bs[id]? =some (some B)->Y.β id=X.β id
 fQ:∀g,g<X.w.heap.size->(Y.ow g=X.ow g/\Y.w.heap[g]? =X.w.heap[g]?)\/∃pl n,X.ow g= .row pl n/\¬bg s pl
theorem Mod.ext{s:State}{X Y:ag}(h:Mod s X Y):Ext X Y:=
 ⟨h.ai,h.size,h.os,h.tape,h.output,h.β0,fun g hg bm=>by
   rcases h.fQ g hg with e|⟨pl,n,h1,_⟩
   ·exact e
   ·rw[h1] at bm;exact bm.elim⟩
theorem Mod.refl(s:State)(X:ag):Mod s X X:=⟨fun _ _ h=>h,Nat.le_refl _,rfl,rfl,rfl,rfl,fun _ _ _=>rfl,fun _ _=> .inl ⟨rfl,rfl⟩⟩
theorem aD.mod{s:State}{X Y:ag}(h:Mod s X Y){pl:Place}{e:TypeId}{k n:Nat}{v:Value}(hf:bg s pl)(ho:aD X pl e k n v):aD Y pl e k n v:=by
 rcases ho with ho|⟨g,cap,cur,h1,h2,h3,h4,h5,h6⟩
 ·exact .inl ho
 ·rcases h.fQ g (kZ h2) with⟨k1,k2⟩|⟨de,n',k1,k2⟩
  ·exact .inr ⟨g,cap,cur,h1,k2.trans h2,h3,h4,h5,k1.trans h6⟩
  ·rw[h6] at k1;injection k1 with k1;rw[k1] at hf;exact absurd hf k2
theorem aC.mod{s:State}{X Y:ag}(h:Mod s X Y){pl:List Nat->Place}{t:Ty}{x:El t}{cs:List Value}{own:List (List Nat)}(hf:∀p∈own,bg s (pl p))(ho:aC X pl t x cs own):aC Y pl t x cs own:=fun p hp=>by
 obtain⟨e,t',xs,v,g0,g1,g2,g3⟩:=ho p hp
 exact⟨e,t',xs,v,g0,g1,g2,g3.mod h (hf p hp)⟩
theorem ah.mod{s:State}{X Y:ag}(h:Mod s X Y){pl:List Nat->Place}{sv:SV}{v:Value}(hf:∀t x own,sv= .aj t x own->∀p∈own,bg s (pl p))(hl:∀id t p,sv= .ptr id t p->∃B,s.bs[id]? =some (some B))(hr:ah X pl sv v):ah Y pl sv v:=by
 cases sv with
 |undef=>trivial
 |skip=>exact hr
 |bc=>exact hr
 |cH=>exact hr
 |over=>exact hr
 |aj t x own=>
  obtain⟨cs,h1,h2,h3⟩:=hr
  exact⟨cs,h1.af h.ai,h2,h3.mod h (hf t x own rfl)⟩
 |ptr id t p=>
  obtain⟨r,h1,h2⟩:=hr
  obtain⟨B,hB⟩:=hl id t p rfl
  exact⟨r,(h.β id B hB).trans h1,h2⟩
 |view t x=>
  obtain⟨ad,cs,h1,h2,h3,h4⟩:=hr
  exact⟨ad,cs,h1,h2,h3.af h.ai,fun i u hi=>h.ai _ _ (h4 i u hi)⟩
 |cap f t x u y=>exact ij h.ai hr
theorem Rel.mod{s:State}{X Y:ag}{a:Act}(hr:Rel X s a)(h:Mod s X Y):Rel Y s a where
 size:=hr.size
 cL:=hr.cL
 aL:=fun i l v hl hv=>(hr.aL i l v hl hv).dE fun j sv u hm dC=>dC.mod h (fun t x own e p hp=>⟨l,t,x,own,hl,e▸hm,hp⟩) (fun id t p e=>hr.live i l id t p hl (e▸List.mem_of_getElem? hm))
 boxes:=fun id B hB=>by
  obtain⟨r,h1,h4,h2⟩:=hr.boxes id B hB
  have hk:Y.ow r=X.ow r/\Y.w.heap[r]? =X.w.heap[r]? :=by
   rcases h.fQ r h2.lt with hk|⟨de,n',k1,k2⟩
   ·exact hk
   ·rw[h4] at k1;cases k1
  exact⟨r,(h.β id B hB).trans h1,hk.1.trans h4,h2.move h.ai hk.2 (fun cs h5=>h5.mod h fun p hp=>⟨B,hB,hp⟩) fun hm g o ho hw=>by
   rcases h.fQ g (kZ ho) with e|⟨pl,n,e1,e2⟩
   ·exact⟨e.2.trans ho,e.1.trans hw⟩
   ·rw[hw] at e1;injection e1 with e1;exact absurd (e1▸(⟨B,hB,hm⟩:bg s (.b id []))) e2⟩
 live:=hr.live
 defers:=hr.defers
structure b3(s:State)(X Y:ag):Prop where
 size:X.w.heap.size<=Y.w.heap.size
 os:Y.w.os=X.w.os
 tape:Y.w.tape=X.w.tape
 output:Y.w.output=X.w.output
 fQ:∀g,g<X.w.heap.size->Y.ow g=X.ow g/\Y.w.heap[g]? =X.w.heap[g]?
 β0:Y.β 0=X.β 0
 β:∀(id:Nat) B,s.bs[id]? =some (some B)->Y.β id=X.β id
theorem b3.ai{s:State}{X Y:ag}(h:b3 s X Y){a:Addr}{v:Value}(hs:X.ai a v):Y.ai a v:=by
 have aw:=ag.ew hs
 obtain⟨h1,h2⟩:=h.fQ _ aw
 refine⟨hs.1,?_,?_⟩
 ·have:=hs.2.1
  simp only[World.cell?] at this⊢
  rw[h2];exact this
 ·rw[h1];exact hs.2.2
theorem b3.mod{s:State}{X Y:ag}(h:b3 s X Y):Mod s X Y:=
 ⟨fun _ _=>h.ai,h.size,h.os,h.tape,h.output,h.β0,h.β,fun g hg=> .inl (h.fQ g hg)⟩
theorem b3.ext{s:State}{X Y:ag}(h:b3 s X Y):Ext X Y:=h.mod.ext
theorem aD.bP{s:State}{X Y:ag}(h:b3 s X Y){pl:Place}{e:TypeId}{k n:Nat}{v:Value}(ho:aD X pl e k n v):aD Y pl e k n v:=by
 rcases ho with ho|⟨g,cap,cur,h1,h2,h3,h4,h5,h6⟩
 ·exact .inl ho
 ·obtain⟨k1,k2⟩:=h.fQ g (kZ h2)
  exact .inr ⟨g,cap,cur,h1,k2.trans h2,h3,h4,h5,k1.trans h6⟩
theorem aC.bP{s:State}{X Y:ag}(h:b3 s X Y){pl:List Nat->Place}{t:Ty}{x:El t}{cs:List Value}{own:List (List Nat)}(ho:aC X pl t x cs own):aC Y pl t x cs own:=fun p hp=>by
 obtain⟨e,t',xs,v,g0,g1,g2,g3⟩:=ho p hp
 exact⟨e,t',xs,v,g0,g1,g2,g3.bP h⟩
theorem Rel.bP{s:State}{X Y:ag}{a:Act}(hr:Rel X s a)(h:b3 s X Y):Rel Y s a:=hr.mod h.mod
theorem Rel.put{X:ag}{s:State}{a:Act}(hr:Rel X s a){d:Option Nat}{l:List SV}{v:Value}(h:∀d',d=some d'->bj X (.c d') l v)(hl:∀id t p,SV.ptr id t p∈l->∃B,s.bs[id]? =some (some B)):Rel X (s.ar d l) (a.put d v):=by
 cases d with
 |none=>exact hr
 |some d=>
  refine⟨by simpa [State.ar,Act.put] using hr.size,by simpa [State.ar] using hr.cL,fun i l' v' hi hv=> ?_,hr.boxes,fun i l' id t p hi hm=> ?_,hr.defers⟩
  ·simp only[State.ar,List.getElem?_set] at hi
   simp only[Act.put,Array.getElem?_setIfInBounds] at hv
   by_cases e:d=i
   ·subst e
    simp only[if_true] at hi hv
    split at hi
    ·split at hv
     ·cases hi;cases hv;exact h d rfl
     ·cases hv
    ·cases hi
   ·rw[if_neg e] at hi hv
    exact hr.aL i l' v' hi hv
  ·simp only[State.ar,List.getElem?_set] at hi
   split at hi
   ·split at hi
    ·cases hi;exact hl id t p hm
    ·cases hi
   ·exact hr.live i l' id t p hi hm
theorem Rel.skip{X:ag}{s:State}{a:Act}(hr:Rel X s a)(d:Option Nat):Rel X (s.ar d [.skip]) (a.put d Go.undef):=
 hr.put (fun _ _=>rfl) (fun id t p h=>by simp at h)
structure bG(s:State)(X Y:ag):Prop where
 w:Y.w=X.w
 β:Y.β=X.β
 ow:∀g,Y.ow g=X.ow g\/∃pl n q,X.ow g= .row pl n/\¬bg s pl/\Y.ow g= .row q n
theorem bG.ai{s:State}{X Y:ag}(h:bG s X Y){a:Addr}{v:Value}:X.ai a v↔Y.ai a v:=by
 unfold ag.ai
 rw[h.w]
 rcases h.ow a.block with e|⟨pl,n,q,h1,_,h2⟩
 ·rw[e]
 ·rw[h1,h2];rfl
theorem bG.mod{s:State}{X Y:ag}(h:bG s X Y):Mod s X Y:=
 ⟨fun _ _=>h.ai.1,by rw[h.w];exact Nat.le_refl _,by rw[h.w],by rw[h.w],by rw[h.w],by rw[h.β],fun _ _ _=>by rw[h.β],fun g _=>by
   rcases h.ow g with e|⟨pl,n,q,h1,h2,_⟩
   ·exact .inl ⟨e,by rw[h.w]⟩
   ·exact .inr ⟨pl,n,h1,h2⟩⟩
theorem bG.ext{s:State}{X Y:ag}(h:bG s X Y):Ext X Y:=h.mod.ext
theorem bG.refl(s:State)(X:ag):bG s X X:=⟨rfl,rfl,fun _=> .inl rfl⟩
theorem n4{v:SV}{id:Nat}{t:Ty}{p:List Nat}:v.shut= .ptr id t p->v= .ptr id t p:=by cases v<;>simp [SV.shut]
theorem ah.shut{X:ag}{pl de:List Nat->Place}{sv:SV}{v:Value}(hr:ah X pl sv v):ah X de sv.shut v:=by
 cases sv with
 |aj t x own=>
  obtain⟨cs,h1,h2,_⟩:=hr
  exact⟨cs,h1,h2,fun p hp=>by cases hp⟩
 |_=>exact hr
theorem tH:∀(l:List SV) (j:Nat),(aP l j).length=l.length
 | [],_=>rfl
 |_::_,0=>rfl
 |_::r,j+1=>by simp [aP,tH r j]
theorem nU:∀(l:List SV) (j i:Nat),(aP l j)[i]? =if i=j then(l[i]?).map SV.shut else l[i]?
 | [],j,i=>by simp [aP]
 |v::r,0,0=>by simp [aP]
 |v::r,0,i+1=>by simp [aP]
 |v::r,j+1,0=>by simp [aP]
 |v::r,j+1,i+1=>by
  simp only[aP,List.getElem?_cons_succ,nU r j i]
  simp
theorem bj.aP{X:ag}{pl:Nat->List Nat->Place}{l:List SV}{v:Value}(hr:bj X pl l v)(j:Nat):bj X pl (aP l j) v:=by
 match l,hr with
 | [s],hr=>
   cases j with
   |zero=>exact hr.shut
   |succ j=>exact hr
 | [],hr=>exact hr
 |x::y::r,⟨vs,h1,h2,h3⟩=>
  have hlen:∃x' y' r',Ref.aP (x::y::r) j=x'::y'::r':=by
   match j with
   |0=>exact⟨_,_,_,rfl⟩
   |1=>exact⟨_,_,_,rfl⟩
   |j+2=>exact⟨_,_,_,rfl⟩
  obtain⟨x',y',r',he⟩:=hlen
  have hl:=tH (x::y::r) j
  have hg:=nU (x::y::r) j
  rw[he] at hl hg⊢
  refine⟨vs,h1,by rw[hl];exact h2,fun i s u hs hu=> ?_⟩
  rw[hg] at hs
  split at hs
  ·obtain⟨s0,cz,rfl⟩:=Option.map_eq_some_iff.1 hs
   exact(h3 i s0 u cz hu).shut
  ·exact h3 i s u hs hu
theorem yw{l:List SV}{j:Nat}{id:Nat}{t:Ty}{p:List Nat}(h:SV.ptr id t p∈aP l j):SV.ptr id t p∈l:=by
 obtain⟨i,hi⟩:=List.mem_iff_getElem?.1 h
 rw[nU] at hi
 split at hi
 ·obtain⟨s0,cz,he⟩:=Option.map_eq_some_iff.1 hi
  rw[n4 he] at cz
  exact List.mem_of_getElem? cz
 ·exact List.mem_of_getElem? hi
theorem jg{s:State}{i:Nat}(h:i<s.sl.length):s.sl[i]? =some (s.slot i):=by
 simp [State.slot,List.getD_eq_getElem?_getD,List.getElem?_eq_getElem h]
def State.bh(s:State)(i j:Nat):State:={s with sl:=s.sl.set i (aP (s.slot i) j)}
theorem z21{s:State}{i j:Nat}{r:List (Nat×Nat)}:s.close ((i,j)::r)=(s.bh i j).close r:=rfl
theorem tJ{r:List (Nat×Nat)}:∀(l:List (Nat×Nat)) (s:State),s.close (l++r)=(s.close l).close r
 | [],s=>rfl
 |(i,j)::l,s=>by
  rw[List.cons_append,z21,z21]
  exact tJ l _
theorem Rel.bh{X:ag}{s:State}{a:Act}(hr:Rel X s a)(i j:Nat):Rel X (s.bh i j) a:=by
 refine⟨by simpa [State.bh] using hr.size,by simpa [State.bh] using hr.cL,fun k l v hl hv=> ?_,hr.boxes,fun k l id t p hl hm=> ?_,hr.defers⟩
 ·simp only[State.bh,List.getElem?_set] at hl
  split at hl
  ·rename_i e
   subst e
   split at hl
   ·rename_i aw
    cases hl
    exact(hr.aL i _ v (jg aw) hv).aP j
   ·cases hl
  ·exact hr.aL k l v hl hv
 ·simp only[State.bh,List.getElem?_set] at hl
  split at hl
  ·rename_i e
   subst e
   split at hl
   ·rename_i aw
    cases hl
    exact hr.live i _ id t p (jg aw) (yw hm)
   ·cases hl
  ·exact hr.live k l id t p hl hm
theorem Rel.close{X:ag}{a:Act}:∀(c:List (Nat×Nat)) {s:State},Rel X s a->Rel X (s.close c) a
 | [],s,hr=>hr
 |(i,j)::r,s,hr=>Rel.close r (hr.bh i j)
theorem jc:∀{c:List (Nat×Nat)} {s:State},(s.close c).bs=s.bs
 | [],s=>rfl
 |(i,j)::r,s=>(jc (c:=r) (s:=s.bh i j))
theorem mQ:∀{c:List (Nat×Nat)} {s:State},(s.close c).sl.length=s.sl.length
 | [],s=>rfl
 |(i,j)::r,s=>by rw[z21,mQ (c:=r)];simp [State.bh]
theorem bg.fY{s:State}{i j:Nat}{pl:Place}(h:bg (s.bh i j) pl):bg s pl/\∀p,pl≠ .c i j p:=by
 cases pl with
 |r j p=>exact h.elim
 |b id p=>exact⟨h,fun p=>by simp⟩
 |c i' j' p=>
  obtain⟨l,t,x,own,hl,hx,hp⟩:=h
  simp only[State.bh,List.getElem?_set] at hl
  split at hl
  ·rename_i e
   subst e
   split at hl
   ·rename_i aw
    cases hl
    rw[nU] at hx
    split at hx
    ·obtain⟨s0,_,he⟩:=Option.map_eq_some_iff.1 hx
     cases s0<;>simp [SV.shut] at he
     obtain⟨rfl,_,rfl⟩:=he
     cases hp
    ·rename_i bp
     exact⟨⟨_,t,x,own,jg aw,hx,hp⟩,fun q e=>by cases e;exact bp rfl⟩
   ·cases hl
  ·rename_i bp
   exact⟨⟨l,t,x,own,hl,hx,hp⟩,fun q e=>by cases e;exact bp rfl⟩
theorem bg.dz{pl:Place}:∀{c:List (Nat×Nat)} {s:State},bg (s.close c) pl->bg s pl/\∀i j,(i,j)∈c->∀p,pl≠ .c i j p
 | [],s,h=>⟨h,fun i j hm=>by cases hm⟩
 |(i,j)::r,s,h=>by
  obtain⟨h1,h2⟩:=bg.dz (c:=r) (s:=s.bh i j) h
  obtain⟨h3,h4⟩:=bg.fY h1
  refine⟨h3,fun i' j' hm p=> ?_⟩
  rcases List.mem_cons.1 hm with e|hm
  ·cases e;exact h4 p
  ·exact h2 i' j' hm p
theorem bg.close{s:State}{i j:Nat}{p:List Nat}:¬bg (s.close [(i,j)]) (.c i j p):=fun h=>(bg.dz h).2 i j (by simp) p rfl
def ag.turn(X:ag)(i j:Nat)(q:List Nat->Place):ag:=
 {X with ow:=fun g=>match X.ow g with
  | .row (.c i' j' p) n=>if i'=i/\j'=j then .row (q p) n else .row (.c i' j' p) n
  |w=>w}
theorem uO{s:State}{X:ag}{i j:Nat}{q:List Nat->Place}(h:∀p,¬bg s (.c i j p)):bG s X (X.turn i j q):=by
 refine⟨rfl,rfl,fun g=> ?_⟩
 simp only[ag.turn]
 cases hg:X.ow g with
 |row pl n=>
  cases pl with
  |c i' j' p=>
   by_cases e:i'=i/\j'=j
   ·obtain⟨rfl,rfl⟩:=e
    exact .inr ⟨_,n,q p,rfl,h p,by simp⟩
   ·exact .inl (by simp [e])
  |_=>exact .inl rfl
 |_=>exact .inl rfl
theorem aD.eA{X:ag}{i j:Nat}{q:List Nat->Place}{p:List Nat}{e:TypeId}{k n:Nat}{v:Value}(h:aD X (.c i j p) e k n v):aD (X.turn i j q) (q p) e k n v:=by
 rcases h with h|⟨g,cap,cur,h1,h2,h3,h4,h5,h6⟩
 ·exact .inl h
 ·exact .inr ⟨g,cap,cur,h1,h2,h3,h4,h5,by simp [ag.turn,h6]⟩
theorem aC.eA{X:ag}{i j:Nat}{q:List Nat->Place}{t:Ty}{x:El t}{cs:List Value}{own:List (List Nat)}(h:aC X (.c i j) t x cs own):aC (X.turn i j q) q t x cs own:=fun p hp=>by
 obtain⟨e,t',xs,v,g0,g1,g2,g3⟩:=h p hp
 exact⟨e,t',xs,v,g0,g1,g2,g3.eA⟩
def ea(X Y:ag):Prop:=Y.w=X.w/\∀g pl n,X.ow g= .row pl n->(∀i j p,pl≠ .c i j p)->Y.ow g= .row pl n
theorem Al{X:ag}{i j:Nat}{q:List Nat->Place}:ea X (X.turn i j q):=⟨rfl,fun g pl n h hp=>by
 simp only[ag.turn,h]
 cases pl with
 |c i' j' p=>exact absurd rfl (hp i' j' p)
 |_=>rfl⟩
theorem ea.refl(X:ag):ea X X:=⟨rfl,fun _ _ _ h _=>h⟩
theorem aC.stay{X Y:ag}(h:ea X Y){pl:List Nat->Place}(hp:∀r i j p,pl r≠ .c i j p){t:Ty}{x:El t}{cs:List Value}{own:List (List Nat)}(ho:aC X pl t x cs own):aC Y pl t x cs own:=fun p hm=>by
 obtain⟨e,t',xs,v,g0,g1,g2,g3⟩:=ho p hm
 refine⟨e,t',xs,v,g0,g1,g2,?_⟩
 rcases g3 with h0|⟨g,cap,cur,h1,h2,h3,h4,h5,h6⟩
 ·exact .inl h0
 ·exact .inr ⟨g,cap,cur,h1,by rw[h.1];exact h2,h3,h4,h5,h.2 g _ _ h6 (hp p)⟩
theorem Rel.take{X:ag}{s:State}{a:Act}(hr:Rel X s a){i j:Nat}{t:Ty}{x:El t}{w:List (List Nat)}{v:Value}(h:ah X (.c i j) (.aj t x w) v)(q:List Nat->Place):
 ∃Y,Y.w=X.w/\Ext X Y/\Rel Y (s.close [(i,j)]) a/\ah Y q (.aj t x w) v/\Y.β=X.β/\bG (s.close [(i,j)]) X Y/\ea X Y:=by
 obtain⟨cs,h1,h2,h3⟩:=h
 have hT:bG (s.close [(i,j)]) X (X.turn i j q):=uO fun p=>bg.close
 exact⟨X.turn i j q,rfl,hT.ext,(hr.close _).mod hT.mod,⟨cs,h1.af (fun _ _=>hT.ai.1),h2,h3.eA⟩,rfl,hT,Al⟩
def ag.bN(X:ag)(i d:Nat):ag:=
 {X with ow:=fun g=>match X.ow g with
  | .row (.c i' j' p) n=>if i'=i then .row (.c d j' p) n else .row (.c i' j' p) n
  |w=>w}
theorem uN(t:Nat):∀(n j:Nat),j<n->(t,j)∈dA t n
 |0,j,h=>absurd h (Nat.not_lt_zero j)
 |n+1,j,h=>by
  rcases Nat.lt_or_ge j n with h1|h1
  ·exact List.mem_cons_of_mem _ (uN t n j h1)
  ·have:j=n:=by omega
   subst this
   simp [dA]
theorem bg.closeAll{s:State}{t j:Nat}{p:List Nat}:¬bg (s.close (dA t (s.slot t).length)) (.c t j p):=fun h=>by
 obtain⟨h1,h2⟩:=bg.dz h
 obtain⟨l,ty,x,own,g1,g2,g3⟩:=h1
 have hl:s.slot t=l:=by simp [State.slot,g1]
 have hj:j<l.length:=(List.getElem?_eq_some_iff.1 g2).1
 exact h2 t j (uN t _ j (by rw[hl];exact hj)) p rfl
theorem xP{s:State}{X:ag}{i d:Nat}(h:∀j p,¬bg s (.c i j p)):bG s X (X.bN i d):=by
 refine⟨rfl,rfl,fun g=> ?_⟩
 simp only[ag.bN]
 cases hg:X.ow g with
 |row pl n=>
  cases pl with
  |c i' j' p=>
   by_cases e:i'=i
   ·subst e
    exact .inr ⟨_,n,.c d j' p,rfl,h j' p,by simp⟩
   ·exact .inl (by simp [e])
  |_=>exact .inl rfl
 |_=>exact .inl rfl
theorem aD.cS{X:ag}{i d j:Nat}{p:List Nat}{e:TypeId}{k n:Nat}{v:Value}(h:aD X (.c i j p) e k n v):aD (X.bN i d) (.c d j p) e k n v:=by
 rcases h with h|⟨g,cap,cur,h1,h2,h3,h4,h5,h6⟩
 ·exact .inl h
 ·exact .inr ⟨g,cap,cur,h1,h2,h3,h4,h5,by simp [ag.bN,h6]⟩
theorem ah.cS{s:State}{X:ag}{i d j:Nat}{sv:SV}{v:Value}(hT:bG s X (X.bN i d))(h:ah X (.c i j) sv v):ah (X.bN i d) (.c d j) sv v:=by
 cases sv with
 |aj t x own=>
  obtain⟨cs,h1,h2,h3⟩:=h
  refine⟨cs,h1.af (fun _ _=>hT.ai.1),h2,fun p hp=> ?_⟩
  obtain⟨e,t',xs,v,g0,g1,g2,g3⟩:=h3 p hp
  exact⟨e,t',xs,v,g0,g1,g2,g3.cS⟩
 |view t x=>
  obtain⟨ad,cs,h1,h2,h3,h4⟩:=h
  exact⟨ad,cs,h1,h2,h3.af (fun _ _=>hT.ai.1),fun i u hi=>hT.ai.1 (h4 i u hi)⟩
 |cap f t x u y=>exact ij (fun _ _=>hT.ai.1) h
 |_=>exact h
theorem Rel.iW{X:ag}{s:State}{a:Act}(hr:Rel X s a){t:Nat}{v:Value}(h:bj X (.c t) (s.slot t) v)(d:Nat):
 ∃Y,Y.w=X.w/\Ext X Y/\Rel Y (s.close (dA t (s.slot t).length)) a/\bj Y (.c d) (s.slot t) v:=by
 have hT:bG (s.close (dA t (s.slot t).length)) X (X.bN t d):=xP fun j p=>bg.closeAll
 exact⟨X.bN t d,rfl,hT.ext,(hr.close _).mod hT.mod,h.dE fun j sv u hj hu=>hu.cS hT⟩
def zb:Ty->List Value
 | .bool=>[.bool false]
 | .int k=>[.int k 0]
 | .str=>[.string ⟨#[]⟩]
 | .sl _ _=>[.slice none 0 0]
 | .aK n t=>(List.replicate n (zb t)).flatten
 | .unit=>[]
 | .pair a b=>zb a++zb b
 | .aF _ _ _=>[]
def zl(E:Env):List Field->Ty->Nat->Prop
 | [],.unit,_=>True
 |f::r,.pair a b,off=>f.offset=off/\E.ty f.type=some a/\f.name≠ "_" /\zl E r b (off+a.cells)
 |_,_,_=>False
def vJ(P:Program)(E:Env)(T:TypeId):Ty->Prop
 | .bool=>P.underlying T=some .bool
 | .int k=>P.underlying T=some (.int k)
 | .str=>P.underlying T=some .string
 | .sl e t=>P.underlying T=some (.slice e)/\E.ty e=some t
 | .aK n t=>∃e,P.underlying T=some (.array n e)/\E.ty e=some t/\P.eqGuardType P.depth T=false
 | .aF _ _ _=>False
 |t=>∃fs,P.underlying T=some (.struct fs)/\zl E fs.toList t 0/\P.stoodInHeld T=false/\P.eqGuardType P.depth T=false
structure eb(P:Program)(E:Env)(T:TypeId)(t:Ty):Prop where
 info:∃i,P.info? T=some i/\i.size=t.cells/\i.bytes=E.bytes T/\i.zero=some (bL t (zb t))
 bu:vJ P E T t
structure ae(P:Program)(E:Env):Prop where
 ty:∀T t,E.ty T=some t->eb P E T t
 pt:∀T,E.pt T=true->∃e,P.underlying T=some (.pointer e)
 mp:∀T k e,E.mp T=some (k,e)->P.underlying T=some (.map k e)
 bl:∀T e,E.bl T=some e->∃i,P.info? T=some i/\i.zero=some (.agg #[.pointer none,.slice none 0 0])
theorem ae.cR{P:Program}{E:Env}(hE:ae P E){T:TypeId}{t:Ty}(h:E.ty T=some t):t.aI=false:=by
 have:=(hE.ty T t h).bu
 cases t<;>first|rfl|exact this.elim
theorem zw:∀t:Ty,(zb t).length=t.cells
 | .bool=>rfl
 | .int _=>rfl
 | .str=>rfl
 | .sl _ _=>rfl
 | .unit=>rfl
 | .aK n t=>by simp [zb,Ty.cells,zw t]
 | .pair a b=>by simp [zb,Ty.cells,zw a,zw b]
 | .aF _ _ _=>rfl
theorem qw{l:List Value}{k:Nat}(hl:l.length=k):∀(n j:Nat),j<n->(((List.replicate n l).flatten).drop (j*k)).take k=l
 |0,j,h=>by omega
 |n+1,0,_=>by
  simp only[List.replicate_succ,List.flatten_cons,Nat.zero_mul,List.drop_zero]
  rw[<-hl];exact List.take_left
 |n+1,j+1,h=>by
  simp only[List.replicate_succ,List.flatten_cons]
  rw[Nat.add_mul,Nat.one_mul,Nat.add_comm,<-List.drop_drop]
  rw[show List.drop k (l++(List.replicate n l).flatten)=(List.replicate n l).flatten by rw[<-hl];exact List.drop_left]
  exact qw hl n j (by omega)
theorem hJ(X:ag):∀t:Ty,az X t (El.aM t) (zb t)
 | .bool=>rfl
 | .int _=>rfl
 | .str=>rfl
 | .unit=>rfl
 | .sl _ t=>⟨none,0,rfl,Nat.le_refl _,fun j x h=>by simp [El.aM] at h⟩
 | .aK n t=>by
   refine⟨by simp [El.aM],by simp [zb,zw],fun j x h=> ?_⟩
   have hj:j<n:=by
    have:=(List.getElem?_eq_some_iff.1 h).1
    simpa [El.aM] using this
   have hx:x=El.aM t:=by
    simp only[El.aM,List.getElem?_replicate] at h
    rw[if_pos hj] at h
    exact(Option.some.inj h).symm
   subst hx
   have:=qw (zw t) n j hj
   simp only[zb]
   rw[this]
   exact hJ X t
 | .pair a b=>⟨zb a,zb b,rfl,hJ X a,hJ X b⟩
 | .aF _ _ _=>rfl
theorem m7{t:Ty}{c:Value}(h:t.agg=false):bL t [c]=c:=by simp [bL,h]
theorem zj{t:Ty}{cs:List Value}(h:t.agg=true):bL t cs= .agg cs.toArray:=by simp [bL,h]
theorem jb{t:Ty}{X:ag}{x:El t}{cs:List Value}(h:az X t x cs):(bL t cs).cells=cs.toArray:=by
 cases ht:t.agg with
 |true=>rw[zj ht];rfl
 |false=>
  have hl:=h.len
  have h1:=h.one
  have hc:t.cells=1:=by cases t<;>simp_all [Ty.agg,Ty.cells]
  rw[hc] at hl
  match cs,hl with
  | [c],_=>
    rw[m7 ht]
    have:=h1 c (by simp)
    cases c<;>simp_all [Value.oneCell',Value.cells]
theorem zi{R:Type}{s:SV}{u:Ty}{K:El u->Option R}{z:R}(h:s.el u K=some z):
 ∃y,K y=some z/\∀(X:ag) pl v,ah X pl s v->∃cs,az X u y cs/\v=bL u cs:=by
 cases s with
 |aj t x own=>
  simp only[SV.el] at h
  split at h
  ·rename_i he
   have e:=Ty.av he
   subst e
   exact⟨x,h,fun X pl v hv=>by obtain⟨cs,h1,h2,_⟩:=hv;exact⟨cs,h1,h2⟩⟩
  ·cases h
 |bc=>
  cases u<;>simp only[SV.el] at h<;>first|cases h|skip
  rename_i e t
  refine⟨[],h,fun X pl v hv=>⟨[.slice none 0 0],⟨none,0,rfl,Nat.le_refl _,fun j x hj=>by simp at hj⟩,hv⟩⟩
 |_=>simp [SV.el] at h
theorem zs{X:ag}{k:IntKind}{n:Int}{cs:List Value}(h:az X (.int k) n cs):bL (.int k) cs= .int k n:=by cases h;rfl
theorem iq{X:ag}{b:Bool}{cs:List Value}(h:az X .bool b cs):bL .bool cs= .bool b:=by cases h;rfl
theorem zv{X:ag}{s:ByteArray}{cs:List Value}(h:az X .str s cs):bL .str cs= .string s:=by cases h;rfl
theorem zr{X:ag}{pl:List Nat->Place}{t:Ty}{x:El t}{cs:List Value}:aC X pl t x cs []:=fun p hp=>by cases hp
theorem zg{X:ag}{pl:List Nat->Place}{k:IntKind}{n:Int}:ah X pl (.aj (.int k) n []) (.int k n):=⟨[.int k n],rfl,rfl,zr⟩
theorem zm{X:ag}{pl:List Nat->Place}{b:Bool}:ah X pl (.aj .bool b []) (.bool b):=⟨[.bool b],rfl,rfl,zr⟩
theorem kY{X:ag}{pl:List Nat->Place}{s:ByteArray}:ah X pl (.aj .str s []) (.string s):=⟨[.string s],rfl,rfl,zr⟩
theorem zz{X:ag}{pl:List Nat->Place}{k:IntKind}{n:Int}{o:List (List Nat)}{v:Value}(h:ah X pl (.aj (.int k) n o) v):v= .int k n:=by
 obtain⟨cs,h1,h2,_⟩:=h
 rw[h2,zs h1]
theorem mK{X:ag}{pl:List Nat->Place}{b:Bool}{o:List (List Nat)}{v:Value}(h:ah X pl (.aj .bool b o) v):v= .bool b:=by
 obtain⟨cs,h1,h2,_⟩:=h
 rw[h2,iq h1]
theorem tL{X:ag}{pl:List Nat->Place}{s:ByteArray}{o:List (List Nat)}{v:Value}(h:ah X pl (.aj .str s o) v):v= .string s:=by
 obtain⟨cs,h1,h2,_⟩:=h
 rw[h2,zv h1]
def kh:Operand->List Nat->Place
 | .tmp t=> .c t 0
 |_=> .r 0
theorem xS(X:ag)(pl:List Nat->Place)(v:Value):ah X pl (jG v) v:=by
 unfold jG
 split
 ·exact zm
 ·exact zg
 ·exact kY
 ·rfl
 ·rfl
 ·trivial
theorem Rel.slot{X:ag}{s:State}{a:Act}(hr:Rel X s a)(t:Nat):bj X (.c t) (s.slot t) (a.tmps.getD t Go.undef):=by
 by_cases h:t<s.sl.length
 ·refine hr.aL t _ _ (jg h) ?_
  have:=hr.size
  simp [Array.getElem?_eq_getElem (show t<a.tmps.size by omega)]
 ·have:s.slot t=[.undef]:=by simp [State.slot,List.getElem?_eq_none (show s.sl.length<=t by omega)]
  rw[this]
  trivial
theorem Rel.ak{X:ag}{s:State}{a:Act}(hr:Rel X s a)(x:Operand):ah X (kh x) (s.ak x) (a.eval x):=by
 cases x with
 |tmp t=>
  have h:=hr.slot t
  unfold State.ak State.iS
  simp only[kh,Act.eval]
  match hl:s.slot t with
  | []=>trivial
  | [sv]=>rw[hl] at h;exact h
  |_::_::_=>trivial
 |const v=>exact xS X _ v
 |_=>trivial
theorem jI{X:ag}{s:State}{a:Act}(hr:Rel X s a){x:Operand}{id:Nat}{t:Ty}{p:List Nat}(h:s.ak x= .ptr id t p):∃B,s.bs[id]? =some (some B):=by
 cases x with
 |tmp i=>
  unfold State.ak State.iS at h
  simp only at h
  by_cases hi:i<s.sl.length
  ·refine hr.live i _ id t p (jg hi) ?_
   match hl:s.slot i,h with
   | [sv],h=>have:sv= .ptr id t p:=h;simp [this]
   | [],h=>simp [one] at h
   |_::_::_,h=>simp [one] at h
  ·have:s.slot i=[.undef]:=by simp [State.slot,List.getElem?_eq_none (Nat.le_of_not_lt hi)]
   rw[this] at h
   simp [one] at h
 |const v=>unfold State.ak State.iS jG at h;simp only[one] at h;split at h<;>simp at h
 |_=>simp [State.ak,State.iS,one] at h
theorem Rel.fin{Y:ag}{s:State}{a:Act}(hr:Rel Y s a){dst:Option Nat}{l:List SV}{v:Value}(h:bj Y (.c (dst.getD 0)) l v)(hl:∀id t p,SV.ptr id t p∈l->∃B,s.bs[id]? =some (some B)):Rel Y (s.ar dst l) (a.put dst v):=
 hr.put (fun d' e=>by subst e;exact h) hl
def al(P:Program)(X:ag)(s:State)(a:Act)(o:Oper)(u:Out):Prop:=
 ∃Y v,((execOp a.eval o).run P X.w= .ok (.value v) Y.w\/((execOp a.eval o).run P X.w= .ok .skip Y.w/\v=Go.undef))/\Ext X Y/\Rel Y (s.apply o.dst u) (a.put o.dst v)
theorem al.plain{P:Program}{X:ag}{s:State}{a:Act}{o:Oper}(hr:Rel X s a){sv:SV}{v:Value}
 (h:(execOp a.eval o).run P X.w= .ok (.value v) X.w) (hv:ah X (.c (o.dst.getD 0) 0) sv v) (hl:∀id t p,sv= .ptr id t p->∃B,s.bs[id]? =some (some B)):al P X s a o {v:=[sv]}:=
 ⟨X,v,.inl h,Ext.refl X,hr.fin hv (fun id t p hm=>hl id t p (by have h':=hm;simp at h';exact h'.symm))⟩
theorem al.jy{P:Program}{X:ag}{s:State}{a:Act}{o:Oper}(hr:Rel X s a){i j:Nat}{t:Ty}{x:El t}{w:List (List Nat)}{v:Value}
 (h:(execOp a.eval o).run P X.w= .ok (.value v) X.w) (hv:ah X (.c i j) (.aj t x w) v):al P X s a o {v:=[.aj t x w],cl:=[(i,j)]}:=by
 obtain⟨Y,h1,h2,h3,h4,_,_,_⟩:=hr.take hv (.c (o.dst.getD 0) 0)
 refine⟨Y,v,.inl (by rw[h1];exact h),h2,?_⟩
 exact h3.fin h4 (fun id t p hm=>by simp at hm)
variable {P:Program} {E:Env} {X:ag} {s:State} {a:Act} {o:Oper} {u:Out}
def Plain:SV->Prop
 | .aj _ _ (_::_)=>False
 |_=>True
theorem ah.place{pl de:List Nat->Place}{sv:SV}{v:Value}(h:ah X pl sv v)(hp:Plain sv):ah X de sv v:=by
 cases sv with
 |aj t x w=>
  cases w with
  |nil=>
   obtain⟨cs,h1,h2,_⟩:=h
   exact⟨cs,h1,h2,zr⟩
  |cons p w=>exact hp.elim
 |_=>exact h
theorem ah.bare{pl de:List Nat->Place}{t:Ty}{x:El t}{w:List (List Nat)}{v:Value}(h:ah X pl (.aj t x w) v):ah X de (.aj t x []) v:=by
 obtain⟨cs,h1,h2,_⟩:=h
 exact⟨cs,h1,h2,zr⟩
theorem qR{v:Value}{t:Ty}{y:El t}{w:List (List Nat)}(h:jG v= .aj t y w):w=[]:=by
 unfold jG at h
 split at h<;>simp at h
 ·obtain⟨rfl,_,rfl⟩:=h;rfl
 ·obtain⟨rfl,_,rfl⟩:=h;rfl
 ·obtain⟨rfl,_,rfl⟩:=h;rfl
theorem BI{x:Operand}{t:Ty}{y:El t}{w:List (List Nat)}(h:s.ak x= .aj t y w)(hw:w≠ []):∃i,x= .tmp i:=by
 cases x with
 |tmp i=>exact⟨i,rfl⟩
 |const v=>exact absurd (qR h) hw
 |_=>simp [State.ak,State.iS,one] at h
theorem uJ(hr:Rel X s a){x:Operand}(h:(execOp a.eval o).run P X.w= .ok (.value (a.eval x)) X.w)(hp:Plain (s.ak x)):al P X s a o {v:=[s.ak x]}:=
 al.plain hr h ((hr.ak x).place hp) (fun id t p e=>jI hr e)
theorem z87(hr:Rel X s a){x:Operand}{t:Ty}{y:El t}{w:List (List Nat)}(aA:(execOp a.eval o).run P X.w= .ok (.value (a.eval x)) X.w)(e:s.ak x= .aj t y w):al P X s a o {v:=[.aj t y w],cl:=z20 w x}:=by
 have aW:=hr.ak x
 rw[e] at aW
 cases hw:w with
 |nil=>
  subst hw
  exact al.plain hr aA aW.bare (fun _ _ _ h=>by cases h)
 |cons p w'=>
 rw[<-hw]
 have eE:z20 w x=src x:=by rw[hw];rfl
 rw[eE]
 clear hw
 cases x with
 |tmp i=>exact al.jy hr aA aW
 |const v=>
  have hw:=qR (show jG v= .aj t y w from e)
  subst hw
  exact al.plain hr aA aW.bare (fun _ _ _ h=>by cases h)
 |_=>simp [State.ak,State.iS,one] at e
theorem va(hr:Rel X s a){T:TypeId}{v:Value}{pl:List Nat->Place}(aA:(execOp a.eval o).run P X.w= .ok (.value v) X.w)(hv:ah X pl .bc v)(h:fu E T some=some u):al P X s a o u:=by
 unfold fu at h
 split at h
 ·cases h
  refine al.plain hr aA ⟨[.slice none 0 0],⟨none,0,rfl,Nat.le_refl _,fun j x hj=>by simp at hj⟩,hv,fun p hp=> ?_⟩ (fun _ _ _ e=>by cases e)
  rename_i e t _
  have hp:p=[]:=by simpa using hp
  subst hp
  exact⟨e,t,[],_,by simp [Ty.b5],rfl,rfl,.inl ⟨rfl,rfl⟩⟩
 ·cases h
  exact al.plain hr aA hv (fun _ _ _ e=>by cases e)
theorem ah.bZ{pl de:List Nat->Place}{sv:SV}{v:Value}(hr:ah X pl sv v):ah X de sv.shut v:=by
 cases sv with
 |aj t x own=>
  obtain⟨cs,h1,h2,_⟩:=hr
  exact⟨cs,h1,h2,zr⟩
 |_=>exact hr
theorem bj.bZ{pl de:Nat->List Nat->Place}{l:List SV}{v:Value}(hr:bj X pl l v):bj X de (l.map SV.shut) v:=by
 match l,hr with
 | [s],hr=>exact ah.bZ hr
 | [],⟨vs,h1,h2,h3⟩=>exact⟨vs,h1,h2,fun j s u hs=>by simp at hs⟩
 |x::y::r,⟨vs,h1,h2,h3⟩=>
  refine⟨vs,h1,by simpa using h2,fun j s u hs hu=> ?_⟩
  have hs:((x::y::r).map SV.shut)[j]? =some s:=hs
  rw[List.getElem?_map] at hs
  obtain⟨s0,cz,rfl⟩:=Option.map_eq_some_iff.1 hs
  exact ah.bZ (h3 j s0 u cz hu)
theorem zA(hr:Rel X s a){ops:List Oper}{x:Operand}(ho:o.op= .move x){C:FuncId->aJ Out}(h:act E C ops o s some=some u):al P X s a o u:=by
 have aA:(execOp a.eval o).run P X.w= .ok (.value (a.eval x)) X.w:=by simp [execOp,ho]
 unfold act at h
 simp only[ho] at h
 have aW:=hr.ak x
 cases ht:eZ s x with
 |some tl=>
  obtain⟨t,l⟩:=tl
  rw[ht] at h
  cases x with
  |tmp i=>
   change(bif Nat.beq (s.slot i).length 1 then none else some (i,s.slot i))=some (t,l) at ht
   cases hb:Nat.beq (s.slot i).length 1 with
   |true=>rw[hb] at ht;cases ht
   |false=>
    rw[hb] at ht
    cases ht
    have l7:∀id ty p,SV.ptr id ty p∈s.slot t->∃B,s.bs[id]? =some (some B):=fun id ty p hm=>by
     by_cases aw:t<s.sl.length
     ·exact hr.live t _ id _ p (jg aw) hm
     ·have:s.slot t=[.undef]:=by simp [State.slot,List.getElem?_eq_none (Nat.le_of_not_lt aw)]
      rw[this] at hm
      simp at hm
    cases tf:Go.Ref.bZ E o.dst with
    |true=>
     rw[tf] at h
     cases h
     refine⟨X,_,.inl aA,Ext.refl X,?_⟩
     refine Rel.fin hr (bj.bZ (hr.slot t)) (fun id ty p hm=> ?_)
     obtain⟨s0,cz,he⟩:=List.mem_map.1 hm
     rw[n4 he] at cz
     exact l7 id ty p cz
    |false=>
    rw[tf] at h
    cases h
    cases bk:(s.slot t).all fun v=>v.own.isEmpty with
    |true=>
     refine⟨X,_,.inl aA,Ext.refl X,?_⟩
     refine Rel.fin hr ((hr.slot t).dE fun j sv u hj hu=> ?_) (fun id ty p hm=> ?_)
     ·have:=List.all_eq_true.1 bk sv (List.mem_of_getElem? hj)
      refine hu.place ?_
      cases sv with
      |aj ty y w=>
       cases w with
       |nil=>trivial
       |cons p w=>simp [SV.own] at this
      |_=>trivial
     ·by_cases aw:t<s.sl.length
      ·exact hr.live t _ id _ p (jg aw) hm
      ·have:s.slot t=[.undef]:=by simp [State.slot,List.getElem?_eq_none (Nat.le_of_not_lt aw)]
       rw[this] at hm
       simp at hm
    |false=>
    obtain⟨Y,h1,h2,h3,h4⟩:=hr.iW (hr.slot t) (o.dst.getD 0)
    refine⟨Y,_,.inl (by rw[h1];exact aA),h2,?_⟩
    refine h3.fin h4 (fun id ty p hm=> ?_)
    by_cases aw:t<s.sl.length
    ·obtain⟨B,hB⟩:=hr.live t _ id _ p (jg aw) hm
     exact⟨B,by rw[jc];exact hB⟩
    ·have:s.slot t=[.undef]:=by simp [State.slot,List.getElem?_eq_none (Nat.le_of_not_lt aw)]
     rw[this] at hm
     simp at hm
  |_=>cases ht
 |none=>
 rw[ht] at h
 simp only at h
 split at h
 ·rename_i t y w e
  rw[e] at aW
  cases hb:(z72 ops o.dst||takes E o.dst) with
  |true=>
   rw[hb] at h
   cases h
   exact z87 hr aA e
  |false=>
   rw[hb] at h
   cases h
   exact al.plain hr aA aW.bare (fun _ _ _ h=>by cases h)
 ·cases h
 ·rename_i e
  rw[e] at aW
  exact va hr aA aW h
 ·rename_i h1 h2 h3
  cases h
  refine uJ hr aA ?_
  cases hx:s.ak x with
  |aj t y w=>exact absurd hx (h1 t y w)
  |_=>trivial
theorem xU(hr:Rel X s a){ops:List Oper}{x:Operand}(ho:o.op= .assign x){C:FuncId->aJ Out}(h:act E C ops o s some=some u):al P X s a o u:=by
 have aA:(execOp a.eval o).run P X.w= .ok (.value (a.eval x)) X.w:=by simp [execOp,ho]
 unfold act at h
 simp only[ho] at h
 have aW:=hr.ak x
 split at h
 ·rename_i t y w e
  rw[e] at aW
  cases h
  exact z87 hr aA e
 ·cases h
 ·rename_i e
  rw[e] at aW
  exact va hr aA aW h
 ·rename_i h1 h2 h3
  cases h
  refine uJ hr aA ?_
  cases hx:s.ak x with
  |aj t y w=>exact absurd hx (h1 t y w)
  |_=>trivial
theorem zE(hr:Rel X s a){ops:List Oper}{c x y:Operand}(ho:o.op= .pick c x y){C:FuncId->aJ Out}(h:act E C ops o s some=some u):al P X s a o u:=by
 unfold act at h
 simp only[ho] at h
 have hc:=hr.ak c
 split at h
 ·rename_i p w e
  rw[e] at hc
  have hv:=mK hc
  have key:∀z,al P X s a o {v:=[(s.ak z).shut]}\/(execOp a.eval o).run P X.w≠ .ok (.value (a.eval z)) X.w:=by
   intro z
   by_cases hz:(execOp a.eval o).run P X.w= .ok (.value (a.eval z)) X.w
   ·refine .inl (al.plain hr hz (hr.ak z).shut (fun id t p e=> ?_))
    exact jI hr (n4 e)
   ·exact .inr hz
  cases p with
  |true=>
   cases h
   exact(key x).resolve_right (by simp [execOp,ho,hv,asBool])
  |false=>
   cases h
   exact(key y).resolve_right (by simp [execOp,ho,hv,asBool])
 ·cases h
theorem nM(op:BinOp)(T:TypeId)(x y:Operand)(k k':IntKind)(m n:Int)(w:World):(eqGuard op T x y (.int k m) (.int k' n)).run P w= .ok () w:=by
 cases op<;>simp [eqGuard]
theorem tE(op:BinOp)(T:TypeId)(x y:Operand)(m n:ByteArray)(w:World):(eqGuard op T x y (.string m) (.string n)).run P w= .ok () w:=by
 cases op<;>simp [eqGuard]
theorem xv(op:BinOp)(T:TypeId)(x y:Operand)(m n:Bool)(w:World):(eqGuard op T x y (.bool m) (.bool n)).run P w= .ok () w:=by
 cases op<;>simp [eqGuard]
theorem rf{op:BinOp}{T:TypeId}{k k':IntKind}{m n:Int}{l:List SV}(w:World)(h:fO op k m k' n some=some l):
 ∃sv v,l=[sv]/\(Go.binOp op T (.int k m) (.int k' n)).run P w= .ok v w/\Plain sv/\(∀X pl,ah X pl sv v)/\∀id t p,sv≠ .ptr id t p:=by
 have done:∀{sv:SV} {v:Value},l=[sv]->(Go.binOp op T (.int k m) (.int k' n)).run P w= .ok v w->Plain sv->(∀X pl,ah X pl sv v)->(∀id t p,sv≠ .ptr id t p)->∃sv v,l=[sv]/\(Go.binOp op T (.int k m) (.int k' n)).run P w= .ok v w/\Plain sv/\(∀X pl,ah X pl sv v)/\∀id t p,sv≠ .ptr id t p:=fun h1 h2 h3 h4 h5=>⟨_,_,h1,h2,h3,h4,h5⟩
 have pi:∀{k:IntKind} {n:Int},Plain (.aj (.int k) n []):=trivial
 have pb:∀{b:Bool},Plain (.aj .bool b []):=trivial
 unfold fO at h
 cases op
 case shl=>
  simp only at h
  cases hd:decide (n<0) with
  |true=>rw[hd] at h;cases h
  |false=>
   rw[hd] at h;cases h
   have:¬n<0:=of_decide_eq_false hd
   exact done rfl (by simp [Go.binOp,Op.shift,this]) pi (fun _ _=>zg) (by simp)
 case shr=>
  simp only at h
  cases hd:decide (n<0) with
  |true=>rw[hd] at h;cases h
  |false=>
   rw[hd] at h;cases h
   have:¬n<0:=of_decide_eq_false hd
   exact done rfl (by simp [Go.binOp,Op.shift,this]) pi (fun _ _=>zg) (by simp)
 all_goals
  simp only at h
  split at h
  case isFalse=>cases h
  rename_i hk
  subst hk
 case quo=>
  cases hd:decide (n=0) with
  |true=>rw[hd] at h;cases h
  |false=>
   rw[hd] at h;cases h
   have:¬n=0:=of_decide_eq_false hd
   exact done rfl (by simp [Go.binOp,Op.intDiv,this]) pi (fun _ _=>zg) (by simp)
 case rem=>
  cases hd:decide (n=0) with
  |true=>rw[hd] at h;cases h
  |false=>
   rw[hd] at h;cases h
   have:¬n=0:=of_decide_eq_false hd
   exact done rfl (by simp [Go.binOp,Op.intDiv,this]) pi (fun _ _=>zg) (by simp)
 case add=>cases h;exact done rfl (by simp [Go.binOp,Op.intArith]) pi (fun _ _=>zg) (by simp)
 case sub=>cases h;exact done rfl (by simp [Go.binOp,Op.intArith]) pi (fun _ _=>zg) (by simp)
 case mul=>cases h;exact done rfl (by simp [Go.binOp,Op.intArith]) pi (fun _ _=>zg) (by simp)
 case and=>cases h;exact done rfl (by simp only[Go.binOp,ne_eq,not_true_eq_false,if_false];rfl) pi (fun _ _=>zg) (by simp)
 case or=>cases h;exact done rfl (by simp only[Go.binOp,ne_eq,not_true_eq_false,if_false];rfl) pi (fun _ _=>zg) (by simp)
 case xor=>cases h;exact done rfl (by simp only[Go.binOp,ne_eq,not_true_eq_false,if_false];rfl) pi (fun _ _=>zg) (by simp)
 case andNot=>cases h;exact done rfl (by simp only[Go.binOp,ne_eq,not_true_eq_false,if_false];rfl) pi (fun _ _=>zg) (by simp)
 case eql=>cases h;exact done rfl (by simp only[Go.binOp,ne_eq,not_true_eq_false,if_false];rfl) pb (fun _ _=>zm) (by simp)
 case neq=>cases h;exact done rfl (by simp only[Go.binOp,ne_eq,not_true_eq_false,if_false];rfl) pb (fun _ _=>zm) (by simp)
 case lss=>cases h;exact done rfl (by simp only[Go.binOp,ne_eq,not_true_eq_false,if_false];rfl) pb (fun _ _=>zm) (by simp)
 case leq=>cases h;exact done rfl (by simp only[Go.binOp,ne_eq,not_true_eq_false,if_false];rfl) pb (fun _ _=>zm) (by simp)
 case gtr=>cases h;exact done rfl (by simp only[Go.binOp,ne_eq,not_true_eq_false,if_false];rfl) pb (fun _ _=>zm) (by simp)
 case geq=>cases h;exact done rfl (by simp only[Go.binOp,ne_eq,not_true_eq_false,if_false];rfl) pb (fun _ _=>zm) (by simp)
end Go.Ref

namespace Go.Ref
open Go
variable {P:Program} {E:Env} {X:ag} {s:State} {a:Act} {o:Oper} {u:Out}
theorem oq(x y:ByteArray):(x.toList==y.toList)=decide (x=y):=by
 rw[ByteArray.toList_eq,ByteArray.toList_eq]
 by_cases h:x=y
 ·subst h;simp
 ·have:¬x.data.toList=y.data.toList:=fun e=>h (by
   cases x;cases y
   congr
   exact Array.toList_inj.1 e)
  rw[beq_eq_false_iff_ne.2 this,decide_eq_false h]
theorem AA{op:BinOp}{T:TypeId}{m n:ByteArray}{l:List SV}(w:World)(h:fP op m n some=some l):
 ∃sv v,l=[sv]/\(Go.binOp op T (.string m) (.string n)).run P w= .ok v w/\Plain sv/\(∀X pl,ah X pl sv v)/\∀id t p,sv≠ .ptr id t p:=by
 have pb:∀{b:Bool},Plain (.aj .bool b []):=trivial
 unfold fP at h
 cases op<;>simp only at h<;>first|(cases h;done)|skip
 case add=>
  cases hd:decide (m.size+n.size<=9223372036854775807) with
  |false=>rw[hd] at h;cases h
  |true=>
   rw[hd] at h;cases h
   have h1:=of_decide_eq_true hd
   have h2:¬((((m.size+n.size:Nat)):Int)>IntKind.i64.max):=by
    show¬((((m.size+n.size:Nat)):Int)>9223372036854775807)
    omega
   refine⟨_,_,rfl,?_,trivial,fun _ _=>kY,by simp⟩
   simp only[Go.binOp,Op.stringOp]
   rw[if_neg h2]
   rfl
 all_goals
  cases h
  refine⟨_,_,rfl,?_,pb,fun _ _=>zm,by simp⟩
  simp only[Go.binOp,Op.stringOp,oq]
  rfl
theorem uz(hE:ae P E){T:TypeId}{t:Ty}(ht:E.ty T=some t)(w:World):(isAgg T).run P w= .ok t.agg w:=by
 have hu:=(hE.ty T t ht).bu
 cases t
 case bool=>simp [isAgg,run_underlying hu,Ty.agg]
 case int=>simp [isAgg,run_underlying hu,Ty.agg]
 case str=>simp [isAgg,run_underlying hu,Ty.agg]
 case sl=>simp [isAgg,run_underlying hu.1,Ty.agg]
 case aK=>obtain⟨e,h1,_⟩:=hu;simp [isAgg,run_underlying h1,Ty.agg]
 case unit=>obtain⟨fs,h1,_⟩:=hu;simp [isAgg,run_underlying h1,Ty.agg]
 case pair=>obtain⟨fs,h1,_⟩:=hu;simp [isAgg,run_underlying h1,Ty.agg]
 case aF=>exact hu.elim
theorem zh(hE:ae P E){T:TypeId}{t:Ty}(ht:E.ty T=some t)(w:World):(sizeOf T).run P w= .ok t.cells w:=by
 obtain⟨i,h1,h2,_⟩:=(hE.ty T t ht).info
 simp [sizeOf,typeInfo,h1,h2]
theorem ko(hE:ae P E){T:TypeId}{t:Ty}(ht:E.ty T=some t){x:El t}{cs:List Value}(hr:az X t x cs){all:Array Value}{off:Nat}(ha:(all.toList.drop off).take t.cells=cs)(w:World):
 (part T all off).run P w= .ok (bL t cs) w:=by
 have hl:=hr.len
 unfold part
 simp only[Sem.run_bind,uz hE ht,Result.andThen_ok]
 cases hg:t.agg with
 |true=>
  simp only[if_true,Sem.run_bind,zh hE ht,Result.andThen_ok,Sem.run_pure,zj hg]
  congr 2
  apply Array.ext'
  rw[<-ha,Array.toList_extract,List.extract_eq_take_drop]
  simp
 |false=>
  simp only[Bool.false_eq_true,if_false]
  have hc:t.cells=1:=by cases t<;>simp_all [Ty.agg,Ty.cells]
  rw[hc] at hl ha
  match cs,hl with
  | [c],_=>
    rw[m7 hg]
    have bd:all[off]? =some c:=by
     have h1:(all.toList.drop off)[0]? =some c:=by
      have:=congrArg (fun l=>l[0]?) ha
      simpa [List.getElem?_take] using this
     simpa using h1
    simp [bd]
def na(d:Nat)(xs ys:Array Value)(f:Field)(_:Option Bool×Unit):Sem (ForInStep (Option Bool×Unit)):=
 if f.name≠ "_" then do
  let __do_lift<-part f.type xs f.offset
  let __do_lift_1<-part f.type ys f.offset
  let __do_lift<-Op.equalIn d f.type __do_lift __do_lift_1
  if(!__do_lift)=true then pure (ForInStep.done (some false,()))
   else pure (ForInStep.yield (none,()))
 else pure (ForInStep.yield (none,()))
theorem ua(hE:ae P E){d:Nat}{xs ys:Array Value}(w:World)
 (ih:∀(t:Ty) (T:TypeId),E.ty T=some t->t.depth<=d->∀(x y:El t) (c1 c2:List Value) (r:Bool),az X t x c1->az X t y c2->bA t x y=some r->(Op.equalIn d T (bL t c1) (bL t c2)).run P w= .ok r w):
 ∀(fl:List Field) (t:Ty) (off:Nat),zl E fl t off->t.depth<=d+1->∀(x y:El t) (c1 c2:List Value) (r:Bool),az X t x c1->az X t y c2->(xs.toList.drop off).take t.cells=c1->(ys.toList.drop off).take t.cells=c2->bA t x y=some r->
  (forIn fl (none,()) (na d xs ys)).run P w= .ok (if r=true then(none,()) else(some false,())) w:=by
 intro fl
 induction fl with
 |nil=>
  intro t off hf hd x y c1 c2 r h1 h2 h3 h4 he
  cases t<;>simp only[zl] at hf<;>try exact hf.elim
  simp only[bA,Option.some.injEq] at he
  subst he
  simp [List.forIn_nil]
 |cons f fl p6=>
  intro t off hf hd x y c1 c2 r h1 h2 h3 h4 he
  cases t<;>simp only[zl] at hf<;>try exact hf.elim
  rename_i ta tb
  obtain⟨ho,kH,hn,bX⟩:=hf
  obtain⟨ca,cb,e1,ra,rb⟩:=h1
  obtain⟨da,db,e2,sa,sb⟩:=h2
  simp only[bA] at he
  split at he
  case h_2=>cases he
  rename_i p q hp hq
  cases he
  simp only[Ty.depth] at hd
  have la:=ra.len
  have lb:=rb.len
  have ma:=sa.len
  have mb:=sb.len
  have t1:(xs.toList.drop off).take ta.cells=ca:=by
   have:=congrArg (fun l=>l.take ta.cells) (h3.trans e1)
   simp only[List.take_take,Ty.cells] at this
   rw[Nat.min_eq_left (Nat.le_add_right _ _),<-la,List.take_left] at this
   rw[<-la];exact this
  have t2:(ys.toList.drop off).take ta.cells=da:=by
   have:=congrArg (fun l=>l.take ta.cells) (h4.trans e2)
   simp only[List.take_take,Ty.cells] at this
   rw[Nat.min_eq_left (Nat.le_add_right _ _),<-ma,List.take_left] at this
   rw[<-ma];exact this
  have u1:(xs.toList.drop (off+ta.cells)).take tb.cells=cb:=by
   have:=congrArg (fun l=>l.drop ta.cells) (h3.trans e1)
   simp only[Ty.cells] at this
   rw[List.drop_take,Nat.add_sub_cancel_left,List.drop_drop,<-la,List.drop_left] at this
   rw[<-la];exact this
  have u2:(ys.toList.drop (off+ta.cells)).take tb.cells=db:=by
   have:=congrArg (fun l=>l.drop ta.cells) (h4.trans e2)
   simp only[Ty.cells] at this
   rw[List.drop_take,Nat.add_sub_cancel_left,List.drop_drop,<-ma,List.drop_left] at this
   rw[<-ma];exact this
  have fp:=ko hE kH ra (all:=xs) (off:=f.offset) (by rw[ho];exact t1) w
  have j9:=ko hE kH sa (all:=ys) (off:=f.offset) (by rw[ho];exact t2) w
  have heq:=ih ta f.type kH (by omega) x.1 y.1 ca da p ra sa hp
  have mm:(na d xs ys f (none,())).run P w= .ok (if p=true then ForInStep.yield (none,()) else ForInStep.done (some false,())) w:=by
   unfold na
   rw[if_pos hn]
   simp only[Sem.run_bind,fp,j9,heq,Result.andThen_ok]
   cases p<;>rfl
  rw[List.forIn_cons]
  simp only[Sem.run_bind,mm,Result.andThen_ok]
  cases p with
  |false=>rfl
  |true=>
   simp only[if_true,Bool.true_and]
   exact p6 tb (off+ta.cells) bX (by omega) x.2 y.2 cb db q rb sb u1 u2 hq
theorem zJ(hE:ae P E)(w:World){d n:Nat}{k:IntKind}{T e:TypeId}(ht:P.underlying T=some (.array n e))(he:E.ty e=some (.int k)){x y:List Int}{c1 c2:List Value}(r1:az X (.aK n (.int k)) x c1)(r2:az X (.aK n (.int k)) y c2):
 (Op.equalIn (d+2) T (.agg c1.toArray) (.agg c2.toArray)).run P w= .ok (decide (x=y)) w:=by
 obtain⟨l1,m1,e1⟩:=r1
 obtain⟨l2,m2,e2⟩:=r2
 have l1:x.length=n:=l1
 have l2:y.length=n:=l2
 have key:decide (x=y)=(List.range n).all fun i=>decide (x.getD i 0=y.getD i 0):=by
  by_cases nJ:x=y
  ·rw[decide_eq_true nJ]
   exact(List.all_eq_true.2 fun i _=>by rw[nJ];simp).symm
  ·rw[decide_eq_false nJ]
   cases ha:(List.range n).all fun i=>decide (x.getD i 0=y.getD i 0) with
   |false=>rfl
   |true=>
    refine absurd (List.ext_getElem (l1.trans l2.symm) fun i h1 h2=> ?_) nJ
    have:=of_decide_eq_true (List.all_eq_true.1 ha i (List.mem_range.2 (by omega)))
    simpa [List.getD_eq_getElem?_getD,List.getElem?_eq_getElem h1,List.getElem?_eq_getElem h2] using this
 rw[key,List.range_eq_range',Op.equalIn]
 simp only[Sem.run_bind,run_underlying ht,Result.andThen_ok,zh hE he,Std.Legacy.Range.forIn_eq_forIn_range',Std.Legacy.Range.size,Nat.sub_zero,Nat.add_sub_cancel,Nat.div_one]
 have hl:∀i∈List.range' 0 n 1,i<n:=fun i hi=>by simpa using(List.mem_range'_1.1 hi).2
 generalize List.range' 0 n 1=l at hl⊢
 induction l with
 |nil=>simp
 |cons i l ih=>
  have hi:i<n:=hl i (by simp)
  have g1:x[i]? =some (x.getD i 0):=by rw[List.getD_eq_getElem?_getD,List.getElem?_eq_getElem (by omega)];rfl
  have g2:y[i]? =some (y.getD i 0):=by rw[List.getD_eq_getElem?_getD,List.getElem?_eq_getElem (by omega)];rfl
  have p1:=e1 i (x.getD i 0) g1
  have p2:=e2 i (y.getD i 0) g2
  have px:=ko hE he p1 (all:=c1.toArray) (off:=i*(Ty.int k).cells) rfl w
  have py:=ko hE he p2 (all:=c2.toArray) (off:=i*(Ty.int k).cells) rfl w
  rw[zs p1] at px
  rw[zs p2] at py
  have pe:(Op.equalIn (d+1) e (.int k (x.getD i 0)) (.int k (y.getD i 0))).run P w= .ok (decide (x.getD i 0=y.getD i 0)) w:=by
   have hu:P.underlying e=some (.int k):=(hE.ty e _ he).bu
   unfold Op.equalIn
   simp only[Sem.run_bind,run_underlying hu,Result.andThen_ok,if_true,Sem.run_pure]
   rfl
  simp only[List.forIn_cons,Sem.run_bind,px,py,pe,Result.andThen_ok,List.all_cons]
  cases hb:decide (x.getD i 0=y.getD i 0)
  ·simp
  ·simp only[Bool.not_true,Bool.false_eq_true,if_false,Sem.run_pure,Result.andThen_ok,Bool.true_and]
   exact ih fun j hj=>hl j (by simp [hj])
theorem uw(hE:ae P E)(w:World):∀(d:Nat) (t:Ty) (T:TypeId),E.ty T=some t->t.depth<=d->∀(x y:El t) (c1 c2:List Value) (r:Bool),az X t x c1->az X t y c2->bA t x y=some r->(Op.equalIn d T (bL t c1) (bL t c2)).run P w= .ok r w:=by
 intro d
 induction d with
 |zero=>intro t T ht hd;cases t<;>simp only[Ty.depth] at hd<;>omega
 |succ d ih=>
  intro t T ht hd x y c1 c2 r h1 h2 he
  have hu:=(hE.ty T t ht).bu
  cases t with
  |bool=>
   rw[iq h1,iq h2]
   simp only[bA,Option.some.injEq] at he
   subst he
   unfold Op.equalIn
   simp only[Sem.run_bind,run_underlying hu,Result.andThen_ok,Sem.run_pure]
  |int k=>
   rw[zs h1,zs h2]
   simp only[bA,Option.some.injEq] at he
   subst he
   unfold Op.equalIn
   simp only[Sem.run_bind,run_underlying hu,Result.andThen_ok,if_true,Sem.run_pure]
   rfl
  |str=>
   rw[zv h1,zv h2]
   simp only[bA,Option.some.injEq] at he
   subst he
   unfold Op.equalIn
   simp only[Sem.run_bind,run_underlying hu,Result.andThen_ok,Sem.run_pure]
   rw[beq_toListBytes,oq]
  |sl e t=>simp [bA] at he
  |aK n t=>
   cases t<;>simp only[bA,Option.some.injEq,reduceCtorEq] at he
   rename_i k
   subst he
   obtain⟨e,dc,dt,_⟩:=hu
   obtain⟨d,rfl⟩:∃d',d=d'+1:=⟨d-1,by simp only[Ty.depth] at hd;omega⟩
   rw[zj rfl,zj rfl]
   exact zJ hE w dc dt h1 h2
  |aF _ _ _=>exact hu.elim
  |unit=>
   obtain⟨fs,dc,dt,nG,_⟩:=hu
   rw[zj rfl,zj rfl]
   unfold Op.equalIn
   simp only[Sem.run_bind,run_underlying dc,Result.andThen_ok,run_program,nG,Bool.false_eq_true,if_false]
   rw[<-Array.forIn_toList]
   have:=ua (X:=X) hE (d:=d) (xs:=c1.toArray) (ys:=c2.toArray) w ih fs.toList .unit 0 dt hd x y c1 c2 r h1 h2 (by have:=h1.len;simp [Ty.cells] at this⊢;subst this;rfl) (by have:=h2.len;simp [Ty.cells] at this⊢;subst this;rfl) he
   unfold na at this
   rw[this]
   simp only[Result.andThen_ok]
   cases r<;>rfl
  |pair ta tb=>
   obtain⟨fs,dc,dt,nG,_⟩:=hu
   rw[zj rfl,zj rfl]
   unfold Op.equalIn
   simp only[Sem.run_bind,run_underlying dc,Result.andThen_ok,run_program,nG,Bool.false_eq_true,if_false]
   rw[<-Array.forIn_toList]
   have:=ua (X:=X) hE (d:=d) (xs:=c1.toArray) (ys:=c2.toArray) w ih fs.toList (.pair ta tb) 0 dt hd x y c1 c2 r h1 h2 (by have:=h1.len;simp only[List.drop_zero];rw[<-this];exact List.take_length) (by have:=h2.len;simp only[List.drop_zero];rw[<-this];exact List.take_length) he
   unfold na at this
   rw[this]
   simp only[Result.andThen_ok]
   cases r<;>rfl
end Go.Ref

namespace Go.Ref
open Go
variable {P:Program} {E:Env} {X:ag} {s:State} {a:Act} {o:Oper} {u:Out}
theorem Az(hE:ae P E){op:BinOp}{T:TypeId}{x y:SV}{vx vy:Value}{px py:List Nat->Place}{l:List SV}(w:World)(xo yo:Operand)(hx:ah X px x vx)(hy:ah X py y vy)(h:fN E op T x y some=some l):
 ∃b:Bool,l=bl b/\(eqGuard op T xo yo vx vy).run P w= .ok () w/\(Go.binOp op T vx vy).run P w= .ok (.bool b) w:=by
 unfold fN at h
 split at h
 case h_2=>cases h
 rename_i t ht
 split at h
 ·cases h
 rename_i pq
 obtain⟨m,h,hm⟩:=zi h
 obtain⟨n,h,hn⟩:=zi h
 split at h
 case h_2=>cases h
 rename_i r hr
 obtain⟨c1,r1,e1⟩:=hm X px vx hx
 obtain⟨c2,r2,e2⟩:=hn X py vy hy
 have hd:t.depth<=10000:=by
  have:Nat.ble t.depth 1000=true:=by simpa using pq
  have:=Nat.le_of_ble_eq_true this
  omega
 have heq:=uw hE w 10000 t T ht hd m n c1 c2 r r1 r2 hr
 have hu:=(hE.ty T t ht).bu
 have hg:(eqGuard op T xo yo vx vy).run P w= .ok () w:=by
  cases t
  case bool=>rw[e1,e2,iq r1,iq r2];exact xv ..
  case int=>rw[e1,e2,zs r1,zs r2];exact nM ..
  case str=>rw[e1,e2,zv r1,zv r2];exact tE ..
  case sl=>simp [bA] at hr
  case aK=>
   obtain⟨fs,_,_,hq⟩:=hu
   rw[e1,e2,zj rfl,zj rfl]
   cases op<;>simp [eqGuard,hq]
  case aF=>simp [bA] at hr
  all_goals
   obtain⟨fs,_,_,_,hq⟩:=hu
   rw[e1,e2,zj rfl,zj rfl]
   cases op<;>simp [eqGuard,hq]
 split at h
 ·cases h
  refine⟨r,rfl,hg,?_⟩
  rw[e1,e2]
  cases t
  case int=>rw[zs r1,zs r2];simp only[bA,Option.some.injEq] at hr;subst hr;simp only[Go.binOp,ne_eq,not_true_eq_false,if_false];rfl
  case str=>rw[zv r1,zv r2];simp only[bA,Option.some.injEq] at hr;subst hr;simp only[Go.binOp,Op.stringOp,oq];rfl
  case bool=>rw[iq r1,iq r2] at heq⊢;simp only[Go.binOp,Sem.run_bind,Op.equal,Op.maxDepth,heq,Result.andThen_ok,Sem.run_pure]
  case sl=>simp [bA] at hr
  case aF=>simp [bA] at hr
  all_goals
   rw[zj rfl,zj rfl] at heq⊢
   simp only[Go.binOp,Sem.run_bind,Op.equal,Op.maxDepth,heq,Result.andThen_ok,Sem.run_pure]
 ·cases h
  refine⟨!r,rfl,hg,?_⟩
  rw[e1,e2]
  cases t
  case int=>rw[zs r1,zs r2];simp only[bA,Option.some.injEq] at hr;subst hr;simp only[Go.binOp,ne_eq,not_true_eq_false,if_false];rfl
  case str=>rw[zv r1,zv r2];simp only[bA,Option.some.injEq] at hr;subst hr;simp only[Go.binOp,Op.stringOp,oq];rfl
  case bool=>rw[iq r1,iq r2] at heq⊢;simp only[Go.binOp,Sem.run_bind,Op.equal,Op.maxDepth,heq,Result.andThen_ok,Sem.run_pure]
  case sl=>simp [bA] at hr
  case aF=>simp [bA] at hr
  all_goals
   rw[zj rfl,zj rfl] at heq⊢
   simp only[Go.binOp,Sem.run_bind,Op.equal,Op.maxDepth,heq,Result.andThen_ok,Sem.run_pure]
 ·cases h
theorem nN(op:BinOp)(T:TypeId)(x y:Operand)(p q:Option Addr)(w:World):(eqGuard op T x y (.pointer p) (.pointer q)).run P w= .ok () w:=by
 cases op<;>simp [eqGuard]
theorem AQ(d:Nat){T e:TypeId}(hu:P.underlying T=some (.pointer e))(w:World)(ad:Addr):(Op.equalIn (d+1) T (.pointer (some ad)) (.pointer none)).run P w= .ok false w:=by
 unfold Op.equalIn
 simp only[Sem.run_bind,run_underlying hu,Result.andThen_ok,Sem.run_pure]
theorem AP(d:Nat){T e:TypeId}(hu:P.underlying T=some (.pointer e))(w:World):(Op.equalIn (d+1) T (.pointer none) (.pointer none)).run P w= .ok true w:=by
 unfold Op.equalIn
 simp only[Sem.run_bind,run_underlying hu,Result.andThen_ok,Sem.run_pure]
 rfl
theorem Bw(hE:ae P E){op:BinOp}{T:TypeId}{x y:SV}{vx vy:Value}{px py:List Nat->Place}{u:Out}(w:World)(xo yo:Operand)(hx:ah X px x vx)(hy:ah X py y vy)(h:bin E op T x y (fun v=>some ({v:=v}:Out))=some u):
 ∃sv v,u={v:=[sv]}/\(eqGuard op T xo yo vx vy).run P w= .ok () w/\(Go.binOp op T vx vy).run P w= .ok v w/\(∀X pl,ah X pl sv v)/\∀id t p,sv≠ .ptr id t p:=by
 unfold bin at h
 split at h
 ·rename_i k m o1 k' n o2
  rw[zz hx,zz hy]
  obtain⟨l,h1,h2⟩:=zo re h
  obtain⟨sv,v,rfl,hv,_,hr,hp⟩:=rf (T:=T) w h1
  cases h2
  exact⟨sv,v,rfl,nM ..,hv,hr,hp⟩
 ·rename_i m o1 n o2
  rw[tL hx,tL hy]
  obtain⟨l,h1,h2⟩:=zo rh h
  obtain⟨sv,v,rfl,hv,_,hr,hp⟩:=AA (T:=T) w h1
  cases h2
  exact⟨sv,v,rfl,tE ..,hv,hr,hp⟩
 ·obtain⟨r,_,wH⟩:=hx
  have pY:vy= .pointer none:=hy
  subst pY
  split at h
  ·cases h
  rename_i mf
  simp only[Bool.or_eq_true,Bool.not_eq_true',not_or,Bool.not_eq_true,Bool.not_eq_false] at mf
  obtain⟨rfl,_⟩:=(zq mf.1).1 wH
  obtain⟨e,hu⟩:=hE.pt T mf.2
  have heq:∀ad,(Op.equal T (.pointer (some ad)) (.pointer none)).run P w= .ok false w:=fun ad=>AQ 9999 hu w ad
  split at h
  ·cases h
   exact⟨_,_,rfl,nN ..,by(simp only[Go.binOp,Sem.run_bind,heq,Result.andThen_ok,Sem.run_pure];try rfl),fun _ _=>zm,by simp⟩
  ·cases h
   exact⟨_,_,rfl,nN ..,by(simp only[Go.binOp,Sem.run_bind,heq,Result.andThen_ok,Sem.run_pure];try rfl),fun _ _=>zm,by simp⟩
  ·cases h
 ·have pU:vx= .pointer none:=hx
  have pY:vy= .pointer none:=hy
  subst pU pY
  split at h
  ·cases h
  rename_i mf
  obtain⟨e,hu⟩:=hE.pt T (by simpa using mf)
  have heq:(Op.equal T (.pointer none) (.pointer none)).run P w= .ok true w:=AP 9999 hu w
  split at h
  ·cases h
   exact⟨_,_,rfl,nN ..,by(simp only[Go.binOp,Sem.run_bind,heq,Result.andThen_ok,Sem.run_pure];try rfl),fun _ _=>zm,by simp⟩
  ·cases h
   exact⟨_,_,rfl,nN ..,by(simp only[Go.binOp,Sem.run_bind,heq,Result.andThen_ok,Sem.run_pure];try rfl),fun _ _=>zm,by simp⟩
  ·cases h
 ·obtain⟨l,h1,h2⟩:=zo q9 h
  obtain⟨b,rfl,hg,hv⟩:=Az hE w xo yo hx hy h1
  cases h2
  exact⟨_,_,rfl,hg,hv,fun _ _=>zm,by simp⟩
theorem AJ(hE:ae P E)(hr:Rel X s a){ops:List Oper}{op:BinOp}{T T':TypeId}{x y:Operand}(ho:o.op= .binOp op T x y T'){C:FuncId->aJ Out}(h:act E C ops o s some=some u):al P X s a o u:=by
 unfold act at h
 simp only[ho] at h
 obtain⟨sv,v,rfl,hg,hv,au,hp⟩:=Bw hE X.w x y (hr.ak x) (hr.ak y) h
 exact al.plain hr (by simp only[execOp,ho,Sem.run_bind,hg,hv,Result.andThen_ok,Sem.run_pure]) (au _ _) (fun id t p e=>absurd e (hp id t p))
end Go.Ref

namespace Go.Ref
open Go
variable {P:Program} {E:Env} {X:ag} {s:State} {a:Act} {o:Oper} {u:Out}
theorem mZ(ad:Addr)(h:ad.spot=none)(m n:Nat):(ad.add m).add n=ad.add (m+n):=by
 unfold Addr.add
 by_cases h1:m=0<;>by_cases h2:n=0<;>simp [h1,h2,Nat.add_assoc]
theorem jF{ad:Addr}(h:ad.spot=none)(m:Nat):(ad.add m).spot=none:=by
 unfold Addr.add
 split
 ·exact h
 ·rfl
theorem zn(g i j:Nat):(⟨g,i,none⟩:Addr).add j=⟨g,i+j,none⟩:=by
 unfold Addr.add
 split<;>simp_all
theorem nT:∀(t:Ty) (p q:List Nat) (u:Ty),t.at_ p=some u->t.off (p++q)=t.off p+u.off q:=by
 intro t
 induction t with
 |aK n t ih=>
  intro p q u h
  cases p with
  |nil=>simp only[Ty.at_,Option.some.injEq] at h;subst h;simp [Ty.off]
  |cons i p=>
   simp only[Ty.at_] at h
   simp only[List.cons_append,Ty.off,ih p q u h]
   omega
 |pair x y mu mw=>
  intro p q u h
  cases p with
  |nil=>simp only[Ty.at_,Option.some.injEq] at h;subst h;simp [Ty.off]
  |cons i p=>
   cases i with
   |zero=>simp only[Ty.at_] at h;simp only[List.cons_append,Ty.off,mu p q u h]
   |succ i=>
    simp only[Ty.at_] at h
    have:=mw (i::p) q u h
    simp only[List.cons_append,Ty.off] at this⊢
    omega
 |_=>
  intro p q u h
  cases p with
  |nil=>simp only[Ty.at_,Option.some.injEq] at h;subst h;simp [Ty.off]
  |cons i p=>simp [Ty.at_] at h
theorem z49:∀(t:Ty) (p q:List Nat) (u:Ty),t.at_ p=some u->t.b5 p->u.b5 q->t.b5 (p++q):=by
 intro t
 induction t with
 |aK n t ih=>
  intro p q u h hp hq
  cases p with
  |nil=>simp only[Ty.at_,Option.some.injEq] at h;subst h;exact hq
  |cons i p=>exact⟨hp.1,ih p q u h hp.2 hq⟩
 |pair x y mu mw=>
  intro p q u h hp hq
  cases p with
  |nil=>simp only[Ty.at_,Option.some.injEq] at h;subst h;exact hq
  |cons i p=>
   cases i with
   |zero=>exact mu p q u h hp hq
   |succ i=>exact mw (i::p) q u h hp hq
 |_=>
  intro p q u h hp hq
  cases p with
  |nil=>simp only[Ty.at_,Option.some.injEq] at h;subst h;exact hq
  |cons i p=>simp [Ty.at_] at h
theorem getD_some{α:Type}{xs:List α}{i:Nat}(d:α)(h:i<xs.length):xs[i]? =some (xs.getD i d):=by
 simp [List.getD_eq_getElem?_getD,List.getElem?_eq_getElem h]
theorem m5{X:ag}:∀{t:Ty} {p:List Nat} {x:El t} {cs:List Value} {u:Ty} {y:El u},az X t x cs->t.b5 p->El.get t p x=some ⟨u,y⟩->
 t.at_ p=some u/\t.off p+u.cells<=t.cells/\az X u y ((cs.drop (t.off p)).take u.cells):=by
 intro t
 induction t with
 |aK n t ih=>
  intro p x cs u y hr hp h
  cases p with
  |nil=>
   simp only[El.get,Option.some.injEq,Sigma.mk.injEq] at h
   obtain⟨rfl,h⟩:=h
   cases h
   refine⟨rfl,by simp [Ty.off],?_⟩
   have:=hr.len
   simp only[Ty.off,List.drop_zero]
   rw[<-this,List.take_length]
   exact hr
  |cons i p=>
   obtain⟨hi,hp⟩:=hp
   obtain⟨h1,h2,h3⟩:=hr
   simp only[El.get] at h
   obtain⟨k1,k2,k3⟩:=ih (h3 i _ (getD_some (El.aM t) (by omega))) hp h
   have hn:(i+1)*t.cells<=n*t.cells:=Nat.mul_le_mul_right _ hi
   rw[Nat.add_mul,Nat.one_mul] at hn
   refine⟨k1,by simp only[Ty.off,Ty.cells];omega,?_⟩
   simp only[Ty.off]
   rw[List.drop_take,List.take_take,List.drop_drop,Nat.min_eq_left (by omega)] at k3
   exact k3
 |pair ta tb ep er=>
  intro p x cs u y hr hp h
  cases p with
  |nil=>
   simp only[El.get,Option.some.injEq,Sigma.mk.injEq] at h
   obtain⟨rfl,h⟩:=h
   cases h
   refine⟨rfl,by simp [Ty.off],?_⟩
   have:=hr.len
   simp only[Ty.off,List.drop_zero]
   rw[<-this,List.take_length]
   exact hr
  |cons i p=>
   obtain⟨c1,c2,rfl,r1,r2⟩:=hr
   have l1:=r1.len
   have l2:=r2.len
   cases i with
   |zero=>
    obtain⟨k1,k2,k3⟩:=ep r1 hp h
    refine⟨k1,by simp only[Ty.off,Ty.cells];omega,?_⟩
    simp only[Ty.off]
    rw[List.drop_append_of_le_length (by omega),List.take_append_of_le_length (by rw[List.length_drop];omega)]
    exact k3
   |succ i=>
    obtain⟨k1,k2,k3⟩:=er r2 hp h
    refine⟨k1,by simp only[Ty.off,Ty.cells];omega,?_⟩
    simp only[Ty.off]
    rw[<-List.drop_drop,<-l1,List.drop_left]
    exact k3
 |_=>
  intro p x cs u y hr hp h
  cases p with
  |nil=>
   simp only[El.get,Option.some.injEq,Sigma.mk.injEq] at h
   obtain⟨rfl,h⟩:=h
   cases h
   refine⟨rfl,by simp [Ty.off],?_⟩
   have:=hr.len
   simp only[Ty.off,List.drop_zero]
   rw[<-this,List.take_length]
   exact hr
  |cons i p=>simp [El.get] at h
theorem og:∀(fl:List Field) (t:Ty) (off j:Nat) (ft:Ty),zl E fl t off->t.bq=true->t.at_ [j]=some ft->∃f,fl[j]? =some f/\f.offset=off+t.off [j]/\E.ty f.type=some ft/\t.b5 [j]:=by
 intro fl
 induction fl with
 |nil=>intro t off j ft hf hp h;cases t<;>simp [zl,Ty.bq] at hf hp
 |cons f fl ih=>
  intro t off j ft hf hp h
  cases t<;>simp only[zl] at hf<;>try exact hf.elim
  rename_i ta tb
  obtain⟨h1,h2,h3,h4⟩:=hf
  cases j with
  |zero=>
   simp only[Ty.at_,Option.some.injEq] at h
   subst h
   exact⟨f,rfl,by simp [Ty.off,h1],h2,by simp [Ty.b5]⟩
  |succ j=>
   simp only[Ty.at_] at h
   cases tg:tb.bq with
   |true=>
    obtain⟨g,g1,g2,g3,g4⟩:=ih tb (off+ta.cells) j ft h4 tg h
    exact⟨g,g1,by simp only[Ty.off];omega,g3,g4⟩
   |false=>
    cases fl with
    |nil=>cases tb<;>simp [zl,Ty.at_] at h4 h
    |cons g fl=>cases tb<;>simp [zl,Ty.bq] at h4 tg
theorem qK(hE:ae P E){T:TypeId}{t:Ty}(ht:E.ty T=some t)(hp:t.bq=true):∃fs,P.underlying T=some (.struct fs)/\zl E fs.toList t 0:=by
 have hu:=(hE.ty T t ht).bu
 cases t<;>simp [Ty.bq] at hp
 obtain⟨fs,h1,h2,_⟩:=hu
 exact⟨fs,h1,h2⟩
theorem tG(hE:ae P E){f:Field}{ft:Ty}(hf:E.ty f.type=some ft)(hc:ft.cells≠0)(ad:Addr)(w:World):(fieldPlace ad f).run P w= .ok (ad.add f.offset) w:=by
 simp [fieldPlace,zh hE hf,hc]
theorem nc:∀(t:Ty) (p:List Nat) (x:El t) (u:Ty) (y:El u),El.get t p x=some ⟨u,y⟩->t.at_ p=some u:=by
 intro t
 induction t with
 |aK n t ih=>
  intro p x u y h
  cases p with
  |nil=>simp only[El.get,Option.some.injEq,Sigma.mk.injEq] at h;rw[Ty.at_,h.1]
  |cons i p=>exact ih p _ u y h
 |pair a b ep er=>
  intro p x u y h
  cases p with
  |nil=>simp only[El.get,Option.some.injEq,Sigma.mk.injEq] at h;rw[Ty.at_,h.1]
  |cons i p=>
   cases i with
   |zero=>exact ep p _ u y h
   |succ i=>exact er (i::p) _ u y h
 |_=>
  intro p x u y h
  cases p with
  |nil=>simp only[El.get,Option.some.injEq,Sigma.mk.injEq] at h;rw[Ty.at_,h.1]
  |cons i p=>simp [El.get] at h
theorem xx(hE:ae P E)(hr:Rel X s a){ops:List Oper}{T:TypeId}{x:Operand}{j:Nat}(ho:o.op= .fieldAddr T x j){C:FuncId->aJ Out}(h:act E C ops o s some=some u):al P X s a o u:=by
 unfold act at h
 simp only[ho] at h
 have hx:=hr.ak x
 unfold nb at h
 split at h
 ·rename_i t u' id root p hT e
  rw[e] at hx
  obtain⟨r,hb,hx⟩:=hx
  split at h
  ·cases h
  rename_i b7
  have b7:root.aI=false:=by simpa using b7
  obtain⟨hv,cw⟩:=(zq b7).1 hx
  split at h
  case h_2=>cases h
  rename_i xn aT
  split at h
  case isFalse=>cases h
  rename_i eM
  rw[Bool.and_eq_true] at eM
  obtain⟨heq,cp⟩:=eM
  have:=Ty.av heq
  subst this
  split at h
  case h_2=>cases h
  rename_i ft nw
  split at h
  ·cases h
  rename_i cE
  cases h
  have hc:ft.cells≠0:=fun e=>cE (by rw[e];rfl)
  obtain⟨fs,dc,dt⟩:=qK hE hT cp
  obtain⟨f,g1,g2,g3,g4⟩:=og fs.toList u' 0 j ft dt cp nw
  refine al.plain hr (v:= .pointer (some ⟨r,root.off (p++ [j]),none⟩)) ?_ ⟨r,hb,(zq b7).2 ⟨rfl,z49 root p [j] u' aT cw g4⟩⟩ (fun aS t' p' e'=> ?_)
  ·have dk:fs[j]? =some f:=by rw[<-Array.getElem?_toList];exact g1
   simp only[execOp,ho,Sem.run_bind,Instr.fieldAt,run_underlying dc,Result.andThen_ok,dk,hv,Instr.sureAddr,Sem.run_pure,tG hE g3 hc]
   rw[zn,nT root p [j] u' aT,g2,Nat.zero_add]
  ·injection e' with e1 e2 e3
   subst e1
   exact jI hr e
 ·rename_i t u' root y hT e
  rw[e] at hx
  obtain⟨ad,cs,hv,eF,au,bH⟩:=hx
  split at h
  case isFalse=>cases h
  rename_i eM
  rw[Bool.and_eq_true] at eM
  obtain⟨heq,cp⟩:=eM
  have:=Ty.av heq
  subst this
  split at h
  case h_2=>cases h
  rename_i ft z nw
  split at h
  ·cases h
  rename_i cE
  cases h
  have hc:ft.cells≠0:=fun e=>cE (by rw[e];rfl)
  obtain⟨fs,dc,dt⟩:=qK hE hT cp
  have aT:u'.at_ [j]=some ft:=nc u' [j] y ft z nw
  obtain⟨f,g1,g2,g3,g4⟩:=og fs.toList u' 0 j ft dt cp aT
  obtain⟨k1,k2,k3⟩:=m5 au g4 nw
  refine al.plain hr (v:= .pointer (some (ad.add (u'.off [j])))) ?_ ⟨ad.add (u'.off [j]),_,rfl,jF eF _,k3,fun i v hi=> ?_⟩ (fun aS t' p' e'=>by cases e')
  ·have dk:fs[j]? =some f:=by rw[<-Array.getElem?_toList];exact g1
   simp only[execOp,ho,Sem.run_bind,Instr.fieldAt,run_underlying dc,Result.andThen_ok,dk,hv,Instr.sureAddr,Sem.run_pure,tG hE g3 hc]
   rw[g2,Nat.zero_add]
  ·rw[mZ _ eF]
   refine bH _ v ?_
   rw[List.getElem?_take] at hi
   split at hi
   ·rw[List.getElem?_drop] at hi;exact hi
   ·cases hi
 ·cases h
end Go.Ref

namespace Go.Ref
open Go
variable {P:Program} {E:Env} {X:ag} {s:State} {a:Act} {o:Oper} {u:Out}
theorem jE{R:Type}{i:Int}{n:Nat}{x:Option R}{z:R}(h:zc i n x=some z):0<=i/\i<(n:Int)/\x=some z:=by
 unfold zc at h
 cases h1:decide (0<=i)<;>rw[h1] at h
 ·cases h
 ·cases h2:decide (i<(n:Int))<;>rw[h2] at h
  ·cases h
  ·exact⟨of_decide_eq_true h1,of_decide_eq_true h2,h⟩
theorem oG{e:TypeId}{t:Ty}{xs:List (El t)}{cs:List Value}(h:az X (.sl e t) xs cs):∃A c,bL (.sl e t) cs= .slice A xs.length c/\xs.length<=c/\
 ∀(j:Nat) x,xs[j]? =some x->∃ad bS,A=some ad/\ad.spot=none/\az X t x bS/\∀(i:Nat) v,bS[i]? =some v->X.ai (ad.add (j*t.cells+i)) v:=by
 obtain⟨A,c,rfl,h1,h2⟩:=h
 exact⟨A,c,rfl,h1,h2⟩
theorem az.iU{e:TypeId}{t:Ty}{xs:List (El t)}{A:Option Addr}{n c:Nat}(hn:xs.length=n)(h1:n<=c)(h2:∀(j:Nat) x,xs[j]? =some x->∃ad bS,A=some ad/\ad.spot=none/\az X t x bS/\∀(i:Nat) v,bS[i]? =some v->X.ai (ad.add (j*t.cells+i)) v):az X (.sl e t) xs [.slice A n c]:=by
 subst hn
 exact⟨A,c,rfl,h1,h2⟩
theorem rq{R:Type}{s:SV}{K:Int->Option R}{z:R}(h:s.num K=some z):∃n k,K n=some z/\∀(X:ag) pl v,ah X pl s v->v= .int k n:=by
 unfold SV.num at h
 split at h
 ·rename_i k n w
  refine⟨n,k,h,fun X pl v hv=> ?_⟩
  obtain⟨cs,h1,h2,_⟩:=hv
  rw[h2,zs h1]
 ·cases h
theorem xy(hE:ae P E)(hr:Rel X s a){ops:List Oper}{T:TypeId}{x i:Operand}(ho:o.op= .indexAddr T x i){C:FuncId->aJ Out}(h:act E C ops o s some=some u):al P X s a o u:=by
 unfold act at h
 simp only[ho] at h
 have hx:=hr.ak x
 have hi:=hr.ak i
 unfold nf at h
 obtain⟨n,ik,h,hn⟩:=rq h
 have ei:=hn X _ _ hi
 split at h
 ·rename_i e t t' xs w hT bK
  rw[bK] at hx
  obtain⟨ys,h,gU⟩:=zi h
  obtain⟨h0,h1,h⟩:=jE h
  cases h
  obtain⟨cs,eY,ev⟩:=gU X (kh x) _ hx.bare
  obtain⟨A,c,hm,hle,b6⟩:=oG eY
  rw[hm] at ev
  have aw:n.toNat<List.length ys:=by omega
  obtain⟨ad,bS,rfl,eF,au,bH⟩:=b6 n.toNat _ (getD_some (El.aM t) aw)
  have hu:=(hE.ty T _ hT).bu
  refine al.plain hr (v:= .pointer (some (ad.add (n.toNat*t.cells)))) ?_ ⟨ad.add (n.toNat*t.cells),bS,rfl,jF eF _,au,fun j v hj=> ?_⟩ (fun _ _ _ e'=>by cases e')
  ·simp only[execOp,ho,Sem.run_bind,Instr.indexAt,ei,ev,asIntOf,Sem.run_pure,Result.andThen_ok,run_underlying hu.1,Sem.run_ite,h0,h1,and_self,if_true,zh hE hu.2]
  ·rw[mZ _ eF];exact bH j v hj
 ·rename_i m t id root p hT bK
  rw[bK] at hx
  obtain⟨r,hb,hx⟩:=hx
  split at h
  ·cases h
  rename_i b7
  have b7:root.aI=false:=by simpa using b7
  obtain⟨hv,cw⟩:=(zq b7).1 hx
  split at h
  case h_2=>cases h
  rename_i xn aT
  split at h
  case isFalse=>cases h
  rename_i heq
  have:=Ty.av heq
  subst this
  obtain⟨h0,h1,h⟩:=jE h
  cases h
  obtain⟨e,dc,dt,_⟩:=(hE.ty T _ hT).bu
  have aw:n.toNat<m:=by omega
  refine al.plain hr (v:= .pointer (some ⟨r,root.off (p++ [n.toNat]),none⟩)) ?_ ⟨r,hb,(zq b7).2 ⟨rfl,z49 root p [n.toNat] _ aT cw ⟨aw,by simp [Ty.b5]⟩⟩⟩ (fun aS t' p' e'=> ?_)
  ·simp only[execOp,ho,Sem.run_bind,Instr.indexAt,ei,hv,asIntOf,Sem.run_pure,Result.andThen_ok,run_underlying dc,Instr.sureAddr,Sem.run_ite,h0,h1,and_self,if_true,zh hE dt]
   rw[zn,nT root p [n.toNat] _ aT]
   simp [Ty.off]
  ·injection e' with e1 e2 e3
   subst e1
   exact jI hr bK
 ·rename_i m t t' xs hT bK
  rw[bK] at hx
  obtain⟨ad,cs,hv,eF,au,bH⟩:=hx
  simp only[SV.el] at h
  split at h
  case isFalse=>cases h
  rename_i heq
  have:=Ty.av heq
  subst this
  obtain⟨h0,h1,h⟩:=jE h
  cases h
  obtain⟨e,dc,dt,_⟩:=(hE.ty T _ hT).bu
  obtain⟨l1,l2,l3⟩:=au
  have aw:n.toNat<m:=by omega
  have nx:=l3 n.toNat _ (getD_some (El.aM t) (by omega))
  refine al.plain hr (v:= .pointer (some (ad.add (n.toNat*t.cells)))) ?_ ⟨ad.add (n.toNat*t.cells),_,rfl,jF eF _,nx,fun j v hj=> ?_⟩ (fun _ _ _ e'=>by cases e')
  ·simp only[execOp,ho,Sem.run_bind,Instr.indexAt,ei,hv,asIntOf,Sem.run_pure,Result.andThen_ok,run_underlying dc,Instr.sureAddr,Sem.run_ite,h0,h1,and_self,if_true,zh hE dt]
  ·rw[mZ _ eF]
   refine bH _ v ?_
   rw[List.getElem?_take] at hj
   split at hj
   ·rw[List.getElem?_drop] at hj;exact hj
   ·cases hj
 ·rename_i e0 t id r p hT bK
  rw[bK] at hx
  unfold mX at h
  split at h
  case h_2=>cases h
  rename_i m ta tb
  split at h
  case isFalse=>cases h
  rename_i heq
  have:=Ty.av heq
  subst this
  obtain⟨h0,h1,h⟩:=jE h
  cases h
  obtain⟨r0,hb,cap,hv,eL⟩:=hx
  have hu:=(hE.ty T _ hT).bu
  refine al.plain hr (v:= .pointer (some ⟨r0,n.toNat*ta.cells,none⟩)) ?_ ⟨r0,hb,rfl⟩ (fun aS t' p' e'=> ?_)
  ·simp only[execOp,ho,Sem.run_bind,Instr.indexAt,ei,hv,asIntOf,Sem.run_pure,Result.andThen_ok,run_underlying hu.1,Sem.run_ite,h0,h1,and_self,if_true,zh hE hu.2]
   rw[zn,Nat.zero_add]
  ·injection e' with e1 e2 e3
   subst e1
   exact jI hr bK
 ·cases h
theorem kr{pl:List Nat->Place}{t:Ty}{x:El t}{cs:List Value}(h:az X t x cs):ah X pl (.aj t x []) (bL t cs):=⟨cs,h,rfl,zr⟩
theorem yi(hE:ae P E)(hr:Rel X s a){ops:List Oper}{T:TypeId}{x i:Operand}(ho:o.op= .index T x i){C:FuncId->aJ Out}(h:act E C ops o s some=some u):al P X s a o u:=by
 unfold act at h
 simp only[ho] at h
 have hx:=hr.ak x
 have hi:=hr.ak i
 unfold z51 at h
 obtain⟨n,ik,h,hn⟩:=rq h
 have ei:=hn X _ _ hi
 split at h
 ·rename_i hT
  obtain⟨st,h,bm⟩:=zi h
  obtain⟨h0,h1,h⟩:=jE h
  cases h
  obtain⟨cs,mF,ev⟩:=bm X _ _ hx
  rw[zv mF] at ev
  have hu:=(hE.ty T _ hT).bu
  have aw:n.toNat<st.size:=by omega
  refine al.plain hr (v:= .int .u8 (sn st n.toNat)) ?_ zg (fun _ _ _ e'=>by cases e')
  have bd:st[n.toNat]? =some (st[n.toNat]'aw):=getElem?_pos st n.toNat aw
  simp only[execOp,ho,Sem.run_bind,Instr.index,ei,ev,asIntOf,Sem.run_pure,Result.andThen_ok,run_underlying hu,h0,if_true,bd]
  simp [sn,aw]
 ·rename_i m t hT
  obtain⟨ys,h,gU⟩:=zi h
  obtain⟨h0,h1,h⟩:=jE h
  cases h
  obtain⟨cs,eY,ev⟩:=gU X _ _ hx
  rw[zj rfl] at ev
  obtain⟨e,dc,dt,_⟩:=(hE.ty T _ hT).bu
  obtain⟨l1,l2,l3⟩:=eY
  have aw:n.toNat<m:=by omega
  have nx:=l3 n.toNat _ (getD_some (El.aM t) (by omega))
  refine al.plain hr ?_ (kr nx) (fun _ _ _ e'=>by cases e')
  have hp:=ko hE dt nx (all:=cs.toArray) (off:=n.toNat*t.cells) rfl X.w
  simp only[execOp,ho,Sem.run_bind,Instr.index,ei,ev,asIntOf,Sem.run_pure,Result.andThen_ok,run_underlying dc,h0,h1,and_self,if_true,zh hE dt,hp]
 ·cases h
theorem yh(hE:ae P E)(hr:Rel X s a){ops:List Oper}{T:TypeId}{x:Operand}{j:Nat}(ho:o.op= .field T x j){C:FuncId->aJ Out}(h:act E C ops o s some=some u):al P X s a o u:=by
 unfold act at h
 simp only[ho] at h
 have hx:=hr.ak x
 split at h
 case h_2=>cases h
 rename_i t hT
 split at h
 ·cases h
 rename_i cp
 have cp:t.bq=true:=by simpa using cp
 obtain⟨y,h,hy⟩:=zi h
 split at h
 case h_2=>cases h
 rename_i ft z hg
 cases h
 obtain⟨cs,rep,ev⟩:=hy X _ _ hx
 have fU:t.agg=true:=by cases t<;>simp_all [Ty.bq,Ty.agg]
 rw[zj fU] at ev
 obtain⟨fs,dc,dt⟩:=qK hE hT cp
 obtain⟨f,g1,g2,g3,cw⟩:=og fs.toList t 0 j ft dt cp (nc t [j] y ft z hg)
 obtain⟨k1,k2,k3⟩:=m5 rep cw hg
 have dk:fs[j]? =some f:=by rw[<-Array.getElem?_toList];exact g1
 refine al.plain hr ?_ (kr k3) (fun _ _ _ e'=>by cases e')
 have hp:=ko hE g3 k3 (all:=cs.toArray) (off:=f.offset) (by rw[g2,Nat.zero_add]) X.w
 simp only[execOp,ho,Sem.run_bind,Instr.field,run_underlying dc,Result.andThen_ok,dk,ev,asAgg,Sem.run_pure,hp]
theorem AM(hE:ae P E)(hr:Rel X s a){ops:List Oper}{x:Operand}{T:TypeId}{bR:Array Operand}{ts:Array TypeId}(ho:o.op= .call ⟨.builtin .len,bR,ts⟩){C:FuncId->aJ Out}(h:act E C ops o s some=some u):al P X s a o u:=by
 unfold act at h
 simp only[ho] at h
 split at h
 case h_2=>cases h
 rename_i x T gT jW
 have has:bR= #[x]:=by rw[<-Array.toArray_toList (xs:=bR),gT]
 have fX:ts= #[T]:=by rw[<-Array.toArray_toList (xs:=ts),jW]
 subst has fX
 have hx:=hr.ak x
 unfold gY at h
 split at h
 ·rename_i hT
  obtain⟨st,h,bm⟩:=zi h
  cases h
  obtain⟨cs,mF,ev⟩:=bm X _ _ hx
  rw[zv mF] at ev
  have hu:=(hE.ty T _ hT).bu
  refine al.plain hr (v:= .int .i64 st.size) ?_ zg (fun _ _ _ e'=>by cases e')
  simp [execOp,ho,resolve,invoke,builtin,Builtin.len_,ev,run_underlying hu,goInt]
 ·rename_i e t hT
  have hu:=(hE.ty T _ hT).bu
  split at h
  ·rename_i id n ta tb bK
   cases h
   rw[bK] at hx
   obtain⟨r0,hb,cap,ev,eL⟩:=hx
   refine al.plain hr (v:= .int .i64 n) ?_ zg (fun _ _ _ e'=>by cases e')
   simp [execOp,ho,resolve,invoke,builtin,Builtin.len_,ev,run_underlying hu.1,goInt]
  ·obtain⟨xs,h,pX⟩:=zi h
   cases h
   obtain⟨cs,kj,ev⟩:=pX X _ _ hx
   obtain⟨A,c,hm,_,_⟩:=oG kj
   rw[hm] at ev
   refine al.plain hr (v:= .int .i64 (List.length xs)) ?_ zg (fun _ _ _ e'=>by cases e')
   simp [execOp,ho,resolve,invoke,builtin,Builtin.len_,ev,run_underlying hu.1,goInt]
 ·rename_i n t hT
  cases h
  obtain⟨e,dc,dt,_⟩:=(hE.ty T _ hT).bu
  refine al.plain hr (v:= .int .i64 n) ?_ zg (fun _ _ _ e'=>by cases e')
  simp [execOp,ho,resolve,invoke,builtin,Builtin.len_,run_underlying dc,goInt]
 ·cases h
theorem uu(hr:Rel X s a){ops:List Oper}{g:Bool}{bR:Array Operand}{ts:Array TypeId}(ho:o.op= .call ⟨.builtin (if g then .max else .min),bR,ts⟩){C:FuncId->aJ Out}(h:act E C ops o s some=some u):al P X s a o u:=by
 have key:∀x y,bR= #[x,y]->dx g (s.ak x) (s.ak y) some=some u->al P X s a o u:=by
  intro x y has h
  subst has
  have hx:=hr.ak x
  have hy:=hr.ak y
  unfold dx at h
  split at h
  case h_2=>cases h
  rename_i k m _ k' n _ e1 e2
  rw[e1] at hx
  rw[e2] at hy
  have vx:=zz hx
  have vy:=zz hy
  cases h
  refine al.plain hr (v:= .int k (bif g then(if(m:Int)<n then n else m) else(if(n:Int)<m then n else m))) ?_ zg (fun _ _ _ e'=>by cases e')
  cases g
  ·simp [execOp,ho,resolve,invoke,builtin,Builtin.min_,Builtin.min2,vx,vy]
  ·simp [execOp,ho,resolve,invoke,builtin,Builtin.max_,Builtin.max2,vx,vy]
 unfold act at h
 cases g with
 |true=>
  simp only[ho,if_true] at h
  split at h
  ·rename_i x y e
   exact key x y (by rw[<-Array.toArray_toList (xs:=bR),e]) h
  ·cases h
 |false=>
  simp only[ho,Bool.false_eq_true,if_false] at h
  split at h
  ·rename_i x y e
   exact key x y (by rw[<-Array.toArray_toList (xs:=bR),e]) h
  ·cases h
theorem BB(hr:Rel X s a){ops:List Oper}{op:UnOp}{T:TypeId}{x:Operand}(ho:o.op= .unOp op T x){C:FuncId->aJ Out}(h:act E C ops o s some=some u):al P X s a o u:=by
 unfold act at h
 simp only[ho] at h
 have hx:=hr.ak x
 unfold mJ at h
 split at h
 ·rename_i b w e
  rw[e] at hx
  cases h
  refine al.plain hr (v:= .bool (!b)) ?_ zm (fun _ _ _ e'=>by cases e')
  simp [execOp,ho,mK hx,Op.unary]
 ·rename_i k n w e
  rw[e] at hx
  cases h
  refine al.plain hr (v:= .int k (k.wrap (0-n))) ?_ zg (fun _ _ _ e'=>by cases e')
  simp [execOp,ho,zz hx,Op.unary,Op.intArith]
 ·cases h
theorem xC(hr:Rel X s a){ops:List Oper}{x:Operand}(ho:o.op= .nilCheck x){C:FuncId->aJ Out}(h:act E C ops o s some=some u):al P X s a o u:=by
 unfold act at h
 simp only[ho] at h
 have hx:=hr.ak x
 split at h
 ·rename_i id t p e
  rw[e] at hx
  split at h
  ·cases h
  rename_i b7
  have b7:t.aI=false:=by simpa using b7
  cases h
  obtain⟨r,h1,hx⟩:=hx
  obtain⟨h2,h3⟩:=(zq b7).1 hx
  refine al.plain hr (v:= .pointer (some ⟨r,t.off p,none⟩)) ?_ ⟨r,h1,(zq b7).2 ⟨rfl,h3⟩⟩ (fun aS t' p' e'=> ?_)
  ·simp [execOp,ho,h2]
  ·injection e' with e1 e2 e3
   subst e1
   exact jI hr e
 ·rename_i t y e
  rw[e] at hx
  cases h
  obtain⟨ad,cs,h1,h2⟩:=hx
  refine al.plain hr (v:= .pointer (some ad)) ?_ ⟨ad,cs,rfl,h2⟩ (fun _ _ _ e'=>by cases e')
  simp [execOp,ho,h1]
 ·cases h
theorem xH(hr:Rel X s a){ops:List Oper}{x:Operand}{j:Nat}(ho:o.op= .extract x j){C:FuncId->aJ Out}(h:act E C ops o s some=some u):al P X s a o u:=by
 unfold act at h
 simp only[ho] at h
 split at h
 case h_2=>cases h
 rename_i t
 have hs:=hr.slot t
 split at h
 ·rename_i hlen
  split at h
  case h_2=>cases h
  rename_i gJ
  cases h
  have nD:=hr.ak (.tmp t)
  rw[show s.ak (.tmp t)=SV.over from gJ] at nD
  have nD:a.eval (.tmp t)= .tuple #[.bool false]:=nD
  refine al.plain hr (v:= .bool false) ?_ zm (fun _ _ _ e'=>by cases e')
  simp [execOp,ho,nD,Instr.extract]
 rename_i hlen
 have nB:(s.slot t).length≠1:=fun e=>hlen (by rw[e];rfl)
 have pT:∃vs:Array Value,a.tmps.getD t Go.undef= .tuple vs/\vs.size=(s.slot t).length/\∀(j:Nat) sv v,(s.slot t)[j]? =some sv->vs[j]? =some v->ah X (.c t j) sv v:=by
  match hm:s.slot t with
  | [sv]=>rw[hm] at nB;exact absurd rfl nB
  | []=>rw[hm] at hs;exact hs
  |_::_::_=>rw[hm] at hs;exact hs
 obtain⟨vs,h1,h2,h3⟩:=pT
 have aA:∀v,vs[j]? =some v->(execOp a.eval o).run P X.w= .ok (.value v) X.w:=by
  intro v hv
  simp only[execOp,ho,Act.eval,h1,Sem.run_bind,Instr.extract,hv,Sem.run_pure,Result.andThen_ok]
 have hv:∀sv,(s.slot t)[j]? =some sv->∃v,vs[j]? =some v:=by
  intro sv dC
  have:=(List.getElem?_eq_some_iff.1 dC).1
  exact⟨_,Array.getElem?_eq_getElem (by omega)⟩
 split at h
 ·rename_i ut y w e
  cases h
  obtain⟨v,hv⟩:=hv _ e
  cases w with
  |nil=>exact al.plain hr (aA v hv) (h3 j _ v e hv).bare (fun _ _ _ h=>by cases h)
  |cons p w=>exact al.jy hr (aA v hv) (h3 j _ v e hv)
 ·cases h
 ·rename_i sv h4 h5 e
  cases h
  obtain⟨v,hv⟩:=hv _ e
  refine al.plain hr (aA v hv) ((h3 j _ v e hv).place ?_) (fun id ty p e'=> ?_)
  ·cases sv with
   |aj ut y w=>exact(h4 ut y w rfl).elim
   |_=>trivial
  ·by_cases aw:t<s.sl.length
   ·refine hr.live t _ id ty p (jg aw) ?_
    rw[<-e'];exact List.mem_of_getElem? e
   ·have:s.slot t=[.undef]:=by simp [State.slot,List.getElem?_eq_none (Nat.le_of_not_lt aw)]
    rw[this] at nB
    exact absurd rfl nB
 ·cases h
end Go.Ref

namespace Go.Ref
open Go
variable {P:Program} {E:Env} {X:ag} {s:State} {a:Act} {o:Oper} {u:Out}
def fe(v:Option SV)(n:Nat)(d:Nat):Prop:=match v with
 |none=>n=d
 |some v=>∀(X:ag) pl val,ah X pl v val->val= .int .i64 (n:Int)
theorem vk{l:Int}{m:Nat}(h1:0<=l)(h2:l<=(m:Int)):l.toNat<=m:=by omega
theorem um{l:Int}(h1:0<=l):((l.toNat:Nat):Int)=l:=by omega
theorem qy{R:Type}{lo:Option SV}{m:Nat}{G:Nat->Option R}{z:R}(h:jh lo m G=some z):∃l,G l=some z/\l<=m/\fe lo l 0:=by
 unfold jh at h
 cases lo with
 |none=>exact⟨0,h,Nat.zero_le _,rfl⟩
 |some v=>
  obtain⟨l,h,hl⟩:=zi h
  cases h1:decide (0<=l)<;>rw[h1] at h
  ·cases h
  ·cases h2:decide (l<=(m:Int))<;>rw[h2] at h
   ·cases h
   ·have h1:=of_decide_eq_true h1
    have h2:=of_decide_eq_true h2
    refine⟨l.toNat,h,vk h1 h2,fun X pl val hv=> ?_⟩
    obtain⟨cs,r,e⟩:=hl X pl val hv
    rw[e,zs r,um h1]
theorem tX{R:Type}{lo hi:Option SV}{n:Nat}{F:Nat->Nat->Option R}{z:R}(h:cutAt lo hi n F=some z):∃l m,F l m=some z/\l<=m/\m<=n/\fe lo l 0/\fe hi m n:=by
 unfold cutAt at h
 cases hi with
 |none=>
  obtain⟨l,h1,h2,h3⟩:=qy h
  exact⟨l,n,h1,h2,Nat.le_refl _,h3,rfl⟩
 |some v=>
  obtain⟨m,h,hm⟩:=zi h
  cases h1:decide (0<=m)<;>rw[h1] at h
  ·cases h
  ·cases h2:decide (m<=(n:Int))<;>rw[h2] at h
   ·cases h
   ·have h1:=of_decide_eq_true h1
    have h2:=of_decide_eq_true h2
    have h:jh lo (Int.toNat m) (fun l=>F l (Int.toNat m))=some z:=h
    obtain⟨l,g1,g2,g3⟩:=qy h
    refine⟨l,m.toNat,g1,g2,vk h1 h2,g3,fun X pl val hv=> ?_⟩
    obtain⟨cs,r,e⟩:=hm X pl val hv
    rw[e,zs r,um h1]
theorem fe.val(hr:Rel X s a){x:Option Operand}{n d:Nat}(h:fe (x.map s.ak) n d):(x=none/\n=d)\/x.map a.eval=some (.int .i64 (n:Int)):=by
 cases x with
 |none=>exact .inl ⟨rfl,h⟩
 |some x=>exact .inr (by rw[Option.map_some,h X _ _ (hr.ak x)])
theorem qD(hr:Rel X s a){isS:Bool}{lo hi:Option Operand}{l m n c:Nat}(hl:fe (lo.map s.ak) l 0)(hm:fe (hi.map s.ak) m n)(h1:l<=m)(h2:m<=n)(h3:n<=c)(w:World):
 (Instr.sliceBounds isS n c (lo.map a.eval) (hi.map a.eval) none).run P w= .ok (l,m,c) w:=by
 have sb:∀(i y:Nat) (code:BoundsCode),i<=y->(Instr.sliceBound (.int .i64 (i:Int)) y code).run P w= .ok i w:=by
  intro i y code h
  rw[run_sliceBound (P:=P) (w:=w) .i64 (i:Int) y code (by omega) (by omega)]
  simp
 rcases hl.val hr with⟨rfl,rfl⟩|hl<;>rcases hm.val hr with⟨rfl,rfl⟩|hm
 ·simp [Instr.sliceBounds]
 ·simp [Instr.sliceBounds,hm,sb m c _ (by omega)]
 ·simp [Instr.sliceBounds,hl,sb l m _ h1]
 ·simp [Instr.sliceBounds,hl,hm,sb l m _ h1,sb m c _ (by omega)]
theorem y8(hE:ae P E)(hr:Rel X s a){T:TypeId}{x:Operand}{lo hi:Option Operand}(ho:o.op= .slice T x lo hi none)(h:fS E T (s.ak x) (lo.map s.ak) (hi.map s.ak) some=some u):al P X s a o u:=by
 have hx:=hr.ak x
 unfold fS at h
 split at h
 ·rename_i hT
  obtain⟨st,h,bm⟩:=zi h
  obtain⟨l,m,h,h1,h2,hl,hm⟩:=tX h
  cases h
  obtain⟨cs,mF,ev⟩:=bm X _ _ hx
  rw[zv mF] at ev
  have hu:=(hE.ty T _ hT).bu
  refine al.plain hr (v:= .string (st.extract l m)) ?_ kY (fun _ _ _ e'=>by cases e')
  simp only[execOp,ho,Sem.run_bind,Instr.sliceAt,run_underlying hu,Result.andThen_ok,Instr.slice,ev,Option.map_none,Option.isSome_none,Bool.false_eq_true,if_false,qD hr hl hm h1 h2 (Nat.le_refl _),Sem.run_pure]
 ·rename_i e t hT
  obtain⟨xs,h,gT⟩:=zi h
  obtain⟨l,m,h,h1,h2,hl,hm⟩:=tX h
  cases h
  obtain⟨cs,kj,ev⟩:=gT X _ _ hx
  obtain⟨A,c,l8,hle,b6⟩:=oG kj
  rw[l8] at ev
  have hu:=(hE.ty T _ hT).bu
  have hlen:((List.take m xs).drop l).length=m-l:=by rw[List.length_drop,List.length_take,Nat.min_eq_left h2]
  refine al.plain hr (v:= .slice (if c=l then A else A.map (·.add (l*t.cells))) (m-l) (c-l)) ?_ ⟨_,az.iU (A:=if c=l then A else A.map (·.add (l*t.cells))) (n:=m-l) (c:=c-l) hlen (by omega) (fun j y hj=> ?_),rfl,zr⟩ (fun _ _ _ e'=>by cases e')
  ·simp only[execOp,ho,Sem.run_bind,Instr.sliceAt,run_underlying hu.1,Result.andThen_ok,Instr.slice,ev,Option.map_none,qD hr hl hm h1 h2 hle,Sem.run_pure,zh hE hu.2]
  ·have iJ:=(List.getElem?_eq_some_iff.1 hj).1
   rw[hlen] at iJ
   have wi:xs[l+j]? =some y:=by
    rw[List.getElem?_drop,List.getElem?_take,if_pos (by omega)] at hj
    exact hj
   obtain⟨ad,bS,rfl,eF,au,bH⟩:=b6 (l+j) y wi
   rw[if_neg (by omega)]
   refine⟨ad.add (l*t.cells),bS,rfl,jF eF _,au,fun i v hi=> ?_⟩
   rw[mZ _ eF,<-Nat.add_assoc,<-Nat.add_mul]
   exact bH i v hi
 ·cases h
theorem yf(hE:ae P E)(hr:Rel X s a){S T:TypeId}{x:Operand}(ho:o.op= .convert S T x)(h:dO E S T (s.ak x) some=some u):al P X s a o u:=by
 have hx:=hr.ak x
 unfold dO at h
 split at h
 ·rename_i k k' hS hT
  obtain⟨n,h,hn⟩:=zi h
  cases h
  obtain⟨cs,rn,ev⟩:=hn X _ _ hx
  rw[zs rn] at ev
  have hu:=(hE.ty S _ hS).bu
  have hv:=(hE.ty T _ hT).bu
  refine al.plain hr (v:= .int k' (k'.wrap n)) ?_ zg (fun _ _ _ e'=>by cases e')
  simp [execOp,ho,ev,convert,run_underlying hu,run_underlying hv,Conv.intToInt]
 ·rename_i hS hT
  obtain⟨st,h,bm⟩:=zi h
  cases h
  obtain⟨cs,rn,ev⟩:=bm X _ _ hx
  rw[zv rn] at ev
  have hu:=(hE.ty S _ hS).bu
  have hv:=(hE.ty T _ hT).bu
  refine al.plain hr (v:= .string st) ?_ kY (fun _ _ _ e'=>by cases e')
  simp [execOp,ho,ev,convert,run_underlying hu,run_underlying hv]
 ·rename_i e hS hT
  obtain⟨xs,h,gT⟩:=zi h
  cases h
  obtain⟨cs,kj,ev⟩:=gT X _ _ hx
  obtain⟨A,c,l8,hle,b6⟩:=oG kj
  rw[l8] at ev
  have hu:=(hE.ty S _ hS).bu
  have he:=(hE.ty e _ hu.2).bu
  have hv:=(hE.ty T _ hT).bu
  refine al.plain hr (v:= .string (strOf xs)) ?_ kY (fun _ _ _ e'=>by cases e')
  have key:(convert S T (.slice A (List.length xs) c)).run P X.w= .ok (.string (strOf xs)) X.w:=by
   cases A with
   |none=>
    have gI:xs=[]:=by
     cases xs with
     |nil=>rfl
     |cons y ys=>obtain⟨ad,_,h,_⟩:=b6 0 y rfl;cases h
    rw[run_convert_bytes_nil X.w S e hu.1 he _ _ T hv,gI]
    rfl
   |some ad=>
    rw[run_convert_bytes_string X.w S T e _ _ c hu.1 he hv]
    have dm:(loadCells ad (List.length xs)).run P X.w= .ok (List.map (Value.int .u8) xs).toArray X.w:=by
     have:=run_loadCells_list (P:=P) X.w ad (List.map (Value.int .u8) xs) (fun j v hj=>by
      obtain⟨y,hy,rfl⟩:=List.getElem?_map .. ▸hj|>Option.map_eq_some_iff.1
      obtain⟨fC,bS,h1,eF,au,bH⟩:=b6 j y hy
      cases h1
      have hc:bS=[.int .u8 y]:=au
      have:=bH 0 (.int .u8 y) (by rw[hc];rfl)
      have h2:=this.2.1
      simpa [Ty.cells] using h2)
     rw[List.length_map] at this
     exact this
    rw[run_bytesToString X.w ad _ c xs dm,foldl_push_bytes]
    simp [strOf,ByteArray.empty,ByteArray.emptyWithCapacity]
    rfl
  simp only[execOp,ho,Sem.run_bind,ev,key,Result.andThen_ok,Sem.run_pure]
 ·cases h
def ag.new(X:ag)(cs:Array Value)(T:TypeId)(w:Ow)(β:Nat->Option Nat):ag:={w:=X.w.alloc (.cells cs T),ow:=fun g=>if g=X.w.heap.size then w else X.ow g,β}
theorem rl(X:ag)(s:State)(cs:Array Value)(T:TypeId)(w:Ow)(β:Nat->Option Nat)(hβ0:β 0=X.β 0)(hβ:∀(id:Nat) B,s.bs[id]? =some (some B)->β id=X.β id):b3 s X (X.new cs T w β) where
 size:=by simp [ag.new]
 os:=rfl
 tape:=rfl
 output:=rfl
 fQ:=fun g hg=>⟨by simp only[ag.new];rw[if_neg (by omega)],RowKit.Below.heap_alloc _ _ _ hg⟩
 β0:=hβ0
 β:=hβ
theorem qX(X:ag)(cs:Array Value)(T:TypeId)(w:Ow)(β:Nat->Option Nat):(X.new cs T w β).w.heap[X.w.heap.size]? =some (.cells cs T (0,0))/\(X.new cs T w β).ow X.w.heap.size=w:=⟨heap_alloc_new X.w _,by simp [ag.new]⟩
theorem qH(T:TypeId)(v:Value)(w:World):(newVar T v).run P w= .ok ⟨w.heap.size,0,none⟩ (w.alloc (.cells v.cells T)):=by
 simp [newVar,newRow]
theorem Rel.cC{Y:ag}(hr:Rel Y s a){d r:Nat}{B:aH}(hd:d<s.bs.length)(hb:s.bs[d]? =some none)(hβ:Y.β d=some r)(h:aG Y d r B):Rel Y (s.ao (some (d,B))) a where
 size:=hr.size
 cL:=by simpa [State.ao] using hr.cL
 aL:=hr.aL
 boxes:=fun id B' cM=>by
  simp only[State.ao,List.getElem?_set] at cM
  by_cases e:d=id
  ·subst e
   rw[if_pos rfl,if_pos hd] at cM
   cases cM;exact⟨r,hβ,h⟩
  ·rw[if_neg e] at cM
   exact hr.boxes id B' cM
 live:=fun i l id t p hi hm=>by
  obtain⟨B',cM⟩:=hr.live i l id t p hi hm
  simp only[State.ao,List.getElem?_set]
  by_cases e:d=id
  ·subst e;rw[hb] at cM;cases cM
  ·rw[if_neg e];exact⟨B',cM⟩
 defers:=hr.defers
theorem gk{d:Nat}{B:aH}(h:s.box d=some B):s.bs[d]? =some (some B):=by
 unfold State.box at h
 rw[List.getD_eq_getElem?_getD] at h
 cases hg:s.bs[d]? with
 |none=>rw[hg] at h;cases h
 |some x=>rw[hg] at h;simp at h;rw[h]
theorem rX(hr:Rel X s a){x:Operand}{t:Ty}{R:Type}{K:El t->Option R}{z:R}(h:(s.ak x).el t K=some z){c:List (Nat×Nat)}(hc:c=src x\/((s.ak x).own=[]/\c=[])):
 ∃y,K y=some z/\∀q:List Nat->Place,∃Y cs,Y.w=X.w/\Ext X Y/\Rel Y (s.close c) a/\az Y t y cs/\a.eval x=bL t cs/\aC Y q t y cs (s.ak x).own/\Y.β=X.β/\bG (s.close c) X Y/\ea X Y:=by
 have hx:=hr.ak x
 cases hs:s.ak x with
 |aj t' y' w=>
  rw[hs] at hx h hc
  simp only[SV.el] at h
  split at h
  case isFalse=>cases h
  rename_i heq
  have:=Ty.av heq
  subst this
  refine⟨y',h,fun q=> ?_⟩
  have plain:w=[]->∃Y cs,Y.w=X.w/\Ext X Y/\Rel Y (s.close c) a/\az Y t' y' cs/\a.eval x=bL t' cs/\aC Y q t' y' cs (SV.aj t' y' w).own/\Y.β=X.β/\bG (s.close c) X Y/\ea X Y:=by
   intro hw
   subst hw
   obtain⟨cs,h1,h2,_⟩:=hx
   exact⟨X,cs,rfl,Ext.refl X,hr.close _,h1,h2,zr,rfl,bG.refl _ _,ea.refl X⟩
  rcases hc with hc|⟨hw,_⟩
  ·cases x with
   |tmp i=>
    obtain⟨Y,h1,h2,h3,⟨cs,h4,h5,h6⟩,h7,h8,h9⟩:=hr.take hx q
    subst hc
    exact⟨Y,cs,h1,h2,h3,h4,h5,h6,h7,h8,h9⟩
   |const v=>exact plain (qR (show jG v= .aj t' y' w from hs))
   |_=>simp [State.ak,State.iS,one] at hs
  ·exact plain hw
 |bc=>
  rw[hs] at hx h
  cases t<;>simp only[SV.el] at h<;>try(cases h;done)
  rename_i e t
  refine⟨[],h,fun q=>⟨X,[.slice none 0 0],rfl,Ext.refl X,hr.close _,⟨none,0,rfl,Nat.le_refl _,fun j x hj=>by simp at hj⟩,hx,fun p hp=> ?_,rfl,bG.refl _ _,ea.refl X⟩⟩
  have hp:p=[]:=by simpa [SV.own] using hp
  subst hp
  exact⟨e,t,[],_,by simp [Ty.b5],rfl,rfl,.inl ⟨rfl,rfl⟩⟩
 |_=>rw[hs] at h;simp [SV.el] at h
theorem al.cC{P:Program}(hr:Rel X s a){d:Nat}{T:TypeId}{t:Ty}{y:El t}{cs:List Value}{own:List (List Nat)}{c:List (Nat×Nat)}{W:ag}
 (b7:t.aI=false) (hd:o.dst=some d) (hb:s.bs[d+1]? =some none) (hW:W.w=X.w) (hX:Ext X W) (nF:Rel W (s.close c) a) (au:az W t y cs)
 (bk:aC W (.b (d+1)) t y cs own)
 (aA:(execOp a.eval o).run P X.w= .ok (.value (.pointer (some ⟨X.w.heap.size,0,none⟩))) (X.w.alloc (.cells cs.toArray T))):al P X s a o {v:=[.ptr (d+1) t []],bx:=some (d+1,⟨t,y,own⟩),cl:=c}:=by
 let β:Nat->Option Nat:=fun id=>if id=d+1 then some W.w.heap.size else W.β id
 have aw:d+1<s.bs.length:=(List.getElem?_eq_some_iff.1 hb).1
 have dB:(s.close c).bs[d+1]? =some none:=by rw[jc];exact hb
 have hk:b3 (s.close c) W (W.new cs.toArray T (.box (d+1)) β):=rl W _ _ _ _ _ (by show(if _ then _ else _)=_;rw[if_neg (by omega)]) (fun id B hB=>by
  show(if id=d+1 then _ else _)=_
  rw[if_neg (fun e=>by rw[e,dB] at hB;cases hB)])
 obtain⟨n1,n2⟩:=qX W cs.toArray T (.box (d+1)) β
 have aU:aG (W.new cs.toArray T (.box (d+1)) β) (d+1) W.w.heap.size ⟨t,y,own⟩:=
  ⟨n2,bD.of b7 n1 (by simpa using au.af (fun _ _=>hk.ai)) (by simpa using bk.bP hk)⟩
 have hβd:β (d+1)=some W.w.heap.size:=by show(if d+1=d+1 then _ else _)=_;rw[if_pos rfl]
 have cq:=(nF.bP hk).cC (by rw[jc];exact aw) dB hβd aU
 refine⟨W.new cs.toArray T (.box (d+1)) β,.pointer (some ⟨X.w.heap.size,0,none⟩),.inl ?_,hX.trans hk.ext,?_⟩
 ·rw[aA];simp [ag.new,hW]
 ·rw[hd]
  refine cq.put (fun d' e=> ?_) (fun id t' p hm=> ?_)
  ·cases e
   refine⟨W.w.heap.size,hβd,(zq b7).2 ⟨?_,by simp [Ty.b5]⟩⟩
   rw[hW]
   simp [Ty.off]
  ·have:id=d+1:=by have:=hm;simp at this;exact this.1
   subst this
   exact⟨⟨t,y,own⟩,by simp [State.ao,List.getElem?_set,jc,aw]⟩
theorem n5(hE:ae P E){T:TypeId}{t:Ty}(ht:E.ty T=some t)(w:World):(zeroValue T).run P w= .ok (bL t (zb t)) w:=by
 obtain⟨i,h1,_,_,h2⟩:=(hE.ty T t ht).info
 simp [zeroValue,typeInfo,h1,h2]
theorem uF(X:ag)(pl:List Nat->Place):∀t:Ty,aC X pl t (El.aM t) (zb t) (jd t):=by
 intro t
 induction t generalizing pl with
 |sl e t=>
  intro p hp
  have hp:p=[]:=by simpa [jd] using hp
  subst hp
  exact⟨e,t,[],.slice none 0 0,by simp [Ty.b5],rfl,rfl,.inl ⟨rfl,rfl⟩⟩
 |pair ta tb ep er=>
  intro p hp
  simp only[jd,List.mem_append,List.mem_map,List.mem_filterMap] at hp
  rcases hp with⟨q,hq,rfl⟩|⟨q,hq,he⟩
  ·obtain⟨e,t',xs,v,g0,g1,g2,g3⟩:=ep (fun q=>pl (0::q)) q hq
   refine⟨e,t',xs,v,g0,g1,?_,g3⟩
   have hl:=(List.getElem?_eq_some_iff.1 g2).1
   simp only[Ty.off,zb]
   rw[List.getElem?_append_left hl]
   exact g2
  ·cases q with
   |nil=>simp [jT] at he
   |cons j q=>
    simp only[jT,Option.some.injEq] at he
    subst he
    obtain⟨e,t',xs,v,g0,g1,g2,g3⟩:=er (fun q=>match q with| []=>pl []|j::q=>pl ((j+1)::q)) (j::q) hq
    refine⟨e,t',xs,v,g0,g1,?_,g3⟩
    simp only[Ty.off,zb]
    rw[List.getElem?_append_right (by rw[zw];omega),zw,Nat.add_sub_cancel_left]
    exact g2
 |_=>intro p hp;simp [jd] at hp
theorem al.kf{P:Program}(hr:Rel X s a){d:Nat}{T e:TypeId}(hd:o.dst=some d)(hb:s.bs[d+1]? =some none)
 (aA:(execOp a.eval o).run P X.w= .ok (.value (.pointer (some ⟨X.w.heap.size,0,none⟩))) (X.w.alloc (.cells #[.pointer none,.slice none 0 0] T))):
 al P X s a o {v:=[.ptr (d+1) (.aF (.gp T e) .unit .unit) []],bx:=some (d+1,⟨.aF (.gp T e) .unit .unit,(⟨#[]⟩:ByteArray),[[]]⟩)}:=by
 let β:Nat->Option Nat:=fun id=>if id=d+1 then some X.w.heap.size else X.β id
 have aw:d+1<s.bs.length:=(List.getElem?_eq_some_iff.1 hb).1
 have hk:b3 s X (X.new #[.pointer none,.slice none 0 0] T (.box (d+1)) β):=rl X _ _ _ _ _ (by show(if _ then _ else _)=_;rw[if_neg (by omega)]) (fun id B hB=>by
  show(if id=d+1 then _ else _)=_
  rw[if_neg (fun e=>by rw[e,hb] at hB;cases hB)])
 obtain⟨n1,n2⟩:=qX X #[.pointer none,.slice none 0 0] T (.box (d+1)) β
 have aU:aG (X.new #[.pointer none,.slice none 0 0] T (.box (d+1)) β) (d+1) X.w.heap.size ⟨.aF (.gp T e) .unit .unit,(⟨#[]⟩:ByteArray),[[]]⟩:=
  ⟨n2,⟨_,n1⟩,fun _=>⟨.slice none 0 0,⟨.inl n1,⟨rfl,.inl ⟨rfl,rfl⟩⟩,by simp [Value.ownBlock]⟩,fun g hg=>by simp [Value.ownBlock] at hg⟩⟩
 have hβd:β (d+1)=some X.w.heap.size:=by show(if d+1=d+1 then _ else _)=_;rw[if_pos rfl]
 have cq:=(hr.bP hk).cC aw hb hβd aU
 refine⟨X.new #[.pointer none,.slice none 0 0] T (.box (d+1)) β,.pointer (some ⟨X.w.heap.size,0,none⟩),.inl aA,hk.ext,?_⟩
 rw[hd]
 refine cq.put (fun d' e=> ?_) (fun id t' p hm=> ?_)
 ·cases e
  exact⟨X.w.heap.size,hβd,(rA rfl).2 ⟨by simp [Ty.off],by simp [Ty.b5]⟩⟩
 ·have:id=d+1:=by have:=hm;simp at this;exact this.1
  subst this
  exact⟨_,by simp [State.ao,List.getElem?_set,aw];rfl⟩
theorem yb(hE:ae P E)(hr:Rel X s a){ops:List Oper}{T:TypeId}(ho:o.op= .alloc T){C:FuncId->aJ Out}(h:act E C ops o s some=some u):al P X s a o u:=by
 unfold act at h
 simp only[ho] at h
 split at h
 case h_3=>cases h
 case h_2=>
  rename_i d hT hd
  split at h
  case h_2=>cases h
  rename_i e nv
  split at h
  case h_2=>cases h
  rename_i hb
  cases h
  obtain⟨i,h1,h2⟩:=hE.bl T e nv
  refine al.kf hr hd hb ?_
  have hz:(zeroValue T).run P X.w= .ok (.agg #[.pointer none,.slice none 0 0]) X.w:=by simp [zeroValue,typeInfo,h1,h2]
  simp only[execOp,ho,Sem.run_bind,Instr.alloc,hz,Result.andThen_ok,qH,Sem.run_pure]
  rfl
 rename_i t d hT hd
 split at h
 case h_2=>cases h
 rename_i hb
 cases h
 have au:=hJ X t
 refine al.cC (T:=T) (cs:=zb t) (W:=X) (c:=[]) hr (hE.cR hT) hd hb rfl (Ext.refl X) hr au (uF X _ t) ?_
 simp only[execOp,ho,Sem.run_bind,Instr.alloc,n5 hE hT,Result.andThen_ok,qH,jb au,Sem.run_pure]
theorem AK(hE:ae P E)(hr:Rel X s a){ops:List Oper}{T:TypeId}{x:Operand}(ho:o.op= .box T x){C:FuncId->aJ Out}(h:act E C ops o s some=some u):al P X s a o u:=by
 unfold act at h
 simp only[ho] at h
 split at h
 case h_2=>cases h
 rename_i t d hT hd
 split at h
 case h_2=>cases h
 rename_i hb
 obtain⟨y,h,hy⟩:=rX hr h (.inl rfl)
 cases h
 obtain⟨W,cs,h1,h2,h3,h4,h5,h6,_,_,_⟩:=hy (.b (d+1))
 refine al.cC (T:=T) (cs:=cs) (W:=W) hr (hE.cR hT) hd hb h1 h2 h3 h4 h6 ?_
 simp only[execOp,ho,Sem.run_bind,Instr.box,qH,Result.andThen_ok,Sem.run_pure,h5,jb h4]
end Go.Ref

namespace Go.Ref
open Go
variable {P:Program} {E:Env} {X:ag} {s:State} {a:Act} {o:Oper} {u:Out}
theorem kQ(hE:ae P E){T:TypeId}{t:Ty}(ht:E.ty T=some t){x:El t}{cs:List Value}(hr:az X t x cs){ad:Addr}{w:World}(hc:∀(i:Nat) v,cs[i]? =some v->w.cell? (ad.add i)=some v):(loadVar T ad).run P w= .ok (bL t cs) w:=by
 have hl:=hr.len
 unfold loadVar
 simp only[Sem.run_bind,uz hE ht,Result.andThen_ok]
 cases hg:t.agg with
 |true=>
  have:=run_loadCells_list (P:=P) w ad cs hc
  rw[hl] at this
  simp only[if_true,Sem.run_bind,zh hE ht,Result.andThen_ok,this,Sem.run_pure,zj hg]
 |false=>
  have h1:t.cells=1:=by cases t<;>simp_all [Ty.agg,Ty.cells]
  rw[h1] at hl
  match cs,hl with
  | [c],_=>
    rw[m7 hg]
    have:=hc 0 c rfl
    have h0:ad.add 0=ad:=by simp [Addr.add]
    rw[h0] at this
    simp only[Bool.false_eq_true,if_false,run_load,this]
theorem yp{own:List (List Nat)}{p:List Nat}(h:fc own p=true):p∈own:=by
 unfold fc at h
 obtain⟨q,hq,he⟩:=List.any_eq_true.1 h
 rw[<-eq_of_beq he]
 exact hq
theorem qz{own:List (List Nat)}{p q:List Nat}(h:q∈jf own p):q∈own/\p.isPrefixOf q=false:=by
 unfold jf at h
 rw[List.mem_filter] at h
 exact⟨h.1,by simpa using h.2⟩
theorem Rel.fy{Y:ag}(hr:Rel Y s a){id r:Nat}{B B':aH}(hb:s.bs[id]? =some (some B))(hβ:Y.β id=some r)(h:aG Y id r B'):Rel Y (s.ao (some (id,B'))) a where
 size:=hr.size
 cL:=by simpa [State.ao] using hr.cL
 aL:=hr.aL
 boxes:=fun aS B2 bB=>by
  have aw:id<s.bs.length:=(List.getElem?_eq_some_iff.1 hb).1
  simp only[State.ao,List.getElem?_set] at bB
  by_cases e:id=aS
  ·subst e
   rw[if_pos rfl,if_pos aw] at bB
   cases bB;exact⟨r,hβ,h⟩
  ·rw[if_neg e] at bB
   exact hr.boxes aS B2 bB
 live:=fun i l aS t p hi hm=>by
  have aw:id<s.bs.length:=(List.getElem?_eq_some_iff.1 hb).1
  obtain⟨B2,bB⟩:=hr.live i l aS t p hi hm
  simp only[State.ao,List.getElem?_set]
  by_cases e:id=aS
  ·subst e;exact⟨B',by rw[if_pos rfl,if_pos aw]⟩
  ·rw[if_neg e];exact⟨B2,bB⟩
 defers:=hr.defers
theorem qG{id:Nat}{B B':aH}(hb:s.bs[id]? =some (some B)):(s.ao (some (id,B'))).bs[id]? =some (some B'):=by
 have aw:id<s.bs.length:=(List.getElem?_eq_some_iff.1 hb).1
 simp [State.ao,List.getElem?_set,aw]
theorem nZ{r off i:Nat}{cs:Array Value}{T:TypeId}{w:World}(h:w.heap[r]? =some (.cells cs T (0,0))){k:Nat}{v:Value}(hv:((cs.toList.drop off).take k)[i]? =some v):w.cell? ((⟨r,off,none⟩:Addr).add i)=some v:=by
 rw[zn]
 rw[List.getElem?_take] at hv
 split at hv
 ·rw[List.getElem?_drop] at hv
  simpa [World.cell?,h] using hv
 ·cases hv
theorem bW:∀(t:Ty) (p:List Nat) (u:Ty),t.at_ p=some u->t.b5 p->t.off p+u.cells<=t.cells:=by
 intro t
 induction t with
 |aK n t ih=>
  intro p u h hp
  cases p with
  |nil=>simp only[Ty.at_,Option.some.injEq] at h;subst h;simp [Ty.off]
  |cons i p=>
   have:=ih p u h hp.2
   have hn:(i+1)*t.cells<=n*t.cells:=Nat.mul_le_mul_right _ hp.1
   rw[Nat.add_mul,Nat.one_mul] at hn
   simp only[Ty.off,Ty.cells]
   omega
 |pair x y mu mw=>
  intro p u h hp
  cases p with
  |nil=>simp only[Ty.at_,Option.some.injEq] at h;subst h;simp [Ty.off]
  |cons i p=>
   cases i with
   |zero=>have:=mu p u h hp;simp only[Ty.off,Ty.cells];omega
   |succ i=>have:=mw (i::p) u h hp;simp only[Ty.off,Ty.cells];omega
 |_=>
  intro p u h hp
  cases p with
  |nil=>simp only[Ty.at_,Option.some.injEq] at h;subst h;simp [Ty.off]
  |cons i p=>simp [Ty.at_] at h
theorem BO{t:Ty}{p:List Nat}{e:TypeId}{t':Ty}(h:t.b5 p)(aT:t.at_ p=some (.sl e t')):t.off p<t.cells:=by
 have:=bW t p _ aT h
 simp only[Ty.cells] at this
 omega
theorem yn:∀{t:Ty} {p q:List Nat} {x:El t} {u:Ty} {y:El u} {r:(u:Ty)×El u},El.get t p x=some ⟨u,y⟩->t.b5 (p++q)->El.get t (p++q) x=some r->u.b5 q/\El.get u q y=some r:=by
 intro t
 induction t with
 |aK n t ih=>
  intro p q x u y r h1 h2 h3
  cases p with
  |nil=>simp only[El.get,Option.some.injEq,Sigma.mk.injEq] at h1;obtain⟨rfl,h1⟩:=h1;cases h1;exact⟨h2,h3⟩
  |cons i p=>exact ih h1 h2.2 h3
 |pair ta tb ep er=>
  intro p q x u y r h1 h2 h3
  cases p with
  |nil=>simp only[El.get,Option.some.injEq,Sigma.mk.injEq] at h1;obtain⟨rfl,h1⟩:=h1;cases h1;exact⟨h2,h3⟩
  |cons i p=>
   cases i with
   |zero=>exact ep h1 h2 h3
   |succ i=>exact er (p:=i::p) h1 h2 h3
 |_=>
  intro p q x u y r h1 h2 h3
  cases p with
  |nil=>simp only[El.get,Option.some.injEq,Sigma.mk.injEq] at h1;obtain⟨rfl,h1⟩:=h1;cases h1;exact⟨h2,h3⟩
  |cons i p=>simp [El.get] at h1
def ag.ct(X:ag)(id:Nat)(p:List Nat)(q:List Nat->Place):ag:=
 {X with ow:=fun g=>match X.ow g with
  | .row (.b aS p') n=>if aS=id/\p.isPrefixOf p'=true then .row (q (p'.drop p.length)) n else .row (.b aS p') n
  |w=>w}
theorem uo{s:State}{X:ag}{id:Nat}{p:List Nat}{q:List Nat->Place}(h:∀p',¬bg s (.b id (p++p'))):bG s X (X.ct id p q):=by
 refine⟨rfl,rfl,fun g=> ?_⟩
 simp only[ag.ct]
 cases hg:X.ow g with
 |row pl n=>
  cases pl with
  |b aS p'=>
   by_cases e:aS=id/\p.isPrefixOf p'=true
   ·obtain⟨rfl,hp⟩:=e
    obtain⟨r,rfl⟩:=List.isPrefixOf_iff_prefix.1 hp
    exact .inr ⟨_,n,q r,rfl,h r,by simp⟩
   ·exact .inl (if_neg e)
  |_=>exact .inl rfl
 |_=>exact .inl rfl
theorem aD.fJ{X:ag}{id:Nat}{p r:List Nat}{q:List Nat->Place}{e:TypeId}{k n:Nat}{v:Value}(h:aD X (.b id (p++r)) e k n v):aD (X.ct id p q) (q r) e k n v:=by
 rcases h with h|⟨g,cap,cur,h1,h2,h3,h4,h5,h6⟩
 ·exact .inl h
 ·exact .inr ⟨g,cap,cur,h1,h2,h3,h4,h5,by simp [ag.ct,h6]⟩
theorem ku(hr:Rel X s a){id:Nat}{t b:Ty}{B:aH}(hB:s.box id=some B)(h:B.t.aX (.aF .row t b)=true):s.bs[id]? =some (some B)/\∃r,X.β id=some r/\X.ow r= .box id/\∃cs T,X.w.heap[r]? =some (.cells cs T (0,0))/\cs.size=List.length (Ty.cast h B.x:List (El t))*t.cells/\
 ∀(j:Nat) (x:El t),(Ty.cast h B.x:List (El t))[j]? =some x->az X t x ((cs.toList.drop (j*t.cells)).take t.cells):=by
 have hb:=gk hB
 obtain⟨r,h1,h2,h3⟩:=hr.boxes id B hb
 refine⟨hb,r,h1,h2,?_⟩
 obtain⟨bt,bx,bo⟩:=B
 have e:=Ty.av h
 simp only at e
 subst e
 obtain⟨cs,T,g1,g2,g3⟩:=h3
 exact⟨cs,T,g1,g2,g3⟩
theorem ye(hE:ae P E)(hr:Rel X s a){S T:TypeId}{x:Operand}(ho:o.op= .convert S T x){id n:Nat}{ta tb:Ty}(bK:s.ak x= .ptr id (.aF (.dD n) ta tb) [])(h:di E S T s id n ta tb some=some u):al P X s a o u:=by
 have hx:=hr.ak x
 rw[bK] at hx
 obtain⟨r0,hβ,cap,hv,eL⟩:=hx
 unfold di at h
 split at h
 case h_2=>cases h
 rename_i e hS hT
 split at h
 case isFalse=>cases h
 rename_i heq
 have:=Ty.av heq
 subst this
 split at h
 case h_2=>cases h
 rename_i B hB
 split at h
 case isFalse=>cases h
 rename_i cj
 obtain⟨hb,r,h1,h2,cs,T',ap,cO,b6⟩:=ku hr hB cj
 rw[hβ] at h1
 cases h1
 generalize(Ty.cast cj B.x:List Int)=xs at*
 cases hn:Nat.beq n (List.length xs) with
 |false=>rw[hn] at h;cases h
 |true=>
  rw[hn] at h
  cases h
  have hn:=Nat.eq_of_beq_eq_true hn
  subst hn
  have hu:=(hE.ty S _ hS).bu
  have he:=(hE.ty e _ hu.2).bu
  have hT:=(hE.ty T _ hT).bu
  refine al.plain hr (v:= .string (strOf xs)) ?_ kY (fun _ _ _ e'=>by cases e')
  have key:(convert S T (.slice (some ⟨r0,0,none⟩) (List.length xs) cap)).run P X.w= .ok (.string (strOf xs)) X.w:=by
   rw[run_convert_bytes_string X.w S T e _ _ cap hu.1 he hT]
   have dm:(loadCells ⟨r0,0,none⟩ (List.length xs)).run P X.w= .ok (List.map (Value.int .u8) xs).toArray X.w:=by
    have:=run_loadCells_list (P:=P) X.w ⟨r0,0,none⟩ (List.map (Value.int .u8) xs) (fun j v hj=>by
     obtain⟨y,hy,rfl⟩:=List.getElem?_map .. ▸hj|>Option.map_eq_some_iff.1
     have hc:(cs.toList.drop (j*1)).take 1=[.int .u8 y]:=b6 j y hy
     have h0:=congrArg (fun l=>l[0]?) hc
     simp only[List.getElem?_take,List.getElem?_drop] at h0
     simp only[Nat.zero_lt_one,if_true,Nat.mul_one,Nat.add_zero,List.getElem?_cons_zero] at h0
     rw[zn,Nat.zero_add]
     simpa [World.cell?,ap] using h0)
    rw[List.length_map] at this
    exact this
   rw[run_bytesToString X.w _ _ cap xs dm,foldl_push_bytes]
   simp [strOf,ByteArray.empty,ByteArray.emptyWithCapacity]
   rfl
  simp only[execOp,ho,Sem.run_bind,hv,key,Result.andThen_ok,Sem.run_pure]
theorem y6(hE:ae P E)(hr:Rel X s a){ops:List Oper}{S T:TypeId}{x:Operand}(ho:o.op= .convert S T x){C:FuncId->aJ Out}(h:act E C ops o s some=some u):al P X s a o u:=by
 unfold act at h
 simp only[ho] at h
 split at h
 ·rename_i id n ta tb bK
  exact ye hE hr ho bK h
 ·exact yf hE hr ho h
theorem xJ(hE:ae P E)(hr:Rel X s a){T:TypeId}{u':Ty}{x:Operand}(ho:o.op= .load T x)(hT:E.ty T=some u'){id:Nat}{t:Ty}{p:List Nat}(bK:s.ak x= .ptr id t p)(h:kq u' s id t p some=some u):al P X s a o u:=by
 have hx:=hr.ak x
 rw[bK] at hx
 obtain⟨r0,hβ,hv⟩:=hx
 unfold kq at h
 split at h
 case h_2=>cases h
 rename_i ta tb i
 split at h
 case h_2=>cases h
 rename_i B hB
 split at h
 case isFalse=>cases h
 rename_i cj
 split at h
 case isFalse=>cases h
 rename_i heq
 have:=Ty.av heq
 subst this
 obtain⟨hb,r,h1,h2,cs,T',ap,cO,b6⟩:=ku hr hB cj
 rw[hβ] at h1
 cases h1
 generalize(Ty.cast cj B.x:List (El u'))=xs at*
 cases hn:Nat.ble (i+1) (List.length xs) with
 |false=>rw[hn] at h;cases h
 |true=>
  rw[hn] at h
  cases h
  have aw:i<List.length xs:=Nat.le_of_ble_eq_true hn
  have au:=b6 i _ (getD_some (El.aM u') aw)
  have hv:a.eval x= .pointer (some ⟨r0,i*u'.cells,none⟩):=hv
  refine al.plain hr ?_ (kr au) (fun _ _ _ e'=>by cases e')
  have hl:=kQ hE hT au (ad:=⟨r0,i*u'.cells,none⟩) (w:=X.w) (fun j v hj=>nZ ap hj)
  simp only[execOp,ho,Sem.run_bind,Instr.loadAt,hv,Instr.sureAddr,Sem.run_pure,Result.andThen_ok,hl]
theorem xI(hE:ae P E)(hr:Rel X s a){T:TypeId}{u':Ty}{x:Operand}(ho:o.op= .load T x)(hT:E.ty T=some u'){id:Nat}{t:Ty}{p:List Nat}(bK:s.ak x= .ptr id t p){B:aH}(hB:s.box id=some B)(h:ld u' B t p some=some u):al P X s a o u:=by
 have hx:=hr.ak x
 rw[bK] at hx
 obtain⟨r0,hβ,hv⟩:=hx
 unfold ld at h
 split at h
 case h_2=>cases h
 rename_i n e
 split at h
 case isFalse=>cases h
 rename_i cj
 split at h
 case isFalse=>cases h
 rename_i heq
 have:=Ty.av heq
 subst this
 obtain⟨hb,r,h1,h2,cs,T',ap,cO,b6⟩:=ku hr hB cj
 rw[hβ] at h1
 cases h1
 generalize(Ty.cast cj B.x:List (El e))=xs at*
 cases hn:Nat.beq n (List.length xs) with
 |false=>rw[hn] at h;cases h
 |true=>
  rw[hn] at h
  cases h
  have hn:=Nat.eq_of_beq_eq_true hn
  have au:az X (.aK n e) xs cs.toList:=⟨hn.symm,by rw[hn];simpa using cO,b6⟩
  have hv:=((zq rfl).1 hv).1
  have hv:a.eval x= .pointer (some ⟨r0,0,none⟩):=by rw[hv];rfl
  refine al.plain hr ?_ (kr au) (fun _ _ _ e'=>by cases e')
  have hl:=kQ hE hT au (ad:=⟨r0,0,none⟩) (w:=X.w) (fun j v hj=>nZ (off:=0) (k:=cs.toList.length) ap (by rw[List.drop_zero,List.take_length];exact hj))
  simp only[execOp,ho,Sem.run_bind,Instr.loadAt,hv,Instr.sureAddr,Sem.run_pure,Result.andThen_ok,hl]
theorem y9(hE:ae P E)(hr:Rel X s a){ops:List Oper}{T:TypeId}{x:Operand}(ho:o.op= .load T x){C:FuncId->aJ Out}(h:act E C ops o s some=some u):al P X s a o u:=by
 unfold act at h
 simp only[ho] at h
 have hx:=hr.ak x
 unfold load at h
 split at h
 case h_2=>cases h
 rename_i u' hT
 split at h
 ·rename_i t y e
  rw[e] at hx
  obtain⟨ad,cs,hv,eF,au,bH⟩:=hx
  split at h
  case isFalse=>cases h
  rename_i heq
  have:=Ty.av heq
  subst this
  cases h
  refine al.plain hr ?_ (kr au) (fun _ _ _ e'=>by cases e')
  have hl:=kQ hE hT au (ad:=ad) (w:=X.w) (fun i v hi=>(bH i v hi).2.1)
  simp only[execOp,ho,Sem.run_bind,Instr.loadAt,hv,Instr.sureAddr,Sem.run_pure,Result.andThen_ok,hl]
 ·rename_i id t p e
  rw[e] at hx
  obtain⟨r,hβ,hx⟩:=hx
  split at h
  ·exact xJ hE hr ho hT e h
  rename_i b7
  have b7:t.aI=false:=by simpa using b7
  obtain⟨hv,cw⟩:=(zq b7).1 hx
  split at h
  case h_2=>cases h
  rename_i B hB
  split at h
  case isFalse=>exact xI hE hr ho hT e hB h
  rename_i heq
  have cj:=Ty.av heq
  split at h
  case h_2=>cases h
  rename_i ut y bd
  split at h
  case isFalse=>cases h
  rename_i j5
  have:=Ty.av j5
  subst this
  have hb:=gk hB
  obtain⟨r',hβ',iF⟩:=hr.boxes id B hb
  rw[hβ] at hβ'
  cases hβ'
  subst cj
  obtain⟨cs,T',ap,au,how,bk⟩:=iF.cells b7
  obtain⟨k1,k2,k3⟩:=m5 au cw bd
  have hl:=kQ hE hT k3 (ad:=⟨r,B.t.off p,none⟩) (w:=X.w) (fun i v hi=>nZ ap hi)
  have aA:(execOp a.eval o).run P X.w= .ok (.value (bL u' ((cs.toList.drop (B.t.off p)).take u'.cells))) X.w:=by
   simp only[execOp,ho,Sem.run_bind,Instr.loadAt,hv,Instr.sureAddr,Sem.run_pure,Result.andThen_ok,hl]
  cases hc:z72 ops o.dst||jx E ops o.dst||vK ops o.dst with
  |false=>
   rw[hc] at h
   cases h
   exact al.plain hr aA (kr k3) (fun _ _ _ e'=>by cases e')
  |true=>
   rw[hc] at h
   cases h
   have cN:Rel X (s.ao (some (id,{B with own:=jf B.own p}))) a:=hr.fy hb hβ ⟨how,bD.of b7 ap au fun q hq=>bk q (qz hq).1⟩
   have kG:∀q,¬bg (s.ao (some (id,{B with own:=jf B.own p}))) (.b id (p++q)):=by
    rintro q ⟨B2,bB,hp⟩
    rw[qG hb] at bB
    cases bB
    have:=(qz hp).2
    rw[List.isPrefixOf_iff_prefix.2 (List.prefix_append p q)] at this
    cases this
   have eD:=uo (X:=X) (q:= .c (o.dst.getD 0) 0) kG
   refine⟨X.ct id p (.c (o.dst.getD 0) 0),_,.inl aA,eD.ext,(cN.mod eD.mod).fin ⟨_,k3.af (fun _ _=>eD.ai.1),rfl,?_⟩ (fun id t p hm=>by simp at hm)⟩
   intro q hq
   obtain⟨q0,wI,rfl⟩:=List.mem_map.1 hq
   obtain⟨wJ,pO⟩:=List.mem_filter.1 wI
   obtain⟨q,rfl⟩:=List.isPrefixOf_iff_prefix.1 pO
   rw[List.drop_left]
   obtain⟨e',t',xs,v,h0,h1,h2,h3⟩:=bk _ wJ
   obtain⟨j1,j2⟩:=yn bd h0 h1
   have hle:=BO j1 (nc _ _ _ _ _ j2)
   refine⟨e',t',xs,v,j1,j2,?_,h3.fJ⟩
   rw[nT _ _ _ _ k1] at h2
   rw[List.getElem?_take,if_pos hle,List.getElem?_drop]
   exact h2
 ·cases h
theorem qZ{cs c:List Value}{off:Nat}(h:off+c.length<=cs.length)(j k:Nat):(∀h1:j+k<=off\/off+c.length<=j,((cs.take off++c++cs.drop (off+c.length)).drop j).take k=(cs.drop j).take k):=by
 intro h1
 apply List.ext_getElem?
 intro q
 simp only[List.getElem?_take,List.getElem?_drop]
 split
 ·rename_i hq
  rw[List.append_assoc]
  rcases h1 with h1|h1
  ·rw[List.getElem?_append_left (by rw[List.length_take];omega),List.getElem?_take,if_pos (by omega)]
  ·rw[List.getElem?_append_right (by rw[List.length_take];omega),List.length_take,Nat.min_eq_left (by omega),List.getElem?_append_right (by omega),List.getElem?_drop]
   congr 1
   omega
 ·rfl
theorem rV{X:ag}:∀{t:Ty} {p:List Nat} {x:El t} {cs:List Value} {u:Ty} {y:El u} {z:El t} {c:List Value},az X t x cs->t.b5 p->t.at_ p=some u->El.set t p x u y=some z->az X u y c->
 az X t z (cs.take (t.off p)++c++cs.drop (t.off p+c.length)):=by
 intro t
 induction t with
 |aK n t ih=>
  intro p x cs u y z c hr hp aT h hc
  have eE:=hc.len
  cases p with
  |nil=>
   simp only[Ty.at_,Option.some.injEq] at aT
   subst aT
   simp only[El.set,Ty.aO,dite_true,Option.some.injEq] at h
   subst h
   have hl:=hr.len
   simp only[Ty.off,Nat.zero_add,List.take_zero,List.nil_append]
   rw[eE,<-hl,List.drop_length,List.append_nil]
   exact hc
  |cons i p=>
   obtain⟨hi,hp⟩:=hp
   obtain⟨h1,h2,h3⟩:=hr
   simp only[El.set] at h
   obtain⟨z',eR,rfl⟩:=Option.map_eq_some_iff.1 h
   have eK:t.at_ p=some u:=aT
   have hle:=bW t p u eK hp
   have hn:(i+1)*t.cells<=n*t.cells:=Nat.mul_le_mul_right _ hi
   rw[Nat.add_mul,Nat.one_mul] at hn
   have pz:=ih (h3 i _ (getD_some (El.aM t) (by omega))) hp eK eR hc
   have bn:i*t.cells+t.off p+c.length<=cs.length:=by rw[eE,h2];omega
   refine⟨by simpa using h1,?_,fun j w hj=> ?_⟩
   ·simp only[Ty.off,List.length_append,List.length_take,List.length_drop];omega
   ·simp only[Ty.off]
    by_cases e:j=i
    ·subst e
     rw[List.getElem?_set_self (by omega)] at hj
     cases hj
     have hL:((cs.take (j*t.cells+t.off p)++c++cs.drop (j*t.cells+t.off p+c.length)).drop (j*t.cells)).take t.cells=
      ((cs.drop (j*t.cells)).take t.cells).take (t.off p)++c++((cs.drop (j*t.cells)).take t.cells).drop (t.off p+c.length):=by
      apply List.ext_getElem?
      intro q
      rw[List.append_assoc,List.append_assoc]
      simp only[List.getElem?_take,List.getElem?_drop,List.getElem?_append,List.length_take,List.length_drop]
      rw[Nat.min_eq_left (show j*t.cells+t.off p<=cs.length by omega),Nat.min_eq_left (show t.cells<=cs.length-j*t.cells by omega),Nat.min_eq_left (show t.off p<=t.cells by omega)]
      by_cases q1:q<t.cells
      ·by_cases q2:q<t.off p
       ·rw[if_pos q1,if_pos (by omega),if_pos (by omega),if_pos q2,if_pos q2,if_pos q1]
       ·by_cases q3:q-t.off p<c.length
        ·rw[if_pos q1,if_neg (by omega),if_pos (by omega),if_neg q2,if_pos q3]
         congr 1
         omega
        ·rw[if_pos q1,if_neg (by omega),if_neg (by omega),if_neg q2,if_neg q3,if_pos (by omega)]
         congr 1
         omega
      ·rw[if_neg q1,if_neg (by omega),if_neg (by omega),if_neg (by omega)]
     rw[hL]
     exact pz
    ·rw[List.getElem?_set_ne (Ne.symm e)] at hj
     have iJ:=(List.getElem?_eq_some_iff.1 hj).1
     rw[qZ bn (j*t.cells) t.cells ?_]
     ·exact h3 j w hj
     ·rcases Nat.lt_or_gt_of_ne e with aw|sZ
      ·have:(j+1)*t.cells<=i*t.cells:=Nat.mul_le_mul_right _ aw
       rw[Nat.add_mul,Nat.one_mul] at this
       exact .inl (by omega)
      ·have:(i+1)*t.cells<=j*t.cells:=Nat.mul_le_mul_right _ sZ
       rw[Nat.add_mul,Nat.one_mul] at this
       exact .inr (by omega)
 |pair ta tb ep er=>
  intro p x cs u y z c hr hp aT h hc
  have eE:=hc.len
  cases p with
  |nil=>
   simp only[Ty.at_,Option.some.injEq] at aT
   subst aT
   simp only[El.set,Ty.aO,dite_true,Option.some.injEq] at h
   subst h
   have hl:=hr.len
   simp only[Ty.off,Nat.zero_add,List.take_zero,List.nil_append]
   rw[eE,<-hl,List.drop_length,List.append_nil]
   exact hc
  |cons i p=>
   obtain⟨c1,c2,rfl,r1,r2⟩:=hr
   have l1:=r1.len
   have l2:=r2.len
   cases i with
   |zero=>
    simp only[El.set] at h
    obtain⟨z',eR,rfl⟩:=Option.map_eq_some_iff.1 h
    have eK:ta.at_ p=some u:=aT
    have hle:=bW ta p u eK hp
    have:=ep r1 hp eK eR hc
    refine⟨_,c2,?_,this,r2⟩
    simp only[Ty.off]
    rw[List.take_append_of_le_length (by omega),List.drop_append_of_le_length (by omega)]
    simp [List.append_assoc]
   |succ i=>
    simp only[El.set] at h
    obtain⟨z',eR,rfl⟩:=Option.map_eq_some_iff.1 h
    have eK:tb.at_ (i::p)=some u:=aT
    have hle:=bW tb (i::p) u eK hp
    have:=er r2 hp eK eR hc
    refine⟨c1,_,?_,r1,this⟩
    simp only[Ty.off]
    rw[<-l1,List.take_length_add_append,Nat.add_assoc,List.drop_length_add_append]
    simp [List.append_assoc]
 |_=>
  intro p x cs u y z c hr hp aT h hc
  have eE:=hc.len
  cases p with
  |nil=>
   simp only[Ty.at_,Option.some.injEq] at aT
   subst aT
   simp only[El.set,Ty.aO,dite_true,Option.some.injEq] at h
   first|subst h|skip
   have hl:=hr.len
   simp only[Ty.off,Nat.zero_add,List.take_zero,List.nil_append]
   rw[eE,<-hl,List.drop_length,List.append_nil]
   exact hc
  |cons i p=>simp [Ty.at_] at aT
end Go.Ref

namespace Go.Ref
open Go
variable {P:Program} {E:Env} {X:ag} {s:State} {a:Act} {o:Oper} {u:Out}
theorem xE:∀{t:Ty} {p q:List Nat} {x:El t} {u:Ty} {y:El u} {z:El t} {e:TypeId} {t':Ty} {xs:El (.sl e t')},El.set t p x u y=some z->t.at_ p=some u->t.b5 p->t.b5 q->p.isPrefixOf q=false->El.get t q x=some ⟨.sl e t',xs⟩->
 El.get t q z=some ⟨.sl e t',xs⟩/\(t.off q+1<=t.off p\/t.off p+u.cells<=t.off q):=by
 intro t
 induction t with
 |aK n t ih=>
  intro p q x u y z e t' xs hs aT hp hq cf hg
  cases p with
  |nil=>simp at cf
  |cons i p=>
   cases q with
   |nil=>simp [El.get] at hg
   |cons j q=>
    simp only[El.set] at hs
    obtain⟨z',eR,rfl⟩:=Option.map_eq_some_iff.1 hs
    by_cases oZ:i=j
    ·subst oZ
     have eN:p.isPrefixOf q=false:=by simpa [List.isPrefixOf] using cf
     obtain⟨h1,h2⟩:=ih eR aT hp.2 hq.2 eN hg
     refine⟨?_,by simp only[Ty.off];omega⟩
     simp only[El.get]
     by_cases hl:i<List.length x
     ·rw[List.getD_eq_getElem?_getD,List.getElem?_set_self hl]
      exact h1
     ·have cA:List.set x i z'=x:=by rw[List.set_eq_of_length_le (Nat.le_of_not_lt hl)]
      rw[cA];exact hg
    ·refine⟨?_,?_⟩
     ·simp only[El.get] at hg⊢
      rw[List.getD_eq_getElem?_getD,List.getElem?_set_ne oZ,<-List.getD_eq_getElem?_getD]
      exact hg
     ·have a1:=bW t p u aT hp.2
      have a2:t.off q+1<=t.cells:=by
       have:=bW t q _ (nc t q _ _ _ hg) hq.2
       simpa [Ty.cells] using this
      simp only[Ty.off]
      rcases Nat.lt_or_gt_of_ne oZ with h|h
      ·have:(i+1)*t.cells<=j*t.cells:=Nat.mul_le_mul_right _ h
       rw[Nat.add_mul,Nat.one_mul] at this
       omega
      ·have:(j+1)*t.cells<=i*t.cells:=Nat.mul_le_mul_right _ h
       rw[Nat.add_mul,Nat.one_mul] at this
       omega
 |pair ta tb ep er=>
  intro p q x u y z e t' xs hs aT hp hq cf hg
  cases p with
  |nil=>simp at cf
  |cons i p=>
   cases q with
   |nil=>simp [El.get] at hg
   |cons j q=>
    cases i with
    |zero=>
     simp only[El.set] at hs
     obtain⟨z',eR,rfl⟩:=Option.map_eq_some_iff.1 hs
     cases j with
     |zero=>
      have eN:p.isPrefixOf q=false:=by simpa [List.isPrefixOf] using cf
      obtain⟨h1,h2⟩:=ep eR aT hp hq eN hg
      exact⟨h1,by simp only[Ty.off];omega⟩
     |succ j=>
      have a1:=bW ta p u aT hp
      exact⟨hg,by simp only[Ty.off];omega⟩
    |succ i=>
     simp only[El.set] at hs
     obtain⟨z',eR,rfl⟩:=Option.map_eq_some_iff.1 hs
     cases j with
     |zero=>
      have a2:ta.off q+1<=ta.cells:=by
       have:=bW ta q _ (nc ta q _ _ _ hg) hq
       simpa [Ty.cells] using this
      exact⟨hg,by simp only[Ty.off];omega⟩
     |succ j=>
      have eN:(i::p).isPrefixOf (j::q)=false:=by
       simp [List.isPrefixOf] at cf⊢
       exact cf
      obtain⟨h1,h2⟩:=er eR aT hp hq eN hg
      exact⟨h1,by simp only[Ty.off];omega⟩
 |_=>
  intro p q x u y z e t' xs hs aT hp hq cf hg
  cases p with
  |nil=>simp at cf
  |cons i p=>simp [Ty.at_] at aT
def ag.row(X:ag)(r:Nat)(cs:Array Value):ag:={X with w:=X.w.setRow r cs}
theorem iu{r id:Nat}{cs:Array Value}(h:X.ow r= .box id){ad:Addr}{v:Value}(hs:X.ai ad v):(X.row r cs).ai ad v:=by
 have bp:ad.block≠r:=fun e=>by
  have:=hs.2.2
  rw[e,h] at this
  exact this
 refine⟨hs.1,?_,hs.2.2⟩
 have:=hs.2.1
 simp only[World.cell?,ag.row] at this⊢
 rw[setRow_other X.w r ad.block cs bp]
 exact this
theorem oo{r id:Nat}{cs:Array Value}(h:X.ow r= .box id):Ext X (X.row r cs) where
 ai:=fun _ _=>iu h
 size:=by simp [ag.row]
 os:=rfl
 tape:=rfl
 output:=rfl
 β0:=rfl
 still:=fun g _ bm=>by
  have bp:g≠r:=fun e=>by rw[e,h] at bm;exact bm
  exact⟨rfl,setRow_other X.w r g cs bp⟩
theorem aD.row{r id:Nat}{cs:Array Value}(h:X.ow r= .box id){pl:Place}{e:TypeId}{k n:Nat}{v:Value}(ho:aD X pl e k n v):aD (X.row r cs) pl e k n v:=by
 rcases ho with ho|⟨g,cap,cur,h1,h2,h3,h4,h5,h6⟩
 ·exact .inl ho
 ·have bp:g≠r:=fun e=>by rw[e,h] at h6;cases h6
  exact .inr ⟨g,cap,cur,h1,(setRow_other X.w r g cs bp).trans h2,h3,h4,h5,h6⟩
theorem aC.row{r id:Nat}{cs:Array Value}(h:X.ow r= .box id){pl:List Nat->Place}{t:Ty}{x:El t}{c:List Value}{own:List (List Nat)}(ho:aC X pl t x c own):aC (X.row r cs) pl t x c own:=fun p hp=>by
 obtain⟨e,t',xs,v,g0,g1,g2,g3⟩:=ho p hp
 exact⟨e,t',xs,v,g0,g1,g2,g3.row h⟩
theorem ah.row{r id:Nat}{cs:Array Value}(h:X.ow r= .box id){pl:List Nat->Place}{sv:SV}{v:Value}(hr:ah X pl sv v):ah (X.row r cs) pl sv v:=by
 cases sv with
 |undef=>trivial
 |skip=>exact hr
 |bc=>exact hr
 |cH=>exact hr
 |over=>exact hr
 |aj t x own=>
  obtain⟨c,h1,h2,h3⟩:=hr
  exact⟨c,h1.af (fun _ _=>iu h),h2,h3.row h⟩
 |ptr id t p=>exact hr
 |view t x=>
  obtain⟨ad,c,h1,h2,h3,h4⟩:=hr
  exact⟨ad,c,h1,h2,h3.af (fun _ _=>iu h),fun i u hi=>iu h (h4 i u hi)⟩
 |cap f t x u y=>exact ij (fun _ _=>iu h) hr
theorem Rel.row{r id:Nat}{B B':aH}{cs:Array Value}(hr:Rel X s a)(hb:s.bs[id]? =some (some B))(hβ:X.β id=some r)(h:X.ow r= .box id)(hB:aG (X.row r cs) id r B'):Rel (X.row r cs) (s.ao (some (id,B'))) a where
 size:=hr.size
 cL:=by simpa [State.ao] using hr.cL
 aL:=fun i l v hl hv=>(hr.aL i l v hl hv).dE fun j sv u hm dC=>dC.row h
 boxes:=fun aS B2 bB=>by
  have aw:id<s.bs.length:=(List.getElem?_eq_some_iff.1 hb).1
  simp only[State.ao,List.getElem?_set] at bB
  by_cases e:id=aS
  ·subst e
   rw[if_pos rfl,if_pos aw] at bB
   cases bB;exact⟨r,hβ,hB⟩
  ·rw[if_neg e] at bB
   obtain⟨r',h1,h4,h2⟩:=hr.boxes aS B2 bB
   have bp:r'≠r:=fun e2=>by rw[e2,h] at h4;cases h4;exact e rfl
   exact⟨r',h1,h4,h2.move (fun _ _=>iu h) (setRow_other X.w r r' cs bp) (fun cs h5=>h5.row h) fun _ g o ho hw=>⟨(setRow_other X.w r g cs (fun e3=>by rw[e3,h] at hw;cases hw)).trans ho,hw⟩⟩
 live:=fun i l aS t p hi hm=>by
  have aw:id<s.bs.length:=(List.getElem?_eq_some_iff.1 hb).1
  obtain⟨B2,bB⟩:=hr.live i l aS t p hi hm
  simp only[State.ao,List.getElem?_set]
  by_cases e:id=aS
  ·subst e;exact⟨B',by rw[if_pos rfl,if_pos aw]⟩
  ·rw[if_neg e];exact⟨B2,bB⟩
 defers:=hr.defers
theorem nP(hE:ae P E){T:TypeId}{t:Ty}(ht:E.ty T=some t){x:El t}{cs:List Value}(hr:az X t x cs){r off:Nat}{cur:Array Value}{T':TypeId}{w:World}(hg:w.heap[r]? =some (.cells cur T' (0,0)))(hf:off+t.cells<=cur.size):
 (storeVar T ⟨r,off,none⟩ (bL t cs)).run P w= .ok () (w.setRow r (cur.toList.take off++cs++cur.toList.drop (off+cs.length)).toArray):=by
 have hl:=hr.len
 have bm:=run_storeCells_at P r off T' cs 0 cur w hg (by omega) hr.one
 simp only[Nat.add_zero] at bm
 unfold storeVar
 simp only[Sem.run_bind,zh hE ht,Result.andThen_ok,jb hr]
 rw[if_neg (by simp [hl])]
 exact bm
theorem xX:∀{t:Ty} {p q:List Nat} {x:El t} {u:Ty} {y:El u} {z:El t} {r:(u:Ty)×El u} {X:ag} {cs:List Value},az X t x cs->El.set t p x u y=some z->t.at_ p=some u->t.b5 p->El.get u q y=some r->El.get t (p++q) z=some r:=by
 intro t
 induction t with
 |aK n t ih=>
  intro p q x u y z r X cs hr hs aT hp hg
  cases p with
  |nil=>
   simp only[Ty.at_,Option.some.injEq] at aT
   subst aT
   simp only[El.set,Ty.aO,dite_true,Option.some.injEq] at hs
   subst hs
   exact hg
  |cons i p=>
   simp only[El.set] at hs
   obtain⟨z',eR,rfl⟩:=Option.map_eq_some_iff.1 hs
   obtain⟨h1,h2,h3⟩:=hr
   have hi:i<List.length x:=by rw[h1];exact hp.1
   simp only[El.get,List.cons_append]
   rw[List.getD_eq_getElem?_getD,List.getElem?_set_self hi]
   exact ih (h3 i _ (getD_some _ hi)) eR aT hp.2 hg
 |pair ta tb ep er=>
  intro p q x u y z r X cs hr hs aT hp hg
  cases p with
  |nil=>
   simp only[Ty.at_,Option.some.injEq] at aT
   subst aT
   simp only[El.set,Ty.aO,dite_true,Option.some.injEq] at hs
   subst hs
   exact hg
  |cons i p=>
   obtain⟨c1,c2,_,r1,r2⟩:=hr
   cases i with
   |zero=>
    simp only[El.set] at hs
    obtain⟨z',eR,rfl⟩:=Option.map_eq_some_iff.1 hs
    exact ep r1 eR aT hp hg
   |succ i=>
    simp only[El.set] at hs
    obtain⟨z',eR,rfl⟩:=Option.map_eq_some_iff.1 hs
    exact er (p:=i::p) r2 eR aT hp hg
 |_=>
  intro p q x u y z r X cs hr hs aT hp hg
  cases p with
  |nil=>
   simp only[Ty.at_,Option.some.injEq] at aT
   subst aT
   simp only[El.set,Ty.aO,dite_true,Option.some.injEq] at hs
   first|subst hs|skip
   exact hg
  |cons i p=>simp [Ty.at_] at aT
theorem vC{t u:Ty}{p:List Nat}{x z:El t}{y:El u}{cs cv:List Value}{own oy:List (List Nat)}{pl:List Nat->Place}(hr:az X t x cs)(cw:t.b5 p)(aT:t.at_ p=some u)(cA:El.set t p x u y=some z)(rep:az X u y cv)
 (ho:aC X pl t x cs own) (hy:aC X (fun q=>pl (p++q)) u y cv oy):aC X pl t z (cs.take (t.off p)++cv++cs.drop (t.off p+cv.length)) (oy.map (fun q=>p++q)++jf own p):=by
 have eE:=rep.len
 have hle:=bW t p u aT cw
 have cu:=hr.len
 intro q hq
 rcases List.mem_append.1 hq with hq|hq
 ·obtain⟨q,pO,rfl⟩:=List.mem_map.1 hq
  obtain⟨e,t',xs,v,g0,g1,g2,g3⟩:=hy q pO
  have aw:=(List.getElem?_eq_some_iff.1 g2).1
  refine⟨e,t',xs,v,z49 t p q u aT cw g0,xX hr cA aT cw g1,?_,g3⟩
  rw[nT t p q u aT,List.append_assoc,List.getElem?_append_right (by rw[List.length_take];omega),List.length_take,Nat.min_eq_left (by omega),Nat.add_sub_cancel_left,List.getElem?_append_left aw]
  exact g2
 ·obtain⟨wK,cf⟩:=qz hq
  obtain⟨e,t',xs,v,g0,g1,g2,g3⟩:=ho q wK
  obtain⟨k1,k2⟩:=xE cA aT cw g0 cf g1
  refine⟨e,t',xs,v,g0,k1,?_,g3⟩
  have eF:=qZ (cs:=cs) (c:=cv) (off:=t.off p) (by omega) (t.off q) 1 (by rw[eE];omega)
  have h0:=congrArg (fun l=>l[0]?) eF
  simp only[List.getElem?_take,List.getElem?_drop] at h0
  simp only[Nat.zero_lt_one,if_true,Nat.add_zero] at h0
  rw[h0];exact g2
theorem xD(hE:ae P E)(hr:Rel X s a){T:TypeId}{u0:Ty}{x y:Operand}(ho:o.op= .store T x y)(hT:E.ty T=some u0){id:Nat}{t:Ty}{p:List Nat}(bK:s.ak x= .ptr id t p)(h:kp u0 s id t p (s.ak y) some=some u):al P X s a o u:=by
 have hx:=hr.ak x
 rw[bK] at hx
 obtain⟨r0,hβ,hv⟩:=hx
 unfold kp at h
 split at h
 case h_2=>cases h
 rename_i ta tb i
 split at h
 case h_2=>cases h
 rename_i B hB
 split at h
 case isFalse=>cases h
 rename_i cj
 split at h
 case isFalse=>cases h
 rename_i heq
 have:=Ty.av heq
 subst this
 obtain⟨hb,r,h1,how,cs,T',ap,cO,b6⟩:=ku hr hB cj
 rw[hβ] at h1
 cases h1
 obtain⟨yv,h,hy⟩:=zi h
 obtain⟨cv,rep,ev⟩:=hy X _ _ (hr.ak y)
 generalize(Ty.cast cj B.x:List (El ta))=xs at*
 cases hn:Nat.ble (i+1) (List.length xs) with
 |false=>rw[hn] at h;cases h
 |true=>
  rw[hn] at h
  cases h
  have aw:i<List.length xs:=Nat.le_of_ble_eq_true hn
  have hv:a.eval x= .pointer (some ⟨r0,i*ta.cells,none⟩):=hv
  have eE:=rep.len
  have hmul:(i+1)*ta.cells<=List.length xs*ta.cells:=Nat.mul_le_mul_right _ aw
  rw[Nat.add_mul,Nat.one_mul] at hmul
  have bn:i*ta.cells+ta.cells<=cs.size:=by omega
  have ia:i*ta.cells+cv.length<=cs.toList.length:=by simp;omega
  let new:=(cs.toList.take (i*ta.cells)++cv++cs.toList.drop (i*ta.cells+cv.length)).toArray
  have gH:new.toList=cs.toList.take (i*ta.cells)++cv++cs.toList.drop (i*ta.cells+cv.length):=rfl
  have aA:(execOp a.eval o).run P X.w= .ok .skip ((X.row r0 new).w):=by
   have bm:=nP (P:=P) hE hT rep (off:=i*ta.cells) (w:=X.w) (r:=r0) (cur:=cs) (T':=T') ap bn
   simp only[execOp,ho,Sem.run_bind,Instr.storeAt,hv,Instr.sureAddr,Sem.run_pure,Result.andThen_ok,ev,bm]
   rfl
  have bz:new.size=cs.size:=by
   have:new.toList.length=cs.toList.length:=by rw[gH];simp;omega
   simpa using this
  have aU:aG (X.row r0 new) id r0 ⟨.aF .row ta tb,(List.set xs i yv:List (El ta)),[]⟩:=by
   refine⟨how,new,T',setRow_heap X.w r0 cs new T' (0,0) ap,?_,fun j z hj=> ?_⟩
   ·rw[bz,cO]
    show _=List.length (List.set xs i yv)*_
    rw[List.length_set]
   ·refine az.af (fun _ _=>iu (cs:=new) how) ?_
    have hj:(List.set xs i yv)[j]? =some z:=hj
    rw[gH]
    by_cases e:i=j
    ·subst e
     rw[List.getElem?_set_self aw] at hj
     cases hj
     have:((cs.toList.take (i*ta.cells)++cv++cs.toList.drop (i*ta.cells+cv.length)).drop (i*ta.cells)).take ta.cells=cv:=by
      rw[List.append_assoc,List.drop_append_of_le_length (by rw[List.length_take];omega),List.drop_eq_nil_of_le (by rw[List.length_take];omega),List.nil_append,<-eE,List.take_left]
     rw[this]
     exact rep
    ·rw[List.getElem?_set_ne e] at hj
     rw[qZ (cs:=cs.toList) (c:=cv) (off:=i*ta.cells) ia (j*ta.cells) ta.cells ?_]
     ·exact b6 j z hj
     ·rcases Nat.lt_or_gt_of_ne e with h|h
      ·have:(i+1)*ta.cells<=j*ta.cells:=Nat.mul_le_mul_right _ h
       rw[Nat.add_mul,Nat.one_mul] at this
       right;omega
      ·have:(j+1)*ta.cells<=i*ta.cells:=Nat.mul_le_mul_right _ h
       rw[Nat.add_mul,Nat.one_mul] at this
       left;omega
  exact⟨X.row r0 new,Go.undef,.inr ⟨aA,rfl⟩,oo how,(hr.row (cs:=new) hb hβ how aU).skip o.dst⟩
theorem yk(hE:ae P E)(hr:Rel X s a){ops:List Oper}{T:TypeId}{x y:Operand}(ho:o.op= .store T x y){C:FuncId->aJ Out}(h:act E C ops o s some=some u):al P X s a o u:=by
 unfold act at h
 simp only[ho] at h
 have hx:=hr.ak x
 unfold store at h
 split at h
 case h_2=>cases h
 rename_i u0 hT
 split at h
 case h_2=>cases h
 rename_i id t p e
 rw[e] at hx
 obtain⟨r,hβ,hx⟩:=hx
 split at h
 ·exact xD hE hr ho hT e h
 rename_i b7
 have b7:t.aI=false:=by simpa using b7
 obtain⟨hv,cw⟩:=(zq b7).1 hx
 split at h
 case h_2=>cases h
 rename_i B hB
 split at h
 case isFalse=>cases h
 rename_i heq
 have cj:=Ty.av heq
 subst cj
 split at h
 case h_2=>cases h
 rename_i u' aT
 split at h
 case isFalse=>cases h
 rename_i j5
 have:=Ty.av j5
 subst this
 have hb:=gk hB
 obtain⟨yv,h,hy⟩:=rX hr h (.inl rfl)
 split at h
 case h_2=>cases h
 rename_i z cA
 cases h
 obtain⟨W,cv,hW,hX,nF,rep,ev,hO,hβ2,eD,_⟩:=hy (fun q=> .b id (p++q))
 obtain⟨r',hβW,iF⟩:=nF.boxes id B (by rw[jc];exact hb)
 obtain⟨cs,T2,ap,au,how,bk⟩:=iF.cells b7
 have wM:r'=r:=by
  rw[hβ2,hβ] at hβW
  exact(Option.some.inj hβW).symm
 subst wM
 have bn:B.t.off p+u'.cells<=cs.size:=by
  have:=bW B.t p u' aT cw
  have hl:=au.len
  simp at hl
  omega
 let new:=(cs.toList.take (B.t.off p)++cv++cs.toList.drop (B.t.off p+cv.length)).toArray
 have aA:(execOp a.eval o).run P X.w= .ok .skip ((W.row r' new).w):=by
  have bm:=nP (P:=P) hE hT rep (off:=B.t.off p) (w:=X.w) (r:=r') (cur:=cs) (T':=T2) (by rw[<-hW];exact ap) bn
  simp only[execOp,ho,Sem.run_bind,Instr.storeAt,hv,Instr.sureAddr,Sem.run_pure,Result.andThen_ok,ev,bm]
  rw[<-hW];rfl
 have gL:=vC au cw aT cA rep bk hO
 have aU:aG (W.row r' new) id r' {t:=B.t,x:=z,own:=(s.ak y).own.map (fun q=>p++q)++jf B.own p}:=by
  refine⟨how,bD.of b7 (setRow_heap W.w r' cs new T2 (0,0) ap) ?_ ?_⟩
  ·have:=(rV au cw aT cA rep).af (fun _ _=>iu (cs:=new) how)
   simpa [new] using this
  ·have:=gL.row (cs:=new) how
   simpa [new] using this
 have cq:=nF.row (cs:=new) (by rw[jc];exact hb) hβW how aU
 exact⟨W.row r' new,Go.undef,.inr ⟨aA,rfl⟩,hX.trans (oo how),cq.skip o.dst⟩
end Go.Ref

namespace Go.Ref
open Go
variable {P:Program} {E:Env} {X:ag} {s:State} {a:Act} {o:Oper} {u:Out}
theorem uZ(off:Nat):∀(l:List Value) (k:Nat) (cs:Array Value),off+k+l.length<=cs.size->
 ((l.zipIdx k).foldl (fun cs p=>cs.setIfInBounds (off+p.2) p.1) cs).toList=cs.toList.take (off+k)++l++cs.toList.drop (off+k+l.length)
 | [],k,cs,h=>by simp
 |v::r,k,cs,h=>by
  simp only[List.length_cons] at h
  simp only[List.zipIdx_cons,List.foldl_cons]
  rw[uZ off r (k+1) _ (by simp;omega)]
  simp only[Array.toList_setIfInBounds,List.length_cons]
  apply List.ext_getElem?
  intro q
  simp only[List.getElem?_append,List.getElem?_take,List.getElem?_drop,List.length_append,List.length_take,List.length_set,Array.length_toList,List.getElem?_set,List.length_cons,List.getElem?_cons]
  rw[Nat.min_eq_left (show off+(k+1)<=cs.size by omega),Nat.min_eq_left (show off+k<=cs.size by omega)]
  by_cases h1:q<off+k
  ·rw[if_pos (by omega),if_pos (by omega),if_pos (by omega),if_neg (by omega),if_pos (by omega),if_pos (by omega),if_pos (by omega)]
  ·by_cases h2:q=off+k
   ·subst h2
    rw[if_pos (by omega),if_pos (by omega),if_pos (by omega),if_pos rfl,if_pos (by omega),if_pos (by omega),if_neg (by omega),if_pos (by omega)]
   ·by_cases h3:q<off+(k+1)+r.length
    ·rw[if_pos (by omega),if_neg (by omega),if_pos (by omega),if_neg (by omega),if_neg (by omega)]
     try(congr 1<;>omega)
    ·rw[if_neg (by omega),if_neg (by omega),if_neg (by omega)]
     first|done|(congr 1;omega)
theorem uY(off:Nat)(l:List Value)(cs:Array Value)(h:off+l.length<=cs.size):
 ((l.toArray.zipIdx).foldl (fun cs (p:Value×Nat)=>cs.setIfInBounds (off+p.2) p.1) cs).toList=cs.toList.take off++l++cs.toList.drop (off+l.length):=by
 have:=uZ off l 0 cs (by omega)
 rw[<-Array.foldl_toList,Array.toList_zipIdx]
 simpa using this
theorem uW(hr:Rel X s a){t:Ty}{pl:Nat->Option (Nat×Nat)}(dg:∀i ft,t.at_ [i]=some ft->t.dF i=true->t.b5 [i]/\pl i=some (t.off [i],ft.cells)){R:Type}{K:El t->List (List Nat)->Option R}{z:R}:
 ∀(parts:List (Nat×Operand)) (x:El t) (own:List (List Nat)) (cs:Array Value),az X t x cs.toList->ga t x own (parts.map fun p=>(p.1,s.ak p.2,[])) K=some z->
  ∃y eX cells,K y eX=some z/\Instr.fill pl cs (parts.map fun p=>(p.1,a.eval p.2))=some cells/\az X t y cells.toList
 | [],x,own,cs,rep,h=>⟨x,own,cs,h,rfl,rep⟩
 |(i,p)::r,x,own,cs,rep,h=>by
  simp only[List.map_cons,ga] at h
  split at h
  case isTrue=>cases h
  rename_i hb
  have hb:t.dF i=true:=by cases nt:t.dF i<;>simp_all
  split at h
  case h_2=>cases h
  rename_i ft aT
  obtain⟨y,h,hy⟩:=zi h
  split at h
  case h_2=>cases h
  rename_i x' cA
  obtain⟨c,rc,ec⟩:=hy X _ _ (hr.ak p)
  obtain⟨cw,hp⟩:=dg i ft aT hb
  have eE:=rc.len
  have cu:=rep.len
  have hle:=bW t [i] ft aT cw
  have gP:=rV rep cw aT cA rc
  have bn:t.off [i]+c.length<=cs.size:=by rw[eE];simp at cu;omega
  have fE:=uY (t.off [i]) c cs bn
  obtain⟨y2,hD,cells,h1,h2,h3⟩:=uW hr dg r x' _ _ (by rw[fE];exact gP) h
  refine⟨y2,hD,cells,h1,?_,h3⟩
  simp only[List.map_cons,Instr.fill,hp,ec,jb rc]
  rw[if_neg (by simp only[List.size_toArray,eE];simp;simp at cu;omega)]
  exact h2
theorem nW{t:Ty}{pl:Nat->Option (Nat×Nat)}(dg:∀i ft,t.at_ [i]=some ft->t.dF i=true->t.b5 [i]/\pl i=some (t.off [i],ft.cells)){R:Type}{K:El t->List (List Nat)->Option R}{z:R}:
 ∀(parts:List (Nat×Operand)) (X:ag) (s:State) (x:El t) (own:List (List Nat)) (cs:Array Value),Rel X s a->az X t x cs.toList->aC X (.r 0) t x cs.toList own->ga t x own (zt s parts).1 K=some z->
  ∃y eX cells Y,K y eX=some z/\Y.w=X.w/\Ext X Y/\Rel Y (s.close (zt s parts).2) a/\Instr.fill pl cs (parts.map fun p=>(p.1,a.eval p.2))=some cells/\az Y t y cells.toList/\aC Y (.r 0) t y cells.toList eX
 | [],X,s,x,own,cs,hr,rep,ho,h=>⟨x,own,cs,X,h,rfl,Ext.refl X,hr,rfl,rep,ho⟩
 |(i,p)::r,X,s,x,own,cs,hr,rep,ho,h=>by
  simp only[zt,ga] at h
  split at h
  case isTrue=>cases h
  rename_i hb
  have hb:t.dF i=true:=by cases nt:t.dF i<;>simp_all
  split at h
  case h_2=>cases h
  rename_i ft aT
  have hc:z20 (s.ak p).own p=src p\/((s.ak p).own=[]/\z20 (s.ak p).own p=[]):=by
   cases bk:(s.ak p).own with
   |nil=>exact .inr ⟨rfl,rfl⟩
   |cons _ _=>exact .inl rfl
  obtain⟨y,h,hy⟩:=rX hr h hc
  split at h
  case h_2=>cases h
  rename_i x' cA
  obtain⟨Y,c,hw,aB,aE,rc,ec,hO,hβ,hT,bm⟩:=hy (fun q=> .r 0 ([i]++q))
  obtain⟨cw,hp⟩:=dg i ft aT hb
  have eE:=rc.len
  have cu:=rep.len
  have hle:=bW t [i] ft aT cw
  have mD:=rep.mono aB
  have wu:=ho.stay bm (by simp)
  have gP:=rV mD cw aT cA rc
  have gL:=vC mD cw aT cA rc wu hO
  have bn:t.off [i]+c.length<=cs.size:=by rw[eE];simp at cu;omega
  have fE:=uY (t.off [i]) c cs bn
  obtain⟨y2,hD,cells,Z,h1,ig,aQ,bC,h2,h3,h4⟩:=nW dg r Y _ x' _ _ aE (by rw[fE];exact gP) (by rw[fE];exact gL) h
  refine⟨y2,hD,cells,Z,h1,ig.trans hw,aB.trans aQ,?_,?_,h3,h4⟩
  ·simp only[zt,tJ]
   exact bC
  ·simp only[List.map_cons,Instr.fill,hp,ec,jb rc]
   rw[if_neg (by simp only[List.size_toArray,eE];simp;simp at cu;omega)]
   exact h2
theorem rS(hE:ae P E):∀(fl:List Field) (t:Ty) (off:Nat),zl E fl t off->∃places,fl.mapM (fun(f:Field)=>(P.info? f.type).map fun i=>(f.offset,i.size))=some places/\
 ∀(j:Nat) (f:Field) (ft:Ty),fl[j]? =some f->E.ty f.type=some ft->places[j]? =some (f.offset,ft.cells)
 | [],t,off,h=>⟨[],rfl,fun j f ft hj=>by simp at hj⟩
 |f::r,t,off,h=>by
  cases t<;>simp only[zl] at h<;>try exact h.elim
  rename_i ta tb
  obtain⟨h1,h2,h3,h4⟩:=h
  obtain⟨places,g1,g2⟩:=rS hE r tb _ h4
  obtain⟨i,i1,i2,_⟩:=(hE.ty _ _ h2).info
  refine⟨(f.offset,i.size)::places,?_,fun j g gt hj hg=> ?_⟩
  ·simp [List.mapM_cons,i1,g1]
  ·cases j with
   |zero=>
    simp only[List.getElem?_cons_zero,Option.some.injEq] at hj
    subst hj
    rw[h2] at hg
    cases hg
    simp [i2]
   |succ j=>
    simp only[List.getElem?_cons_succ] at hj⊢
    exact g2 j g gt hj hg
theorem yR(hE:ae P E)(hr:Rel X s a){T:TypeId}{t:Ty}(hT:E.ty T=some t)(fU:t.agg=true){R:Type}{K:El t->List (List Nat)->Option R}{z:R}(parts:Array (Nat×Operand))
 (h:ga t (El.aM t) (jd t) (zt s parts.toList).1 K=some z):
 ∃y own cs Y,K y own=some z/\Y.w=X.w/\Ext X Y/\Rel Y (s.close (zt s parts.toList).2) a/\az Y t y cs/\aC Y (.r 0) t y cs own/\(Instr.build T (parts.map fun(i,x)=>(i,a.eval x))).run P X.w= .ok (bL t cs) X.w:=by
 have hf:=hE.ty T t hT
 obtain⟨i,i1,i2,i3,i4⟩:=hf.info
 have hz:=hJ X t
 have hn:=uF X (.r 0) t
 have pZ:(bL t (zb t)).cells=(zb t).toArray:=jb hz
 have fV:(parts.map fun(i,x)=>(i,a.eval x)).toList=parts.toList.map fun p=>(p.1,a.eval p.2):=by simp
 cases t with
 |aK n t=>
  obtain⟨e,hu,he,_⟩:=hf.bu
  obtain⟨ie,j1,j2,_⟩:=(hE.ty e t he).info
  obtain⟨y,own,cells,Y,k1,hw,aB,aE,k2,k3,k4⟩:=nW (pl:=fun i=>some (i*ie.size,ie.size)) (fun i ft aT hb=>by
   simp only[Ty.at_,Option.some.injEq] at aT
   subst aT
   have hb:i+1<=n:=by simpa [Ty.dF] using hb
   exact⟨⟨hb,by simp [Ty.b5]⟩,by simp [Ty.off,j2]⟩) parts.toList X s (El.aM (.aK n t)) _ (zb (.aK n t)).toArray hr (by simpa using hz) (by simpa using hn) h
  refine⟨y,own,cells.toList,Y,k1,hw,aB,aE,k3,k4,?_⟩
  rw[zj rfl]
  refine run_build X.w T _ cells.toList.toArray ?_
  unfold Program.built
  simp only[i1,hu,i4,j1,pZ,fV]
  simpa using k2
 |pair ta tb=>
  obtain⟨fs,hu,bn,_⟩:=hf.bu
  obtain⟨places,p1,p2⟩:=rS hE fs.toList _ 0 bn
  obtain⟨y,own,cells,Y,k1,hw,aB,aE,k2,k3,k4⟩:=nW (pl:=(places.toArray[·]?)) (fun i ft aT hb=>by
   obtain⟨f,g1,g2,g3,g4⟩:=og fs.toList _ 0 i ft bn rfl aT
   refine⟨g4,?_⟩
   have:=p2 i f ft g1 g3
   simp only[List.getElem?_toArray,this,g2,Nat.zero_add]) parts.toList X s (El.aM (.pair ta tb)) _ (zb (.pair ta tb)).toArray hr (by simpa using hz) (by simpa using hn) h
  refine⟨y,own,cells.toList,Y,k1,hw,aB,aE,k3,k4,?_⟩
  rw[zj rfl]
  refine run_build X.w T _ cells.toList.toArray ?_
  unfold Program.built
  simp only[i1,hu,i4,p1,pZ,fV]
  simpa using k2
 |unit=>
  obtain⟨fs,hu,bn,_⟩:=hf.bu
  obtain⟨places,p1,p2⟩:=rS hE fs.toList _ 0 bn
  obtain⟨y,own,cells,Y,k1,hw,aB,aE,k2,k3,k4⟩:=nW (pl:=(places.toArray[·]?)) (fun i ft aT hb=>by simp [Ty.at_] at aT) parts.toList X s (El.aM .unit) _ (zb .unit).toArray hr (by simpa using hz) (by simpa using hn) h
  refine⟨y,own,cells.toList,Y,k1,hw,aB,aE,k3,k4,?_⟩
  rw[zj rfl]
  refine run_build X.w T _ cells.toList.toArray ?_
  unfold Program.built
  simp only[i1,hu,i4,p1,pZ,fV]
  simpa using k2
 |aF k a b=>exact absurd (hE.cR hT) (by simp [Ty.aI])
 |_=>simp [Ty.agg] at fU
def ag.fa(X:ag)(j:Nat)(q:List Nat->Place):ag:=
 {X with ow:=fun g=>match X.ow g with
  | .row (.r j' p) n=>if j'=j then .row (q p) n else .row (.r j' p) n
  |w=>w}
theorem yB{s:State}{X:ag}{j:Nat}{q:List Nat->Place}:bG s X (X.fa j q):=by
 refine⟨rfl,rfl,fun g=> ?_⟩
 simp only[ag.fa]
 cases hg:X.ow g with
 |row pl n=>
  cases pl with
  |r j' p=>
   by_cases e:j'=j
   ·subst e
    exact .inr ⟨_,n,q p,rfl,fun h=>h,by simp⟩
   ·exact .inl (if_neg e)
  |_=>exact .inl rfl
 |_=>exact .inl rfl
theorem aC.iX{X:ag}{j:Nat}{q:List Nat->Place}{t:Ty}{x:El t}{cs:List Value}{own:List (List Nat)}(h:aC X (.r j) t x cs own):aC (X.fa j q) q t x cs own:=fun p hp=>by
 obtain⟨e,t',xs,v,g0,g1,g2,g3⟩:=h p hp
 refine⟨e,t',xs,v,g0,g1,g2,?_⟩
 rcases g3 with h|⟨g,cap,cur,h1,h2,h3,h4,h5,h6⟩
 ·exact .inl h
 ·exact .inr ⟨g,cap,cur,h1,h2,h3,h4,h5,by simp [ag.fa,h6]⟩
theorem yc(hE:ae P E)(hr:Rel X s a){ops:List Oper}{T:TypeId}{parts:Array (Nat×Operand)}(ho:o.op= .build T parts){C:FuncId->aJ Out}(h:act E C ops o s some=some u):al P X s a o u:=by
 unfold act at h
 simp only[ho] at h
 split at h
 case h_2=>cases h
 rename_i t hT
 split at h
 case isTrue=>cases h
 rename_i fU
 have fU:t.agg=true:=by cases nt:t.agg<;>simp_all
 obtain⟨y,own,cs,Y,h,hw,aB,aE,rep,hO,aA⟩:=yR hE hr hT fU parts h
 cases h
 have eD:=yB (s:=s.close (zt s parts.toList).2) (X:=Y) (j:=0) (q:= .c (o.dst.getD 0) 0)
 refine⟨Y.fa 0 (.c (o.dst.getD 0) 0),bL t cs,.inl ?_,aB.trans eD.ext,(aE.mod eD.mod).fin ⟨cs,rep.af (fun _ _=>eD.ai.1),rfl,hO.iX⟩ (fun id t p hm=>by simp at hm)⟩
 rw[eD.w,hw]
 simp only[execOp,ho,Sem.run_bind,aA,Result.andThen_ok,Sem.run_pure]
end Go.Ref

namespace Go.Ref
open Go
variable {P:Program} {E:Env} {X:ag} {s:State} {a:Act} {o:Oper} {u:Out}
theorem Ay{t:Ty}{x:El t}{xs:List (El t)}{n:Nat}{c cs:List Value}(h1:az X t x c)(h2:az X (.aK n t) xs cs):az X (.aK (n+1) t) (x::xs:List (El t)) (c++cs):=by
 obtain⟨k1,k2,k3⟩:=h2
 have hl:=h1.len
 refine⟨by simp;exact k1,by simp [k2,hl,Nat.add_mul];omega,fun j y hj=> ?_⟩
 cases j with
 |zero=>
  simp only[List.getElem?_cons_zero,Option.some.injEq] at hj
  subst hj
  rw[Nat.zero_mul,List.drop_zero,<-hl,List.take_left]
  exact h1
 |succ j=>
  simp only[List.getElem?_cons_succ] at hj
  have hd:(c++cs).drop ((j+1)*t.cells)=cs.drop (j*t.cells):=by
   rw[Nat.add_mul,Nat.one_mul,Nat.add_comm,<-List.drop_drop,<-hl,List.drop_left]
  rw[hd]
  exact k3 j y hj
theorem kR{t:Ty}{xs ys:List (El t)}{n m:Nat}{c d:List Value}(h1:az X (.aK n t) xs c)(h2:az X (.aK m t) ys d):az X (.aK (n+m) t) (xs++ys:List (El t)) (c++d):=by
 obtain⟨j1,j2,j3⟩:=h1
 obtain⟨k1,k2,k3⟩:=h2
 refine⟨by rw[List.length_append,j1,k1],by rw[List.length_append,j2,k2,Nat.add_mul],fun j y hj=> ?_⟩
 by_cases aw:j<n
 ·rw[List.getElem?_append_left (by rw[j1];exact aw)] at hj
  have hle:(j+1)*t.cells<=n*t.cells:=Nat.mul_le_mul_right _ aw
  rw[Nat.add_mul,Nat.one_mul] at hle
  rw[List.drop_append_of_le_length (by omega),List.take_append_of_le_length (by rw[List.length_drop];omega)]
  exact j3 j y hj
 ·rw[List.getElem?_append_right (by rw[j1];omega),j1] at hj
  have hd:(c++d).drop (j*t.cells)=d.drop ((j-n)*t.cells):=by
   have hm:j*t.cells=c.length+(j-n)*t.cells:=by
    rw[j2,<-Nat.add_mul]
    congr 1
    omega
   rw[hm,List.drop_length_add_append]
  rw[hd]
  exact k3 _ y hj
theorem uk{t:Ty}{ad:Addr}(hs:ad.spot=none):∀(xs:List (El t)) (p:Nat),(∀(j:Nat) x,xs[j]? =some x->∃bS,az X t x bS/\∀(i:Nat) v,bS[i]? =some v->X.ai (ad.add (p+(j*t.cells+i))) v)->
 ∃cs,az X (.aK xs.length t) xs cs/\∀(i:Nat) v,cs[i]? =some v->X.ai (ad.add (p+i)) v
 | [],p,h=>⟨[],⟨rfl,by simp,fun j x hj=>by simp at hj⟩,fun i v hi=>by simp at hi⟩
 |x::xs,p,h=>by
  obtain⟨c,r1,s1⟩:=h 0 x rfl
  obtain⟨cs,r2,s2⟩:=uk hs xs (p+t.cells) (fun j y hj=>by
   obtain⟨c',r',s'⟩:=h (j+1) y hj
   refine⟨c',r',fun i v hi=> ?_⟩
   have:=s' i v hi
   rw[show p+((j+1)*t.cells+i)=p+t.cells+(j*t.cells+i) by rw[Nat.add_mul];omega] at this
   exact this)
  have hl:=r1.len
  refine⟨c++cs,Ay r1 r2,fun i v hi=> ?_⟩
  rw[List.getElem?_append] at hi
  split at hi
  ·have:=s1 i v hi
   rwa [show p+(0*t.cells+i)=p+i by omega] at this
  ·have:=s2 _ v hi
   rwa [show p+t.cells+(i-c.length)=p+i by omega] at this
theorem qA{e:TypeId}{t:Ty}{xs:List (El t)}{A:Option Addr}{n c:Nat}(h:az X (.sl e t) xs [.slice A n c]):n=xs.length/\xs.length<=c/\
 ∃cs,az X (.aK xs.length t) xs cs/\(A=none->xs=[])/\∀ad,A=some ad->∀(i:Nat) v,cs[i]? =some v->X.ai (ad.add i) v:=by
 obtain⟨A',c',h1,h2,h3⟩:=h
 simp only[List.cons.injEq,Value.slice.injEq,and_true] at h1
 obtain⟨rfl,rfl,rfl⟩:=h1
 refine⟨rfl,h2,?_⟩
 cases xs with
 |nil=>exact⟨[],⟨rfl,by simp,fun j x hj=>by simp at hj⟩,fun _=>rfl,fun ad _ i v hi=>by simp at hi⟩
 |cons x r=>
  obtain⟨ad,_,hA,hs,_⟩:=h3 0 x rfl
  subst hA
  obtain⟨cs,k1,k2⟩:=uk (X:=X) hs (x::r) 0 (fun j y hj=>by
   obtain⟨fC,c',e1,_,g1,g2⟩:=h3 j y hj
   cases e1
   exact⟨c',g1,fun i v hi=>by rw[Nat.zero_add];exact g2 i v hi⟩)
  refine⟨cs,k1,(fun e=>by cases e),fun fC e i v hi=> ?_⟩
  cases e
  have:=k2 i v hi
  rwa [Nat.zero_add] at this
theorem q5{e:TypeId}{t:Ty}{xs:List (El t)}{g cap:Nat}{pl:Place}{cur:Array Value}{cs:List Value}(hg:X.w.heap[g]? =some (.cells cur e (0,0)))(how:X.ow g= .row pl (xs.length*t.cells))
 (gR:cur.toList.take (xs.length*t.cells)=cs) (au:az X (.aK xs.length t) xs cs) (eL:xs.length<=cap):az X (.sl e t) xs [.slice (some ⟨g,0,none⟩) xs.length cap]:=by
 refine⟨_,cap,rfl,eL,fun j x hj=>⟨_,_,rfl,rfl,au.2.2 j x hj,fun i v hi=> ?_⟩⟩
 have iJ:=(List.getElem?_eq_some_iff.1 hj).1
 have hle:(j+1)*t.cells<=xs.length*t.cells:=Nat.mul_le_mul_right _ iJ
 rw[Nat.add_mul,Nat.one_mul] at hle
 rw[List.getElem?_take] at hi
 split at hi
 case isFalse=>cases hi
 rename_i nA
 rw[List.getElem?_drop,<-gR,List.getElem?_take,if_pos (by omega)] at hi
 refine⟨jF rfl _,?_,?_⟩
 ·rw[zn,Nat.zero_add]
  simp only[World.cell?,hg]
  simpa using hi
 ·rw[zn,Nat.zero_add]
  show Ow.used (X.ow g) _
  rw[how]
  show j*t.cells+i<_
  omega
end Go.Ref

namespace Go.Ref
open Go
variable {P:Program} {E:Env} {X:ag} {s:State} {a:Act} {o:Oper} {u:Out}
theorem ux{R:Type}{t:Ty}{n:Nat}{K:List (El t)->Option R}:∀(parts:List (Nat×SV)) (xs:List (El t)) (own:List (List Nat)),xs.length=n->jJ t xs parts K=ga (.aK n t) xs own (parts.map fun p=>(p.1,p.2,[])) (fun y _=>K y)
 | [],xs,own,h=>rfl
 |(i,v)::r,xs,own,h=>by
  subst h
  simp only[jJ,List.map_cons,ga,Ty.dF,Ty.at_,El.set,Ty.aO,dite_true,Option.map_some]
  congr 1
  refine congrArg (v.el t) (funext fun y=> ?_)
  exact ux r (xs.set i y) _ (by simp)
theorem Aq{t:Ty}(n:Nat)(hk:0<t.cells):((Array.range (n*t.cells)).map fun i=>(zb t).toArray[i % (zb t).toArray.size]!).toList=(List.replicate n (zb t)).flatten:=by
 have hz:=zw t
 apply List.ext_getElem?
 intro q
 have hlen:((List.replicate n (zb t)).flatten).length=n*t.cells:=by simp [hz]
 by_cases hq:q<n*t.cells
 ·have h1:q/t.cells<n:=(Nat.div_lt_iff_lt_mul hk).2 hq
  have h2:=qw hz n (q/t.cells) h1
  have h3:=congrArg (fun l=>l[q % t.cells]?) h2
  simp only[List.getElem?_take,List.getElem?_drop,if_pos (Nat.mod_lt q hk)] at h3
  rw[Nat.mul_comm,Nat.div_add_mod] at h3
  rw[h3]
  have hm:q % t.cells<(zb t).length:=by rw[hz];exact Nat.mod_lt q hk
  rw[List.getElem?_eq_getElem hm]
  simp [hq,hz,hm]
  rw[List.getElem?_eq_getElem hm]
  rfl
 ·rw[List.getElem?_eq_none (by simp;omega),List.getElem?_eq_none (by omega)]
theorem vB{X:ag}{pl:List Nat->Place}{e:TypeId}{t:Ty}{xs:List (El t)}{v:Value}(h:aD X (pl []) e t.cells xs.length v):aC X pl (.sl e t) xs [v] [[]]:=fun p hp=>by
 have hp:p=[]:=by simpa using hp
 subst hp
 exact⟨e,t,xs,v,by simp [Ty.b5],rfl,rfl,h⟩
theorem xw(hE:ae P E)(hr:Rel X s a){ops:List Oper}{T:TypeId}{n:Nat}{parts:Array (Nat×Operand)}(ho:o.op= .buildSlice T n parts){C:FuncId->aJ Out}(h:act E C ops o s some=some u):al P X s a o u:=by
 unfold act at h
 simp only[ho] at h
 split at h
 case h_2=>cases h
 rename_i e t hT
 split at h
 case isTrue=>cases h
 rename_i l4
 have hk:0<t.cells:=by rcases Nat.eq_zero_or_pos t.cells with h0|h0<;>simp_all
 cases hb:Nat.ble (n*t.cells) 16777216 with
 |false=>rw[hb] at h;cases h
 |true=>
  rw[hb] at h
  simp only[cond_true] at h
  have kc:n*t.cells<=16777216:=Nat.le_of_ble_eq_true hb
  rw[ux (n:=n) _ _ [] (by simp),List.map_map] at h
  obtain⟨hu,he⟩:=(hE.ty T _ hT).bu
  have cO:=zh (P:=P) hE he X.w
  have w0:=n5 (P:=P) hE he X.w
  have wZ:=hJ X (.aK n t)
  obtain⟨y,eX,cells,k1,k2,k3⟩:=uW (pl:=fun i=>some (i*t.cells,t.cells)) hr (fun i ft aT hb=>by
   simp only[Ty.at_,Option.some.injEq] at aT
   subst aT
   have hb:i+1<=n:=by simpa [Ty.dF] using hb
   exact⟨⟨hb,by simp [Ty.b5]⟩,by simp [Ty.off]⟩) parts.toList (El.aM (.aK n t)) [] (zb (.aK n t)).toArray (by simpa using wZ) h
  cases k1
  have hy:List.length y=n:=k3.1
  have cu:cells.size=n*t.cells:=by have:=k3.2.1;simpa using this
  have hn:n<=n*t.cells:=Nat.le_mul_of_pos_right n hk
  let Y:=X.new cells e (.row (.c (o.dst.getD 0) 0 []) (n*t.cells)) X.β
  have iK:b3 s X Y:=rl X s cells e _ _ rfl (fun _ _ _=>rfl)
  obtain⟨n1,n2⟩:=qX X cells e (.row (.c (o.dst.getD 0) 0 []) (n*t.cells)) X.β
  refine⟨Y,.slice (some ⟨X.w.heap.size,0,none⟩) n n,.inl ?_,iK.ext,?_⟩
  ·have sV:(Array.map (fun x=>(bL t (zb t)).cells[x % (bL t (zb t)).cells.size]!) (Array.range (n*t.cells)))=(zb (.aK n t)).toArray:=by
    apply Array.ext'
    rw[jb (hJ X t),Aq n hk]
    rfl
   have fV:(parts.map fun(i,x)=>(i,a.eval x)).toList=parts.toList.map fun p=>(p.1,a.eval p.2):=by simp
   by_cases s9:n*t.cells=0
   ·have pF:n=0:=by
     rcases Nat.mul_eq_zero.1 s9 with h0|h0
     ·exact h0
     ·omega
    subst pF
    have w9:Instr.fill (fun i=>some (i*t.cells,t.cells)) #[] (parts.toList.map fun p=>(p.1,a.eval p.2))=some cells:=k2
    have s7:(parts.map fun x=>(x.1,a.eval x.2)).toList=parts.toList.map fun p=>(p.1,a.eval p.2):=by simp
    simp [execOp,ho,Instr.buildSlice,run_underlying hu,cO,newRow,Y,ag.new]
    rw[show(Array.map (fun x=>default) (Array.range 0):Array Value)= #[] by simp,w9]
    simp
   ·have hc:=sV
    simp [execOp,ho,Instr.buildSlice,run_underlying hu,cO,w0,s9,newRow,Y,ag.new,Nat.not_lt.2 kc]
    rw[sV,k2]
    simp
  ·refine(hr.bP iK).fin ?_ (fun id t p hm=>by simp at hm)
   refine⟨[.slice (some ⟨X.w.heap.size,0,none⟩) n n],?_,rfl,vB ?_⟩
   ·rw[<-hy]
    refine q5 (pl:= .c (o.dst.getD 0) 0 []) (cur:=cells) (cs:=cells.toList) n1 (by rw[hy];exact n2) ?_ ?_ (Nat.le_refl _)
    ·rw[hy,List.take_of_length_le (by simp [cu])]
    ·rw[hy];exact k3.af (fun _ _=>iK.ai)
   ·refine .inr ⟨X.w.heap.size,n,cells,by rw[hy],n1,by rw[hy];exact Nat.le_refl _,?_,cu,by rw[hy];exact n2⟩
    simp only[maxLen]
    omega
end Go.Ref

namespace Go.Ref
open Go
variable {P:Program} {E:Env} {X:ag} {s:State} {a:Act} {o:Oper} {u:Out}
inductive Grown(w w':World)(e:TypeId)(k:Nat)(vb v':Value)(cx cy:List Value)(n:Nat):Prop where
 |same (h:w'=w) (hv:v'=vb) (hy:cy=[])
 |room (g cap:Nat) (cur cc:Array Value) (hb:∃m,vb= .slice (some ⟨g,0,none⟩) m cap) (hg:w.heap[g]? =some (.cells cur e (0,0))) (hv:v'= .slice (some ⟨g,0,none⟩) n cap) (hn:n<=cap) (hm:cap<=maxLen)
   (hw:w'=w.setRow g cc) (hs:cc.size=cap*k) (ht:cc.toList.take (n*k)=cx++cy)
 |new (cap:Nat) (cc:Array Value) (hv:v'= .slice (some ⟨w.heap.size,0,none⟩) n cap) (hn:n<=cap) (hm:cap<=maxLen) (hw:w'=w.drew.alloc (.cells cc e)) (hs:cc.size=cap*k) (ht:cc.toList.take (n*k)=cx++cy)
theorem x8(hE:ae P E){T ty e:TypeId}{t:Ty}(hT:E.ty T=some (.sl e t))(hk:0<t.cells)(jY:E.bytes e≠0){xs ys:List (El t)}{vb vx:Value}{pl:Place}
 (bk:aD X pl e t.cells xs.length vb) {cx cy:List Value} (rx:az X (.aK xs.length t) xs cx) (sx:∀g m c,vb= .slice (some ⟨g,0,none⟩) m c->∀(i:Nat) v,cx[i]? =some v->X.ai ((⟨g,0,none⟩:Addr).add i) v)
 (ry:az X (.aK ys.length t) ys cy) (wS:∃A c,vx= .slice A ys.length c/\(A=none->ys=[])/\∀ad,A=some ad->∀(i:Nat) v,cy[i]? =some v->X.ai (ad.add i) v)
 (hbound:(xs.length+ys.length)*E.bytes e<=140737488355328):
 ∃v' w',(Builtin.append_ #[T,T] ty #[vb,vx]).run P X.w= .ok v' w'/\Grown X.w w' e t.cells vb v' cx cy (xs.length+ys.length)/\(v'= .slice none 0 0->xs.length+ys.length=0):=by
 obtain⟨hu,he⟩:=(hE.ty T _ hT).bu
 obtain⟨i,hi,bz,eg,hz⟩:=(hE.ty e t he).info
 have w6:(bL t (zb t)).cells.size=t.cells:=by rw[jb (hJ X t)];simp [zw]
 have iL:cx.length=xs.length*t.cells:=rx.2.1
 have gF:cy.length=ys.length*t.cells:=ry.2.1
 have h1:∀u∈cy,u.oneCell'=true:=ry.one
 have hle:xs.length+ys.length<=140737488355328:=Nat.le_trans (Nat.le_mul_of_pos_right _ (Nat.pos_of_ne_zero jY)) hbound
 have pg:xs.length+ys.length<=maxLen:=by simp only[maxLen];omega
 obtain⟨A,c,rfl,hA,wN⟩:=wS
 cases A with
 |none=>
  have gU:=hA rfl
  subst gU
  have po:cy=[]:=List.eq_nil_of_length_eq_zero (by simpa using gF)
  subst po
  rcases bk with⟨rfl,hn⟩|⟨g,cap,cur,rfl,hg,pG,lU,cu,how⟩
  ·refine⟨.slice none 0 0,X.w,?_,.same rfl rfl rfl,fun _=>by simp [hn]⟩
   simp [Builtin.append_,run_underlying hu,sizeOf,typeInfo,hi,Builtin.lenOf,Builtin.firstCells]
  ·refine⟨_,X.w,?_,.same rfl rfl rfl,fun e=>by cases e⟩
   simp [Builtin.append_,run_underlying hu,sizeOf,typeInfo,hi,Builtin.lenOf,Builtin.firstCells,pG,storeCells]
 |some ad=>
  have pJ:∀j u,cy[j]? =some u->X.w.cell? (ad.add j)=some u:=fun j u hj=>(wN ad rfl j u hj).2.1
  have eh:∀(old:Nat),(cx.toArray++cy.toArray++Builtin.zeroCells (bL t (zb t)).cells (grownCap X.w (xs.length+ys.length) old e-(xs.length+ys.length))).size=grownCap X.w (xs.length+ys.length) old e*t.cells/\
   (cx.toArray++cy.toArray++Builtin.zeroCells (bL t (zb t)).cells (grownCap X.w (xs.length+ys.length) old e-(xs.length+ys.length))).toList.take ((xs.length+ys.length)*t.cells)=cx++cy:=by
   intro old
   have pw:=grownCap_ge X.w (xs.length+ys.length) old e
   refine⟨?_,?_⟩
   ·simp only[Array.size_append,List.size_toArray,size_zeroCells,w6,iL,gF,<-Nat.add_mul]
    congr 1
    omega
   ·have hl:(cx++cy).length=(xs.length+ys.length)*t.cells:=by rw[List.length_append,iL,gF,Nat.add_mul]
    rw[<-hl]
    simp only[Array.toList_append]
    exact List.take_left
  rcases bk with⟨rfl,hn⟩|⟨g,cap,cur,rfl,hg,pG,lU,cu,how⟩
  ·have iG:cx=[]:=List.eq_nil_of_length_eq_zero (by rw[iL,hn,Nat.zero_mul])
   subst iG
   by_cases hm:ys.length=0
   ·have po:cy=[]:=List.eq_nil_of_length_eq_zero (by rw[gF,hm,Nat.zero_mul])
    subst po
    refine⟨.slice none 0 0,X.w,?_,.same rfl rfl rfl,fun _=>by omega⟩
    simp [Builtin.append_,run_underlying hu,sizeOf,typeInfo,hi,Builtin.lenOf,Builtin.firstCells,hm,loadCells,loadCellsFrom]
   ·have kI:xs.length=0:=hn
    rw[kI,Nat.zero_add] at hbound hle pg
    have hr:=run_append_nil (P:=P) X.w T ty e i (bL t (zb t)) hu hi hz ad ys.length c cy (by rw[bz];exact gF) pJ (by omega) (by omega) (by rw[eg];omega)
    obtain⟨c1,c2⟩:=eh 0
    have pw:=grownCap_ge X.w (xs.length+ys.length) 0 e
    have lU:=grownCap_le_maxLen X.w (xs.length+ys.length) 0 e (by rw[kI,Nat.zero_add];exact pg)
    refine⟨_,_,hr,.new (grownCap X.w (xs.length+ys.length) 0 e) _ (by rw[kI,Nat.zero_add]) pw lU ?_ c1 c2,fun e=>by cases e⟩
    rw[kI,Nat.zero_add]
    simp
  ·by_cases gO:xs.length+ys.length<=cap
   ·have bn:xs.length*i.size+cy.length<=cur.size:=by rw[bz,gF,cu,<-Nat.add_mul];exact Nat.mul_le_mul_right _ gO
    have hr:=run_append_room (P:=P) X.w T ty e i hu hi g xs.length cap cur hg ad ys.length c cy (by rw[bz];exact gF) pJ h1 gO bn
    refine⟨_,_,hr,.room g cap cur _ ⟨_,rfl⟩ hg rfl gO lU rfl ?_ ?_,fun e=>by cases e⟩
    ·simp only[List.size_toArray,List.length_append,List.length_take,List.length_drop,Array.length_toList]
     omega
    ·have gR:cur.toList.take (xs.length*i.size)=cx:=by
      rw[bz]
      apply List.ext_getElem?
      intro q
      by_cases hq:q<xs.length*t.cells
      ·rw[List.getElem?_take,if_pos hq]
       have mq:=List.getElem?_eq_getElem (l:=cx) (i:=q) (by rw[iL];exact hq)
       have:=(sx g _ _ rfl q _ mq).2.1
       rw[zn,Nat.zero_add] at this
       simp only[World.cell?,hg] at this
       rw[mq]
       simpa using this
      ·rw[List.getElem?_eq_none (by rw[List.length_take];omega),List.getElem?_eq_none (by omega)]
     have hl:(cx++cy).length=(xs.length+ys.length)*t.cells:=by rw[List.length_append,iL,gF,Nat.add_mul]
     rw[gR,<-hl]
     simp only[List.take_left]
   ·have holds:∀j u,cx[j]? =some u->X.w.cell? ((⟨g,0,none⟩:Addr).add j)=some u:=fun j u hj=>(sx g _ _ rfl j u hj).2.1
    have hr:=run_append_grow (P:=P) X.w T ty e i (bL t (zb t)) hu hi hz ⟨g,0,none⟩ xs.length cap cx (by rw[bz];exact iL) holds ad ys.length c cy (by rw[bz];exact gF) pJ (by omega) (by omega) (growslice_fits (by omega) (by rw[eg];exact hbound))
    obtain⟨c1,c2⟩:=eh cap
    exact⟨_,_,hr,.new _ _ rfl (grownCap_ge _ _ _ _) (grownCap_le_maxLen _ _ _ _ pg) rfl c1 c2,fun e=>by cases e⟩
theorem aD.pd{X:ag}{s:State}{pl:Place}{e:TypeId}{k n:Nat}{v:Value}(h:aD X pl e k n v)(hf:¬bg s pl)(q:Place):∃Y,bG s X Y/\aD Y q e k n v:=by
 rcases h with h|⟨g,cap,cur,h1,h2,h3,h4,h5,h6⟩
 ·exact⟨X,bG.refl s X,.inl h⟩
 ·refine⟨{X with ow:=fun g'=>if g'=g then .row q (n*k) else X.ow g'},⟨rfl,rfl,fun g'=> ?_⟩,.inr ⟨g,cap,cur,h1,h2,h3,h4,h5,by simp⟩⟩
  by_cases e:g'=g
  ·subst e;exact .inr ⟨pl,_,q,h6,hf,by simp⟩
  ·exact .inl (by simp [e])
theorem BP{R:Type}{t t':Ty}{x:El t'}{w:List (List Nat)}{K:El t->Option R}{z:R}(h:(SV.aj t' x w).el t K=some z):∃he:t'.aX t=true,K (Ty.cast he x)=some z:=by
 simp only[SV.el] at h
 split at h
 ·rename_i he;exact⟨he,h⟩
 ·cases h
theorem xT(hE:ae P E)(hr:Rel X s a){ops:List Oper}{bR:Array Operand}{ts:Array TypeId}(ho:o.op= .call ⟨.builtin .append,bR,ts⟩){C:FuncId->aJ Out}(h:act E C ops o s some=some u):al P X s a o u:=by
 unfold act at h
 simp only[ho] at h
 split at h
 case h_2=>cases h
 rename_i b x T U gT jW
 have has:bR= #[b,x]:=by rw[<-Array.toArray_toList (xs:=bR),gT]
 have fX:ts= #[T,U]:=by rw[<-Array.toArray_toList (xs:=ts),jW]
 subst has fX
 have hb:=hr.ak b
 have hx:=hr.ak x
 unfold m3 at h
 split at h
 case isTrue=>cases h
 rename_i sQ
 have sQ:T=U:=by
  have:T.beq U=true:=by cases nt:Nat.beq T U<;>simp_all
  exact Nat.eq_of_beq_eq_true this
 subst sQ
 split at h
 case h_2=>cases h
 rename_i e t hT
 split at h
 case isTrue=>cases h
 rename_i h0
 have h0:Nat.beq (E.bytes e) 0=false/\Nat.beq t.cells 0=false:=by
  cases h1:Nat.beq (E.bytes e) 0<;>cases h2:Nat.beq t.cells 0<;>simp_all
 have jY:E.bytes e≠0:=fun e0=>by rw[e0] at h0;simp at h0
 have hk:0<t.cells:=by
  rcases Nat.eq_zero_or_pos t.cells with e0|e0
  ·rw[e0] at h0;simp at h0
  ·exact e0
 have key:∀(xs ys:List (El t)) (cl:List (Nat×Nat)) (pl:Place),¬bg (s.close cl) pl->aD X pl e t.cells xs.length (a.eval b)->az X (.sl e t) xs [a.eval b]->az X (.sl e t) ys [a.eval x]->
  (xs.length+ys.length)*E.bytes e<=140737488355328->al P X s a o {v:=[.aj (.sl e t) (xs++ys:List (El t)) [[]]],cl:=cl}:=by
  intro xs ys cl pl kG bk kj eY hbound
  obtain⟨A1,c1,ju,jA⟩:=kj
  have e1:a.eval b= .slice A1 xs.length c1:=by simpa using ju
  obtain⟨A2,c2,mo,mE⟩:=eY
  have e2:a.eval x= .slice A2 ys.length c2:=by simpa using mo
  obtain⟨_,_,cx,rx,_,sx⟩:=qA (X:=X) (e:=e) (show az X (.sl e t) xs [.slice A1 xs.length c1] from⟨A1,c1,rfl,jA⟩)
  obtain⟨_,_,cy,ry,ny,sy⟩:=qA (X:=X) (e:=e) (show az X (.sl e t) ys [.slice A2 ys.length c2] from⟨A2,c2,rfl,mE⟩)
  have tA:∀g m c,a.eval b= .slice (some ⟨g,0,none⟩) m c->∀(i:Nat) v,cx[i]? =some v->X.ai ((⟨g,0,none⟩:Addr).add i) v:=by
   intro g m c hv
   rw[e1] at hv
   injection hv with hA
   exact sx _ hA
  obtain⟨v',w',aA,wa,gI⟩:=x8 (ty:=o.type) hE hT hk jY bk rx tA ry ⟨A2,c2,e2,ny,sy⟩ hbound
  have iL:cx.length=xs.length*t.cells:=rx.2.1
  have gF:cy.length=ys.length*t.cells:=ry.2.1
  have mj:(execOp a.eval o).run P X.w= .ok (.value v') w':=by
   simp only[execOp,ho,resolve,invoke,builtin,Sem.run_bind,Sem.run_pure,Result.andThen_ok,List.map_toArray,List.map_cons,List.map_nil,aA]
  have fin:∀(Y:ag),Y.w=w'->Mod (s.close cl) X Y->az Y (.aK (xs.length+ys.length) t) (xs++ys:List (El t)) (cx++cy)->aD Y (.c (o.dst.getD 0) 0 []) e t.cells (xs.length+ys.length) v'->
   az Y (.sl e t) (xs++ys:List (El t)) [v']->al P X s a o {v:=[.aj (.sl e t) (xs++ys:List (El t)) [[]]],cl:=cl}:=by
   intro Y hY hm cq wm ka
   refine⟨Y,v',.inl (by rw[hY];exact mj),hm.ext,((hr.close cl).mod hm).fin ⟨[v'],ka,rfl,vB ?_⟩ (fun id t p kF=>by simp at kF)⟩
   rw[List.length_append]
   exact wm
  cases wa with
  |same h1 h2 h3=>
   subst h2
   have wX:ys=[]:=by
    have:ys.length=0:=by
     rcases Nat.mul_eq_zero.1 (show ys.length*t.cells=0 by rw[<-gF,h3];rfl) with h|h
     ·exact h
     ·omega
    exact List.eq_nil_of_length_eq_zero this
   subst wX
   obtain⟨Y,eD,vR⟩:=aD.pd (s:=s.close cl) bk kG (.c (o.dst.getD 0) 0 [])
   refine fin Y (by rw[eD.w,h1]) eD.mod ?_ (by simpa using vR) ?_
   ·have:=(kR rx ry)
    exact this.af (fun _ _=>eD.ai.1)
   ·rw[List.append_nil]
    exact az.af (fun _ _=>eD.ai.1) (show az X (.sl e t) xs [a.eval b] from⟨A1,c1,ju,jA⟩)
  |new cap cc hv hn hm hw hs ht=>
   let Y:ag:=⟨w',fun g=>if g=X.w.heap.size then .row (.c (o.dst.getD 0) 0 []) ((xs.length+ys.length)*t.cells) else X.ow g,X.β⟩
   have iK:b3 (s.close cl) X Y:=⟨by simp [Y,hw],by simp only[Y,hw];rfl,by simp only[Y,hw];rfl,by simp only[Y,hw];rfl,fun g hg=>⟨by simp only[Y];rw[if_neg (by omega)],by simp only[Y,hw];exact RowKit.Below.heap_alloc _ _ _ hg⟩,rfl,fun _ _ _=>rfl⟩
   have ap:Y.w.heap[X.w.heap.size]? =some (.cells cc e (0,0)):=by simp only[Y,hw];exact heap_alloc_new X.w.drew _
   have how:Y.ow X.w.heap.size= .row (.c (o.dst.getD 0) 0 []) ((xs.length+ys.length)*t.cells):=by simp [Y]
   have au:=(kR rx ry).af (fun _ _=>iK.ai)
   refine fin Y rfl iK.mod au (.inr ⟨_,cap,cc,hv,ap,hn,hm,hs,how⟩) ?_
   rw[hv,<-List.length_append]
   exact q5 (cs:=cx++cy) ap (by rw[List.length_append];exact how) (by rw[List.length_append];exact ht) (by rw[List.length_append];exact au) (by rw[List.length_append];exact hn)
  |room g cap cur cc pk hg hv hn hm hw hs ht=>
   obtain⟨m,jX⟩:=pk
   rcases bk with⟨hz,_⟩|⟨g',lO,lP,gS,sY,pG,lU,cu,how⟩
   ·rw[hz] at jX;cases jX
   have j6:g'=g:=by rw[jX] at gS;injection gS with h1;injection h1 with h1;injection h1 with h1;exact h1.symm
   subst j6
   have pn:lP=cur:=by rw[hg] at sY;cases sY;rfl
   subst pn
   have aw:=kZ hg
   let Y:ag:=⟨w',fun k=>if k=g' then .row (.c (o.dst.getD 0) 0 []) ((xs.length+ys.length)*t.cells) else X.ow k,X.β⟩
   have ap:Y.w.heap[g']? =some (.cells cc e (0,0)):=by simp only[Y,hw];exact setRow_heap X.w g' lP cc e (0,0) hg
   have fo:Y.ow g'= .row (.c (o.dst.getD 0) 0 []) ((xs.length+ys.length)*t.cells):=by simp [Y]
   have js:∀ad v,X.ai ad v->Y.ai ad v:=by
    intro ad v dC
    by_cases heq:ad.block=g'
    ·obtain⟨k1,k2,k3⟩:=dC
     rw[heq,how] at k3
     have k3:ad.off<xs.length*t.cells:=k3
     have had:ad=(⟨g',0,none⟩:Addr).add ad.off:=by rw[zn,Nat.zero_add];cases ad;simp_all
     have mq:=List.getElem?_eq_getElem (l:=cx) (i:=ad.off) (by rw[iL];exact k3)
     have iG:=(tA g' _ _ jX ad.off _ mq).2.1
     rw[<-had,k2] at iG
     refine⟨k1,?_,?_⟩
     ·have hq:cc.toList[ad.off]? =some v:=by
       have:=congrArg (fun l=>l[ad.off]?) ht
       simp only[List.getElem?_take] at this
       have hle:xs.length*t.cells<=(xs.length+ys.length)*t.cells:=Nat.mul_le_mul_right _ (Nat.le_add_right _ _)
       rw[if_pos (by omega),List.getElem?_append_left (by rw[iL];exact k3),mq] at this
       rw[this];exact iG.symm
      simp only[World.cell?,heq,ap,k1]
      simpa using hq
     ·rw[heq,fo]
      have hle:xs.length*t.cells<=(xs.length+ys.length)*t.cells:=Nat.mul_le_mul_right _ (Nat.le_add_right _ _)
      show ad.off<_
      omega
    ·refine⟨dC.1,?_,?_⟩
     ·have:=dC.2.1
      simp only[World.cell?,Y,hw] at this⊢
      rw[setRow_other X.w g' ad.block cc heq]
      exact this
     ·simp only[Y]
      rw[if_neg heq]
      exact dC.2.2
   have j8:Mod (s.close cl) X Y:=⟨js,by simp [Y,hw],by simp only[Y,hw];rfl,by simp only[Y,hw];rfl,by simp only[Y,hw];rfl,rfl,fun _ _ _=>rfl,fun k hk=>by
    by_cases heq:k=g'
    ·subst heq;exact .inr ⟨pl,_,how,kG⟩
    ·refine .inl ⟨by simp only[Y];rw[if_neg heq],?_⟩
     simp only[Y,hw]
     exact setRow_other X.w g' k cc heq⟩
   have au:=(kR rx ry).af js
   refine fin Y rfl j8 au (.inr ⟨_,cap,cc,hv,ap,hn,hm,hs,fo⟩) ?_
   rw[hv,<-List.length_append]
   exact q5 (cs:=cx++cy) ap (by rw[List.length_append];exact fo) (by rw[List.length_append];exact ht) (by rw[List.length_append];exact au) (by rw[List.length_append];exact hn)
 split at h
 ·rename_i dB
  rw[dB] at hb
  obtain⟨ys,h,gU⟩:=zi h
  cases hd:decide (List.length ys*E.bytes e<=140737488355328) with
  |false=>rw[hd] at h;cases h
  |true=>
   rw[hd] at h
   cases h
   obtain⟨cs,eY,ev⟩:=gU X _ _ hx
   have jX:a.eval b= .slice none 0 0:=hb
   have gJ:cs=[a.eval x]:=by
    obtain⟨A,c,cu,_⟩:=eY
    rw[ev,cu];rfl
   have:=key [] ys [] (.r 0 []) (fun hf=>hf) (.inl ⟨jX,rfl⟩) (by rw[jX];exact⟨none,0,rfl,Nat.le_refl _,fun j x hj=>by simp at hj⟩) (by rw[<-gJ];exact eY) (by simpa using of_decide_eq_true hd)
   simpa using this
 ·rename_i t' tC iT dB
  rw[dB] at hb
  split at h
  case isTrue=>cases h
  rename_i lW
  have lW:fc iT []=true:=by cases nt:fc iT []<;>simp_all
  obtain⟨heq,h⟩:=BP h
  have:=Ty.av heq
  subst this
  obtain⟨ys,h,gU⟩:=zi h
  cases hd:decide ((List.length (Ty.cast heq tC)+List.length ys)*E.bytes e<=140737488355328) with
  |false=>rw[hd] at h;cases h
  |true=>
   rw[hd] at h
   cases h
   obtain⟨cs,eY,ev⟩:=gU X _ _ hx
   have dn:=yp lW
   obtain⟨i,rfl⟩:=BI dB (fun e=>by rw[e] at dn;cases dn)
   obtain⟨vO,r1,vP,hO⟩:=hb
   have gJ:cs=[a.eval x]:=by
    obtain⟨A,c,cu,_⟩:=eY
    rw[ev,cu];rfl
   have jq:vO=[a.eval (.tmp i)]:=by
    obtain⟨A,c,cu,_⟩:=r1
    rw[vP,cu];rfl
   obtain⟨e',B9,Cd,v',_,g1,g2,g3⟩:=hO [] dn
   simp only[El.get,Option.some.injEq,Sigma.mk.injEq,Ty.sl.injEq] at g1
   obtain⟨⟨rfl,rfl⟩,g1⟩:=g1
   cases g1
   have gS:v'=a.eval (.tmp i):=by
    rw[jq] at g2
    simpa [Ty.off] using g2.symm
   rw[gS] at g3
   exact key tC ys [(i,0)] (.c i 0 []) bg.close g3 (by rw[<-jq];exact r1) (by rw[<-gJ];exact eY) (of_decide_eq_true hd)
 ·cases h
end Go.Ref

namespace Go.Ref
open Go
variable {P:Program} {E:Env} {X:ag} {s:State} {a:Act} {o:Oper} {u:Out}
def ag.obj(X:ag)(r:Nat)(b:Obj):ag:={X with w:={X.w with heap:=X.w.heap.setIfInBounds r b}}
theorem mT{r g:Nat}{b:Obj}(h:g≠r):(X.obj r b).w.heap[g]? =X.w.heap[g]? :=by
 simp [ag.obj,Ne.symm h]
theorem vd{r:Nat}{b b':Obj}(h:X.w.heap[r]? =some b'):(X.obj r b).w.heap[r]? =some b:=(MapKept.heap_set h).1
theorem z28{r id:Nat}{b:Obj}(h:X.ow r= .box id){ad:Addr}{v:Value}(hs:X.ai ad v):(X.obj r b).ai ad v:=by
 have bp:ad.block≠r:=fun e=>by
  have:=hs.2.2
  rw[e,h] at this
  exact this
 refine⟨hs.1,?_,hs.2.2⟩
 have:=hs.2.1
 simp only[World.cell?] at this⊢
 rw[mT bp]
 exact this
theorem vA{r id:Nat}{b:Obj}(h:X.ow r= .box id):Ext X (X.obj r b) where
 ai:=fun _ _=>z28 h
 size:=by simp [ag.obj]
 os:=rfl
 tape:=rfl
 output:=rfl
 β0:=rfl
 still:=fun g _ bm=>by
  have bp:g≠r:=fun e=>by rw[e,h] at bm;exact bm
  exact⟨rfl,mT bp⟩
theorem aD.obj{r id:Nat}{b:Obj}(h:X.ow r= .box id){pl:Place}{e:TypeId}{k n:Nat}{v:Value}(ho:aD X pl e k n v):aD (X.obj r b) pl e k n v:=by
 rcases ho with ho|⟨g,cap,cur,h1,h2,h3,h4,h5,h6⟩
 ·exact .inl ho
 ·have bp:g≠r:=fun e=>by rw[e,h] at h6;cases h6
  exact .inr ⟨g,cap,cur,h1,(mT bp).trans h2,h3,h4,h5,h6⟩
theorem aC.obj{r id:Nat}{b:Obj}(h:X.ow r= .box id){pl:List Nat->Place}{t:Ty}{x:El t}{c:List Value}{own:List (List Nat)}(ho:aC X pl t x c own):aC (X.obj r b) pl t x c own:=fun p hp=>by
 obtain⟨e,t',xs,v,g0,g1,g2,g3⟩:=ho p hp
 exact⟨e,t',xs,v,g0,g1,g2,g3.obj h⟩
theorem ah.obj{r id:Nat}{b:Obj}(h:X.ow r= .box id){pl:List Nat->Place}{sv:SV}{v:Value}(hr:ah X pl sv v):ah (X.obj r b) pl sv v:=by
 cases sv with
 |aj t x own=>
  obtain⟨c,h1,h2,h3⟩:=hr
  exact⟨c,h1.af (fun _ _=>z28 h),h2,h3.obj h⟩
 |view t x=>
  obtain⟨ad,c,h1,h2,h3,h4⟩:=hr
  exact⟨ad,c,h1,h2,h3.af (fun _ _=>z28 h),fun i u hi=>z28 h (h4 i u hi)⟩
 |cap f t x u y=>exact ij (fun _ _=>z28 h) hr
 |_=>exact hr
theorem Rel.obj{r id:Nat}{B B':aH}{b:Obj}(hr:Rel X s a)(hb:s.bs[id]? =some (some B))(hβ:X.β id=some r)(h:X.ow r= .box id)(hB:aG (X.obj r b) id r B'):Rel (X.obj r b) (s.ao (some (id,B'))) a where
 size:=hr.size
 cL:=by simpa [State.ao] using hr.cL
 aL:=fun i l v hl hv=>(hr.aL i l v hl hv).dE fun j sv u hm dC=>dC.obj h
 boxes:=fun aS B2 bB=>by
  have aw:id<s.bs.length:=(List.getElem?_eq_some_iff.1 hb).1
  simp only[State.ao,List.getElem?_set] at bB
  by_cases e:id=aS
  ·subst e
   rw[if_pos rfl,if_pos aw] at bB
   cases bB;exact⟨r,hβ,hB⟩
  ·rw[if_neg e] at bB
   obtain⟨r',h1,h4,h2⟩:=hr.boxes aS B2 bB
   have bp:r'≠r:=fun e2=>by rw[e2,h] at h4;cases h4;exact e rfl
   exact⟨r',h1,h4,h2.move (fun _ _=>z28 h) (mT bp) (fun cs h5=>h5.obj h) fun _ g o ho hw=>⟨(mT (fun e3=>by rw[e3,h] at hw;cases hw)).trans ho,hw⟩⟩
 live:=fun i l aS t p hi hm=>by
  have aw:id<s.bs.length:=(List.getElem?_eq_some_iff.1 hb).1
  obtain⟨B2,bB⟩:=hr.live i l aS t p hi hm
  simp only[State.ao,List.getElem?_set]
  by_cases e:id=aS
  ·subst e;exact⟨B',by rw[if_pos rfl,if_pos aw]⟩
  ·rw[if_neg e];exact⟨B2,bB⟩
 defers:=hr.defers
def ag.dI(X:ag)(b:Obj)(w:Ow)(β:Nat->Option Nat):ag:={w:=X.w.alloc b,ow:=fun g=>if g=X.w.heap.size then w else X.ow g,β}
theorem uA(X:ag)(s:State)(b:Obj)(w:Ow)(β:Nat->Option Nat)(hβ0:β 0=X.β 0)(hβ:∀(id:Nat) B,s.bs[id]? =some (some B)->β id=X.β id):b3 s X (X.dI b w β) where
 size:=by simp [ag.dI]
 os:=rfl
 tape:=rfl
 output:=rfl
 fQ:=fun g hg=>⟨by simp only[ag.dI];rw[if_neg (by omega)],RowKit.Below.heap_alloc _ _ _ hg⟩
 β0:=hβ0
 β:=hβ
theorem qS(hr:Rel X s a){t p:Ty}{x:El t}{b:Obj}{v:Value}(aA:(execOp a.eval o).run P X.w= .ok (.value v) (X.w.alloc b))
 (lX:∀Y:ag,(∀ad v,X.ai ad v->Y.ai ad v)->Y.w.heap[X.w.heap.size]? =some b->∀pl,bD Y X.w.heap.size pl t x []) (gM:fw p [] X.w.heap.size v) (h:dy s o.dst t x p some=some u):al P X s a o u:=by
 unfold dy at h
 split at h
 case h_2=>cases h
 rename_i d hd
 split at h
 case h_2=>cases h
 rename_i hb
 cases h
 let β:Nat->Option Nat:=fun id=>if id=d+1 then some X.w.heap.size else X.β id
 have aw:d+1<s.bs.length:=(List.getElem?_eq_some_iff.1 hb).1
 have hk:b3 s X (X.dI b (.box (d+1)) β):=uA X _ _ _ _ (by show(if _ then _ else _)=_;rw[if_neg (by omega)]) (fun id B hB=>by
  show(if id=d+1 then _ else _)=_
  rw[if_neg (fun e=>by rw[e,hb] at hB;cases hB)])
 have aU:aG (X.dI b (.box (d+1)) β) (d+1) X.w.heap.size ⟨t,x,[]⟩:=⟨by simp [ag.dI],lX _ (fun _ _=>hk.ai) (heap_alloc_new X.w _) _⟩
 have hβd:β (d+1)=some X.w.heap.size:=by show(if d+1=d+1 then _ else _)=_;rw[if_pos rfl]
 have cq:=(hr.bP hk).cC aw hb hβd aU
 refine⟨X.dI b (.box (d+1)) β,v,.inl aA,hk.ext,?_⟩
 rw[hd]
 refine cq.put (fun d' e=> ?_) (fun id t' q hm=> ?_)
 ·cases e
  exact⟨X.w.heap.size,hβd,gM⟩
 ·have:id=d+1:=by have:=hm;simp at this;exact this.1
  subst this
  exact⟨⟨t,x,[]⟩,by simp [State.ao,List.getElem?_set,aw]⟩
def dv:(t:Ty)->El t->Value
 | .bool,b=> .bool b
 | .int k,n=> .int k n
 | .str,x=> .string x
 |_,_=>Go.undef
def Ty.cG:Ty->Bool
 | .bool| .int _| .str=>true
 |_=>false
theorem rB{t:Ty}(hk:t.cG=true){x:El t}{v:Value}(h:bJ X t x v):v=dv t x:=by
 obtain⟨cs,h1,h2⟩:=h
 cases t<;>simp [Ty.cG] at hk
 ·rw[h2,iq h1];rfl
 ·rw[h2,zs h1];rfl
 ·rw[h2,zv h1];rfl
theorem vL{T:TypeId}{t:Ty}(hE:ae P E)(hT:E.ty T=some t)(hk:t.cG=true)(x:El t):∃d,P.underlying T=some d/\MapKept.IsKey d (dv t x)/\∀y,Instr.sameNow d (dv t x) (dv t y)=some (fj t x y):=by
 have hu:=(hE.ty T t hT).bu
 cases t<;>simp [Ty.cG] at hk
 ·have hu:P.underlying T=some .bool:=hu
  exact⟨_,hu,trivial,fun y=>by cases x<;>cases y<;>rfl⟩
 ·have hu:P.underlying T=some (.int _):=hu
  refine⟨_,hu,by simp [MapKept.IsKey,dv],fun y=> ?_⟩
  simp only[Instr.sameNow,dv,if_true,fj]
  congr 1
 ·have hu:P.underlying T=some .string:=hu
  refine⟨_,hu,trivial,fun y=> ?_⟩
  simp only[Instr.sameNow,dv,fj]
  congr 1
  by_cases e:x=y
  ·rw[decide_eq_true e];exact(MapKept.bytes_beq _ _).2 e
  ·rw[decide_eq_false e]
   cases hb:(x==y) with
   |false=>rfl
   |true=>exact absurd ((MapKept.bytes_beq _ _).1 hb) e
theorem uX{kt vt:Ty}{d:TypeDesc}{k:El kt}(hk:kt.cG=true)(hs:∀y,Instr.sameNow d (dv kt k) (dv kt y)=some (fj kt k y)):∀(es:List MapEntry) (xs:List (El kt×El vt)) (i:Nat),es.length=xs.length->
 (∀(i:Nat) q e,xs[i]? =some q->es[i]? =some e->bJ X kt q.1 e.key/\bJ X vt q.2 e.val)->
 (dH (fj kt) xs k=false/\dG (fj kt) (El.aM vt) xs k=El.aM vt/\Instr.findNow d (dv kt k) es i=some none)\/(dH (fj kt) xs k=true/\∃j v,Instr.findNow d (dv kt k) es i=some (some (j,v))/\bJ X vt (dG (fj kt) (El.aM vt) xs k) v)
 | [],[],i,_,_=> .inl ⟨rfl,rfl,rfl⟩
 |e::es,q::xs,i,hl,hp=>by
  obtain⟨h1,h2⟩:=hp 0 q e rfl rfl
  have wk:=rB hk h1
  have fF:=hs q.1
  rw[<-wk] at fF
  simp only[Instr.findNow,fF,dH,dG]
  cases heq:fj kt k q.1 with
  |true=>exact .inr ⟨rfl,i,e.val,rfl,h2⟩
  |false=>exact uX hk hs es xs (i+1) (by simpa using hl) (fun i q e hq he=>hp (i+1) q e (by simpa using hq) (by simpa using he))
 | [],_::_,_,hl,_=>by simp at hl
 |_::_,[],_,hl,_=>by simp at hl
theorem ud:∀{t:Ty},t.cB=true->t.depth<=2
 | .unit,_=>by decide
 | .pair (.int _) b,h=>by
   have:=ud (t:=b) h
   simp only[Ty.depth];omega
theorem vu:∀{t:Ty},t.cB=true->∀x y:El t,bA t x y=some (hP t x y)
 | .unit,_,_,_=>rfl
 | .pair (.int _) b,h,x,y=>by
   have:=vu (t:=b) h x.2 y.2
   simp only[bA,this,hP]
theorem dh(hE:ae P E){xs:Array Value}(w:World)(em:Bool)(n:Nat):
 ∀(fl:List Field) (t:Ty) (off:Nat),zl E fl t off->t.cB=true->∀(x:El t) (c1:List Value),az X t x c1->(xs.toList.drop off).take t.cells=c1->
  (forIn fl () fun(f:Field) (_:Unit)=>(if f.name≠ "_" then do
    let __do_lift<-part f.type xs f.offset
    Instr.checkKey em (n+1) f.type __do_lift
    pure (ForInStep.yield ()) else pure (ForInStep.yield ()):Sem (ForInStep Unit))).run P w= .ok () w:=by
 intro fl
 induction fl with
 |nil=>intro t off hf hi x c1 h1 h3;simp [List.forIn_nil]
 |cons f fl p6=>
  intro t off hf hi x c1 h1 h3
  cases t<;>simp only[zl] at hf<;>try exact hf.elim
  rename_i ta tb
  obtain⟨ho,kH,hn,bX⟩:=hf
  obtain⟨ca,cb,e1,ra,rb⟩:=h1
  have la:=ra.len
  have t1:(xs.toList.drop off).take ta.cells=ca:=by
   have:=congrArg (fun l=>l.take ta.cells) (h3.trans e1)
   simp only[List.take_take,Ty.cells] at this
   rw[Nat.min_eq_left (Nat.le_add_right _ _),<-la,List.take_left] at this
   rw[<-la];exact this
  have u1:(xs.toList.drop (off+ta.cells)).take tb.cells=cb:=by
   have:=congrArg (fun l=>l.drop ta.cells) (h3.trans e1)
   simp only[Ty.cells] at this
   rw[List.drop_take,Nat.add_sub_cancel_left,List.drop_drop,<-la,List.drop_left] at this
   rw[<-la];exact this
  have fp:=ko hE kH ra (all:=xs) (off:=f.offset) (by rw[ho];exact t1) w
  cases ta<;>simp [Ty.cB] at hi
  rename_i k
  have hu:P.underlying f.type=some (.int k):=(hE.ty f.type _ kH).bu
  have kB:(Instr.checkKey em (n+1) f.type (bL (.int k) ca)).run P w= .ok () w:=by
   rw[zs ra]
   exact MapKept.run_checkKey hu (by simp [MapKept.IsKey]) em n
  rw[List.forIn_cons]
  simp only[hn,ne_eq,not_false_eq_true,if_true,Sem.run_bind,fp,kB,Result.andThen_ok,Sem.run_pure]
  exact p6 tb _ bX hi x.2 cb rb u1
theorem uB{T:TypeId}{t:Ty}(hE:ae P E)(hT:E.ty T=some t)(hk:t.isKey=true){x:El t}{v:Value}(h:bJ X t x v)(em:Bool)(w:World):(Instr.checkKey em 10000 T v).run P w= .ok () w:=by
 cases h1:t.cG with
 |true=>
  obtain⟨d,hd,nA,_⟩:=vL hE hT h1 x
  rw[rB h1 h]
  exact MapKept.run_checkKey hd nA em 9999
 |false=>
  have hu:=(hE.ty T t hT).bu
  cases t<;>simp [Ty.isKey,Ty.cG] at hk h1
  rename_i ta tb
  obtain⟨fs,dc,dt,nG,_⟩:=hu
  obtain⟨cs,hr,rfl⟩:=h
  rw[zj rfl]
  unfold Instr.checkKey
  simp only[Sem.run_bind,run_underlying dc,Result.andThen_ok]
  rw[<-Array.forIn_toList]
  have:=dh (X:=X) hE (xs:=cs.toArray) w em 9998 fs.toList (.pair ta tb) 0 dt hk x cs hr (by have:=hr.len;simp only[List.drop_zero];rw[<-this];exact List.take_length)
  exact(congrArg (fun r=>Result.andThen r (fun a w'=>Sem.run P (pure ()) w')) this).trans (by simp)
theorem tQ(hE:ae P E){T:TypeId}{kt vt:Ty}(hT:E.ty T=some kt)(hk:kt.cB=true){k:El kt}{v:Value}(h:bJ X kt k v)(w:World):∀(es:List MapEntry) (xs:List (El kt×El vt)) (i:Nat),es.length=xs.length->
 (∀(i:Nat) q e,xs[i]? =some q->es[i]? =some e->bJ X kt q.1 e.key/\bJ X vt q.2 e.val)->
 (dH (hP kt) xs k=false/\dG (hP kt) (El.aM vt) xs k=El.aM vt/\(Instr.findAsking T v es i).run P w= .ok none w)\/(dH (hP kt) xs k=true/\∃j u,(Instr.findAsking T v es i).run P w= .ok (some (j,u)) w/\bJ X vt (dG (hP kt) (El.aM vt) xs k) u)
 | [],[],i,_,_=> .inl ⟨rfl,rfl,by simp [Instr.findAsking]⟩
 |e::es,q::xs,i,hl,hp=>by
  obtain⟨h1,h2⟩:=hp 0 q e rfl rfl
  obtain⟨c1,r1,rfl⟩:=h
  obtain⟨c2,r2,e2⟩:=h1
  have heq:(Op.equal T (bL kt c1) e.key).run P w= .ok (hP kt k q.1) w:=by
   rw[e2]
   exact uw (X:=X) hE w 10000 kt T hT (Nat.le_trans (ud hk) (by decide)) k q.1 c1 c2 _ r1 r2 (vu hk k q.1)
  unfold Instr.findAsking
  simp only[Sem.run_bind,heq,Result.andThen_ok,dH,dG]
  cases heq:hP kt k q.1 with
  |true=>exact .inr ⟨rfl,i,e.val,by simp,h2⟩
  |false=>exact tQ hE hT hk ⟨c1,r1,rfl⟩ w es xs (i+1) (by simpa using hl) (fun i q e hq he=>hp (i+1) q e (by simpa using hq) (by simpa using he))
 | [],_::_,_,hl,_=>by simp at hl
 |_::_,[],_,hl,_=>by simp at hl
theorem u4(hE:ae P E){T:TypeId}{kt vt:Ty}(hT:E.ty T=some kt)(hk:kt.isKey=true){k:El kt}{v:Value}(h:bJ X kt k v)(w:World)(es:List MapEntry)(xs:List (El kt×El vt))(hl:es.length=xs.length)
 (hp:∀(i:Nat) q e,xs[i]? =some q->es[i]? =some e->bJ X kt q.1 e.key/\bJ X vt q.2 e.val):
 (dH (fj kt) xs k=false/\dG (fj kt) (El.aM vt) xs k=El.aM vt/\(Instr.findKey T v es).run P w= .ok none w)\/(dH (fj kt) xs k=true/\∃j u,(Instr.findKey T v es).run P w= .ok (some (j,u)) w/\bJ X vt (dG (fj kt) (El.aM vt) xs k) u):=by
 cases h1:kt.cG with
 |true=>
  obtain⟨d,hd,nA,fF⟩:=vL hE hT h1 k
  rw[rB h1 h]
  rcases uX (X:=X) h1 fF es xs 0 hl hp with⟨g1,g2,g3⟩|⟨g1,j,u,g3,g4⟩
  ·exact .inl ⟨g1,g2,MapKept.run_findKey hd g3⟩
  ·exact .inr ⟨g1,j,u,MapKept.run_findKey hd g3,g4⟩
 |false=>
  have hu:=(hE.ty T kt hT).bu
  cases kt<;>simp [Ty.isKey,Ty.cG] at hk h1
  rename_i ta tb
  obtain⟨fs,dc,_⟩:=hu
  have e:=run_findKey_eq (P:=P) w (k:=T) (by rw[dc]) v es
  have:=tQ (X:=X) hE hT hk h w es xs 0 hl hp
  rw[e]
  exact this
theorem ug{T:TypeId}{kt vt:Ty}(hE:ae P E)(h:eV E T=some (kt,vt)):∃k e,P.underlying T=some (.map k e)/\E.ty k=some kt/\E.ty e=some vt/\kt.isKey=true:=by
 unfold eV at h
 split at h
 case h_2=>cases h
 rename_i k e hm
 split at h
 case h_2=>cases h
 rename_i p8 qv h1 h2
 split at h
 case isFalse=>cases h
 rename_i hk
 cases h
 exact⟨k,e,hE.mp T k e hm,h1,h2,hk⟩
theorem tT{m:Operand}{kt vt:Ty}{R:Type}{K:Nat->List (El kt×El vt)->Option R}{z:R}(hr:Rel X s a)(h:iw s (s.ak m) kt vt K=some z):
 ∃id B r xs,K id xs=some z/\s.bs[id]? =some (some B)/\X.β id=some r/\X.ow r= .box id/\a.eval m= .map (some r)/\∃es clock,X.w.heap[r]? =some (.map es clock)/\es.size=xs.length/\
  ∀(i:Nat) (q:El kt×El vt) (e:MapEntry),xs[i]? =some q->es[i]? =some e->bJ X kt q.1 e.key/\bJ X vt q.2 e.val:=by
 have hx:=hr.ak m
 unfold iw at h
 split at h
 case h_2=>cases h
 rename_i id p8 qv hm
 rw[hm] at hx
 obtain⟨r,hβ,hv⟩:=hx
 split at h
 case isFalse=>cases h
 split at h
 case h_2=>cases h
 rename_i B hB
 split at h
 case isFalse=>cases h
 rename_i cj
 have hb:=gk hB
 obtain⟨r',h1,h2,h3⟩:=hr.boxes id B hb
 rw[hβ] at h1
 cases h1
 refine⟨id,B,r,_,h,hb,hβ,h2,hv,?_⟩
 obtain⟨bt,bx,bo⟩:=B
 have e:=Ty.av cj
 simp only at e
 subst e
 exact h3
theorem xK(hE:ae P E)(hr:Rel X s a){ops:List Oper}{T:TypeId}{rs:Option Operand}(ho:o.op= .makeMap T rs){C:FuncId->aJ Out}(h:act E C ops o s some=some u):al P X s a o u:=by
 unfold act at h
 cases rs with
 |some r=>simp only[ho] at h;cases h
 |none=>
  simp only[ho] at h
  split at h
  case h_2=>cases h
  rename_i kt vt hm
  refine qS hr (t:= .aF .mp kt vt) (p:= .aF .mp kt vt) (x:=([]:List (El kt×El vt))) (b:= .map #[] 0) (v:= .map (some X.w.heap.size)) ?_ (fun Y _ hY pl=>⟨#[],0,hY,rfl,fun i q e hq=>by simp at hq⟩) rfl h
  simp [execOp,ho,Instr.makeMap]
theorem xV(hE:ae P E)(hr:Rel X s a){ops:List Oper}{T:TypeId}{x i:Operand}{ok:Bool}(ho:o.op= .lookup T x i ok){C:FuncId->aJ Out}(h:act E C ops o s some=some u):al P X s a o u:=by
 unfold act at h
 cases ok with
 |true=>simp only[ho] at h;cases h
 |false=>
  simp only[ho] at h
  unfold dS at h
  split at h
  case h_2=>cases h
  rename_i kt vt hm
  obtain⟨k,e,hu,hk,he,gB⟩:=ug hE hm
  obtain⟨id,B,r,xs,h,hb,hβ,how,hv,es,clock,ap,cO,b6⟩:=tT hr h
  obtain⟨key,h,pB⟩:=zi h
  cases h
  obtain⟨ck,rk,sK⟩:=pB X _ _ (hr.ak i)
  have kB:=uB hE hk gB (X:=X) (x:=key) ⟨ck,rk,sK⟩ es.isEmpty X.w
  rcases u4 (X:=X) hE hk gB (k:=key) ⟨ck,rk,sK⟩ X.w es.toList xs (by simpa using cO) (fun i q e hq he=>b6 i q e hq (by simpa using he)) with⟨g1,g2,hf⟩|⟨g1,j,v,hf,g4⟩
  ·rw[g2]
   have hz:=n5 (P:=P) hE he X.w
   refine al.plain hr (v:=bL vt (zb vt)) ?_ (kr (hJ X vt)) (fun _ _ _ e'=>by cases e')
   simp only[execOp,ho,Sem.run_bind,Instr.lookup,run_underlying hu,Result.andThen_ok,hv,MapKept.run_getObj_map ap,Sem.run_pure,kB,hf,hz,Bool.false_eq_true,if_false]
  ·obtain⟨cv,rv,ev⟩:=g4
   refine al.plain hr (v:=v) ?_ ⟨cv,rv,ev,zr⟩ (fun _ _ _ e'=>by cases e')
   simp only[execOp,ho,Sem.run_bind,Instr.lookup,run_underlying hu,Result.andThen_ok,hv,MapKept.run_getObj_map ap,Sem.run_pure,kB,hf,Bool.false_eq_true,if_false]
theorem uV(hE:ae P E)(hr:Rel X s a){T:TypeId}{m k x:Operand}(ho:(execOp a.eval o).run P X.w=((Instr.mapUpdate T (a.eval m) (a.eval k) (a.eval x)).run P X.w).andThen fun _ w=> .ok .skip w)(h:eB E T s (s.ak m) (s.ak k) (s.ak x) some=some u):al P X s a o u:=by
 unfold eB at h
 split at h
 case h_2=>cases h
 rename_i kt vt hm
 obtain⟨kT,eT,hu,hk,he,gB⟩:=ug hE hm
 obtain⟨id,B,r,xs,h,hb,hβ,how,hv,es,clock,ap,cO,b6⟩:=tT hr h
 obtain⟨key,h,pB⟩:=zi h
 obtain⟨y,h,wY⟩:=zi h
 obtain⟨ck,rk,jU⟩:=pB X _ _ (hr.ak k)
 obtain⟨cy,ry,pc⟩:=wY X _ _ (hr.ak x)
 have kB:=uB hE hk gB (X:=X) (x:=key) ⟨ck,rk,jU⟩ false X.w
 rcases u4 (X:=X) hE hk gB (k:=key) ⟨ck,rk,jU⟩ X.w es.toList xs (by simpa using cO) (fun i q e hq he=>b6 i q e hq (by simpa using he)) with⟨g1,g2,hf⟩|⟨g1,j,v,hf,g4⟩
 ·rw[g1] at h
  cases h
  let new:Obj:= .map (es.push {key:=a.eval k,val:=a.eval x,born:=clock}) (clock+1)
  have aA:(execOp a.eval o).run P X.w= .ok .skip (X.obj r new).w:=by
   rw[ho]
   simp only[Instr.mapUpdate,Sem.run_bind,run_underlying hu,Result.andThen_ok,hv,MapKept.run_getObj_map ap,kB,hf,MapKept.run_setObj_map _ ap]
   simp only[new]
   rfl
  have aU:aG (X.obj r new) id r ⟨.aF .mp kt vt,(xs++ [(key,y)]:List (El kt×El vt)),[]⟩:=by
   refine⟨how,es.push {key:=a.eval k,val:=a.eval x,born:=clock},clock+1,vd ap,by simp [cO],fun i q e hq he=> ?_⟩
   have hs:∀ad v,X.ai ad v->(X.obj r new).ai ad v:=fun _ _=>z28 how
   have hq:(xs++ [(key,y)])[i]? =some q:=hq
   rw[List.getElem?_append] at hq
   rw[Array.getElem?_push] at he
   split at hq
   ·rename_i aw
    rw[if_neg (by omega)] at he
    obtain⟨j1,j2⟩:=b6 i q e hq he
    exact⟨j1.mono hs,j2.mono hs⟩
   ·rename_i aw
    have hi:i-xs.length=0:=by
     have:=(List.getElem?_eq_some_iff.1 hq).1
     simp at this
     omega
    rw[hi] at hq
    cases hq
    rw[if_pos (by omega)] at he
    cases he
    exact⟨bJ.mono hs ⟨ck,rk,jU⟩,bJ.mono hs ⟨cy,ry,pc⟩⟩
  exact⟨X.obj r new,Go.undef,.inr ⟨aA,rfl⟩,vA how,(hr.obj hb hβ how aU).skip o.dst⟩
 ·rw[g1] at h
  cases h
theorem tF(hE:ae P E)(hr:Rel X s a){ops:List Oper}{T:TypeId}{m k x:Operand}(ho:o.op= .mapUpdate T m k x\/o.op= .insert T m k x){C:FuncId->aJ Out}(h:act E C ops o s some=some u):al P X s a o u:=by
 unfold act at h
 rcases ho with ho|ho
 ·simp only[ho] at h
  exact uV hE hr (by simp [execOp,ho]) h
 ·simp only[ho] at h
  exact uV hE hr (by simp [execOp,ho]) h
theorem yj(hE:ae P E)(hr:Rel X s a){ops:List Oper}{T:TypeId}{x:Operand}(ho:o.op= .range T x){C:FuncId->aJ Out}(h:act E C ops o s some=some u):al P X s a o u:=by
 unfold act at h
 simp only[ho] at h
 split at h
 case h_2=>cases h
 rename_i hT
 obtain⟨y,h,hy⟩:=zi h
 obtain⟨cs,ry,ev⟩:=hy X _ _ (hr.ak x)
 rw[zv ry] at ev
 have hu:=(hE.ty T _ hT).bu
 refine qS hr (t:=du) (p:=du) (x:=((y,0):ByteArray×Nat)) (b:= .stringIter y 0) (v:= .pointer (some ⟨X.w.heap.size,0,none⟩)) ?_ (fun Y _ hY pl=>hY) ⟨rfl,trivial⟩ h
 simp [execOp,ho,Instr.range,run_underlying hu,ev]
theorem zB(hr:Rel X s a){ops:List Oper}{x:Operand}{str:Bool}(ho:o.op= .next x str){C:FuncId->aJ Out}(h:act E C ops o s some=some u):al P X s a o u:=by
 unfold act at h
 cases str with
 |false=>simp only[ho] at h;cases h
 |true=>
  simp only[ho] at h
  unfold dU at h
  have hx:=hr.ak x
  split at h
  case h_2=>cases h
  rename_i id hm
  rw[hm] at hx
  obtain⟨r,hβ,hv,_⟩:=hx
  split at h
  case h_2=>cases h
  rename_i B hB
  split at h
  case isFalse=>cases h
  rename_i cj
  have hb:=gk hB
  obtain⟨r',h1,how,h3⟩:=hr.boxes id B hb
  rw[hβ] at h1
  cases h1
  have ap:X.w.heap[r]? =some (.stringIter (Ty.cast cj B.x:ByteArray×Nat).1 (Ty.cast cj B.x:ByteArray×Nat).2):=by
   obtain⟨bt,bx,bo⟩:=B
   have e:=Ty.av cj
   simp only at e
   subst e
   exact h3
  generalize(Ty.cast cj B.x:ByteArray×Nat)=q at*
  obtain⟨st,pos⟩:=q
  simp only at h ap
  have hv:a.eval x= .pointer (some ⟨r,0,none⟩):=by simpa [Ty.off] using hv
  have bd:(getObj r).run P X.w= .ok (.stringIter st pos) X.w:=by simp [getObj,Sem.run,ap]
  cases aw:decide (pos<st.size) with
  |false=>
   rw[aw] at h
   cases h
   have aw:=of_decide_eq_false aw
   refine al.plain hr (sv:= .over) (v:= .tuple #[.bool false]) ?_ rfl (fun _ _ _ e'=>by cases e')
   simp only[execOp,ho,Sem.run_bind,Instr.next,hv,bd,Result.andThen_ok,if_neg aw,Sem.run_pure]
  |true=>
   rw[aw] at h
   cases h
   have aw:=of_decide_eq_true aw
   let new:Obj:= .stringIter st (pos+(Utf8.decode st pos).2)
   have cA:(setObj r new).run P X.w= .ok () (X.obj r new).w:=by simp [setObj,Sem.run,ap,ag.obj]
   have aU:aG (X.obj r new) id r ⟨du,((st,pos+(Utf8.decode st pos).2):ByteArray×Nat),[]⟩:=⟨how,vd ap⟩
   have cq:=hr.obj hb hβ how aU
   refine⟨X.obj r new,.tuple #[.bool true,.int .i64 pos,.int .i32 (Utf8.decode st pos).1],.inl ?_,vA how,?_⟩
   ·simp only[execOp,ho,Sem.run_bind,Instr.next,hv,bd,Result.andThen_ok,if_pos aw,Sem.run_pure]
    simp only[new] at cA
    rw[cA]
    rfl
   ·refine cq.put (fun d' e=>⟨_,rfl,rfl,fun j sv v hj hv=> ?_⟩) (fun id t' q hm=>by simp at hm)
    match j with
    |0=>cases hj;cases hv;exact zm
    |1=>cases hj;cases hv;exact zg
    |2=>cases hj;cases hv;exact zg
    |j+3=>simp at hj
theorem Bj{t:Ty}{k:Nat}(hk:(zb t).length=k)(n:Nat):((Array.range (n*k)).map fun i=>(zb t).toArray[i % (zb t).toArray.size]!).size=n*k/\
 ∀j,j<n->((((Array.range (n*k)).map fun i=>(zb t).toArray[i % (zb t).toArray.size]!).toList.drop (j*k)).take k)=zb t:=by
 refine⟨by simp,fun j hj=> ?_⟩
 apply List.ext_getElem?
 intro i
 rw[List.getElem?_take]
 split
 ·rename_i hi
  have aw:j*k+i<n*k:=by
   have:(j+1)*k<=n*k:=Nat.mul_le_mul_right _ hj
   rw[Nat.add_mul,Nat.one_mul] at this
   omega
  have j8:(j*k+i)% k=i:=by rw[Nat.mul_comm,Nat.mul_add_mod,Nat.mod_eq_of_lt hi]
  rw[List.getElem?_drop,Array.getElem?_toList,Array.getElem?_map,Array.getElem?_range,if_pos aw]
  simp only[Option.map_some,List.size_toArray,hk,j8]
  rw[List.getElem?_eq_getElem (by omega)]
  simp [getElem!_def,List.getElem?_eq_getElem (show i<(zb t).length by omega)]
 ·rename_i hi
  rw[List.getElem?_eq_none (by omega)]
theorem u6(hE:ae P E){T e:TypeId}{t:Ty}(hT:E.ty T=some (.sl e t))(hk:t.cells≠0)(jY:E.bytes e≠0){n m:Int}(hn:0<=n)(B4:n<=m)(hb:m*E.bytes e<=140737488355328)(w:World):
 m.toNat<=maxLen/\∃cur,cur.size=m.toNat*t.cells/\(∀j,j<m.toNat->(cur.toList.drop (j*t.cells)).take t.cells=zb t)/\
  (Instr.makeSlice T (.int .i64 n) (.int .i64 m)).run P w= .ok (.slice (some ⟨w.heap.size,0,none⟩) n.toNat m.toNat) (w.alloc (.cells cur e)):=by
 obtain⟨hu,he⟩:=(hE.ty T _ hT).bu
 obtain⟨i,hi,bz,eg,hz⟩:=(hE.ty e t he).info
 have hle:m<=m*E.bytes e:=by
  have h1:(1:Int)<=E.bytes e:=by omega
  have:=Int.mul_le_mul_of_nonneg_left h1 (show 0<=m by omega)
  simpa using this
 have kE:m.toNat<=maxLen:=by simp only[maxLen];omega
 have eh:(bL t (zb t)).cells=(zb t).toArray:=jb (X:=⟨w,fun _=> .all,fun _=>none⟩) (hJ _ t)
 obtain⟨z1,z2⟩:=Bj (zw t) m.toNat
 refine⟨kE,(Array.range (m.toNat*t.cells)).map (fun i=>(zb t).toArray[i % (zb t).toArray.size]!),z1,z2,?_⟩
 have nI:IntKind.i64.wrap n=n:=by simp [IntKind.wrap,IntKind.signed,IntKind.bits];omega
 have ig:IntKind.i64.wrap m=m:=by simp [IntKind.wrap,IntKind.signed,IntKind.bits];omega
 have hmul:(i.bytes:Int)*m<=2^48:=by rw[eg,Int.mul_comm];omega
 have c1:¬m<0:=by omega
 have c2:¬(281474976710656:Int)<(i.bytes:Int)*m:=by omega
 have c3:¬n<0:=by omega
 have c4:¬m<n:=by omega
 have vT:∀(n:Int) (w:World),(asInt (.int .i64 n)).run P w= .ok n w:=fun n w=>by simp [asInt,asIntOf]
 have wO:∀w:World,(typeInfo e).run P w= .ok i w:=fun w=>by simp [typeInfo,hi]
 have c9:∀w:World,(sizeOf e).run P w= .ok t.cells w:=fun w=>zh hE he w
 have w7:∀w:World,(zeroValue e).run P w= .ok (bL t (zb t)) w:=fun w=>n5 hE he w
 simp only[Instr.makeSlice,Sem.run_bind,run_underlying hu,Result.andThen_ok,vT,wO,nI,ig]
 by_cases h0:m.toNat*t.cells=0
 ·simp [c1,c2,c3,c4,c9,h0,newRow]
  rw[show Array.range 0= #[] from rfl]
  simp
 ·simp [c1,c2,c3,c4,c9,h0,w7,eh,newRow]
theorem xA(hE:ae P E)(hr:Rel X s a){ops:List Oper}{T:TypeId}{l c:Operand}(ho:o.op= .makeSlice T l c){C:FuncId->aJ Out}(h:act E C ops o s some=some u):al P X s a o u:=by
 unfold act at h
 simp only[ho] at h
 unfold dT at h
 split at h
 case h_2=>cases h
 rename_i e t hT
 split at h
 ·cases h
 rename_i bp
 have jY:E.bytes e≠0:=fun e0=>bp (by rw[e0];rfl)
 have hk:t.cells≠0:=fun e0=>bp (by rw[e0];simp)
 obtain⟨n,h,hn⟩:=zi h
 obtain⟨m,h,hm⟩:=zi h
 obtain⟨_,rn,en⟩:=hn X _ _ (hr.ak l)
 rw[zs rn] at en
 obtain⟨_,rm,em⟩:=hm X _ _ (hr.ak c)
 rw[zs rm] at em
 cases hc:vv l with
 |true=>
  rw[hc] at h
  simp only[cond_true] at h
  cases d1:decide (n=0)<;>rw[d1] at h<;>simp only[cond_true,cond_false] at h
  ·cases h
  cases d2:decide (0<=m)<;>rw[d2] at h<;>simp only[cond_true,cond_false] at h
  ·cases h
  cases d3:decide (m*E.bytes e<=140737488355328)<;>rw[d3] at h<;>simp only[cond_true,cond_false] at h
  ·cases h
  cases h
  have d1:=of_decide_eq_true d1
  have d2:=of_decide_eq_true d2
  have d3:=of_decide_eq_true d3
  subst d1
  obtain⟨kE,cur,g1,g2,aA⟩:=u6 (P:=P) hE hT hk jY (n:=0) (m:=m) (by omega) d2 d3 X.w
  have iK:b3 s X (X.dI (.cells cur e) (.row (.c (o.dst.getD 0) 0 []) 0) X.β):=uA X _ _ _ _ rfl (fun _ _ _=>rfl)
  refine⟨X.dI (.cells cur e) (.row (.c (o.dst.getD 0) 0 []) 0) X.β,.slice (some ⟨X.w.heap.size,0,none⟩) 0 m.toNat,.inl ?_,iK.ext,(hr.bP iK).fin ⟨[.slice (some ⟨X.w.heap.size,0,none⟩) 0 m.toNat],⟨_,_,rfl,Nat.zero_le _,fun j x hj=>by simp at hj⟩,rfl,fun p hp=> ?_⟩ (fun id t p hm=>by simp at hm)⟩
  ·simp only[execOp,ho,Sem.run_bind,en,em,aA,Result.andThen_ok,Sem.run_pure]
   rfl
  ·have hp:p=[]:=by simpa using hp
   subst hp
   refine⟨e,t,[],_,by simp [Ty.b5],rfl,rfl,.inr ⟨X.w.heap.size,m.toNat,cur,rfl,heap_alloc_new X.w _,Nat.zero_le _,kE,g1,?_⟩⟩
   simp [ag.dI]
 |false=>
  rw[hc] at h
  simp only[cond_false] at h
  cases d1:decide (n=m)<;>rw[d1] at h<;>simp only[cond_true,cond_false] at h
  ·cases h
  cases d2:decide (0<=n)<;>rw[d2] at h<;>simp only[cond_true,cond_false] at h
  ·cases h
  cases d3:decide (n*E.bytes e<=140737488355328)<;>rw[d3] at h<;>simp only[cond_true,cond_false] at h
  ·cases h
  have d1:=of_decide_eq_true d1
  have d2:=of_decide_eq_true d2
  have d3:=of_decide_eq_true d3
  have d1:m=n:=d1.symm
  subst d1
  obtain⟨kE,cur,g1,g2,aA⟩:=u6 (P:=P) hE hT hk jY (n:=m) (m:=m) d2 (Int.le_refl _) d3 X.w
  refine qS hr (t:= .aF .row t .unit) (p:= .aF (.dD m.toNat) t .unit) (x:=(List.replicate m.toNat (El.aM t):List (El t))) (b:= .cells cur e) (v:= .slice (some ⟨X.w.heap.size,0,none⟩) m.toNat m.toNat) ?_ (fun Y _ hY pl=>⟨cur,e,hY,?_,fun j x hj=> ?_⟩) ⟨_,rfl,Nat.le_refl _⟩ h
  ·simp only[execOp,ho,Sem.run_bind,en,em,aA,Result.andThen_ok,Sem.run_pure]
  ·rw[g1];show _=List.length (List.replicate _ _)*_;rw[List.length_replicate]
  ·have hj:(List.replicate m.toNat (El.aM t))[j]? =some x:=hj
   rw[List.getElem?_replicate] at hj
   split at hj
   ·rename_i aw
    cases hj
    rw[g2 j aw]
    exact hJ Y t
   ·cases hj
end Go.Ref

namespace Go.Ref
open Go
variable {P:Program} {E:Env} {X:ag} {s:State} {a:Act} {o:Oper} {u:Out}
theorem AL(hE:ae P E)(hr:Rel X s a){ops:List Oper}{T:TypeId}{x:Operand}{lo hi:Option Operand}(ho:o.op= .slice T x lo hi none){C:FuncId->aJ Out}(h:act E C ops o s some=some u):al P X s a o u:=by
 unfold act at h
 simp only[ho] at h
 split at h
 ·rename_i id n ta tb bK
  split at h
  case h_2=>cases h
  rename_i e t hT
  split at h
  case isFalse=>cases h
  rename_i heq
  have:=Ty.av heq
  subst this
  unfold gw at h
  split at h
  ·cases h
  rename_i lY
  have pA:hi=none:=by
   cases hi with
   |none=>rfl
   |some _=>cases lY
  subst pA
  obtain⟨l,h,h1,hl⟩:=qy h
  cases h
  have hx:=hr.ak x
  rw[bK] at hx
  obtain⟨r0,hβ,cap,hv,eL⟩:=hx
  have hu:=(hE.ty T _ hT).bu
  have sU:=qD (P:=P) (isS:=true) hr hl (hi:=none) (m:=n) (n:=n) (c:=cap) rfl h1 (Nat.le_refl _) eL X.w
  rw[Option.map_none] at sU
  refine al.plain hr (v:= .slice (if cap=l then some ⟨r0,0,none⟩ else(some (⟨r0,0,none⟩:Addr)).map (·.add (l*ta.cells))) (n-l) (cap-l)) ?_ ⟨r0,hβ,?_⟩ (fun _ _ _ e=>by cases e;exact jI hr bK)
  ·simp only[execOp,ho,Sem.run_bind,Instr.sliceAt,run_underlying hu.1,Result.andThen_ok,Instr.slice,hv,Option.map_none,sU,Sem.run_pure,zh hE hu.2]
  ·show∃lO off,_=Value.slice (some ⟨r0,off,none⟩) (n-l) lO/\_
   by_cases e':cap=l
   ·rw[if_pos e']
    exact⟨_,_,rfl,by omega,h1,.inl ⟨by omega,rfl⟩⟩
   ·rw[if_neg e']
    refine⟨cap-l,l*ta.cells,?_,by omega,h1,.inr rfl⟩
    rw[Option.map_some,zn,Nat.zero_add]
 ·rename_i id n t bK
  have hx:=hr.ak x
  rw[bK] at hx
  obtain⟨r0,hβ,hv⟩:=hx
  unfold fR at h
  split at h
  case h_2=>cases h
  rename_i u' hT j7 lY
  have xa:lo=none:=by
   cases lo with
   |none=>rfl
   |some _=>cases j7
  have pA:hi=none:=by
   cases hi with
   |none=>rfl
   |some _=>cases lY
  subst xa pA
  split at h
  case isFalse=>cases h
  rename_i heq
  have:=Ty.av heq
  subst this
  split at h
  case h_2=>cases h
  rename_i B hB
  split at h
  case isFalse=>cases h
  rename_i cj
  cases h
  have hb:=gk hB
  obtain⟨r,h1,iF⟩:=hr.boxes id B hb
  rw[hβ] at h1
  cases h1
  obtain⟨bt,bx,bo⟩:=B
  have e:=Ty.av cj
  simp only at e
  subst e
  obtain⟨cs,T',ap,au,how,_⟩:=iF.cells rfl
  have hv:a.eval x= .pointer (some ⟨r0,0,none⟩):=by rw[((zq rfl).1 hv).1];rfl
  obtain⟨e,dc,dt,_⟩:=(hE.ty T _ hT).bu
  have hlen:List.length (bx:List (El t))=n:=au.1
  have aU:aG X id r0 ⟨.aF .row t .unit,(bx:List (El t)),[]⟩:=⟨how,cs,T',ap,by have:=au.2.1;rw[hlen];simpa using this,au.2.2⟩
  have lT:(Ty.cast cj bx:El (.aK n t))=bx:=rfl
  rw[lT]
  refine⟨X,.slice (some ⟨r0,0,none⟩) n n,.inl ?_,Ext.refl X,(hr.fy hb hβ aU).fin ⟨r0,hβ,n,rfl,Nat.le_refl _⟩ (fun aS t' p' hm=> ?_)⟩
  ·simp only[execOp,ho,Sem.run_bind,Instr.sliceAt,run_underlying dc,Result.andThen_ok,Option.map_none,hv,Instr.sureAddr,Sem.run_pure,zh hE dt]
   simp [Instr.sliceBounds]
   intro _
   rw[zn]
  ·have pD:SV.ptr aS t' p'= .ptr id (.aF (.dD n) t .unit) []:=by simpa using hm
   cases pD
   exact⟨_,qG hb⟩
 ·exact y8 hE hr ho h
theorem xB(hr:Rel X s a){ops:List Oper}{fn:Fn}{fi ca:Array Operand}(ho:o.op= .makeFunc fn fi ca){C:FuncId->aJ Out}(h:act E C ops o s some=some u):al P X s a o u:=by
 unfold act at h
 cases fn with
 |func f=>
  simp only[ho] at h
  split at h
  case h_3=>cases h
  case h_2=>
   rename_i x y iI jZ
   have iI:fi= #[]:=by rw[<-Array.toArray_toList (xs:=fi),iI]
   have jZ:ca= #[x,y]:=by rw[<-Array.toArray_toList (xs:=ca),jZ]
   subst iI jZ
   unfold gv at h
   split at h
   case h_2=>cases h
   rename_i t x1 u' y1 bK mr
   cases h
   have hx:=hr.ak x
   have hy:=hr.ak y
   rw[bK] at hx
   rw[mr] at hy
   obtain⟨ad,cs,h1,h2,h3,h4⟩:=hx
   obtain⟨fC,bS,k1,k2,k3,k4⟩:=hy
   refine al.plain hr (v:= .func (.func f) #[] #[.pointer (some ad),.pointer (some fC)]) ?_ ⟨ad,fC,cs,bS,rfl,⟨h2,h3,h4⟩,k2,k3,k4⟩ (fun _ _ _ e=>by cases e)
   simp [execOp,ho,Instr.makeFunc,h1,k1]
  rename_i x iI jZ
  have iI:fi= #[]:=by rw[<-Array.toArray_toList (xs:=fi),iI]
  have jZ:ca= #[x]:=by rw[<-Array.toArray_toList (xs:=ca),jZ]
  subst iI jZ
  unfold eI at h
  split at h
  case h_2=>cases h
  rename_i id u' bK
  split at h
  case isTrue=>cases h
  rename_i hs
  cases h
  have hx:=hr.ak x
  rw[bK] at hx
  obtain⟨r0,hβ,hv⟩:=hx
  have hv:=((rA (by simpa using hs)).1 hv).1
  refine al.plain hr (v:= .func (.func f) #[] #[.pointer (some ⟨r0,0,none⟩)]) ?_ ⟨r0,hβ,rfl⟩ (fun _ _ _ e=>by cases e;exact jI hr bK)
  have hv:a.eval x= .pointer (some ⟨r0,0,none⟩):=by rw[hv];simp [Ty.off]
  simp [execOp,ho,Instr.makeFunc,hv]
 |_=>simp only[ho] at h;cases h
theorem uU{t:Ty}{xs:List (El t)}{n l:Nat}{cs:List Value}(h:az X (.aK n t) xs cs)(hl:l<=n):az X (.aK l t) (xs.take l:List (El t)) (cs.take (l*t.cells)):=by
 obtain⟨h1,h2,h3⟩:=h
 have hm:=Nat.mul_le_mul_right t.cells hl
 refine⟨by rw[List.length_take];omega,by rw[List.length_take];omega,fun j y hj=> ?_⟩
 have hj:(xs.take l)[j]? =some y:=hj
 rw[List.getElem?_take] at hj
 split at hj
 case isFalse=>cases hj
 rename_i iJ
 have hk:(j+1)*t.cells<=l*t.cells:=Nat.mul_le_mul_right _ iJ
 rw[Nat.add_mul,Nat.one_mul] at hk
 have e:((cs.take (l*t.cells)).drop (j*t.cells)).take t.cells=(cs.drop (j*t.cells)).take t.cells:=by
  rw[List.drop_take,List.take_take,Nat.min_eq_left (by omega)]
 rw[e]
 exact h3 j y hj
theorem uT{t:Ty}{xs:List (El t)}{n l:Nat}{cs:List Value}(h:az X (.aK n t) xs cs)(hl:l<=n):az X (.aK (n-l) t) (xs.drop l:List (El t)) (cs.drop (l*t.cells)):=by
 obtain⟨h1,h2,h3⟩:=h
 refine⟨by rw[List.length_drop];omega,by rw[List.length_drop,Nat.sub_mul];omega,fun j y hj=> ?_⟩
 have hj:(xs.drop l)[j]? =some y:=hj
 rw[List.getElem?_drop] at hj
 rw[List.drop_drop,<-Nat.add_mul]
 exact h3 (l+j) y hj
theorem vf{α:Type}(xs ys:List α)(lo:Nat)(h:lo+ys.length<=xs.length):(cI xs ys lo).length=xs.length:=by
 unfold cI;simp;omega
theorem tY(hE:ae P E)(hr:Rel X s a){d x:Operand}{T e:TypeId}{t:Ty}{ts:Array TypeId}(ho:o.op= .call ⟨.builtin .copy,#[d,x],ts⟩)(fX:ts[0]? =some T)(hT:E.ty T=some (.sl e t)){id n lo:Nat}{ta tb:Ty}{p:List Nat}
 (bK:s.ak d= .ptr id (.aF (.dD n) ta tb) p) (eQ:∀r,fw (.aF (.dD n) ta tb) p r (a.eval d)->∃cap off,a.eval d= .slice (some ⟨r,off,none⟩) (n-lo) cap/\lo<=n/\((n=lo/\off=0)\/off=lo*ta.cells))
 (h:cD t s id n lo ta tb (s.ak x) e some=some u):al P X s a o u:=by
 have hx:=hr.ak d
 rw[bK] at hx
 obtain⟨r0,hβ,hv⟩:=hx
 unfold cD at h
 split at h
 case isFalse=>cases h
 rename_i heq
 have:=Ty.av heq
 subst this
 obtain⟨ys,h,gU⟩:=zi h
 split at h
 case h_2=>cases h
 rename_i B hB
 split at h
 case isFalse=>cases h
 rename_i cj
 obtain⟨hb,r,h1,how,cs,T',ap,cO,b6⟩:=ku hr hB cj
 rw[hβ] at h1
 cases h1
 generalize(Ty.cast cj B.x:List (El ta))=xs at*
 cases hn:Nat.beq n (List.length xs)<;>rw[hn] at h
 ·cases h
 cases j7:Nat.ble lo n<;>rw[j7] at h
 ·cases h
 cases h
 have hn:=Nat.eq_of_beq_eq_true hn
 have j7:=Nat.le_of_ble_eq_true j7
 obtain⟨cap,off,hd,_,mc⟩:=eQ r0 hv
 obtain⟨cx,eY,ev⟩:=gU X _ _ (hr.ak x)
 have qu:=eY
 obtain⟨A,c,iG,_⟩:=qu
 have ev:a.eval x= .slice A ys.length c:=by rw[ev,iG];rfl
 rw[iG] at eY
 obtain⟨_,hc,cy,ry,ny,sy⟩:=qA (X:=X) eY
 have hu:=(hE.ty T _ hT).bu
 have hm:(ys.take (n-lo)).length=min ys.length (n-lo):=by rw[List.length_take,Nat.min_comm]
 generalize kF:min ys.length (n-lo)=m at hm
 have s8:m<=ys.length:=by omega
 have B3:m<=n-lo:=by omega
 have wP:ys.take (n-lo)=ys.take m:=by
  rw[<-kF]
  rcases Nat.le_total ys.length (n-lo) with g|g
  ·rw[Nat.min_eq_left g,List.take_of_length_le g,List.take_of_length_le (Nat.le_refl _)]
  ·rw[Nat.min_eq_right g]
 have rz:=uU ry s8
 have p3:(cy.take (m*ta.cells)).length=m*ta.cells:=rz.2.1
 have cu:az X (.aK xs.length ta) xs cs.toList:=⟨rfl,by simpa using cO,b6⟩
 have dm:(Builtin.firstCells ta.cells m (a.eval x)).run P X.w= .ok (cy.take (m*ta.cells)).toArray X.w:=by
  rw[ev]
  cases A with
  |none=>
   have:=ny rfl
   subst this
   have:m=0:=by simpa using s8
   subst this
   simp [Builtin.firstCells]
  |some ad=>
   have:=run_loadCells_list (P:=P) X.w ad (cy.take (m*ta.cells)) (fun j v hj=>by
    rw[List.getElem?_take] at hj
    split at hj
    ·exact(sy ad rfl j v hj).2.1
    ·cases hj)
   rw[p3] at this
   simpa [Builtin.firstCells] using this
 have bn:off+0+(cy.take (m*ta.cells)).length<=cs.size:=by
  rw[p3,cO,<-hn]
  rcases mc with⟨g1,g2⟩|g
  ·have:m=0:=by omega
   subst this
   omega
  ·rw[g,Nat.add_zero,<-Nat.add_mul]
   exact Nat.mul_le_mul_right _ (by omega)
 let new:=(cs.toList.take off++cy.take (m*ta.cells)++cs.toList.drop (off+(cy.take (m*ta.cells)).length)).toArray
 have bm:=run_storeCells_at P r0 off T' (cy.take (m*ta.cells)) 0 cs X.w ap bn rz.one
 simp only[Nat.add_zero] at bm bn
 have aA:(execOp a.eval o).run P X.w= .ok (.value (.int .i64 m)) (X.row r0 new).w:=by
  have pE:Nat.min ys.length (n-lo)=m:=kF
  simp only[execOp,ho,resolve,invoke,builtin,Sem.run_bind,Sem.run_pure,Result.andThen_ok,List.map_toArray,List.map_cons,List.map_nil,Builtin.copy_,fX,hd]
  have e1:(Builtin.lenOf (a.eval x)).run P X.w= .ok ys.length X.w:=by rw[ev];simp [Builtin.lenOf]
  simp [run_underlying hu.1,e1,pE,dm,bm,goInt,zh hE hu.2]
  show _=X.w.setRow r0 new
  congr 1
  simp [new]
 have fk:new.toList=cs.toList.take off++cy.take (m*ta.cells)++cs.toList.drop (off+(cy.take (m*ta.cells)).length):=rfl
 have au:az X (.aK xs.length ta) (cI xs (ys.take m) lo:List (El ta)) new.toList:=by
  rw[fk,p3]
  by_cases m0:m=0
  ·subst m0
   have e1:cI xs (ys.take 0) lo=xs:=by unfold cI;simp
   rw[e1]
   simpa using cu
  ·have g:off=lo*ta.cells:=by rcases mc with⟨g1,_⟩|g<;>omega
   have h1:=uU cu (show lo<=xs.length by omega)
   have h3:=uT cu (show lo+m<=xs.length by omega)
   have:=kR h1 (kR rz h3)
   rw[show lo+(m+(xs.length-(lo+m)))=xs.length by omega] at this
   unfold cI
   rw[show(ys.take m).length=m by rw[List.length_take];omega,g,<-Nat.add_mul,List.append_assoc]
   exact this
 have bz:new.size=cs.size:=by
  have h1:new.toList.length=xs.length*ta.cells:=au.2.1
  rw[cO,<-h1];simp
 have aU:aG (X.row r0 new) id r0 ⟨.aF .row ta tb,(cI xs (ys.take (n-lo)) lo:List (El ta)),[]⟩:=by
  rw[wP]
  refine⟨how,new,T',setRow_heap X.w r0 cs new T' (0,0) ap,?_,fun j z hj=> ?_⟩
  ·rw[bz,cO]
   show _=List.length (cI xs (ys.take m) lo)*_
   rw[vf _ _ _ (by rw[List.length_take];omega)]
  ·exact az.af (fun _ _=>iu (cs:=new) how) (au.2.2 j z hj)
 refine⟨X.row r0 new,.int .i64 m,.inl aA,oo how,?_⟩
 rw[hm]
 exact(hr.row hb hβ how aU).fin zg (fun id t p hm=>by simp [i64] at hm)
theorem yS{X:ag}(l:List UInt8):az X (.aK l.length (.int .u8)) (l.map fun c=>(c.toNat:Int):List Int) (l.map fun c=>Value.int .u8 c.toNat):=by
 refine⟨by show(l.map _).length=_;simp,by simp [Ty.cells],fun j y hj=> ?_⟩
 have hj:(l.map fun c=>(c.toNat:Int))[j]? =some y:=hj
 rw[List.getElem?_map] at hj
 obtain⟨c,hc,rfl⟩:=Option.map_eq_some_iff.1 hj
 have:((l.map fun c=>Value.int .u8 c.toNat).drop (j*(Ty.int IntKind.u8).cells)).take (Ty.int IntKind.u8).cells=[Value.int .u8 c.toNat]:=by
  rw[show(Ty.int IntKind.u8).cells=1 from rfl,Nat.mul_one]
  apply List.ext_getElem?
  intro i
  rw[List.getElem?_take]
  cases i with
  |zero=>simp [hc]
  |succ i=>simp
 rw[this]
 rfl
theorem yg(hE:ae P E)(hr:Rel X s a){d x:Operand}{T e:TypeId}{t:Ty}{ts:Array TypeId}(ho:o.op= .call ⟨.builtin .copy,#[d,x],ts⟩)(fX:ts[0]? =some T)(hT:E.ty T=some (.sl e t)){id n:Nat}{ta tb:Ty}
 (bK:s.ak d= .ptr id (.aF (.dD n) ta tb) []) {y:ByteArray} {w:List (List Nat)} (mr:s.ak x= .aj .str y w) (h:dj t s id n ta tb y some=some u):al P X s a o u:=by
 have hx:=hr.ak d
 rw[bK] at hx
 obtain⟨r0,hβ,cap,hd,eL⟩:=hx
 unfold dj at h
 split at h
 case isFalse=>cases h
 rename_i pr
 have:=Ty.av pr
 subst this
 split at h
 case isFalse=>cases h
 rename_i heq
 have:=Ty.av heq
 subst this
 split at h
 case h_2=>cases h
 rename_i B hB
 split at h
 case isFalse=>cases h
 rename_i cj
 obtain⟨hb,r,h1,how,cs,T',ap,cO,b6⟩:=ku hr hB cj
 rw[hβ] at h1
 cases h1
 generalize(Ty.cast cj B.x:List Int)=xs at*
 cases hn:Nat.beq n (List.length xs)<;>rw[hn] at h
 ·cases h
 cases h
 have hn:=Nat.eq_of_beq_eq_true hn
 have hy:=hr.ak x
 rw[mr] at hy
 obtain⟨cy,ry,ev,_⟩:=hy
 have ev:a.eval x= .string y:=by rw[ev,zv ry]
 have hu:=(hE.ty T _ hT).bu
 have hZ:(Ty.int IntKind.u8).cells=1:=rfl
 rw[hZ,Nat.mul_one] at cO
 let l:=y.data.toList.take n
 have nC:l.length=min n y.size:=by simp [l]
 have nv:List.take n (lh y)=l.map fun c=>(c.toNat:Int):=by simp [lh,l]
 have dm:(Builtin.firstCells 1 (Nat.min y.size n) (.string y)).run P X.w= .ok (l.map fun c=>Value.int .u8 c.toNat).toArray X.w:=by
  have e1:((y.extract 0 (Nat.min y.size n)).data.map fun b=>Value.int .u8 b.toNat)=(l.map fun c=>Value.int .u8 c.toNat).toArray:=by
   apply Array.ext'
   have e0:(y.extract 0 (Nat.min y.size n)).data.toList=l:=by
    rw[ByteArray.data_extract,Array.toList_extract,List.extract_eq_take_drop]
    show List.take (Nat.min y.size n-0) (y.data.toList.drop 0)=y.data.toList.take n
    rw[Nat.sub_zero,List.drop_zero]
    show List.take (min y.data.toList.length n) y.data.toList=y.data.toList.take n
    rw[Nat.min_comm,<-List.take_eq_take_min]
   rw[Array.toList_map,e0]
  simp only[Builtin.firstCells,Sem.run_pure,e1]
 have bn:0+(l.map fun c=>Value.int .u8 c.toNat).length<=cs.size:=by
  rw[List.length_map,cO,<-hn,nC];omega
 let new:=((l.map fun c=>Value.int .u8 c.toNat)++cs.toList.drop l.length).toArray
 have rz:=yS (X:=X) l
 have bm:=run_storeCells_at P r0 0 T' (l.map fun c=>Value.int .u8 c.toNat) 0 cs X.w ap (by simpa using bn) rz.one
 have aA:(execOp a.eval o).run P X.w= .ok (.value (.int .i64 (l.length:Nat))) (X.row r0 new).w:=by
  have e1:(Builtin.lenOf (a.eval x)).run P X.w= .ok y.size X.w:=by rw[ev];simp [Builtin.lenOf]
  have e2:Nat.min y.size n=l.length:=by rw[nC];exact Nat.min_comm _ _
  have e3:=dm
  rw[e2] at e3
  simp only[execOp,ho,resolve,invoke,builtin,Sem.run_bind,Sem.run_pure,Result.andThen_ok,List.map_toArray,List.map_cons,List.map_nil,Builtin.copy_,fX,hd]
  rw[ev] at e1⊢
  simp [run_underlying hu.1,e1,e2,e3,bm,goInt,zh hE hu.2,hZ]
  rfl
 have cu:az X (.aK xs.length (.int .u8)) xs cs.toList:=⟨rfl,by simpa [hZ] using cO,b6⟩
 have au:az X (.aK xs.length (.int .u8)) (cI xs (l.map fun c=>(c.toNat:Int)) 0:List Int) new.toList:=by
  have hle:l.length<=xs.length:=by rw[nC];omega
  have h3:=uT cu hle
  have:=kR rz h3
  rw[show l.length+(xs.length-l.length)=xs.length by omega] at this
  unfold cI
  simp only[List.take_zero,List.nil_append,Nat.zero_add,List.length_map]
  rw[hZ,Nat.mul_one] at this
  exact this
 have bz:new.size=cs.size:=by
  have h1:new.toList.length=xs.length*1:=au.2.1
  rw[cO];simpa using h1
 have aU:aG (X.row r0 new) id r0 ⟨.aF .row (.int .u8) tb,(cI xs (List.take n (lh y)) 0:List Int),[]⟩:=by
  rw[nv]
  refine⟨how,new,T',setRow_heap X.w r0 cs new T' (0,0) ap,?_,fun j z hj=> ?_⟩
  ·rw[bz,cO]
   show _=List.length (cI xs (l.map fun c=>(c.toNat:Int)) 0)*_
   rw[vf _ _ _ (by rw[List.length_map,nC];omega)]
   simp [hZ]
  ·exact az.af (fun _ _=>iu (cs:=new) how) (au.2.2 j z hj)
 refine⟨X.row r0 new,.int .i64 (l.length:Nat),.inl aA,oo how,?_⟩
 have l6:(List.take n (lh y)).length=l.length:=by rw[nv,List.length_map]
 rw[l6]
 exact(hr.row hb hβ how aU).fin zg (fun id t p hm=>by simp [i64] at hm)
theorem y7(hE:ae P E)(hr:Rel X s a){ops:List Oper}{bR:Array Operand}{ts:Array TypeId}(ho:o.op= .call ⟨.builtin .copy,bR,ts⟩){C:FuncId->aJ Out}(h:act E C ops o s some=some u):al P X s a o u:=by
 unfold act at h
 simp only[ho] at h
 split at h
 case h_2=>cases h
 rename_i d x T r gT jW
 have has:bR= #[d,x]:=by rw[<-Array.toArray_toList (xs:=bR),gT]
 have fX:ts[0]? =some T:=by rw[<-Array.getElem?_toList,jW];rfl
 subst has
 unfold copyV at h
 split at h
 ·rename_i e t id n ta tb hT bK
  split at h
  ·rename_i y w mr
   exact yg hE hr ho fX hT bK mr h
  ·exact tY hE hr ho fX hT bK (fun r hv=>by
    obtain⟨cap,h1,h2⟩:=hv
    exact⟨cap,0,h1,Nat.zero_le _,.inr (by simp)⟩) h
 ·rename_i e t id n ta tb l hT bK
  exact tY hE hr ho fX hT bK (fun r hv=>by
   obtain⟨cap,off,h1,h2,h3,h4⟩:=hv
   exact⟨cap,off,h1,h3,h4⟩) h
 ·cases h
end Go.Ref

