/- No condition. -/
import Derived.Orders
import Derived.Below
import Derived.Maps.AppendAt
import Derived.WalkKit
import Derived.Lib.AppendStr
import Derived.Shelf.Strings.BuilderF
import Derived.WideKeyRuns
import Derived.MapKept
import Derived.Laws.CopyRow
set_option linter.unusedVariables false
set_option linter.unusedSimpArgs false
set_option maxRecDepth 100000
namespace Go.Ref
open Go
structure kD(T e:TypeId)(b:Nat)(v:Value)(bs:List Value)(w:World):Prop where
 fR:w.heap[b]? =some (.cells #[.pointer none,v] T (0,0))\/w.heap[b]? =some (.cells #[.pointer (some ⟨b,0,none⟩),v] T (0,0))
 own:w.ownsRow 0 e 1 v bs.length bs
 ne:v.ownBlock≠some b
theorem kD.lt{T e:TypeId}{b:Nat}{v:Value}{bs:List Value}{w:World}(h:kD T e b v bs w):b<w.heap.size:=by
 rcases Nat.lt_or_ge b w.heap.size with h'|h'
 ·exact h'
 ·rcases h.fR with h|h<;>simp [Array.getElem?_eq_none h'] at h
theorem kD.same{T e:TypeId}{b:Nat}{v:Value}{bs:List Value}{w w':World}(h:kD T e b v bs w)(hb:w'.heap[b]? =w.heap[b]?)(hg:∀g o,v.ownBlock=some g->w.heap[g]? =some o->w'.heap[g]? =some o):kD T e b v bs w':=by
 refine⟨by rw[hb];exact h.fR,⟨h.own.1,?_⟩,h.ne⟩
 rcases h.own.2 with hn|⟨g,cap,cur,hv,h0,kd,rest⟩
 ·exact .inl hn
 ·exact .inr ⟨g,cap,cur,hv,h0,hg g _ (by rw[hv];rfl) kd,rest⟩
inductive oK where
 |iter
 |mp
 |row
 |dI (n:Nat)
 |gp (T e:Nat)
 |own
 |kH (f:Nat)
 deriving DecidableEq,Inhabited
@[reducible] def ix:oK->Type->Type->Type
  | .iter,_,_=>ByteArray×Nat
  | .mp,a,b=>List (a×b)
  | .row,a,_=>List a
  | .dI _,_,_=>Unit
  | .gp _ _,_,_=>ByteArray
  | .own,a,_=>Option a
  | .kH _,_,_=>Unit
def ix.aN:(k:oK)->(a b:Type)->ix k a b
 | .iter,_,_=>((⟨#[]⟩:ByteArray),(0:Nat))
 | .mp,_,_=>[]
 | .row,_,_=>[]
 | .dI _,_,_=>()
 | .gp _ _,_,_=>(⟨#[]⟩:ByteArray)
 | .own,_,_=>none
 | .kH _,_,_=>()
inductive Ty where
 |bool
 |int (k:IntKind)
 |str
 |sl (e:TypeId) (t:Ty)
 |aL (n:Nat) (t:Ty)
 |unit
 |pair (a b:Ty)
 |aG (k:oK) (a b:Ty)
 deriving Inhabited
@[reducible] def El:Ty->Type
  | .bool=>Bool
  | .int _=>Int
  | .str=>ByteArray
  | .sl _ t=>List (El t)
  | .aL _ t=>List (El t)
  | .unit=>Unit
  | .pair a b=>El a×El b
  | .aG k a b=>ix k (El a) (El b)
def El.aN:(t:Ty)->El t
 | .bool=>false
 | .int _=>(0:Int)
 | .str=>(⟨#[]⟩:ByteArray)
 | .sl _ _=>[]
 | .aL n t=>List.replicate n (El.aN t)
 | .unit=>()
 | .pair a b=>(El.aN a,El.aN b)
 | .aG k a b=>ix.aN k (El a) (El b)
def Ty.aX:Ty->Ty->Bool
 | .bool,.bool=>true
 | .str,.str=>true
 | .unit,.unit=>true
 | .int j,.int k=>decide (j=k)
 | .sl e t,.sl f u=>Nat.beq e f&&Ty.aX t u
 | .aL n t,.aL m u=>Nat.beq n m&&Ty.aX t u
 | .pair a b,.pair c d=>Ty.aX a c&&Ty.aX b d
 | .aG k a b,.aG j c d=>decide (k=j)&&(Ty.aX a c&&Ty.aX b d)
 |_,_=>false
theorem Ty.ax:∀{t u:Ty},t.aX u=true->t=u:=by
 intro t
 induction t with
 |bool=>intro u h;cases u<;>simp_all [Ty.aX]
 |int k=>intro u h;cases u<;>simp_all [Ty.aX]
 |str=>intro u h;cases u<;>simp_all [Ty.aX]
 |unit=>intro u h;cases u<;>simp_all [Ty.aX]
 |sl e t ih=>
  intro u h
  cases u<;>simp [Ty.aX] at h
  obtain⟨h1,h2⟩:=h
  rw[ih h2,h1]
 |aL e t ih=>
  intro u h
  cases u<;>simp [Ty.aX] at h
  obtain⟨h1,h2⟩:=h
  rw[ih h2,h1]
 |pair a b ew ey=>
  intro u h
  cases u<;>simp [Ty.aX] at h
  rw[ew h.1,ey h.2]
 |aG k a b ew ey=>
  intro u h
  cases u<;>simp [Ty.aX] at h
  rw[h.1,ew h.2.1,ey h.2.2]
theorem Ty.aO:∀t:Ty,t.aX t=true
 | .bool=>rfl
 | .str=>rfl
 | .unit=>rfl
 | .int k=>by simp [Ty.aX]
 | .sl e t=>by simp [Ty.aX,Ty.aO t]
 | .aL e t=>by simp [Ty.aX,Ty.aO t]
 | .pair a b=>by simp [Ty.aX,Ty.aO a,Ty.aO b]
 | .aG k a b=>by simp [Ty.aX,Ty.aO a,Ty.aO b]
def Ty.cast{t u:Ty}(h:t.aX u=true)(x:El t):El u:=Ty.ax h▸x
def Ty.cells:Ty->Nat
 | .aL n t=>n*t.cells
 | .unit=>0
 | .pair a b=>a.cells+b.cells
 | .aG _ _ _=>0
 |_=>1
def Ty.agg:Ty->Bool
 | .aL .. | .unit| .pair .. | .aG .. =>true
 |_=>false
def Ty.at_:Ty->List Nat->Option Ty
 |t,[]=>some t
 | .aL _ t,_::p=>t.at_ p
 | .pair a _,0::p=>a.at_ p
 | .pair _ b,(j+1)::p=>b.at_ (j::p)
 |_,_=>none
def Ty.off:Ty->List Nat->Nat
 |_,[]=>0
 | .aL _ t,i::p=>i*t.cells+t.off p
 | .pair a _,0::p=>a.off p
 | .pair a b,(j+1)::p=>a.cells+b.off (j::p)
 |_,_=>0
def El.get:(t:Ty)->List Nat->El t->Option ((u:Ty)×El u)
 |t,[],x=>some ⟨t,x⟩
 | .aL _ t,i::p,xs=>El.get t p (xs.getD i (El.aN t))
 | .pair a _,0::p,x=>El.get a p x.1
 | .pair _ b,(j+1)::p,x=>El.get b (j::p) x.2
 |_,_::_,_=>none
def El.set:(t:Ty)->List Nat->El t->(u:Ty)->El u->Option (El t)
 |t,[],_,u,y=>if h:u.aX t=true then some (Ty.cast h y) else none
 | .aL _ t,i::p,xs,u,y=>(El.set t p (xs.getD i (El.aN t)) u y).map fun z=>List.set xs i z
 | .pair a _,0::p,x,u,y=>(El.set a p x.1 u y).map fun z=>(z,x.2)
 | .pair _ b,(j+1)::p,x,u,y=>(El.set b (j::p) x.2 u y).map fun z=>(x.1,z)
 |_,_::_,_,_,_=>none
def Ty.b6:Ty->List Nat->Prop
 |_,[]=>True
 | .aL n t,i::p=>i<n/\t.b6 p
 | .pair a _,0::p=>a.b6 p
 | .pair _ b,(j+1)::p=>b.b6 (j::p)
 |_,_=>False
inductive Place where
 |c (i j:Nat) (p:List Nat)
 |b (id:Nat) (p:List Nat)
 |r (j:Nat) (p:List Nat)
inductive Ow where
 |all
 |ro (n:Nat)
 |box (id:Nat)
 |row (pl:Place) (n:Nat)
def Ow.used:Ow->Nat->Prop
 | .all,_=>True
 | .ro n,o=>o<n
 | .box _,_=>False
 | .row _ n,o=>o<n
def Ow.still:Ow->Prop
 | .all| .ro _=>True
 |_=>False
structure ah where
 w:World
 ow:Nat->Ow
 β:Nat->Option Nat
def ah.aj(X:ah)(a:Addr)(v:Value):Prop:=a.spot=none/\X.w.cell? a=some v/\(X.ow a.block).used a.off
structure Ext(X Y:ah):Prop where
 aj:∀a v,X.aj a v->Y.aj a v
 size:X.w.heap.size<=Y.w.heap.size
 os:Y.w.os=X.w.os
 tape:Y.w.tape=X.w.tape
 output:Y.w.output=X.w.output
 β0:Y.β 0=X.β 0
 still:∀g,g<X.w.heap.size->(X.ow g).still->Y.ow g=X.ow g/\Y.w.heap[g]? =X.w.heap[g]?
theorem Ext.refl(X:ah):Ext X X:=⟨fun _ _ h=>h,Nat.le_refl _,rfl,rfl,rfl,rfl,fun _ _ _=>⟨rfl,rfl⟩⟩
theorem Ext.trans{X Y Z:ah}(h:Ext X Y)(k:Ext Y Z):Ext X Z:=
 ⟨fun a v hs=>k.aj a v (h.aj a v hs),Nat.le_trans h.size k.size,k.os.trans h.os,k.tape.trans h.tape,k.output.trans h.output,k.β0.trans h.β0,
  fun g hg bp=>by
   obtain⟨h1,h2⟩:=h.still g hg bp
   obtain⟨k1,k2⟩:=k.still g (Nat.lt_of_lt_of_le hg h.size) (by rw[h1];exact bp)
   exact⟨k1.trans h1,k2.trans h2⟩⟩
theorem ah.eA{X:ah}{a:Addr}{v:Value}(h:X.aj a v):a.block<X.w.heap.size:=World.block_lt_of_cell? X.w a h.2.1
def aA(X:ah):(t:Ty)->El t->List Value->Prop
 | .bool,b,cs=>cs=[.bool b]
 | .int k,n,cs=>cs=[.int k n]
 | .str,s,cs=>cs=[.string s]
 | .sl _ t,xs,cs=>∃A c,cs=[.slice A xs.length c]/\xs.length<=c/\
    ∀j x,xs[j]? =some x->∃ad bT,A=some ad/\ad.spot=none/\aA X t x bT/\∀i v,bT[i]? =some v->X.aj (ad.add (j*t.cells+i)) v
 | .aL n t,xs,cs=>xs.length=n/\cs.length=n*t.cells/\∀j x,xs[j]? =some x->aA X t x ((cs.drop (j*t.cells)).take t.cells)
 | .unit,_,cs=>cs=[]
 | .pair a b,x,cs=>∃c1 c2,cs=c1++c2/\aA X a x.1 c1/\aA X b x.2 c2
 | .aG _ _ _,_,cs=>cs=[]
theorem aA.af{X Y:ah}(h:∀a v,X.aj a v->Y.aj a v):∀{t:Ty} {x:El t} {cs:List Value},aA X t x cs->aA Y t x cs
 | .bool,_,_,hr=>hr
 | .int _,_,_,hr=>hr
 | .str,_,_,hr=>hr
 | .unit,_,_,hr=>hr
 | .sl _ t,xs,cs,⟨A,c,h1,h2,h3⟩=>⟨A,c,h1,h2,fun j x hj=>by
    obtain⟨ad,bT,h4,h5,h6,h7⟩:=h3 j x hj
    exact⟨ad,bT,h4,h5,aA.af h h6,fun i v hi=>h _ _ (h7 i v hi)⟩⟩
 | .aL n t,xs,cs,⟨h1,h2,h3⟩=>⟨h1,h2,fun j x hj=>aA.af h (h3 j x hj)⟩
 | .pair a b,x,cs,⟨c1,c2,h1,h2,h3⟩=>⟨c1,c2,h1,aA.af h h2,aA.af h h3⟩
 | .aG _ _ _,_,_,hr=>hr
theorem aA.mono{X Y:ah}(h:Ext X Y){t:Ty}{x:El t}{cs:List Value}(hr:aA X t x cs):aA Y t x cs:=aA.af h.aj hr
theorem aA.len{X:ah}:∀{t:Ty} {x:El t} {cs:List Value},aA X t x cs->cs.length=t.cells
 | .bool,_,_,hr=>by cases hr;rfl
 | .int _,_,_,hr=>by cases hr;rfl
 | .str,_,_,hr=>by cases hr;rfl
 | .unit,_,_,hr=>by cases hr;rfl
 | .sl _ t,xs,cs,⟨A,c,h1,_⟩=>by cases h1;rfl
 | .aL n t,xs,cs,⟨h1,h2,h3⟩=>h2
 | .pair a b,x,cs,⟨c1,c2,h1,h2,h3⟩=>by rw[h1,List.length_append,h2.len,h3.len];rfl
 | .aG _ _ _,_,_,hr=>by cases hr;rfl
theorem z93{cs:List Value}{n k:Nat}{u:Value}(hu:u∈cs)(hk:cs.length=n*k):∃j,j<n/\u∈(cs.drop (j*k)).take k:=by
 obtain⟨q,hq,rfl⟩:=List.mem_iff_getElem.1 hu
 have lX:0<k:=by
  rcases Nat.eq_zero_or_pos k with h|h
  ·subst h;simp at hk;subst hk;simp at hq
  ·exact h
 refine⟨q/k,by rw[Nat.div_lt_iff_lt_mul lX,<-hk];exact hq,?_⟩
 rw[List.mem_iff_getElem?]
 refine⟨q % k,?_⟩
 rw[List.getElem?_take,if_pos (Nat.mod_lt _ lX),List.getElem?_drop,Nat.mul_comm,Nat.div_add_mod,List.getElem?_eq_getElem hq]
theorem aA.one{X:ah}:∀{t:Ty} {x:El t} {cs:List Value},aA X t x cs->∀u∈cs,u.oneCell'=true
 | .bool,_,_,hr,u,hu=>by cases hr;simp at hu;subst hu;rfl
 | .int _,_,_,hr,u,hu=>by cases hr;simp at hu;subst hu;rfl
 | .str,_,_,hr,u,hu=>by cases hr;simp at hu;subst hu;rfl
 | .unit,_,_,hr,u,hu=>by cases hr;simp at hu
 | .sl _ t,xs,cs,⟨A,c,h1,_⟩,u,hu=>by cases h1;simp at hu;subst hu;rfl
 | .aL n t,xs,cs,⟨h1,h2,h3⟩,u,hu=>by
   obtain⟨j,hj,hm⟩:=z93 hu h2
   exact aA.one (h3 j _ (List.getElem?_eq_getElem (by omega))) u hm
 | .pair a b,x,cs,⟨c1,c2,h1,h2,h3⟩,u,hu=>by
   rw[h1] at hu
   rcases List.mem_append.1 hu with hu|hu
   ·exact h2.one u hu
   ·exact h3.one u hu
 | .aG _ _ _,_,_,hr,u,hu=>by cases hr;simp at hu
end Go.Ref

namespace Go.Ref
open Go Go.Shelf Go.RowKit Go.Proofs
variable {P:Program} {ρ:Ren}
structure gd(b:Nat)(g:Option Nat)(w w':World):Prop where
 os:w'.os=w.os
 tape:w'.tape=w.tape
 output:w'.output=w.output
 size:w.heap.size<=w'.heap.size
 block:∀k,k<w.heap.size->k≠b->some k≠g->w'.heap[k]? =w.heap[k]?
theorem gd.of{b:Nat}{g:Option Nat}{w w':World}(h:w.grownBy w' g):gd b g w w':=⟨h.os,h.tape,h.output,h.size,fun k hk _ hg=>h.block k hk hg⟩
theorem gd.trans{b:Nat}{g:Option Nat}{u v w:World}(h:gd b g u v)(k:gd b g v w):gd b g u w:=
 ⟨k.os.trans h.os,k.tape.trans h.tape,k.output.trans h.output,Nat.le_trans h.size k.size,fun i hi h1 h2=>(k.block i (Nat.lt_of_lt_of_le hi h.size) h1 h2).trans (h.block i hi h1 h2)⟩
theorem gd.refl{b:Nat}{g:Option Nat}(w:World):gd b g w w:=⟨rfl,rfl,rfl,Nat.le_refl _,fun _ _ _ _=>rfl⟩
set_option maxHeartbeats 2000000 in
set_option maxRecDepth 100000 in
theorem gd.drew{b:Nat}{g:Option Nat}(w:World):gd b g w w.drew:=⟨rfl,rfl,rfl,Nat.le_refl _,fun _ _ _ _=>rfl⟩
theorem gd.alloc{b:Nat}{g:Option Nat}(w:World)(o:Obj):gd b g w (w.alloc o):=⟨rfl,rfl,rfl,by simp,fun k hk _ _=>Below.heap_alloc _ _ _ hk⟩
end Go.Ref

namespace Go.Ref
open Go
inductive SV where
 |undef
 |skip
 |bc
 |cK
 |al (t:Ty) (x:El t) (own:List (List Nat))
 |ptr (id:Nat) (t:Ty) (p:List Nat)
 |view (t:Ty) (x:El t)
 |cap (f:Nat) (t:Ty) (x:El t) (u:Ty) (y:El u)
 |over
def Ty.fG:Ty->Bool
 | .aG (.gp _ _) _ _=>false
 | .aG _ _ _=>true
 |_=>false
def Ty.aJ:Ty->Bool
 | .aG _ _ _=>true
 |_=>false
structure aI where
 t:Ty
 x:El t
 own:List (List Nat)
structure State where
 sl:List (List SV)
 bs:List (Option aI)
structure Env where
 ty:TypeId->Option Ty
 bytes:TypeId->Nat
 pt:TypeId->Bool
 bQ:Nat->List Nat
 dU:Nat->List Nat
 outs:List Nat
 ps:List Ty
 mp:TypeId->Option (TypeId×TypeId):=fun _=>none
 join:Nat->Option (List Nat):=fun _=>none
 fz:Nat->Option (Nat×TypeId):=fun _=>none
 dr:Nat->List Nat:=fun _=>[]
 sh:List Nat:=[]
 ro:Bool:=false
 mv:List Nat:=[]
 fr:Nat->List Nat:=fun _=>[]
 bl:TypeId->Option TypeId:=fun _=>none
 sp:Option (Nat×Nat×Nat×Nat):=none
def Ty.cB:Ty->Bool
 | .unit=>true
 | .pair (.int _) b=>b.cB
 |_=>false
def Ty.isKey:Ty->Bool
 | .bool| .int _| .str=>true
 | .pair a b=>(Ty.pair a b).cB
 |_=>false
def gv:(t:Ty)->El t->El t->Bool
 | .pair (.int _) b,x,y=>decide (x.1=y.1)&&gv b x.2 y.2
 |_,_,_=>true
def dR:(t:Ty)->El t->El t->Bool
 | .bool,x,y=>decide (x=y)
 | .int _,x,y=>decide (x=y)
 | .str,x,y=>decide (x=y)
 | .pair a b,x,y=>gv (.pair a b) x y
 |_,_,_=>false
def cJ{K V:Type}(eq:K->K->Bool)(d:V):List (K×V)->K->V
 | [],_=>d
 |q::r,k=>bif eq k q.1 then q.2 else cJ eq d r k
def dh{K V:Type}(eq:K->K->Bool):List (K×V)->K->Bool
 | [],_=>false
 |q::r,k=>bif eq k q.1 then true else dh eq r k
section
variable {R:Type}
abbrev aK(R:Type):=List SV->Option aI->(List SV->Option aI->Option R)->Option R
def SV.el(s:SV)(u:Ty)(K:El u->Option R):Option R:=
 match s with
 | .al t x _=>if h:t.aX u=true then K (Ty.cast h x) else none
 | .bc=>match u with
   | .sl _ _=>K []
   |_=>none
 |_=>none
def jM:Value->SV
 | .bool b=> .al .bool b []
 | .int k n=> .al (.int k) n []
 | .string s=> .al .str s []
 | .slice none 0 0=> .bc
 | .pointer none=> .cK
 |_=> .undef
def State.slot(s:State)(t:Nat):List SV:=s.sl.getD t [.undef]
def State.iT(s:State):Operand->List SV
 | .tmp t=>s.slot t
 | .const v=>[jM v]
 |_=>[.undef]
def one:List SV->SV
 | [x]=>x
 |_=> .undef
def State.ak(s:State)(x:Operand):SV:=one (s.iT x)
def State.box(s:State)(id:Nat):Option aI:=(s.bs.getD id none)
def SV.shut:SV->SV
 | .al t x _=> .al t x []
 |v=>v
def SV.own:SV->List (List Nat)
 | .al _ _ o=>o
 | .bc=>[[]]
 |_=>[]
def aP:List SV->Nat->List SV
 | [],_=>[]
 |v::r,0=>v.shut::r
 |v::r,j+1=>v::aP r j
structure Out where
 v:List SV
 bx:Option (Nat×aI):=none
 cl:List (Nat×Nat):=[]
def State.close(s:State):List (Nat×Nat)->State
 | []=>s
 |(i,j)::r=>State.close {s with sl:=s.sl.set i (aP (s.slot i) j)} r
def State.ap(s:State):Option (Nat×aI)->State
 |some (id,B)=>{s with bs:=s.bs.set id (some B)}
 |none=>s
def State.au(s:State):Option Nat->List SV->State
 |some d,v=>{s with sl:=s.sl.set d v}
 |none,_=>s
def State.apply(s:State)(dst:Option Nat)(o:Out):State:=((s.close o.cl).ap o.bx).au dst o.v
def hG:Operand->Option Nat
 | .tmp t=>some t
 |_=>none
def src:Operand->List (Nat×Nat)
 | .tmp t=>[(t,0)]
 |_=>[]
def ae(op:BinOp)(k:IntKind)(a b:Int):Int:=
 match op with
 | .and=>k.wrap ((BitVec.ofInt k.bits a&&&BitVec.ofInt k.bits b).toNat:Nat)
 | .or=>k.wrap ((BitVec.ofInt k.bits a|||BitVec.ofInt k.bits b).toNat:Nat)
 | .xor=>k.wrap ((BitVec.ofInt k.bits a^^^BitVec.ofInt k.bits b).toNat:Nat)
 |_=>k.wrap ((BitVec.ofInt k.bits a&&& ~~~ BitVec.ofInt k.bits b).toNat:Nat)
def bC:(t:Ty)->El t->El t->Option Bool
 | .bool,x,y=>some (x==y)
 | .int _,x,y=>some (decide (x=y))
 | .str,x,y=>some (decide (x=y))
 | .unit,_,_=>some true
 | .aL _ (.int _),x,y=>some (decide ((x:List Int)=y))
 | .pair a b,x,y=>match bC a x.1 y.1,bC b x.2 y.2 with
   |some p,some q=>some (p&&q)
   |_,_=>none
 |_,_,_=>none
def i64(n:Int):List SV:=[.al (.int .i64) n []]
def bl(b:Bool):List SV:=[.al .bool b []]
def fP(op:BinOp)(k:IntKind)(a:Int)(k':IntKind)(b:Int)(K:List SV->Option R):Option R:=
 match op with
 | .shl=>bif decide (b<0) then none else K [.al (.int k) (k.wrap (a*2^min b.toNat k.bits)) []]
 | .shr=>bif decide (b<0) then none else K [.al (.int k) (a.fdiv (2^min b.toNat k.bits)) []]
 |_=>if k=k' then
  match op with
  | .add=>K [.al (.int k) (k.wrap (a+b)) []]
  | .sub=>K [.al (.int k) (k.wrap (a-b)) []]
  | .mul=>K [.al (.int k) (k.wrap (a*b)) []]
  | .quo=>bif decide (b=0) then none else K [.al (.int k) (k.wrap (a.tdiv b)) []]
  | .rem=>bif decide (b=0) then none else K [.al (.int k) (a.tmod b) []]
  | .and| .or| .xor| .andNot=>K [.al (.int k) (ae op k a b) []]
  | .eql=>K (bl (decide (a=b)))
  | .neq=>K (bl (!decide (a=b)))
  | .lss=>K (bl (decide (a<b)))
  | .leq=>K (bl (decide (a<=b)))
  | .gtr=>K (bl (decide (b<a)))
  | .geq=>K (bl (decide (b<=a)))
  |_=>none
  else none
def fQ(op:BinOp)(a b:ByteArray)(K:List SV->Option R):Option R:=
 match op with
 | .add=>bif decide (a.size+b.size<=9223372036854775807) then K [.al .str (a++b) []] else none
 | .eql=>K (bl (decide (a=b)))
 | .neq=>K (bl (!decide (a=b)))
 | .lss=>K (bl (Op.bytesLess a.toList b.toList))
 | .leq=>K (bl (Op.bytesLess a.toList b.toList||decide (a=b)))
 | .gtr=>K (bl (!(Op.bytesLess a.toList b.toList||decide (a=b))))
 | .geq=>K (bl (!(Op.bytesLess a.toList b.toList)))
 |_=>none
def Ty.depth:Ty->Nat
 | .aL _ t=>t.depth+1
 | .pair a b=>max (a.depth+1) b.depth
 |_=>1
def fO(E:Env)(op:BinOp)(T:TypeId)(x y:SV)(K:List SV->Option R):Option R:=
 match E.ty T with
 |some t=>if Nat.ble t.depth 1000=false then none else x.el t fun a=>y.el t fun b=>match bC t a b with
  |some r=>match op with
   | .eql=>K (bl r)
   | .neq=>K (bl (!r))
   |_=>none
  |none=>none
 |none=>none
def bin(E:Env)(op:BinOp)(T:TypeId)(x y:SV)(K:List SV->Option R):Option R:=
 match x,y with
 | .al (.int k) a _,.al (.int k') b _=>fP op k a k' b K
 | .al .str a _,.al .str b _=>fQ op a b K
 | .ptr _ t _,.cK=>if(t.aJ|| !E.pt T)=true then none else match op with
   | .eql=>K (bl false)
   | .neq=>K (bl true)
   |_=>none
 | .cK,.cK=>if E.pt T=false then none else match op with
   | .eql=>K (bl true)
   | .neq=>K (bl false)
   |_=>none
 |x,y=>fO E op T x y K
def hJ(s:ByteArray)(i:Nat):Int:=if h:i<s.size then((s[i]'h).toNat:Int) else 0
def strOf(xs:List Int):ByteArray:=⟨(xs.map fun x=>UInt8.ofNat x.toNat).toArray⟩
def zf(i:Int)(n:Nat)(K:Option R):Option R:=bif decide (0<=i) then bif decide (i<(n:Int)) then K else none else none
def jk(lo:Option SV)(h:Nat)(K:Nat->Option R):Option R:=
 match lo with
 |none=>K 0
 |some v=>v.el (.int .i64) fun l=>bif decide (0<=l) then bif decide (l<=(h:Int)) then K l.toNat else none else none
def cutAt(lo hi:Option SV)(n:Nat)(K:Nat->Nat->Option R):Option R:=
 match hi with
 |none=>jk lo n fun l=>K l n
 |some v=>v.el (.int .i64) fun h=>bif decide (0<=h) then bif decide (h<=(n:Int)) then jk lo h.toNat (fun l=>K l h.toNat) else none else none
def Ty.dK:Ty->Nat->Bool
 | .aL n _,i=>Nat.ble (i+1) n
 |_,_=>true
def ji(own:List (List Nat))(p:List Nat):List (List Nat):=own.filter fun q=> !(p.isPrefixOf q)
def eZ(own:List (List Nat))(p:List Nat):Bool:=own.any fun q=>q==p
def m9(own:List (List Nat))(p:List Nat):List (List Nat):=(own.filter fun q=>p.isPrefixOf q).map fun q=>q.drop p.length
def j4:List Nat->Option (List Nat)
 | []=>none
 |j::p=>some ((j+1)::p)
def jg:Ty->List (List Nat)
 | .sl _ _=>[[]]
 | .pair a b=>(jg a).map (fun p=>0::p)++(jg b).filterMap j4
 |_=>[]
def ga(t:Ty):El t->List (List Nat)->List (Nat×SV×List (List Nat))->(El t->List (List Nat)->Option R)->Option R
 |x,own,[],K=>K x own
 |x,own,(i,v,ov)::r,K=>if t.dK i=false then none else match t.at_ [i] with
  |some u=>v.el u fun y=>match El.set t [i] x u y with
   |some z=>ga t z (ov.map (fun p=>i::p)++ji own [i]) r K
   |none=>none
  |none=>none
def z20(o:List (List Nat))(x:Operand):List (Nat×Nat):=
 match o with
 | []=>[]
 |_::_=>src x
def zu:State->List (Nat×Operand)->List (Nat×SV×List (List Nat))×List (Nat×Nat)
 |_,[]=>([],[])
 |s,(i,x)::r=>((i,s.ak x,(s.ak x).own)::(zu (s.close (z20 (s.ak x).own x)) r).1,z20 (s.ak x).own x++(zu (s.close (z20 (s.ak x).own x)) r).2)
def jQ(t:Ty):List (El t)->List (Nat×SV)->(List (El t)->Option R)->Option R
 |xs,[],K=>K xs
 |xs,(i,v)::r,K=>if Nat.ble (i+1) xs.length=false then none else v.el t fun y=>jQ t (xs.set i y) r K
def oz(ops:List Oper)(d:Option Nat):Bool:=
 match d with
 |some d=>ops.any fun o=>match o.op with
  | .call ⟨.builtin .append,args,_⟩=>match args.toList with
    | .tmp t::_=>Nat.beq t d
    |_=>false
  |_=>false
 |none=>false
def vC(ops:List Oper)(d:Option Nat):Bool:=
 match d with
 |some d=>ops.any fun o=>match o.op,o.dst with
  | .indexAddr _ (.tmp t) _,some a=>Nat.beq t d&&ops.any fun q=>match q.op with
    | .store _ (.tmp b) _=>Nat.beq a b
    |_=>false
  |_,_=>false
 |none=>false
def jA(E:Env)(ops:List Oper)(d:Option Nat):Bool:=
 match d with
 |some d=>ops.any fun o=>match o.op with
  | .store _ (.tmp r) (.tmp t)=>Nat.beq t d&&E.outs.any (Nat.beq r)
  |_=>false
 |none=>false
def kx(u':Ty)(s:State)(id:Nat)(t:Ty)(p:List Nat)(K:Out->Option R):Option R:=
 match t,p with
 | .aG .row a b,[i]=>match s.box id with
   |some B=>if h:B.t.aX (.aG .row a b)=true then if u'.aX a=true then
     bif Nat.ble (i+1) (List.length (Ty.cast h B.x:List (El a))) then K {v:=[.al a (List.getD (Ty.cast h B.x:List (El a)) i (El.aN a)) []]} else none
    else none else none
   |none=>none
 |_,_=>none
def kv(u:Ty)(s:State)(id:Nat)(t:Ty)(p:List Nat)(v:SV)(K:Out->Option R):Option R:=
 match t,p with
 | .aG .row a b,[i]=>match s.box id with
   |some B=>if h:B.t.aX (.aG .row a b)=true then if a.aX u=true then
     v.el a fun y=>bif Nat.ble (i+1) (List.length (Ty.cast h B.x:List (El a))) then K {v:=[.skip],bx:=some (id,⟨.aG .row a b,(List.set (Ty.cast h B.x:List (El a)) i y:List (El a)),[]⟩)} else none
    else none else none
   |none=>none
 |_,_=>none
def mP(t:Ty)(n:Int)(id:Nat)(r:Ty)(p:List Nat)(K:Out->Option R):Option R:=
 match r,p with
 | .aG (.dI m) a b,[]=>if a.aX t=true then zf n m (K {v:=[.ptr id (.aG .row a b) [n.toNat]]}) else none
 |_,_=>none
def z37(u':Ty)(B:aI)(t:Ty)(p:List Nat)(K:Out->Option R):Option R:=
 match t,p with
 | .aL n e,[]=>if h:B.t.aX (.aG .row e .unit)=true then if u'.aX (.aL n e)=true then
    bif Nat.beq n (List.length (Ty.cast h B.x:List (El e))) then K {v:=[.al (.aL n e) (Ty.cast h B.x:List (El e)) []]} else none
   else none else none
 |_,_=>none
def load(E:Env)(T:TypeId)(s:State)(la:Bool)(a:SV)(K:Out->Option R):Option R:=
 match E.ty T with
 |some u'=>match a with
  | .view t x=>if u'.aX t=true then K {v:=[.al t x []]} else none
  | .ptr id t p=>if t.aJ=true then kx u' s id t p K else match s.box id with
    |some B=>if B.t.aX t=true then
      match El.get B.t p B.x with
      |some ⟨u,y⟩=>if u'.aX u=true then
        bif la then K {v:=[.al u y (m9 B.own p)],bx:=some (id,{B with own:=ji B.own p})} else K {v:=[.al u y []]}
       else none
      |none=>none
     else z37 u' B t p K
    |none=>none
  |_=>none
 |none=>none
def store(E:Env)(T:TypeId)(s:State)(a:SV)(vo:Operand)(K:Out->Option R):Option R:=
 match E.ty T with
 |some u=>match a with
  | .ptr id t p=>if t.aJ=true then kv u s id t p (s.ak vo) K else match s.box id with
    |some B=>if B.t.aX t=true then
      match t.at_ p with
      |some u'=>if u'.aX u=true then
        (s.ak vo).el u fun y=>match El.set B.t p B.x u y with
        |some z=>K {v:=[.skip],bx:=some (id,{t:=B.t,x:=z,own:=(s.ak vo).own.map (fun q=>p++q)++ji B.own p}),cl:=src vo}
        |none=>none
       else none
      |none=>none
     else none
    |none=>none
  |_=>none
 |none=>none
def Ty.bz:Ty->Bool
 | .pair .. =>true
 |_=>false
def m6(t?:Option Ty)(a:SV)(j:Nat)(K:Out->Option R):Option R:=
 match t?,a with
 |some u,.ptr id t p=>if t.aJ=true then none else match t.at_ p with
  |some u'=>if(u.aX u'&&u.bz)=true then match u.at_ [j] with
    |some f=>if Nat.beq f.cells 0=true then none else K {v:=[.ptr id t (p++ [j])]}
    |none=>none
   else none
  |none=>none
 |some u,.view t x=>if(u.aX t&&u.bz)=true then match El.get t [j] x with
   |some ⟨f,y⟩=>if Nat.beq f.cells 0=true then none else K {v:=[.view f y]}
   |none=>none
  else none
 |_,_=>none
def SV.num(s:SV)(K:Int->Option R):Option R:=
 match s with
 | .al (.int _) n _=>K n
 |_=>none
def m8(E:Env)(T:TypeId)(a i:SV)(K:Out->Option R):Option R:=
 i.num fun n=>match E.ty T,a with
  |some (.sl e t),.al t' xs _=>(SV.al t' xs []).el (.sl e t) fun ys=>zf n ys.length (K {v:=[.view t (List.getD ys n.toNat (El.aN t))]})
  |some (.aL m t),.ptr id r p=>if r.aJ=true then none else match r.at_ p with
   |some u=>if u.aX (.aL m t)=true then zf n m (K {v:=[.ptr id r (p++ [n.toNat])]}) else none
   |none=>none
  |some (.aL m t),.view t' xs=>(SV.al t' xs []).el (.aL m t) fun ys=>zf n m (K {v:=[.view t (List.getD ys n.toNat (El.aN t))]})
  |some (.sl _ t),.ptr id r p=>mP t n id r p K
  |_,_=>none
def z51(E:Env)(T:TypeId)(a i:SV)(K:Out->Option R):Option R:=
 i.num fun n=>match E.ty T with
  |some .str=>a.el .str fun s=>zf n s.size (K {v:=[.al (.int .u8) (hJ s n.toNat) []]})
  |some (.aL m t)=>a.el (.aL m t) fun ys=>zf n m (K {v:=[.al t (List.getD ys n.toNat (El.aN t)) []]})
  |_=>none
def fT(E:Env)(T:TypeId)(a:SV)(lo hi:Option SV)(K:Out->Option R):Option R:=
 match E.ty T with
 |some .str=>a.el .str fun s=>cutAt lo hi s.size fun l h=>K {v:=[.al .str (s.extract l h) []]}
 |some (.sl e t)=>a.el (.sl e t) fun xs=>cutAt lo hi (List.length xs) fun l h=>K {v:=[.al (.sl e t) ((List.take h xs).drop l) []]}
 |_=>none
def mS(E:Env)(T U:TypeId)(bo:Operand)(b x:SV)(K:Out->Option R):Option R:=
 if Nat.beq T U=false then none else
 match E.ty T with
 |some (.sl e t)=>if(Nat.beq (E.bytes e) 0||Nat.beq t.cells 0)=true then none else match b with
  | .bc=>x.el (.sl e t) fun ys=>bif decide (List.length ys*E.bytes e<=140737488355328) then K {v:=[.al (.sl e t) ys [[]]]} else none
  | .al t' xs o=>if eZ o []=false then none else(SV.al t' xs o).el (.sl e t) fun xs=>x.el (.sl e t) fun ys=>
    bif decide ((List.length xs+List.length ys)*E.bytes e<=140737488355328) then K {v:=[.al (.sl e t) (xs++ys:List (El t)) [[]]],cl:=src bo} else none
  |_=>none
 |_=>none
def gX(E:Env)(T:TypeId)(x:SV)(K:Out->Option R):Option R:=
 match E.ty T with
 |some .str=>x.el .str fun s=>K {v:=i64 (s.size:Int)}
 |some (.sl e t)=>match x with
  | .ptr _ (.aG (.dI n) _ _) []=>K {v:=i64 (n:Int)}
  |x=>x.el (.sl e t) fun xs=>K {v:=i64 (List.length xs:Int)}
 |some (.aL n _)=>K {v:=i64 (n:Int)}
 |_=>none
def dQ(E:Env)(S T:TypeId)(x:SV)(K:Out->Option R):Option R:=
 match E.ty S,E.ty T with
 |some (.int k),some (.int k')=>x.el (.int k) fun n=>K {v:=[.al (.int k') (k'.wrap n) []]}
 |some .str,some .str=>x.el .str fun s=>K {v:=[.al .str s []]}
 |some (.sl e (.int .u8)),some .str=>x.el (.sl e (.int .u8)) fun xs=>K {v:=[.al .str (strOf xs) []]}
 |_,_=>none
def dn(E:Env)(S T:TypeId)(s:State)(id n:Nat)(a b:Ty)(K:Out->Option R):Option R:=
 match E.ty S,E.ty T with
 |some (.sl _ (.int .u8)),some .str=>if a.aX (.int .u8)=true then match s.box id with
  |some B=>if h:B.t.aX (.aG .row (.int .u8) b)=true then bif Nat.beq n (List.length (Ty.cast h B.x:List Int)) then K {v:=[.al .str (strOf (Ty.cast h B.x:List Int)) []]} else none else none
  |none=>none else none
 |_,_=>none
def eR(E:Env)(T:TypeId):Option (Ty×Ty):=
 match E.mp T with
 |some (k,e)=>match E.ty k,E.ty e with
  |some kt,some vt=>if kt.isKey=true then some (kt,vt) else none
  |_,_=>none
 |none=>none
def dC(s:State)(dst:Option Nat)(t:Ty)(x:El t)(p:Ty)(K:Out->Option R):Option R:=
 match dst with
 |some d=>match s.bs[d+1]? with
  |some none=>K {v:=[.ptr (d+1) p []],bx:=some (d+1,⟨t,x,[]⟩)}
  |_=>none
 |none=>none
def iv(s:State)(m:SV)(kt vt:Ty)(K:Nat->List (El kt×El vt)->Option R):Option R:=
 match m with
 | .ptr id (.aG .mp pY qf) []=>if((Ty.aG .mp pY qf).aX (.aG .mp kt vt))=true then match s.box id with
   |some B=>if h:B.t.aX (.aG .mp kt vt)=true then K id (Ty.cast h B.x) else none
   |none=>none else none
 |_=>none
def dV(E:Env)(T:TypeId)(s:State)(m i:SV)(K:Out->Option R):Option R:=
 match eR E T with
 |some (kt,vt)=>iv s m kt vt fun _ xs=>i.el kt fun k=>K {v:=[.al vt (cJ (dR kt) (El.aN vt) xs k) []]}
 |none=>none
def eC(E:Env)(T:TypeId)(s:State)(m i v:SV)(K:Out->Option R):Option R:=
 match eR E T with
 |some (kt,vt)=>iv s m kt vt fun id xs=>i.el kt fun k=>v.el vt fun y=>bif dh (dR kt) xs k then none else K {v:=[.skip],bx:=some (id,⟨.aG .mp kt vt,(xs++ [(k,y)]:List (El kt×El vt)),[]⟩)}
 |none=>none
def dy:Ty:= .aG .iter .unit .unit
def dX(s:State)(m:SV)(K:Out->Option R):Option R:=
 match m with
 | .ptr id (.aG .iter .unit .unit) []=>match s.box id with
   |some B=>if h:B.t.aX dy=true then
     bif decide ((Ty.cast h B.x:ByteArray×Nat).2<(Ty.cast h B.x:ByteArray×Nat).1.size) then
      K {v:=[.al .bool true [],.al (.int .i64) ((Ty.cast h B.x:ByteArray×Nat).2:Int) [],.al (.int .i32) ((Utf8.decode (Ty.cast h B.x:ByteArray×Nat).1 (Ty.cast h B.x:ByteArray×Nat).2).1:Int) []],
         bx:=some (id,⟨dy,((Ty.cast h B.x:ByteArray×Nat).1,(Ty.cast h B.x:ByteArray×Nat).2+(Utf8.decode (Ty.cast h B.x:ByteArray×Nat).1 (Ty.cast h B.x:ByteArray×Nat).2).2),[]⟩)}
     else K {v:=[.over]}
    else none
   |none=>none
 |_=>none
def vg:Operand->Bool
 | .const _=>true
 |_=>false
def dW(E:Env)(T:TypeId)(s:State)(dst:Option Nat)(lo:Operand)(l c:SV)(K:Out->Option R):Option R:=
 match E.ty T with
 |some (.sl e t)=>if(Nat.beq (E.bytes e) 0||Nat.beq t.cells 0)=true then none else l.el (.int .i64) fun n=>c.el (.int .i64) fun m=>
  bif vg lo then
   bif decide (n=0) then bif decide (0<=m) then bif decide (m*E.bytes e<=140737488355328) then K {v:=[.al (.sl e t) ([]:List (El t)) [[]]]} else none else none else none
  else bif decide (n=m) then bif decide (0<=n) then bif decide (n*E.bytes e<=140737488355328) then dC s dst (.aG .row t .unit) (List.replicate n.toNat (El.aN t):List (El t)) (.aG (.dI n.toNat) t .unit) K else none else none else none
 |_=>none
def mF(op:UnOp)(x:SV)(K:Out->Option R):Option R:=
 match op,x with
 | .not,.al .bool b _=>K {v:=bl (!b)}
 | .neg,.al (.int k) n _=>K {v:=[.al (.int k) (k.wrap (0-n)) []]}
 |_,_=>none
def eH(f:FuncId)(x:SV)(K:Out->Option R):Option R:=
 match x with
 | .ptr id u []=>if u.fG=true then none else K {v:=[.ptr id (.aG (.kH f) u .unit) []]}
 |_=>none
def gu(n id:Nat)(a b:Ty)(lo hi:Option SV)(K:Out->Option R):Option R:=
 match hi with
 |some _=>none
 |none=>jk lo n fun l=>K {v:=[.ptr id (.aG (.dI n) a b) [l]]}
def fS(E:Env)(T:TypeId)(s:State)(id n:Nat)(t:Ty)(lo hi:Option SV)(K:Out->Option R):Option R:=
 match E.ty T,lo,hi with
 |some u,none,none=>if u.aX (.aL n t)=true then match s.box id with
  |some B=>if h:B.t.aX (.aL n t)=true then K {v:=[.ptr id (.aG (.dI n) t .unit) []],bx:=some (id,⟨.aG .row t .unit,(Ty.cast h B.x:List (El t)),[]⟩)} else none
  |none=>none else none
 |_,_,_=>none
def lj(s:ByteArray):List Int:=s.data.toList.map fun c=>(c.toNat:Int)
def cL{α:Type}(xs ys:List α)(lo:Nat):List α:=xs.take lo++(ys++xs.drop (lo+ys.length))
def cF(t:Ty)(s:State)(id n lo:Nat)(a b:Ty)(x:SV)(e:TypeId)(K:Out->Option R):Option R:=
 if a.aX t=true then x.el (.sl e t) fun(ys:List (El t))=>match s.box id with
  |some B=>if h:B.t.aX (.aG .row t b)=true then
    bif Nat.beq n (List.length (Ty.cast h B.x:List (El t))) then bif Nat.ble lo n then
     K {v:=i64 ((ys.take (n-lo)).length:Int),bx:=some (id,⟨.aG .row t b,(cL (Ty.cast h B.x:List (El t)) (ys.take (n-lo)) lo:List (El t)),[]⟩)}
    else none else none
   else none
  |none=>none else none
def dp(t:Ty)(s:State)(id n:Nat)(a b:Ty)(y:ByteArray)(K:Out->Option R):Option R:=
 if t.aX (.int .u8)=true then if a.aX (.int .u8)=true then match s.box id with
  |some B=>if h:B.t.aX (.aG .row (.int .u8) b)=true then
    bif Nat.beq n (List.length (Ty.cast h B.x:List Int)) then
     K {v:=i64 ((List.take n (lj y)).length:Int),bx:=some (id,⟨.aG .row (.int .u8) b,(cL (Ty.cast h B.x:List Int) (List.take n (lj y)) 0:List Int),[]⟩)}
    else none
   else none
  |none=>none else none else none
def copyV(E:Env)(T:TypeId)(s:State)(d x:SV)(K:Out->Option R):Option R:=
 match E.ty T,d with
 |some (.sl e t),.ptr id (.aG (.dI n) a b) []=>(match x with
  | .al .str y _=>dp t s id n a b y K
  |x=>cF t s id n 0 a b x e K)
 |some (.sl e t),.ptr id (.aG (.dI n) a b) [l]=>cF t s id n l a b x e K
 |_,_=>none
def mr(t b:Ty):Bool:=
 b.aX t||(match t with
  | .aG (.kH _) u _=>b.aX u
  |_=>false)
def zy(s:State):List SV->Option (List SV×Option (Nat×aI))
 | []=>some ([],none)
 |v::r=>match zy s r with
  |none=>none
  |some (l,b)=>match v,b with
   | .al t x _,b=>some (.al t x []::l,b)
   | .bc,b=>some (.bc::l,b)
   | .view t x,b=>some (.view t x::l,b)
   | .ptr id t [],none=>match s.box id with
     |some B=>if mr t B.t=true then some (.ptr 0 t []::l,some (id,B)) else none
     |none=>none
   |_,_=>none
def SV.cM(id:Nat):SV->SV
 | .ptr _ t p=> .ptr id t p
 |v=>v
def b9(C:FuncId->aK R)(s:State)(dst:Option Nat)(f:FuncId)(vs:List SV)(K:Out->Option R):Option R:=
 match zy s vs with
 |some (l,none)=>C f l none fun r B=>match B with
  |none=>K {v:=r}
  |some B=>match dst with
   |some d=>match s.bs[d+1]? with
    |some none=>K {v:=r.map (SV.cM (d+1)),bx:=some (d+1,B)}
    |_=>none
   |none=>none
 |some (l,some (id,B))=>C f l (some B) fun r B'=>match B' with
  |some B'=>if B'.t.aX B.t=true then K {v:=r,bx:=some (id,B')} else none
  |none=>none
 |none=>none
def dB(g:Bool)(x y:SV)(K:Out->Option R):Option R:=
 match x,y with
 | .al (.int k) m _,.al (.int _) n _=>K {v:=[.al (.int k) (bif g then(if m<n then n else m) else(if n<m then n else m)) []]}
 |_,_=>none
def fo(E:Env)(T:TypeId)(K:Out->Option R):Option R:=
 match E.ty T with
 |some (.sl e t)=>K {v:=[.al (.sl e t) ([]:List (El t)) [[]]]}
 |_=>K {v:=[.bc]}
def eX(s:State):Operand->Option (Nat×List SV)
 | .tmp t=>bif Nat.beq (s.slot t).length 1 then none else some (t,s.slot t)
 |_=>none
def dF(t:Nat):Nat->List (Nat×Nat)
 |0=>[]
 |n+1=>(t,n)::dF t n
def b4(E:Env)(d:Option Nat):Bool:=
 match d with
 |some d=>E.sh.any (Nat.beq d)
 |none=>false
def takes(E:Env)(d:Option Nat):Bool:=
 match d with
 |some d=>E.mv.any (Nat.beq d)
 |none=>false
def Out.shut(u:Out):Out:={u with v:=u.v.map SV.shut}
def gq(f:FuncId)(x y:SV)(K:Out->Option R):Option R:=
 match x,y with
 | .view t a,.view u b=>K {v:=[.cap f t a u b]}
 |_,_=>none
def act(E:Env)(C:FuncId->aK R)(ops:List Oper)(o:Oper)(s:State)(K:Out->Option R):Option R:=
 match o.op with
 | .move x=>match eX s x with
   |some (t,l)=>bif b4 E o.dst then K {v:=l.map SV.shut} else K {v:=l,cl:=bif l.all fun v=>v.own.isEmpty then [] else dF t l.length}
   |none=>match s.ak x with
    | .al t y w=>bif oz ops o.dst||takes E o.dst then K {v:=[.al t y w],cl:=z20 w x} else K {v:=[.al t y []]}
    | .undef=>none
    | .bc=>fo E o.type K
    |v=>K {v:=[v]}
 | .assign x=>match s.ak x with
   | .al t y w=>K {v:=[.al t y w],cl:=z20 w x}
   | .undef=>none
   | .bc=>fo E o.type K
   |v=>K {v:=[v]}
 | .pick c a b=>match s.ak c with
   | .al .bool p _=>bif p then K {v:=[(s.ak a).shut]} else K {v:=[(s.ak b).shut]}
   |_=>none
 | .binOp op T x y _=>bin E op T (s.ak x) (s.ak y) fun v=>K {v}
 | .unOp op _ x=>mF op (s.ak x) K
 | .convert S T x=>match s.ak x with
   | .ptr id (.aG (.dI n) a b) []=>dn E S T s id n a b K
   |v=>dQ E S T v K
 | .load T a=>load E T s (oz ops o.dst||jA E ops o.dst||vC ops o.dst) (s.ak a) K
 | .store T a x=>store E T s (s.ak a) x K
 | .nilCheck x=>match s.ak x with
   | .ptr id t p=>if t.aJ=true then none else K {v:=[.ptr id t p]}
   | .view t y=>K {v:=[.view t y]}
   |_=>none
 | .fieldAddr T x j=>m6 (E.ty T) (s.ak x) j K
 | .indexAddr T x i=>m8 E T (s.ak x) (s.ak i) K
 | .index T x i=>z51 E T (s.ak x) (s.ak i) K
 | .field T x j=>match E.ty T with
   |some t=>if t.bz=false then none else(s.ak x).el t fun y=>match El.get t [j] y with
    |some ⟨u,z⟩=>K {v:=[.al u z []]}
    |none=>none
   |none=>none
 | .slice T x lo hi none=>match s.ak x with
   | .ptr id (.aG (.dI n) a b) []=>(match E.ty T with
     |some (.sl _ t)=>if a.aX t=true then gu n id a b (lo.map s.ak) (hi.map s.ak) K else none
     |_=>none)
   | .ptr id (.aL n t) []=>fS E T s id n t (lo.map s.ak) (hi.map s.ak) K
   |v=>fT E T v (lo.map s.ak) (hi.map s.ak) K
 | .makeFunc (.func f) first captured=>match first.toList,captured.toList with
   | [],[x]=>eH f (s.ak x) K
   | [],[x,y]=>gq f (s.ak x) (s.ak y) K
   |_,_=>none
 | .alloc T=>match E.ty T,o.dst with
   |some t,some d=>match s.bs[d+1]? with
    |some none=>K {v:=[.ptr (d+1) t []],bx:=some (d+1,⟨t,El.aN t,jg t⟩)}
    |_=>none
   |none,some d=>(match E.bl T with
    |some e=>match s.bs[d+1]? with
     |some none=>K {v:=[.ptr (d+1) (.aG (.gp T e) .unit .unit) []],bx:=some (d+1,⟨.aG (.gp T e) .unit .unit,(⟨#[]⟩:ByteArray),[[]]⟩)}
     |_=>none
    |none=>none)
   |_,_=>none
 | .box T x=>match E.ty T,o.dst with
   |some t,some d=>match s.bs[d+1]? with
    |some none=>(s.ak x).el t fun y=>K {v:=[.ptr (d+1) t []],bx:=some (d+1,⟨t,y,(s.ak x).own⟩),cl:=src x}
    |_=>none
   |_,_=>none
 | .build T parts=>match E.ty T with
   |some t=>if t.agg=false then none else ga t (El.aN t) (jg t) (zu s parts.toList).1 fun y own=>K {v:=[.al t y own],cl:=(zu s parts.toList).2}
   |none=>none
 | .buildSlice T n parts=>match E.ty T with
   |some (.sl e t)=>if Nat.beq t.cells 0=true then none else bif Nat.ble (n*t.cells) 16777216 then jQ t (List.replicate n (El.aN t)) (parts.toList.map fun p=>(p.1,s.ak p.2)) fun y=>K {v:=[.al (.sl e t) y [[]]]} else none
   |_=>none
 | .extract x j=>match x with
   | .tmp t=>if Nat.beq (s.slot t).length 1=true then(match one (s.slot t),j with
      | .over,0=>K {v:=bl false}
      |_,_=>none) else match(s.slot t)[j]? with
     |some (.al u y w)=>K {v:=[.al u y w],cl:=bif w.isEmpty then [] else [(t,j)]}
     |some .undef=>none
     |some v=>K {v:=[v]}
     |none=>none
   |_=>none
 | .makeMap T none=>match eR E T with
   |some (kt,vt)=>dC s o.dst (.aG .mp kt vt) ([]:List (El kt×El vt)) (.aG .mp kt vt) K
   |none=>none
 | .lookup T x i false=>dV E T s (s.ak x) (s.ak i) K
 | .mapUpdate T m k x=>eC E T s (s.ak m) (s.ak k) (s.ak x) K
 | .insert T m k x=>eC E T s (s.ak m) (s.ak k) (s.ak x) K
 | .range T x=>match E.ty T with
   |some .str=>(s.ak x).el .str fun y=>dC s o.dst dy ((y,0):ByteArray×Nat) dy K
   |_=>none
 | .next x true=>dX s (s.ak x) K
 | .makeSlice T l c=>dW E T s o.dst l (s.ak l) (s.ak c) K
 | .call ⟨.value (.func f),args,_⟩=>b9 C s o.dst f (args.toList.map s.ak) fun u=>K (bif b4 E o.dst then u.shut else u)
 | .call ⟨.value (.tmp y),args,_⟩=>match s.ak (.tmp y) with
   | .ptr id (.aG (.kH f) u _) []=>if u.fG=true then none else b9 C s o.dst f (args.toList.map s.ak++ [.ptr id u []]) K
   | .cap f t x u y=>b9 C s o.dst f (args.toList.map s.ak++ [.view t x,.view u y]) K
   |_=>none
 | .call ⟨.builtin .copy,args,argTypes⟩=>match args.toList,argTypes.toList with
   | [d,x],T::_=>copyV E T s (s.ak d) (s.ak x) K
   |_,_=>none
 | .call ⟨.builtin .len,args,argTypes⟩=>match args.toList,argTypes.toList with
   | [x],[T]=>gX E T (s.ak x) K
   |_,_=>none
 | .call ⟨.builtin .append,args,argTypes⟩=>match args.toList,argTypes.toList with
   | [b,x],[T,U]=>mS E T U b (s.ak b) (s.ak x) K
   |_,_=>none
 | .call ⟨.builtin .max,args,_⟩=>match args.toList with
   | [x,y]=>dB true (s.ak x) (s.ak y) K
   |_=>none
 | .call ⟨.builtin .min,args,_⟩=>match args.toList with
   | [x,y]=>dB false (s.ak x) (s.ak y) K
   |_=>none
 |_=>none
def mV(ops:List Oper)(g:Nat):Option Nat:=(ops[g]?).bind (·.dst)
def step(E:Env)(C:FuncId->aK R)(ops:List Oper)(o:Oper)(s:State)(K:State->Option R):Option R:=
 let go (s:State):Option R:=act E C ops o s fun u=>K (s.apply o.dst u)
 let pass (s:State):Option R:=K (s.au o.dst [.skip])
 match o.guard with
 |none=>go s
 |some (g,want)=>match mV ops g with
  |none=>none
  |some d=>match s.slot d with
   | [.al .bool p []]=>bif p then(let s:=s.au (some d) (bl true);bif want then go s else pass s) else(let s:=s.au (some d) (bl false);bif want then pass s else go s)
   | [.skip]=>pass s
   |_=>none
def steps(E:Env)(C:FuncId->aK R)(ops:List Oper):List Oper->State->(State->Option R)->Option R
 | [],s,K=>K s
 |o::r,s,K=>step E C ops o s fun s=>steps E C ops r s K
structure bK where
 i:Nat
 r:Nat
 w:Nat
 br:Nat
 bw:Nat
def bit(i:Nat):Nat:=1<<<i
def cY:List Nat->Nat
 | []=>0
 |i::r=>bit i|||cY r
def gb:List Operand->List Nat
 | []=>[]
 | .tmp t::r=>t::gb r
 |_::r=>gb r
def looks(ops:List Oper)(o:Oper):List Nat:=gb o.op.operands.toList++(match o.guard with
 |some (g,_)=>(mV ops g).toList
 |none=>[])
def aR:SV->List Nat
 | .ptr id _ _=>[id]
 |_=>[]
def zc(s:State)(o:Oper):List Nat:=
 match o.op with
 | .load _ a=>aR (s.ak a)
 | .store _ a _=>aR (s.ak a)
 | .alloc _| .box _ _| .makeMap _ _| .range _ _| .makeSlice _ _ _=>o.dst.toList.map fun d=>d+1
 | .convert _ _ x=>aR (s.ak x)
 | .slice _ x _ _ _=>aR (s.ak x)
 | .lookup _ x _ _=>aR (s.ak x)
 | .mapUpdate _ m _ _=>aR (s.ak m)
 | .insert _ m _ _=>aR (s.ak m)
 | .next x _=>aR (s.ak x)
 | .call ⟨.value y,args,_⟩=>(args.toList.flatMap fun x=>aR (s.ak x))++(aR (s.ak y)++o.dst.toList.map fun d=>d+1)
 | .call ⟨.builtin .copy,args,_⟩=>args.toList.flatMap fun x=>aR (s.ak x)
 |_=>[]
def ze(ops:List Oper)(o:Oper)(i:Nat)(s:State)(u:Out):bK:=
 ⟨i,cY (looks ops o),cY (o.dst.toList++u.cl.map (·.1)),cY (zc s o),cY (u.bx.toList.map (·.1))⟩
def bK.apart(a b:bK):Bool:=
 Nat.beq (a.w&&&(b.r|||b.w)) 0&&(Nat.beq (b.w&&&a.r) 0&&(Nat.beq (a.bw&&&(b.br|||b.bw)) 0&&Nat.beq (b.bw&&&a.br) 0))
def zk:List Edge->Nat
 | []=>0
 |e::r=>bif Region.binds .any e then bit e.on|||zk r else zk r
def fits(m:Nat)(f:bK)(tr:List bK):Bool:=Nat.ble (m+1) (bit f.i)&&tr.all fun a=>m.testBit a.i||a.apart f
def ea(E:Env)(C:FuncId->aK R)(ops:List Oper)(o:Oper)(i:Nat)(s:State)(tr:List bK)(K:State->List bK->Option R):Option R:=
 let go (s:State):Option R:=act E C ops o s fun u=>bif fits (zk o.after.toList) (ze ops o i s u) tr then K (s.apply o.dst u) (ze ops o i s u::tr) else none
 let pass (s:State):Option R:=bif fits (zk o.after.toList) (ze ops o i s {v:=[.skip]}) tr then K (s.apply o.dst {v:=[.skip]}) (ze ops o i s {v:=[.skip]}::tr) else none
 match o.guard with
 |none=>go s
 |some (g,want)=>match mV ops g with
  |none=>none
  |some d=>match s.slot d with
   | [.al .bool p []]=>bif p then(let s:=s.au (some d) (bl true);bif want then go s else pass s) else(let s:=s.au (some d) (bl false);bif want then pass s else go s)
   | [.skip]=>pass s
   |_=>none
def jS(E:Env)(C:FuncId->aK R)(ops:List Oper):List Oper->Nat->State->List bK->(State->Option R)->Option R
 | [],_,s,_,K=>K s
 |o::r,i,s,tr,K=>ea E C ops o i s tr fun s tr=>jS E C ops r (i+1) s tr K
inductive Ex where
 |normal
 |exit (id:Nat)
 |ret
def zv:Code->Nat
 | .region id _ _=>id
 | .seq a _=>zv a
 | .cond _ a _=>zv a
 | .block _ b=>zv b
 | .loop b=>zv b
 |_=>0
def cg{α:Type}(z:α)(l:List Nat):Nat->List α->List α
 |_,[]=>[]
 |i,x::r=>(bif l.any (Nat.beq i) then x else z)::cg z l (i+1) r
def SV.roots(l:List Nat):SV->Bool
 | .ptr 0 _ _=>true
 | .ptr (id+1) _ _=>l.any (Nat.beq id)
 |_=>true
def pZ:List Nat->List Nat->Bool
 | [],[]=>false
 | [],_::_=>true
 |_::_,[]=>false
 |a::p,b::q=>Nat.ble (a+1) b||(Nat.beq a b&&pZ p q)
def gT(p:List Nat):List (List Nat)->List (List Nat)
 | []=>[p]
 |q::r=>bif pZ q p then q::gT p r else p::q::r
def fH:List (List Nat)->List (List Nat)
 | []=>[]
 |p::r=>gT p (fH r)
def SV.norm:SV->SV
 | .al t x own=> .al t x (fH own)
 |v=>v
def aI.norm(B:aI):aI:={B with own:=fH B.own}
def State.norm(s:State):State:=⟨s.sl.map fun v=>v.map SV.norm,s.bs.map fun b=>b.map aI.norm⟩
def hM(l:List Nat)(s:State)(K:State->Option R):Option R:=
 let sl:=cg [.undef] l 0 s.sl
 bif sl.all (fun v=>v.all (SV.roots l)) then K (State.norm ⟨sl,s.bs.headD none::cg none l 0 s.bs.tail⟩) else none
def eQ(k:Nat)(f:Unit->Option R):Option R:=
 match k with
 |0=>none
 |_+1=>f ()
def eS(E:Env)(k r:Nat)(s:State)(K:State->Option R):Option R:=
 match E.join r with
 |none=>K s
 |some l=>hM l s fun s=>eQ k fun _=>K s
def iC(id:Nat)(l:List SV):List SV:=l.map fun v=>match v with
 | .ptr j _ _=>bif Nat.beq j id then .undef else v
 |v=>v
def fZ(E:Env)(r:Nat)(s:State)(K:State->Option R):Option R:=
 match E.fz r with
 |none=>K s
 |some (d,T)=>match s.slot d,E.ty T with
  | [.ptr id (.aG (.dI n) a b) []],some (.sl e t)=>if a.aX t=true then match s.box id with
    |some B=>if h:B.t.aX (.aG .row t b)=true then
      bif Nat.beq n (List.length (Ty.cast h B.x:List (El t))) then K {sl:=(s.sl.map (iC id)).set d [.al (.sl e t) (Ty.cast h B.x:List (El t)) []],bs:=s.bs.set id none} else none
     else none
    |none=>none else none
  |_,_=>none
def jl(id:Nat)(B:aI)(v:SV):SV:=
 match v with
 | .ptr j t p=>bif Nat.beq j id then(if t.aX B.t=true then match El.get B.t p B.x with
    |some ⟨u,y⟩=> .view u y
    |none=> .undef else .undef) else .ptr j t p
 |v=>v
def n0(id:Nat)(s:State)(K:State->Option R):Option R:=
 match s.box id with
 |some B=>if B.t.aJ=true then none else K {sl:=s.sl.map fun l=>l.map (jl id B),bs:=s.bs.set id none}
 |none=>none
def ld:List Nat->State->(State->Option R)->Option R
 | [],s,K=>K s
 |id::r,s,K=>n0 id s fun s=>ld r s K
def cX(l:List Nat):Nat->List (Option aI)->List (Option aI)
 |_,[]=>[]
 |i,b::r=>(bif l.any (Nat.beq i) then b.map (fun B=>{B with own:=[]}) else b)::cX l (i+1) r
def State.drop(l:List Nat)(s:State):State:={s with bs:=cX l 0 s.bs}
def bU(body:State->(Ex->State->Option R)->Option R)(l lx:List Nat):Nat->State->(Ex->State->Option R)->Option R
 |0,_,_=>none
 |k+1,s,K=>body s fun e s=>match e with
  | .normal=>hM l s fun s=>bU body l lx k s K
  |e=>hM lx s fun s=>K e s
def Ty.flat:Ty->Bool
 | .sl _ _=>false
 | .aG _ _ _=>false
 | .aL _ t=>t.flat
 | .pair a b=>a.flat&&b.flat
 |_=>true
def SV.flat:SV->Bool
 | .al t _ own=>t.flat&&own.isEmpty
 | .ptr _ _ _| .view _ _| .cap _ _ _ _ _=>false
 |_=>true
def dS(o:Nat):Nat->List (List SV)->Bool
 |_,[]=>true
 |i,l::r=>(Nat.beq i o||l.all SV.flat)&&dS o (i+1) r
def dA:Nat->Nat->List (List SV)->List (List SV)
 |0,_,sl=>sl
 |n+1,m,sl=>dA n (m+1) (sl.set m [.undef])
def isDst(o:Oper)(d:Nat):Bool:=
 match o.dst,o.guard with
 |some d',none=>Nat.beq d' d
 |_,_=>false
def b3(x:Operand)(i:Nat):Bool:=
 match x with
 | .tmp j=>Nat.beq j i
 |_=>false
def iP(E:Env)(T:TypeId):Bool:=
 match E.ty T with
 |some (.int .u8)=>true
 |_=>false
def n4(E:Env)(T:TypeId):Bool:=
 match E.ty T with
 |some (.sl _ (.int .u8))=>true
 |_=>false
def kC(o:Oper)(d x:Nat):Bool:=isDst o d&&(match o.op with
 | .move y=>b3 y x
 |_=>false)
def isLen(E:Env)(o:Oper)(d x:Nat):Bool:=isDst o d&&(match o.op with
 | .call ⟨.builtin .len,bS,ts⟩=>match bS.toList,ts.toList with
   | [y],[T]=>b3 y x&&n4 E T
   |_,_=>false
 |_=>false)
def oB(o:Oper)(d x:Nat):Bool:=isDst o d&&(match o.op with
 | .binOp .sub _ y (.const (.int .i64 c)) _=>b3 y x&&decide (c=1)
 |_=>false)
def iO(E:Env)(o:Oper)(d x i:Nat):Bool:=isDst o d&&(match o.op with
 | .indexAddr T y j=>b3 y x&&(b3 j i&&n4 E T)
 |_=>false)
def rQ(E:Env)(o:Oper)(d x:Nat):Bool:=isDst o d&&(match o.op with
 | .load T y=>b3 y x&&iP E T
 |_=>false)
def gV(o:Oper)(d x y:Nat):Bool:=isDst o d&&(match o.op with
 | .binOp .add _ u v _=>b3 u x&&b3 v y
 |_=>false)
def gU(E:Env)(o:Oper)(x y:Nat):Bool:=(match o.dst,o.guard with
 |none,none=>true
 |_,_=>false)&&(match o.op with
 | .store T u v=>b3 u x&&(b3 v y&&iP E T)
 |_=>false)
def rS(E:Env)(o x m:Nat)(ops:List Oper):Bool:=
 match ops with
 | [a0,a1,a2,a3,a4,a5,a6,a7,a8,a9,jY,jZ,a12,lJ]=>kC a0 m o&&(kC a1 (m+1) o&&(isLen E a2 (m+2) (m+1)&&(oB a3 (m+3) (m+2)&&(kC a4 (m+4) o&&(kC a5 (m+5) o&&(isLen E a6 (m+6) (m+5)&&(oB a7 (m+7) (m+6)&&(iO E a8 (m+8) (m+4) (m+7)&&(rQ E a9 (m+9) (m+8)&&(kC jY (m+10) x&&(gV jZ (m+11) (m+9) (m+10)&&(iO E a12 (m+12) m (m+3)&&gU E lJ (m+12) (m+11)))))))))))))
 |_=>false
def jI(e:TypeId)(xs:List Int)(y:Int)(own:List (List Nat)):List SV:=[.al (.sl e (.int .u8)) (xs.set (IntKind.i64.wrap ((xs.length:Int)-1)).toNat (IntKind.u8.wrap (xs.getD (IntKind.i64.wrap ((xs.length:Int)-1)).toNat 0+y)):List Int) own]
def eb(E:Env)(q:Nat×Nat×Nat)(ops:List Oper)(s:State)(K:State->Option R):Option R:=
 bif rS E q.1 q.2.1 q.2.2 ops then
  bif Nat.ble (q.1+1) q.2.2&&(Nat.ble (q.2.1+1) q.2.2&&(!(Nat.beq q.1 q.2.1)&&Nat.ble (q.2.2+13) s.sl.length)) then
   match s.slot q.1,s.slot q.2.1 with
   | [.al (.sl e (.int .u8)) xs own],[.al (.int .u8) y _]=>
     bif eZ own [] then
      bif dS q.1 0 (dA 13 q.2.2 s.sl)&&s.bs.all Option.isNone then
       zf (IntKind.i64.wrap ((List.length (xs:List Int):Int)-1)) (List.length (xs:List Int)) (K ⟨(dA 13 q.2.2 s.sl).set q.1 (jI e xs y own),s.bs⟩)
      else none
     else none
   |_,_=>none
  else none
 else none
def iD(own:List (List Nat)):List (List Nat):=own.filterMap fun p=>match p with
 |(j+1)::p=>some (j::p)
 |_=>none
def Ty.aY:Ty->List (List Nat)->Bool
 | .sl _ t,own=>t.flat&&eZ own []
 | .pair a b,own=>a.aY (m9 own [0])&&b.aY (iD own)
 | .aG _ _ _,_=>false
 | .aL _ t,_=>t.flat
 |_,_=>true
def aI.aY(B:aI):Bool:= !B.t.aJ&&B.t.aY B.own
def SV.aY(bs:List (Option aI)):SV->Bool
 | .al t _ own=>t.aY own
 | .view _ _| .cap _ _ _ _ _=>false
 | .ptr id _ _=>match bs.getD id none with
   |some B=>B.aY
   |none=>false
 |_=>true
def hold(bs:List (Option aI))(l:List SV):List SV:=bif l.all (SV.aY bs) then l else [.undef]
def oE:Option aI->Option aI
 |some B=>bif B.aY then some B else none
 |none=>none
def State.aY(x:Nat)(s:State):State:=⟨(s.sl.set x [.undef]).map (hold s.bs),s.bs.map oE⟩
def hD(E:Env)(x d:Nat)(T T':TypeId)(i vo:Operand)(s:State)(K:State->Option R):Option R:=
 match s.slot x with
 | [.al (.sl e t) xs own]=>bif eZ own [] then
     match E.ty T,E.ty T' with
     |some u,some w=>bif u.aX (.sl e t)&&(w.aX t&&Nat.ble (d+1) s.sl.length) then
       (s.ak i).num fun n=>((s.au (some d) [.undef]).ak vo).el t fun _=>zf n (List.length (xs:List (El t))) (K ((s.au (some d) [.undef]).aY x))
      else none
     |_,_=>none
   else none
 |_=>none
def gY(o:Oper):Bool:=
 match o.dst,o.guard with
 |none,none=>true
 |_,_=>false
def c9(E:Env)(oA oS:Oper)(s:State)(K:State->Option R):Option R:=
 match oA.op,oS.op with
 | .indexAddr T (.tmp x) i,.store T' (.tmp d) vo=>bif isDst oA d&&(!(Nat.beq x d)&&gY oS) then hD E x d T T' i vo s K else none
 |_,_=>none
def n5{α:Type}:List α->Option (List α×α×α)
 | []=>none
 | [_]=>none
 | [a,b]=>some ([],a,b)
 |a::r=>match n5 r with
  |some (l,x,y)=>some (a::l,x,y)
  |none=>none
def dZ(E:Env)(C:FuncId->aK R)(ops:List Oper)(s:State)(K:State->Option R):Option R:=
 match n5 ops with
 |some (l,oA,oS)=>steps E C ops l s fun s=>c9 E oA oS s K
 |none=>none
def lg(E:Env)(C:FuncId->aK R)(i:Nat)(ops:Array Oper)(d:Bool)(s:State)(K:State->Option R):Option R:=
 fZ E i s fun s=>ld (E.fr i) s fun s=>bif d then jS E C ops.toList ops.toList 0 s [] K else steps E C ops.toList ops.toList s K
def ev(E:Env)(C:FuncId->aK R)(k:Nat):Code->State->(Ex->State->Option R)->Option R
 | .skip,s,K=>K .normal s
 | .region i ops d,s,K=>match E.sp with
   |some (j,q)=>bif Nat.beq i j then(match d with
    |true=>none
    |false=>bif Nat.beq q.2.2 0 then dZ E C ops.toList s (K .normal) else eb E q ops.toList s (K .normal)) else lg E C i ops d s (K .normal)
   |none=>lg E C i ops d s (K .normal)
 | .seq a b,s,K=>ev E C k a s fun e s=>match e with
   | .normal=>eS E k (zv b) s fun s=>ev E C k b s K
   |e=>K e s
 | .cond c a b,s,K=>match s.ak c with
   | .al .bool p _=>bif p then ev E C k a (s.au (hG c) (bl true)) K else ev E C k b (s.au (hG c) (bl false)) K
   |_=>none
 | .block id b,s,K=>ev E C k b s fun e s=>match e with
   | .exit j=>bif Nat.beq j id then K .normal s else K (.exit j) s
   |e=>K e s
 | .loop b,s,K=>hM (E.bQ (zv b)) (s.drop (E.dr (zv b))) fun s=>bU (ev E C k b) (E.bQ (zv b)) (E.dU (zv b)) k s K
 | .exit id,s,K=>K (.exit id) s
 | .ret,s,K=>K .ret s
 |_,_,_=>none
def cq(E:Env):State->List ResultVar->Option (List SV×State)
 |s,[]=>some ([],s)
 |s,.tmp t::r=>match cq E (s.close [(t,0)]) r with
  |some (l,s')=>some (one (s.slot t)::l,s')
  |none=>none
 |s,.cell p T::r=>match s.slot p,E.ty T with
  | [.ptr id u []],some t=>match s.box id with
    |some B=>if(t.aX B.t&& !u.aJ)=true then match cq E (s.ap (some (id,{B with own:=[]}))) r with
      |some (l,s')=>some (.al B.t B.x B.own::l,s')
      |none=>none
     else none
    |none=>none
  |_,_=>none
def jR:List SV->List Nat
 | []=>[]
 | .ptr id _ _::r=>id::jR r
 |_::r=>jR r
def lk(s:State)(bx:Option aI)(l:List SV)(K:List SV->Option aI->Option R):Option R:=
 match bx,jR l with
 |some _,[]=>match s.box 0 with
  |some B=>K l (some B)
  |none=>none
 |none,[]=>K l none
 |none,[id]=>match s.box id with
  |some B=>K (l.map (SV.cM 0)) (some B)
  |none=>none
 |_,_=>none
def c8(E:Env)(l:List SV):List SV:=bif E.ro then l.map SV.shut else l
def az:List Ty->List SV->List SV
 | .sl e t::r,.bc::q=> .al (.sl e t) ([]:List (El t)) []::az r q
 |_::r,v::q=>v.shut::az r q
 | [],q=>q
 |_,[]=>[]
def dd(E:Env)(C:FuncId->aK R)(k:Nat)(fn:Func)(code:Code)(vs:List SV)(bx:Option aI)(K:List SV->Option aI->Option R):Option R:=
 bif E.sp.isSome&&bx.isSome then none else
 let n:=fn.ntmps-vs.length
 let s:State:=⟨(az E.ps vs).map (fun v=>[v])++List.replicate n [.undef],bx::List.replicate (vs.length+n) none⟩
 ev E C k code s fun e s=>match e with
  | .exit _=>none
  |_=>match cq E s fn.results.toList with
   |some (l,s')=>lk s' bx (c8 E l) K
   |none=>none
end
end Go.Ref

namespace Go.Ref
open Go
theorem zd{R S:Type}{sv:SV}{t:Ty}{F:El t->Option R}{G:El t->Option S}{K:S->Option R}(h:∀y,F y=(G y).bind K):sv.el t F=(sv.el t G).bind K:=by
 cases sv with
 |al t' x own=>
  simp only[SV.el]
  split
  ·exact h _
  ·rfl
 |bc=>cases t<;>simp only[SV.el]<;>first|rfl|exact h _
 |_=>rfl
theorem z0{R S:Type}{b:Bool}{x y:Option R}{x' y':Option S}{K:S->Option R}(h:x=x'.bind K)(k:y=y'.bind K):(bif b then x else y)=(bif b then x' else y').bind K:=by
 cases b
 ·exact k
 ·exact h
theorem za{R S:Type}{c:Prop}[Decidable c]{x y:Option R}{x' y':Option S}{K:S->Option R}(h:x=x'.bind K)(k:y=y'.bind K):(if c then x else y)=(if c then x' else y').bind K:=by
 split
 ·exact h
 ·exact k
section
variable {R:Type}
theorem qR{op:BinOp}{k k':IntKind}{m n:Int}{K:List SV->Option R}:fP op k m k' n K=(fP op k m k' n some).bind K:=by
 unfold fP
 cases op<;>simp only<;>repeat(first|rfl|refine z0 ?_ ?_|refine za ?_ ?_)
theorem qT{op:BinOp}{m n:ByteArray}{K:List SV->Option R}:fQ op m n K=(fQ op m n some).bind K:=by
 unfold fQ
 cases op<;>simp only<;>repeat(first|rfl|refine z0 ?_ ?_|refine za ?_ ?_)
theorem qQ{E:Env}{op:BinOp}{T:TypeId}{x y:SV}{K:List SV->Option R}:fO E op T x y K=(fO E op T x y some).bind K:=by
 unfold fO
 split
 ·refine za rfl (zd fun a=>zd fun b=> ?_)
  split
  ·cases op<;>rfl
  ·rfl
 ·rfl
theorem AV{E:Env}{op:BinOp}{T:TypeId}{x y:SV}{S:Type}{F:List SV->Option R}{G:List SV->Option S}{K:S->Option R}(h:∀l,F l=(G l).bind K):bin E op T x y F=(bin E op T x y G).bind K:=by
 unfold bin
 split
 ·rw[qR,qR (K:=G),Option.bind_assoc];congr;funext l;exact h l
 ·rw[qT,qT (K:=G),Option.bind_assoc];congr;funext l;exact h l
 ·refine za rfl ?_;cases op<;>simp only<;>first|exact h _|rfl
 ·refine za rfl ?_;cases op<;>simp only<;>first|exact h _|rfl
 ·rw[qQ,qQ (K:=G),Option.bind_assoc];congr;funext l;exact h l
theorem z24{S:Type}{i:Int}{n:Nat}{x:Option R}{x':Option S}{K:S->Option R}(h:x=x'.bind K):zf i n x=(zf i n x').bind K:=by
 unfold zf
 exact z0 (z0 h rfl) rfl
theorem qq{S:Type}{lo:Option SV}{m:Nat}{F:Nat->Option R}{G:Nat->Option S}{K:S->Option R}(h:∀l,F l=(G l).bind K):jk lo m F=(jk lo m G).bind K:=by
 unfold jk
 cases lo with
 |none=>exact h _
 |some v=>exact zd fun y=>z0 (z0 (h _) rfl) rfl
theorem tZ{S:Type}{lo hi:Option SV}{n:Nat}{F:Nat->Nat->Option R}{G:Nat->Nat->Option S}{K:S->Option R}(h:∀l h,F l h=(G l h).bind K):cutAt lo hi n F=(cutAt lo hi n G).bind K:=by
 unfold cutAt
 cases hi with
 |none=>exact qq fun l=>h _ _
 |some w=>exact zd fun y=>z0 (z0 (qq fun l=>h _ _) rfl) rfl
theorem z76{S:Type}{t:Ty}{F:El t->List (List Nat)->Option R}{G:El t->List (List Nat)->Option S}{K:S->Option R}(h:∀y o,F y o=(G y o).bind K):∀(l:List (Nat×SV×List (List Nat))) (x:El t) (own:List (List Nat)),ga t x own l F=(ga t x own l G).bind K
 | [],x,own=>by simpa [ga] using h x own
 |(i,v,ov)::r,x,own=>by
  simp only[ga]
  refine za rfl ?_
  split
  ·refine zd fun y=> ?_
   split
   ·exact z76 h r _ _
   ·rfl
  ·rfl
theorem tK{S:Type}{t:Ty}{F:List (El t)->Option R}{G:List (El t)->Option S}{K:S->Option R}(h:∀y,F y=(G y).bind K):∀(l:List (Nat×SV)) (x:List (El t)),jQ t x l F=(jQ t x l G).bind K
 | [],x=>by simpa [jQ] using h x
 |(i,v)::r,x=>by
  simp only[jQ]
  exact za rfl (zd fun y=>tK h r _)
variable {S:Type} {F:Out->Option R} {G:Out->Option S} {K:S->Option R}
theorem xI{u:Ty}{s:State}{id:Nat}{t:Ty}{p:List Nat}(h:∀y,F y=(G y).bind K):kx u s id t p F=(kx u s id t p G).bind K:=by
 unfold kx
 split
 ·split
  ·split
   ·exact za (z0 (h _) rfl) rfl
   ·rfl
  ·rfl
 ·rfl
theorem xx{u:Ty}{s:State}{id:Nat}{t:Ty}{p:List Nat}{v:SV}(h:∀y,F y=(G y).bind K):kv u s id t p v F=(kv u s id t p v G).bind K:=by
 unfold kv
 split
 ·split
  ·split
   ·exact za (zd fun y=>z0 (h _) rfl) rfl
   ·rfl
  ·rfl
 ·rfl
theorem xw{t:Ty}{n:Int}{id:Nat}{r:Ty}{p:List Nat}(h:∀y,F y=(G y).bind K):mP t n id r p F=(mP t n id r p G).bind K:=by
 unfold mP
 split
 ·exact za (z24 (h _)) rfl
 ·rfl
theorem xH{u:Ty}{B:aI}{t:Ty}{p:List Nat}(h:∀y,F y=(G y).bind K):z37 u B t p F=(z37 u B t p G).bind K:=by
 unfold z37
 split
 ·split
  ·exact za (z0 (h _) rfl) rfl
  ·rfl
 ·rfl
theorem Ao{E:Env}{T:TypeId}{s:State}{la:Bool}{v:SV}(h:∀y,F y=(G y).bind K):load E T s la v F=(load E T s la v G).bind K:=by
 unfold load
 split
 ·split
  ·exact za (h _) rfl
  ·refine za (xI h) ?_
   split
   ·refine za ?_ (xH h)
    split
    ·exact za (z0 (h _) (h _)) rfl
    ·rfl
   ·rfl
  ·rfl
 ·rfl
theorem y7{E:Env}{T:TypeId}{s:State}{v:SV}{x:Operand}(h:∀y,F y=(G y).bind K):store E T s v x F=(store E T s v x G).bind K:=by
 unfold store
 split
 ·split
  ·refine za (xx h) ?_
   split
   ·refine za ?_ rfl
    split
    ·refine za (zd fun y=> ?_) rfl
     split
     ·exact h _
     ·rfl
    ·rfl
   ·rfl
  ·rfl
 ·rfl
theorem x3{t:Option Ty}{v:SV}{j:Nat}(h:∀y,F y=(G y).bind K):m6 t v j F=(m6 t v j G).bind K:=by
 unfold m6
 split
 ·refine za rfl ?_
  split
  ·refine za ?_ rfl
   split
   ·exact za rfl (h _)
   ·rfl
  ·rfl
 ·refine za ?_ rfl
  split
  ·exact za rfl (h _)
  ·rfl
 ·rfl
theorem rj{v:SV}{F':Int->Option R}{G':Int->Option S}{K:S->Option R}(h:∀n,F' n=(G' n).bind K):v.num F'=(v.num G').bind K:=by
 unfold SV.num
 split
 ·exact h _
 ·rfl
theorem x7{E:Env}{T:TypeId}{v i:SV}(h:∀y,F y=(G y).bind K):m8 E T v i F=(m8 E T v i G).bind K:=by
 unfold m8
 refine rj fun n=> ?_
 split
 ·exact zd fun y=>z24 (h _)
 ·refine za rfl ?_
  split
  ·exact za (z24 (h _)) rfl
  ·rfl
 ·exact zd fun y=>z24 (h _)
 ·exact xw h
 ·rfl
theorem x8{E:Env}{T:TypeId}{v i:SV}(h:∀y,F y=(G y).bind K):z51 E T v i F=(z51 E T v i G).bind K:=by
 unfold z51
 refine rj fun n=> ?_
 split
 ·exact zd fun y=>z24 (h _)
 ·exact zd fun y=>z24 (h _)
 ·rfl
theorem Ab{E:Env}{T:TypeId}{v:SV}{lo hi:Option SV}(h:∀y,F y=(G y).bind K):fT E T v lo hi F=(fT E T v lo hi G).bind K:=by
 unfold fT
 split
 ·exact zd fun y=>tZ fun _ _=>h _
 ·exact zd fun y=>tZ fun _ _=>h _
 ·rfl
theorem xA{E:Env}{T U:TypeId}{bo:Operand}{b x:SV}(h:∀y,F y=(G y).bind K):mS E T U bo b x F=(mS E T U bo b x G).bind K:=by
 unfold mS
 refine za rfl ?_
 split
 ·refine za rfl ?_
  split
  ·exact zd fun y=>z0 (h _) rfl
  ·exact za rfl (zd fun y=>zd fun z=>z0 (h _) rfl)
  ·rfl
 ·rfl
theorem An{E:Env}{T:TypeId}{x:SV}(h:∀y,F y=(G y).bind K):gX E T x F=(gX E T x G).bind K:=by
 unfold gX
 split
 ·exact zd fun y=>h _
 ·split
  ·exact h _
  ·exact zd fun y=>h _
 ·exact h _
 ·rfl
theorem yw{E:Env}{S' T:TypeId}{x:SV}(h:∀y,F y=(G y).bind K):dQ E S' T x F=(dQ E S' T x G).bind K:=by
 unfold dQ
 split
 ·exact zd fun y=>h _
 ·exact zd fun y=>h _
 ·exact zd fun y=>h _
 ·rfl
theorem yu{E:Env}{S' T:TypeId}{s:State}{id n:Nat}{a b:Ty}(h:∀y,F y=(G y).bind K):dn E S' T s id n a b F=(dn E S' T s id n a b G).bind K:=by
 unfold dn
 split
 ·refine za ?_ rfl
  split
  ·split
   ·exact z0 (h _) rfl
   ·rfl
  ·rfl
 ·rfl
theorem qY{s:State}{dst:Option Nat}{t:Ty}{x:El t}{p:Ty}(h:∀y,F y=(G y).bind K):dC s dst t x p F=(dC s dst t x p G).bind K:=by
 unfold dC
 split
 ·split
  ·exact h _
  ·rfl
 ·rfl
theorem tQ{s:State}{m:SV}{kt vt:Ty}{F:Nat->List (El kt×El vt)->Option R}{G:Nat->List (El kt×El vt)->Option S}{K:S->Option R}(h:∀n y,F n y=(G n y).bind K):iv s m kt vt F=(iv s m kt vt G).bind K:=by
 unfold iv
 split
 ·refine za ?_ rfl
  split
  ·split
   ·exact h _ _
   ·rfl
  ·rfl
 ·rfl
theorem yN{E:Env}{T:TypeId}{s:State}{m i:SV}(h:∀y,F y=(G y).bind K):dV E T s m i F=(dV E T s m i G).bind K:=by
 unfold dV
 split
 ·exact tQ fun _ _=>zd fun _=>h _
 ·rfl
theorem u9{E:Env}{T:TypeId}{s:State}{m i v:SV}(h:∀y,F y=(G y).bind K):eC E T s m i v F=(eC E T s m i v G).bind K:=by
 unfold eC
 split
 ·exact tQ fun _ _=>zd fun _=>zd fun _=>z0 rfl (h _)
 ·rfl
theorem yQ{s:State}{m:SV}(h:∀y,F y=(G y).bind K):dX s m F=(dX s m G).bind K:=by
 unfold dX
 split
 ·split
  ·split
   ·exact z0 (h _) (h _)
   ·rfl
  ·rfl
 ·rfl
theorem yP{E:Env}{T:TypeId}{s:State}{dst:Option Nat}{lo:Operand}{l c:SV}(h:∀y,F y=(G y).bind K):dW E T s dst lo l c F=(dW E T s dst lo l c G).bind K:=by
 unfold dW
 split
 ·exact za rfl (zd fun n=>zd fun m=>z0 (z0 (z0 (z0 (h _) rfl) rfl) rfl) (z0 (z0 (z0 (qY h) rfl) rfl) rfl))
 ·rfl
theorem Bb{op:UnOp}{x:SV}(h:∀y,F y=(G y).bind K):mF op x F=(mF op x G).bind K:=by
 unfold mF
 split
 ·exact h _
 ·exact h _
 ·rfl
end
abbrev ay:=(R:Type)->FuncId->aK R
def ay.Nat(C:ay):Prop:=∀(R S:Type) (f:FuncId) l b (F:List SV->Option aI->Option R) (G:List SV->Option aI->Option S) (K:S->Option R),(∀r b,F r b=(G r b).bind K)->C R f l b F=(C S f l b G).bind K
section
variable {R S:Type} {F:Out->Option R} {G:Out->Option S} {K:S->Option R} {C:ay}
theorem nL(hC:C.Nat){s:State}{dst:Option Nat}{f:FuncId}{vs:List SV}(h:∀y,F y=(G y).bind K):b9 (C R) s dst f vs F=(b9 (C S) s dst f vs G).bind K:=by
 unfold b9
 split
 ·refine hC R S f _ _ _ _ K fun r b=> ?_
  split
  ·exact h _
  ·split
   ·split
    ·exact h _
    ·rfl
   ·rfl
 ·refine hC R S f _ _ _ _ K fun r b=> ?_
  split
  ·exact za (h _) rfl
  ·rfl
 ·rfl
theorem yt{f:FuncId}{x:SV}(h:∀y,F y=(G y).bind K):eH f x F=(eH f x G).bind K:=by
 unfold eH
 split
 ·exact za rfl (h _)
 ·rfl
theorem zV{f:FuncId}{x y:SV}(h:∀y,F y=(G y).bind K):gq f x y F=(gq f x y G).bind K:=by
 unfold gq
 split
 ·exact h _
 ·rfl
theorem Aa{n id:Nat}{a b:Ty}{lo hi:Option SV}(h:∀y,F y=(G y).bind K):gu n id a b lo hi F=(gu n id a b lo hi G).bind K:=by
 unfold gu
 split
 ·rfl
 ·exact qq fun l=>h _
theorem tY{t:Ty}{s:State}{id n lo:Nat}{a b:Ty}{x:SV}{e:TypeId}(h:∀y,F y=(G y).bind K):cF t s id n lo a b x e F=(cF t s id n lo a b x e G).bind K:=by
 unfold cF
 refine za (zd fun ys=> ?_) rfl
 split
 ·split
  ·exact z0 (z0 (h _) rfl) rfl
  ·rfl
 ·rfl
theorem zZ{E:Env}{T:TypeId}{s:State}{id n:Nat}{t:Ty}{lo hi:Option SV}(h:∀y,F y=(G y).bind K):fS E T s id n t lo hi F=(fS E T s id n t lo hi G).bind K:=by
 unfold fS
 split
 ·refine za ?_ rfl
  split
  ·split
   ·exact h _
   ·rfl
  ·rfl
 ·rfl
theorem yx{t:Ty}{s:State}{id n:Nat}{a b:Ty}{y:ByteArray}(h:∀y,F y=(G y).bind K):dp t s id n a b y F=(dp t s id n a b y G).bind K:=by
 unfold dp
 refine za (za ?_ rfl) rfl
 split
 ·split
  ·exact z0 (h _) rfl
  ·rfl
 ·rfl
theorem yy{E:Env}{T:TypeId}{s:State}{d x:SV}(h:∀y,F y=(G y).bind K):copyV E T s d x F=(copyV E T s d x G).bind K:=by
 unfold copyV
 split
 ·split
  ·exact yx h
  ·exact tY h
 ·exact tY h
 ·rfl
theorem uq{g:Bool}{x y:SV}(h:∀y,F y=(G y).bind K):dB g x y F=(dB g x y G).bind K:=by
 unfold dB
 split
 ·exact h _
 ·rfl
theorem uT{E:Env}{T:TypeId}(h:∀y,F y=(G y).bind K):fo E T F=(fo E T G).bind K:=by
 unfold fo
 split
 ·exact h _
 ·exact h _
theorem jh(hC:C.Nat){E:Env}{ops:List Oper}{o:Oper}{s:State}(h:∀y,F y=(G y).bind K):act E (C R) ops o s F=(act E (C S) ops o s G).bind K:=by
 unfold act
 split
 ·split
  ·exact z0 (h _) (h _)
  ·split
   ·exact z0 (h _) (h _)
   ·rfl
   ·exact uT h
   ·exact h _
 ·split
  ·exact h _
  ·rfl
  ·exact uT h
  ·exact h _
 ·split
  ·exact z0 (h _) (h _)
  ·rfl
 ·exact AV fun l=>h _
 ·exact Bb h
 ·split
  ·exact yu h
  ·exact yw h
 ·exact Ao h
 ·exact y7 h
 ·split
  ·exact za rfl (h _)
  ·exact h _
  ·rfl
 ·exact x3 h
 ·exact x7 h
 ·exact x8 h
 ·split
  ·refine za rfl (zd fun y=> ?_)
   split
   ·exact h _
   ·rfl
  ·rfl
 ·split
  ·split
   ·exact za (Aa h) rfl
   ·rfl
  ·exact zZ h
  ·exact Ab h
 ·split
  ·exact yt h
  ·exact zV h
  ·rfl
 ·split
  ·split
   ·exact h _
   ·rfl
  ·split
   ·split
    ·exact h _
    ·rfl
   ·rfl
  ·rfl
 ·split
  ·split
   ·exact zd fun y=>h _
   ·rfl
  ·rfl
 ·split
  ·exact za rfl (z76 (fun y o=>h _) _ _ _)
  ·rfl
 ·split
  ·exact za rfl (z0 (tK (fun y=>h _) _ _) rfl)
  ·rfl
 ·split
  ·refine za ?_ ?_
   ·split
    ·exact h _
    ·rfl
   split
   ·exact h _
   ·rfl
   ·exact h _
   ·rfl
  ·rfl
 ·split
  ·exact qY h
  ·rfl
 ·exact yN h
 ·exact u9 h
 ·exact u9 h
 ·split
  ·exact zd fun y=>qY h
  ·rfl
 ·exact yQ h
 ·exact yP h
 ·exact nL hC fun u=>h _
 ·split
  ·exact za rfl (nL hC h)
  ·exact nL hC h
  ·rfl
 ·split
  ·exact yy h
  ·rfl
 ·split
  ·exact An h
  ·rfl
 ·split
  ·exact xA h
  ·rfl
 ·split
  ·exact uq h
  ·rfl
 ·split
  ·exact uq h
  ·rfl
 ·rfl
end
section
variable {R S:Type} {F:State->Option R} {G:State->Option S} {K:S->Option R} {C:ay}
theorem re(hC:C.Nat){E:Env}{ops:List Oper}{o:Oper}{s:State}(h:∀y,F y=(G y).bind K):step E (C R) ops o s F=(step E (C S) ops o s G).bind K:=by
 unfold step
 simp only
 split
 ·exact jh hC fun y=>h _
 ·split
  ·rfl
  ·split
   ·exact z0 (z0 (jh hC fun y=>h _) (h _)) (z0 (h _) (jh hC fun y=>h _))
   ·exact h _
   ·rfl
theorem mN(hC:C.Nat){E:Env}{ops:List Oper}(h:∀y,F y=(G y).bind K):∀(l:List Oper) (s:State),steps E (C R) ops l s F=(steps E (C S) ops l s G).bind K
 | [],s=>h s
 |o::r,s=>by
  simp only[steps]
  exact re hC fun s=>mN hC h r s
theorem y5(hC:C.Nat){E:Env}{ops:List Oper}{o:Oper}{i:Nat}{s:State}{tr:List bK}{F:State->List bK->Option R}{G:State->List bK->Option S}(h:∀y t,F y t=(G y t).bind K):ea E (C R) ops o i s tr F=(ea E (C S) ops o i s tr G).bind K:=by
 unfold ea
 simp only
 split
 ·exact jh hC fun y=>z0 (h _ _) rfl
 ·split
  ·rfl
  ·split
   ·exact z0 (z0 (jh hC fun y=>z0 (h _ _) rfl) (z0 (h _ _) rfl)) (z0 (z0 (h _ _) rfl) (jh hC fun y=>z0 (h _ _) rfl))
   ·exact z0 (h _ _) rfl
   ·rfl
theorem qw(hC:C.Nat){E:Env}{ops:List Oper}(h:∀y,F y=(G y).bind K):∀(l:List Oper) (i:Nat) (s:State) (tr:List bK),jS E (C R) ops l i s tr F=(jS E (C S) ops l i s tr G).bind K
 | [],i,s,tr=>h s
 |o::r,i,s,tr=>by
  simp only[jS]
  exact y5 hC fun s tr=>qw hC h r (i+1) s tr
theorem mI{l:List Nat}{s:State}(h:∀y,F y=(G y).bind K):hM l s F=(hM l s G).bind K:=by
 unfold hM
 exact z0 (h _) rfl
end
theorem yM{R S:Type}{k:Nat}{F:Unit->Option R}{G:Unit->Option S}{K:S->Option R}(h:F ()=(G ()).bind K):eQ k F=(eQ k G).bind K:=by
 unfold eQ
 cases k
 ·rfl
 ·exact h
theorem Ap{R S:Type}{F:State->Option R}{G:State->Option S}{K:S->Option R}{E:Env}{k r:Nat}{s:State}(h:∀y,F y=(G y).bind K):eS E k r s F=(eS E k r s G).bind K:=by
 unfold eS
 split
 ·exact h _
 ·exact mI fun s=>yM (h _)
theorem AE{R S:Type}{F:State->Option R}{G:State->Option S}{K:S->Option R}{E:Env}{r:Nat}{s:State}(h:∀y,F y=(G y).bind K):fZ E r s F=(fZ E r s G).bind K:=by
 unfold fZ
 split
 ·exact h _
 ·split
  ·refine za ?_ rfl
   split
   ·split
    ·exact z0 (h _) rfl
    ·rfl
   ·rfl
  ·rfl
theorem tA{R S:Type}{F:State->Option R}{G:State->Option S}{K:S->Option R}(h:∀y,F y=(G y).bind K):∀(l:List Nat) (s:State),ld l s F=(ld l s G).bind K
 | [],s=>h s
 |id::r,s=>by
  simp only[ld]
  unfold n0
  split
  ·exact za rfl (tA h r _)
  ·rfl
section
variable {R S:Type} {F:Ex->State->Option R} {G:Ex->State->Option S} {K:S->Option R} {C:ay}
theorem uo{body:State->(Ex->State->Option R)->Option R}{body':State->(Ex->State->Option S)->Option S}{l lx:List Nat}
 (hb:∀(F:Ex->State->Option R) (G:Ex->State->Option S),(∀e s,F e s=(G e s).bind K)->∀s,body s F=(body' s G).bind K) (h:∀e s,F e s=(G e s).bind K):
 ∀(k:Nat) (s:State),bU body l lx k s F=(bU body' l lx k s G).bind K
 |0,_=>rfl
 |k+1,s=>by
  simp only[bU]
  refine hb _ _ (fun e s=> ?_) s
  cases e with
  |normal=>exact mI fun s=>uo hb h k s
  |exit id=>exact mI fun s=>h _ _
  |ret=>exact mI fun s=>h _ _
theorem u5{E:Env}{q:Nat×Nat×Nat}{ops:List Oper}{s:State}{F:State->Option R}{G:State->Option S}{K:S->Option R}(h:∀s,F s=(G s).bind K):eb E q ops s F=(eb E q ops s G).bind K:=by
 unfold eb
 refine z0 (z0 ?_ rfl) rfl
 split
 ·refine z0 (z0 ?_ rfl) rfl
  unfold zf
  exact z0 (z0 (h _) rfl) rfl
 ·rfl
theorem yW{E:Env}{oA oS:Oper}{s:State}{F:State->Option R}{G:State->Option S}{K:S->Option R}(h:∀s,F s=(G s).bind K):c9 E oA oS s F=(c9 E oA oS s G).bind K:=by
 unfold c9
 split
 ·refine z0 ?_ rfl
  unfold hD
  split
  ·refine z0 ?_ rfl
   split
   ·refine z0 (rj fun n=>zd fun y=> ?_) rfl
    unfold zf
    exact z0 (z0 (h _) rfl) rfl
   ·rfl
  ·rfl
 ·rfl
theorem uX(hC:C.Nat){E:Env}{ops:List Oper}{s:State}{F:State->Option R}{G:State->Option S}(h:∀s,F s=(G s).bind K):dZ E (C R) ops s F=(dZ E (C S) ops s G).bind K:=by
 unfold dZ
 split
 ·exact mN hC (fun s=>yW h) _ _
 ·rfl
theorem iu(hC:C.Nat){E:Env}{k:Nat}:∀(c:Code) (F:Ex->State->Option R) (G:Ex->State->Option S),(∀e s,F e s=(G e s).bind K)->∀s,ev E (C R) k c s F=(ev E (C S) k c s G).bind K
 | .skip,F,G,h,s=>h _ _
 | .region i ops d,F,G,h,s=>by
   simp only[ev]
   have key:lg E (C R) i ops d s (F .normal)=(lg E (C S) i ops d s (G .normal)).bind K:=AE fun s=>tA (fun s=>z0 (qw hC (fun s=>h _ _) _ _ _ _) (mN hC (fun s=>h _ _) _ _)) _ _
   split
   ·refine z0 ?_ key
    cases d with
    |true=>rfl
    |false=>exact z0 (uX hC fun s=>h _ _) (u5 fun s=>h _ _)
   ·exact key
 | .seq a b,F,G,h,s=>by
   simp only[ev]
   refine iu hC a _ _ (fun e s=> ?_) s
   cases e with
   |normal=>exact Ap fun s=>iu hC b _ _ h s
   |exit id=>exact h _ _
   |ret=>exact h _ _
 | .cond c a b,F,G,h,s=>by
   simp only[ev]
   split
   ·exact z0 (iu hC a _ _ h _) (iu hC b _ _ h _)
   ·rfl
 | .block id b,F,G,h,s=>by
   simp only[ev]
   refine iu hC b _ _ (fun e s=> ?_) s
   cases e with
   |normal=>exact h _ _
   |exit j=>exact z0 (h _ _) (h _ _)
   |ret=>exact h _ _
 | .loop b,F,G,h,s=>by
   simp only[ev]
   exact mI fun s=>uo (fun F G h s=>iu hC b F G h s) h k s
 | .exit id,F,G,h,s=>h _ _
 | .ret,F,G,h,s=>h _ _
 | .rangeFunc ..,F,G,h,s=>rfl
 | .scope _,F,G,h,s=>rfl
 | .label _,F,G,h,s=>rfl
 | .goto _,F,G,h,s=>rfl
 | .refuse _,F,G,h,s=>rfl
end
theorem zo{R S:Type}{x:Option R}{y:Option S}{K:S->Option R}(h:x=y.bind K){z:R}(hz:x=some z):∃w,y=some w/\K w=some z:=by
 rw[h] at hz
 exact Option.bind_eq_some_iff.1 hz
end Go.Ref

namespace Go.Ref
open Go
def bN(t:Ty)(cs:List Value):Value:=if t.agg=true then .agg cs.toArray else cs.headD undef
def aE(X:ah)(pl:Place)(e:TypeId)(k n:Nat)(v:Value):Prop:=
 (v= .slice none 0 0/\n=0)\/∃g cap cur,v= .slice (some ⟨g,0,none⟩) n cap/\X.w.heap[g]? =some (.cells cur e (0,0))/\n<=cap/\cap<=maxLen/\cur.size=cap*k/\X.ow g= .row pl (n*k)
def aD(X:ah)(pl:List Nat->Place)(t:Ty)(x:El t)(cs:List Value)(own:List (List Nat)):Prop:=
 ∀p∈own,∃e t' xs v,t.b6 p/\El.get t p x=some ⟨.sl e t',xs⟩/\cs[t.off p]? =some v/\aE X (pl p) e t'.cells (List.length xs) v
def fp(t:Ty)(p:List Nat)(r:Nat)(v:Value):Prop:=
 match t,p with
 | .aG .mp _ _,_=>v= .map (some r)
 | .aG (.dI n) _ _,[]=>∃cap,v= .slice (some ⟨r,0,none⟩) n cap/\n<=cap
 | .aG (.dI n) a _,[l]=>∃cap off,v= .slice (some ⟨r,off,none⟩) (n-l) cap/\n-l<=cap/\l<=n/\((n=l/\off=0)\/off=l*a.cells)
 | .aG (.kH f) _ _,[]=>v= .func (.func f) #[] #[.pointer (some ⟨r,0,none⟩)]
 | .aG .row a _,[i]=>v= .pointer (some ⟨r,i*a.cells,none⟩)
 |t,p=>v= .pointer (some ⟨r,t.off p,none⟩)/\t.b6 p
theorem zq{t:Ty}{p:List Nat}{r:Nat}{v:Value}(h:t.aJ=false):fp t p r v↔v= .pointer (some ⟨r,t.off p,none⟩)/\t.b6 p:=by
 unfold fp
 split
 all_goals first
  |exact Iff.rfl
  |simp [Ty.aJ] at h
theorem q6{t:Ty}{p:List Nat}{r:Nat}{v:Value}(h:t.fG=false):fp t p r v↔v= .pointer (some ⟨r,t.off p,none⟩)/\t.b6 p:=by
 unfold fp
 split
 all_goals first
  |exact Iff.rfl
  |simp [Ty.fG] at h
def ai(X:ah)(pl:List Nat->Place):SV->Value->Prop
 | .undef,_=>True
 | .skip,v=>v=Go.undef
 | .bc,v=>v= .slice none 0 0
 | .cK,v=>v= .pointer none
 | .al t x own,v=>∃cs,aA X t x cs/\v=bN t cs/\aD X pl t x cs own
 | .ptr id t p,v=>∃r,X.β id=some r/\fp t p r v
 | .view t x,v=>∃ad cs,v= .pointer (some ad)/\ad.spot=none/\aA X t x cs/\∀i u,cs[i]? =some u->X.aj (ad.add i) u
 | .cap f t x u y,v=>∃ad fA cs bT,v= .func (.func f) #[] #[.pointer (some ad),.pointer (some fA)]/\(ad.spot=none/\aA X t x cs/\∀i w,cs[i]? =some w->X.aj (ad.add i) w)/\(fA.spot=none/\aA X u y bT/\∀i w,bT[i]? =some w->X.aj (fA.add i) w)
 | .over,v=>v= .tuple #[.bool false]
theorem ii{X Y:ah}{pl dj:List Nat->Place}(h:∀a v,X.aj a v->Y.aj a v){f:Nat}{t u:Ty}{x:El t}{y:El u}{v:Value}(hr:ai X pl (.cap f t x u y) v):ai Y dj (.cap f t x u y) v:=by
 obtain⟨ad,fA,cs,bT,h1,⟨h2,h3,h4⟩,h5,h6,h7⟩:=hr
 exact⟨ad,fA,cs,bT,h1,⟨h2,h3.af h,fun i w hi=>h _ _ (h4 i w hi)⟩,h5,h6.af h,fun i w hi=>h _ _ (h7 i w hi)⟩
def bm(X:ah)(pl:Nat->List Nat->Place)(l:List SV)(v:Value):Prop:=
 match l with
 | [s]=>ai X (pl 0) s v
 |l=>∃vs:Array Value,v= .tuple vs/\vs.size=l.length/\∀(j:Nat) s u,l[j]? =some s->vs[j]? =some u->ai X (pl j) s u
def bL(X:ah)(t:Ty)(x:El t)(v:Value):Prop:=∃cs,aA X t x cs/\v=bN t cs
def bG(X:ah)(r:Nat)(pl:List Nat->Place):(t:Ty)->El t->List (List Nat)->Prop
 | .aG .iter _ _,x,_=>X.w.heap[r]? =some (.stringIter x.1 x.2)
 | .aG .mp kt vt,x,_=>∃es clock,X.w.heap[r]? =some (.map es clock)/\es.size=List.length x/\∀(i:Nat) (q:El kt×El vt) (e:MapEntry),x[i]? =some q->es[i]? =some e->bL X kt q.1 e.key/\bL X vt q.2 e.val
 | .aG .row t _,xs,_=>∃cs T,X.w.heap[r]? =some (.cells cs T (0,0))/\cs.size=List.length xs*t.cells/\∀(j:Nat) (x:El t),xs[j]? =some x->aA X t x ((cs.toList.drop (j*t.cells)).take t.cells)
 | .aG (.gp T e) _ _,x,own=>(∃o,X.w.heap[r]? =some o)/\([]∈own->∃v,kD T e r v (Lib.strCells x) X.w/\∀g,v.ownBlock=some g->X.ow g= .row (pl []) 0)
 | .aG _ _ _,_,_=>False
 |t,x,own=>∃cs T,X.w.heap[r]? =some (.cells cs T (0,0))/\aA X t x cs.toList/\aD X pl t x cs.toList own
theorem bG.plain{X:ah}{r:Nat}{pl:List Nat->Place}{t:Ty}{x:El t}{own:List (List Nat)}(hs:t.aJ=false):bG X r pl t x own↔∃cs T,X.w.heap[r]? =some (.cells cs T (0,0))/\aA X t x cs.toList/\aD X pl t x cs.toList own:=by
 cases t<;>first|exact Iff.rfl|simp [Ty.aJ] at hs
theorem bG.of{X:ah}{r:Nat}{pl:List Nat->Place}{t:Ty}{x:El t}{own:List (List Nat)}{cs:Array Value}{T:TypeId}(hs:t.aJ=false)(h1:X.w.heap[r]? =some (.cells cs T (0,0)))(h2:aA X t x cs.toList)(h3:aD X pl t x cs.toList own):bG X r pl t x own:=(bG.plain hs).2 ⟨cs,T,h1,h2,h3⟩
theorem bL.mono{X Y:ah}(h:∀a v,X.aj a v->Y.aj a v){t:Ty}{x:El t}{v:Value}(hr:bL X t x v):bL Y t x v:=by
 obtain⟨cs,h1,h2⟩:=hr
 exact⟨cs,h1.af h,h2⟩
theorem bG.lt{X:ah}{r:Nat}{pl:List Nat->Place}{t:Ty}{x:El t}{own:List (List Nat)}(h:bG X r pl t x own):r<X.w.heap.size:=by
 have key:∀o,X.w.heap[r]? =some o->r<X.w.heap.size:=fun o ho=>(Array.getElem?_eq_some_iff.1 ho).1
 unfold bG at h
 split at h
 ·exact key _ h
 ·obtain⟨es,c,h1,_⟩:=h;exact key _ h1
 ·obtain⟨cs,T,h1,_⟩:=h;exact key _ h1
 ·obtain⟨⟨o,ho⟩,_⟩:=h;exact key _ ho
 ·exact h.elim
 ·obtain⟨cs,T,h1,_⟩:=h;exact key _ h1
theorem bG.move{X Y:ah}{r:Nat}{pl dj:List Nat->Place}{t:Ty}{x:El t}{own:List (List Nat)}(hs:∀a v,X.aj a v->Y.aj a v)(hh:Y.w.heap[r]? =X.w.heap[r]?)
 (ho:∀cs,aD X pl t x cs own->aD Y dj t x cs own) (hg: []∈own->∀g o,X.w.heap[g]? =some o->X.ow g= .row (pl []) 0->Y.w.heap[g]? =some o/\Y.ow g= .row (dj []) 0) (h:bG X r pl t x own):bG Y r dj t x own:=by
 unfold bG at h⊢
 split at h
 ·exact hh.trans h
 ·obtain⟨es,c,h1,h2,h3⟩:=h
  exact⟨es,c,hh.trans h1,h2,fun i q e hq he=>⟨(h3 i q e hq he).1.mono hs,(h3 i q e hq he).2.mono hs⟩⟩
 ·obtain⟨cs,T,h1,h2,h3⟩:=h
  exact⟨cs,T,hh.trans h1,h2,fun j x hj=>(h3 j x hj).af hs⟩
 ·obtain⟨⟨o,h1⟩,h2⟩:=h
  refine⟨⟨o,hh.trans h1⟩,fun hm=> ?_⟩
  obtain⟨v,h3,h4⟩:=h2 hm
  refine⟨v,h3.same hh (fun g o hv ho=>(hg hm g o ho (h4 g hv)).1),fun g hv=> ?_⟩
  obtain⟨cap,cur,kd⟩:∃cap cur,X.w.heap[g]? =some (.cells cur cap (0,0)):=by
   rcases h3.own.2 with⟨hn,_⟩|⟨g',cap,cur,gQ,_,kd,_⟩
   ·rw[hn] at hv;simp [Value.ownBlock] at hv
   ·rw[gQ] at hv
    simp [Value.ownBlock] at hv
    subst hv
    exact⟨_,_,kd⟩
  exact(hg hm g _ kd (h4 g hv)).2
 ·exact h.elim
 ·obtain⟨cs,T,h1,h2,h3⟩:=h
  exact⟨cs,T,hh.trans h1,h2.af hs,ho _ h3⟩
def aH(X:ah)(id r:Nat)(B:aI):Prop:=X.ow r= .box id/\bG X r (.b id) B.t B.x B.own
theorem aH.cells{X:ah}{id r:Nat}{B:aI}(h:aH X id r B)(hs:B.t.aJ=false):∃cs T,X.w.heap[r]? =some (.cells cs T (0,0))/\aA X B.t B.x cs.toList/\X.ow r= .box id/\aD X (.b id) B.t B.x cs.toList B.own:=by
 obtain⟨cs,T,h1,h2,h3⟩:=(bG.plain hs).1 h.2
 exact⟨cs,T,h1,h2,h.1,h3⟩
structure Rel(X:ah)(s:State)(a:Act):Prop where
 size:s.sl.length=a.tmps.size
 cN:s.bs.length=s.sl.length+1
 aM:∀(i:Nat) l v,s.sl[i]? =some l->a.tmps[i]? =some v->bm X (.c i) l v
 boxes:∀(id:Nat) B,s.bs[id]? =some (some B)->∃r,X.β id=some r/\aH X id r B
 live:∀(i:Nat) l id t p,s.sl[i]? =some l->SV.ptr id t p∈l->∃B,s.bs[id]? =some (some B)
 defers:a.defers=[]
theorem lf{w:World}{g:Nat}{o:Obj}(h:w.heap[g]? =some o):g<w.heap.size:=(Array.getElem?_eq_some_iff.1 h).1
theorem bm.dJ{X Y:ah}{pl dj:Nat->List Nat->Place}{l:List SV}{v:Value}(hr:bm X pl l v)(h:∀(j:Nat) s u,l[j]? =some s->ai X (pl j) s u->ai Y (dj j) s u):bm Y dj l v:=by
 match l,hr with
 | [s],hr=>exact h 0 s v (by simp) hr
 | [],⟨vs,h1,h2,h3⟩=>exact⟨vs,h1,h2,fun j s u hs hu=>h j s u hs (h3 j s u hs hu)⟩
 |x::y::r,⟨vs,h1,h2,h3⟩=>exact⟨vs,h1,h2,fun j s u hs hu=>h j s u hs (h3 j s u hs hu)⟩
def bj(s:State):Place->Prop
 | .c i j p=>∃l t x own,s.sl[i]? =some l/\l[j]? =some (.al t x own)/\p∈own
 | .b id p=>∃B,s.bs[id]? =some (some B)/\p∈B.own
 | .r _ _=>False
structure Mod(s:State)(X Y:ah):Prop where
 aj:∀a v,X.aj a v->Y.aj a v
 size:X.w.heap.size<=Y.w.heap.size
 os:Y.w.os=X.w.os
 tape:Y.w.tape=X.w.tape
 output:Y.w.output=X.w.output
 β0:Y.β 0=X.β 0
 β:∀(id:Nat) B,s.bs[id]? =some (some B)->Y.β id=X.β id
 fR:∀g,g<X.w.heap.size->(Y.ow g=X.ow g/\Y.w.heap[g]? =X.w.heap[g]?)\/∃pl n,X.ow g= .row pl n/\¬bj s pl
theorem Mod.ext{s:State}{X Y:ah}(h:Mod s X Y):Ext X Y:=
 ⟨h.aj,h.size,h.os,h.tape,h.output,h.β0,fun g hg bp=>by
   rcases h.fR g hg with e|⟨pl,n,h1,_⟩
   ·exact e
   ·rw[h1] at bp;exact bp.elim⟩
theorem Mod.refl(s:State)(X:ah):Mod s X X:=⟨fun _ _ h=>h,Nat.le_refl _,rfl,rfl,rfl,rfl,fun _ _ _=>rfl,fun _ _=> .inl ⟨rfl,rfl⟩⟩
theorem aE.mod{s:State}{X Y:ah}(h:Mod s X Y){pl:Place}{e:TypeId}{k n:Nat}{v:Value}(hf:bj s pl)(ho:aE X pl e k n v):aE Y pl e k n v:=by
 rcases ho with ho|⟨g,cap,cur,h1,h2,h3,h4,h5,h6⟩
 ·exact .inl ho
 ·rcases h.fR g (lf h2) with⟨k1,k2⟩|⟨dj,n',k1,k2⟩
  ·exact .inr ⟨g,cap,cur,h1,k2.trans h2,h3,h4,h5,k1.trans h6⟩
  ·rw[h6] at k1;injection k1 with k1;rw[k1] at hf;exact absurd hf k2
theorem aD.mod{s:State}{X Y:ah}(h:Mod s X Y){pl:List Nat->Place}{t:Ty}{x:El t}{cs:List Value}{own:List (List Nat)}(hf:∀p∈own,bj s (pl p))(ho:aD X pl t x cs own):aD Y pl t x cs own:=fun p hp=>by
 obtain⟨e,t',xs,v,g0,g1,g2,g3⟩:=ho p hp
 exact⟨e,t',xs,v,g0,g1,g2,g3.mod h (hf p hp)⟩
theorem ai.mod{s:State}{X Y:ah}(h:Mod s X Y){pl:List Nat->Place}{sv:SV}{v:Value}(hf:∀t x own,sv= .al t x own->∀p∈own,bj s (pl p))(hl:∀id t p,sv= .ptr id t p->∃B,s.bs[id]? =some (some B))(hr:ai X pl sv v):ai Y pl sv v:=by
 cases sv with
 |undef=>trivial
 |skip=>exact hr
 |bc=>exact hr
 |cK=>exact hr
 |over=>exact hr
 |al t x own=>
  obtain⟨cs,h1,h2,h3⟩:=hr
  exact⟨cs,h1.af h.aj,h2,h3.mod h (hf t x own rfl)⟩
 |ptr id t p=>
  obtain⟨r,h1,h2⟩:=hr
  obtain⟨B,hB⟩:=hl id t p rfl
  exact⟨r,(h.β id B hB).trans h1,h2⟩
 |view t x=>
  obtain⟨ad,cs,h1,h2,h3,h4⟩:=hr
  exact⟨ad,cs,h1,h2,h3.af h.aj,fun i u hi=>h.aj _ _ (h4 i u hi)⟩
 |cap f t x u y=>exact ii h.aj hr
theorem Rel.mod{s:State}{X Y:ah}{a:Act}(hr:Rel X s a)(h:Mod s X Y):Rel Y s a where
 size:=hr.size
 cN:=hr.cN
 aM:=fun i l v hl hv=>(hr.aM i l v hl hv).dJ fun j sv u hm dH=>dH.mod h (fun t x own e p hp=>⟨l,t,x,own,hl,e▸hm,hp⟩) (fun id t p e=>hr.live i l id t p hl (e▸List.mem_of_getElem? hm))
 boxes:=fun id B hB=>by
  obtain⟨r,h1,h4,h2⟩:=hr.boxes id B hB
  have hk:Y.ow r=X.ow r/\Y.w.heap[r]? =X.w.heap[r]? :=by
   rcases h.fR r h2.lt with hk|⟨dj,n',k1,k2⟩
   ·exact hk
   ·rw[h4] at k1;cases k1
  exact⟨r,(h.β id B hB).trans h1,hk.1.trans h4,h2.move h.aj hk.2 (fun cs h5=>h5.mod h fun p hp=>⟨B,hB,hp⟩) fun hm g o ho hw=>by
   rcases h.fR g (lf ho) with e|⟨pl,n,e1,e2⟩
   ·exact⟨e.2.trans ho,e.1.trans hw⟩
   ·rw[hw] at e1;injection e1 with e1;exact absurd (e1▸(⟨B,hB,hm⟩:bj s (.b id []))) e2⟩
 live:=hr.live
 defers:=hr.defers
structure b5(s:State)(X Y:ah):Prop where
 size:X.w.heap.size<=Y.w.heap.size
 os:Y.w.os=X.w.os
 tape:Y.w.tape=X.w.tape
 output:Y.w.output=X.w.output
 fR:∀g,g<X.w.heap.size->Y.ow g=X.ow g/\Y.w.heap[g]? =X.w.heap[g]?
 β0:Y.β 0=X.β 0
 β:∀(id:Nat) B,s.bs[id]? =some (some B)->Y.β id=X.β id
theorem b5.aj{s:State}{X Y:ah}(h:b5 s X Y){a:Addr}{v:Value}(hs:X.aj a v):Y.aj a v:=by
 have aw:=ah.eA hs
 obtain⟨h1,h2⟩:=h.fR _ aw
 refine⟨hs.1,?_,?_⟩
 ·have:=hs.2.1
  simp only[World.cell?] at this⊢
  rw[h2];exact this
 ·rw[h1];exact hs.2.2
theorem b5.mod{s:State}{X Y:ah}(h:b5 s X Y):Mod s X Y:=
 ⟨fun _ _=>h.aj,h.size,h.os,h.tape,h.output,h.β0,h.β,fun g hg=> .inl (h.fR g hg)⟩
theorem b5.ext{s:State}{X Y:ah}(h:b5 s X Y):Ext X Y:=h.mod.ext
theorem aE.bQ{s:State}{X Y:ah}(h:b5 s X Y){pl:Place}{e:TypeId}{k n:Nat}{v:Value}(ho:aE X pl e k n v):aE Y pl e k n v:=by
 rcases ho with ho|⟨g,cap,cur,h1,h2,h3,h4,h5,h6⟩
 ·exact .inl ho
 ·obtain⟨k1,k2⟩:=h.fR g (lf h2)
  exact .inr ⟨g,cap,cur,h1,k2.trans h2,h3,h4,h5,k1.trans h6⟩
theorem aD.bQ{s:State}{X Y:ah}(h:b5 s X Y){pl:List Nat->Place}{t:Ty}{x:El t}{cs:List Value}{own:List (List Nat)}(ho:aD X pl t x cs own):aD Y pl t x cs own:=fun p hp=>by
 obtain⟨e,t',xs,v,g0,g1,g2,g3⟩:=ho p hp
 exact⟨e,t',xs,v,g0,g1,g2,g3.bQ h⟩
theorem Rel.bQ{s:State}{X Y:ah}{a:Act}(hr:Rel X s a)(h:b5 s X Y):Rel Y s a:=hr.mod h.mod
theorem Rel.put{X:ah}{s:State}{a:Act}(hr:Rel X s a){d:Option Nat}{l:List SV}{v:Value}(h:∀d',d=some d'->bm X (.c d') l v)(hl:∀id t p,SV.ptr id t p∈l->∃B,s.bs[id]? =some (some B)):Rel X (s.au d l) (a.put d v):=by
 cases d with
 |none=>exact hr
 |some d=>
  refine⟨by simpa [State.au,Act.put] using hr.size,by simpa [State.au] using hr.cN,fun i l' v' hi hv=> ?_,hr.boxes,fun i l' id t p hi hm=> ?_,hr.defers⟩
  ·simp only[State.au,List.getElem?_set] at hi
   simp only[Act.put,Array.getElem?_setIfInBounds] at hv
   by_cases e:d=i
   ·subst e
    simp only[if_true] at hi hv
    split at hi
    ·split at hv
     ·cases hi;cases hv;exact h d rfl
     ·cases hv
    ·cases hi
   ·rw[if_neg e] at hi hv
    exact hr.aM i l' v' hi hv
  ·simp only[State.au,List.getElem?_set] at hi
   split at hi
   ·split at hi
    ·cases hi;exact hl id t p hm
    ·cases hi
   ·exact hr.live i l' id t p hi hm
theorem Rel.skip{X:ah}{s:State}{a:Act}(hr:Rel X s a)(d:Option Nat):Rel X (s.au d [.skip]) (a.put d Go.undef):=
 hr.put (fun _ _=>rfl) (fun id t p h=>by simp at h)
structure bI(s:State)(X Y:ah):Prop where
 w:Y.w=X.w
 β:Y.β=X.β
 ow:∀g,Y.ow g=X.ow g\/∃pl n q,X.ow g= .row pl n/\¬bj s pl/\Y.ow g= .row q n
theorem bI.aj{s:State}{X Y:ah}(h:bI s X Y){a:Addr}{v:Value}:X.aj a v↔Y.aj a v:=by
 unfold ah.aj
 rw[h.w]
 rcases h.ow a.block with e|⟨pl,n,q,h1,_,h2⟩
 ·rw[e]
 ·rw[h1,h2];rfl
theorem bI.mod{s:State}{X Y:ah}(h:bI s X Y):Mod s X Y:=
 ⟨fun _ _=>h.aj.1,by rw[h.w];exact Nat.le_refl _,by rw[h.w],by rw[h.w],by rw[h.w],by rw[h.β],fun _ _ _=>by rw[h.β],fun g _=>by
   rcases h.ow g with e|⟨pl,n,q,h1,h2,_⟩
   ·exact .inl ⟨e,by rw[h.w]⟩
   ·exact .inr ⟨pl,n,h1,h2⟩⟩
theorem bI.ext{s:State}{X Y:ah}(h:bI s X Y):Ext X Y:=h.mod.ext
theorem bI.refl(s:State)(X:ah):bI s X X:=⟨rfl,rfl,fun _=> .inl rfl⟩
theorem nV{v:SV}{id:Nat}{t:Ty}{p:List Nat}:v.shut= .ptr id t p->v= .ptr id t p:=by cases v<;>simp [SV.shut]
theorem ai.shut{X:ah}{pl dj:List Nat->Place}{sv:SV}{v:Value}(hr:ai X pl sv v):ai X dj sv.shut v:=by
 cases sv with
 |al t x own=>
  obtain⟨cs,h1,h2,_⟩:=hr
  exact⟨cs,h1,h2,fun p hp=>by cases hp⟩
 |_=>exact hr
theorem tg:∀(l:List SV) (j:Nat),(aP l j).length=l.length
 | [],_=>rfl
 |_::_,0=>rfl
 |_::r,j+1=>by simp [aP,tg r j]
theorem nJ:∀(l:List SV) (j i:Nat),(aP l j)[i]? =if i=j then(l[i]?).map SV.shut else l[i]?
 | [],j,i=>by simp [aP]
 |v::r,0,0=>by simp [aP]
 |v::r,0,i+1=>by simp [aP]
 |v::r,j+1,0=>by simp [aP]
 |v::r,j+1,i+1=>by
  simp only[aP,List.getElem?_cons_succ,nJ r j i]
  simp
theorem bm.aP{X:ah}{pl:Nat->List Nat->Place}{l:List SV}{v:Value}(hr:bm X pl l v)(j:Nat):bm X pl (aP l j) v:=by
 match l,hr with
 | [s],hr=>
   cases j with
   |zero=>exact hr.shut
   |succ j=>exact hr
 | [],hr=>exact hr
 |x::y::r,⟨vs,h1,h2,h3⟩=>
  have hlen:∃x' y' r',Ref.aP (x::y::r) j=x'::y'::r':=by
   match j with
   |0=>exact⟨_,_,_,rfl⟩
   |1=>exact⟨_,_,_,rfl⟩
   |j+2=>exact⟨_,_,_,rfl⟩
  obtain⟨x',y',r',he⟩:=hlen
  have hl:=tg (x::y::r) j
  have hg:=nJ (x::y::r) j
  rw[he] at hl hg⊢
  refine⟨vs,h1,by rw[hl];exact h2,fun i s u hs hu=> ?_⟩
  rw[hg] at hs
  split at hs
  ·obtain⟨s0,cz,rfl⟩:=Option.map_eq_some_iff.1 hs
   exact(h3 i s0 u cz hu).shut
  ·exact h3 i s u hs hu
theorem yb{l:List SV}{j:Nat}{id:Nat}{t:Ty}{p:List Nat}(h:SV.ptr id t p∈aP l j):SV.ptr id t p∈l:=by
 obtain⟨i,hi⟩:=List.mem_iff_getElem?.1 h
 rw[nJ] at hi
 split at hi
 ·obtain⟨s0,cz,he⟩:=Option.map_eq_some_iff.1 hi
  rw[nV he] at cz
  exact List.mem_of_getElem? cz
 ·exact List.mem_of_getElem? hi
theorem jj{s:State}{i:Nat}(h:i<s.sl.length):s.sl[i]? =some (s.slot i):=by
 simp [State.slot,List.getD_eq_getElem?_getD,List.getElem?_eq_getElem h]
def State.bk(s:State)(i j:Nat):State:={s with sl:=s.sl.set i (aP (s.slot i) j)}
theorem z21{s:State}{i j:Nat}{r:List (Nat×Nat)}:s.close ((i,j)::r)=(s.bk i j).close r:=rfl
theorem ti{r:List (Nat×Nat)}:∀(l:List (Nat×Nat)) (s:State),s.close (l++r)=(s.close l).close r
 | [],s=>rfl
 |(i,j)::l,s=>by
  rw[List.cons_append,z21,z21]
  exact ti l _
theorem Rel.bk{X:ah}{s:State}{a:Act}(hr:Rel X s a)(i j:Nat):Rel X (s.bk i j) a:=by
 refine⟨by simpa [State.bk] using hr.size,by simpa [State.bk] using hr.cN,fun k l v hl hv=> ?_,hr.boxes,fun k l id t p hl hm=> ?_,hr.defers⟩
 ·simp only[State.bk,List.getElem?_set] at hl
  split at hl
  ·rename_i e
   subst e
   split at hl
   ·rename_i aw
    cases hl
    exact(hr.aM i _ v (jj aw) hv).aP j
   ·cases hl
  ·exact hr.aM k l v hl hv
 ·simp only[State.bk,List.getElem?_set] at hl
  split at hl
  ·rename_i e
   subst e
   split at hl
   ·rename_i aw
    cases hl
    exact hr.live i _ id t p (jj aw) (yb hm)
   ·cases hl
  ·exact hr.live k l id t p hl hm
theorem Rel.close{X:ah}{a:Act}:∀(c:List (Nat×Nat)) {s:State},Rel X s a->Rel X (s.close c) a
 | [],s,hr=>hr
 |(i,j)::r,s,hr=>Rel.close r (hr.bk i j)
theorem jf:∀{c:List (Nat×Nat)} {s:State},(s.close c).bs=s.bs
 | [],s=>rfl
 |(i,j)::r,s=>(jf (c:=r) (s:=s.bk i j))
theorem mK:∀{c:List (Nat×Nat)} {s:State},(s.close c).sl.length=s.sl.length
 | [],s=>rfl
 |(i,j)::r,s=>by rw[z21,mK (c:=r)];simp [State.bk]
theorem bj.fY{s:State}{i j:Nat}{pl:Place}(h:bj (s.bk i j) pl):bj s pl/\∀p,pl≠ .c i j p:=by
 cases pl with
 |r j p=>exact h.elim
 |b id p=>exact⟨h,fun p=>by simp⟩
 |c i' j' p=>
  obtain⟨l,t,x,own,hl,hx,hp⟩:=h
  simp only[State.bk,List.getElem?_set] at hl
  split at hl
  ·rename_i e
   subst e
   split at hl
   ·rename_i aw
    cases hl
    rw[nJ] at hx
    split at hx
    ·obtain⟨s0,_,he⟩:=Option.map_eq_some_iff.1 hx
     cases s0<;>simp [SV.shut] at he
     obtain⟨rfl,_,rfl⟩:=he
     cases hp
    ·rename_i bu
     exact⟨⟨_,t,x,own,jj aw,hx,hp⟩,fun q e=>by cases e;exact bu rfl⟩
   ·cases hl
  ·rename_i bu
   exact⟨⟨l,t,x,own,hl,hx,hp⟩,fun q e=>by cases e;exact bu rfl⟩
theorem bj.dE{pl:Place}:∀{c:List (Nat×Nat)} {s:State},bj (s.close c) pl->bj s pl/\∀i j,(i,j)∈c->∀p,pl≠ .c i j p
 | [],s,h=>⟨h,fun i j hm=>by cases hm⟩
 |(i,j)::r,s,h=>by
  obtain⟨h1,h2⟩:=bj.dE (c:=r) (s:=s.bk i j) h
  obtain⟨h3,h4⟩:=bj.fY h1
  refine⟨h3,fun i' j' hm p=> ?_⟩
  rcases List.mem_cons.1 hm with e|hm
  ·cases e;exact h4 p
  ·exact h2 i' j' hm p
theorem bj.close{s:State}{i j:Nat}{p:List Nat}:¬bj (s.close [(i,j)]) (.c i j p):=fun h=>(bj.dE h).2 i j (by simp) p rfl
def ah.turn(X:ah)(i j:Nat)(q:List Nat->Place):ah:=
 {X with ow:=fun g=>match X.ow g with
  | .row (.c i' j' p) n=>if i'=i/\j'=j then .row (q p) n else .row (.c i' j' p) n
  |w=>w}
theorem uC{s:State}{X:ah}{i j:Nat}{q:List Nat->Place}(h:∀p,¬bj s (.c i j p)):bI s X (X.turn i j q):=by
 refine⟨rfl,rfl,fun g=> ?_⟩
 simp only[ah.turn]
 cases hg:X.ow g with
 |row pl n=>
  cases pl with
  |c i' j' p=>
   by_cases e:i'=i/\j'=j
   ·obtain⟨rfl,rfl⟩:=e
    exact .inr ⟨_,n,q p,rfl,h p,by simp⟩
   ·exact .inl (by simp [e])
  |_=>exact .inl rfl
 |_=>exact .inl rfl
theorem aE.eB{X:ah}{i j:Nat}{q:List Nat->Place}{p:List Nat}{e:TypeId}{k n:Nat}{v:Value}(h:aE X (.c i j p) e k n v):aE (X.turn i j q) (q p) e k n v:=by
 rcases h with h|⟨g,cap,cur,h1,h2,h3,h4,h5,h6⟩
 ·exact .inl h
 ·exact .inr ⟨g,cap,cur,h1,h2,h3,h4,h5,by simp [ah.turn,h6]⟩
theorem aD.eB{X:ah}{i j:Nat}{q:List Nat->Place}{t:Ty}{x:El t}{cs:List Value}{own:List (List Nat)}(h:aD X (.c i j) t x cs own):aD (X.turn i j q) q t x cs own:=fun p hp=>by
 obtain⟨e,t',xs,v,g0,g1,g2,g3⟩:=h p hp
 exact⟨e,t',xs,v,g0,g1,g2,g3.eB⟩
def eg(X Y:ah):Prop:=Y.w=X.w/\∀g pl n,X.ow g= .row pl n->(∀i j p,pl≠ .c i j p)->Y.ow g= .row pl n
theorem y9{X:ah}{i j:Nat}{q:List Nat->Place}:eg X (X.turn i j q):=⟨rfl,fun g pl n h hp=>by
 simp only[ah.turn,h]
 cases pl with
 |c i' j' p=>exact absurd rfl (hp i' j' p)
 |_=>rfl⟩
theorem eg.refl(X:ah):eg X X:=⟨rfl,fun _ _ _ h _=>h⟩
theorem aD.stay{X Y:ah}(h:eg X Y){pl:List Nat->Place}(hp:∀r i j p,pl r≠ .c i j p){t:Ty}{x:El t}{cs:List Value}{own:List (List Nat)}(ho:aD X pl t x cs own):aD Y pl t x cs own:=fun p hm=>by
 obtain⟨e,t',xs,v,g0,g1,g2,g3⟩:=ho p hm
 refine⟨e,t',xs,v,g0,g1,g2,?_⟩
 rcases g3 with h0|⟨g,cap,cur,h1,h2,h3,h4,h5,h6⟩
 ·exact .inl h0
 ·exact .inr ⟨g,cap,cur,h1,by rw[h.1];exact h2,h3,h4,h5,h.2 g _ _ h6 (hp p)⟩
theorem Rel.take{X:ah}{s:State}{a:Act}(hr:Rel X s a){i j:Nat}{t:Ty}{x:El t}{w:List (List Nat)}{v:Value}(h:ai X (.c i j) (.al t x w) v)(q:List Nat->Place):
 ∃Y,Y.w=X.w/\Ext X Y/\Rel Y (s.close [(i,j)]) a/\ai Y q (.al t x w) v/\Y.β=X.β/\bI (s.close [(i,j)]) X Y/\eg X Y:=by
 obtain⟨cs,h1,h2,h3⟩:=h
 have hT:bI (s.close [(i,j)]) X (X.turn i j q):=uC fun p=>bj.close
 exact⟨X.turn i j q,rfl,hT.ext,(hr.close _).mod hT.mod,⟨cs,h1.af (fun _ _=>hT.aj.1),h2,h3.eB⟩,rfl,hT,y9⟩
def ah.bP(X:ah)(i d:Nat):ah:=
 {X with ow:=fun g=>match X.ow g with
  | .row (.c i' j' p) n=>if i'=i then .row (.c d j' p) n else .row (.c i' j' p) n
  |w=>w}
theorem uB(t:Nat):∀(n j:Nat),j<n->(t,j)∈dF t n
 |0,j,h=>absurd h (Nat.not_lt_zero j)
 |n+1,j,h=>by
  rcases Nat.lt_or_ge j n with h1|h1
  ·exact List.mem_cons_of_mem _ (uB t n j h1)
  ·have:j=n:=by omega
   subst this
   simp [dF]
theorem bj.closeAll{s:State}{t j:Nat}{p:List Nat}:¬bj (s.close (dF t (s.slot t).length)) (.c t j p):=fun h=>by
 obtain⟨h1,h2⟩:=bj.dE h
 obtain⟨l,ty,x,own,g1,g2,g3⟩:=h1
 have hl:s.slot t=l:=by simp [State.slot,g1]
 have hj:j<l.length:=(List.getElem?_eq_some_iff.1 g2).1
 exact h2 t j (uB t _ j (by rw[hl];exact hj)) p rfl
theorem xy{s:State}{X:ah}{i d:Nat}(h:∀j p,¬bj s (.c i j p)):bI s X (X.bP i d):=by
 refine⟨rfl,rfl,fun g=> ?_⟩
 simp only[ah.bP]
 cases hg:X.ow g with
 |row pl n=>
  cases pl with
  |c i' j' p=>
   by_cases e:i'=i
   ·subst e
    exact .inr ⟨_,n,.c d j' p,rfl,h j' p,by simp⟩
   ·exact .inl (by simp [e])
  |_=>exact .inl rfl
 |_=>exact .inl rfl
theorem aE.cW{X:ah}{i d j:Nat}{p:List Nat}{e:TypeId}{k n:Nat}{v:Value}(h:aE X (.c i j p) e k n v):aE (X.bP i d) (.c d j p) e k n v:=by
 rcases h with h|⟨g,cap,cur,h1,h2,h3,h4,h5,h6⟩
 ·exact .inl h
 ·exact .inr ⟨g,cap,cur,h1,h2,h3,h4,h5,by simp [ah.bP,h6]⟩
theorem ai.cW{s:State}{X:ah}{i d j:Nat}{sv:SV}{v:Value}(hT:bI s X (X.bP i d))(h:ai X (.c i j) sv v):ai (X.bP i d) (.c d j) sv v:=by
 cases sv with
 |al t x own=>
  obtain⟨cs,h1,h2,h3⟩:=h
  refine⟨cs,h1.af (fun _ _=>hT.aj.1),h2,fun p hp=> ?_⟩
  obtain⟨e,t',xs,v,g0,g1,g2,g3⟩:=h3 p hp
  exact⟨e,t',xs,v,g0,g1,g2,g3.cW⟩
 |view t x=>
  obtain⟨ad,cs,h1,h2,h3,h4⟩:=h
  exact⟨ad,cs,h1,h2,h3.af (fun _ _=>hT.aj.1),fun i u hi=>hT.aj.1 (h4 i u hi)⟩
 |cap f t x u y=>exact ii (fun _ _=>hT.aj.1) h
 |_=>exact h
theorem Rel.iZ{X:ah}{s:State}{a:Act}(hr:Rel X s a){t:Nat}{v:Value}(h:bm X (.c t) (s.slot t) v)(d:Nat):
 ∃Y,Y.w=X.w/\Ext X Y/\Rel Y (s.close (dF t (s.slot t).length)) a/\bm Y (.c d) (s.slot t) v:=by
 have hT:bI (s.close (dF t (s.slot t).length)) X (X.bP t d):=xy fun j p=>bj.closeAll
 exact⟨X.bP t d,rfl,hT.ext,(hr.close _).mod hT.mod,h.dJ fun j sv u hj hu=>hu.cW hT⟩
def zb:Ty->List Value
 | .bool=>[.bool false]
 | .int k=>[.int k 0]
 | .str=>[.string ⟨#[]⟩]
 | .sl _ _=>[.slice none 0 0]
 | .aL n t=>(List.replicate n (zb t)).flatten
 | .unit=>[]
 | .pair a b=>zb a++zb b
 | .aG _ _ _=>[]
def zl(E:Env):List Field->Ty->Nat->Prop
 | [],.unit,_=>True
 |f::r,.pair a b,off=>f.offset=off/\E.ty f.type=some a/\f.name≠ "_" /\zl E r b (off+a.cells)
 |_,_,_=>False
def vB(P:Program)(E:Env)(T:TypeId):Ty->Prop
 | .bool=>P.underlying T=some .bool
 | .int k=>P.underlying T=some (.int k)
 | .str=>P.underlying T=some .string
 | .sl e t=>P.underlying T=some (.slice e)/\E.ty e=some t
 | .aL n t=>∃e,P.underlying T=some (.array n e)/\E.ty e=some t/\P.eqGuardType P.depth T=false
 | .aG _ _ _=>False
 |t=>∃fs,P.underlying T=some (.struct fs)/\zl E fs.toList t 0/\P.stoodInHeld T=false/\P.eqGuardType P.depth T=false
structure eh(P:Program)(E:Env)(T:TypeId)(t:Ty):Prop where
 info:∃i,P.info? T=some i/\i.size=t.cells/\i.bytes=E.bytes T/\i.zero=some (bN t (zb t))
 bA:vB P E T t
structure ag(P:Program)(E:Env):Prop where
 ty:∀T t,E.ty T=some t->eh P E T t
 pt:∀T,E.pt T=true->∃e,P.underlying T=some (.pointer e)
 mp:∀T k e,E.mp T=some (k,e)->P.underlying T=some (.map k e)
 bl:∀T e,E.bl T=some e->∃i,P.info? T=some i/\i.zero=some (.agg #[.pointer none,.slice none 0 0])
theorem ag.cV{P:Program}{E:Env}(hE:ag P E){T:TypeId}{t:Ty}(h:E.ty T=some t):t.aJ=false:=by
 have:=(hE.ty T t h).bA
 cases t<;>first|rfl|exact this.elim
theorem zx:∀t:Ty,(zb t).length=t.cells
 | .bool=>rfl
 | .int _=>rfl
 | .str=>rfl
 | .sl _ _=>rfl
 | .unit=>rfl
 | .aL n t=>by simp [zb,Ty.cells,zx t]
 | .pair a b=>by simp [zb,Ty.cells,zx a,zx b]
 | .aG _ _ _=>rfl
theorem qh{l:List Value}{k:Nat}(hl:l.length=k):∀(n j:Nat),j<n->(((List.replicate n l).flatten).drop (j*k)).take k=l
 |0,j,h=>by omega
 |n+1,0,_=>by
  simp only[List.replicate_succ,List.flatten_cons,Nat.zero_mul,List.drop_zero]
  rw[<-hl];exact List.take_left
 |n+1,j+1,h=>by
  simp only[List.replicate_succ,List.flatten_cons]
  rw[Nat.add_mul,Nat.one_mul,Nat.add_comm,<-List.drop_drop]
  rw[show List.drop k (l++(List.replicate n l).flatten)=(List.replicate n l).flatten by rw[<-hl];exact List.drop_left]
  exact qh hl n j (by omega)
theorem hH(X:ah):∀t:Ty,aA X t (El.aN t) (zb t)
 | .bool=>rfl
 | .int _=>rfl
 | .str=>rfl
 | .unit=>rfl
 | .sl _ t=>⟨none,0,rfl,Nat.le_refl _,fun j x h=>by simp [El.aN] at h⟩
 | .aL n t=>by
   refine⟨by simp [El.aN],by simp [zb,zx],fun j x h=> ?_⟩
   have hj:j<n:=by
    have:=(List.getElem?_eq_some_iff.1 h).1
    simpa [El.aN] using this
   have hx:x=El.aN t:=by
    simp only[El.aN,List.getElem?_replicate] at h
    rw[if_pos hj] at h
    exact(Option.some.inj h).symm
   subst hx
   have:=qh (zx t) n j hj
   simp only[zb]
   rw[this]
   exact hH X t
 | .pair a b=>⟨zb a,zb b,rfl,hH X a,hH X b⟩
 | .aG _ _ _=>rfl
theorem mW{t:Ty}{c:Value}(h:t.agg=false):bN t [c]=c:=by simp [bN,h]
theorem zj{t:Ty}{cs:List Value}(h:t.agg=true):bN t cs= .agg cs.toArray:=by simp [bN,h]
theorem je{t:Ty}{X:ah}{x:El t}{cs:List Value}(h:aA X t x cs):(bN t cs).cells=cs.toArray:=by
 cases ht:t.agg with
 |true=>rw[zj ht];rfl
 |false=>
  have hl:=h.len
  have h1:=h.one
  have hc:t.cells=1:=by cases t<;>simp_all [Ty.agg,Ty.cells]
  rw[hc] at hl
  match cs,hl with
  | [c],_=>
    rw[mW ht]
    have:=h1 c (by simp)
    cases c<;>simp_all [Value.oneCell',Value.cells]
theorem zi{R:Type}{s:SV}{u:Ty}{K:El u->Option R}{z:R}(h:s.el u K=some z):
 ∃y,K y=some z/\∀(X:ah) pl v,ai X pl s v->∃cs,aA X u y cs/\v=bN u cs:=by
 cases s with
 |al t x own=>
  simp only[SV.el] at h
  split at h
  ·rename_i he
   have e:=Ty.ax he
   subst e
   exact⟨x,h,fun X pl v hv=>by obtain⟨cs,h1,h2,_⟩:=hv;exact⟨cs,h1,h2⟩⟩
  ·cases h
 |bc=>
  cases u<;>simp only[SV.el] at h<;>first|cases h|skip
  rename_i e t
  refine⟨[],h,fun X pl v hv=>⟨[.slice none 0 0],⟨none,0,rfl,Nat.le_refl _,fun j x hj=>by simp at hj⟩,hv⟩⟩
 |_=>simp [SV.el] at h
theorem zt{X:ah}{k:IntKind}{n:Int}{cs:List Value}(h:aA X (.int k) n cs):bN (.int k) cs= .int k n:=by cases h;rfl
theorem io{X:ah}{b:Bool}{cs:List Value}(h:aA X .bool b cs):bN .bool cs= .bool b:=by cases h;rfl
theorem zw{X:ah}{s:ByteArray}{cs:List Value}(h:aA X .str s cs):bN .str cs= .string s:=by cases h;rfl
theorem zr{X:ah}{pl:List Nat->Place}{t:Ty}{x:El t}{cs:List Value}:aD X pl t x cs []:=fun p hp=>by cases hp
theorem zg{X:ah}{pl:List Nat->Place}{k:IntKind}{n:Int}:ai X pl (.al (.int k) n []) (.int k n):=⟨[.int k n],rfl,rfl,zr⟩
theorem zm{X:ah}{pl:List Nat->Place}{b:Bool}:ai X pl (.al .bool b []) (.bool b):=⟨[.bool b],rfl,rfl,zr⟩
theorem kZ{X:ah}{pl:List Nat->Place}{s:ByteArray}:ai X pl (.al .str s []) (.string s):=⟨[.string s],rfl,rfl,zr⟩
theorem jJ{X:ah}{pl:List Nat->Place}{k:IntKind}{n:Int}{o:List (List Nat)}{v:Value}(h:ai X pl (.al (.int k) n o) v):v= .int k n:=by
 obtain⟨cs,h1,h2,_⟩:=h
 rw[h2,zt h1]
theorem mG{X:ah}{pl:List Nat->Place}{b:Bool}{o:List (List Nat)}{v:Value}(h:ai X pl (.al .bool b o) v):v= .bool b:=by
 obtain⟨cs,h1,h2,_⟩:=h
 rw[h2,io h1]
theorem tk{X:ah}{pl:List Nat->Place}{s:ByteArray}{o:List (List Nat)}{v:Value}(h:ai X pl (.al .str s o) v):v= .string s:=by
 obtain⟨cs,h1,h2,_⟩:=h
 rw[h2,zw h1]
def kn:Operand->List Nat->Place
 | .tmp t=> .c t 0
 |_=> .r 0
theorem xB(X:ah)(pl:List Nat->Place)(v:Value):ai X pl (jM v) v:=by
 unfold jM
 split
 ·exact zm
 ·exact zg
 ·exact kZ
 ·rfl
 ·rfl
 ·trivial
theorem Rel.slot{X:ah}{s:State}{a:Act}(hr:Rel X s a)(t:Nat):bm X (.c t) (s.slot t) (a.tmps.getD t Go.undef):=by
 by_cases h:t<s.sl.length
 ·refine hr.aM t _ _ (jj h) ?_
  have:=hr.size
  simp [Array.getElem?_eq_getElem (show t<a.tmps.size by omega)]
 ·have:s.slot t=[.undef]:=by simp [State.slot,List.getElem?_eq_none (show s.sl.length<=t by omega)]
  rw[this]
  trivial
theorem Rel.ak{X:ah}{s:State}{a:Act}(hr:Rel X s a)(x:Operand):ai X (kn x) (s.ak x) (a.eval x):=by
 cases x with
 |tmp t=>
  have h:=hr.slot t
  unfold State.ak State.iT
  simp only[kn,Act.eval]
  match hl:s.slot t with
  | []=>trivial
  | [sv]=>rw[hl] at h;exact h
  |_::_::_=>trivial
 |const v=>exact xB X _ v
 |_=>trivial
theorem jN{X:ah}{s:State}{a:Act}(hr:Rel X s a){x:Operand}{id:Nat}{t:Ty}{p:List Nat}(h:s.ak x= .ptr id t p):∃B,s.bs[id]? =some (some B):=by
 cases x with
 |tmp i=>
  unfold State.ak State.iT at h
  simp only at h
  by_cases hi:i<s.sl.length
  ·refine hr.live i _ id t p (jj hi) ?_
   match hl:s.slot i,h with
   | [sv],h=>have:sv= .ptr id t p:=h;simp [this]
   | [],h=>simp [one] at h
   |_::_::_,h=>simp [one] at h
  ·have:s.slot i=[.undef]:=by simp [State.slot,List.getElem?_eq_none (Nat.le_of_not_lt hi)]
   rw[this] at h
   simp [one] at h
 |const v=>unfold State.ak State.iT jM at h;simp only[one] at h;split at h<;>simp at h
 |_=>simp [State.ak,State.iT,one] at h
theorem Rel.fin{Y:ah}{s:State}{a:Act}(hr:Rel Y s a){dst:Option Nat}{l:List SV}{v:Value}(h:bm Y (.c (dst.getD 0)) l v)(hl:∀id t p,SV.ptr id t p∈l->∃B,s.bs[id]? =some (some B)):Rel Y (s.au dst l) (a.put dst v):=
 hr.put (fun d' e=>by subst e;exact h) hl
def ao(P:Program)(X:ah)(s:State)(a:Act)(o:Oper)(u:Out):Prop:=
 ∃Y v,((execOp a.eval o).run P X.w= .ok (.value v) Y.w\/((execOp a.eval o).run P X.w= .ok .skip Y.w/\v=Go.undef))/\Ext X Y/\Rel Y (s.apply o.dst u) (a.put o.dst v)
theorem ao.plain{P:Program}{X:ah}{s:State}{a:Act}{o:Oper}(hr:Rel X s a){sv:SV}{v:Value}
 (h:(execOp a.eval o).run P X.w= .ok (.value v) X.w) (hv:ai X (.c (o.dst.getD 0) 0) sv v) (hl:∀id t p,sv= .ptr id t p->∃B,s.bs[id]? =some (some B)):ao P X s a o {v:=[sv]}:=
 ⟨X,v,.inl h,Ext.refl X,hr.fin hv (fun id t p hm=>hl id t p (by have h':=hm;simp at h';exact h'.symm))⟩
theorem ao.jB{P:Program}{X:ah}{s:State}{a:Act}{o:Oper}(hr:Rel X s a){i j:Nat}{t:Ty}{x:El t}{w:List (List Nat)}{v:Value}
 (h:(execOp a.eval o).run P X.w= .ok (.value v) X.w) (hv:ai X (.c i j) (.al t x w) v):ao P X s a o {v:=[.al t x w],cl:=[(i,j)]}:=by
 obtain⟨Y,h1,h2,h3,h4,_,_,_⟩:=hr.take hv (.c (o.dst.getD 0) 0)
 refine⟨Y,v,.inl (by rw[h1];exact h),h2,?_⟩
 exact h3.fin h4 (fun id t p hm=>by simp at hm)
variable {P:Program} {E:Env} {X:ah} {s:State} {a:Act} {o:Oper} {u:Out}
def Plain:SV->Prop
 | .al _ _ (_::_)=>False
 |_=>True
theorem ai.place{pl dj:List Nat->Place}{sv:SV}{v:Value}(h:ai X pl sv v)(hp:Plain sv):ai X dj sv v:=by
 cases sv with
 |al t x w=>
  cases w with
  |nil=>
   obtain⟨cs,h1,h2,_⟩:=h
   exact⟨cs,h1,h2,zr⟩
  |cons p w=>exact hp.elim
 |_=>exact h
theorem ai.bare{pl dj:List Nat->Place}{t:Ty}{x:El t}{w:List (List Nat)}{v:Value}(h:ai X pl (.al t x w) v):ai X dj (.al t x []) v:=by
 obtain⟨cs,h1,h2,_⟩:=h
 exact⟨cs,h1,h2,zr⟩
theorem qz{v:Value}{t:Ty}{y:El t}{w:List (List Nat)}(h:jM v= .al t y w):w=[]:=by
 unfold jM at h
 split at h<;>simp at h
 ·obtain⟨rfl,_,rfl⟩:=h;rfl
 ·obtain⟨rfl,_,rfl⟩:=h;rfl
 ·obtain⟨rfl,_,rfl⟩:=h;rfl
theorem A8{x:Operand}{t:Ty}{y:El t}{w:List (List Nat)}(h:s.ak x= .al t y w)(hw:w≠ []):∃i,x= .tmp i:=by
 cases x with
 |tmp i=>exact⟨i,rfl⟩
 |const v=>exact absurd (qz h) hw
 |_=>simp [State.ak,State.iT,one] at h
theorem ux(hr:Rel X s a){x:Operand}(h:(execOp a.eval o).run P X.w= .ok (.value (a.eval x)) X.w)(hp:Plain (s.ak x)):ao P X s a o {v:=[s.ak x]}:=
 ao.plain hr h ((hr.ak x).place hp) (fun id t p e=>jN hr e)
theorem ua(hr:Rel X s a){x:Operand}{t:Ty}{y:El t}{w:List (List Nat)}(aB:(execOp a.eval o).run P X.w= .ok (.value (a.eval x)) X.w)(e:s.ak x= .al t y w):ao P X s a o {v:=[.al t y w],cl:=z20 w x}:=by
 have aW:=hr.ak x
 rw[e] at aW
 cases hw:w with
 |nil=>
  subst hw
  exact ao.plain hr aB aW.bare (fun _ _ _ h=>by cases h)
 |cons p w'=>
 rw[<-hw]
 have eE:z20 w x=src x:=by rw[hw];rfl
 rw[eE]
 clear hw
 cases x with
 |tmp i=>exact ao.jB hr aB aW
 |const v=>
  have hw:=qz (show jM v= .al t y w from e)
  subst hw
  exact ao.plain hr aB aW.bare (fun _ _ _ h=>by cases h)
 |_=>simp [State.ak,State.iT,one] at e
theorem uU(hr:Rel X s a){T:TypeId}{v:Value}{pl:List Nat->Place}(aB:(execOp a.eval o).run P X.w= .ok (.value v) X.w)(hv:ai X pl .bc v)(h:fo E T some=some u):ao P X s a o u:=by
 unfold fo at h
 split at h
 ·cases h
  refine ao.plain hr aB ⟨[.slice none 0 0],⟨none,0,rfl,Nat.le_refl _,fun j x hj=>by simp at hj⟩,hv,fun p hp=> ?_⟩ (fun _ _ _ e=>by cases e)
  rename_i e t _
  have hp:p=[]:=by simpa using hp
  subst hp
  exact⟨e,t,[],_,by simp [Ty.b6],rfl,rfl,.inl ⟨rfl,rfl⟩⟩
 ·cases h
  exact ao.plain hr aB hv (fun _ _ _ e=>by cases e)
theorem ai.b4{pl dj:List Nat->Place}{sv:SV}{v:Value}(hr:ai X pl sv v):ai X dj sv.shut v:=by
 cases sv with
 |al t x own=>
  obtain⟨cs,h1,h2,_⟩:=hr
  exact⟨cs,h1,h2,zr⟩
 |_=>exact hr
theorem bm.b4{pl dj:Nat->List Nat->Place}{l:List SV}{v:Value}(hr:bm X pl l v):bm X dj (l.map SV.shut) v:=by
 match l,hr with
 | [s],hr=>exact ai.b4 hr
 | [],⟨vs,h1,h2,h3⟩=>exact⟨vs,h1,h2,fun j s u hs=>by simp at hs⟩
 |x::y::r,⟨vs,h1,h2,h3⟩=>
  refine⟨vs,h1,by simpa using h2,fun j s u hs hu=> ?_⟩
  have hs:((x::y::r).map SV.shut)[j]? =some s:=hs
  rw[List.getElem?_map] at hs
  obtain⟨s0,cz,rfl⟩:=Option.map_eq_some_iff.1 hs
  exact ai.b4 (h3 j s0 u cz hu)
theorem yE(hr:Rel X s a){ops:List Oper}{x:Operand}(ho:o.op= .move x){C:FuncId->aK Out}(h:act E C ops o s some=some u):ao P X s a o u:=by
 have aB:(execOp a.eval o).run P X.w= .ok (.value (a.eval x)) X.w:=by simp [execOp,ho]
 unfold act at h
 simp only[ho] at h
 have aW:=hr.ak x
 cases ht:eX s x with
 |some tl=>
  obtain⟨t,l⟩:=tl
  rw[ht] at h
  cases x with
  |tmp i=>
   change(bif Nat.beq (s.slot i).length 1 then none else some (i,s.slot i))=some (t,l) at ht
   cases hb:Nat.beq (s.slot i).length 1 with
   |true=>rw[hb] at ht;cases ht
   |false=>
    rw[hb] at ht
    cases ht
    have l4:∀id ty p,SV.ptr id ty p∈s.slot t->∃B,s.bs[id]? =some (some B):=fun id ty p hm=>by
     by_cases aw:t<s.sl.length
     ·exact hr.live t _ id _ p (jj aw) hm
     ·have:s.slot t=[.undef]:=by simp [State.slot,List.getElem?_eq_none (Nat.le_of_not_lt aw)]
      rw[this] at hm
      simp at hm
    cases sR:Go.Ref.b4 E o.dst with
    |true=>
     rw[sR] at h
     cases h
     refine⟨X,_,.inl aB,Ext.refl X,?_⟩
     refine Rel.fin hr (bm.b4 (hr.slot t)) (fun id ty p hm=> ?_)
     obtain⟨s0,cz,he⟩:=List.mem_map.1 hm
     rw[nV he] at cz
     exact l4 id ty p cz
    |false=>
    rw[sR] at h
    cases h
    cases bn:(s.slot t).all fun v=>v.own.isEmpty with
    |true=>
     refine⟨X,_,.inl aB,Ext.refl X,?_⟩
     refine Rel.fin hr ((hr.slot t).dJ fun j sv u hj hu=> ?_) (fun id ty p hm=> ?_)
     ·have:=List.all_eq_true.1 bn sv (List.mem_of_getElem? hj)
      refine hu.place ?_
      cases sv with
      |al ty y w=>
       cases w with
       |nil=>trivial
       |cons p w=>simp [SV.own] at this
      |_=>trivial
     ·by_cases aw:t<s.sl.length
      ·exact hr.live t _ id _ p (jj aw) hm
      ·have:s.slot t=[.undef]:=by simp [State.slot,List.getElem?_eq_none (Nat.le_of_not_lt aw)]
       rw[this] at hm
       simp at hm
    |false=>
    obtain⟨Y,h1,h2,h3,h4⟩:=hr.iZ (hr.slot t) (o.dst.getD 0)
    refine⟨Y,_,.inl (by rw[h1];exact aB),h2,?_⟩
    refine h3.fin h4 (fun id ty p hm=> ?_)
    by_cases aw:t<s.sl.length
    ·obtain⟨B,hB⟩:=hr.live t _ id _ p (jj aw) hm
     exact⟨B,by rw[jf];exact hB⟩
    ·have:s.slot t=[.undef]:=by simp [State.slot,List.getElem?_eq_none (Nat.le_of_not_lt aw)]
     rw[this] at hm
     simp at hm
  |_=>cases ht
 |none=>
 rw[ht] at h
 simp only at h
 split at h
 ·rename_i t y w e
  rw[e] at aW
  cases hb:(oz ops o.dst||takes E o.dst) with
  |true=>
   rw[hb] at h
   cases h
   exact ua hr aB e
  |false=>
   rw[hb] at h
   cases h
   exact ao.plain hr aB aW.bare (fun _ _ _ h=>by cases h)
 ·cases h
 ·rename_i e
  rw[e] at aW
  exact uU hr aB aW h
 ·rename_i h1 h2 h3
  cases h
  refine ux hr aB ?_
  cases hx:s.ak x with
  |al t y w=>exact absurd hx (h1 t y w)
  |_=>trivial
theorem xD(hr:Rel X s a){ops:List Oper}{x:Operand}(ho:o.op= .assign x){C:FuncId->aK Out}(h:act E C ops o s some=some u):ao P X s a o u:=by
 have aB:(execOp a.eval o).run P X.w= .ok (.value (a.eval x)) X.w:=by simp [execOp,ho]
 unfold act at h
 simp only[ho] at h
 have aW:=hr.ak x
 split at h
 ·rename_i t y w e
  rw[e] at aW
  cases h
  exact ua hr aB e
 ·cases h
 ·rename_i e
  rw[e] at aW
  exact uU hr aB aW h
 ·rename_i h1 h2 h3
  cases h
  refine ux hr aB ?_
  cases hx:s.ak x with
  |al t y w=>exact absurd hx (h1 t y w)
  |_=>trivial
theorem yG(hr:Rel X s a){ops:List Oper}{c x y:Operand}(ho:o.op= .pick c x y){C:FuncId->aK Out}(h:act E C ops o s some=some u):ao P X s a o u:=by
 unfold act at h
 simp only[ho] at h
 have hc:=hr.ak c
 split at h
 ·rename_i p w e
  rw[e] at hc
  have hv:=mG hc
  have key:∀z,ao P X s a o {v:=[(s.ak z).shut]}\/(execOp a.eval o).run P X.w≠ .ok (.value (a.eval z)) X.w:=by
   intro z
   by_cases hz:(execOp a.eval o).run P X.w= .ok (.value (a.eval z)) X.w
   ·refine .inl (ao.plain hr hz (hr.ak z).shut (fun id t p e=> ?_))
    exact jN hr (nV e)
   ·exact .inr hz
  cases p with
  |true=>
   cases h
   exact(key x).resolve_right (by simp [execOp,ho,hv,asBool])
  |false=>
   cases h
   exact(key y).resolve_right (by simp [execOp,ho,hv,asBool])
 ·cases h
theorem nD(op:BinOp)(T:TypeId)(x y:Operand)(k k':IntKind)(m n:Int)(w:World):(eqGuard op T x y (.int k m) (.int k' n)).run P w= .ok () w:=by
 cases op<;>simp [eqGuard]
theorem td(op:BinOp)(T:TypeId)(x y:Operand)(m n:ByteArray)(w:World):(eqGuard op T x y (.string m) (.string n)).run P w= .ok () w:=by
 cases op<;>simp [eqGuard]
theorem xg(op:BinOp)(T:TypeId)(x y:Operand)(m n:Bool)(w:World):(eqGuard op T x y (.bool m) (.bool n)).run P w= .ok () w:=by
 cases op<;>simp [eqGuard]
theorem qS{op:BinOp}{T:TypeId}{k k':IntKind}{m n:Int}{l:List SV}(w:World)(h:fP op k m k' n some=some l):
 ∃sv v,l=[sv]/\(Go.binOp op T (.int k m) (.int k' n)).run P w= .ok v w/\Plain sv/\(∀X pl,ai X pl sv v)/\∀id t p,sv≠ .ptr id t p:=by
 have done:∀{sv:SV} {v:Value},l=[sv]->(Go.binOp op T (.int k m) (.int k' n)).run P w= .ok v w->Plain sv->(∀X pl,ai X pl sv v)->(∀id t p,sv≠ .ptr id t p)->∃sv v,l=[sv]/\(Go.binOp op T (.int k m) (.int k' n)).run P w= .ok v w/\Plain sv/\(∀X pl,ai X pl sv v)/\∀id t p,sv≠ .ptr id t p:=fun h1 h2 h3 h4 h5=>⟨_,_,h1,h2,h3,h4,h5⟩
 have pi:∀{k:IntKind} {n:Int},Plain (.al (.int k) n []):=trivial
 have pb:∀{b:Bool},Plain (.al .bool b []):=trivial
 unfold fP at h
 cases op
 case shl=>
  simp only at h
  cases hd:decide (n<0) with
  |true=>rw[hd] at h;cases h
  |false=>
   rw[hd] at h;cases h
   have:¬n<0:=of_decide_eq_false hd
   exact done rfl (by simp [Go.binOp,Op.shift,this]) pi (fun _ _=>zg) (by simp)
 case shr=>
  simp only at h
  cases hd:decide (n<0) with
  |true=>rw[hd] at h;cases h
  |false=>
   rw[hd] at h;cases h
   have:¬n<0:=of_decide_eq_false hd
   exact done rfl (by simp [Go.binOp,Op.shift,this]) pi (fun _ _=>zg) (by simp)
 all_goals
  simp only at h
  split at h
  case isFalse=>cases h
  rename_i hk
  subst hk
 case quo=>
  cases hd:decide (n=0) with
  |true=>rw[hd] at h;cases h
  |false=>
   rw[hd] at h;cases h
   have:¬n=0:=of_decide_eq_false hd
   exact done rfl (by simp [Go.binOp,Op.intDiv,this]) pi (fun _ _=>zg) (by simp)
 case rem=>
  cases hd:decide (n=0) with
  |true=>rw[hd] at h;cases h
  |false=>
   rw[hd] at h;cases h
   have:¬n=0:=of_decide_eq_false hd
   exact done rfl (by simp [Go.binOp,Op.intDiv,this]) pi (fun _ _=>zg) (by simp)
 case add=>cases h;exact done rfl (by simp [Go.binOp,Op.intArith]) pi (fun _ _=>zg) (by simp)
 case sub=>cases h;exact done rfl (by simp [Go.binOp,Op.intArith]) pi (fun _ _=>zg) (by simp)
 case mul=>cases h;exact done rfl (by simp [Go.binOp,Op.intArith]) pi (fun _ _=>zg) (by simp)
 case and=>cases h;exact done rfl (by simp only[Go.binOp,ne_eq,not_true_eq_false,if_false];rfl) pi (fun _ _=>zg) (by simp)
 case or=>cases h;exact done rfl (by simp only[Go.binOp,ne_eq,not_true_eq_false,if_false];rfl) pi (fun _ _=>zg) (by simp)
 case xor=>cases h;exact done rfl (by simp only[Go.binOp,ne_eq,not_true_eq_false,if_false];rfl) pi (fun _ _=>zg) (by simp)
 case andNot=>cases h;exact done rfl (by simp only[Go.binOp,ne_eq,not_true_eq_false,if_false];rfl) pi (fun _ _=>zg) (by simp)
 case eql=>cases h;exact done rfl (by simp only[Go.binOp,ne_eq,not_true_eq_false,if_false];rfl) pb (fun _ _=>zm) (by simp)
 case neq=>cases h;exact done rfl (by simp only[Go.binOp,ne_eq,not_true_eq_false,if_false];rfl) pb (fun _ _=>zm) (by simp)
 case lss=>cases h;exact done rfl (by simp only[Go.binOp,ne_eq,not_true_eq_false,if_false];rfl) pb (fun _ _=>zm) (by simp)
 case leq=>cases h;exact done rfl (by simp only[Go.binOp,ne_eq,not_true_eq_false,if_false];rfl) pb (fun _ _=>zm) (by simp)
 case gtr=>cases h;exact done rfl (by simp only[Go.binOp,ne_eq,not_true_eq_false,if_false];rfl) pb (fun _ _=>zm) (by simp)
 case geq=>cases h;exact done rfl (by simp only[Go.binOp,ne_eq,not_true_eq_false,if_false];rfl) pb (fun _ _=>zm) (by simp)
end Go.Ref

namespace Go.Ref
open Go
variable {P:Program} {E:Env} {X:ah} {s:State} {a:Act} {o:Oper} {u:Out}
theorem n8(x y:ByteArray):(x.toList==y.toList)=decide (x=y):=by
 rw[ByteArray.toList_eq,ByteArray.toList_eq]
 by_cases h:x=y
 ·subst h;simp
 ·have:¬x.data.toList=y.data.toList:=fun e=>h (by
   cases x;cases y
   congr
   exact Array.toList_inj.1 e)
  rw[beq_eq_false_iff_ne.2 this,decide_eq_false h]
theorem zS{op:BinOp}{T:TypeId}{m n:ByteArray}{l:List SV}(w:World)(h:fQ op m n some=some l):
 ∃sv v,l=[sv]/\(Go.binOp op T (.string m) (.string n)).run P w= .ok v w/\Plain sv/\(∀X pl,ai X pl sv v)/\∀id t p,sv≠ .ptr id t p:=by
 have pb:∀{b:Bool},Plain (.al .bool b []):=trivial
 unfold fQ at h
 cases op<;>simp only at h<;>first|(cases h;done)|skip
 case add=>
  cases hd:decide (m.size+n.size<=9223372036854775807) with
  |false=>rw[hd] at h;cases h
  |true=>
   rw[hd] at h;cases h
   have h1:=of_decide_eq_true hd
   have h2:¬((((m.size+n.size:Nat)):Int)>IntKind.i64.max):=by
    show¬((((m.size+n.size:Nat)):Int)>9223372036854775807)
    omega
   refine⟨_,_,rfl,?_,trivial,fun _ _=>kZ,by simp⟩
   simp only[Go.binOp,Op.stringOp]
   rw[if_neg h2]
   rfl
 all_goals
  cases h
  refine⟨_,_,rfl,?_,pb,fun _ _=>zm,by simp⟩
  simp only[Go.binOp,Op.stringOp,n8]
  rfl
theorem ug(hE:ag P E){T:TypeId}{t:Ty}(ht:E.ty T=some t)(w:World):(isAgg T).run P w= .ok t.agg w:=by
 have hu:=(hE.ty T t ht).bA
 cases t
 case bool=>simp [isAgg,run_underlying hu,Ty.agg]
 case int=>simp [isAgg,run_underlying hu,Ty.agg]
 case str=>simp [isAgg,run_underlying hu,Ty.agg]
 case sl=>simp [isAgg,run_underlying hu.1,Ty.agg]
 case aL=>obtain⟨e,h1,_⟩:=hu;simp [isAgg,run_underlying h1,Ty.agg]
 case unit=>obtain⟨fs,h1,_⟩:=hu;simp [isAgg,run_underlying h1,Ty.agg]
 case pair=>obtain⟨fs,h1,_⟩:=hu;simp [isAgg,run_underlying h1,Ty.agg]
 case aG=>exact hu.elim
theorem zh(hE:ag P E){T:TypeId}{t:Ty}(ht:E.ty T=some t)(w:World):(sizeOf T).run P w= .ok t.cells w:=by
 obtain⟨i,h1,h2,_⟩:=(hE.ty T t ht).info
 simp [sizeOf,typeInfo,h1,h2]
theorem z28(hE:ag P E){T:TypeId}{t:Ty}(ht:E.ty T=some t){x:El t}{cs:List Value}(hr:aA X t x cs){all:Array Value}{off:Nat}(ha:(all.toList.drop off).take t.cells=cs)(w:World):
 (part T all off).run P w= .ok (bN t cs) w:=by
 have hl:=hr.len
 unfold part
 simp only[Sem.run_bind,ug hE ht,Result.andThen_ok]
 cases hg:t.agg with
 |true=>
  simp only[if_true,Sem.run_bind,zh hE ht,Result.andThen_ok,Sem.run_pure,zj hg]
  congr 2
  apply Array.ext'
  rw[<-ha,Array.toList_extract,List.extract_eq_take_drop]
  simp
 |false=>
  simp only[Bool.false_eq_true,if_false]
  have hc:t.cells=1:=by cases t<;>simp_all [Ty.agg,Ty.cells]
  rw[hc] at hl ha
  match cs,hl with
  | [c],_=>
    rw[mW hg]
    have bf:all[off]? =some c:=by
     have h1:(all.toList.drop off)[0]? =some c:=by
      have:=congrArg (fun l=>l[0]?) ha
      simpa [List.getElem?_take] using this
     simpa using h1
    simp [bf]
def m5(d:Nat)(xs ys:Array Value)(f:Field)(_:Option Bool×Unit):Sem (ForInStep (Option Bool×Unit)):=
 if f.name≠ "_" then do
  let __do_lift<-part f.type xs f.offset
  let __do_lift_1<-part f.type ys f.offset
  let __do_lift<-Op.equalIn d f.type __do_lift __do_lift_1
  if(!__do_lift)=true then pure (ForInStep.done (some false,()))
   else pure (ForInStep.yield (none,()))
 else pure (ForInStep.yield (none,()))
theorem z75(hE:ag P E){d:Nat}{xs ys:Array Value}(w:World)
 (ih:∀(t:Ty) (T:TypeId),E.ty T=some t->t.depth<=d->∀(x y:El t) (c1 c2:List Value) (r:Bool),aA X t x c1->aA X t y c2->bC t x y=some r->(Op.equalIn d T (bN t c1) (bN t c2)).run P w= .ok r w):
 ∀(fl:List Field) (t:Ty) (off:Nat),zl E fl t off->t.depth<=d+1->∀(x y:El t) (c1 c2:List Value) (r:Bool),aA X t x c1->aA X t y c2->(xs.toList.drop off).take t.cells=c1->(ys.toList.drop off).take t.cells=c2->bC t x y=some r->
  (forIn fl (none,()) (m5 d xs ys)).run P w= .ok (if r=true then(none,()) else(some false,())) w:=by
 intro fl
 induction fl with
 |nil=>
  intro t off hf hd x y c1 c2 r h1 h2 h3 h4 he
  cases t<;>simp only[zl] at hf<;>try exact hf.elim
  simp only[bC,Option.some.injEq] at he
  subst he
  simp [List.forIn_nil]
 |cons f fl pX=>
  intro t off hf hd x y c1 c2 r h1 h2 h3 h4 he
  cases t<;>simp only[zl] at hf<;>try exact hf.elim
  rename_i ta tb
  obtain⟨ho,kO,hn,bZ⟩:=hf
  obtain⟨ca,cb,e1,ra,rb⟩:=h1
  obtain⟨da,db,e2,sa,sb⟩:=h2
  simp only[bC] at he
  split at he
  case h_2=>cases he
  rename_i p q hp hq
  cases he
  simp only[Ty.depth] at hd
  have la:=ra.len
  have lb:=rb.len
  have ma:=sa.len
  have mb:=sb.len
  have t1:(xs.toList.drop off).take ta.cells=ca:=by
   have:=congrArg (fun l=>l.take ta.cells) (h3.trans e1)
   simp only[List.take_take,Ty.cells] at this
   rw[Nat.min_eq_left (Nat.le_add_right _ _),<-la,List.take_left] at this
   rw[<-la];exact this
  have t2:(ys.toList.drop off).take ta.cells=da:=by
   have:=congrArg (fun l=>l.take ta.cells) (h4.trans e2)
   simp only[List.take_take,Ty.cells] at this
   rw[Nat.min_eq_left (Nat.le_add_right _ _),<-ma,List.take_left] at this
   rw[<-ma];exact this
  have u1:(xs.toList.drop (off+ta.cells)).take tb.cells=cb:=by
   have:=congrArg (fun l=>l.drop ta.cells) (h3.trans e1)
   simp only[Ty.cells] at this
   rw[List.drop_take,Nat.add_sub_cancel_left,List.drop_drop,<-la,List.drop_left] at this
   rw[<-la];exact this
  have u2:(ys.toList.drop (off+ta.cells)).take tb.cells=db:=by
   have:=congrArg (fun l=>l.drop ta.cells) (h4.trans e2)
   simp only[Ty.cells] at this
   rw[List.drop_take,Nat.add_sub_cancel_left,List.drop_drop,<-ma,List.drop_left] at this
   rw[<-ma];exact this
  have fj:=z28 hE kO ra (all:=xs) (off:=f.offset) (by rw[ho];exact t1) w
  have kg:=z28 hE kO sa (all:=ys) (off:=f.offset) (by rw[ho];exact t2) w
  have heq:=ih ta f.type kO (by omega) x.1 y.1 ca da p ra sa hp
  have mi:(m5 d xs ys f (none,())).run P w= .ok (if p=true then ForInStep.yield (none,()) else ForInStep.done (some false,())) w:=by
   unfold m5
   rw[if_pos hn]
   simp only[Sem.run_bind,fj,kg,heq,Result.andThen_ok]
   cases p<;>rfl
  rw[List.forIn_cons]
  simp only[Sem.run_bind,mi,Result.andThen_ok]
  cases p with
  |false=>rfl
  |true=>
   simp only[if_true,Bool.true_and]
   exact pX tb (off+ta.cells) bZ (by omega) x.2 y.2 cb db q rb sb u1 u2 hq
theorem yJ(hE:ag P E)(w:World){d n:Nat}{k:IntKind}{T e:TypeId}(ht:P.underlying T=some (.array n e))(he:E.ty e=some (.int k)){x y:List Int}{c1 c2:List Value}(r1:aA X (.aL n (.int k)) x c1)(r2:aA X (.aL n (.int k)) y c2):
 (Op.equalIn (d+2) T (.agg c1.toArray) (.agg c2.toArray)).run P w= .ok (decide (x=y)) w:=by
 obtain⟨l1,m1,e1⟩:=r1
 obtain⟨l2,m2,e2⟩:=r2
 have l1:x.length=n:=l1
 have l2:y.length=n:=l2
 have key:decide (x=y)=(List.range n).all fun i=>decide (x.getD i 0=y.getD i 0):=by
  by_cases nB:x=y
  ·rw[decide_eq_true nB]
   exact(List.all_eq_true.2 fun i _=>by rw[nB];simp).symm
  ·rw[decide_eq_false nB]
   cases ha:(List.range n).all fun i=>decide (x.getD i 0=y.getD i 0) with
   |false=>rfl
   |true=>
    refine absurd (List.ext_getElem (l1.trans l2.symm) fun i h1 h2=> ?_) nB
    have:=of_decide_eq_true (List.all_eq_true.1 ha i (List.mem_range.2 (by omega)))
    simpa [List.getD_eq_getElem?_getD,List.getElem?_eq_getElem h1,List.getElem?_eq_getElem h2] using this
 rw[key,List.range_eq_range',Op.equalIn]
 simp only[Sem.run_bind,run_underlying ht,Result.andThen_ok,zh hE he,Std.Legacy.Range.forIn_eq_forIn_range',Std.Legacy.Range.size,Nat.sub_zero,Nat.add_sub_cancel,Nat.div_one]
 have hl:∀i∈List.range' 0 n 1,i<n:=fun i hi=>by simpa using(List.mem_range'_1.1 hi).2
 generalize List.range' 0 n 1=l at hl⊢
 induction l with
 |nil=>simp
 |cons i l ih=>
  have hi:i<n:=hl i (by simp)
  have g1:x[i]? =some (x.getD i 0):=by rw[List.getD_eq_getElem?_getD,List.getElem?_eq_getElem (by omega)];rfl
  have g2:y[i]? =some (y.getD i 0):=by rw[List.getD_eq_getElem?_getD,List.getElem?_eq_getElem (by omega)];rfl
  have p1:=e1 i (x.getD i 0) g1
  have p2:=e2 i (y.getD i 0) g2
  have px:=z28 hE he p1 (all:=c1.toArray) (off:=i*(Ty.int k).cells) rfl w
  have py:=z28 hE he p2 (all:=c2.toArray) (off:=i*(Ty.int k).cells) rfl w
  rw[zt p1] at px
  rw[zt p2] at py
  have pe:(Op.equalIn (d+1) e (.int k (x.getD i 0)) (.int k (y.getD i 0))).run P w= .ok (decide (x.getD i 0=y.getD i 0)) w:=by
   have hu:P.underlying e=some (.int k):=(hE.ty e _ he).bA
   unfold Op.equalIn
   simp only[Sem.run_bind,run_underlying hu,Result.andThen_ok,if_true,Sem.run_pure]
   rfl
  simp only[List.forIn_cons,Sem.run_bind,px,py,pe,Result.andThen_ok,List.all_cons]
  cases hb:decide (x.getD i 0=y.getD i 0)
  ·simp
  ·simp only[Bool.not_true,Bool.false_eq_true,if_false,Sem.run_pure,Result.andThen_ok,Bool.true_and]
   exact ih fun j hj=>hl j (by simp [hj])
theorem ud(hE:ag P E)(w:World):∀(d:Nat) (t:Ty) (T:TypeId),E.ty T=some t->t.depth<=d->∀(x y:El t) (c1 c2:List Value) (r:Bool),aA X t x c1->aA X t y c2->bC t x y=some r->(Op.equalIn d T (bN t c1) (bN t c2)).run P w= .ok r w:=by
 intro d
 induction d with
 |zero=>intro t T ht hd;cases t<;>simp only[Ty.depth] at hd<;>omega
 |succ d ih=>
  intro t T ht hd x y c1 c2 r h1 h2 he
  have hu:=(hE.ty T t ht).bA
  cases t with
  |bool=>
   rw[io h1,io h2]
   simp only[bC,Option.some.injEq] at he
   subst he
   unfold Op.equalIn
   simp only[Sem.run_bind,run_underlying hu,Result.andThen_ok,Sem.run_pure]
  |int k=>
   rw[zt h1,zt h2]
   simp only[bC,Option.some.injEq] at he
   subst he
   unfold Op.equalIn
   simp only[Sem.run_bind,run_underlying hu,Result.andThen_ok,if_true,Sem.run_pure]
   rfl
  |str=>
   rw[zw h1,zw h2]
   simp only[bC,Option.some.injEq] at he
   subst he
   unfold Op.equalIn
   simp only[Sem.run_bind,run_underlying hu,Result.andThen_ok,Sem.run_pure]
   rw[beq_toListBytes,n8]
  |sl e t=>simp [bC] at he
  |aL n t=>
   cases t<;>simp only[bC,Option.some.injEq,reduceCtorEq] at he
   rename_i k
   subst he
   obtain⟨e,dg,dx,_⟩:=hu
   obtain⟨d,rfl⟩:∃d',d=d'+1:=⟨d-1,by simp only[Ty.depth] at hd;omega⟩
   rw[zj rfl,zj rfl]
   exact yJ hE w dg dx h1 h2
  |aG _ _ _=>exact hu.elim
  |unit=>
   obtain⟨fs,dg,dx,nx,_⟩:=hu
   rw[zj rfl,zj rfl]
   unfold Op.equalIn
   simp only[Sem.run_bind,run_underlying dg,Result.andThen_ok,run_program,nx,Bool.false_eq_true,if_false]
   rw[<-Array.forIn_toList]
   have:=z75 (X:=X) hE (d:=d) (xs:=c1.toArray) (ys:=c2.toArray) w ih fs.toList .unit 0 dx hd x y c1 c2 r h1 h2 (by have:=h1.len;simp [Ty.cells] at this⊢;subst this;rfl) (by have:=h2.len;simp [Ty.cells] at this⊢;subst this;rfl) he
   unfold m5 at this
   rw[this]
   simp only[Result.andThen_ok]
   cases r<;>rfl
  |pair ta tb=>
   obtain⟨fs,dg,dx,nx,_⟩:=hu
   rw[zj rfl,zj rfl]
   unfold Op.equalIn
   simp only[Sem.run_bind,run_underlying dg,Result.andThen_ok,run_program,nx,Bool.false_eq_true,if_false]
   rw[<-Array.forIn_toList]
   have:=z75 (X:=X) hE (d:=d) (xs:=c1.toArray) (ys:=c2.toArray) w ih fs.toList (.pair ta tb) 0 dx hd x y c1 c2 r h1 h2 (by have:=h1.len;simp only[List.drop_zero];rw[<-this];exact List.take_length) (by have:=h2.len;simp only[List.drop_zero];rw[<-this];exact List.take_length) he
   unfold m5 at this
   rw[this]
   simp only[Result.andThen_ok]
   cases r<;>rfl
end Go.Ref

namespace Go.Ref
open Go
variable {P:Program} {E:Env} {X:ah} {s:State} {a:Act} {o:Oper} {u:Out}
theorem zR(hE:ag P E){op:BinOp}{T:TypeId}{x y:SV}{vx vy:Value}{px py:List Nat->Place}{l:List SV}(w:World)(xo yo:Operand)(hx:ai X px x vx)(hy:ai X py y vy)(h:fO E op T x y some=some l):
 ∃b:Bool,l=bl b/\(eqGuard op T xo yo vx vy).run P w= .ok () w/\(Go.binOp op T vx vy).run P w= .ok (.bool b) w:=by
 unfold fO at h
 split at h
 case h_2=>cases h
 rename_i t ht
 split at h
 ·cases h
 rename_i ph
 obtain⟨m,h,hm⟩:=zi h
 obtain⟨n,h,hn⟩:=zi h
 split at h
 case h_2=>cases h
 rename_i r hr
 obtain⟨c1,r1,e1⟩:=hm X px vx hx
 obtain⟨c2,r2,e2⟩:=hn X py vy hy
 have hd:t.depth<=10000:=by
  have:Nat.ble t.depth 1000=true:=by simpa using ph
  have:=Nat.le_of_ble_eq_true this
  omega
 have heq:=ud hE w 10000 t T ht hd m n c1 c2 r r1 r2 hr
 have hu:=(hE.ty T t ht).bA
 have hg:(eqGuard op T xo yo vx vy).run P w= .ok () w:=by
  cases t
  case bool=>rw[e1,e2,io r1,io r2];exact xg ..
  case int=>rw[e1,e2,zt r1,zt r2];exact nD ..
  case str=>rw[e1,e2,zw r1,zw r2];exact td ..
  case sl=>simp [bC] at hr
  case aL=>
   obtain⟨fs,_,_,hq⟩:=hu
   rw[e1,e2,zj rfl,zj rfl]
   cases op<;>simp [eqGuard,hq]
  case aG=>simp [bC] at hr
  all_goals
   obtain⟨fs,_,_,_,hq⟩:=hu
   rw[e1,e2,zj rfl,zj rfl]
   cases op<;>simp [eqGuard,hq]
 split at h
 ·cases h
  refine⟨r,rfl,hg,?_⟩
  rw[e1,e2]
  cases t
  case int=>rw[zt r1,zt r2];simp only[bC,Option.some.injEq] at hr;subst hr;simp only[Go.binOp,ne_eq,not_true_eq_false,if_false];rfl
  case str=>rw[zw r1,zw r2];simp only[bC,Option.some.injEq] at hr;subst hr;simp only[Go.binOp,Op.stringOp,n8];rfl
  case bool=>rw[io r1,io r2] at heq⊢;simp only[Go.binOp,Sem.run_bind,Op.equal,Op.maxDepth,heq,Result.andThen_ok,Sem.run_pure]
  case sl=>simp [bC] at hr
  case aG=>simp [bC] at hr
  all_goals
   rw[zj rfl,zj rfl] at heq⊢
   simp only[Go.binOp,Sem.run_bind,Op.equal,Op.maxDepth,heq,Result.andThen_ok,Sem.run_pure]
 ·cases h
  refine⟨!r,rfl,hg,?_⟩
  rw[e1,e2]
  cases t
  case int=>rw[zt r1,zt r2];simp only[bC,Option.some.injEq] at hr;subst hr;simp only[Go.binOp,ne_eq,not_true_eq_false,if_false];rfl
  case str=>rw[zw r1,zw r2];simp only[bC,Option.some.injEq] at hr;subst hr;simp only[Go.binOp,Op.stringOp,n8];rfl
  case bool=>rw[io r1,io r2] at heq⊢;simp only[Go.binOp,Sem.run_bind,Op.equal,Op.maxDepth,heq,Result.andThen_ok,Sem.run_pure]
  case sl=>simp [bC] at hr
  case aG=>simp [bC] at hr
  all_goals
   rw[zj rfl,zj rfl] at heq⊢
   simp only[Go.binOp,Sem.run_bind,Op.equal,Op.maxDepth,heq,Result.andThen_ok,Sem.run_pure]
 ·cases h
theorem nE(op:BinOp)(T:TypeId)(x y:Operand)(p q:Option Addr)(w:World):(eqGuard op T x y (.pointer p) (.pointer q)).run P w= .ok () w:=by
 cases op<;>simp [eqGuard]
theorem Aj(d:Nat){T e:TypeId}(hu:P.underlying T=some (.pointer e))(w:World)(ad:Addr):(Op.equalIn (d+1) T (.pointer (some ad)) (.pointer none)).run P w= .ok false w:=by
 unfold Op.equalIn
 simp only[Sem.run_bind,run_underlying hu,Result.andThen_ok,Sem.run_pure]
theorem Ai(d:Nat){T e:TypeId}(hu:P.underlying T=some (.pointer e))(w:World):(Op.equalIn (d+1) T (.pointer none) (.pointer none)).run P w= .ok true w:=by
 unfold Op.equalIn
 simp only[Sem.run_bind,run_underlying hu,Result.andThen_ok,Sem.run_pure]
 rfl
theorem AW(hE:ag P E){op:BinOp}{T:TypeId}{x y:SV}{vx vy:Value}{px py:List Nat->Place}{u:Out}(w:World)(xo yo:Operand)(hx:ai X px x vx)(hy:ai X py y vy)(h:bin E op T x y (fun v=>some ({v:=v}:Out))=some u):
 ∃sv v,u={v:=[sv]}/\(eqGuard op T xo yo vx vy).run P w= .ok () w/\(Go.binOp op T vx vy).run P w= .ok v w/\(∀X pl,ai X pl sv v)/\∀id t p,sv≠ .ptr id t p:=by
 unfold bin at h
 split at h
 ·rename_i k m o1 k' n o2
  rw[jJ hx,jJ hy]
  obtain⟨l,h1,h2⟩:=zo qR h
  obtain⟨sv,v,rfl,hv,_,hr,hp⟩:=qS (T:=T) w h1
  cases h2
  exact⟨sv,v,rfl,nD ..,hv,hr,hp⟩
 ·rename_i m o1 n o2
  rw[tk hx,tk hy]
  obtain⟨l,h1,h2⟩:=zo qT h
  obtain⟨sv,v,rfl,hv,_,hr,hp⟩:=zS (T:=T) w h1
  cases h2
  exact⟨sv,v,rfl,td ..,hv,hr,hp⟩
 ·obtain⟨r,_,ww⟩:=hx
  have pT:vy= .pointer none:=hy
  subst pT
  split at h
  ·cases h
  rename_i l9
  simp only[Bool.or_eq_true,Bool.not_eq_true',not_or,Bool.not_eq_true,Bool.not_eq_false] at l9
  obtain⟨rfl,_⟩:=(zq l9.1).1 ww
  obtain⟨e,hu⟩:=hE.pt T l9.2
  have heq:∀ad,(Op.equal T (.pointer (some ad)) (.pointer none)).run P w= .ok false w:=fun ad=>Aj 9999 hu w ad
  split at h
  ·cases h
   exact⟨_,_,rfl,nE ..,by(simp only[Go.binOp,Sem.run_bind,heq,Result.andThen_ok,Sem.run_pure];try rfl),fun _ _=>zm,by simp⟩
  ·cases h
   exact⟨_,_,rfl,nE ..,by(simp only[Go.binOp,Sem.run_bind,heq,Result.andThen_ok,Sem.run_pure];try rfl),fun _ _=>zm,by simp⟩
  ·cases h
 ·have ml:vx= .pointer none:=hx
  have pT:vy= .pointer none:=hy
  subst ml pT
  split at h
  ·cases h
  rename_i l9
  obtain⟨e,hu⟩:=hE.pt T (by simpa using l9)
  have heq:(Op.equal T (.pointer none) (.pointer none)).run P w= .ok true w:=Ai 9999 hu w
  split at h
  ·cases h
   exact⟨_,_,rfl,nE ..,by(simp only[Go.binOp,Sem.run_bind,heq,Result.andThen_ok,Sem.run_pure];try rfl),fun _ _=>zm,by simp⟩
  ·cases h
   exact⟨_,_,rfl,nE ..,by(simp only[Go.binOp,Sem.run_bind,heq,Result.andThen_ok,Sem.run_pure];try rfl),fun _ _=>zm,by simp⟩
  ·cases h
 ·obtain⟨l,h1,h2⟩:=zo qQ h
  obtain⟨b,rfl,hg,hv⟩:=zR hE w xo yo hx hy h1
  cases h2
  exact⟨_,_,rfl,hg,hv,fun _ _=>zm,by simp⟩
theorem Ac(hE:ag P E)(hr:Rel X s a){ops:List Oper}{op:BinOp}{T T':TypeId}{x y:Operand}(ho:o.op= .binOp op T x y T'){C:FuncId->aK Out}(h:act E C ops o s some=some u):ao P X s a o u:=by
 unfold act at h
 simp only[ho] at h
 obtain⟨sv,v,rfl,hg,hv,av,hp⟩:=AW hE X.w x y (hr.ak x) (hr.ak y) h
 exact ao.plain hr (by simp only[execOp,ho,Sem.run_bind,hg,hv,Result.andThen_ok,Sem.run_pure]) (av _ _) (fun id t p e=>absurd e (hp id t p))
end Go.Ref

namespace Go.Ref
open Go
variable {P:Program} {E:Env} {X:ah} {s:State} {a:Act} {o:Oper} {u:Out}
theorem mR(ad:Addr)(h:ad.spot=none)(m n:Nat):(ad.add m).add n=ad.add (m+n):=by
 unfold Addr.add
 by_cases h1:m=0<;>by_cases h2:n=0<;>simp [h1,h2,Nat.add_assoc]
theorem jL{ad:Addr}(h:ad.spot=none)(m:Nat):(ad.add m).spot=none:=by
 unfold Addr.add
 split
 ·exact h
 ·rfl
theorem zn(g i j:Nat):(⟨g,i,none⟩:Addr).add j=⟨g,i+j,none⟩:=by
 unfold Addr.add
 split<;>simp_all
theorem nI:∀(t:Ty) (p q:List Nat) (u:Ty),t.at_ p=some u->t.off (p++q)=t.off p+u.off q:=by
 intro t
 induction t with
 |aL n t ih=>
  intro p q u h
  cases p with
  |nil=>simp only[Ty.at_,Option.some.injEq] at h;subst h;simp [Ty.off]
  |cons i p=>
   simp only[Ty.at_] at h
   simp only[List.cons_append,Ty.off,ih p q u h]
   omega
 |pair x y mo mq=>
  intro p q u h
  cases p with
  |nil=>simp only[Ty.at_,Option.some.injEq] at h;subst h;simp [Ty.off]
  |cons i p=>
   cases i with
   |zero=>simp only[Ty.at_] at h;simp only[List.cons_append,Ty.off,mo p q u h]
   |succ i=>
    simp only[Ty.at_] at h
    have:=mq (i::p) q u h
    simp only[List.cons_append,Ty.off] at this⊢
    omega
 |_=>
  intro p q u h
  cases p with
  |nil=>simp only[Ty.at_,Option.some.injEq] at h;subst h;simp [Ty.off]
  |cons i p=>simp [Ty.at_] at h
theorem qt:∀(t:Ty) (p q:List Nat) (u:Ty),t.at_ p=some u->t.b6 p->u.b6 q->t.b6 (p++q):=by
 intro t
 induction t with
 |aL n t ih=>
  intro p q u h hp hq
  cases p with
  |nil=>simp only[Ty.at_,Option.some.injEq] at h;subst h;exact hq
  |cons i p=>exact⟨hp.1,ih p q u h hp.2 hq⟩
 |pair x y mo mq=>
  intro p q u h hp hq
  cases p with
  |nil=>simp only[Ty.at_,Option.some.injEq] at h;subst h;exact hq
  |cons i p=>
   cases i with
   |zero=>exact mo p q u h hp hq
   |succ i=>exact mq (i::p) q u h hp hq
 |_=>
  intro p q u h hp hq
  cases p with
  |nil=>simp only[Ty.at_,Option.some.injEq] at h;subst h;exact hq
  |cons i p=>simp [Ty.at_] at h
theorem getD_some{α:Type}{xs:List α}{i:Nat}(d:α)(h:i<xs.length):xs[i]? =some (xs.getD i d):=by
 simp [List.getD_eq_getElem?_getD,List.getElem?_eq_getElem h]
theorem z40{X:ah}:∀{t:Ty} {p:List Nat} {x:El t} {cs:List Value} {u:Ty} {y:El u},aA X t x cs->t.b6 p->El.get t p x=some ⟨u,y⟩->
 t.at_ p=some u/\t.off p+u.cells<=t.cells/\aA X u y ((cs.drop (t.off p)).take u.cells):=by
 intro t
 induction t with
 |aL n t ih=>
  intro p x cs u y hr hp h
  cases p with
  |nil=>
   simp only[El.get,Option.some.injEq,Sigma.mk.injEq] at h
   obtain⟨rfl,h⟩:=h
   cases h
   refine⟨rfl,by simp [Ty.off],?_⟩
   have:=hr.len
   simp only[Ty.off,List.drop_zero]
   rw[<-this,List.take_length]
   exact hr
  |cons i p=>
   obtain⟨hi,hp⟩:=hp
   obtain⟨h1,h2,h3⟩:=hr
   simp only[El.get] at h
   obtain⟨k1,k2,k3⟩:=ih (h3 i _ (getD_some (El.aN t) (by omega))) hp h
   have hn:(i+1)*t.cells<=n*t.cells:=Nat.mul_le_mul_right _ hi
   rw[Nat.add_mul,Nat.one_mul] at hn
   refine⟨k1,by simp only[Ty.off,Ty.cells];omega,?_⟩
   simp only[Ty.off]
   rw[List.drop_take,List.take_take,List.drop_drop,Nat.min_eq_left (by omega)] at k3
   exact k3
 |pair ta tb ew ey=>
  intro p x cs u y hr hp h
  cases p with
  |nil=>
   simp only[El.get,Option.some.injEq,Sigma.mk.injEq] at h
   obtain⟨rfl,h⟩:=h
   cases h
   refine⟨rfl,by simp [Ty.off],?_⟩
   have:=hr.len
   simp only[Ty.off,List.drop_zero]
   rw[<-this,List.take_length]
   exact hr
  |cons i p=>
   obtain⟨c1,c2,rfl,r1,r2⟩:=hr
   have l1:=r1.len
   have l2:=r2.len
   cases i with
   |zero=>
    obtain⟨k1,k2,k3⟩:=ew r1 hp h
    refine⟨k1,by simp only[Ty.off,Ty.cells];omega,?_⟩
    simp only[Ty.off]
    rw[List.drop_append_of_le_length (by omega),List.take_append_of_le_length (by rw[List.length_drop];omega)]
    exact k3
   |succ i=>
    obtain⟨k1,k2,k3⟩:=ey r2 hp h
    refine⟨k1,by simp only[Ty.off,Ty.cells];omega,?_⟩
    simp only[Ty.off]
    rw[<-List.drop_drop,<-l1,List.drop_left]
    exact k3
 |_=>
  intro p x cs u y hr hp h
  cases p with
  |nil=>
   simp only[El.get,Option.some.injEq,Sigma.mk.injEq] at h
   obtain⟨rfl,h⟩:=h
   cases h
   refine⟨rfl,by simp [Ty.off],?_⟩
   have:=hr.len
   simp only[Ty.off,List.drop_zero]
   rw[<-this,List.take_length]
   exact hr
  |cons i p=>simp [El.get] at h
theorem nZ:∀(fl:List Field) (t:Ty) (off j:Nat) (ft:Ty),zl E fl t off->t.bz=true->t.at_ [j]=some ft->∃f,fl[j]? =some f/\f.offset=off+t.off [j]/\E.ty f.type=some ft/\t.b6 [j]:=by
 intro fl
 induction fl with
 |nil=>intro t off j ft hf hp h;cases t<;>simp [zl,Ty.bz] at hf hp
 |cons f fl ih=>
  intro t off j ft hf hp h
  cases t<;>simp only[zl] at hf<;>try exact hf.elim
  rename_i ta tb
  obtain⟨h1,h2,h3,h4⟩:=hf
  cases j with
  |zero=>
   simp only[Ty.at_,Option.some.injEq] at h
   subst h
   exact⟨f,rfl,by simp [Ty.off,h1],h2,by simp [Ty.b6]⟩
  |succ j=>
   simp only[Ty.at_] at h
   cases sS:tb.bz with
   |true=>
    obtain⟨g,g1,g2,g3,g4⟩:=ih tb (off+ta.cells) j ft h4 sS h
    exact⟨g,g1,by simp only[Ty.off];omega,g3,g4⟩
   |false=>
    cases fl with
    |nil=>cases tb<;>simp [zl,Ty.at_] at h4 h
    |cons g fl=>cases tb<;>simp [zl,Ty.bz] at h4 sS
theorem qx(hE:ag P E){T:TypeId}{t:Ty}(ht:E.ty T=some t)(hp:t.bz=true):∃fs,P.underlying T=some (.struct fs)/\zl E fs.toList t 0:=by
 have hu:=(hE.ty T t ht).bA
 cases t<;>simp [Ty.bz] at hp
 obtain⟨fs,h1,h2,_⟩:=hu
 exact⟨fs,h1,h2⟩
theorem tf(hE:ag P E){f:Field}{ft:Ty}(hf:E.ty f.type=some ft)(hc:ft.cells≠0)(ad:Addr)(w:World):(fieldPlace ad f).run P w= .ok (ad.add f.offset) w:=by
 simp [fieldPlace,zh hE hf,hc]
theorem m7:∀(t:Ty) (p:List Nat) (x:El t) (u:Ty) (y:El u),El.get t p x=some ⟨u,y⟩->t.at_ p=some u:=by
 intro t
 induction t with
 |aL n t ih=>
  intro p x u y h
  cases p with
  |nil=>simp only[El.get,Option.some.injEq,Sigma.mk.injEq] at h;rw[Ty.at_,h.1]
  |cons i p=>exact ih p _ u y h
 |pair a b ew ey=>
  intro p x u y h
  cases p with
  |nil=>simp only[El.get,Option.some.injEq,Sigma.mk.injEq] at h;rw[Ty.at_,h.1]
  |cons i p=>
   cases i with
   |zero=>exact ew p _ u y h
   |succ i=>exact ey (i::p) _ u y h
 |_=>
  intro p x u y h
  cases p with
  |nil=>simp only[El.get,Option.some.injEq,Sigma.mk.injEq] at h;rw[Ty.at_,h.1]
  |cons i p=>simp [El.get] at h
theorem xh(hE:ag P E)(hr:Rel X s a){ops:List Oper}{T:TypeId}{x:Operand}{j:Nat}(ho:o.op= .fieldAddr T x j){C:FuncId->aK Out}(h:act E C ops o s some=some u):ao P X s a o u:=by
 unfold act at h
 simp only[ho] at h
 have hx:=hr.ak x
 unfold m6 at h
 split at h
 ·rename_i t u' id root p hT e
  rw[e] at hx
  obtain⟨r,hb,hx⟩:=hx
  split at h
  ·cases h
  rename_i b8
  have b8:root.aJ=false:=by simpa using b8
  obtain⟨hv,cw⟩:=(zq b8).1 hx
  split at h
  case h_2=>cases h
  rename_i xb aT
  split at h
  case isFalse=>cases h
  rename_i eL
  rw[Bool.and_eq_true] at eL
  obtain⟨heq,cn⟩:=eL
  have:=Ty.ax heq
  subst this
  split at h
  case h_2=>cases h
  rename_i ft nn
  split at h
  ·cases h
  rename_i cG
  cases h
  have hc:ft.cells≠0:=fun e=>cG (by rw[e];rfl)
  obtain⟨fs,dg,dx⟩:=qx hE hT cn
  obtain⟨f,g1,g2,g3,g4⟩:=nZ fs.toList u' 0 j ft dx cn nn
  refine ao.plain hr (v:= .pointer (some ⟨r,root.off (p++ [j]),none⟩)) ?_ ⟨r,hb,(zq b8).2 ⟨rfl,qt root p [j] u' aT cw g4⟩⟩ (fun aS t' p' e'=> ?_)
  ·have dq:fs[j]? =some f:=by rw[<-Array.getElem?_toList];exact g1
   simp only[execOp,ho,Sem.run_bind,Instr.fieldAt,run_underlying dg,Result.andThen_ok,dq,hv,Instr.sureAddr,Sem.run_pure,tf hE g3 hc]
   rw[zn,nI root p [j] u' aT,g2,Nat.zero_add]
  ·injection e' with e1 e2 e3
   subst e1
   exact jN hr e
 ·rename_i t u' root y hT e
  rw[e] at hx
  obtain⟨ad,cs,hv,eF,av,bJ⟩:=hx
  split at h
  case isFalse=>cases h
  rename_i eL
  rw[Bool.and_eq_true] at eL
  obtain⟨heq,cn⟩:=eL
  have:=Ty.ax heq
  subst this
  split at h
  case h_2=>cases h
  rename_i ft z nn
  split at h
  ·cases h
  rename_i cG
  cases h
  have hc:ft.cells≠0:=fun e=>cG (by rw[e];rfl)
  obtain⟨fs,dg,dx⟩:=qx hE hT cn
  have aT:u'.at_ [j]=some ft:=m7 u' [j] y ft z nn
  obtain⟨f,g1,g2,g3,g4⟩:=nZ fs.toList u' 0 j ft dx cn aT
  obtain⟨k1,k2,k3⟩:=z40 av g4 nn
  refine ao.plain hr (v:= .pointer (some (ad.add (u'.off [j])))) ?_ ⟨ad.add (u'.off [j]),_,rfl,jL eF _,k3,fun i v hi=> ?_⟩ (fun aS t' p' e'=>by cases e')
  ·have dq:fs[j]? =some f:=by rw[<-Array.getElem?_toList];exact g1
   simp only[execOp,ho,Sem.run_bind,Instr.fieldAt,run_underlying dg,Result.andThen_ok,dq,hv,Instr.sureAddr,Sem.run_pure,tf hE g3 hc]
   rw[g2,Nat.zero_add]
  ·rw[mR _ eF]
   refine bJ _ v ?_
   rw[List.getElem?_take] at hi
   split at hi
   ·rw[List.getElem?_drop] at hi;exact hi
   ·cases hi
 ·cases h
end Go.Ref

namespace Go.Ref
open Go
variable {P:Program} {E:Env} {X:ah} {s:State} {a:Act} {o:Oper} {u:Out}
theorem jK{R:Type}{i:Int}{n:Nat}{x:Option R}{z:R}(h:zf i n x=some z):0<=i/\i<(n:Int)/\x=some z:=by
 unfold zf at h
 cases h1:decide (0<=i)<;>rw[h1] at h
 ·cases h
 ·cases h2:decide (i<(n:Int))<;>rw[h2] at h
  ·cases h
  ·exact⟨of_decide_eq_true h1,of_decide_eq_true h2,h⟩
theorem oD{e:TypeId}{t:Ty}{xs:List (El t)}{cs:List Value}(h:aA X (.sl e t) xs cs):∃A c,bN (.sl e t) cs= .slice A xs.length c/\xs.length<=c/\
 ∀(j:Nat) x,xs[j]? =some x->∃ad bT,A=some ad/\ad.spot=none/\aA X t x bT/\∀(i:Nat) v,bT[i]? =some v->X.aj (ad.add (j*t.cells+i)) v:=by
 obtain⟨A,c,rfl,h1,h2⟩:=h
 exact⟨A,c,rfl,h1,h2⟩
theorem aA.iX{e:TypeId}{t:Ty}{xs:List (El t)}{A:Option Addr}{n c:Nat}(hn:xs.length=n)(h1:n<=c)(h2:∀(j:Nat) x,xs[j]? =some x->∃ad bT,A=some ad/\ad.spot=none/\aA X t x bT/\∀(i:Nat) v,bT[i]? =some v->X.aj (ad.add (j*t.cells+i)) v):aA X (.sl e t) xs [.slice A n c]:=by
 subst hn
 exact⟨A,c,rfl,h1,h2⟩
theorem qZ{R:Type}{s:SV}{K:Int->Option R}{z:R}(h:s.num K=some z):∃n k,K n=some z/\∀(X:ah) pl v,ai X pl s v->v= .int k n:=by
 unfold SV.num at h
 split at h
 ·rename_i k n w
  refine⟨n,k,h,fun X pl v hv=> ?_⟩
  obtain⟨cs,h1,h2,_⟩:=hv
  rw[h2,zt h1]
 ·cases h
theorem xi(hE:ag P E)(hr:Rel X s a){ops:List Oper}{T:TypeId}{x i:Operand}(ho:o.op= .indexAddr T x i){C:FuncId->aK Out}(h:act E C ops o s some=some u):ao P X s a o u:=by
 unfold act at h
 simp only[ho] at h
 have hx:=hr.ak x
 have hi:=hr.ak i
 unfold m8 at h
 obtain⟨n,ik,h,hn⟩:=qZ h
 have ei:=hn X _ _ hi
 split at h
 ·rename_i e t t' xs w hT bM
  rw[bM] at hx
  obtain⟨ys,h,gS⟩:=zi h
  obtain⟨h0,h1,h⟩:=jK h
  cases h
  obtain⟨cs,eW,ev⟩:=gS X (kn x) _ hx.bare
  obtain⟨A,c,hm,hle,b7⟩:=oD eW
  rw[hm] at ev
  have aw:n.toNat<List.length ys:=by omega
  obtain⟨ad,bT,rfl,eF,av,bJ⟩:=b7 n.toNat _ (getD_some (El.aN t) aw)
  have hu:=(hE.ty T _ hT).bA
  refine ao.plain hr (v:= .pointer (some (ad.add (n.toNat*t.cells)))) ?_ ⟨ad.add (n.toNat*t.cells),bT,rfl,jL eF _,av,fun j v hj=> ?_⟩ (fun _ _ _ e'=>by cases e')
  ·simp only[execOp,ho,Sem.run_bind,Instr.indexAt,ei,ev,asIntOf,Sem.run_pure,Result.andThen_ok,run_underlying hu.1,Sem.run_ite,h0,h1,and_self,if_true,zh hE hu.2]
  ·rw[mR _ eF];exact bJ j v hj
 ·rename_i m t id root p hT bM
  rw[bM] at hx
  obtain⟨r,hb,hx⟩:=hx
  split at h
  ·cases h
  rename_i b8
  have b8:root.aJ=false:=by simpa using b8
  obtain⟨hv,cw⟩:=(zq b8).1 hx
  split at h
  case h_2=>cases h
  rename_i xb aT
  split at h
  case isFalse=>cases h
  rename_i heq
  have:=Ty.ax heq
  subst this
  obtain⟨h0,h1,h⟩:=jK h
  cases h
  obtain⟨e,dg,dx,_⟩:=(hE.ty T _ hT).bA
  have aw:n.toNat<m:=by omega
  refine ao.plain hr (v:= .pointer (some ⟨r,root.off (p++ [n.toNat]),none⟩)) ?_ ⟨r,hb,(zq b8).2 ⟨rfl,qt root p [n.toNat] _ aT cw ⟨aw,by simp [Ty.b6]⟩⟩⟩ (fun aS t' p' e'=> ?_)
  ·simp only[execOp,ho,Sem.run_bind,Instr.indexAt,ei,hv,asIntOf,Sem.run_pure,Result.andThen_ok,run_underlying dg,Instr.sureAddr,Sem.run_ite,h0,h1,and_self,if_true,zh hE dx]
   rw[zn,nI root p [n.toNat] _ aT]
   simp [Ty.off]
  ·injection e' with e1 e2 e3
   subst e1
   exact jN hr bM
 ·rename_i m t t' xs hT bM
  rw[bM] at hx
  obtain⟨ad,cs,hv,eF,av,bJ⟩:=hx
  simp only[SV.el] at h
  split at h
  case isFalse=>cases h
  rename_i heq
  have:=Ty.ax heq
  subst this
  obtain⟨h0,h1,h⟩:=jK h
  cases h
  obtain⟨e,dg,dx,_⟩:=(hE.ty T _ hT).bA
  obtain⟨l1,l2,l3⟩:=av
  have aw:n.toNat<m:=by omega
  have np:=l3 n.toNat _ (getD_some (El.aN t) (by omega))
  refine ao.plain hr (v:= .pointer (some (ad.add (n.toNat*t.cells)))) ?_ ⟨ad.add (n.toNat*t.cells),_,rfl,jL eF _,np,fun j v hj=> ?_⟩ (fun _ _ _ e'=>by cases e')
  ·simp only[execOp,ho,Sem.run_bind,Instr.indexAt,ei,hv,asIntOf,Sem.run_pure,Result.andThen_ok,run_underlying dg,Instr.sureAddr,Sem.run_ite,h0,h1,and_self,if_true,zh hE dx]
  ·rw[mR _ eF]
   refine bJ _ v ?_
   rw[List.getElem?_take] at hj
   split at hj
   ·rw[List.getElem?_drop] at hj;exact hj
   ·cases hj
 ·rename_i e0 t id r p hT bM
  rw[bM] at hx
  unfold mP at h
  split at h
  case h_2=>cases h
  rename_i m ta tb
  split at h
  case isFalse=>cases h
  rename_i heq
  have:=Ty.ax heq
  subst this
  obtain⟨h0,h1,h⟩:=jK h
  cases h
  obtain⟨r0,hb,cap,hv,eK⟩:=hx
  have hu:=(hE.ty T _ hT).bA
  refine ao.plain hr (v:= .pointer (some ⟨r0,n.toNat*ta.cells,none⟩)) ?_ ⟨r0,hb,rfl⟩ (fun aS t' p' e'=> ?_)
  ·simp only[execOp,ho,Sem.run_bind,Instr.indexAt,ei,hv,asIntOf,Sem.run_pure,Result.andThen_ok,run_underlying hu.1,Sem.run_ite,h0,h1,and_self,if_true,zh hE hu.2]
   rw[zn,Nat.zero_add]
  ·injection e' with e1 e2 e3
   subst e1
   exact jN hr bM
 ·cases h
theorem ky{pl:List Nat->Place}{t:Ty}{x:El t}{cs:List Value}(h:aA X t x cs):ai X pl (.al t x []) (bN t cs):=⟨cs,h,rfl,zr⟩
theorem xX(hE:ag P E)(hr:Rel X s a){ops:List Oper}{T:TypeId}{x i:Operand}(ho:o.op= .index T x i){C:FuncId->aK Out}(h:act E C ops o s some=some u):ao P X s a o u:=by
 unfold act at h
 simp only[ho] at h
 have hx:=hr.ak x
 have hi:=hr.ak i
 unfold z51 at h
 obtain⟨n,ik,h,hn⟩:=qZ h
 have ei:=hn X _ _ hi
 split at h
 ·rename_i hT
  obtain⟨st,h,bp⟩:=zi h
  obtain⟨h0,h1,h⟩:=jK h
  cases h
  obtain⟨cs,mD,ev⟩:=bp X _ _ hx
  rw[zw mD] at ev
  have hu:=(hE.ty T _ hT).bA
  have aw:n.toNat<st.size:=by omega
  refine ao.plain hr (v:= .int .u8 (hJ st n.toNat)) ?_ zg (fun _ _ _ e'=>by cases e')
  have bf:st[n.toNat]? =some (st[n.toNat]'aw):=getElem?_pos st n.toNat aw
  simp only[execOp,ho,Sem.run_bind,Instr.index,ei,ev,asIntOf,Sem.run_pure,Result.andThen_ok,run_underlying hu,h0,if_true,bf]
  simp [hJ,aw]
 ·rename_i m t hT
  obtain⟨ys,h,gS⟩:=zi h
  obtain⟨h0,h1,h⟩:=jK h
  cases h
  obtain⟨cs,eW,ev⟩:=gS X _ _ hx
  rw[zj rfl] at ev
  obtain⟨e,dg,dx,_⟩:=(hE.ty T _ hT).bA
  obtain⟨l1,l2,l3⟩:=eW
  have aw:n.toNat<m:=by omega
  have np:=l3 n.toNat _ (getD_some (El.aN t) (by omega))
  refine ao.plain hr ?_ (ky np) (fun _ _ _ e'=>by cases e')
  have hp:=z28 hE dx np (all:=cs.toArray) (off:=n.toNat*t.cells) rfl X.w
  simp only[execOp,ho,Sem.run_bind,Instr.index,ei,ev,asIntOf,Sem.run_pure,Result.andThen_ok,run_underlying dg,h0,h1,and_self,if_true,zh hE dx,hp]
 ·cases h
theorem xW(hE:ag P E)(hr:Rel X s a){ops:List Oper}{T:TypeId}{x:Operand}{j:Nat}(ho:o.op= .field T x j){C:FuncId->aK Out}(h:act E C ops o s some=some u):ao P X s a o u:=by
 unfold act at h
 simp only[ho] at h
 have hx:=hr.ak x
 split at h
 case h_2=>cases h
 rename_i t hT
 split at h
 ·cases h
 rename_i cn
 have cn:t.bz=true:=by simpa using cn
 obtain⟨y,h,hy⟩:=zi h
 split at h
 case h_2=>cases h
 rename_i ft z hg
 cases h
 obtain⟨cs,rep,ev⟩:=hy X _ _ hx
 have fV:t.agg=true:=by cases t<;>simp_all [Ty.bz,Ty.agg]
 rw[zj fV] at ev
 obtain⟨fs,dg,dx⟩:=qx hE hT cn
 obtain⟨f,g1,g2,g3,cw⟩:=nZ fs.toList t 0 j ft dx cn (m7 t [j] y ft z hg)
 obtain⟨k1,k2,k3⟩:=z40 rep cw hg
 have dq:fs[j]? =some f:=by rw[<-Array.getElem?_toList];exact g1
 refine ao.plain hr ?_ (ky k3) (fun _ _ _ e'=>by cases e')
 have hp:=z28 hE g3 k3 (all:=cs.toArray) (off:=f.offset) (by rw[g2,Nat.zero_add]) X.w
 simp only[execOp,ho,Sem.run_bind,Instr.field,run_underlying dg,Result.andThen_ok,dq,ev,asAgg,Sem.run_pure,hp]
theorem Af(hE:ag P E)(hr:Rel X s a){ops:List Oper}{x:Operand}{T:TypeId}{bS:Array Operand}{ts:Array TypeId}(ho:o.op= .call ⟨.builtin .len,bS,ts⟩){C:FuncId->aK Out}(h:act E C ops o s some=some u):ao P X s a o u:=by
 unfold act at h
 simp only[ho] at h
 split at h
 case h_2=>cases h
 rename_i x T gR j7
 have has:bS= #[x]:=by rw[<-Array.toArray_toList (xs:=bS),gR]
 have fX:ts= #[T]:=by rw[<-Array.toArray_toList (xs:=ts),j7]
 subst has fX
 have hx:=hr.ak x
 unfold gX at h
 split at h
 ·rename_i hT
  obtain⟨st,h,bp⟩:=zi h
  cases h
  obtain⟨cs,mD,ev⟩:=bp X _ _ hx
  rw[zw mD] at ev
  have hu:=(hE.ty T _ hT).bA
  refine ao.plain hr (v:= .int .i64 st.size) ?_ zg (fun _ _ _ e'=>by cases e')
  simp [execOp,ho,resolve,invoke,builtin,Builtin.len_,ev,run_underlying hu,goInt]
 ·rename_i e t hT
  have hu:=(hE.ty T _ hT).bA
  split at h
  ·rename_i id n ta tb bM
   cases h
   rw[bM] at hx
   obtain⟨r0,hb,cap,ev,eK⟩:=hx
   refine ao.plain hr (v:= .int .i64 n) ?_ zg (fun _ _ _ e'=>by cases e')
   simp [execOp,ho,resolve,invoke,builtin,Builtin.len_,ev,run_underlying hu.1,goInt]
  ·obtain⟨xs,h,pS⟩:=zi h
   cases h
   obtain⟨cs,ko,ev⟩:=pS X _ _ hx
   obtain⟨A,c,hm,_,_⟩:=oD ko
   rw[hm] at ev
   refine ao.plain hr (v:= .int .i64 (List.length xs)) ?_ zg (fun _ _ _ e'=>by cases e')
   simp [execOp,ho,resolve,invoke,builtin,Builtin.len_,ev,run_underlying hu.1,goInt]
 ·rename_i n t hT
  cases h
  obtain⟨e,dg,dx,_⟩:=(hE.ty T _ hT).bA
  refine ao.plain hr (v:= .int .i64 n) ?_ zg (fun _ _ _ e'=>by cases e')
  simp [execOp,ho,resolve,invoke,builtin,Builtin.len_,run_underlying dg,goInt]
 ·cases h
theorem ub(hr:Rel X s a){ops:List Oper}{g:Bool}{bS:Array Operand}{ts:Array TypeId}(ho:o.op= .call ⟨.builtin (if g then .max else .min),bS,ts⟩){C:FuncId->aK Out}(h:act E C ops o s some=some u):ao P X s a o u:=by
 have key:∀x y,bS= #[x,y]->dB g (s.ak x) (s.ak y) some=some u->ao P X s a o u:=by
  intro x y has h
  subst has
  have hx:=hr.ak x
  have hy:=hr.ak y
  unfold dB at h
  split at h
  case h_2=>cases h
  rename_i k m _ k' n _ e1 e2
  rw[e1] at hx
  rw[e2] at hy
  have vx:=jJ hx
  have vy:=jJ hy
  cases h
  refine ao.plain hr (v:= .int k (bif g then(if(m:Int)<n then n else m) else(if(n:Int)<m then n else m))) ?_ zg (fun _ _ _ e'=>by cases e')
  cases g
  ·simp [execOp,ho,resolve,invoke,builtin,Builtin.min_,Builtin.min2,vx,vy]
  ·simp [execOp,ho,resolve,invoke,builtin,Builtin.max_,Builtin.max2,vx,vy]
 unfold act at h
 cases g with
 |true=>
  simp only[ho,if_true] at h
  split at h
  ·rename_i x y e
   exact key x y (by rw[<-Array.toArray_toList (xs:=bS),e]) h
  ·cases h
 |false=>
  simp only[ho,Bool.false_eq_true,if_false] at h
  split at h
  ·rename_i x y e
   exact key x y (by rw[<-Array.toArray_toList (xs:=bS),e]) h
  ·cases h
theorem AZ(hr:Rel X s a){ops:List Oper}{op:UnOp}{T:TypeId}{x:Operand}(ho:o.op= .unOp op T x){C:FuncId->aK Out}(h:act E C ops o s some=some u):ao P X s a o u:=by
 unfold act at h
 simp only[ho] at h
 have hx:=hr.ak x
 unfold mF at h
 split at h
 ·rename_i b w e
  rw[e] at hx
  cases h
  refine ao.plain hr (v:= .bool (!b)) ?_ zm (fun _ _ _ e'=>by cases e')
  simp [execOp,ho,mG hx,Op.unary]
 ·rename_i k n w e
  rw[e] at hx
  cases h
  refine ao.plain hr (v:= .int k (k.wrap (0-n))) ?_ zg (fun _ _ _ e'=>by cases e')
  simp [execOp,ho,jJ hx,Op.unary,Op.intArith]
 ·cases h
theorem xl(hr:Rel X s a){ops:List Oper}{x:Operand}(ho:o.op= .nilCheck x){C:FuncId->aK Out}(h:act E C ops o s some=some u):ao P X s a o u:=by
 unfold act at h
 simp only[ho] at h
 have hx:=hr.ak x
 split at h
 ·rename_i id t p e
  rw[e] at hx
  split at h
  ·cases h
  rename_i b8
  have b8:t.aJ=false:=by simpa using b8
  cases h
  obtain⟨r,h1,hx⟩:=hx
  obtain⟨h2,h3⟩:=(zq b8).1 hx
  refine ao.plain hr (v:= .pointer (some ⟨r,t.off p,none⟩)) ?_ ⟨r,h1,(zq b8).2 ⟨rfl,h3⟩⟩ (fun aS t' p' e'=> ?_)
  ·simp [execOp,ho,h2]
  ·injection e' with e1 e2 e3
   subst e1
   exact jN hr e
 ·rename_i t y e
  rw[e] at hx
  cases h
  obtain⟨ad,cs,h1,h2⟩:=hx
  refine ao.plain hr (v:= .pointer (some ad)) ?_ ⟨ad,cs,rfl,h2⟩ (fun _ _ _ e'=>by cases e')
  simp [execOp,ho,h1]
 ·cases h
theorem xq(hr:Rel X s a){ops:List Oper}{x:Operand}{j:Nat}(ho:o.op= .extract x j){C:FuncId->aK Out}(h:act E C ops o s some=some u):ao P X s a o u:=by
 unfold act at h
 simp only[ho] at h
 split at h
 case h_2=>cases h
 rename_i t
 have hs:=hr.slot t
 split at h
 ·rename_i hlen
  split at h
  case h_2=>cases h
  rename_i gG
  cases h
  have nu:=hr.ak (.tmp t)
  rw[show s.ak (.tmp t)=SV.over from gG] at nu
  have nu:a.eval (.tmp t)= .tuple #[.bool false]:=nu
  refine ao.plain hr (v:= .bool false) ?_ zm (fun _ _ _ e'=>by cases e')
  simp [execOp,ho,nu,Instr.extract]
 rename_i hlen
 have ns:(s.slot t).length≠1:=fun e=>hlen (by rw[e];rfl)
 have pP:∃vs:Array Value,a.tmps.getD t Go.undef= .tuple vs/\vs.size=(s.slot t).length/\∀(j:Nat) sv v,(s.slot t)[j]? =some sv->vs[j]? =some v->ai X (.c t j) sv v:=by
  match hm:s.slot t with
  | [sv]=>rw[hm] at ns;exact absurd rfl ns
  | []=>rw[hm] at hs;exact hs
  |_::_::_=>rw[hm] at hs;exact hs
 obtain⟨vs,h1,h2,h3⟩:=pP
 have aB:∀v,vs[j]? =some v->(execOp a.eval o).run P X.w= .ok (.value v) X.w:=by
  intro v hv
  simp only[execOp,ho,Act.eval,h1,Sem.run_bind,Instr.extract,hv,Sem.run_pure,Result.andThen_ok]
 have hv:∀sv,(s.slot t)[j]? =some sv->∃v,vs[j]? =some v:=by
  intro sv dH
  have:=(List.getElem?_eq_some_iff.1 dH).1
  exact⟨_,Array.getElem?_eq_getElem (by omega)⟩
 split at h
 ·rename_i ut y w e
  cases h
  obtain⟨v,hv⟩:=hv _ e
  cases w with
  |nil=>exact ao.plain hr (aB v hv) (h3 j _ v e hv).bare (fun _ _ _ h=>by cases h)
  |cons p w=>exact ao.jB hr (aB v hv) (h3 j _ v e hv)
 ·cases h
 ·rename_i sv h4 h5 e
  cases h
  obtain⟨v,hv⟩:=hv _ e
  refine ao.plain hr (aB v hv) ((h3 j _ v e hv).place ?_) (fun id ty p e'=> ?_)
  ·cases sv with
   |al ut y w=>exact(h4 ut y w rfl).elim
   |_=>trivial
  ·by_cases aw:t<s.sl.length
   ·refine hr.live t _ id ty p (jj aw) ?_
    rw[<-e'];exact List.mem_of_getElem? e
   ·have:s.slot t=[.undef]:=by simp [State.slot,List.getElem?_eq_none (Nat.le_of_not_lt aw)]
    rw[this] at ns
    exact absurd rfl ns
 ·cases h
end Go.Ref

namespace Go.Ref
open Go
variable {P:Program} {E:Env} {X:ah} {s:State} {a:Act} {o:Oper} {u:Out}
def fa(v:Option SV)(n:Nat)(d:Nat):Prop:=match v with
 |none=>n=d
 |some v=>∀(X:ah) pl val,ai X pl v val->val= .int .i64 (n:Int)
theorem u6{l:Int}{m:Nat}(h1:0<=l)(h2:l<=(m:Int)):l.toNat<=m:=by omega
theorem tV{l:Int}(h1:0<=l):((l.toNat:Nat):Int)=l:=by omega
theorem qj{R:Type}{lo:Option SV}{m:Nat}{G:Nat->Option R}{z:R}(h:jk lo m G=some z):∃l,G l=some z/\l<=m/\fa lo l 0:=by
 unfold jk at h
 cases lo with
 |none=>exact⟨0,h,Nat.zero_le _,rfl⟩
 |some v=>
  obtain⟨l,h,hl⟩:=zi h
  cases h1:decide (0<=l)<;>rw[h1] at h
  ·cases h
  ·cases h2:decide (l<=(m:Int))<;>rw[h2] at h
   ·cases h
   ·have h1:=of_decide_eq_true h1
    have h2:=of_decide_eq_true h2
    refine⟨l.toNat,h,u6 h1 h2,fun X pl val hv=> ?_⟩
    obtain⟨cs,r,e⟩:=hl X pl val hv
    rw[e,zt r,tV h1]
theorem z70{R:Type}{lo hi:Option SV}{n:Nat}{F:Nat->Nat->Option R}{z:R}(h:cutAt lo hi n F=some z):∃l m,F l m=some z/\l<=m/\m<=n/\fa lo l 0/\fa hi m n:=by
 unfold cutAt at h
 cases hi with
 |none=>
  obtain⟨l,h1,h2,h3⟩:=qj h
  exact⟨l,n,h1,h2,Nat.le_refl _,h3,rfl⟩
 |some v=>
  obtain⟨m,h,hm⟩:=zi h
  cases h1:decide (0<=m)<;>rw[h1] at h
  ·cases h
  ·cases h2:decide (m<=(n:Int))<;>rw[h2] at h
   ·cases h
   ·have h1:=of_decide_eq_true h1
    have h2:=of_decide_eq_true h2
    have h:jk lo (Int.toNat m) (fun l=>F l (Int.toNat m))=some z:=h
    obtain⟨l,g1,g2,g3⟩:=qj h
    refine⟨l,m.toNat,g1,g2,u6 h1 h2,g3,fun X pl val hv=> ?_⟩
    obtain⟨cs,r,e⟩:=hm X pl val hv
    rw[e,zt r,tV h1]
theorem fa.val(hr:Rel X s a){x:Option Operand}{n d:Nat}(h:fa (x.map s.ak) n d):(x=none/\n=d)\/x.map a.eval=some (.int .i64 (n:Int)):=by
 cases x with
 |none=>exact .inl ⟨rfl,h⟩
 |some x=>exact .inr (by rw[Option.map_some,h X _ _ (hr.ak x)])
theorem qp(hr:Rel X s a){isS:Bool}{lo hi:Option Operand}{l m n c:Nat}(hl:fa (lo.map s.ak) l 0)(hm:fa (hi.map s.ak) m n)(h1:l<=m)(h2:m<=n)(h3:n<=c)(w:World):
 (Instr.sliceBounds isS n c (lo.map a.eval) (hi.map a.eval) none).run P w= .ok (l,m,c) w:=by
 have sb:∀(i y:Nat) (code:BoundsCode),i<=y->(Instr.sliceBound (.int .i64 (i:Int)) y code).run P w= .ok i w:=by
  intro i y code h
  rw[run_sliceBound (P:=P) (w:=w) .i64 (i:Int) y code (by omega) (by omega)]
  simp
 rcases hl.val hr with⟨rfl,rfl⟩|hl<;>rcases hm.val hr with⟨rfl,rfl⟩|hm
 ·simp [Instr.sliceBounds]
 ·simp [Instr.sliceBounds,hm,sb m c _ (by omega)]
 ·simp [Instr.sliceBounds,hl,sb l m _ h1]
 ·simp [Instr.sliceBounds,hl,hm,sb l m _ h1,sb m c _ (by omega)]
theorem yC(hE:ag P E)(hr:Rel X s a){T:TypeId}{x:Operand}{lo hi:Option Operand}(ho:o.op= .slice T x lo hi none)(h:fT E T (s.ak x) (lo.map s.ak) (hi.map s.ak) some=some u):ao P X s a o u:=by
 have hx:=hr.ak x
 unfold fT at h
 split at h
 ·rename_i hT
  obtain⟨st,h,bp⟩:=zi h
  obtain⟨l,m,h,h1,h2,hl,hm⟩:=z70 h
  cases h
  obtain⟨cs,mD,ev⟩:=bp X _ _ hx
  rw[zw mD] at ev
  have hu:=(hE.ty T _ hT).bA
  refine ao.plain hr (v:= .string (st.extract l m)) ?_ kZ (fun _ _ _ e'=>by cases e')
  simp only[execOp,ho,Sem.run_bind,Instr.sliceAt,run_underlying hu,Result.andThen_ok,Instr.slice,ev,Option.map_none,Option.isSome_none,Bool.false_eq_true,if_false,qp hr hl hm h1 h2 (Nat.le_refl _),Sem.run_pure]
 ·rename_i e t hT
  obtain⟨xs,h,gR⟩:=zi h
  obtain⟨l,m,h,h1,h2,hl,hm⟩:=z70 h
  cases h
  obtain⟨cs,ko,ev⟩:=gR X _ _ hx
  obtain⟨A,c,l5,hle,b7⟩:=oD ko
  rw[l5] at ev
  have hu:=(hE.ty T _ hT).bA
  have hlen:((List.take m xs).drop l).length=m-l:=by rw[List.length_drop,List.length_take,Nat.min_eq_left h2]
  refine ao.plain hr (v:= .slice (if c=l then A else A.map (·.add (l*t.cells))) (m-l) (c-l)) ?_ ⟨_,aA.iX (A:=if c=l then A else A.map (·.add (l*t.cells))) (n:=m-l) (c:=c-l) hlen (by omega) (fun j y hj=> ?_),rfl,zr⟩ (fun _ _ _ e'=>by cases e')
  ·simp only[execOp,ho,Sem.run_bind,Instr.sliceAt,run_underlying hu.1,Result.andThen_ok,Instr.slice,ev,Option.map_none,qp hr hl hm h1 h2 hle,Sem.run_pure,zh hE hu.2]
  ·have iJ:=(List.getElem?_eq_some_iff.1 hj).1
   rw[hlen] at iJ
   have vY:xs[l+j]? =some y:=by
    rw[List.getElem?_drop,List.getElem?_take,if_pos (by omega)] at hj
    exact hj
   obtain⟨ad,bT,rfl,eF,av,bJ⟩:=b7 (l+j) y vY
   rw[if_neg (by omega)]
   refine⟨ad.add (l*t.cells),bT,rfl,jL eF _,av,fun i v hi=> ?_⟩
   rw[mR _ eF,<-Nat.add_assoc,<-Nat.add_mul]
   exact bJ i v hi
 ·cases h
theorem xU(hE:ag P E)(hr:Rel X s a){S T:TypeId}{x:Operand}(ho:o.op= .convert S T x)(h:dQ E S T (s.ak x) some=some u):ao P X s a o u:=by
 have hx:=hr.ak x
 unfold dQ at h
 split at h
 ·rename_i k k' hS hT
  obtain⟨n,h,hn⟩:=zi h
  cases h
  obtain⟨cs,rn,ev⟩:=hn X _ _ hx
  rw[zt rn] at ev
  have hu:=(hE.ty S _ hS).bA
  have hv:=(hE.ty T _ hT).bA
  refine ao.plain hr (v:= .int k' (k'.wrap n)) ?_ zg (fun _ _ _ e'=>by cases e')
  simp [execOp,ho,ev,convert,run_underlying hu,run_underlying hv,Conv.intToInt]
 ·rename_i hS hT
  obtain⟨st,h,bp⟩:=zi h
  cases h
  obtain⟨cs,rn,ev⟩:=bp X _ _ hx
  rw[zw rn] at ev
  have hu:=(hE.ty S _ hS).bA
  have hv:=(hE.ty T _ hT).bA
  refine ao.plain hr (v:= .string st) ?_ kZ (fun _ _ _ e'=>by cases e')
  simp [execOp,ho,ev,convert,run_underlying hu,run_underlying hv]
 ·rename_i e hS hT
  obtain⟨xs,h,gR⟩:=zi h
  cases h
  obtain⟨cs,ko,ev⟩:=gR X _ _ hx
  obtain⟨A,c,l5,hle,b7⟩:=oD ko
  rw[l5] at ev
  have hu:=(hE.ty S _ hS).bA
  have he:=(hE.ty e _ hu.2).bA
  have hv:=(hE.ty T _ hT).bA
  refine ao.plain hr (v:= .string (strOf xs)) ?_ kZ (fun _ _ _ e'=>by cases e')
  have key:(convert S T (.slice A (List.length xs) c)).run P X.w= .ok (.string (strOf xs)) X.w:=by
   cases A with
   |none=>
    have gF:xs=[]:=by
     cases xs with
     |nil=>rfl
     |cons y ys=>obtain⟨ad,_,h,_⟩:=b7 0 y rfl;cases h
    rw[run_convert_bytes_nil X.w S e hu.1 he _ _ T hv,gF]
    rfl
   |some ad=>
    rw[run_convert_bytes_string X.w S T e _ _ c hu.1 he hv]
    have dt:(loadCells ad (List.length xs)).run P X.w= .ok (List.map (Value.int .u8) xs).toArray X.w:=by
     have:=run_loadCells_list (P:=P) X.w ad (List.map (Value.int .u8) xs) (fun j v hj=>by
      obtain⟨y,hy,rfl⟩:=List.getElem?_map .. ▸hj|>Option.map_eq_some_iff.1
      obtain⟨fA,bT,h1,eF,av,bJ⟩:=b7 j y hy
      cases h1
      have hc:bT=[.int .u8 y]:=av
      have:=bJ 0 (.int .u8 y) (by rw[hc];rfl)
      have h2:=this.2.1
      simpa [Ty.cells] using h2)
     rw[List.length_map] at this
     exact this
    rw[run_bytesToString X.w ad _ c xs dt,foldl_push_bytes]
    simp [strOf,ByteArray.empty,ByteArray.emptyWithCapacity]
    rfl
  simp only[execOp,ho,Sem.run_bind,ev,key,Result.andThen_ok,Sem.run_pure]
 ·cases h
def ah.new(X:ah)(cs:Array Value)(T:TypeId)(w:Ow)(β:Nat->Option Nat):ah:={w:=X.w.alloc (.cells cs T),ow:=fun g=>if g=X.w.heap.size then w else X.ow g,β}
theorem qX(X:ah)(s:State)(cs:Array Value)(T:TypeId)(w:Ow)(β:Nat->Option Nat)(hβ0:β 0=X.β 0)(hβ:∀(id:Nat) B,s.bs[id]? =some (some B)->β id=X.β id):b5 s X (X.new cs T w β) where
 size:=by simp [ah.new]
 os:=rfl
 tape:=rfl
 output:=rfl
 fR:=fun g hg=>⟨by simp only[ah.new];rw[if_neg (by omega)],RowKit.Below.heap_alloc _ _ _ hg⟩
 β0:=hβ0
 β:=hβ
theorem qF(X:ah)(cs:Array Value)(T:TypeId)(w:Ow)(β:Nat->Option Nat):(X.new cs T w β).w.heap[X.w.heap.size]? =some (.cells cs T (0,0))/\(X.new cs T w β).ow X.w.heap.size=w:=⟨heap_alloc_new X.w _,by simp [ah.new]⟩
theorem qv(T:TypeId)(v:Value)(w:World):(newVar T v).run P w= .ok ⟨w.heap.size,0,none⟩ (w.alloc (.cells v.cells T)):=by
 simp [newVar,newRow]
theorem Rel.cC{Y:ah}(hr:Rel Y s a){d r:Nat}{B:aI}(hd:d<s.bs.length)(hb:s.bs[d]? =some none)(hβ:Y.β d=some r)(h:aH Y d r B):Rel Y (s.ap (some (d,B))) a where
 size:=hr.size
 cN:=by simpa [State.ap] using hr.cN
 aM:=hr.aM
 boxes:=fun id B' cO=>by
  simp only[State.ap,List.getElem?_set] at cO
  by_cases e:d=id
  ·subst e
   rw[if_pos rfl,if_pos hd] at cO
   cases cO;exact⟨r,hβ,h⟩
  ·rw[if_neg e] at cO
   exact hr.boxes id B' cO
 live:=fun i l id t p hi hm=>by
  obtain⟨B',cO⟩:=hr.live i l id t p hi hm
  simp only[State.ap,List.getElem?_set]
  by_cases e:d=id
  ·subst e;rw[hb] at cO;cases cO
  ·rw[if_neg e];exact⟨B',cO⟩
 defers:=hr.defers
theorem gi{d:Nat}{B:aI}(h:s.box d=some B):s.bs[d]? =some (some B):=by
 unfold State.box at h
 rw[List.getD_eq_getElem?_getD] at h
 cases hg:s.bs[d]? with
 |none=>rw[hg] at h;cases h
 |some x=>rw[hg] at h;simp at h;rw[h]
theorem rD(hr:Rel X s a){x:Operand}{t:Ty}{R:Type}{K:El t->Option R}{z:R}(h:(s.ak x).el t K=some z){c:List (Nat×Nat)}(hc:c=src x\/((s.ak x).own=[]/\c=[])):
 ∃y,K y=some z/\∀q:List Nat->Place,∃Y cs,Y.w=X.w/\Ext X Y/\Rel Y (s.close c) a/\aA Y t y cs/\a.eval x=bN t cs/\aD Y q t y cs (s.ak x).own/\Y.β=X.β/\bI (s.close c) X Y/\eg X Y:=by
 have hx:=hr.ak x
 cases hs:s.ak x with
 |al t' y' w=>
  rw[hs] at hx h hc
  simp only[SV.el] at h
  split at h
  case isFalse=>cases h
  rename_i heq
  have:=Ty.ax heq
  subst this
  refine⟨y',h,fun q=> ?_⟩
  have plain:w=[]->∃Y cs,Y.w=X.w/\Ext X Y/\Rel Y (s.close c) a/\aA Y t' y' cs/\a.eval x=bN t' cs/\aD Y q t' y' cs (SV.al t' y' w).own/\Y.β=X.β/\bI (s.close c) X Y/\eg X Y:=by
   intro hw
   subst hw
   obtain⟨cs,h1,h2,_⟩:=hx
   exact⟨X,cs,rfl,Ext.refl X,hr.close _,h1,h2,zr,rfl,bI.refl _ _,eg.refl X⟩
  rcases hc with hc|⟨hw,_⟩
  ·cases x with
   |tmp i=>
    obtain⟨Y,h1,h2,h3,⟨cs,h4,h5,h6⟩,h7,h8,h9⟩:=hr.take hx q
    subst hc
    exact⟨Y,cs,h1,h2,h3,h4,h5,h6,h7,h8,h9⟩
   |const v=>exact plain (qz (show jM v= .al t' y' w from hs))
   |_=>simp [State.ak,State.iT,one] at hs
  ·exact plain hw
 |bc=>
  rw[hs] at hx h
  cases t<;>simp only[SV.el] at h<;>try(cases h;done)
  rename_i e t
  refine⟨[],h,fun q=>⟨X,[.slice none 0 0],rfl,Ext.refl X,hr.close _,⟨none,0,rfl,Nat.le_refl _,fun j x hj=>by simp at hj⟩,hx,fun p hp=> ?_,rfl,bI.refl _ _,eg.refl X⟩⟩
  have hp:p=[]:=by simpa [SV.own] using hp
  subst hp
  exact⟨e,t,[],_,by simp [Ty.b6],rfl,rfl,.inl ⟨rfl,rfl⟩⟩
 |_=>rw[hs] at h;simp [SV.el] at h
theorem ao.cC{P:Program}(hr:Rel X s a){d:Nat}{T:TypeId}{t:Ty}{y:El t}{cs:List Value}{own:List (List Nat)}{c:List (Nat×Nat)}{W:ah}
 (b8:t.aJ=false) (hd:o.dst=some d) (hb:s.bs[d+1]? =some none) (hW:W.w=X.w) (hX:Ext X W) (nw:Rel W (s.close c) a) (av:aA W t y cs)
 (bn:aD W (.b (d+1)) t y cs own)
 (aB:(execOp a.eval o).run P X.w= .ok (.value (.pointer (some ⟨X.w.heap.size,0,none⟩))) (X.w.alloc (.cells cs.toArray T))):ao P X s a o {v:=[.ptr (d+1) t []],bx:=some (d+1,⟨t,y,own⟩),cl:=c}:=by
 let β:Nat->Option Nat:=fun id=>if id=d+1 then some W.w.heap.size else W.β id
 have aw:d+1<s.bs.length:=(List.getElem?_eq_some_iff.1 hb).1
 have dG:(s.close c).bs[d+1]? =some none:=by rw[jf];exact hb
 have hk:b5 (s.close c) W (W.new cs.toArray T (.box (d+1)) β):=qX W _ _ _ _ _ (by show(if _ then _ else _)=_;rw[if_neg (by omega)]) (fun id B hB=>by
  show(if id=d+1 then _ else _)=_
  rw[if_neg (fun e=>by rw[e,dG] at hB;cases hB)])
 obtain⟨n1,n2⟩:=qF W cs.toArray T (.box (d+1)) β
 have aU:aH (W.new cs.toArray T (.box (d+1)) β) (d+1) W.w.heap.size ⟨t,y,own⟩:=
  ⟨n2,bG.of b8 n1 (by simpa using av.af (fun _ _=>hk.aj)) (by simpa using bn.bQ hk)⟩
 have hβd:β (d+1)=some W.w.heap.size:=by show(if d+1=d+1 then _ else _)=_;rw[if_pos rfl]
 have cp:=(nw.bQ hk).cC (by rw[jf];exact aw) dG hβd aU
 refine⟨W.new cs.toArray T (.box (d+1)) β,.pointer (some ⟨X.w.heap.size,0,none⟩),.inl ?_,hX.trans hk.ext,?_⟩
 ·rw[aB];simp [ah.new,hW]
 ·rw[hd]
  refine cp.put (fun d' e=> ?_) (fun id t' p hm=> ?_)
  ·cases e
   refine⟨W.w.heap.size,hβd,(zq b8).2 ⟨?_,by simp [Ty.b6]⟩⟩
   rw[hW]
   simp [Ty.off]
  ·have:id=d+1:=by have:=hm;simp at this;exact this.1
   subst this
   exact⟨⟨t,y,own⟩,by simp [State.ap,List.getElem?_set,jf,aw]⟩
theorem nW(hE:ag P E){T:TypeId}{t:Ty}(ht:E.ty T=some t)(w:World):(zeroValue T).run P w= .ok (bN t (zb t)) w:=by
 obtain⟨i,h1,_,_,h2⟩:=(hE.ty T t ht).info
 simp [zeroValue,typeInfo,h1,h2]
theorem ur(X:ah)(pl:List Nat->Place):∀t:Ty,aD X pl t (El.aN t) (zb t) (jg t):=by
 intro t
 induction t generalizing pl with
 |sl e t=>
  intro p hp
  have hp:p=[]:=by simpa [jg] using hp
  subst hp
  exact⟨e,t,[],.slice none 0 0,by simp [Ty.b6],rfl,rfl,.inl ⟨rfl,rfl⟩⟩
 |pair ta tb ew ey=>
  intro p hp
  simp only[jg,List.mem_append,List.mem_map,List.mem_filterMap] at hp
  rcases hp with⟨q,hq,rfl⟩|⟨q,hq,he⟩
  ·obtain⟨e,t',xs,v,g0,g1,g2,g3⟩:=ew (fun q=>pl (0::q)) q hq
   refine⟨e,t',xs,v,g0,g1,?_,g3⟩
   have hl:=(List.getElem?_eq_some_iff.1 g2).1
   simp only[Ty.off,zb]
   rw[List.getElem?_append_left hl]
   exact g2
  ·cases q with
   |nil=>simp [j4] at he
   |cons j q=>
    simp only[j4,Option.some.injEq] at he
    subst he
    obtain⟨e,t',xs,v,g0,g1,g2,g3⟩:=ey (fun q=>match q with| []=>pl []|j::q=>pl ((j+1)::q)) (j::q) hq
    refine⟨e,t',xs,v,g0,g1,?_,g3⟩
    simp only[Ty.off,zb]
    rw[List.getElem?_append_right (by rw[zx];omega),zx,Nat.add_sub_cancel_left]
    exact g2
 |_=>intro p hp;simp [jg] at hp
theorem ao.km{P:Program}(hr:Rel X s a){d:Nat}{T e:TypeId}(hd:o.dst=some d)(hb:s.bs[d+1]? =some none)
 (aB:(execOp a.eval o).run P X.w= .ok (.value (.pointer (some ⟨X.w.heap.size,0,none⟩))) (X.w.alloc (.cells #[.pointer none,.slice none 0 0] T))):
 ao P X s a o {v:=[.ptr (d+1) (.aG (.gp T e) .unit .unit) []],bx:=some (d+1,⟨.aG (.gp T e) .unit .unit,(⟨#[]⟩:ByteArray),[[]]⟩)}:=by
 let β:Nat->Option Nat:=fun id=>if id=d+1 then some X.w.heap.size else X.β id
 have aw:d+1<s.bs.length:=(List.getElem?_eq_some_iff.1 hb).1
 have hk:b5 s X (X.new #[.pointer none,.slice none 0 0] T (.box (d+1)) β):=qX X _ _ _ _ _ (by show(if _ then _ else _)=_;rw[if_neg (by omega)]) (fun id B hB=>by
  show(if id=d+1 then _ else _)=_
  rw[if_neg (fun e=>by rw[e,hb] at hB;cases hB)])
 obtain⟨n1,n2⟩:=qF X #[.pointer none,.slice none 0 0] T (.box (d+1)) β
 have aU:aH (X.new #[.pointer none,.slice none 0 0] T (.box (d+1)) β) (d+1) X.w.heap.size ⟨.aG (.gp T e) .unit .unit,(⟨#[]⟩:ByteArray),[[]]⟩:=
  ⟨n2,⟨_,n1⟩,fun _=>⟨.slice none 0 0,⟨.inl n1,⟨rfl,.inl ⟨rfl,rfl⟩⟩,by simp [Value.ownBlock]⟩,fun g hg=>by simp [Value.ownBlock] at hg⟩⟩
 have hβd:β (d+1)=some X.w.heap.size:=by show(if d+1=d+1 then _ else _)=_;rw[if_pos rfl]
 have cp:=(hr.bQ hk).cC aw hb hβd aU
 refine⟨X.new #[.pointer none,.slice none 0 0] T (.box (d+1)) β,.pointer (some ⟨X.w.heap.size,0,none⟩),.inl aB,hk.ext,?_⟩
 rw[hd]
 refine cp.put (fun d' e=> ?_) (fun id t' p hm=> ?_)
 ·cases e
  exact⟨X.w.heap.size,hβd,(q6 rfl).2 ⟨by simp [Ty.off],by simp [Ty.b6]⟩⟩
 ·have:id=d+1:=by have:=hm;simp at this;exact this.1
  subst this
  exact⟨_,by simp [State.ap,List.getElem?_set,aw];rfl⟩
theorem xQ(hE:ag P E)(hr:Rel X s a){ops:List Oper}{T:TypeId}(ho:o.op= .alloc T){C:FuncId->aK Out}(h:act E C ops o s some=some u):ao P X s a o u:=by
 unfold act at h
 simp only[ho] at h
 split at h
 case h_3=>cases h
 case h_2=>
  rename_i d hT hd
  split at h
  case h_2=>cases h
  rename_i e nm
  split at h
  case h_2=>cases h
  rename_i hb
  cases h
  obtain⟨i,h1,h2⟩:=hE.bl T e nm
  refine ao.km hr hd hb ?_
  have hz:(zeroValue T).run P X.w= .ok (.agg #[.pointer none,.slice none 0 0]) X.w:=by simp [zeroValue,typeInfo,h1,h2]
  simp only[execOp,ho,Sem.run_bind,Instr.alloc,hz,Result.andThen_ok,qv,Sem.run_pure]
  rfl
 rename_i t d hT hd
 split at h
 case h_2=>cases h
 rename_i hb
 cases h
 have av:=hH X t
 refine ao.cC (T:=T) (cs:=zb t) (W:=X) (c:=[]) hr (hE.cV hT) hd hb rfl (Ext.refl X) hr av (ur X _ t) ?_
 simp only[execOp,ho,Sem.run_bind,Instr.alloc,nW hE hT,Result.andThen_ok,qv,je av,Sem.run_pure]
theorem Ad(hE:ag P E)(hr:Rel X s a){ops:List Oper}{T:TypeId}{x:Operand}(ho:o.op= .box T x){C:FuncId->aK Out}(h:act E C ops o s some=some u):ao P X s a o u:=by
 unfold act at h
 simp only[ho] at h
 split at h
 case h_2=>cases h
 rename_i t d hT hd
 split at h
 case h_2=>cases h
 rename_i hb
 obtain⟨y,h,hy⟩:=rD hr h (.inl rfl)
 cases h
 obtain⟨W,cs,h1,h2,h3,h4,h5,h6,_,_,_⟩:=hy (.b (d+1))
 refine ao.cC (T:=T) (cs:=cs) (W:=W) hr (hE.cV hT) hd hb h1 h2 h3 h4 h6 ?_
 simp only[execOp,ho,Sem.run_bind,Instr.box,qv,Result.andThen_ok,Sem.run_pure,h5,je h4]
end Go.Ref

namespace Go.Ref
open Go
variable {P:Program} {E:Env} {X:ah} {s:State} {a:Act} {o:Oper} {u:Out}
theorem kR(hE:ag P E){T:TypeId}{t:Ty}(ht:E.ty T=some t){x:El t}{cs:List Value}(hr:aA X t x cs){ad:Addr}{w:World}(hc:∀(i:Nat) v,cs[i]? =some v->w.cell? (ad.add i)=some v):(loadVar T ad).run P w= .ok (bN t cs) w:=by
 have hl:=hr.len
 unfold loadVar
 simp only[Sem.run_bind,ug hE ht,Result.andThen_ok]
 cases hg:t.agg with
 |true=>
  have:=run_loadCells_list (P:=P) w ad cs hc
  rw[hl] at this
  simp only[if_true,Sem.run_bind,zh hE ht,Result.andThen_ok,this,Sem.run_pure,zj hg]
 |false=>
  have h1:t.cells=1:=by cases t<;>simp_all [Ty.agg,Ty.cells]
  rw[h1] at hl
  match cs,hl with
  | [c],_=>
    rw[mW hg]
    have:=hc 0 c rfl
    have h0:ad.add 0=ad:=by simp [Addr.add]
    rw[h0] at this
    simp only[Bool.false_eq_true,if_false,run_load,this]
theorem x6{own:List (List Nat)}{p:List Nat}(h:eZ own p=true):p∈own:=by
 unfold eZ at h
 obtain⟨q,hq,he⟩:=List.any_eq_true.1 h
 rw[<-eq_of_beq he]
 exact hq
theorem qk{own:List (List Nat)}{p q:List Nat}(h:q∈ji own p):q∈own/\p.isPrefixOf q=false:=by
 unfold ji at h
 rw[List.mem_filter] at h
 exact⟨h.1,by simpa using h.2⟩
theorem Rel.fq{Y:ah}(hr:Rel Y s a){id r:Nat}{B B':aI}(hb:s.bs[id]? =some (some B))(hβ:Y.β id=some r)(h:aH Y id r B'):Rel Y (s.ap (some (id,B'))) a where
 size:=hr.size
 cN:=by simpa [State.ap] using hr.cN
 aM:=hr.aM
 boxes:=fun aS B2 bD=>by
  have aw:id<s.bs.length:=(List.getElem?_eq_some_iff.1 hb).1
  simp only[State.ap,List.getElem?_set] at bD
  by_cases e:id=aS
  ·subst e
   rw[if_pos rfl,if_pos aw] at bD
   cases bD;exact⟨r,hβ,h⟩
  ·rw[if_neg e] at bD
   exact hr.boxes aS B2 bD
 live:=fun i l aS t p hi hm=>by
  have aw:id<s.bs.length:=(List.getElem?_eq_some_iff.1 hb).1
  obtain⟨B2,bD⟩:=hr.live i l aS t p hi hm
  simp only[State.ap,List.getElem?_set]
  by_cases e:id=aS
  ·subst e;exact⟨B',by rw[if_pos rfl,if_pos aw]⟩
  ·rw[if_neg e];exact⟨B2,bD⟩
 defers:=hr.defers
theorem qu{id:Nat}{B B':aI}(hb:s.bs[id]? =some (some B)):(s.ap (some (id,B'))).bs[id]? =some (some B'):=by
 have aw:id<s.bs.length:=(List.getElem?_eq_some_iff.1 hb).1
 simp [State.ap,List.getElem?_set,aw]
theorem nR{r off i:Nat}{cs:Array Value}{T:TypeId}{w:World}(h:w.heap[r]? =some (.cells cs T (0,0))){k:Nat}{v:Value}(hv:((cs.toList.drop off).take k)[i]? =some v):w.cell? ((⟨r,off,none⟩:Addr).add i)=some v:=by
 rw[zn]
 rw[List.getElem?_take] at hv
 split at hv
 ·rw[List.getElem?_drop] at hv
  simpa [World.cell?,h] using hv
 ·cases hv
theorem bY:∀(t:Ty) (p:List Nat) (u:Ty),t.at_ p=some u->t.b6 p->t.off p+u.cells<=t.cells:=by
 intro t
 induction t with
 |aL n t ih=>
  intro p u h hp
  cases p with
  |nil=>simp only[Ty.at_,Option.some.injEq] at h;subst h;simp [Ty.off]
  |cons i p=>
   have:=ih p u h hp.2
   have hn:(i+1)*t.cells<=n*t.cells:=Nat.mul_le_mul_right _ hp.1
   rw[Nat.add_mul,Nat.one_mul] at hn
   simp only[Ty.off,Ty.cells]
   omega
 |pair x y mo mq=>
  intro p u h hp
  cases p with
  |nil=>simp only[Ty.at_,Option.some.injEq] at h;subst h;simp [Ty.off]
  |cons i p=>
   cases i with
   |zero=>have:=mo p u h hp;simp only[Ty.off,Ty.cells];omega
   |succ i=>have:=mq (i::p) u h hp;simp only[Ty.off,Ty.cells];omega
 |_=>
  intro p u h hp
  cases p with
  |nil=>simp only[Ty.at_,Option.some.injEq] at h;subst h;simp [Ty.off]
  |cons i p=>simp [Ty.at_] at h
theorem Bj{t:Ty}{p:List Nat}{e:TypeId}{t':Ty}(h:t.b6 p)(aT:t.at_ p=some (.sl e t')):t.off p<t.cells:=by
 have:=bY t p _ aT h
 simp only[Ty.cells] at this
 omega
theorem x5:∀{t:Ty} {p q:List Nat} {x:El t} {u:Ty} {y:El u} {r:(u:Ty)×El u},El.get t p x=some ⟨u,y⟩->t.b6 (p++q)->El.get t (p++q) x=some r->u.b6 q/\El.get u q y=some r:=by
 intro t
 induction t with
 |aL n t ih=>
  intro p q x u y r h1 h2 h3
  cases p with
  |nil=>simp only[El.get,Option.some.injEq,Sigma.mk.injEq] at h1;obtain⟨rfl,h1⟩:=h1;cases h1;exact⟨h2,h3⟩
  |cons i p=>exact ih h1 h2.2 h3
 |pair ta tb ew ey=>
  intro p q x u y r h1 h2 h3
  cases p with
  |nil=>simp only[El.get,Option.some.injEq,Sigma.mk.injEq] at h1;obtain⟨rfl,h1⟩:=h1;cases h1;exact⟨h2,h3⟩
  |cons i p=>
   cases i with
   |zero=>exact ew h1 h2 h3
   |succ i=>exact ey (p:=i::p) h1 h2 h3
 |_=>
  intro p q x u y r h1 h2 h3
  cases p with
  |nil=>simp only[El.get,Option.some.injEq,Sigma.mk.injEq] at h1;obtain⟨rfl,h1⟩:=h1;cases h1;exact⟨h2,h3⟩
  |cons i p=>simp [El.get] at h1
def ah.cr(X:ah)(id:Nat)(p:List Nat)(q:List Nat->Place):ah:=
 {X with ow:=fun g=>match X.ow g with
  | .row (.b aS p') n=>if aS=id/\p.isPrefixOf p'=true then .row (q (p'.drop p.length)) n else .row (.b aS p') n
  |w=>w}
theorem tW{s:State}{X:ah}{id:Nat}{p:List Nat}{q:List Nat->Place}(h:∀p',¬bj s (.b id (p++p'))):bI s X (X.cr id p q):=by
 refine⟨rfl,rfl,fun g=> ?_⟩
 simp only[ah.cr]
 cases hg:X.ow g with
 |row pl n=>
  cases pl with
  |b aS p'=>
   by_cases e:aS=id/\p.isPrefixOf p'=true
   ·obtain⟨rfl,hp⟩:=e
    obtain⟨r,rfl⟩:=List.isPrefixOf_iff_prefix.1 hp
    exact .inr ⟨_,n,q r,rfl,h r,by simp⟩
   ·exact .inl (if_neg e)
  |_=>exact .inl rfl
 |_=>exact .inl rfl
theorem aE.fJ{X:ah}{id:Nat}{p r:List Nat}{q:List Nat->Place}{e:TypeId}{k n:Nat}{v:Value}(h:aE X (.b id (p++r)) e k n v):aE (X.cr id p q) (q r) e k n v:=by
 rcases h with h|⟨g,cap,cur,h1,h2,h3,h4,h5,h6⟩
 ·exact .inl h
 ·exact .inr ⟨g,cap,cur,h1,h2,h3,h4,h5,by simp [ah.cr,h6]⟩
theorem kz(hr:Rel X s a){id:Nat}{t b:Ty}{B:aI}(hB:s.box id=some B)(h:B.t.aX (.aG .row t b)=true):s.bs[id]? =some (some B)/\∃r,X.β id=some r/\X.ow r= .box id/\∃cs T,X.w.heap[r]? =some (.cells cs T (0,0))/\cs.size=List.length (Ty.cast h B.x:List (El t))*t.cells/\
 ∀(j:Nat) (x:El t),(Ty.cast h B.x:List (El t))[j]? =some x->aA X t x ((cs.toList.drop (j*t.cells)).take t.cells):=by
 have hb:=gi hB
 obtain⟨r,h1,h2,h3⟩:=hr.boxes id B hb
 refine⟨hb,r,h1,h2,?_⟩
 obtain⟨bt,bx,bo⟩:=B
 have e:=Ty.ax h
 simp only at e
 subst e
 obtain⟨cs,T,g1,g2,g3⟩:=h3
 exact⟨cs,T,g1,g2,g3⟩
theorem xT(hE:ag P E)(hr:Rel X s a){S T:TypeId}{x:Operand}(ho:o.op= .convert S T x){id n:Nat}{ta tb:Ty}(bM:s.ak x= .ptr id (.aG (.dI n) ta tb) [])(h:dn E S T s id n ta tb some=some u):ao P X s a o u:=by
 have hx:=hr.ak x
 rw[bM] at hx
 obtain⟨r0,hβ,cap,hv,eK⟩:=hx
 unfold dn at h
 split at h
 case h_2=>cases h
 rename_i e hS hT
 split at h
 case isFalse=>cases h
 rename_i heq
 have:=Ty.ax heq
 subst this
 split at h
 case h_2=>cases h
 rename_i B hB
 split at h
 case isFalse=>cases h
 rename_i cj
 obtain⟨hb,r,h1,h2,cs,T',aq,cQ,b7⟩:=kz hr hB cj
 rw[hβ] at h1
 cases h1
 generalize(Ty.cast cj B.x:List Int)=xs at*
 cases hn:Nat.beq n (List.length xs) with
 |false=>rw[hn] at h;cases h
 |true=>
  rw[hn] at h
  cases h
  have hn:=Nat.eq_of_beq_eq_true hn
  subst hn
  have hu:=(hE.ty S _ hS).bA
  have he:=(hE.ty e _ hu.2).bA
  have hT:=(hE.ty T _ hT).bA
  refine ao.plain hr (v:= .string (strOf xs)) ?_ kZ (fun _ _ _ e'=>by cases e')
  have key:(convert S T (.slice (some ⟨r0,0,none⟩) (List.length xs) cap)).run P X.w= .ok (.string (strOf xs)) X.w:=by
   rw[run_convert_bytes_string X.w S T e _ _ cap hu.1 he hT]
   have dt:(loadCells ⟨r0,0,none⟩ (List.length xs)).run P X.w= .ok (List.map (Value.int .u8) xs).toArray X.w:=by
    have:=run_loadCells_list (P:=P) X.w ⟨r0,0,none⟩ (List.map (Value.int .u8) xs) (fun j v hj=>by
     obtain⟨y,hy,rfl⟩:=List.getElem?_map .. ▸hj|>Option.map_eq_some_iff.1
     have hc:(cs.toList.drop (j*1)).take 1=[.int .u8 y]:=b7 j y hy
     have h0:=congrArg (fun l=>l[0]?) hc
     simp only[List.getElem?_take,List.getElem?_drop] at h0
     simp only[Nat.zero_lt_one,if_true,Nat.mul_one,Nat.add_zero,List.getElem?_cons_zero] at h0
     rw[zn,Nat.zero_add]
     simpa [World.cell?,aq] using h0)
    rw[List.length_map] at this
    exact this
   rw[run_bytesToString X.w _ _ cap xs dt,foldl_push_bytes]
   simp [strOf,ByteArray.empty,ByteArray.emptyWithCapacity]
   rfl
  simp only[execOp,ho,Sem.run_bind,hv,key,Result.andThen_ok,Sem.run_pure]
theorem yA(hE:ag P E)(hr:Rel X s a){ops:List Oper}{S T:TypeId}{x:Operand}(ho:o.op= .convert S T x){C:FuncId->aK Out}(h:act E C ops o s some=some u):ao P X s a o u:=by
 unfold act at h
 simp only[ho] at h
 split at h
 ·rename_i id n ta tb bM
  exact xT hE hr ho bM h
 ·exact xU hE hr ho h
theorem xt(hE:ag P E)(hr:Rel X s a){T:TypeId}{u':Ty}{x:Operand}(ho:o.op= .load T x)(hT:E.ty T=some u'){id:Nat}{t:Ty}{p:List Nat}(bM:s.ak x= .ptr id t p)(h:kx u' s id t p some=some u):ao P X s a o u:=by
 have hx:=hr.ak x
 rw[bM] at hx
 obtain⟨r0,hβ,hv⟩:=hx
 unfold kx at h
 split at h
 case h_2=>cases h
 rename_i ta tb i
 split at h
 case h_2=>cases h
 rename_i B hB
 split at h
 case isFalse=>cases h
 rename_i cj
 split at h
 case isFalse=>cases h
 rename_i heq
 have:=Ty.ax heq
 subst this
 obtain⟨hb,r,h1,h2,cs,T',aq,cQ,b7⟩:=kz hr hB cj
 rw[hβ] at h1
 cases h1
 generalize(Ty.cast cj B.x:List (El u'))=xs at*
 cases hn:Nat.ble (i+1) (List.length xs) with
 |false=>rw[hn] at h;cases h
 |true=>
  rw[hn] at h
  cases h
  have aw:i<List.length xs:=Nat.le_of_ble_eq_true hn
  have av:=b7 i _ (getD_some (El.aN u') aw)
  have hv:a.eval x= .pointer (some ⟨r0,i*u'.cells,none⟩):=hv
  refine ao.plain hr ?_ (ky av) (fun _ _ _ e'=>by cases e')
  have hl:=kR hE hT av (ad:=⟨r0,i*u'.cells,none⟩) (w:=X.w) (fun j v hj=>nR aq hj)
  simp only[execOp,ho,Sem.run_bind,Instr.loadAt,hv,Instr.sureAddr,Sem.run_pure,Result.andThen_ok,hl]
theorem xr(hE:ag P E)(hr:Rel X s a){T:TypeId}{u':Ty}{x:Operand}(ho:o.op= .load T x)(hT:E.ty T=some u'){id:Nat}{t:Ty}{p:List Nat}(bM:s.ak x= .ptr id t p){B:aI}(hB:s.box id=some B)(h:z37 u' B t p some=some u):ao P X s a o u:=by
 have hx:=hr.ak x
 rw[bM] at hx
 obtain⟨r0,hβ,hv⟩:=hx
 unfold z37 at h
 split at h
 case h_2=>cases h
 rename_i n e
 split at h
 case isFalse=>cases h
 rename_i cj
 split at h
 case isFalse=>cases h
 rename_i heq
 have:=Ty.ax heq
 subst this
 obtain⟨hb,r,h1,h2,cs,T',aq,cQ,b7⟩:=kz hr hB cj
 rw[hβ] at h1
 cases h1
 generalize(Ty.cast cj B.x:List (El e))=xs at*
 cases hn:Nat.beq n (List.length xs) with
 |false=>rw[hn] at h;cases h
 |true=>
  rw[hn] at h
  cases h
  have hn:=Nat.eq_of_beq_eq_true hn
  have av:aA X (.aL n e) xs cs.toList:=⟨hn.symm,by rw[hn];simpa using cQ,b7⟩
  have hv:=((zq rfl).1 hv).1
  have hv:a.eval x= .pointer (some ⟨r0,0,none⟩):=by rw[hv];rfl
  refine ao.plain hr ?_ (ky av) (fun _ _ _ e'=>by cases e')
  have hl:=kR hE hT av (ad:=⟨r0,0,none⟩) (w:=X.w) (fun j v hj=>nR (off:=0) (k:=cs.toList.length) aq (by rw[List.drop_zero,List.take_length];exact hj))
  simp only[execOp,ho,Sem.run_bind,Instr.loadAt,hv,Instr.sureAddr,Sem.run_pure,Result.andThen_ok,hl]
theorem yD(hE:ag P E)(hr:Rel X s a){ops:List Oper}{T:TypeId}{x:Operand}(ho:o.op= .load T x){C:FuncId->aK Out}(h:act E C ops o s some=some u):ao P X s a o u:=by
 unfold act at h
 simp only[ho] at h
 have hx:=hr.ak x
 unfold load at h
 split at h
 case h_2=>cases h
 rename_i u' hT
 split at h
 ·rename_i t y e
  rw[e] at hx
  obtain⟨ad,cs,hv,eF,av,bJ⟩:=hx
  split at h
  case isFalse=>cases h
  rename_i heq
  have:=Ty.ax heq
  subst this
  cases h
  refine ao.plain hr ?_ (ky av) (fun _ _ _ e'=>by cases e')
  have hl:=kR hE hT av (ad:=ad) (w:=X.w) (fun i v hi=>(bJ i v hi).2.1)
  simp only[execOp,ho,Sem.run_bind,Instr.loadAt,hv,Instr.sureAddr,Sem.run_pure,Result.andThen_ok,hl]
 ·rename_i id t p e
  rw[e] at hx
  obtain⟨r,hβ,hx⟩:=hx
  split at h
  ·exact xt hE hr ho hT e h
  rename_i b8
  have b8:t.aJ=false:=by simpa using b8
  obtain⟨hv,cw⟩:=(zq b8).1 hx
  split at h
  case h_2=>cases h
  rename_i B hB
  split at h
  case isFalse=>exact xr hE hr ho hT e hB h
  rename_i heq
  have cj:=Ty.ax heq
  split at h
  case h_2=>cases h
  rename_i ut y bf
  split at h
  case isFalse=>cases h
  rename_i kc
  have:=Ty.ax kc
  subst this
  have hb:=gi hB
  obtain⟨r',hβ',iF⟩:=hr.boxes id B hb
  rw[hβ] at hβ'
  cases hβ'
  subst cj
  obtain⟨cs,T',aq,av,how,bn⟩:=iF.cells b8
  obtain⟨k1,k2,k3⟩:=z40 av cw bf
  have hl:=kR hE hT k3 (ad:=⟨r,B.t.off p,none⟩) (w:=X.w) (fun i v hi=>nR aq hi)
  have aB:(execOp a.eval o).run P X.w= .ok (.value (bN u' ((cs.toList.drop (B.t.off p)).take u'.cells))) X.w:=by
   simp only[execOp,ho,Sem.run_bind,Instr.loadAt,hv,Instr.sureAddr,Sem.run_pure,Result.andThen_ok,hl]
  cases hc:oz ops o.dst||jA E ops o.dst||vC ops o.dst with
  |false=>
   rw[hc] at h
   cases h
   exact ao.plain hr aB (ky k3) (fun _ _ _ e'=>by cases e')
  |true=>
   rw[hc] at h
   cases h
   have cP:Rel X (s.ap (some (id,{B with own:=ji B.own p}))) a:=hr.fq hb hβ ⟨how,bG.of b8 aq av fun q hq=>bn q (qk hq).1⟩
   have kN:∀q,¬bj (s.ap (some (id,{B with own:=ji B.own p}))) (.b id (p++q)):=by
    rintro q ⟨B2,bD,hp⟩
    rw[qu hb] at bD
    cases bD
    have:=(qk hp).2
    rw[List.isPrefixOf_iff_prefix.2 (List.prefix_append p q)] at this
    cases this
   have eD:=tW (X:=X) (q:= .c (o.dst.getD 0) 0) kN
   refine⟨X.cr id p (.c (o.dst.getD 0) 0),_,.inl aB,eD.ext,(cP.mod eD.mod).fin ⟨_,k3.af (fun _ _=>eD.aj.1),rfl,?_⟩ (fun id t p hm=>by simp at hm)⟩
   intro q hq
   obtain⟨q0,wy,rfl⟩:=List.mem_map.1 hq
   obtain⟨wA,pK⟩:=List.mem_filter.1 wy
   obtain⟨q,rfl⟩:=List.isPrefixOf_iff_prefix.1 pK
   rw[List.drop_left]
   obtain⟨e',t',xs,v,h0,h1,h2,h3⟩:=bn _ wA
   obtain⟨j1,j2⟩:=x5 bf h0 h1
   have hle:=Bj j1 (m7 _ _ _ _ _ j2)
   refine⟨e',t',xs,v,j1,j2,?_,h3.fJ⟩
   rw[nI _ _ _ _ k1] at h2
   rw[List.getElem?_take,if_pos hle,List.getElem?_drop]
   exact h2
 ·cases h
theorem qH{cs c:List Value}{off:Nat}(h:off+c.length<=cs.length)(j k:Nat):(∀h1:j+k<=off\/off+c.length<=j,((cs.take off++c++cs.drop (off+c.length)).drop j).take k=(cs.drop j).take k):=by
 intro h1
 apply List.ext_getElem?
 intro q
 simp only[List.getElem?_take,List.getElem?_drop]
 split
 ·rename_i hq
  rw[List.append_assoc]
  rcases h1 with h1|h1
  ·rw[List.getElem?_append_left (by rw[List.length_take];omega),List.getElem?_take,if_pos (by omega)]
  ·rw[List.getElem?_append_right (by rw[List.length_take];omega),List.length_take,Nat.min_eq_left (by omega),List.getElem?_append_right (by omega),List.getElem?_drop]
   congr 1
   omega
 ·rfl
theorem rC{X:ah}:∀{t:Ty} {p:List Nat} {x:El t} {cs:List Value} {u:Ty} {y:El u} {z:El t} {c:List Value},aA X t x cs->t.b6 p->t.at_ p=some u->El.set t p x u y=some z->aA X u y c->
 aA X t z (cs.take (t.off p)++c++cs.drop (t.off p+c.length)):=by
 intro t
 induction t with
 |aL n t ih=>
  intro p x cs u y z c hr hp aT h hc
  have eE:=hc.len
  cases p with
  |nil=>
   simp only[Ty.at_,Option.some.injEq] at aT
   subst aT
   simp only[El.set,Ty.aO,dite_true,Option.some.injEq] at h
   subst h
   have hl:=hr.len
   simp only[Ty.off,Nat.zero_add,List.take_zero,List.nil_append]
   rw[eE,<-hl,List.drop_length,List.append_nil]
   exact hc
  |cons i p=>
   obtain⟨hi,hp⟩:=hp
   obtain⟨h1,h2,h3⟩:=hr
   simp only[El.set] at h
   obtain⟨z',eP,rfl⟩:=Option.map_eq_some_iff.1 h
   have eJ:t.at_ p=some u:=aT
   have hle:=bY t p u eJ hp
   have hn:(i+1)*t.cells<=n*t.cells:=Nat.mul_le_mul_right _ hi
   rw[Nat.add_mul,Nat.one_mul] at hn
   have po:=ih (h3 i _ (getD_some (El.aN t) (by omega))) hp eJ eP hc
   have bq:i*t.cells+t.off p+c.length<=cs.length:=by rw[eE,h2];omega
   refine⟨by simpa using h1,?_,fun j w hj=> ?_⟩
   ·simp only[Ty.off,List.length_append,List.length_take,List.length_drop];omega
   ·simp only[Ty.off]
    by_cases e:j=i
    ·subst e
     rw[List.getElem?_set_self (by omega)] at hj
     cases hj
     have hL:((cs.take (j*t.cells+t.off p)++c++cs.drop (j*t.cells+t.off p+c.length)).drop (j*t.cells)).take t.cells=
      ((cs.drop (j*t.cells)).take t.cells).take (t.off p)++c++((cs.drop (j*t.cells)).take t.cells).drop (t.off p+c.length):=by
      apply List.ext_getElem?
      intro q
      rw[List.append_assoc,List.append_assoc]
      simp only[List.getElem?_take,List.getElem?_drop,List.getElem?_append,List.length_take,List.length_drop]
      rw[Nat.min_eq_left (show j*t.cells+t.off p<=cs.length by omega),Nat.min_eq_left (show t.cells<=cs.length-j*t.cells by omega),Nat.min_eq_left (show t.off p<=t.cells by omega)]
      by_cases q1:q<t.cells
      ·by_cases q2:q<t.off p
       ·rw[if_pos q1,if_pos (by omega),if_pos (by omega),if_pos q2,if_pos q2,if_pos q1]
       ·by_cases q3:q-t.off p<c.length
        ·rw[if_pos q1,if_neg (by omega),if_pos (by omega),if_neg q2,if_pos q3]
         congr 1
         omega
        ·rw[if_pos q1,if_neg (by omega),if_neg (by omega),if_neg q2,if_neg q3,if_pos (by omega)]
         congr 1
         omega
      ·rw[if_neg q1,if_neg (by omega),if_neg (by omega),if_neg (by omega)]
     rw[hL]
     exact po
    ·rw[List.getElem?_set_ne (Ne.symm e)] at hj
     have iJ:=(List.getElem?_eq_some_iff.1 hj).1
     rw[qH bq (j*t.cells) t.cells ?_]
     ·exact h3 j w hj
     ·rcases Nat.lt_or_gt_of_ne e with aw|sH
      ·have:(j+1)*t.cells<=i*t.cells:=Nat.mul_le_mul_right _ aw
       rw[Nat.add_mul,Nat.one_mul] at this
       exact .inl (by omega)
      ·have:(i+1)*t.cells<=j*t.cells:=Nat.mul_le_mul_right _ sH
       rw[Nat.add_mul,Nat.one_mul] at this
       exact .inr (by omega)
 |pair ta tb ew ey=>
  intro p x cs u y z c hr hp aT h hc
  have eE:=hc.len
  cases p with
  |nil=>
   simp only[Ty.at_,Option.some.injEq] at aT
   subst aT
   simp only[El.set,Ty.aO,dite_true,Option.some.injEq] at h
   subst h
   have hl:=hr.len
   simp only[Ty.off,Nat.zero_add,List.take_zero,List.nil_append]
   rw[eE,<-hl,List.drop_length,List.append_nil]
   exact hc
  |cons i p=>
   obtain⟨c1,c2,rfl,r1,r2⟩:=hr
   have l1:=r1.len
   have l2:=r2.len
   cases i with
   |zero=>
    simp only[El.set] at h
    obtain⟨z',eP,rfl⟩:=Option.map_eq_some_iff.1 h
    have eJ:ta.at_ p=some u:=aT
    have hle:=bY ta p u eJ hp
    have:=ew r1 hp eJ eP hc
    refine⟨_,c2,?_,this,r2⟩
    simp only[Ty.off]
    rw[List.take_append_of_le_length (by omega),List.drop_append_of_le_length (by omega)]
    simp [List.append_assoc]
   |succ i=>
    simp only[El.set] at h
    obtain⟨z',eP,rfl⟩:=Option.map_eq_some_iff.1 h
    have eJ:tb.at_ (i::p)=some u:=aT
    have hle:=bY tb (i::p) u eJ hp
    have:=ey r2 hp eJ eP hc
    refine⟨c1,_,?_,r1,this⟩
    simp only[Ty.off]
    rw[<-l1,List.take_length_add_append,Nat.add_assoc,List.drop_length_add_append]
    simp [List.append_assoc]
 |_=>
  intro p x cs u y z c hr hp aT h hc
  have eE:=hc.len
  cases p with
  |nil=>
   simp only[Ty.at_,Option.some.injEq] at aT
   subst aT
   simp only[El.set,Ty.aO,dite_true,Option.some.injEq] at h
   first|subst h|skip
   have hl:=hr.len
   simp only[Ty.off,Nat.zero_add,List.take_zero,List.nil_append]
   rw[eE,<-hl,List.drop_length,List.append_nil]
   exact hc
  |cons i p=>simp [Ty.at_] at aT
end Go.Ref

namespace Go.Ref
open Go
variable {P:Program} {E:Env} {X:ah} {s:State} {a:Act} {o:Oper} {u:Out}
theorem z91:∀{t:Ty} {p q:List Nat} {x:El t} {u:Ty} {y:El u} {z:El t} {e:TypeId} {t':Ty} {xs:El (.sl e t')},El.set t p x u y=some z->t.at_ p=some u->t.b6 p->t.b6 q->p.isPrefixOf q=false->El.get t q x=some ⟨.sl e t',xs⟩->
 El.get t q z=some ⟨.sl e t',xs⟩/\(t.off q+1<=t.off p\/t.off p+u.cells<=t.off q):=by
 intro t
 induction t with
 |aL n t ih=>
  intro p q x u y z e t' xs hs aT hp hq cf hg
  cases p with
  |nil=>simp at cf
  |cons i p=>
   cases q with
   |nil=>simp [El.get] at hg
   |cons j q=>
    simp only[El.set] at hs
    obtain⟨z',eP,rfl⟩:=Option.map_eq_some_iff.1 hs
    by_cases oV:i=j
    ·subst oV
     have eM:p.isPrefixOf q=false:=by simpa [List.isPrefixOf] using cf
     obtain⟨h1,h2⟩:=ih eP aT hp.2 hq.2 eM hg
     refine⟨?_,by simp only[Ty.off];omega⟩
     simp only[El.get]
     by_cases hl:i<List.length x
     ·rw[List.getD_eq_getElem?_getD,List.getElem?_set_self hl]
      exact h1
     ·have cA:List.set x i z'=x:=by rw[List.set_eq_of_length_le (Nat.le_of_not_lt hl)]
      rw[cA];exact hg
    ·refine⟨?_,?_⟩
     ·simp only[El.get] at hg⊢
      rw[List.getD_eq_getElem?_getD,List.getElem?_set_ne oV,<-List.getD_eq_getElem?_getD]
      exact hg
     ·have a1:=bY t p u aT hp.2
      have a2:t.off q+1<=t.cells:=by
       have:=bY t q _ (m7 t q _ _ _ hg) hq.2
       simpa [Ty.cells] using this
      simp only[Ty.off]
      rcases Nat.lt_or_gt_of_ne oV with h|h
      ·have:(i+1)*t.cells<=j*t.cells:=Nat.mul_le_mul_right _ h
       rw[Nat.add_mul,Nat.one_mul] at this
       omega
      ·have:(j+1)*t.cells<=i*t.cells:=Nat.mul_le_mul_right _ h
       rw[Nat.add_mul,Nat.one_mul] at this
       omega
 |pair ta tb ew ey=>
  intro p q x u y z e t' xs hs aT hp hq cf hg
  cases p with
  |nil=>simp at cf
  |cons i p=>
   cases q with
   |nil=>simp [El.get] at hg
   |cons j q=>
    cases i with
    |zero=>
     simp only[El.set] at hs
     obtain⟨z',eP,rfl⟩:=Option.map_eq_some_iff.1 hs
     cases j with
     |zero=>
      have eM:p.isPrefixOf q=false:=by simpa [List.isPrefixOf] using cf
      obtain⟨h1,h2⟩:=ew eP aT hp hq eM hg
      exact⟨h1,by simp only[Ty.off];omega⟩
     |succ j=>
      have a1:=bY ta p u aT hp
      exact⟨hg,by simp only[Ty.off];omega⟩
    |succ i=>
     simp only[El.set] at hs
     obtain⟨z',eP,rfl⟩:=Option.map_eq_some_iff.1 hs
     cases j with
     |zero=>
      have a2:ta.off q+1<=ta.cells:=by
       have:=bY ta q _ (m7 ta q _ _ _ hg) hq
       simpa [Ty.cells] using this
      exact⟨hg,by simp only[Ty.off];omega⟩
     |succ j=>
      have eM:(i::p).isPrefixOf (j::q)=false:=by
       simp [List.isPrefixOf] at cf⊢
       exact cf
      obtain⟨h1,h2⟩:=ey eP aT hp hq eM hg
      exact⟨h1,by simp only[Ty.off];omega⟩
 |_=>
  intro p q x u y z e t' xs hs aT hp hq cf hg
  cases p with
  |nil=>simp at cf
  |cons i p=>simp [Ty.at_] at aT
def ah.row(X:ah)(r:Nat)(cs:Array Value):ah:={X with w:=X.w.setRow r cs}
theorem iq{r id:Nat}{cs:Array Value}(h:X.ow r= .box id){ad:Addr}{v:Value}(hs:X.aj ad v):(X.row r cs).aj ad v:=by
 have bu:ad.block≠r:=fun e=>by
  have:=hs.2.2
  rw[e,h] at this
  exact this
 refine⟨hs.1,?_,hs.2.2⟩
 have:=hs.2.1
 simp only[World.cell?,ah.row] at this⊢
 rw[setRow_other X.w r ad.block cs bu]
 exact this
theorem n7{r id:Nat}{cs:Array Value}(h:X.ow r= .box id):Ext X (X.row r cs) where
 aj:=fun _ _=>iq h
 size:=by simp [ah.row]
 os:=rfl
 tape:=rfl
 output:=rfl
 β0:=rfl
 still:=fun g _ bp=>by
  have bu:g≠r:=fun e=>by rw[e,h] at bp;exact bp
  exact⟨rfl,setRow_other X.w r g cs bu⟩
theorem aE.row{r id:Nat}{cs:Array Value}(h:X.ow r= .box id){pl:Place}{e:TypeId}{k n:Nat}{v:Value}(ho:aE X pl e k n v):aE (X.row r cs) pl e k n v:=by
 rcases ho with ho|⟨g,cap,cur,h1,h2,h3,h4,h5,h6⟩
 ·exact .inl ho
 ·have bu:g≠r:=fun e=>by rw[e,h] at h6;cases h6
  exact .inr ⟨g,cap,cur,h1,(setRow_other X.w r g cs bu).trans h2,h3,h4,h5,h6⟩
theorem aD.row{r id:Nat}{cs:Array Value}(h:X.ow r= .box id){pl:List Nat->Place}{t:Ty}{x:El t}{c:List Value}{own:List (List Nat)}(ho:aD X pl t x c own):aD (X.row r cs) pl t x c own:=fun p hp=>by
 obtain⟨e,t',xs,v,g0,g1,g2,g3⟩:=ho p hp
 exact⟨e,t',xs,v,g0,g1,g2,g3.row h⟩
theorem ai.row{r id:Nat}{cs:Array Value}(h:X.ow r= .box id){pl:List Nat->Place}{sv:SV}{v:Value}(hr:ai X pl sv v):ai (X.row r cs) pl sv v:=by
 cases sv with
 |undef=>trivial
 |skip=>exact hr
 |bc=>exact hr
 |cK=>exact hr
 |over=>exact hr
 |al t x own=>
  obtain⟨c,h1,h2,h3⟩:=hr
  exact⟨c,h1.af (fun _ _=>iq h),h2,h3.row h⟩
 |ptr id t p=>exact hr
 |view t x=>
  obtain⟨ad,c,h1,h2,h3,h4⟩:=hr
  exact⟨ad,c,h1,h2,h3.af (fun _ _=>iq h),fun i u hi=>iq h (h4 i u hi)⟩
 |cap f t x u y=>exact ii (fun _ _=>iq h) hr
theorem Rel.row{r id:Nat}{B B':aI}{cs:Array Value}(hr:Rel X s a)(hb:s.bs[id]? =some (some B))(hβ:X.β id=some r)(h:X.ow r= .box id)(hB:aH (X.row r cs) id r B'):Rel (X.row r cs) (s.ap (some (id,B'))) a where
 size:=hr.size
 cN:=by simpa [State.ap] using hr.cN
 aM:=fun i l v hl hv=>(hr.aM i l v hl hv).dJ fun j sv u hm dH=>dH.row h
 boxes:=fun aS B2 bD=>by
  have aw:id<s.bs.length:=(List.getElem?_eq_some_iff.1 hb).1
  simp only[State.ap,List.getElem?_set] at bD
  by_cases e:id=aS
  ·subst e
   rw[if_pos rfl,if_pos aw] at bD
   cases bD;exact⟨r,hβ,hB⟩
  ·rw[if_neg e] at bD
   obtain⟨r',h1,h4,h2⟩:=hr.boxes aS B2 bD
   have bu:r'≠r:=fun e2=>by rw[e2,h] at h4;cases h4;exact e rfl
   exact⟨r',h1,h4,h2.move (fun _ _=>iq h) (setRow_other X.w r r' cs bu) (fun cs h5=>h5.row h) fun _ g o ho hw=>⟨(setRow_other X.w r g cs (fun e3=>by rw[e3,h] at hw;cases hw)).trans ho,hw⟩⟩
 live:=fun i l aS t p hi hm=>by
  have aw:id<s.bs.length:=(List.getElem?_eq_some_iff.1 hb).1
  obtain⟨B2,bD⟩:=hr.live i l aS t p hi hm
  simp only[State.ap,List.getElem?_set]
  by_cases e:id=aS
  ·subst e;exact⟨B',by rw[if_pos rfl,if_pos aw]⟩
  ·rw[if_neg e];exact⟨B2,bD⟩
 defers:=hr.defers
theorem nF(hE:ag P E){T:TypeId}{t:Ty}(ht:E.ty T=some t){x:El t}{cs:List Value}(hr:aA X t x cs){r off:Nat}{cur:Array Value}{T':TypeId}{w:World}(hg:w.heap[r]? =some (.cells cur T' (0,0)))(hf:off+t.cells<=cur.size):
 (storeVar T ⟨r,off,none⟩ (bN t cs)).run P w= .ok () (w.setRow r (cur.toList.take off++cs++cur.toList.drop (off+cs.length)).toArray):=by
 have hl:=hr.len
 have bp:=run_storeCells_at P r off T' cs 0 cur w hg (by omega) hr.one
 simp only[Nat.add_zero] at bp
 unfold storeVar
 simp only[Sem.run_bind,zh hE ht,Result.andThen_ok,je hr]
 rw[if_neg (by simp [hl])]
 exact bp
theorem xG:∀{t:Ty} {p q:List Nat} {x:El t} {u:Ty} {y:El u} {z:El t} {r:(u:Ty)×El u} {X:ah} {cs:List Value},aA X t x cs->El.set t p x u y=some z->t.at_ p=some u->t.b6 p->El.get u q y=some r->El.get t (p++q) z=some r:=by
 intro t
 induction t with
 |aL n t ih=>
  intro p q x u y z r X cs hr hs aT hp hg
  cases p with
  |nil=>
   simp only[Ty.at_,Option.some.injEq] at aT
   subst aT
   simp only[El.set,Ty.aO,dite_true,Option.some.injEq] at hs
   subst hs
   exact hg
  |cons i p=>
   simp only[El.set] at hs
   obtain⟨z',eP,rfl⟩:=Option.map_eq_some_iff.1 hs
   obtain⟨h1,h2,h3⟩:=hr
   have hi:i<List.length x:=by rw[h1];exact hp.1
   simp only[El.get,List.cons_append]
   rw[List.getD_eq_getElem?_getD,List.getElem?_set_self hi]
   exact ih (h3 i _ (getD_some _ hi)) eP aT hp.2 hg
 |pair ta tb ew ey=>
  intro p q x u y z r X cs hr hs aT hp hg
  cases p with
  |nil=>
   simp only[Ty.at_,Option.some.injEq] at aT
   subst aT
   simp only[El.set,Ty.aO,dite_true,Option.some.injEq] at hs
   subst hs
   exact hg
  |cons i p=>
   obtain⟨c1,c2,_,r1,r2⟩:=hr
   cases i with
   |zero=>
    simp only[El.set] at hs
    obtain⟨z',eP,rfl⟩:=Option.map_eq_some_iff.1 hs
    exact ew r1 eP aT hp hg
   |succ i=>
    simp only[El.set] at hs
    obtain⟨z',eP,rfl⟩:=Option.map_eq_some_iff.1 hs
    exact ey (p:=i::p) r2 eP aT hp hg
 |_=>
  intro p q x u y z r X cs hr hs aT hp hg
  cases p with
  |nil=>
   simp only[Ty.at_,Option.some.injEq] at aT
   subst aT
   simp only[El.set,Ty.aO,dite_true,Option.some.injEq] at hs
   first|subst hs|skip
   exact hg
  |cons i p=>simp [Ty.at_] at aT
theorem vl{t u:Ty}{p:List Nat}{x z:El t}{y:El u}{cs cv:List Value}{own oy:List (List Nat)}{pl:List Nat->Place}(hr:aA X t x cs)(cw:t.b6 p)(aT:t.at_ p=some u)(cA:El.set t p x u y=some z)(rep:aA X u y cv)
 (ho:aD X pl t x cs own) (hy:aD X (fun q=>pl (p++q)) u y cv oy):aD X pl t z (cs.take (t.off p)++cv++cs.drop (t.off p+cv.length)) (oy.map (fun q=>p++q)++ji own p):=by
 have eE:=rep.len
 have hle:=bY t p u aT cw
 have cu:=hr.len
 intro q hq
 rcases List.mem_append.1 hq with hq|hq
 ·obtain⟨q,pK,rfl⟩:=List.mem_map.1 hq
  obtain⟨e,t',xs,v,g0,g1,g2,g3⟩:=hy q pK
  have aw:=(List.getElem?_eq_some_iff.1 g2).1
  refine⟨e,t',xs,v,qt t p q u aT cw g0,xG hr cA aT cw g1,?_,g3⟩
  rw[nI t p q u aT,List.append_assoc,List.getElem?_append_right (by rw[List.length_take];omega),List.length_take,Nat.min_eq_left (by omega),Nat.add_sub_cancel_left,List.getElem?_append_left aw]
  exact g2
 ·obtain⟨wB,cf⟩:=qk hq
  obtain⟨e,t',xs,v,g0,g1,g2,g3⟩:=ho q wB
  obtain⟨k1,k2⟩:=z91 cA aT cw g0 cf g1
  refine⟨e,t',xs,v,g0,k1,?_,g3⟩
  have eF:=qH (cs:=cs) (c:=cv) (off:=t.off p) (by omega) (t.off q) 1 (by rw[eE];omega)
  have h0:=congrArg (fun l=>l[0]?) eF
  simp only[List.getElem?_take,List.getElem?_drop] at h0
  simp only[Nat.zero_lt_one,if_true,Nat.add_zero] at h0
  rw[h0];exact g2
theorem xm(hE:ag P E)(hr:Rel X s a){T:TypeId}{u0:Ty}{x y:Operand}(ho:o.op= .store T x y)(hT:E.ty T=some u0){id:Nat}{t:Ty}{p:List Nat}(bM:s.ak x= .ptr id t p)(h:kv u0 s id t p (s.ak y) some=some u):ao P X s a o u:=by
 have hx:=hr.ak x
 rw[bM] at hx
 obtain⟨r0,hβ,hv⟩:=hx
 unfold kv at h
 split at h
 case h_2=>cases h
 rename_i ta tb i
 split at h
 case h_2=>cases h
 rename_i B hB
 split at h
 case isFalse=>cases h
 rename_i cj
 split at h
 case isFalse=>cases h
 rename_i heq
 have:=Ty.ax heq
 subst this
 obtain⟨hb,r,h1,how,cs,T',aq,cQ,b7⟩:=kz hr hB cj
 rw[hβ] at h1
 cases h1
 obtain⟨yv,h,hy⟩:=zi h
 obtain⟨cv,rep,ev⟩:=hy X _ _ (hr.ak y)
 generalize(Ty.cast cj B.x:List (El ta))=xs at*
 cases hn:Nat.ble (i+1) (List.length xs) with
 |false=>rw[hn] at h;cases h
 |true=>
  rw[hn] at h
  cases h
  have aw:i<List.length xs:=Nat.le_of_ble_eq_true hn
  have hv:a.eval x= .pointer (some ⟨r0,i*ta.cells,none⟩):=hv
  have eE:=rep.len
  have hmul:(i+1)*ta.cells<=List.length xs*ta.cells:=Nat.mul_le_mul_right _ aw
  rw[Nat.add_mul,Nat.one_mul] at hmul
  have bq:i*ta.cells+ta.cells<=cs.size:=by omega
  have hZ:i*ta.cells+cv.length<=cs.toList.length:=by simp;omega
  let new:=(cs.toList.take (i*ta.cells)++cv++cs.toList.drop (i*ta.cells+cv.length)).toArray
  have gE:new.toList=cs.toList.take (i*ta.cells)++cv++cs.toList.drop (i*ta.cells+cv.length):=rfl
  have aB:(execOp a.eval o).run P X.w= .ok .skip ((X.row r0 new).w):=by
   have bp:=nF (P:=P) hE hT rep (off:=i*ta.cells) (w:=X.w) (r:=r0) (cur:=cs) (T':=T') aq bq
   simp only[execOp,ho,Sem.run_bind,Instr.storeAt,hv,Instr.sureAddr,Sem.run_pure,Result.andThen_ok,ev,bp]
   rfl
  have bB:new.size=cs.size:=by
   have:new.toList.length=cs.toList.length:=by rw[gE];simp;omega
   simpa using this
  have aU:aH (X.row r0 new) id r0 ⟨.aG .row ta tb,(List.set xs i yv:List (El ta)),[]⟩:=by
   refine⟨how,new,T',setRow_heap X.w r0 cs new T' (0,0) aq,?_,fun j z hj=> ?_⟩
   ·rw[bB,cQ]
    show _=List.length (List.set xs i yv)*_
    rw[List.length_set]
   ·refine aA.af (fun _ _=>iq (cs:=new) how) ?_
    have hj:(List.set xs i yv)[j]? =some z:=hj
    rw[gE]
    by_cases e:i=j
    ·subst e
     rw[List.getElem?_set_self aw] at hj
     cases hj
     have:((cs.toList.take (i*ta.cells)++cv++cs.toList.drop (i*ta.cells+cv.length)).drop (i*ta.cells)).take ta.cells=cv:=by
      rw[List.append_assoc,List.drop_append_of_le_length (by rw[List.length_take];omega),List.drop_eq_nil_of_le (by rw[List.length_take];omega),List.nil_append,<-eE,List.take_left]
     rw[this]
     exact rep
    ·rw[List.getElem?_set_ne e] at hj
     rw[qH (cs:=cs.toList) (c:=cv) (off:=i*ta.cells) hZ (j*ta.cells) ta.cells ?_]
     ·exact b7 j z hj
     ·rcases Nat.lt_or_gt_of_ne e with h|h
      ·have:(i+1)*ta.cells<=j*ta.cells:=Nat.mul_le_mul_right _ h
       rw[Nat.add_mul,Nat.one_mul] at this
       right;omega
      ·have:(j+1)*ta.cells<=i*ta.cells:=Nat.mul_le_mul_right _ h
       rw[Nat.add_mul,Nat.one_mul] at this
       left;omega
  exact⟨X.row r0 new,Go.undef,.inr ⟨aB,rfl⟩,n7 how,(hr.row (cs:=new) hb hβ how aU).skip o.dst⟩
theorem xZ(hE:ag P E)(hr:Rel X s a){ops:List Oper}{T:TypeId}{x y:Operand}(ho:o.op= .store T x y){C:FuncId->aK Out}(h:act E C ops o s some=some u):ao P X s a o u:=by
 unfold act at h
 simp only[ho] at h
 have hx:=hr.ak x
 unfold store at h
 split at h
 case h_2=>cases h
 rename_i u0 hT
 split at h
 case h_2=>cases h
 rename_i id t p e
 rw[e] at hx
 obtain⟨r,hβ,hx⟩:=hx
 split at h
 ·exact xm hE hr ho hT e h
 rename_i b8
 have b8:t.aJ=false:=by simpa using b8
 obtain⟨hv,cw⟩:=(zq b8).1 hx
 split at h
 case h_2=>cases h
 rename_i B hB
 split at h
 case isFalse=>cases h
 rename_i heq
 have cj:=Ty.ax heq
 subst cj
 split at h
 case h_2=>cases h
 rename_i u' aT
 split at h
 case isFalse=>cases h
 rename_i kc
 have:=Ty.ax kc
 subst this
 have hb:=gi hB
 obtain⟨yv,h,hy⟩:=rD hr h (.inl rfl)
 split at h
 case h_2=>cases h
 rename_i z cA
 cases h
 obtain⟨W,cv,hW,hX,nw,rep,ev,hO,hβ2,eD,_⟩:=hy (fun q=> .b id (p++q))
 obtain⟨r',hβW,iF⟩:=nw.boxes id B (by rw[jf];exact hb)
 obtain⟨cs,T2,aq,av,how,bn⟩:=iF.cells b8
 have wD:r'=r:=by
  rw[hβ2,hβ] at hβW
  exact(Option.some.inj hβW).symm
 subst wD
 have bq:B.t.off p+u'.cells<=cs.size:=by
  have:=bY B.t p u' aT cw
  have hl:=av.len
  simp at hl
  omega
 let new:=(cs.toList.take (B.t.off p)++cv++cs.toList.drop (B.t.off p+cv.length)).toArray
 have aB:(execOp a.eval o).run P X.w= .ok .skip ((W.row r' new).w):=by
  have bp:=nF (P:=P) hE hT rep (off:=B.t.off p) (w:=X.w) (r:=r') (cur:=cs) (T':=T2) (by rw[<-hW];exact aq) bq
  simp only[execOp,ho,Sem.run_bind,Instr.storeAt,hv,Instr.sureAddr,Sem.run_pure,Result.andThen_ok,ev,bp]
  rw[<-hW];rfl
 have gI:=vl av cw aT cA rep bn hO
 have aU:aH (W.row r' new) id r' {t:=B.t,x:=z,own:=(s.ak y).own.map (fun q=>p++q)++ji B.own p}:=by
  refine⟨how,bG.of b8 (setRow_heap W.w r' cs new T2 (0,0) aq) ?_ ?_⟩
  ·have:=(rC av cw aT cA rep).af (fun _ _=>iq (cs:=new) how)
   simpa [new] using this
  ·have:=gI.row (cs:=new) how
   simpa [new] using this
 have cp:=nw.row (cs:=new) (by rw[jf];exact hb) hβW how aU
 exact⟨W.row r' new,Go.undef,.inr ⟨aB,rfl⟩,hX.trans (n7 how),cp.skip o.dst⟩
end Go.Ref

namespace Go.Ref
open Go
variable {P:Program} {E:Env} {X:ah} {s:State} {a:Act} {o:Oper} {u:Out}
theorem uM(off:Nat):∀(l:List Value) (k:Nat) (cs:Array Value),off+k+l.length<=cs.size->
 ((l.zipIdx k).foldl (fun cs p=>cs.setIfInBounds (off+p.2) p.1) cs).toList=cs.toList.take (off+k)++l++cs.toList.drop (off+k+l.length)
 | [],k,cs,h=>by simp
 |v::r,k,cs,h=>by
  simp only[List.length_cons] at h
  simp only[List.zipIdx_cons,List.foldl_cons]
  rw[uM off r (k+1) _ (by simp;omega)]
  simp only[Array.toList_setIfInBounds,List.length_cons]
  apply List.ext_getElem?
  intro q
  simp only[List.getElem?_append,List.getElem?_take,List.getElem?_drop,List.length_append,List.length_take,List.length_set,Array.length_toList,List.getElem?_set,List.length_cons,List.getElem?_cons]
  rw[Nat.min_eq_left (show off+(k+1)<=cs.size by omega),Nat.min_eq_left (show off+k<=cs.size by omega)]
  by_cases h1:q<off+k
  ·rw[if_pos (by omega),if_pos (by omega),if_pos (by omega),if_neg (by omega),if_pos (by omega),if_pos (by omega),if_pos (by omega)]
  ·by_cases h2:q=off+k
   ·subst h2
    rw[if_pos (by omega),if_pos (by omega),if_pos (by omega),if_pos rfl,if_pos (by omega),if_pos (by omega),if_neg (by omega),if_pos (by omega)]
   ·by_cases h3:q<off+(k+1)+r.length
    ·rw[if_pos (by omega),if_neg (by omega),if_pos (by omega),if_neg (by omega),if_neg (by omega)]
     try(congr 1<;>omega)
    ·rw[if_neg (by omega),if_neg (by omega),if_neg (by omega)]
     first|done|(congr 1;omega)
theorem uL(off:Nat)(l:List Value)(cs:Array Value)(h:off+l.length<=cs.size):
 ((l.toArray.zipIdx).foldl (fun cs (p:Value×Nat)=>cs.setIfInBounds (off+p.2) p.1) cs).toList=cs.toList.take off++l++cs.toList.drop (off+l.length):=by
 have:=uM off l 0 cs (by omega)
 rw[<-Array.foldl_toList,Array.toList_zipIdx]
 simpa using this
theorem uJ(hr:Rel X s a){t:Ty}{pl:Nat->Option (Nat×Nat)}(dm:∀i ft,t.at_ [i]=some ft->t.dK i=true->t.b6 [i]/\pl i=some (t.off [i],ft.cells)){R:Type}{K:El t->List (List Nat)->Option R}{z:R}:
 ∀(parts:List (Nat×Operand)) (x:El t) (own:List (List Nat)) (cs:Array Value),aA X t x cs.toList->ga t x own (parts.map fun p=>(p.1,s.ak p.2,[])) K=some z->
  ∃y eV cells,K y eV=some z/\Instr.fill pl cs (parts.map fun p=>(p.1,a.eval p.2))=some cells/\aA X t y cells.toList
 | [],x,own,cs,rep,h=>⟨x,own,cs,h,rfl,rep⟩
 |(i,p)::r,x,own,cs,rep,h=>by
  simp only[List.map_cons,ga] at h
  split at h
  case isTrue=>cases h
  rename_i hb
  have hb:t.dK i=true:=by cases nj:t.dK i<;>simp_all
  split at h
  case h_2=>cases h
  rename_i ft aT
  obtain⟨y,h,hy⟩:=zi h
  split at h
  case h_2=>cases h
  rename_i x' cA
  obtain⟨c,rc,ec⟩:=hy X _ _ (hr.ak p)
  obtain⟨cw,hp⟩:=dm i ft aT hb
  have eE:=rc.len
  have cu:=rep.len
  have hle:=bY t [i] ft aT cw
  have gN:=rC rep cw aT cA rc
  have bq:t.off [i]+c.length<=cs.size:=by rw[eE];simp at cu;omega
  have fD:=uL (t.off [i]) c cs bq
  obtain⟨y2,gZ,cells,h1,h2,h3⟩:=uJ hr dm r x' _ _ (by rw[fD];exact gN) h
  refine⟨y2,gZ,cells,h1,?_,h3⟩
  simp only[List.map_cons,Instr.fill,hp,ec,je rc]
  rw[if_neg (by simp only[List.size_toArray,eE];simp;simp at cu;omega)]
  exact h2
theorem nM{t:Ty}{pl:Nat->Option (Nat×Nat)}(dm:∀i ft,t.at_ [i]=some ft->t.dK i=true->t.b6 [i]/\pl i=some (t.off [i],ft.cells)){R:Type}{K:El t->List (List Nat)->Option R}{z:R}:
 ∀(parts:List (Nat×Operand)) (X:ah) (s:State) (x:El t) (own:List (List Nat)) (cs:Array Value),Rel X s a->aA X t x cs.toList->aD X (.r 0) t x cs.toList own->ga t x own (zu s parts).1 K=some z->
  ∃y eV cells Y,K y eV=some z/\Y.w=X.w/\Ext X Y/\Rel Y (s.close (zu s parts).2) a/\Instr.fill pl cs (parts.map fun p=>(p.1,a.eval p.2))=some cells/\aA Y t y cells.toList/\aD Y (.r 0) t y cells.toList eV
 | [],X,s,x,own,cs,hr,rep,ho,h=>⟨x,own,cs,X,h,rfl,Ext.refl X,hr,rfl,rep,ho⟩
 |(i,p)::r,X,s,x,own,cs,hr,rep,ho,h=>by
  simp only[zu,ga] at h
  split at h
  case isTrue=>cases h
  rename_i hb
  have hb:t.dK i=true:=by cases nj:t.dK i<;>simp_all
  split at h
  case h_2=>cases h
  rename_i ft aT
  have hc:z20 (s.ak p).own p=src p\/((s.ak p).own=[]/\z20 (s.ak p).own p=[]):=by
   cases bn:(s.ak p).own with
   |nil=>exact .inr ⟨rfl,rfl⟩
   |cons _ _=>exact .inl rfl
  obtain⟨y,h,hy⟩:=rD hr h hc
  split at h
  case h_2=>cases h
  rename_i x' cA
  obtain⟨Y,c,hw,aC,aF,rc,ec,hO,hβ,hT,bp⟩:=hy (fun q=> .r 0 ([i]++q))
  obtain⟨cw,hp⟩:=dm i ft aT hb
  have eE:=rc.len
  have cu:=rep.len
  have hle:=bY t [i] ft aT cw
  have mB:=rep.mono aC
  have wg:=ho.stay bp (by simp)
  have gN:=rC mB cw aT cA rc
  have gI:=vl mB cw aT cA rc wg hO
  have bq:t.off [i]+c.length<=cs.size:=by rw[eE];simp at cu;omega
  have fD:=uL (t.off [i]) c cs bq
  obtain⟨y2,gZ,cells,Z,h1,ib,aQ,bE,h2,h3,h4⟩:=nM dm r Y _ x' _ _ aF (by rw[fD];exact gN) (by rw[fD];exact gI) h
  refine⟨y2,gZ,cells,Z,h1,ib.trans hw,aC.trans aQ,?_,?_,h3,h4⟩
  ·simp only[zu,ti]
   exact bE
  ·simp only[List.map_cons,Instr.fill,hp,ec,je rc]
   rw[if_neg (by simp only[List.size_toArray,eE];simp;simp at cu;omega)]
   exact h2
theorem rl(hE:ag P E):∀(fl:List Field) (t:Ty) (off:Nat),zl E fl t off->∃places,fl.mapM (fun(f:Field)=>(P.info? f.type).map fun i=>(f.offset,i.size))=some places/\
 ∀(j:Nat) (f:Field) (ft:Ty),fl[j]? =some f->E.ty f.type=some ft->places[j]? =some (f.offset,ft.cells)
 | [],t,off,h=>⟨[],rfl,fun j f ft hj=>by simp at hj⟩
 |f::r,t,off,h=>by
  cases t<;>simp only[zl] at h<;>try exact h.elim
  rename_i ta tb
  obtain⟨h1,h2,h3,h4⟩:=h
  obtain⟨places,g1,g2⟩:=rl hE r tb _ h4
  obtain⟨i,i1,i2,_⟩:=(hE.ty _ _ h2).info
  refine⟨(f.offset,i.size)::places,?_,fun j g gt hj hg=> ?_⟩
  ·simp [List.mapM_cons,i1,g1]
  ·cases j with
   |zero=>
    simp only[List.getElem?_cons_zero,Option.some.injEq] at hj
    subst hj
    rw[h2] at hg
    cases hg
    simp [i2]
   |succ j=>
    simp only[List.getElem?_cons_succ] at hj⊢
    exact g2 j g gt hj hg
theorem yp(hE:ag P E)(hr:Rel X s a){T:TypeId}{t:Ty}(hT:E.ty T=some t)(fV:t.agg=true){R:Type}{K:El t->List (List Nat)->Option R}{z:R}(parts:Array (Nat×Operand))
 (h:ga t (El.aN t) (jg t) (zu s parts.toList).1 K=some z):
 ∃y own cs Y,K y own=some z/\Y.w=X.w/\Ext X Y/\Rel Y (s.close (zu s parts.toList).2) a/\aA Y t y cs/\aD Y (.r 0) t y cs own/\(Instr.build T (parts.map fun(i,x)=>(i,a.eval x))).run P X.w= .ok (bN t cs) X.w:=by
 have hf:=hE.ty T t hT
 obtain⟨i,i1,i2,i3,i4⟩:=hf.info
 have hz:=hH X t
 have hn:=ur X (.r 0) t
 have pU:(bN t (zb t)).cells=(zb t).toArray:=je hz
 have fW:(parts.map fun(i,x)=>(i,a.eval x)).toList=parts.toList.map fun p=>(p.1,a.eval p.2):=by simp
 cases t with
 |aL n t=>
  obtain⟨e,hu,he,_⟩:=hf.bA
  obtain⟨ie,j1,j2,_⟩:=(hE.ty e t he).info
  obtain⟨y,own,cells,Y,k1,hw,aC,aF,k2,k3,k4⟩:=nM (pl:=fun i=>some (i*ie.size,ie.size)) (fun i ft aT hb=>by
   simp only[Ty.at_,Option.some.injEq] at aT
   subst aT
   have hb:i+1<=n:=by simpa [Ty.dK] using hb
   exact⟨⟨hb,by simp [Ty.b6]⟩,by simp [Ty.off,j2]⟩) parts.toList X s (El.aN (.aL n t)) _ (zb (.aL n t)).toArray hr (by simpa using hz) (by simpa using hn) h
  refine⟨y,own,cells.toList,Y,k1,hw,aC,aF,k3,k4,?_⟩
  rw[zj rfl]
  refine run_build X.w T _ cells.toList.toArray ?_
  unfold Program.built
  simp only[i1,hu,i4,j1,pU,fW]
  simpa using k2
 |pair ta tb=>
  obtain⟨fs,hu,bq,_⟩:=hf.bA
  obtain⟨places,p1,p2⟩:=rl hE fs.toList _ 0 bq
  obtain⟨y,own,cells,Y,k1,hw,aC,aF,k2,k3,k4⟩:=nM (pl:=(places.toArray[·]?)) (fun i ft aT hb=>by
   obtain⟨f,g1,g2,g3,g4⟩:=nZ fs.toList _ 0 i ft bq rfl aT
   refine⟨g4,?_⟩
   have:=p2 i f ft g1 g3
   simp only[List.getElem?_toArray,this,g2,Nat.zero_add]) parts.toList X s (El.aN (.pair ta tb)) _ (zb (.pair ta tb)).toArray hr (by simpa using hz) (by simpa using hn) h
  refine⟨y,own,cells.toList,Y,k1,hw,aC,aF,k3,k4,?_⟩
  rw[zj rfl]
  refine run_build X.w T _ cells.toList.toArray ?_
  unfold Program.built
  simp only[i1,hu,i4,p1,pU,fW]
  simpa using k2
 |unit=>
  obtain⟨fs,hu,bq,_⟩:=hf.bA
  obtain⟨places,p1,p2⟩:=rl hE fs.toList _ 0 bq
  obtain⟨y,own,cells,Y,k1,hw,aC,aF,k2,k3,k4⟩:=nM (pl:=(places.toArray[·]?)) (fun i ft aT hb=>by simp [Ty.at_] at aT) parts.toList X s (El.aN .unit) _ (zb .unit).toArray hr (by simpa using hz) (by simpa using hn) h
  refine⟨y,own,cells.toList,Y,k1,hw,aC,aF,k3,k4,?_⟩
  rw[zj rfl]
  refine run_build X.w T _ cells.toList.toArray ?_
  unfold Program.built
  simp only[i1,hu,i4,p1,pU,fW]
  simpa using k2
 |aG k a b=>exact absurd (hE.cV hT) (by simp [Ty.aJ])
 |_=>simp [Ty.agg] at fV
def ah.eY(X:ah)(j:Nat)(q:List Nat->Place):ah:=
 {X with ow:=fun g=>match X.ow g with
  | .row (.r j' p) n=>if j'=j then .row (q p) n else .row (.r j' p) n
  |w=>w}
theorem yg{s:State}{X:ah}{j:Nat}{q:List Nat->Place}:bI s X (X.eY j q):=by
 refine⟨rfl,rfl,fun g=> ?_⟩
 simp only[ah.eY]
 cases hg:X.ow g with
 |row pl n=>
  cases pl with
  |r j' p=>
   by_cases e:j'=j
   ·subst e
    exact .inr ⟨_,n,q p,rfl,fun h=>h,by simp⟩
   ·exact .inl (if_neg e)
  |_=>exact .inl rfl
 |_=>exact .inl rfl
theorem aD.ja{X:ah}{j:Nat}{q:List Nat->Place}{t:Ty}{x:El t}{cs:List Value}{own:List (List Nat)}(h:aD X (.r j) t x cs own):aD (X.eY j q) q t x cs own:=fun p hp=>by
 obtain⟨e,t',xs,v,g0,g1,g2,g3⟩:=h p hp
 refine⟨e,t',xs,v,g0,g1,g2,?_⟩
 rcases g3 with h|⟨g,cap,cur,h1,h2,h3,h4,h5,h6⟩
 ·exact .inl h
 ·exact .inr ⟨g,cap,cur,h1,h2,h3,h4,h5,by simp [ah.eY,h6]⟩
theorem xR(hE:ag P E)(hr:Rel X s a){ops:List Oper}{T:TypeId}{parts:Array (Nat×Operand)}(ho:o.op= .build T parts){C:FuncId->aK Out}(h:act E C ops o s some=some u):ao P X s a o u:=by
 unfold act at h
 simp only[ho] at h
 split at h
 case h_2=>cases h
 rename_i t hT
 split at h
 case isTrue=>cases h
 rename_i fV
 have fV:t.agg=true:=by cases nj:t.agg<;>simp_all
 obtain⟨y,own,cs,Y,h,hw,aC,aF,rep,hO,aB⟩:=yp hE hr hT fV parts h
 cases h
 have eD:=yg (s:=s.close (zu s parts.toList).2) (X:=Y) (j:=0) (q:= .c (o.dst.getD 0) 0)
 refine⟨Y.eY 0 (.c (o.dst.getD 0) 0),bN t cs,.inl ?_,aC.trans eD.ext,(aF.mod eD.mod).fin ⟨cs,rep.af (fun _ _=>eD.aj.1),rfl,hO.ja⟩ (fun id t p hm=>by simp at hm)⟩
 rw[eD.w,hw]
 simp only[execOp,ho,Sem.run_bind,aB,Result.andThen_ok,Sem.run_pure]
end Go.Ref

namespace Go.Ref
open Go
variable {P:Program} {E:Env} {X:ah} {s:State} {a:Act} {o:Oper} {u:Out}
theorem zQ{t:Ty}{x:El t}{xs:List (El t)}{n:Nat}{c cs:List Value}(h1:aA X t x c)(h2:aA X (.aL n t) xs cs):aA X (.aL (n+1) t) (x::xs:List (El t)) (c++cs):=by
 obtain⟨k1,k2,k3⟩:=h2
 have hl:=h1.len
 refine⟨by simp;exact k1,by simp [k2,hl,Nat.add_mul];omega,fun j y hj=> ?_⟩
 cases j with
 |zero=>
  simp only[List.getElem?_cons_zero,Option.some.injEq] at hj
  subst hj
  rw[Nat.zero_mul,List.drop_zero,<-hl,List.take_left]
  exact h1
 |succ j=>
  simp only[List.getElem?_cons_succ] at hj
  have hd:(c++cs).drop ((j+1)*t.cells)=cs.drop (j*t.cells):=by
   rw[Nat.add_mul,Nat.one_mul,Nat.add_comm,<-List.drop_drop,<-hl,List.drop_left]
  rw[hd]
  exact k3 j y hj
theorem kS{t:Ty}{xs ys:List (El t)}{n m:Nat}{c d:List Value}(h1:aA X (.aL n t) xs c)(h2:aA X (.aL m t) ys d):aA X (.aL (n+m) t) (xs++ys:List (El t)) (c++d):=by
 obtain⟨j1,j2,j3⟩:=h1
 obtain⟨k1,k2,k3⟩:=h2
 refine⟨by rw[List.length_append,j1,k1],by rw[List.length_append,j2,k2,Nat.add_mul],fun j y hj=> ?_⟩
 by_cases aw:j<n
 ·rw[List.getElem?_append_left (by rw[j1];exact aw)] at hj
  have hle:(j+1)*t.cells<=n*t.cells:=Nat.mul_le_mul_right _ aw
  rw[Nat.add_mul,Nat.one_mul] at hle
  rw[List.drop_append_of_le_length (by omega),List.take_append_of_le_length (by rw[List.length_drop];omega)]
  exact j3 j y hj
 ·rw[List.getElem?_append_right (by rw[j1];omega),j1] at hj
  have hd:(c++d).drop (j*t.cells)=d.drop ((j-n)*t.cells):=by
   have hm:j*t.cells=c.length+(j-n)*t.cells:=by
    rw[j2,<-Nat.add_mul]
    congr 1
    omega
   rw[hm,List.drop_length_add_append]
  rw[hd]
  exact k3 _ y hj
theorem tU{t:Ty}{ad:Addr}(hs:ad.spot=none):∀(xs:List (El t)) (p:Nat),(∀(j:Nat) x,xs[j]? =some x->∃bT,aA X t x bT/\∀(i:Nat) v,bT[i]? =some v->X.aj (ad.add (p+(j*t.cells+i))) v)->
 ∃cs,aA X (.aL xs.length t) xs cs/\∀(i:Nat) v,cs[i]? =some v->X.aj (ad.add (p+i)) v
 | [],p,h=>⟨[],⟨rfl,by simp,fun j x hj=>by simp at hj⟩,fun i v hi=>by simp at hi⟩
 |x::xs,p,h=>by
  obtain⟨c,r1,s1⟩:=h 0 x rfl
  obtain⟨cs,r2,s2⟩:=tU hs xs (p+t.cells) (fun j y hj=>by
   obtain⟨c',r',s'⟩:=h (j+1) y hj
   refine⟨c',r',fun i v hi=> ?_⟩
   have:=s' i v hi
   rw[show p+((j+1)*t.cells+i)=p+t.cells+(j*t.cells+i) by rw[Nat.add_mul];omega] at this
   exact this)
  have hl:=r1.len
  refine⟨c++cs,zQ r1 r2,fun i v hi=> ?_⟩
  rw[List.getElem?_append] at hi
  split at hi
  ·have:=s1 i v hi
   rwa [show p+(0*t.cells+i)=p+i by omega] at this
  ·have:=s2 _ v hi
   rwa [show p+t.cells+(i-c.length)=p+i by omega] at this
theorem ql{e:TypeId}{t:Ty}{xs:List (El t)}{A:Option Addr}{n c:Nat}(h:aA X (.sl e t) xs [.slice A n c]):n=xs.length/\xs.length<=c/\
 ∃cs,aA X (.aL xs.length t) xs cs/\(A=none->xs=[])/\∀ad,A=some ad->∀(i:Nat) v,cs[i]? =some v->X.aj (ad.add i) v:=by
 obtain⟨A',c',h1,h2,h3⟩:=h
 simp only[List.cons.injEq,Value.slice.injEq,and_true] at h1
 obtain⟨rfl,rfl,rfl⟩:=h1
 refine⟨rfl,h2,?_⟩
 cases xs with
 |nil=>exact⟨[],⟨rfl,by simp,fun j x hj=>by simp at hj⟩,fun _=>rfl,fun ad _ i v hi=>by simp at hi⟩
 |cons x r=>
  obtain⟨ad,_,hA,hs,_⟩:=h3 0 x rfl
  subst hA
  obtain⟨cs,k1,k2⟩:=tU (X:=X) hs (x::r) 0 (fun j y hj=>by
   obtain⟨fA,c',e1,_,g1,g2⟩:=h3 j y hj
   cases e1
   exact⟨c',g1,fun i v hi=>by rw[Nat.zero_add];exact g2 i v hi⟩)
  refine⟨cs,k1,(fun e=>by cases e),fun fA e i v hi=> ?_⟩
  cases e
  have:=k2 i v hi
  rwa [Nat.zero_add] at this
theorem qI{e:TypeId}{t:Ty}{xs:List (El t)}{g cap:Nat}{pl:Place}{cur:Array Value}{cs:List Value}(hg:X.w.heap[g]? =some (.cells cur e (0,0)))(how:X.ow g= .row pl (xs.length*t.cells))
 (gP:cur.toList.take (xs.length*t.cells)=cs) (av:aA X (.aL xs.length t) xs cs) (eK:xs.length<=cap):aA X (.sl e t) xs [.slice (some ⟨g,0,none⟩) xs.length cap]:=by
 refine⟨_,cap,rfl,eK,fun j x hj=>⟨_,_,rfl,rfl,av.2.2 j x hj,fun i v hi=> ?_⟩⟩
 have iJ:=(List.getElem?_eq_some_iff.1 hj).1
 have hle:(j+1)*t.cells<=xs.length*t.cells:=Nat.mul_le_mul_right _ iJ
 rw[Nat.add_mul,Nat.one_mul] at hle
 rw[List.getElem?_take] at hi
 split at hi
 case isFalse=>cases hi
 rename_i nr
 rw[List.getElem?_drop,<-gP,List.getElem?_take,if_pos (by omega)] at hi
 refine⟨jL rfl _,?_,?_⟩
 ·rw[zn,Nat.zero_add]
  simp only[World.cell?,hg]
  simpa using hi
 ·rw[zn,Nat.zero_add]
  show Ow.used (X.ow g) _
  rw[how]
  show j*t.cells+i<_
  omega
end Go.Ref

namespace Go.Ref
open Go
variable {P:Program} {E:Env} {X:ah} {s:State} {a:Act} {o:Oper} {u:Out}
theorem ue{R:Type}{t:Ty}{n:Nat}{K:List (El t)->Option R}:∀(parts:List (Nat×SV)) (xs:List (El t)) (own:List (List Nat)),xs.length=n->jQ t xs parts K=ga (.aL n t) xs own (parts.map fun p=>(p.1,p.2,[])) (fun y _=>K y)
 | [],xs,own,h=>rfl
 |(i,v)::r,xs,own,h=>by
  subst h
  simp only[jQ,List.map_cons,ga,Ty.dK,Ty.at_,El.set,Ty.aO,dite_true,Option.map_some]
  congr 1
  refine congrArg (v.el t) (funext fun y=> ?_)
  exact ue r (xs.set i y) _ (by simp)
theorem zH{t:Ty}(n:Nat)(hk:0<t.cells):((Array.range (n*t.cells)).map fun i=>(zb t).toArray[i % (zb t).toArray.size]!).toList=(List.replicate n (zb t)).flatten:=by
 have hz:=zx t
 apply List.ext_getElem?
 intro q
 have hlen:((List.replicate n (zb t)).flatten).length=n*t.cells:=by simp [hz]
 by_cases hq:q<n*t.cells
 ·have h1:q/t.cells<n:=(Nat.div_lt_iff_lt_mul hk).2 hq
  have h2:=qh hz n (q/t.cells) h1
  have h3:=congrArg (fun l=>l[q % t.cells]?) h2
  simp only[List.getElem?_take,List.getElem?_drop,if_pos (Nat.mod_lt q hk)] at h3
  rw[Nat.mul_comm,Nat.div_add_mod] at h3
  rw[h3]
  have hm:q % t.cells<(zb t).length:=by rw[hz];exact Nat.mod_lt q hk
  rw[List.getElem?_eq_getElem hm]
  simp [hq,hz,hm]
  rw[List.getElem?_eq_getElem hm]
  rfl
 ·rw[List.getElem?_eq_none (by simp;omega),List.getElem?_eq_none (by omega)]
theorem vk{X:ah}{pl:List Nat->Place}{e:TypeId}{t:Ty}{xs:List (El t)}{v:Value}(h:aE X (pl []) e t.cells xs.length v):aD X pl (.sl e t) xs [v] [[]]:=fun p hp=>by
 have hp:p=[]:=by simpa using hp
 subst hp
 exact⟨e,t,xs,v,by simp [Ty.b6],rfl,rfl,h⟩
theorem z72(hE:ag P E)(hr:Rel X s a){ops:List Oper}{T:TypeId}{n:Nat}{parts:Array (Nat×Operand)}(ho:o.op= .buildSlice T n parts){C:FuncId->aK Out}(h:act E C ops o s some=some u):ao P X s a o u:=by
 unfold act at h
 simp only[ho] at h
 split at h
 case h_2=>cases h
 rename_i e t hT
 split at h
 case isTrue=>cases h
 rename_i lX
 have hk:0<t.cells:=by rcases Nat.eq_zero_or_pos t.cells with h0|h0<;>simp_all
 cases hb:Nat.ble (n*t.cells) 16777216 with
 |false=>rw[hb] at h;cases h
 |true=>
  rw[hb] at h
  simp only[cond_true] at h
  have kj:n*t.cells<=16777216:=Nat.le_of_ble_eq_true hb
  rw[ue (n:=n) _ _ [] (by simp),List.map_map] at h
  obtain⟨hu,he⟩:=(hE.ty T _ hT).bA
  have cQ:=zh (P:=P) hE he X.w
  have wR:=nW (P:=P) hE he X.w
  have wQ:=hH X (.aL n t)
  obtain⟨y,eV,cells,k1,k2,k3⟩:=uJ (pl:=fun i=>some (i*t.cells,t.cells)) hr (fun i ft aT hb=>by
   simp only[Ty.at_,Option.some.injEq] at aT
   subst aT
   have hb:i+1<=n:=by simpa [Ty.dK] using hb
   exact⟨⟨hb,by simp [Ty.b6]⟩,by simp [Ty.off]⟩) parts.toList (El.aN (.aL n t)) [] (zb (.aL n t)).toArray (by simpa using wQ) h
  cases k1
  have hy:List.length y=n:=k3.1
  have cu:cells.size=n*t.cells:=by have:=k3.2.1;simpa using this
  have hn:n<=n*t.cells:=Nat.le_mul_of_pos_right n hk
  let Y:=X.new cells e (.row (.c (o.dst.getD 0) 0 []) (n*t.cells)) X.β
  have iK:b5 s X Y:=qX X s cells e _ _ rfl (fun _ _ _=>rfl)
  obtain⟨n1,n2⟩:=qF X cells e (.row (.c (o.dst.getD 0) 0 []) (n*t.cells)) X.β
  refine⟨Y,.slice (some ⟨X.w.heap.size,0,none⟩) n n,.inl ?_,iK.ext,?_⟩
  ·have sD:(Array.map (fun x=>(bN t (zb t)).cells[x % (bN t (zb t)).cells.size]!) (Array.range (n*t.cells)))=(zb (.aL n t)).toArray:=by
    apply Array.ext'
    rw[je (hH X t),zH n hk]
    rfl
   have fW:(parts.map fun(i,x)=>(i,a.eval x)).toList=parts.toList.map fun p=>(p.1,a.eval p.2):=by simp
   by_cases sN:n*t.cells=0
   ·have pB:n=0:=by
     rcases Nat.mul_eq_zero.1 sN with h0|h0
     ·exact h0
     ·omega
    subst pB
    have wV:Instr.fill (fun i=>some (i*t.cells,t.cells)) #[] (parts.toList.map fun p=>(p.1,a.eval p.2))=some cells:=k2
    have sL:(parts.map fun x=>(x.1,a.eval x.2)).toList=parts.toList.map fun p=>(p.1,a.eval p.2):=by simp
    simp [execOp,ho,Instr.buildSlice,run_underlying hu,cQ,newRow,Y,ah.new]
    rw[show(Array.map (fun x=>default) (Array.range 0):Array Value)= #[] by simp,wV]
    simp
   ·have hc:=sD
    simp [execOp,ho,Instr.buildSlice,run_underlying hu,cQ,wR,sN,newRow,Y,ah.new,Nat.not_lt.2 kj]
    rw[sD,k2]
    simp
  ·refine(hr.bQ iK).fin ?_ (fun id t p hm=>by simp at hm)
   refine⟨[.slice (some ⟨X.w.heap.size,0,none⟩) n n],?_,rfl,vk ?_⟩
   ·rw[<-hy]
    refine qI (pl:= .c (o.dst.getD 0) 0 []) (cur:=cells) (cs:=cells.toList) n1 (by rw[hy];exact n2) ?_ ?_ (Nat.le_refl _)
    ·rw[hy,List.take_of_length_le (by simp [cu])]
    ·rw[hy];exact k3.af (fun _ _=>iK.aj)
   ·refine .inr ⟨X.w.heap.size,n,cells,by rw[hy],n1,by rw[hy];exact Nat.le_refl _,?_,cu,by rw[hy];exact n2⟩
    simp only[maxLen]
    omega
end Go.Ref

namespace Go.Ref
open Go
variable {P:Program} {E:Env} {X:ah} {s:State} {a:Act} {o:Oper} {u:Out}
inductive Grown(w w':World)(e:TypeId)(k:Nat)(vb v':Value)(cx cy:List Value)(n:Nat):Prop where
 |same (h:w'=w) (hv:v'=vb) (hy:cy=[])
 |room (g cap:Nat) (cur cc:Array Value) (hb:∃m,vb= .slice (some ⟨g,0,none⟩) m cap) (hg:w.heap[g]? =some (.cells cur e (0,0))) (hv:v'= .slice (some ⟨g,0,none⟩) n cap) (hn:n<=cap) (hm:cap<=maxLen)
   (hw:w'=w.setRow g cc) (hs:cc.size=cap*k) (ht:cc.toList.take (n*k)=cx++cy)
 |new (cap:Nat) (cc:Array Value) (hv:v'= .slice (some ⟨w.heap.size,0,none⟩) n cap) (hn:n<=cap) (hm:cap<=maxLen) (hw:w'=w.drew.alloc (.cells cc e)) (hs:cc.size=cap*k) (ht:cc.toList.take (n*k)=cx++cy)
theorem xM(hE:ag P E){T ty e:TypeId}{t:Ty}(hT:E.ty T=some (.sl e t))(hk:0<t.cells)(j9:E.bytes e≠0){xs ys:List (El t)}{vb vx:Value}{pl:Place}
 (bn:aE X pl e t.cells xs.length vb) {cx cy:List Value} (rx:aA X (.aL xs.length t) xs cx) (sx:∀g m c,vb= .slice (some ⟨g,0,none⟩) m c->∀(i:Nat) v,cx[i]? =some v->X.aj ((⟨g,0,none⟩:Addr).add i) v)
 (ry:aA X (.aL ys.length t) ys cy) (wJ:∃A c,vx= .slice A ys.length c/\(A=none->ys=[])/\∀ad,A=some ad->∀(i:Nat) v,cy[i]? =some v->X.aj (ad.add i) v)
 (hbound:(xs.length+ys.length)*E.bytes e<=140737488355328):
 ∃v' w',(Builtin.append_ #[T,T] ty #[vb,vx]).run P X.w= .ok v' w'/\Grown X.w w' e t.cells vb v' cx cy (xs.length+ys.length)/\(v'= .slice none 0 0->xs.length+ys.length=0):=by
 obtain⟨hu,he⟩:=(hE.ty T _ hT).bA
 obtain⟨i,hi,bB,ej,hz⟩:=(hE.ty e t he).info
 have wS:(bN t (zb t)).cells.size=t.cells:=by rw[je (hH X t)];simp [zx]
 have iL:cx.length=xs.length*t.cells:=rx.2.1
 have gC:cy.length=ys.length*t.cells:=ry.2.1
 have h1:∀u∈cy,u.oneCell'=true:=ry.one
 have hle:xs.length+ys.length<=140737488355328:=Nat.le_trans (Nat.le_mul_of_pos_right _ (Nat.pos_of_ne_zero j9)) hbound
 have oZ:xs.length+ys.length<=maxLen:=by simp only[maxLen];omega
 obtain⟨A,c,rfl,hA,wE⟩:=wJ
 cases A with
 |none=>
  have gS:=hA rfl
  subst gS
  have pg:cy=[]:=List.eq_nil_of_length_eq_zero (by simpa using gC)
  subst pg
  rcases bn with⟨rfl,hn⟩|⟨g,cap,cur,rfl,hg,pC,lQ,cu,how⟩
  ·refine⟨.slice none 0 0,X.w,?_,.same rfl rfl rfl,fun _=>by simp [hn]⟩
   simp [Builtin.append_,run_underlying hu,sizeOf,typeInfo,hi,Builtin.lenOf,Builtin.firstCells]
  ·refine⟨_,X.w,?_,.same rfl rfl rfl,fun e=>by cases e⟩
   simp [Builtin.append_,run_underlying hu,sizeOf,typeInfo,hi,Builtin.lenOf,Builtin.firstCells,pC,storeCells]
 |some ad=>
  have pF:∀j u,cy[j]? =some u->X.w.cell? (ad.add j)=some u:=fun j u hj=>(wE ad rfl j u hj).2.1
  have eo:∀(old:Nat),(cx.toArray++cy.toArray++Builtin.zeroCells (bN t (zb t)).cells (grownCap X.w (xs.length+ys.length) old e-(xs.length+ys.length))).size=grownCap X.w (xs.length+ys.length) old e*t.cells/\
   (cx.toArray++cy.toArray++Builtin.zeroCells (bN t (zb t)).cells (grownCap X.w (xs.length+ys.length) old e-(xs.length+ys.length))).toList.take ((xs.length+ys.length)*t.cells)=cx++cy:=by
   intro old
   have pn:=grownCap_ge X.w (xs.length+ys.length) old e
   refine⟨?_,?_⟩
   ·simp only[Array.size_append,List.size_toArray,size_zeroCells,wS,iL,gC,<-Nat.add_mul]
    congr 1
    omega
   ·have hl:(cx++cy).length=(xs.length+ys.length)*t.cells:=by rw[List.length_append,iL,gC,Nat.add_mul]
    rw[<-hl]
    simp only[Array.toList_append]
    exact List.take_left
  rcases bn with⟨rfl,hn⟩|⟨g,cap,cur,rfl,hg,pC,lQ,cu,how⟩
  ·have iG:cx=[]:=List.eq_nil_of_length_eq_zero (by rw[iL,hn,Nat.zero_mul])
   subst iG
   by_cases hm:ys.length=0
   ·have pg:cy=[]:=List.eq_nil_of_length_eq_zero (by rw[gC,hm,Nat.zero_mul])
    subst pg
    refine⟨.slice none 0 0,X.w,?_,.same rfl rfl rfl,fun _=>by omega⟩
    simp [Builtin.append_,run_underlying hu,sizeOf,typeInfo,hi,Builtin.lenOf,Builtin.firstCells,hm,loadCells,loadCellsFrom]
   ·have kP:xs.length=0:=hn
    rw[kP,Nat.zero_add] at hbound hle oZ
    have hr:=run_append_nil (P:=P) X.w T ty e i (bN t (zb t)) hu hi hz ad ys.length c cy (by rw[bB];exact gC) pF (by omega) (by omega) (by rw[ej];omega)
    obtain⟨c1,c2⟩:=eo 0
    have pn:=grownCap_ge X.w (xs.length+ys.length) 0 e
    have lQ:=grownCap_le_maxLen X.w (xs.length+ys.length) 0 e (by rw[kP,Nat.zero_add];exact oZ)
    refine⟨_,_,hr,.new (grownCap X.w (xs.length+ys.length) 0 e) _ (by rw[kP,Nat.zero_add]) pn lQ ?_ c1 c2,fun e=>by cases e⟩
    rw[kP,Nat.zero_add]
    simp
  ·by_cases gM:xs.length+ys.length<=cap
   ·have bq:xs.length*i.size+cy.length<=cur.size:=by rw[bB,gC,cu,<-Nat.add_mul];exact Nat.mul_le_mul_right _ gM
    have hr:=run_append_room (P:=P) X.w T ty e i hu hi g xs.length cap cur hg ad ys.length c cy (by rw[bB];exact gC) pF h1 gM bq
    refine⟨_,_,hr,.room g cap cur _ ⟨_,rfl⟩ hg rfl gM lQ rfl ?_ ?_,fun e=>by cases e⟩
    ·simp only[List.size_toArray,List.length_append,List.length_take,List.length_drop,Array.length_toList]
     omega
    ·have gP:cur.toList.take (xs.length*i.size)=cx:=by
      rw[bB]
      apply List.ext_getElem?
      intro q
      by_cases hq:q<xs.length*t.cells
      ·rw[List.getElem?_take,if_pos hq]
       have mm:=List.getElem?_eq_getElem (l:=cx) (i:=q) (by rw[iL];exact hq)
       have:=(sx g _ _ rfl q _ mm).2.1
       rw[zn,Nat.zero_add] at this
       simp only[World.cell?,hg] at this
       rw[mm]
       simpa using this
      ·rw[List.getElem?_eq_none (by rw[List.length_take];omega),List.getElem?_eq_none (by omega)]
     have hl:(cx++cy).length=(xs.length+ys.length)*t.cells:=by rw[List.length_append,iL,gC,Nat.add_mul]
     rw[gP,<-hl]
     simp only[List.take_left]
   ·have holds:∀j u,cx[j]? =some u->X.w.cell? ((⟨g,0,none⟩:Addr).add j)=some u:=fun j u hj=>(sx g _ _ rfl j u hj).2.1
    have hr:=run_append_grow (P:=P) X.w T ty e i (bN t (zb t)) hu hi hz ⟨g,0,none⟩ xs.length cap cx (by rw[bB];exact iL) holds ad ys.length c cy (by rw[bB];exact gC) pF (by omega) (by omega) (growslice_fits (by omega) (by rw[ej];exact hbound))
    obtain⟨c1,c2⟩:=eo cap
    exact⟨_,_,hr,.new _ _ rfl (grownCap_ge _ _ _ _) (grownCap_le_maxLen _ _ _ _ oZ) rfl c1 c2,fun e=>by cases e⟩
theorem aE.oX{X:ah}{s:State}{pl:Place}{e:TypeId}{k n:Nat}{v:Value}(h:aE X pl e k n v)(hf:¬bj s pl)(q:Place):∃Y,bI s X Y/\aE Y q e k n v:=by
 rcases h with h|⟨g,cap,cur,h1,h2,h3,h4,h5,h6⟩
 ·exact⟨X,bI.refl s X,.inl h⟩
 ·refine⟨{X with ow:=fun g'=>if g'=g then .row q (n*k) else X.ow g'},⟨rfl,rfl,fun g'=> ?_⟩,.inr ⟨g,cap,cur,h1,h2,h3,h4,h5,by simp⟩⟩
  by_cases e:g'=g
  ·subst e;exact .inr ⟨pl,_,q,h6,hf,by simp⟩
  ·exact .inl (by simp [e])
theorem Bl{R:Type}{t t':Ty}{x:El t'}{w:List (List Nat)}{K:El t->Option R}{z:R}(h:(SV.al t' x w).el t K=some z):∃he:t'.aX t=true,K (Ty.cast he x)=some z:=by
 simp only[SV.el] at h
 split at h
 ·rename_i he;exact⟨he,h⟩
 ·cases h
theorem xC(hE:ag P E)(hr:Rel X s a){ops:List Oper}{bS:Array Operand}{ts:Array TypeId}(ho:o.op= .call ⟨.builtin .append,bS,ts⟩){C:FuncId->aK Out}(h:act E C ops o s some=some u):ao P X s a o u:=by
 unfold act at h
 simp only[ho] at h
 split at h
 case h_2=>cases h
 rename_i b x T U gR j7
 have has:bS= #[b,x]:=by rw[<-Array.toArray_toList (xs:=bS),gR]
 have fX:ts= #[T,U]:=by rw[<-Array.toArray_toList (xs:=ts),j7]
 subst has fX
 have hb:=hr.ak b
 have hx:=hr.ak x
 unfold mS at h
 split at h
 case isTrue=>cases h
 rename_i sw
 have sw:T=U:=by
  have:T.beq U=true:=by cases nj:Nat.beq T U<;>simp_all
  exact Nat.eq_of_beq_eq_true this
 subst sw
 split at h
 case h_2=>cases h
 rename_i e t hT
 split at h
 case isTrue=>cases h
 rename_i h0
 have h0:Nat.beq (E.bytes e) 0=false/\Nat.beq t.cells 0=false:=by
  cases h1:Nat.beq (E.bytes e) 0<;>cases h2:Nat.beq t.cells 0<;>simp_all
 have j9:E.bytes e≠0:=fun e0=>by rw[e0] at h0;simp at h0
 have hk:0<t.cells:=by
  rcases Nat.eq_zero_or_pos t.cells with e0|e0
  ·rw[e0] at h0;simp at h0
  ·exact e0
 have key:∀(xs ys:List (El t)) (cl:List (Nat×Nat)) (pl:Place),¬bj (s.close cl) pl->aE X pl e t.cells xs.length (a.eval b)->aA X (.sl e t) xs [a.eval b]->aA X (.sl e t) ys [a.eval x]->
  (xs.length+ys.length)*E.bytes e<=140737488355328->ao P X s a o {v:=[.al (.sl e t) (xs++ys:List (El t)) [[]]],cl:=cl}:=by
  intro xs ys cl pl kN bn ko eW hbound
  obtain⟨A1,c1,jw,jE⟩:=ko
  have e1:a.eval b= .slice A1 xs.length c1:=by simpa using jw
  obtain⟨A2,c2,mj,mC⟩:=eW
  have e2:a.eval x= .slice A2 ys.length c2:=by simpa using mj
  obtain⟨_,_,cx,rx,_,sx⟩:=ql (X:=X) (e:=e) (show aA X (.sl e t) xs [.slice A1 xs.length c1] from⟨A1,c1,rfl,jE⟩)
  obtain⟨_,_,cy,ry,ny,sy⟩:=ql (X:=X) (e:=e) (show aA X (.sl e t) ys [.slice A2 ys.length c2] from⟨A2,c2,rfl,mC⟩)
  have s8:∀g m c,a.eval b= .slice (some ⟨g,0,none⟩) m c->∀(i:Nat) v,cx[i]? =some v->X.aj ((⟨g,0,none⟩:Addr).add i) v:=by
   intro g m c hv
   rw[e1] at hv
   injection hv with hA
   exact sx _ hA
  obtain⟨v',w',aB,vU,gF⟩:=xM (ty:=o.type) hE hT hk j9 bn rx s8 ry ⟨A2,c2,e2,ny,sy⟩ hbound
  have iL:cx.length=xs.length*t.cells:=rx.2.1
  have gC:cy.length=ys.length*t.cells:=ry.2.1
  have mg:(execOp a.eval o).run P X.w= .ok (.value v') w':=by
   simp only[execOp,ho,resolve,invoke,builtin,Sem.run_bind,Sem.run_pure,Result.andThen_ok,List.map_toArray,List.map_cons,List.map_nil,aB]
  have fin:∀(Y:ah),Y.w=w'->Mod (s.close cl) X Y->aA Y (.aL (xs.length+ys.length) t) (xs++ys:List (El t)) (cx++cy)->aE Y (.c (o.dst.getD 0) 0 []) e t.cells (xs.length+ys.length) v'->
   aA Y (.sl e t) (xs++ys:List (El t)) [v']->ao P X s a o {v:=[.al (.sl e t) (xs++ys:List (El t)) [[]]],cl:=cl}:=by
   intro Y hY hm cp wa kh
   refine⟨Y,v',.inl (by rw[hY];exact mg),hm.ext,((hr.close cl).mod hm).fin ⟨[v'],kh,rfl,vk ?_⟩ (fun id t p kM=>by simp at kM)⟩
   rw[List.length_append]
   exact wa
  cases vU with
  |same h1 h2 h3=>
   subst h2
   have wO:ys=[]:=by
    have:ys.length=0:=by
     rcases Nat.mul_eq_zero.1 (show ys.length*t.cells=0 by rw[<-gC,h3];rfl) with h|h
     ·exact h
     ·omega
    exact List.eq_nil_of_length_eq_zero this
   subst wO
   obtain⟨Y,eD,vJ⟩:=aE.oX (s:=s.close cl) bn kN (.c (o.dst.getD 0) 0 [])
   refine fin Y (by rw[eD.w,h1]) eD.mod ?_ (by simpa using vJ) ?_
   ·have:=(kS rx ry)
    exact this.af (fun _ _=>eD.aj.1)
   ·rw[List.append_nil]
    exact aA.af (fun _ _=>eD.aj.1) (show aA X (.sl e t) xs [a.eval b] from⟨A1,c1,jw,jE⟩)
  |new cap cc hv hn hm hw hs ht=>
   let Y:ah:=⟨w',fun g=>if g=X.w.heap.size then .row (.c (o.dst.getD 0) 0 []) ((xs.length+ys.length)*t.cells) else X.ow g,X.β⟩
   have iK:b5 (s.close cl) X Y:=⟨by simp [Y,hw],by simp only[Y,hw];rfl,by simp only[Y,hw];rfl,by simp only[Y,hw];rfl,fun g hg=>⟨by simp only[Y];rw[if_neg (by omega)],by simp only[Y,hw];exact RowKit.Below.heap_alloc _ _ _ hg⟩,rfl,fun _ _ _=>rfl⟩
   have aq:Y.w.heap[X.w.heap.size]? =some (.cells cc e (0,0)):=by simp only[Y,hw];exact heap_alloc_new X.w.drew _
   have how:Y.ow X.w.heap.size= .row (.c (o.dst.getD 0) 0 []) ((xs.length+ys.length)*t.cells):=by simp [Y]
   have av:=(kS rx ry).af (fun _ _=>iK.aj)
   refine fin Y rfl iK.mod av (.inr ⟨_,cap,cc,hv,aq,hn,hm,hs,how⟩) ?_
   rw[hv,<-List.length_append]
   exact qI (cs:=cx++cy) aq (by rw[List.length_append];exact how) (by rw[List.length_append];exact ht) (by rw[List.length_append];exact av) (by rw[List.length_append];exact hn)
  |room g cap cur cc pd hg hv hn hm hw hs ht=>
   obtain⟨m,j8⟩:=pd
   rcases bn with⟨hz,_⟩|⟨g',lK,lM,gQ,sG,pC,lQ,cu,how⟩
   ·rw[hz] at j8;cases j8
   have kd:g'=g:=by rw[j8] at gQ;injection gQ with h1;injection h1 with h1;injection h1 with h1;exact h1.symm
   subst kd
   have pf:lM=cur:=by rw[hg] at sG;cases sG;rfl
   subst pf
   have aw:=lf hg
   let Y:ah:=⟨w',fun k=>if k=g' then .row (.c (o.dst.getD 0) 0 []) ((xs.length+ys.length)*t.cells) else X.ow k,X.β⟩
   have aq:Y.w.heap[g']? =some (.cells cc e (0,0)):=by simp only[Y,hw];exact setRow_heap X.w g' lM cc e (0,0) hg
   have fh:Y.ow g'= .row (.c (o.dst.getD 0) 0 []) ((xs.length+ys.length)*t.cells):=by simp [Y]
   have ju:∀ad v,X.aj ad v->Y.aj ad v:=by
    intro ad v dH
    by_cases heq:ad.block=g'
    ·obtain⟨k1,k2,k3⟩:=dH
     rw[heq,how] at k3
     have k3:ad.off<xs.length*t.cells:=k3
     have had:ad=(⟨g',0,none⟩:Addr).add ad.off:=by rw[zn,Nat.zero_add];cases ad;simp_all
     have mm:=List.getElem?_eq_getElem (l:=cx) (i:=ad.off) (by rw[iL];exact k3)
     have iG:=(s8 g' _ _ j8 ad.off _ mm).2.1
     rw[<-had,k2] at iG
     refine⟨k1,?_,?_⟩
     ·have hq:cc.toList[ad.off]? =some v:=by
       have:=congrArg (fun l=>l[ad.off]?) ht
       simp only[List.getElem?_take] at this
       have hle:xs.length*t.cells<=(xs.length+ys.length)*t.cells:=Nat.mul_le_mul_right _ (Nat.le_add_right _ _)
       rw[if_pos (by omega),List.getElem?_append_left (by rw[iL];exact k3),mm] at this
       rw[this];exact iG.symm
      simp only[World.cell?,heq,aq,k1]
      simpa using hq
     ·rw[heq,fh]
      have hle:xs.length*t.cells<=(xs.length+ys.length)*t.cells:=Nat.mul_le_mul_right _ (Nat.le_add_right _ _)
      show ad.off<_
      omega
    ·refine⟨dH.1,?_,?_⟩
     ·have:=dH.2.1
      simp only[World.cell?,Y,hw] at this⊢
      rw[setRow_other X.w g' ad.block cc heq]
      exact this
     ·simp only[Y]
      rw[if_neg heq]
      exact dH.2.2
   have kf:Mod (s.close cl) X Y:=⟨ju,by simp [Y,hw],by simp only[Y,hw];rfl,by simp only[Y,hw];rfl,by simp only[Y,hw];rfl,rfl,fun _ _ _=>rfl,fun k hk=>by
    by_cases heq:k=g'
    ·subst heq;exact .inr ⟨pl,_,how,kN⟩
    ·refine .inl ⟨by simp only[Y];rw[if_neg heq],?_⟩
     simp only[Y,hw]
     exact setRow_other X.w g' k cc heq⟩
   have av:=(kS rx ry).af ju
   refine fin Y rfl kf av (.inr ⟨_,cap,cc,hv,aq,hn,hm,hs,fh⟩) ?_
   rw[hv,<-List.length_append]
   exact qI (cs:=cx++cy) aq (by rw[List.length_append];exact fh) (by rw[List.length_append];exact ht) (by rw[List.length_append];exact av) (by rw[List.length_append];exact hn)
 split at h
 ·rename_i dG
  rw[dG] at hb
  obtain⟨ys,h,gS⟩:=zi h
  cases hd:decide (List.length ys*E.bytes e<=140737488355328) with
  |false=>rw[hd] at h;cases h
  |true=>
   rw[hd] at h
   cases h
   obtain⟨cs,eW,ev⟩:=gS X _ _ hx
   have j8:a.eval b= .slice none 0 0:=hb
   have gG:cs=[a.eval x]:=by
    obtain⟨A,c,cu,_⟩:=eW
    rw[ev,cu];rfl
   have:=key [] ys [] (.r 0 []) (fun hf=>hf) (.inl ⟨j8,rfl⟩) (by rw[j8];exact⟨none,0,rfl,Nat.le_refl _,fun j x hj=>by simp at hj⟩) (by rw[<-gG];exact eW) (by simpa using of_decide_eq_true hd)
   simpa using this
 ·rename_i t' s9 iU dG
  rw[dG] at hb
  split at h
  case isTrue=>cases h
  rename_i lT
  have lT:eZ iU []=true:=by cases nj:eZ iU []<;>simp_all
  obtain⟨heq,h⟩:=Bl h
  have:=Ty.ax heq
  subst this
  obtain⟨ys,h,gS⟩:=zi h
  cases hd:decide ((List.length (Ty.cast heq s9)+List.length ys)*E.bytes e<=140737488355328) with
  |false=>rw[hd] at h;cases h
  |true=>
   rw[hd] at h
   cases h
   obtain⟨cs,eW,ev⟩:=gS X _ _ hx
   have du:=x6 lT
   obtain⟨i,rfl⟩:=A8 dG (fun e=>by rw[e] at du;cases du)
   obtain⟨vG,r1,vH,hO⟩:=hb
   have gG:cs=[a.eval x]:=by
    obtain⟨A,c,cu,_⟩:=eW
    rw[ev,cu];rfl
   have js:vG=[a.eval (.tmp i)]:=by
    obtain⟨A,c,cu,_⟩:=r1
    rw[vH,cu];rfl
   obtain⟨e',BB,BE,v',_,g1,g2,g3⟩:=hO [] du
   simp only[El.get,Option.some.injEq,Sigma.mk.injEq,Ty.sl.injEq] at g1
   obtain⟨⟨rfl,rfl⟩,g1⟩:=g1
   cases g1
   have gQ:v'=a.eval (.tmp i):=by
    rw[js] at g2
    simpa [Ty.off] using g2.symm
   rw[gQ] at g3
   exact key s9 ys [(i,0)] (.c i 0 []) bj.close g3 (by rw[<-js];exact r1) (by rw[<-gG];exact eW) (of_decide_eq_true hd)
 ·cases h
end Go.Ref

namespace Go.Ref
open Go
variable {P:Program} {E:Env} {X:ah} {s:State} {a:Act} {o:Oper} {u:Out}
def ah.obj(X:ah)(r:Nat)(b:Obj):ah:={X with w:={X.w with heap:=X.w.heap.setIfInBounds r b}}
theorem mM{r g:Nat}{b:Obj}(h:g≠r):(X.obj r b).w.heap[g]? =X.w.heap[g]? :=by
 simp [ah.obj,Ne.symm h]
theorem uV{r:Nat}{b b':Obj}(h:X.w.heap[r]? =some b'):(X.obj r b).w.heap[r]? =some b:=(MapKept.heap_set h).1
theorem ku{r id:Nat}{b:Obj}(h:X.ow r= .box id){ad:Addr}{v:Value}(hs:X.aj ad v):(X.obj r b).aj ad v:=by
 have bu:ad.block≠r:=fun e=>by
  have:=hs.2.2
  rw[e,h] at this
  exact this
 refine⟨hs.1,?_,hs.2.2⟩
 have:=hs.2.1
 simp only[World.cell?] at this⊢
 rw[mM bu]
 exact this
theorem vj{r id:Nat}{b:Obj}(h:X.ow r= .box id):Ext X (X.obj r b) where
 aj:=fun _ _=>ku h
 size:=by simp [ah.obj]
 os:=rfl
 tape:=rfl
 output:=rfl
 β0:=rfl
 still:=fun g _ bp=>by
  have bu:g≠r:=fun e=>by rw[e,h] at bp;exact bp
  exact⟨rfl,mM bu⟩
theorem aE.obj{r id:Nat}{b:Obj}(h:X.ow r= .box id){pl:Place}{e:TypeId}{k n:Nat}{v:Value}(ho:aE X pl e k n v):aE (X.obj r b) pl e k n v:=by
 rcases ho with ho|⟨g,cap,cur,h1,h2,h3,h4,h5,h6⟩
 ·exact .inl ho
 ·have bu:g≠r:=fun e=>by rw[e,h] at h6;cases h6
  exact .inr ⟨g,cap,cur,h1,(mM bu).trans h2,h3,h4,h5,h6⟩
theorem aD.obj{r id:Nat}{b:Obj}(h:X.ow r= .box id){pl:List Nat->Place}{t:Ty}{x:El t}{c:List Value}{own:List (List Nat)}(ho:aD X pl t x c own):aD (X.obj r b) pl t x c own:=fun p hp=>by
 obtain⟨e,t',xs,v,g0,g1,g2,g3⟩:=ho p hp
 exact⟨e,t',xs,v,g0,g1,g2,g3.obj h⟩
theorem ai.obj{r id:Nat}{b:Obj}(h:X.ow r= .box id){pl:List Nat->Place}{sv:SV}{v:Value}(hr:ai X pl sv v):ai (X.obj r b) pl sv v:=by
 cases sv with
 |al t x own=>
  obtain⟨c,h1,h2,h3⟩:=hr
  exact⟨c,h1.af (fun _ _=>ku h),h2,h3.obj h⟩
 |view t x=>
  obtain⟨ad,c,h1,h2,h3,h4⟩:=hr
  exact⟨ad,c,h1,h2,h3.af (fun _ _=>ku h),fun i u hi=>ku h (h4 i u hi)⟩
 |cap f t x u y=>exact ii (fun _ _=>ku h) hr
 |_=>exact hr
theorem Rel.obj{r id:Nat}{B B':aI}{b:Obj}(hr:Rel X s a)(hb:s.bs[id]? =some (some B))(hβ:X.β id=some r)(h:X.ow r= .box id)(hB:aH (X.obj r b) id r B'):Rel (X.obj r b) (s.ap (some (id,B'))) a where
 size:=hr.size
 cN:=by simpa [State.ap] using hr.cN
 aM:=fun i l v hl hv=>(hr.aM i l v hl hv).dJ fun j sv u hm dH=>dH.obj h
 boxes:=fun aS B2 bD=>by
  have aw:id<s.bs.length:=(List.getElem?_eq_some_iff.1 hb).1
  simp only[State.ap,List.getElem?_set] at bD
  by_cases e:id=aS
  ·subst e
   rw[if_pos rfl,if_pos aw] at bD
   cases bD;exact⟨r,hβ,hB⟩
  ·rw[if_neg e] at bD
   obtain⟨r',h1,h4,h2⟩:=hr.boxes aS B2 bD
   have bu:r'≠r:=fun e2=>by rw[e2,h] at h4;cases h4;exact e rfl
   exact⟨r',h1,h4,h2.move (fun _ _=>ku h) (mM bu) (fun cs h5=>h5.obj h) fun _ g o ho hw=>⟨(mM (fun e3=>by rw[e3,h] at hw;cases hw)).trans ho,hw⟩⟩
 live:=fun i l aS t p hi hm=>by
  have aw:id<s.bs.length:=(List.getElem?_eq_some_iff.1 hb).1
  obtain⟨B2,bD⟩:=hr.live i l aS t p hi hm
  simp only[State.ap,List.getElem?_set]
  by_cases e:id=aS
  ·subst e;exact⟨B',by rw[if_pos rfl,if_pos aw]⟩
  ·rw[if_neg e];exact⟨B2,bD⟩
 defers:=hr.defers
def ah.dL(X:ah)(b:Obj)(w:Ow)(β:Nat->Option Nat):ah:={w:=X.w.alloc b,ow:=fun g=>if g=X.w.heap.size then w else X.ow g,β}
theorem uh(X:ah)(s:State)(b:Obj)(w:Ow)(β:Nat->Option Nat)(hβ0:β 0=X.β 0)(hβ:∀(id:Nat) B,s.bs[id]? =some (some B)->β id=X.β id):b5 s X (X.dL b w β) where
 size:=by simp [ah.dL]
 os:=rfl
 tape:=rfl
 output:=rfl
 fR:=fun g hg=>⟨by simp only[ah.dL];rw[if_neg (by omega)],RowKit.Below.heap_alloc _ _ _ hg⟩
 β0:=hβ0
 β:=hβ
theorem qA(hr:Rel X s a){t p:Ty}{x:El t}{b:Obj}{v:Value}(aB:(execOp a.eval o).run P X.w= .ok (.value v) (X.w.alloc b))
 (lU:∀Y:ah,(∀ad v,X.aj ad v->Y.aj ad v)->Y.w.heap[X.w.heap.size]? =some b->∀pl,bG Y X.w.heap.size pl t x []) (gK:fp p [] X.w.heap.size v) (h:dC s o.dst t x p some=some u):ao P X s a o u:=by
 unfold dC at h
 split at h
 case h_2=>cases h
 rename_i d hd
 split at h
 case h_2=>cases h
 rename_i hb
 cases h
 let β:Nat->Option Nat:=fun id=>if id=d+1 then some X.w.heap.size else X.β id
 have aw:d+1<s.bs.length:=(List.getElem?_eq_some_iff.1 hb).1
 have hk:b5 s X (X.dL b (.box (d+1)) β):=uh X _ _ _ _ (by show(if _ then _ else _)=_;rw[if_neg (by omega)]) (fun id B hB=>by
  show(if id=d+1 then _ else _)=_
  rw[if_neg (fun e=>by rw[e,hb] at hB;cases hB)])
 have aU:aH (X.dL b (.box (d+1)) β) (d+1) X.w.heap.size ⟨t,x,[]⟩:=⟨by simp [ah.dL],lU _ (fun _ _=>hk.aj) (heap_alloc_new X.w _) _⟩
 have hβd:β (d+1)=some X.w.heap.size:=by show(if d+1=d+1 then _ else _)=_;rw[if_pos rfl]
 have cp:=(hr.bQ hk).cC aw hb hβd aU
 refine⟨X.dL b (.box (d+1)) β,v,.inl aB,hk.ext,?_⟩
 rw[hd]
 refine cp.put (fun d' e=> ?_) (fun id t' q hm=> ?_)
 ·cases e
  exact⟨X.w.heap.size,hβd,gK⟩
 ·have:id=d+1:=by have:=hm;simp at this;exact this.1
  subst this
  exact⟨⟨t,x,[]⟩,by simp [State.ap,List.getElem?_set,aw]⟩
def dz:(t:Ty)->El t->Value
 | .bool,b=> .bool b
 | .int k,n=> .int k n
 | .str,x=> .string x
 |_,_=>Go.undef
def Ty.cI:Ty->Bool
 | .bool| .int _| .str=>true
 |_=>false
theorem q7{t:Ty}(hk:t.cI=true){x:El t}{v:Value}(h:bL X t x v):v=dz t x:=by
 obtain⟨cs,h1,h2⟩:=h
 cases t<;>simp [Ty.cI] at hk
 ·rw[h2,io h1];rfl
 ·rw[h2,zt h1];rfl
 ·rw[h2,zw h1];rfl
theorem vD{T:TypeId}{t:Ty}(hE:ag P E)(hT:E.ty T=some t)(hk:t.cI=true)(x:El t):∃d,P.underlying T=some d/\MapKept.IsKey d (dz t x)/\∀y,Instr.sameNow d (dz t x) (dz t y)=some (dR t x y):=by
 have hu:=(hE.ty T t hT).bA
 cases t<;>simp [Ty.cI] at hk
 ·have hu:P.underlying T=some .bool:=hu
  exact⟨_,hu,trivial,fun y=>by cases x<;>cases y<;>rfl⟩
 ·have hu:P.underlying T=some (.int _):=hu
  refine⟨_,hu,by simp [MapKept.IsKey,dz],fun y=> ?_⟩
  simp only[Instr.sameNow,dz,if_true,dR]
  congr 1
 ·have hu:P.underlying T=some .string:=hu
  refine⟨_,hu,trivial,fun y=> ?_⟩
  simp only[Instr.sameNow,dz,dR]
  congr 1
  by_cases e:x=y
  ·rw[decide_eq_true e];exact(MapKept.bytes_beq _ _).2 e
  ·rw[decide_eq_false e]
   cases hb:(x==y) with
   |false=>rfl
   |true=>exact absurd ((MapKept.bytes_beq _ _).1 hb) e
theorem uK{kt vt:Ty}{d:TypeDesc}{k:El kt}(hk:kt.cI=true)(hs:∀y,Instr.sameNow d (dz kt k) (dz kt y)=some (dR kt k y)):∀(es:List MapEntry) (xs:List (El kt×El vt)) (i:Nat),es.length=xs.length->
 (∀(i:Nat) q e,xs[i]? =some q->es[i]? =some e->bL X kt q.1 e.key/\bL X vt q.2 e.val)->
 (dh (dR kt) xs k=false/\cJ (dR kt) (El.aN vt) xs k=El.aN vt/\Instr.findNow d (dz kt k) es i=some none)\/(dh (dR kt) xs k=true/\∃j v,Instr.findNow d (dz kt k) es i=some (some (j,v))/\bL X vt (cJ (dR kt) (El.aN vt) xs k) v)
 | [],[],i,_,_=> .inl ⟨rfl,rfl,rfl⟩
 |e::es,q::xs,i,hl,hp=>by
  obtain⟨h1,h2⟩:=hp 0 q e rfl rfl
  have v7:=q7 hk h1
  have fE:=hs q.1
  rw[<-v7] at fE
  simp only[Instr.findNow,fE,dh,cJ]
  cases heq:dR kt k q.1 with
  |true=>exact .inr ⟨rfl,i,e.val,rfl,h2⟩
  |false=>exact uK hk hs es xs (i+1) (by simpa using hl) (fun i q e hq he=>hp (i+1) q e (by simpa using hq) (by simpa using he))
 | [],_::_,_,hl,_=>by simp at hl
 |_::_,[],_,hl,_=>by simp at hl
theorem tN:∀{t:Ty},t.cB=true->t.depth<=2
 | .unit,_=>by decide
 | .pair (.int _) b,h=>by
   have:=tN (t:=b) h
   simp only[Ty.depth];omega
theorem vf:∀{t:Ty},t.cB=true->∀x y:El t,bC t x y=some (gv t x y)
 | .unit,_,_,_=>rfl
 | .pair (.int _) b,h,x,y=>by
   have:=vf (t:=b) h x.2 y.2
   simp only[bC,this,gv]
theorem xP(hE:ag P E){xs:Array Value}(w:World)(em:Bool)(n:Nat):
 ∀(fl:List Field) (t:Ty) (off:Nat),zl E fl t off->t.cB=true->∀(x:El t) (c1:List Value),aA X t x c1->(xs.toList.drop off).take t.cells=c1->
  (forIn fl () fun(f:Field) (_:Unit)=>(if f.name≠ "_" then do
    let __do_lift<-part f.type xs f.offset
    Instr.checkKey em (n+1) f.type __do_lift
    pure (ForInStep.yield ()) else pure (ForInStep.yield ()):Sem (ForInStep Unit))).run P w= .ok () w:=by
 intro fl
 induction fl with
 |nil=>intro t off hf hi x c1 h1 h3;simp [List.forIn_nil]
 |cons f fl pX=>
  intro t off hf hi x c1 h1 h3
  cases t<;>simp only[zl] at hf<;>try exact hf.elim
  rename_i ta tb
  obtain⟨ho,kO,hn,bZ⟩:=hf
  obtain⟨ca,cb,e1,ra,rb⟩:=h1
  have la:=ra.len
  have t1:(xs.toList.drop off).take ta.cells=ca:=by
   have:=congrArg (fun l=>l.take ta.cells) (h3.trans e1)
   simp only[List.take_take,Ty.cells] at this
   rw[Nat.min_eq_left (Nat.le_add_right _ _),<-la,List.take_left] at this
   rw[<-la];exact this
  have u1:(xs.toList.drop (off+ta.cells)).take tb.cells=cb:=by
   have:=congrArg (fun l=>l.drop ta.cells) (h3.trans e1)
   simp only[Ty.cells] at this
   rw[List.drop_take,Nat.add_sub_cancel_left,List.drop_drop,<-la,List.drop_left] at this
   rw[<-la];exact this
  have fj:=z28 hE kO ra (all:=xs) (off:=f.offset) (by rw[ho];exact t1) w
  cases ta<;>simp [Ty.cB] at hi
  rename_i k
  have hu:P.underlying f.type=some (.int k):=(hE.ty f.type _ kO).bA
  have kI:(Instr.checkKey em (n+1) f.type (bN (.int k) ca)).run P w= .ok () w:=by
   rw[zt ra]
   exact MapKept.run_checkKey hu (by simp [MapKept.IsKey]) em n
  rw[List.forIn_cons]
  simp only[hn,ne_eq,not_false_eq_true,if_true,Sem.run_bind,fj,kI,Result.andThen_ok,Sem.run_pure]
  exact pX tb _ bZ hi x.2 cb rb u1
theorem ui{T:TypeId}{t:Ty}(hE:ag P E)(hT:E.ty T=some t)(hk:t.isKey=true){x:El t}{v:Value}(h:bL X t x v)(em:Bool)(w:World):(Instr.checkKey em 10000 T v).run P w= .ok () w:=by
 cases h1:t.cI with
 |true=>
  obtain⟨d,hd,nr,_⟩:=vD hE hT h1 x
  rw[q7 h1 h]
  exact MapKept.run_checkKey hd nr em 9999
 |false=>
  have hu:=(hE.ty T t hT).bA
  cases t<;>simp [Ty.isKey,Ty.cI] at hk h1
  rename_i ta tb
  obtain⟨fs,dg,dx,nx,_⟩:=hu
  obtain⟨cs,hr,rfl⟩:=h
  rw[zj rfl]
  unfold Instr.checkKey
  simp only[Sem.run_bind,run_underlying dg,Result.andThen_ok]
  rw[<-Array.forIn_toList]
  have:=xP (X:=X) hE (xs:=cs.toArray) w em 9998 fs.toList (.pair ta tb) 0 dx hk x cs hr (by have:=hr.len;simp only[List.drop_zero];rw[<-this];exact List.take_length)
  exact(congrArg (fun r=>Result.andThen r (fun a w'=>Sem.run P (pure ()) w')) this).trans (by simp)
theorem tz(hE:ag P E){T:TypeId}{kt vt:Ty}(hT:E.ty T=some kt)(hk:kt.cB=true){k:El kt}{v:Value}(h:bL X kt k v)(w:World):∀(es:List MapEntry) (xs:List (El kt×El vt)) (i:Nat),es.length=xs.length->
 (∀(i:Nat) q e,xs[i]? =some q->es[i]? =some e->bL X kt q.1 e.key/\bL X vt q.2 e.val)->
 (dh (gv kt) xs k=false/\cJ (gv kt) (El.aN vt) xs k=El.aN vt/\(Instr.findAsking T v es i).run P w= .ok none w)\/(dh (gv kt) xs k=true/\∃j u,(Instr.findAsking T v es i).run P w= .ok (some (j,u)) w/\bL X vt (cJ (gv kt) (El.aN vt) xs k) u)
 | [],[],i,_,_=> .inl ⟨rfl,rfl,by simp [Instr.findAsking]⟩
 |e::es,q::xs,i,hl,hp=>by
  obtain⟨h1,h2⟩:=hp 0 q e rfl rfl
  obtain⟨c1,r1,rfl⟩:=h
  obtain⟨c2,r2,e2⟩:=h1
  have heq:(Op.equal T (bN kt c1) e.key).run P w= .ok (gv kt k q.1) w:=by
   rw[e2]
   exact ud (X:=X) hE w 10000 kt T hT (Nat.le_trans (tN hk) (by decide)) k q.1 c1 c2 _ r1 r2 (vf hk k q.1)
  unfold Instr.findAsking
  simp only[Sem.run_bind,heq,Result.andThen_ok,dh,cJ]
  cases heq:gv kt k q.1 with
  |true=>exact .inr ⟨rfl,i,e.val,by simp,h2⟩
  |false=>exact tz hE hT hk ⟨c1,r1,rfl⟩ w es xs (i+1) (by simpa using hl) (fun i q e hq he=>hp (i+1) q e (by simpa using hq) (by simpa using he))
 | [],_::_,_,hl,_=>by simp at hl
 |_::_,[],_,hl,_=>by simp at hl
theorem uO(hE:ag P E){T:TypeId}{kt vt:Ty}(hT:E.ty T=some kt)(hk:kt.isKey=true){k:El kt}{v:Value}(h:bL X kt k v)(w:World)(es:List MapEntry)(xs:List (El kt×El vt))(hl:es.length=xs.length)
 (hp:∀(i:Nat) q e,xs[i]? =some q->es[i]? =some e->bL X kt q.1 e.key/\bL X vt q.2 e.val):
 (dh (dR kt) xs k=false/\cJ (dR kt) (El.aN vt) xs k=El.aN vt/\(Instr.findKey T v es).run P w= .ok none w)\/(dh (dR kt) xs k=true/\∃j u,(Instr.findKey T v es).run P w= .ok (some (j,u)) w/\bL X vt (cJ (dR kt) (El.aN vt) xs k) u):=by
 cases h1:kt.cI with
 |true=>
  obtain⟨d,hd,nr,fE⟩:=vD hE hT h1 k
  rw[q7 h1 h]
  rcases uK (X:=X) h1 fE es xs 0 hl hp with⟨g1,g2,g3⟩|⟨g1,j,u,g3,g4⟩
  ·exact .inl ⟨g1,g2,MapKept.run_findKey hd g3⟩
  ·exact .inr ⟨g1,j,u,MapKept.run_findKey hd g3,g4⟩
 |false=>
  have hu:=(hE.ty T kt hT).bA
  cases kt<;>simp [Ty.isKey,Ty.cI] at hk h1
  rename_i ta tb
  obtain⟨fs,dg,_⟩:=hu
  have e:=run_findKey_eq (P:=P) w (k:=T) (by rw[dg]) v es
  have:=tz (X:=X) hE hT hk h w es xs 0 hl hp
  rw[e]
  exact this
theorem tR{T:TypeId}{kt vt:Ty}(hE:ag P E)(h:eR E T=some (kt,vt)):∃k e,P.underlying T=some (.map k e)/\E.ty k=some kt/\E.ty e=some vt/\kt.isKey=true:=by
 unfold eR at h
 split at h
 case h_2=>cases h
 rename_i k e hm
 split at h
 case h_2=>cases h
 rename_i pY qf h1 h2
 split at h
 case isFalse=>cases h
 rename_i hk
 cases h
 exact⟨k,e,hE.mp T k e hm,h1,h2,hk⟩
theorem tD{m:Operand}{kt vt:Ty}{R:Type}{K:Nat->List (El kt×El vt)->Option R}{z:R}(hr:Rel X s a)(h:iv s (s.ak m) kt vt K=some z):
 ∃id B r xs,K id xs=some z/\s.bs[id]? =some (some B)/\X.β id=some r/\X.ow r= .box id/\a.eval m= .map (some r)/\∃es clock,X.w.heap[r]? =some (.map es clock)/\es.size=xs.length/\
  ∀(i:Nat) (q:El kt×El vt) (e:MapEntry),xs[i]? =some q->es[i]? =some e->bL X kt q.1 e.key/\bL X vt q.2 e.val:=by
 have hx:=hr.ak m
 unfold iv at h
 split at h
 case h_2=>cases h
 rename_i id pY qf hm
 rw[hm] at hx
 obtain⟨r,hβ,hv⟩:=hx
 split at h
 case isFalse=>cases h
 split at h
 case h_2=>cases h
 rename_i B hB
 split at h
 case isFalse=>cases h
 rename_i cj
 have hb:=gi hB
 obtain⟨r',h1,h2,h3⟩:=hr.boxes id B hb
 rw[hβ] at h1
 cases h1
 refine⟨id,B,r,_,h,hb,hβ,h2,hv,?_⟩
 obtain⟨bt,bx,bo⟩:=B
 have e:=Ty.ax cj
 simp only at e
 subst e
 exact h3
theorem xu(hE:ag P E)(hr:Rel X s a){ops:List Oper}{T:TypeId}{rs:Option Operand}(ho:o.op= .makeMap T rs){C:FuncId->aK Out}(h:act E C ops o s some=some u):ao P X s a o u:=by
 unfold act at h
 cases rs with
 |some r=>simp only[ho] at h;cases h
 |none=>
  simp only[ho] at h
  split at h
  case h_2=>cases h
  rename_i kt vt hm
  refine qA hr (t:= .aG .mp kt vt) (p:= .aG .mp kt vt) (x:=([]:List (El kt×El vt))) (b:= .map #[] 0) (v:= .map (some X.w.heap.size)) ?_ (fun Y _ hY pl=>⟨#[],0,hY,rfl,fun i q e hq=>by simp at hq⟩) rfl h
  simp [execOp,ho,Instr.makeMap]
theorem xE(hE:ag P E)(hr:Rel X s a){ops:List Oper}{T:TypeId}{x i:Operand}{ok:Bool}(ho:o.op= .lookup T x i ok){C:FuncId->aK Out}(h:act E C ops o s some=some u):ao P X s a o u:=by
 unfold act at h
 cases ok with
 |true=>simp only[ho] at h;cases h
 |false=>
  simp only[ho] at h
  unfold dV at h
  split at h
  case h_2=>cases h
  rename_i kt vt hm
  obtain⟨k,e,hu,hk,he,gy⟩:=tR hE hm
  obtain⟨id,B,r,xs,h,hb,hβ,how,hv,es,clock,aq,cQ,b7⟩:=tD hr h
  obtain⟨key,h,pr⟩:=zi h
  cases h
  obtain⟨ck,rk,sm⟩:=pr X _ _ (hr.ak i)
  have kI:=ui hE hk gy (X:=X) (x:=key) ⟨ck,rk,sm⟩ es.isEmpty X.w
  rcases uO (X:=X) hE hk gy (k:=key) ⟨ck,rk,sm⟩ X.w es.toList xs (by simpa using cQ) (fun i q e hq he=>b7 i q e hq (by simpa using he)) with⟨g1,g2,hf⟩|⟨g1,j,v,hf,g4⟩
  ·rw[g2]
   have hz:=nW (P:=P) hE he X.w
   refine ao.plain hr (v:=bN vt (zb vt)) ?_ (ky (hH X vt)) (fun _ _ _ e'=>by cases e')
   simp only[execOp,ho,Sem.run_bind,Instr.lookup,run_underlying hu,Result.andThen_ok,hv,MapKept.run_getObj_map aq,Sem.run_pure,kI,hf,hz,Bool.false_eq_true,if_false]
  ·obtain⟨cv,rv,ev⟩:=g4
   refine ao.plain hr (v:=v) ?_ ⟨cv,rv,ev,zr⟩ (fun _ _ _ e'=>by cases e')
   simp only[execOp,ho,Sem.run_bind,Instr.lookup,run_underlying hu,Result.andThen_ok,hv,MapKept.run_getObj_map aq,Sem.run_pure,kI,hf,Bool.false_eq_true,if_false]
theorem uI(hE:ag P E)(hr:Rel X s a){T:TypeId}{m k x:Operand}(ho:(execOp a.eval o).run P X.w=((Instr.mapUpdate T (a.eval m) (a.eval k) (a.eval x)).run P X.w).andThen fun _ w=> .ok .skip w)(h:eC E T s (s.ak m) (s.ak k) (s.ak x) some=some u):ao P X s a o u:=by
 unfold eC at h
 split at h
 case h_2=>cases h
 rename_i kt vt hm
 obtain⟨kT,eT,hu,hk,he,gy⟩:=tR hE hm
 obtain⟨id,B,r,xs,h,hb,hβ,how,hv,es,clock,aq,cQ,b7⟩:=tD hr h
 obtain⟨key,h,pr⟩:=zi h
 obtain⟨y,h,wP⟩:=zi h
 obtain⟨ck,rk,j5⟩:=pr X _ _ (hr.ak k)
 obtain⟨cy,ry,oW⟩:=wP X _ _ (hr.ak x)
 have kI:=ui hE hk gy (X:=X) (x:=key) ⟨ck,rk,j5⟩ false X.w
 rcases uO (X:=X) hE hk gy (k:=key) ⟨ck,rk,j5⟩ X.w es.toList xs (by simpa using cQ) (fun i q e hq he=>b7 i q e hq (by simpa using he)) with⟨g1,g2,hf⟩|⟨g1,j,v,hf,g4⟩
 ·rw[g1] at h
  cases h
  let new:Obj:= .map (es.push {key:=a.eval k,val:=a.eval x,born:=clock}) (clock+1)
  have aB:(execOp a.eval o).run P X.w= .ok .skip (X.obj r new).w:=by
   rw[ho]
   simp only[Instr.mapUpdate,Sem.run_bind,run_underlying hu,Result.andThen_ok,hv,MapKept.run_getObj_map aq,kI,hf,MapKept.run_setObj_map _ aq]
   simp only[new]
   rfl
  have aU:aH (X.obj r new) id r ⟨.aG .mp kt vt,(xs++ [(key,y)]:List (El kt×El vt)),[]⟩:=by
   refine⟨how,es.push {key:=a.eval k,val:=a.eval x,born:=clock},clock+1,uV aq,by simp [cQ],fun i q e hq he=> ?_⟩
   have hs:∀ad v,X.aj ad v->(X.obj r new).aj ad v:=fun _ _=>ku how
   have hq:(xs++ [(key,y)])[i]? =some q:=hq
   rw[List.getElem?_append] at hq
   rw[Array.getElem?_push] at he
   split at hq
   ·rename_i aw
    rw[if_neg (by omega)] at he
    obtain⟨j1,j2⟩:=b7 i q e hq he
    exact⟨j1.mono hs,j2.mono hs⟩
   ·rename_i aw
    have hi:i-xs.length=0:=by
     have:=(List.getElem?_eq_some_iff.1 hq).1
     simp at this
     omega
    rw[hi] at hq
    cases hq
    rw[if_pos (by omega)] at he
    cases he
    exact⟨bL.mono hs ⟨ck,rk,j5⟩,bL.mono hs ⟨cy,ry,oW⟩⟩
  exact⟨X.obj r new,Go.undef,.inr ⟨aB,rfl⟩,vj how,(hr.obj hb hβ how aU).skip o.dst⟩
 ·rw[g1] at h
  cases h
theorem te(hE:ag P E)(hr:Rel X s a){ops:List Oper}{T:TypeId}{m k x:Operand}(ho:o.op= .mapUpdate T m k x\/o.op= .insert T m k x){C:FuncId->aK Out}(h:act E C ops o s some=some u):ao P X s a o u:=by
 unfold act at h
 rcases ho with ho|ho
 ·simp only[ho] at h
  exact uI hE hr (by simp [execOp,ho]) h
 ·simp only[ho] at h
  exact uI hE hr (by simp [execOp,ho]) h
theorem xY(hE:ag P E)(hr:Rel X s a){ops:List Oper}{T:TypeId}{x:Operand}(ho:o.op= .range T x){C:FuncId->aK Out}(h:act E C ops o s some=some u):ao P X s a o u:=by
 unfold act at h
 simp only[ho] at h
 split at h
 case h_2=>cases h
 rename_i hT
 obtain⟨y,h,hy⟩:=zi h
 obtain⟨cs,ry,ev⟩:=hy X _ _ (hr.ak x)
 rw[zw ry] at ev
 have hu:=(hE.ty T _ hT).bA
 refine qA hr (t:=dy) (p:=dy) (x:=((y,0):ByteArray×Nat)) (b:= .stringIter y 0) (v:= .pointer (some ⟨X.w.heap.size,0,none⟩)) ?_ (fun Y _ hY pl=>hY) ⟨rfl,trivial⟩ h
 simp [execOp,ho,Instr.range,run_underlying hu,ev]
theorem yF(hr:Rel X s a){ops:List Oper}{x:Operand}{str:Bool}(ho:o.op= .next x str){C:FuncId->aK Out}(h:act E C ops o s some=some u):ao P X s a o u:=by
 unfold act at h
 cases str with
 |false=>simp only[ho] at h;cases h
 |true=>
  simp only[ho] at h
  unfold dX at h
  have hx:=hr.ak x
  split at h
  case h_2=>cases h
  rename_i id hm
  rw[hm] at hx
  obtain⟨r,hβ,hv,_⟩:=hx
  split at h
  case h_2=>cases h
  rename_i B hB
  split at h
  case isFalse=>cases h
  rename_i cj
  have hb:=gi hB
  obtain⟨r',h1,how,h3⟩:=hr.boxes id B hb
  rw[hβ] at h1
  cases h1
  have aq:X.w.heap[r]? =some (.stringIter (Ty.cast cj B.x:ByteArray×Nat).1 (Ty.cast cj B.x:ByteArray×Nat).2):=by
   obtain⟨bt,bx,bo⟩:=B
   have e:=Ty.ax cj
   simp only at e
   subst e
   exact h3
  generalize(Ty.cast cj B.x:ByteArray×Nat)=q at*
  obtain⟨st,pos⟩:=q
  simp only at h aq
  have hv:a.eval x= .pointer (some ⟨r,0,none⟩):=by simpa [Ty.off] using hv
  have bf:(getObj r).run P X.w= .ok (.stringIter st pos) X.w:=by simp [getObj,Sem.run,aq]
  cases aw:decide (pos<st.size) with
  |false=>
   rw[aw] at h
   cases h
   have aw:=of_decide_eq_false aw
   refine ao.plain hr (sv:= .over) (v:= .tuple #[.bool false]) ?_ rfl (fun _ _ _ e'=>by cases e')
   simp only[execOp,ho,Sem.run_bind,Instr.next,hv,bf,Result.andThen_ok,if_neg aw,Sem.run_pure]
  |true=>
   rw[aw] at h
   cases h
   have aw:=of_decide_eq_true aw
   let new:Obj:= .stringIter st (pos+(Utf8.decode st pos).2)
   have cA:(setObj r new).run P X.w= .ok () (X.obj r new).w:=by simp [setObj,Sem.run,aq,ah.obj]
   have aU:aH (X.obj r new) id r ⟨dy,((st,pos+(Utf8.decode st pos).2):ByteArray×Nat),[]⟩:=⟨how,uV aq⟩
   have cp:=hr.obj hb hβ how aU
   refine⟨X.obj r new,.tuple #[.bool true,.int .i64 pos,.int .i32 (Utf8.decode st pos).1],.inl ?_,vj how,?_⟩
   ·simp only[execOp,ho,Sem.run_bind,Instr.next,hv,bf,Result.andThen_ok,if_pos aw,Sem.run_pure]
    simp only[new] at cA
    rw[cA]
    rfl
   ·refine cp.put (fun d' e=>⟨_,rfl,rfl,fun j sv v hj hv=> ?_⟩) (fun id t' q hm=>by simp at hm)
    match j with
    |0=>cases hj;cases hv;exact zm
    |1=>cases hj;cases hv;exact zg
    |2=>cases hj;cases hv;exact zg
    |j+3=>simp at hj
theorem AM{t:Ty}{k:Nat}(hk:(zb t).length=k)(n:Nat):((Array.range (n*k)).map fun i=>(zb t).toArray[i % (zb t).toArray.size]!).size=n*k/\
 ∀j,j<n->((((Array.range (n*k)).map fun i=>(zb t).toArray[i % (zb t).toArray.size]!).toList.drop (j*k)).take k)=zb t:=by
 refine⟨by simp,fun j hj=> ?_⟩
 apply List.ext_getElem?
 intro i
 rw[List.getElem?_take]
 split
 ·rename_i hi
  have aw:j*k+i<n*k:=by
   have:(j+1)*k<=n*k:=Nat.mul_le_mul_right _ hj
   rw[Nat.add_mul,Nat.one_mul] at this
   omega
  have kf:(j*k+i)% k=i:=by rw[Nat.mul_comm,Nat.mul_add_mod,Nat.mod_eq_of_lt hi]
  rw[List.getElem?_drop,Array.getElem?_toList,Array.getElem?_map,Array.getElem?_range,if_pos aw]
  simp only[Option.map_some,List.size_toArray,hk,kf]
  rw[List.getElem?_eq_getElem (by omega)]
  simp [getElem!_def,List.getElem?_eq_getElem (show i<(zb t).length by omega)]
 ·rename_i hi
  rw[List.getElem?_eq_none (by omega)]
theorem uQ(hE:ag P E){T e:TypeId}{t:Ty}(hT:E.ty T=some (.sl e t))(hk:t.cells≠0)(j9:E.bytes e≠0){n m:Int}(hn:0<=n)(Bv:n<=m)(hb:m*E.bytes e<=140737488355328)(w:World):
 m.toNat<=maxLen/\∃cur,cur.size=m.toNat*t.cells/\(∀j,j<m.toNat->(cur.toList.drop (j*t.cells)).take t.cells=zb t)/\
  (Instr.makeSlice T (.int .i64 n) (.int .i64 m)).run P w= .ok (.slice (some ⟨w.heap.size,0,none⟩) n.toNat m.toNat) (w.alloc (.cells cur e)):=by
 obtain⟨hu,he⟩:=(hE.ty T _ hT).bA
 obtain⟨i,hi,bB,ej,hz⟩:=(hE.ty e t he).info
 have hle:m<=m*E.bytes e:=by
  have h1:(1:Int)<=E.bytes e:=by omega
  have:=Int.mul_le_mul_of_nonneg_left h1 (show 0<=m by omega)
  simpa using this
 have kL:m.toNat<=maxLen:=by simp only[maxLen];omega
 have eo:(bN t (zb t)).cells=(zb t).toArray:=je (X:=⟨w,fun _=> .all,fun _=>none⟩) (hH _ t)
 obtain⟨z1,z2⟩:=AM (zx t) m.toNat
 refine⟨kL,(Array.range (m.toNat*t.cells)).map (fun i=>(zb t).toArray[i % (zb t).toArray.size]!),z1,z2,?_⟩
 have nA:IntKind.i64.wrap n=n:=by simp [IntKind.wrap,IntKind.signed,IntKind.bits];omega
 have ib:IntKind.i64.wrap m=m:=by simp [IntKind.wrap,IntKind.signed,IntKind.bits];omega
 have hmul:(i.bytes:Int)*m<=2^48:=by rw[ej,Int.mul_comm];omega
 have c1:¬m<0:=by omega
 have c2:¬(281474976710656:Int)<(i.bytes:Int)*m:=by omega
 have c3:¬n<0:=by omega
 have c4:¬m<n:=by omega
 have vL:∀(n:Int) (w:World),(asInt (.int .i64 n)).run P w= .ok n w:=fun n w=>by simp [asInt,asIntOf]
 have wF:∀w:World,(typeInfo e).run P w= .ok i w:=fun w=>by simp [typeInfo,hi]
 have df:∀w:World,(sizeOf e).run P w= .ok t.cells w:=fun w=>zh hE he w
 have wT:∀w:World,(zeroValue e).run P w= .ok (bN t (zb t)) w:=fun w=>nW hE he w
 simp only[Instr.makeSlice,Sem.run_bind,run_underlying hu,Result.andThen_ok,vL,wF,nA,ib]
 by_cases h0:m.toNat*t.cells=0
 ·simp [c1,c2,c3,c4,df,h0,newRow]
  rw[show Array.range 0= #[] from rfl]
  simp
 ·simp [c1,c2,c3,c4,df,h0,wT,eo,newRow]
theorem xj(hE:ag P E)(hr:Rel X s a){ops:List Oper}{T:TypeId}{l c:Operand}(ho:o.op= .makeSlice T l c){C:FuncId->aK Out}(h:act E C ops o s some=some u):ao P X s a o u:=by
 unfold act at h
 simp only[ho] at h
 unfold dW at h
 split at h
 case h_2=>cases h
 rename_i e t hT
 split at h
 ·cases h
 rename_i bu
 have j9:E.bytes e≠0:=fun e0=>bu (by rw[e0];rfl)
 have hk:t.cells≠0:=fun e0=>bu (by rw[e0];simp)
 obtain⟨n,h,hn⟩:=zi h
 obtain⟨m,h,hm⟩:=zi h
 obtain⟨_,rn,en⟩:=hn X _ _ (hr.ak l)
 rw[zt rn] at en
 obtain⟨_,rm,em⟩:=hm X _ _ (hr.ak c)
 rw[zt rm] at em
 cases hc:vg l with
 |true=>
  rw[hc] at h
  simp only[cond_true] at h
  cases d1:decide (n=0)<;>rw[d1] at h<;>simp only[cond_true,cond_false] at h
  ·cases h
  cases d2:decide (0<=m)<;>rw[d2] at h<;>simp only[cond_true,cond_false] at h
  ·cases h
  cases d3:decide (m*E.bytes e<=140737488355328)<;>rw[d3] at h<;>simp only[cond_true,cond_false] at h
  ·cases h
  cases h
  have d1:=of_decide_eq_true d1
  have d2:=of_decide_eq_true d2
  have d3:=of_decide_eq_true d3
  subst d1
  obtain⟨kL,cur,g1,g2,aB⟩:=uQ (P:=P) hE hT hk j9 (n:=0) (m:=m) (by omega) d2 d3 X.w
  have iK:b5 s X (X.dL (.cells cur e) (.row (.c (o.dst.getD 0) 0 []) 0) X.β):=uh X _ _ _ _ rfl (fun _ _ _=>rfl)
  refine⟨X.dL (.cells cur e) (.row (.c (o.dst.getD 0) 0 []) 0) X.β,.slice (some ⟨X.w.heap.size,0,none⟩) 0 m.toNat,.inl ?_,iK.ext,(hr.bQ iK).fin ⟨[.slice (some ⟨X.w.heap.size,0,none⟩) 0 m.toNat],⟨_,_,rfl,Nat.zero_le _,fun j x hj=>by simp at hj⟩,rfl,fun p hp=> ?_⟩ (fun id t p hm=>by simp at hm)⟩
  ·simp only[execOp,ho,Sem.run_bind,en,em,aB,Result.andThen_ok,Sem.run_pure]
   rfl
  ·have hp:p=[]:=by simpa using hp
   subst hp
   refine⟨e,t,[],_,by simp [Ty.b6],rfl,rfl,.inr ⟨X.w.heap.size,m.toNat,cur,rfl,heap_alloc_new X.w _,Nat.zero_le _,kL,g1,?_⟩⟩
   simp [ah.dL]
 |false=>
  rw[hc] at h
  simp only[cond_false] at h
  cases d1:decide (n=m)<;>rw[d1] at h<;>simp only[cond_true,cond_false] at h
  ·cases h
  cases d2:decide (0<=n)<;>rw[d2] at h<;>simp only[cond_true,cond_false] at h
  ·cases h
  cases d3:decide (n*E.bytes e<=140737488355328)<;>rw[d3] at h<;>simp only[cond_true,cond_false] at h
  ·cases h
  have d1:=of_decide_eq_true d1
  have d2:=of_decide_eq_true d2
  have d3:=of_decide_eq_true d3
  have d1:m=n:=d1.symm
  subst d1
  obtain⟨kL,cur,g1,g2,aB⟩:=uQ (P:=P) hE hT hk j9 (n:=m) (m:=m) d2 (Int.le_refl _) d3 X.w
  refine qA hr (t:= .aG .row t .unit) (p:= .aG (.dI m.toNat) t .unit) (x:=(List.replicate m.toNat (El.aN t):List (El t))) (b:= .cells cur e) (v:= .slice (some ⟨X.w.heap.size,0,none⟩) m.toNat m.toNat) ?_ (fun Y _ hY pl=>⟨cur,e,hY,?_,fun j x hj=> ?_⟩) ⟨_,rfl,Nat.le_refl _⟩ h
  ·simp only[execOp,ho,Sem.run_bind,en,em,aB,Result.andThen_ok,Sem.run_pure]
  ·rw[g1];show _=List.length (List.replicate _ _)*_;rw[List.length_replicate]
  ·have hj:(List.replicate m.toNat (El.aN t))[j]? =some x:=hj
   rw[List.getElem?_replicate] at hj
   split at hj
   ·rename_i aw
    cases hj
    rw[g2 j aw]
    exact hH Y t
   ·cases hj
end Go.Ref

namespace Go.Ref
open Go
variable {P:Program} {E:Env} {X:ah} {s:State} {a:Act} {o:Oper} {u:Out}
theorem Ae(hE:ag P E)(hr:Rel X s a){ops:List Oper}{T:TypeId}{x:Operand}{lo hi:Option Operand}(ho:o.op= .slice T x lo hi none){C:FuncId->aK Out}(h:act E C ops o s some=some u):ao P X s a o u:=by
 unfold act at h
 simp only[ho] at h
 split at h
 ·rename_i id n ta tb bM
  split at h
  case h_2=>cases h
  rename_i e t hT
  split at h
  case isFalse=>cases h
  rename_i heq
  have:=Ty.ax heq
  subst this
  unfold gu at h
  split at h
  ·cases h
  rename_i lV
  have pq:hi=none:=by
   cases hi with
   |none=>rfl
   |some _=>cases lV
  subst pq
  obtain⟨l,h,h1,hl⟩:=qj h
  cases h
  have hx:=hr.ak x
  rw[bM] at hx
  obtain⟨r0,hβ,cap,hv,eK⟩:=hx
  have hu:=(hE.ty T _ hT).bA
  have sC:=qp (P:=P) (isS:=true) hr hl (hi:=none) (m:=n) (n:=n) (c:=cap) rfl h1 (Nat.le_refl _) eK X.w
  rw[Option.map_none] at sC
  refine ao.plain hr (v:= .slice (if cap=l then some ⟨r0,0,none⟩ else(some (⟨r0,0,none⟩:Addr)).map (·.add (l*ta.cells))) (n-l) (cap-l)) ?_ ⟨r0,hβ,?_⟩ (fun _ _ _ e=>by cases e;exact jN hr bM)
  ·simp only[execOp,ho,Sem.run_bind,Instr.sliceAt,run_underlying hu.1,Result.andThen_ok,Instr.slice,hv,Option.map_none,sC,Sem.run_pure,zh hE hu.2]
  ·show∃lK off,_=Value.slice (some ⟨r0,off,none⟩) (n-l) lK/\_
   by_cases e':cap=l
   ·rw[if_pos e']
    exact⟨_,_,rfl,by omega,h1,.inl ⟨by omega,rfl⟩⟩
   ·rw[if_neg e']
    refine⟨cap-l,l*ta.cells,?_,by omega,h1,.inr rfl⟩
    rw[Option.map_some,zn,Nat.zero_add]
 ·rename_i id n t bM
  have hx:=hr.ak x
  rw[bM] at hx
  obtain⟨r0,hβ,hv⟩:=hx
  unfold fS at h
  split at h
  case h_2=>cases h
  rename_i u' hT ke lV
  have wW:lo=none:=by
   cases lo with
   |none=>rfl
   |some _=>cases ke
  have pq:hi=none:=by
   cases hi with
   |none=>rfl
   |some _=>cases lV
  subst wW pq
  split at h
  case isFalse=>cases h
  rename_i heq
  have:=Ty.ax heq
  subst this
  split at h
  case h_2=>cases h
  rename_i B hB
  split at h
  case isFalse=>cases h
  rename_i cj
  cases h
  have hb:=gi hB
  obtain⟨r,h1,iF⟩:=hr.boxes id B hb
  rw[hβ] at h1
  cases h1
  obtain⟨bt,bx,bo⟩:=B
  have e:=Ty.ax cj
  simp only at e
  subst e
  obtain⟨cs,T',aq,av,how,_⟩:=iF.cells rfl
  have hv:a.eval x= .pointer (some ⟨r0,0,none⟩):=by rw[((zq rfl).1 hv).1];rfl
  obtain⟨e,dg,dx,_⟩:=(hE.ty T _ hT).bA
  have hlen:List.length (bx:List (El t))=n:=av.1
  have aU:aH X id r0 ⟨.aG .row t .unit,(bx:List (El t)),[]⟩:=⟨how,cs,T',aq,by have:=av.2.1;rw[hlen];simpa using this,av.2.2⟩
  have lP:(Ty.cast cj bx:El (.aL n t))=bx:=rfl
  rw[lP]
  refine⟨X,.slice (some ⟨r0,0,none⟩) n n,.inl ?_,Ext.refl X,(hr.fq hb hβ aU).fin ⟨r0,hβ,n,rfl,Nat.le_refl _⟩ (fun aS t' p' hm=> ?_)⟩
  ·simp only[execOp,ho,Sem.run_bind,Instr.sliceAt,run_underlying dg,Result.andThen_ok,Option.map_none,hv,Instr.sureAddr,Sem.run_pure,zh hE dx]
   simp [Instr.sliceBounds]
   intro _
   rw[zn]
  ·have pz:SV.ptr aS t' p'= .ptr id (.aG (.dI n) t .unit) []:=by simpa using hm
   cases pz
   exact⟨_,qu hb⟩
 ·exact yC hE hr ho h
theorem xk(hr:Rel X s a){ops:List Oper}{fn:Fn}{fi ca:Array Operand}(ho:o.op= .makeFunc fn fi ca){C:FuncId->aK Out}(h:act E C ops o s some=some u):ao P X s a o u:=by
 unfold act at h
 cases fn with
 |func f=>
  simp only[ho] at h
  split at h
  case h_3=>cases h
  case h_2=>
   rename_i x y iI ka
   have iI:fi= #[]:=by rw[<-Array.toArray_toList (xs:=fi),iI]
   have ka:ca= #[x,y]:=by rw[<-Array.toArray_toList (xs:=ca),ka]
   subst iI ka
   unfold gq at h
   split at h
   case h_2=>cases h
   rename_i t x1 u' y1 bM mn
   cases h
   have hx:=hr.ak x
   have hy:=hr.ak y
   rw[bM] at hx
   rw[mn] at hy
   obtain⟨ad,cs,h1,h2,h3,h4⟩:=hx
   obtain⟨fA,bT,k1,k2,k3,k4⟩:=hy
   refine ao.plain hr (v:= .func (.func f) #[] #[.pointer (some ad),.pointer (some fA)]) ?_ ⟨ad,fA,cs,bT,rfl,⟨h2,h3,h4⟩,k2,k3,k4⟩ (fun _ _ _ e=>by cases e)
   simp [execOp,ho,Instr.makeFunc,h1,k1]
  rename_i x iI ka
  have iI:fi= #[]:=by rw[<-Array.toArray_toList (xs:=fi),iI]
  have ka:ca= #[x]:=by rw[<-Array.toArray_toList (xs:=ca),ka]
  subst iI ka
  unfold eH at h
  split at h
  case h_2=>cases h
  rename_i id u' bM
  split at h
  case isTrue=>cases h
  rename_i hs
  cases h
  have hx:=hr.ak x
  rw[bM] at hx
  obtain⟨r0,hβ,hv⟩:=hx
  have hv:=((q6 (by simpa using hs)).1 hv).1
  refine ao.plain hr (v:= .func (.func f) #[] #[.pointer (some ⟨r0,0,none⟩)]) ?_ ⟨r0,hβ,rfl⟩ (fun _ _ _ e=>by cases e;exact jN hr bM)
  have hv:a.eval x= .pointer (some ⟨r0,0,none⟩):=by rw[hv];simp [Ty.off]
  simp [execOp,ho,Instr.makeFunc,hv]
 |_=>simp only[ho] at h;cases h
theorem uH{t:Ty}{xs:List (El t)}{n l:Nat}{cs:List Value}(h:aA X (.aL n t) xs cs)(hl:l<=n):aA X (.aL l t) (xs.take l:List (El t)) (cs.take (l*t.cells)):=by
 obtain⟨h1,h2,h3⟩:=h
 have hm:=Nat.mul_le_mul_right t.cells hl
 refine⟨by rw[List.length_take];omega,by rw[List.length_take];omega,fun j y hj=> ?_⟩
 have hj:(xs.take l)[j]? =some y:=hj
 rw[List.getElem?_take] at hj
 split at hj
 case isFalse=>cases hj
 rename_i iJ
 have hk:(j+1)*t.cells<=l*t.cells:=Nat.mul_le_mul_right _ iJ
 rw[Nat.add_mul,Nat.one_mul] at hk
 have e:((cs.take (l*t.cells)).drop (j*t.cells)).take t.cells=(cs.drop (j*t.cells)).take t.cells:=by
  rw[List.drop_take,List.take_take,Nat.min_eq_left (by omega)]
 rw[e]
 exact h3 j y hj
theorem uG{t:Ty}{xs:List (El t)}{n l:Nat}{cs:List Value}(h:aA X (.aL n t) xs cs)(hl:l<=n):aA X (.aL (n-l) t) (xs.drop l:List (El t)) (cs.drop (l*t.cells)):=by
 obtain⟨h1,h2,h3⟩:=h
 refine⟨by rw[List.length_drop];omega,by rw[List.length_drop,Nat.sub_mul];omega,fun j y hj=> ?_⟩
 have hj:(xs.drop l)[j]? =some y:=hj
 rw[List.getElem?_drop] at hj
 rw[List.drop_drop,<-Nat.add_mul]
 exact h3 (l+j) y hj
theorem uY{α:Type}(xs ys:List α)(lo:Nat)(h:lo+ys.length<=xs.length):(cL xs ys lo).length=xs.length:=by
 unfold cL;simp;omega
theorem tH(hE:ag P E)(hr:Rel X s a){d x:Operand}{T e:TypeId}{t:Ty}{ts:Array TypeId}(ho:o.op= .call ⟨.builtin .copy,#[d,x],ts⟩)(fX:ts[0]? =some T)(hT:E.ty T=some (.sl e t)){id n lo:Nat}{ta tb:Ty}{p:List Nat}
 (bM:s.ak d= .ptr id (.aG (.dI n) ta tb) p) (fm:∀r,fp (.aG (.dI n) ta tb) p r (a.eval d)->∃cap off,a.eval d= .slice (some ⟨r,off,none⟩) (n-lo) cap/\lo<=n/\((n=lo/\off=0)\/off=lo*ta.cells))
 (h:cF t s id n lo ta tb (s.ak x) e some=some u):ao P X s a o u:=by
 have hx:=hr.ak d
 rw[bM] at hx
 obtain⟨r0,hβ,hv⟩:=hx
 unfold cF at h
 split at h
 case isFalse=>cases h
 rename_i heq
 have:=Ty.ax heq
 subst this
 obtain⟨ys,h,gS⟩:=zi h
 split at h
 case h_2=>cases h
 rename_i B hB
 split at h
 case isFalse=>cases h
 rename_i cj
 obtain⟨hb,r,h1,how,cs,T',aq,cQ,b7⟩:=kz hr hB cj
 rw[hβ] at h1
 cases h1
 generalize(Ty.cast cj B.x:List (El ta))=xs at*
 cases hn:Nat.beq n (List.length xs)<;>rw[hn] at h
 ·cases h
 cases ke:Nat.ble lo n<;>rw[ke] at h
 ·cases h
 cases h
 have hn:=Nat.eq_of_beq_eq_true hn
 have ke:=Nat.le_of_ble_eq_true ke
 obtain⟨cap,off,hd,_,l7⟩:=fm r0 hv
 obtain⟨cx,eW,ev⟩:=gS X _ _ (hr.ak x)
 have qe:=eW
 obtain⟨A,c,iG,_⟩:=qe
 have ev:a.eval x= .slice A ys.length c:=by rw[ev,iG];rfl
 rw[iG] at eW
 obtain⟨_,hc,cy,ry,ny,sy⟩:=ql (X:=X) eW
 have hu:=(hE.ty T _ hT).bA
 have hm:(ys.take (n-lo)).length=min ys.length (n-lo):=by rw[List.length_take,Nat.min_comm]
 generalize kM:min ys.length (n-lo)=m at hm
 have sM:m<=ys.length:=by omega
 have Bu:m<=n-lo:=by omega
 have wG:ys.take (n-lo)=ys.take m:=by
  rw[<-kM]
  rcases Nat.le_total ys.length (n-lo) with g|g
  ·rw[Nat.min_eq_left g,List.take_of_length_le g,List.take_of_length_le (Nat.le_refl _)]
  ·rw[Nat.min_eq_right g]
 have rz:=uH ry sM
 have pV:(cy.take (m*ta.cells)).length=m*ta.cells:=rz.2.1
 have cu:aA X (.aL xs.length ta) xs cs.toList:=⟨rfl,by simpa using cQ,b7⟩
 have dt:(Builtin.firstCells ta.cells m (a.eval x)).run P X.w= .ok (cy.take (m*ta.cells)).toArray X.w:=by
  rw[ev]
  cases A with
  |none=>
   have:=ny rfl
   subst this
   have:m=0:=by simpa using sM
   subst this
   simp [Builtin.firstCells]
  |some ad=>
   have:=run_loadCells_list (P:=P) X.w ad (cy.take (m*ta.cells)) (fun j v hj=>by
    rw[List.getElem?_take] at hj
    split at hj
    ·exact(sy ad rfl j v hj).2.1
    ·cases hj)
   rw[pV] at this
   simpa [Builtin.firstCells] using this
 have bq:off+0+(cy.take (m*ta.cells)).length<=cs.size:=by
  rw[pV,cQ,<-hn]
  rcases l7 with⟨g1,g2⟩|g
  ·have:m=0:=by omega
   subst this
   omega
  ·rw[g,Nat.add_zero,<-Nat.add_mul]
   exact Nat.mul_le_mul_right _ (by omega)
 let new:=(cs.toList.take off++cy.take (m*ta.cells)++cs.toList.drop (off+(cy.take (m*ta.cells)).length)).toArray
 have bp:=run_storeCells_at P r0 off T' (cy.take (m*ta.cells)) 0 cs X.w aq bq rz.one
 simp only[Nat.add_zero] at bp bq
 have aB:(execOp a.eval o).run P X.w= .ok (.value (.int .i64 m)) (X.row r0 new).w:=by
  have pA:Nat.min ys.length (n-lo)=m:=kM
  simp only[execOp,ho,resolve,invoke,builtin,Sem.run_bind,Sem.run_pure,Result.andThen_ok,List.map_toArray,List.map_cons,List.map_nil,Builtin.copy_,fX,hd]
  have e1:(Builtin.lenOf (a.eval x)).run P X.w= .ok ys.length X.w:=by rw[ev];simp [Builtin.lenOf]
  simp [run_underlying hu.1,e1,pA,dt,bp,goInt,zh hE hu.2]
  show _=X.w.setRow r0 new
  congr 1
  simp [new]
 have ff:new.toList=cs.toList.take off++cy.take (m*ta.cells)++cs.toList.drop (off+(cy.take (m*ta.cells)).length):=rfl
 have av:aA X (.aL xs.length ta) (cL xs (ys.take m) lo:List (El ta)) new.toList:=by
  rw[ff,pV]
  by_cases m0:m=0
  ·subst m0
   have e1:cL xs (ys.take 0) lo=xs:=by unfold cL;simp
   rw[e1]
   simpa using cu
  ·have g:off=lo*ta.cells:=by rcases l7 with⟨g1,_⟩|g<;>omega
   have h1:=uH cu (show lo<=xs.length by omega)
   have h3:=uG cu (show lo+m<=xs.length by omega)
   have:=kS h1 (kS rz h3)
   rw[show lo+(m+(xs.length-(lo+m)))=xs.length by omega] at this
   unfold cL
   rw[show(ys.take m).length=m by rw[List.length_take];omega,g,<-Nat.add_mul,List.append_assoc]
   exact this
 have bB:new.size=cs.size:=by
  have h1:new.toList.length=xs.length*ta.cells:=av.2.1
  rw[cQ,<-h1];simp
 have aU:aH (X.row r0 new) id r0 ⟨.aG .row ta tb,(cL xs (ys.take (n-lo)) lo:List (El ta)),[]⟩:=by
  rw[wG]
  refine⟨how,new,T',setRow_heap X.w r0 cs new T' (0,0) aq,?_,fun j z hj=> ?_⟩
  ·rw[bB,cQ]
   show _=List.length (cL xs (ys.take m) lo)*_
   rw[uY _ _ _ (by rw[List.length_take];omega)]
  ·exact aA.af (fun _ _=>iq (cs:=new) how) (av.2.2 j z hj)
 refine⟨X.row r0 new,.int .i64 m,.inl aB,n7 how,?_⟩
 rw[hm]
 exact(hr.row hb hβ how aU).fin zg (fun id t p hm=>by simp [i64] at hm)
theorem yq{X:ah}(l:List UInt8):aA X (.aL l.length (.int .u8)) (l.map fun c=>(c.toNat:Int):List Int) (l.map fun c=>Value.int .u8 c.toNat):=by
 refine⟨by show(l.map _).length=_;simp,by simp [Ty.cells],fun j y hj=> ?_⟩
 have hj:(l.map fun c=>(c.toNat:Int))[j]? =some y:=hj
 rw[List.getElem?_map] at hj
 obtain⟨c,hc,rfl⟩:=Option.map_eq_some_iff.1 hj
 have:((l.map fun c=>Value.int .u8 c.toNat).drop (j*(Ty.int IntKind.u8).cells)).take (Ty.int IntKind.u8).cells=[Value.int .u8 c.toNat]:=by
  rw[show(Ty.int IntKind.u8).cells=1 from rfl,Nat.mul_one]
  apply List.ext_getElem?
  intro i
  rw[List.getElem?_take]
  cases i with
  |zero=>simp [hc]
  |succ i=>simp
 rw[this]
 rfl
theorem xV(hE:ag P E)(hr:Rel X s a){d x:Operand}{T e:TypeId}{t:Ty}{ts:Array TypeId}(ho:o.op= .call ⟨.builtin .copy,#[d,x],ts⟩)(fX:ts[0]? =some T)(hT:E.ty T=some (.sl e t)){id n:Nat}{ta tb:Ty}
 (bM:s.ak d= .ptr id (.aG (.dI n) ta tb) []) {y:ByteArray} {w:List (List Nat)} (mn:s.ak x= .al .str y w) (h:dp t s id n ta tb y some=some u):ao P X s a o u:=by
 have hx:=hr.ak d
 rw[bM] at hx
 obtain⟨r0,hβ,cap,hd,eK⟩:=hx
 unfold dp at h
 split at h
 case isFalse=>cases h
 rename_i pj
 have:=Ty.ax pj
 subst this
 split at h
 case isFalse=>cases h
 rename_i heq
 have:=Ty.ax heq
 subst this
 split at h
 case h_2=>cases h
 rename_i B hB
 split at h
 case isFalse=>cases h
 rename_i cj
 obtain⟨hb,r,h1,how,cs,T',aq,cQ,b7⟩:=kz hr hB cj
 rw[hβ] at h1
 cases h1
 generalize(Ty.cast cj B.x:List Int)=xs at*
 cases hn:Nat.beq n (List.length xs)<;>rw[hn] at h
 ·cases h
 cases h
 have hn:=Nat.eq_of_beq_eq_true hn
 have hy:=hr.ak x
 rw[mn] at hy
 obtain⟨cy,ry,ev,_⟩:=hy
 have ev:a.eval x= .string y:=by rw[ev,zw ry]
 have hu:=(hE.ty T _ hT).bA
 have hP:(Ty.int IntKind.u8).cells=1:=rfl
 rw[hP,Nat.mul_one] at cQ
 let l:=y.data.toList.take n
 have nt:l.length=min n y.size:=by simp [l]
 have nm:List.take n (lj y)=l.map fun c=>(c.toNat:Int):=by simp [lj,l]
 have dt:(Builtin.firstCells 1 (Nat.min y.size n) (.string y)).run P X.w= .ok (l.map fun c=>Value.int .u8 c.toNat).toArray X.w:=by
  have e1:((y.extract 0 (Nat.min y.size n)).data.map fun b=>Value.int .u8 b.toNat)=(l.map fun c=>Value.int .u8 c.toNat).toArray:=by
   apply Array.ext'
   have e0:(y.extract 0 (Nat.min y.size n)).data.toList=l:=by
    rw[ByteArray.data_extract,Array.toList_extract,List.extract_eq_take_drop]
    show List.take (Nat.min y.size n-0) (y.data.toList.drop 0)=y.data.toList.take n
    rw[Nat.sub_zero,List.drop_zero]
    show List.take (min y.data.toList.length n) y.data.toList=y.data.toList.take n
    rw[Nat.min_comm,<-List.take_eq_take_min]
   rw[Array.toList_map,e0]
  simp only[Builtin.firstCells,Sem.run_pure,e1]
 have bq:0+(l.map fun c=>Value.int .u8 c.toNat).length<=cs.size:=by
  rw[List.length_map,cQ,<-hn,nt];omega
 let new:=((l.map fun c=>Value.int .u8 c.toNat)++cs.toList.drop l.length).toArray
 have rz:=yq (X:=X) l
 have bp:=run_storeCells_at P r0 0 T' (l.map fun c=>Value.int .u8 c.toNat) 0 cs X.w aq (by simpa using bq) rz.one
 have aB:(execOp a.eval o).run P X.w= .ok (.value (.int .i64 (l.length:Nat))) (X.row r0 new).w:=by
  have e1:(Builtin.lenOf (a.eval x)).run P X.w= .ok y.size X.w:=by rw[ev];simp [Builtin.lenOf]
  have e2:Nat.min y.size n=l.length:=by rw[nt];exact Nat.min_comm _ _
  have e3:=dt
  rw[e2] at e3
  simp only[execOp,ho,resolve,invoke,builtin,Sem.run_bind,Sem.run_pure,Result.andThen_ok,List.map_toArray,List.map_cons,List.map_nil,Builtin.copy_,fX,hd]
  rw[ev] at e1⊢
  simp [run_underlying hu.1,e1,e2,e3,bp,goInt,zh hE hu.2,hP]
  rfl
 have cu:aA X (.aL xs.length (.int .u8)) xs cs.toList:=⟨rfl,by simpa [hP] using cQ,b7⟩
 have av:aA X (.aL xs.length (.int .u8)) (cL xs (l.map fun c=>(c.toNat:Int)) 0:List Int) new.toList:=by
  have hle:l.length<=xs.length:=by rw[nt];omega
  have h3:=uG cu hle
  have:=kS rz h3
  rw[show l.length+(xs.length-l.length)=xs.length by omega] at this
  unfold cL
  simp only[List.take_zero,List.nil_append,Nat.zero_add,List.length_map]
  rw[hP,Nat.mul_one] at this
  exact this
 have bB:new.size=cs.size:=by
  have h1:new.toList.length=xs.length*1:=av.2.1
  rw[cQ];simpa using h1
 have aU:aH (X.row r0 new) id r0 ⟨.aG .row (.int .u8) tb,(cL xs (List.take n (lj y)) 0:List Int),[]⟩:=by
  rw[nm]
  refine⟨how,new,T',setRow_heap X.w r0 cs new T' (0,0) aq,?_,fun j z hj=> ?_⟩
  ·rw[bB,cQ]
   show _=List.length (cL xs (l.map fun c=>(c.toNat:Int)) 0)*_
   rw[uY _ _ _ (by rw[List.length_map,nt];omega)]
   simp [hP]
  ·exact aA.af (fun _ _=>iq (cs:=new) how) (av.2.2 j z hj)
 refine⟨X.row r0 new,.int .i64 (l.length:Nat),.inl aB,n7 how,?_⟩
 have lZ:(List.take n (lj y)).length=l.length:=by rw[nm,List.length_map]
 rw[lZ]
 exact(hr.row hb hβ how aU).fin zg (fun id t p hm=>by simp [i64] at hm)
theorem yB(hE:ag P E)(hr:Rel X s a){ops:List Oper}{bS:Array Operand}{ts:Array TypeId}(ho:o.op= .call ⟨.builtin .copy,bS,ts⟩){C:FuncId->aK Out}(h:act E C ops o s some=some u):ao P X s a o u:=by
 unfold act at h
 simp only[ho] at h
 split at h
 case h_2=>cases h
 rename_i d x T r gR j7
 have has:bS= #[d,x]:=by rw[<-Array.toArray_toList (xs:=bS),gR]
 have fX:ts[0]? =some T:=by rw[<-Array.getElem?_toList,j7];rfl
 subst has
 unfold copyV at h
 split at h
 ·rename_i e t id n ta tb hT bM
  split at h
  ·rename_i y w mn
   exact xV hE hr ho fX hT bM mn h
  ·exact tH hE hr ho fX hT bM (fun r hv=>by
    obtain⟨cap,h1,h2⟩:=hv
    exact⟨cap,0,h1,Nat.zero_le _,.inr (by simp)⟩) h
 ·rename_i e t id n ta tb l hT bM
  exact tH hE hr ho fX hT bM (fun r hv=>by
   obtain⟨cap,off,h1,h2,h3,h4⟩:=hv
   exact⟨cap,off,h1,h3,h4⟩) h
 ·cases h
end Go.Ref

