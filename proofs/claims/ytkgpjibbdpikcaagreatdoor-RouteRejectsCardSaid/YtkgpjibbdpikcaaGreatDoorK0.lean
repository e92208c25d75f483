/- No condition. -/
import Derived.Orders
import Derived.Below
import Derived.Maps.AppendAt
import Derived.WalkKit
import Derived.Lib.AppendStr
import Derived.Shelf.Strings.BuilderF
import Derived.WideKeyRuns
import Derived.MapKept
set_option linter.unusedVariables false
set_option linter.unusedSimpArgs false
set_option maxRecDepth 100000
namespace Go.Ref
open Go
structure rY(T e:TypeId)(b:Nat)(v:Value)(bs:List Value)(w:World):Prop where
 l7:w.heap[b]? =some (.cells #[.pointer none,v] T (0,0))\/w.heap[b]? =some (.cells #[.pointer (some ⟨b,0,none⟩),v] T (0,0))
 own:w.ownsRow 0 e 1 v bs.length bs
 ne:v.ownBlock≠some b
theorem rY.lt{T e:TypeId}{b:Nat}{v:Value}{bs:List Value}{w:World}(h:rY T e b v bs w):b<w.heap.size:=by
 rcases Nat.lt_or_ge b w.heap.size with h'|h'
 ·exact h'
 ·rcases h.l7 with h|h<;>simp [Array.getElem?_eq_none h'] at h
theorem rY.same{T e:TypeId}{b:Nat}{v:Value}{bs:List Value}{w w':World}(h:rY T e b v bs w)(hb:w'.heap[b]? =w.heap[b]?)(hg:∀g o,v.ownBlock=some g->w.heap[g]? =some o->w'.heap[g]? =some o):rY T e b v bs w':=by
 refine⟨by rw[hb];exact h.l7,⟨h.own.1,?_⟩,h.ne⟩
 rcases h.own.2 with hn|⟨g,cap,cur,hv,h0,yG,rest⟩
 ·exact .inl hn
 ·exact .inr ⟨g,cap,cur,hv,h0,hg g _ (by rw[hv];rfl) yG,rest⟩
inductive PC where
 |iter
 |mp
 |row
 |fO (n:Nat)
 |fw (T e:Nat)
 |own
 |pD (f:Nat)
 deriving DecidableEq,Inhabited
@[reducible] def s6:PC->Type->Type->Type
  | .iter,_,_=>ByteArray×Nat
  | .mp,a,b=>List (a×b)
  | .row,a,_=>List a
  | .fO _,_,_=>Unit
  | .fw _ _,_,_=>ByteArray
  | .own,a,_=>Option a
  | .pD _,_,_=>Unit
def s6.bI:(k:PC)->(a b:Type)->s6 k a b
 | .iter,_,_=>((⟨#[]⟩:ByteArray),(0:Nat))
 | .mp,_,_=>[]
 | .row,_,_=>[]
 | .fO _,_,_=>()
 | .fw _ _,_,_=>(⟨#[]⟩:ByteArray)
 | .own,_,_=>none
 | .pD _,_,_=>()
inductive Ty where
 |bool
 |int (k:IntKind)
 |str
 |sl (e:TypeId) (t:Ty)
 |arr (n:Nat) (t:Ty)
 |unit
 |pair (a b:Ty)
 |aT (k:PC) (a b:Ty)
 deriving Inhabited
@[reducible] def El:Ty->Type
  | .bool=>Bool
  | .int _=>Int
  | .str=>ByteArray
  | .sl _ t=>List (El t)
  | .arr _ t=>List (El t)
  | .unit=>Unit
  | .pair a b=>El a×El b
  | .aT k a b=>s6 k (El a) (El b)
def El.bI:(t:Ty)->El t
 | .bool=>false
 | .int _=>(0:Int)
 | .str=>(⟨#[]⟩:ByteArray)
 | .sl _ _=>[]
 | .arr n t=>List.replicate n (El.bI t)
 | .unit=>()
 | .pair a b=>(El.bI a,El.bI b)
 | .aT k a b=>s6.bI k (El a) (El b)
def Ty.b7:Ty->Ty->Bool
 | .bool,.bool=>true
 | .str,.str=>true
 | .unit,.unit=>true
 | .int j,.int k=>decide (j=k)
 | .sl e t,.sl f u=>Nat.beq e f&&Ty.b7 t u
 | .arr n t,.arr m u=>Nat.beq n m&&Ty.b7 t u
 | .pair a b,.pair c d=>Ty.b7 a c&&Ty.b7 b d
 | .aT k a b,.aT j c d=>decide (k=j)&&(Ty.b7 a c&&Ty.b7 b d)
 |_,_=>false
theorem Ty.aH:∀{t u:Ty},t.b7 u=true->t=u:=by
 intro t
 induction t with
 |bool=>intro u h;cases u<;>simp_all [Ty.b7]
 |int k=>intro u h;cases u<;>simp_all [Ty.b7]
 |str=>intro u h;cases u<;>simp_all [Ty.b7]
 |unit=>intro u h;cases u<;>simp_all [Ty.b7]
 |sl e t ih=>
  intro u h
  cases u<;>simp [Ty.b7] at h
  obtain⟨h1,h2⟩:=h
  rw[ih h2,h1]
 |arr e t ih=>
  intro u h
  cases u<;>simp [Ty.b7] at h
  obtain⟨h1,h2⟩:=h
  rw[ih h2,h1]
 |pair a b kz kA=>
  intro u h
  cases u<;>simp [Ty.b7] at h
  rw[kz h.1,kA h.2]
 |aT k a b kz kA=>
  intro u h
  cases u<;>simp [Ty.b7] at h
  rw[h.1,kz h.2.1,kA h.2.2]
theorem Ty.bJ:∀t:Ty,t.b7 t=true
 | .bool=>rfl
 | .str=>rfl
 | .unit=>rfl
 | .int k=>by simp [Ty.b7]
 | .sl e t=>by simp [Ty.b7,Ty.bJ t]
 | .arr e t=>by simp [Ty.b7,Ty.bJ t]
 | .pair a b=>by simp [Ty.b7,Ty.bJ a,Ty.bJ b]
 | .aT k a b=>by simp [Ty.b7,Ty.bJ a,Ty.bJ b]
def Ty.cast{t u:Ty}(h:t.b7 u=true)(x:El t):El u:=Ty.aH h▸x
def Ty.cells:Ty->Nat
 | .arr n t=>n*t.cells
 | .unit=>0
 | .pair a b=>a.cells+b.cells
 | .aT _ _ _=>0
 |_=>1
def Ty.agg:Ty->Bool
 | .arr .. | .unit| .pair .. | .aT .. =>true
 |_=>false
def Ty.at_:Ty->List Nat->Option Ty
 |t,[]=>some t
 | .arr _ t,_::p=>t.at_ p
 | .pair a _,0::p=>a.at_ p
 | .pair _ b,(j+1)::p=>b.at_ (j::p)
 |_,_=>none
def Ty.off:Ty->List Nat->Nat
 |_,[]=>0
 | .arr _ t,i::p=>i*t.cells+t.off p
 | .pair a _,0::p=>a.off p
 | .pair a b,(j+1)::p=>a.cells+b.off (j::p)
 |_,_=>0
def El.get:(t:Ty)->List Nat->El t->Option ((u:Ty)×El u)
 |t,[],x=>some ⟨t,x⟩
 | .arr _ t,i::p,xs=>El.get t p (xs.getD i (El.bI t))
 | .pair a _,0::p,x=>El.get a p x.1
 | .pair _ b,(j+1)::p,x=>El.get b (j::p) x.2
 |_,_::_,_=>none
def El.set:(t:Ty)->List Nat->El t->(u:Ty)->El u->Option (El t)
 |t,[],_,u,y=>if h:u.b7 t=true then some (Ty.cast h y) else none
 | .arr _ t,i::p,xs,u,y=>(El.set t p (xs.getD i (El.bI t)) u y).map fun z=>List.set xs i z
 | .pair a _,0::p,x,u,y=>(El.set a p x.1 u y).map fun z=>(z,x.2)
 | .pair _ b,(j+1)::p,x,u,y=>(El.set b (j::p) x.2 u y).map fun z=>(x.1,z)
 |_,_::_,_,_,_=>none
def Ty.eH:Ty->List Nat->Prop
 |_,[]=>True
 | .arr n t,i::p=>i<n/\t.eH p
 | .pair a _,0::p=>a.eH p
 | .pair _ b,(j+1)::p=>b.eH (j::p)
 |_,_=>False
inductive Place where
 |c (i j:Nat) (p:List Nat)
 |b (id:Nat) (p:List Nat)
 |r (j:Nat) (p:List Nat)
inductive Ow where
 |all
 |ro (n:Nat)
 |box (id:Nat)
 |row (pl:Place) (n:Nat)
def Ow.used:Ow->Nat->Prop
 | .all,_=>True
 | .ro n,o=>o<n
 | .box _,_=>False
 | .row _ n,o=>o<n
def Ow.still:Ow->Prop
 | .all| .ro _=>True
 |_=>False
structure ap where
 w:World
 ow:Nat->Ow
 β:Nat->Option Nat
def ap.av(X:ap)(a:Addr)(v:Value):Prop:=a.spot=none/\X.w.cell? a=some v/\(X.ow a.block).used a.off
structure Ext(X Y:ap):Prop where
 av:∀a v,X.av a v->Y.av a v
 size:X.w.heap.size<=Y.w.heap.size
 os:Y.w.os=X.w.os
 tape:Y.w.tape=X.w.tape
 output:Y.w.output=X.w.output
 β0:Y.β 0=X.β 0
 still:∀g,g<X.w.heap.size->(X.ow g).still->Y.ow g=X.ow g/\Y.w.heap[g]? =X.w.heap[g]?
theorem Ext.refl(X:ap):Ext X X:=⟨fun _ _ h=>h,Nat.le_refl _,rfl,rfl,rfl,rfl,fun _ _ _=>⟨rfl,rfl⟩⟩
theorem Ext.trans{X Y Z:ap}(h:Ext X Y)(k:Ext Y Z):Ext X Z:=
 ⟨fun a v hs=>k.av a v (h.av a v hs),Nat.le_trans h.size k.size,k.os.trans h.os,k.tape.trans h.tape,k.output.trans h.output,k.β0.trans h.β0,
  fun g hg cp=>by
   obtain⟨h1,h2⟩:=h.still g hg cp
   obtain⟨k1,k2⟩:=k.still g (Nat.lt_of_lt_of_le hg h.size) (by rw[h1];exact cp)
   exact⟨k1.trans h1,k2.trans h2⟩⟩
theorem ap.gy{X:ap}{a:Addr}{v:Value}(h:X.av a v):a.block<X.w.heap.size:=World.block_lt_of_cell? X.w a h.2.1
def aR(X:ap):(t:Ty)->El t->List Value->Prop
 | .bool,b,cs=>cs=[.bool b]
 | .int k,n,cs=>cs=[.int k n]
 | .str,s,cs=>cs=[.string s]
 | .sl _ t,xs,cs=>∃A c,cs=[.slice A xs.length c]/\xs.length<=c/\
    ∀j x,xs[j]? =some x->∃ad dM,A=some ad/\ad.spot=none/\aR X t x dM/\∀i v,dM[i]? =some v->X.av (ad.add (j*t.cells+i)) v
 | .arr n t,xs,cs=>xs.length=n/\cs.length=n*t.cells/\∀j x,xs[j]? =some x->aR X t x ((cs.drop (j*t.cells)).take t.cells)
 | .unit,_,cs=>cs=[]
 | .pair a b,x,cs=>∃c1 c2,cs=c1++c2/\aR X a x.1 c1/\aR X b x.2 c2
 | .aT _ _ _,_,cs=>cs=[]
theorem aR.al{X Y:ap}(h:∀a v,X.av a v->Y.av a v):∀{t:Ty} {x:El t} {cs:List Value},aR X t x cs->aR Y t x cs
 | .bool,_,_,hr=>hr
 | .int _,_,_,hr=>hr
 | .str,_,_,hr=>hr
 | .unit,_,_,hr=>hr
 | .sl _ t,xs,cs,⟨A,c,h1,h2,h3⟩=>⟨A,c,h1,h2,fun j x hj=>by
    obtain⟨ad,dM,h4,h5,h6,h7⟩:=h3 j x hj
    exact⟨ad,dM,h4,h5,aR.al h h6,fun i v hi=>h _ _ (h7 i v hi)⟩⟩
 | .arr n t,xs,cs,⟨h1,h2,h3⟩=>⟨h1,h2,fun j x hj=>aR.al h (h3 j x hj)⟩
 | .pair a b,x,cs,⟨c1,c2,h1,h2,h3⟩=>⟨c1,c2,h1,aR.al h h2,aR.al h h3⟩
 | .aT _ _ _,_,_,hr=>hr
theorem aR.mono{X Y:ap}(h:Ext X Y){t:Ty}{x:El t}{cs:List Value}(hr:aR X t x cs):aR Y t x cs:=aR.al h.av hr
theorem aR.len{X:ap}:∀{t:Ty} {x:El t} {cs:List Value},aR X t x cs->cs.length=t.cells
 | .bool,_,_,hr=>by cases hr;rfl
 | .int _,_,_,hr=>by cases hr;rfl
 | .str,_,_,hr=>by cases hr;rfl
 | .unit,_,_,hr=>by cases hr;rfl
 | .sl _ t,xs,cs,⟨A,c,h1,_⟩=>by cases h1;rfl
 | .arr n t,xs,cs,⟨h1,h2,h3⟩=>h2
 | .pair a b,x,cs,⟨c1,c2,h1,h2,h3⟩=>by rw[h1,List.length_append,h2.len,h3.len];rfl
 | .aT _ _ _,_,_,hr=>by cases hr;rfl
theorem zyi{cs:List Value}{n k:Nat}{u:Value}(hu:u∈cs)(hk:cs.length=n*k):∃j,j<n/\u∈(cs.drop (j*k)).take k:=by
 obtain⟨q,hq,rfl⟩:=List.mem_iff_getElem.1 hu
 have Ez:0<k:=by
  rcases Nat.eq_zero_or_pos k with h|h
  ·subst h;simp at hk;subst hk;simp at hq
  ·exact h
 refine⟨q/k,by rw[Nat.div_lt_iff_lt_mul Ez,<-hk];exact hq,?_⟩
 rw[List.mem_iff_getElem?]
 refine⟨q % k,?_⟩
 rw[List.getElem?_take,if_pos (Nat.mod_lt _ Ez),List.getElem?_drop,Nat.mul_comm,Nat.div_add_mod,List.getElem?_eq_getElem hq]
theorem aR.one{X:ap}:∀{t:Ty} {x:El t} {cs:List Value},aR X t x cs->∀u∈cs,u.oneCell'=true
 | .bool,_,_,hr,u,hu=>by cases hr;simp at hu;subst hu;rfl
 | .int _,_,_,hr,u,hu=>by cases hr;simp at hu;subst hu;rfl
 | .str,_,_,hr,u,hu=>by cases hr;simp at hu;subst hu;rfl
 | .unit,_,_,hr,u,hu=>by cases hr;simp at hu
 | .sl _ t,xs,cs,⟨A,c,h1,_⟩,u,hu=>by cases h1;simp at hu;subst hu;rfl
 | .arr n t,xs,cs,⟨h1,h2,h3⟩,u,hu=>by
   obtain⟨j,hj,hm⟩:=zyi hu h2
   exact aR.one (h3 j _ (List.getElem?_eq_getElem (by omega))) u hm
 | .pair a b,x,cs,⟨c1,c2,h1,h2,h3⟩,u,hu=>by
   rw[h1] at hu
   rcases List.mem_append.1 hu with hu|hu
   ·exact h2.one u hu
   ·exact h3.one u hu
 | .aT _ _ _,_,_,hr,u,hu=>by cases hr;simp at hu
end Go.Ref

namespace Go.Ref
open Go Go.Shelf Go.RowKit Go.Proofs
variable {P:Program} {ρ:Ren}
structure fq(b:Nat)(g:Option Nat)(w w':World):Prop where
 os:w'.os=w.os
 tape:w'.tape=w.tape
 output:w'.output=w.output
 size:w.heap.size<=w'.heap.size
 block:∀k,k<w.heap.size->k≠b->some k≠g->w'.heap[k]? =w.heap[k]?
theorem fq.of{b:Nat}{g:Option Nat}{w w':World}(h:w.grownBy w' g):fq b g w w':=⟨h.os,h.tape,h.output,h.size,fun k hk _ hg=>h.block k hk hg⟩
theorem fq.trans{b:Nat}{g:Option Nat}{u v w:World}(h:fq b g u v)(k:fq b g v w):fq b g u w:=
 ⟨k.os.trans h.os,k.tape.trans h.tape,k.output.trans h.output,Nat.le_trans h.size k.size,fun i hi h1 h2=>(k.block i (Nat.lt_of_lt_of_le hi h.size) h1 h2).trans (h.block i hi h1 h2)⟩
theorem fq.refl{b:Nat}{g:Option Nat}(w:World):fq b g w w:=⟨rfl,rfl,rfl,Nat.le_refl _,fun _ _ _ _=>rfl⟩
theorem fq.setCell{b:Nat}{g:Option Nat}(w:World)(a:Addr)(ha:a.block=b)(u:Value):fq b g w (w.setCell a u):=
 ⟨rfl,rfl,rfl,by simp [World.setCell],fun k _ hk _=>Below.heap_setCell _ _ _ _ (by rw[ha];exact hk)⟩
theorem U2{w:World}(t u ty e:TypeId)(i:TypeInfo)(ht:P.underlying t=some (.slice e))(hu:P.underlying u=some .string)(hi:P.info? e=some i)(hz:i.zero=some (.int .u8 0))(b8:i.size=1)(l9:i.bytes=1)
 (v:Value) (n:Nat) (xs:List Value) (bM:w.ownsRow 0 e 1 v n xs) (s:ByteArray) (wF:n+s.size<=maxLen) (eW:n+s.size<=140737488355328) {v':Value} {w':World}
 (h:(Builtin.append_ #[t,u] ty #[v,.string s]).run P w= .ok v' w'):∀g,v'.ownBlock=some g->v.ownBlock=some g\/g=w.heap.size:=by
 have wX:xs.length=n:=by simpa using bM.1
 have q9:n+s.size<=9223372036854775807:=by simp only[maxLen] at wF;omega
 intro g0 yF
 rcases bM.2 with⟨rfl,rfl⟩|⟨g,cap,cur,rfl,PY,hg,EG,pE,du,lK⟩
 ·by_cases hm:s.size=0
  ·have hf:=Lib.run_firstCells_string (P:=P) w 1 s
   rw[hm] at hf
   simp [Builtin.append_,run_underlying ht,run_underlying hu,sizeOf,typeInfo,hi,b8,Builtin.lenOf,hm,hf] at h
   rw[<-h.1] at yF
   simp [Value.ownBlock] at yF
  ·have hr:=run_append_nil_string (P:=P) w t u ty e i (.int .u8 0) ht hu hi hz s (by omega) (by omega) (by rw[l9];omega)
   rw[hr] at h
   cases h
   simp [Value.ownBlock] at yF
   exact .inr yF.symm
 ·by_cases lI:n+s.size<=cap
  ·have adf:cur.size=cap:=by simpa using du
   have hr:=Lib.run_append_room_string (P:=P) w t u ty e i ht hu hi b8 g n cap cur hg s lI (by omega)
   rw[hr] at h
   cases h
   exact .inl yF
  ·have holds:∀j u,xs[j]? =some u->w.cell? ((⟨g,0,none⟩:Addr).add j)=some u:=bM.cells (g:=g) rfl
   have hr:=Lib.run_append_grow_string (P:=P) w t u ty e i (.int .u8 0) ht hu hi hz ⟨g,0,none⟩ n cap xs (by rw[b8];simpa using wX) holds s (by omega) (by omega) (by rw[l9];exact growslice_fits (by omega) (by omega))
   rw[hr] at h
   cases h
   simp [Value.ownBlock] at yF
   exact .inr yF.symm
theorem TO{ops:Array Oper}{rest:List Oper}{o:Oper}{a:Act}{w:World}{Q:Exit->Act->World->Prop}(A8:o.guard=none)(sl x:Operand)(t u:TypeId)
 (ho:o.op= .call {callee:= .builtin .append,args:= #[sl,x],argTypes:= #[t,u]})
 (e:TypeId) (i:TypeInfo) (ht:P.underlying t=some (.slice e)) (hu:P.underlying u=some .string) (hi:P.info? e=some i) (hz:i.zero=some (.int .u8 0))
 (b8:i.size=1) (l9:i.bytes=1)
 (v:Value) (n:Nat) (xs:List Value) (hs:a.eval sl=v) (bM:w.ownsRow 0 e 1 v n xs) (s:ByteArray) (hx:a.eval x= .string s)
 (wF:n+s.size<=maxLen) (eW:n+s.size<=140737488355328)
 (h:∀v' w',w'.ownsRow 0 e 1 v' (n+s.size) (xs++Lib.strCells s)->w.grownBy w' v.ownBlock->(∀g,v'.ownBlock=some g->v.ownBlock=some g\/g=w.heap.size)->wpList P ops Q rest (a.put o.dst v') w'):wpList P ops Q (o::rest) a w:=by
 refine wpList_plain A8 fun K hK=> ?_
 obtain⟨v',w',hr,h2,h3,h4⟩:=Lib.run_append_own_string (P:=P) w 0 t u o.type e i ht hu hi hz b8 l9 v n xs bM s wF eW (Nat.zero_le _)
 unfold Oper.wp execOp
 simp only[ho,resolve,invoke,builtin,Sem.run_bind,Sem.run_pure,Result.andThen_ok,List.map_toArray,List.map_cons,List.map_nil,hs,hx,hr]
 exact hK _ _ (h v' w' h2 h3 (U2 t u o.type e i ht hu hi hz b8 l9 v n xs bM s wF eW hr))
theorem Vc(L:Lays.n240 P ρ)(X:Builder.X72 P ρ)(b:Nat)(v:Value)(bs:List Value)(w:World)(h:rY (ρ.t 72) (ρ.t 5) b v bs w):
 Calls P (ρ.f 240) #[.pointer (some ⟨b,0,none⟩)] w fun e w'=>e= .returned (.tuple #[])/\(w'.heap[b]? =some (.cells #[.pointer (some ⟨b,0,none⟩),v] (ρ.t 72) (0,0))/\w'.ownsRow 0 (ρ.t 5) 1 v bs.length bs)/\(fq b none w w'/\w'.heap.size=w.heap.size):=by
 rcases h.l7 with hb|hb
 ·have hA:Lib.BuilderAt (ρ.t 72) (ρ.t 5) 0 b (.pointer none) bs w:=⟨Nat.zero_le _,v,hb,h.own,h.ne⟩
  refine(Any.Builder_copyCheck_fresh L X b w hA.cell0 hA.shape hA.frozen0).mono ?_
  rintro e w' ⟨rfl,rfl⟩
  have hu:=hA.used (.pointer (some ⟨b,0,none⟩))
  obtain⟨_,v',yx,lF,_⟩:=hu
  have hv:v'=v:=by
   have:(w.setCell ⟨b,0,none⟩ (.pointer (some ⟨b,0,none⟩))).heap[b]? =some (.cells #[.pointer (some ⟨b,0,none⟩),v] (ρ.t 72) (0,0)):=heap_setCell_same w b 0 _ _ _ hb
   rw[yx] at this
   simp at this
   exact this
  subst hv
  exact⟨rfl,⟨yx,lF⟩,fq.setCell w ⟨b,0,none⟩ rfl _,by simp [World.setCell]⟩
 ·have hA:Lib.BuilderAt (ρ.t 72) (ρ.t 5) 0 b (.pointer (some ⟨b,0,none⟩)) bs w:=⟨Nat.zero_le _,v,hb,h.own,h.ne⟩
  refine(Any.Builder_copyCheck_used L X b w hA.cell0).mono ?_
  rintro e w' ⟨rfl,rfl⟩
  exact⟨rfl,⟨hb,h.own⟩,fq.refl _,rfl⟩
set_option maxHeartbeats 2000000 in
set_option maxRecDepth 100000 in
theorem Vd(L:Lays.n166 P ρ)(X:Builder.Extra P ρ)(b:Nat)(v0:Value)(bs:List Value)(s:ByteArray)(w:World)(h:rY (ρ.t 72) (ρ.t 5) b v0 bs w)(hlen:bs.length+s.size<=140737488355328):
 Calls P (ρ.f 166) #[.pointer (some ⟨b,0,none⟩),.string s] w fun e w'=>e= .returned (.tuple #[.int .i64 s.size,.nilIface])/\∃v',rY (ρ.t 72) (ρ.t 5) b v' (bs++Lib.strCells s) w'/\fq b v0.ownBlock w w'/\∀g,v'.ownBlock=some g->v0.ownBlock=some g\/w.heap.size<=g:=by
 obtain⟨i0,hi,E1,Qz,QA⟩:=info_parts X.infoByte
 have ar:=h.lt
 have mixed:=L.mixed
 have t72:=L.t72;have a72:=L.a72;have z72:=L.z72;have v72:=L.v72;have u72:=run_underlying L.t72
 have t70:=L.t70;have a70:=L.a70;have z70:=L.z70;have v70:=L.v70;have u70:=run_underlying L.t70
 have t37:=L.t37;have a37:=L.a37;have z37:=L.z37;have v37:=L.v37;have u37:=run_underlying L.t37
 have t3:=L.t3;have a3:=L.a3;have z3:=L.z3;have v3:=L.v3;have u3:=run_underlying L.t3
 have t9:=L.t9;have a9:=L.a9;have z9:=L.z9;have v9:=L.v9;have u9:=run_underlying L.t9
 have t4:=L.t4;have a4:=L.a4;have z4:=L.z4;have v4:=L.v4;have u4:=run_underlying L.t4
 have t164:=L.t164;have a164:=L.a164;have z164:=L.z164;have v164:=L.v164;have adj:=run_underlying L.t164
 have t5:=X.t5;have a5:=X.a5;have z5:=X.z5;have v5:=X.v5;have u5:=run_underlying X.t5
 have adb:∀args w,(callFunc (ρ.f 240) args).run P w= .ok (.enter (ρ.f 240) args) w:=enters_of L.f240 (by kernel_rfl) rfl
 go_enter L.f166,Body.n166_ntmps ρ
 go_wp2_with (go_at_fn (ρ.f 240);refine(Vc {L with} X.toX72 b v0 bs _ h).mono ?_)
 rintro e w1 ⟨rfl,⟨ub,bM⟩,sf,EV⟩
 have bZ:=h.ne
 have c0:w1.cell? ⟨b,0,none⟩=some (.pointer (some ⟨b,0,none⟩)):=by rw[Lib.cell_of_heap ub];rfl
 have c1:w1.cell? ⟨b,1,none⟩=some v0:=by rw[Lib.cell_of_heap ub];rfl
 go_wp2_with (at_builtin;refine TO rfl _ _ (ρ.t 37) (ρ.t 9) rfl (ρ.t 5) i0 L.t37 L.t9 hi E1 Qz QA _ _ _ rfl bM s rfl ?c3 ?c4 ?_)
 case c3=>unfold maxLen;omega
 case c4=>omega
 intro v' w2 lF wN jE
 have mL:b<w1.heap.size:=by rw[EV];exact ar
 have qI:w2.heap[b]? =some (.cells #[.pointer (some ⟨b,0,none⟩),v0] (ρ.t 72) (0,0)):=by
  rw[wN.block b mL (fun e=>bZ e.symm)]
  exact ub
 have d0:w2.cell? ⟨b,0,none⟩=some (.pointer (some ⟨b,0,none⟩)):=by rw[Lib.cell_of_heap qI];rfl
 have d1:w2.cell? ⟨b,1,none⟩=some v0:=by rw[Lib.cell_of_heap qI];rfl
 have f1:w2.frozen? ⟨b,1,none⟩=false:=Lib.frozen_of_heap qI 1
 obtain⟨ao,n',cap,rfl⟩:∃ao n' cap,v'= .slice ao n' cap:=by
  rcases lF.2 with⟨hv,_⟩|⟨g,cap,cur,hv,_⟩
  ·exact⟨_,_,_,hv⟩
  ·exact⟨_,_,_,hv⟩
 go_wp2
 go_ret2
 have EH:(Value.slice ao n' cap).ownBlock≠some b:=fun e=>by
  rcases jE b e with h1|h1
  ·exact bZ h1
  ·omega
 have eY:(w2.setCell ⟨b,1,none⟩ (.slice ao n' cap)).heap[b]? =some (.cells #[.pointer (some ⟨b,0,none⟩),.slice ao n' cap] (ρ.t 72) (0,0)):=heap_setCell_same w2 b 1 _ _ _ qI
 refine⟨rfl,_,⟨.inr eY,?_,EH⟩,?_,fun g hg=> ?_⟩
 ·have hl:(bs++Lib.strCells s).length=bs.length+s.size:=by rw[List.length_append,Lib.strCells_length]
  rw[hl]
  refine⟨lF.1,?_⟩
  rcases lF.2 with hn|⟨g,tT,cur,hv,PY,hg,rest⟩
  ·exact .inl hn
  ·refine .inr ⟨g,tT,cur,hv,PY,?_,rest⟩
   rw[Below.heap_setCell _ _ _ _ (fun e=>EH (by rw[hv,Value.ownBlock];exact congrArg some e))]
   exact hg
 ·refine fq.trans ⟨sf.os,sf.tape,sf.output,sf.size,fun k hk h1 h2=>sf.block k hk h1 (by simp)⟩ (fq.trans (fq.of wN) (fq.setCell w2 ⟨b,1,none⟩ rfl _))
 ·rcases jE g hg with h1|h1
  ·exact .inl h1
  ·exact .inr (by omega)
theorem fq.freeze{b:Nat}{g:Nat}(w:World)(a:Addr)(ha:a.block=g)(n:Nat):fq b (some g) w (w.freeze a n):=by
 unfold World.freeze
 split
 ·exact fq.refl _
 ·refine⟨rfl,rfl,rfl,by simp,fun k hk h1 h2=> ?_⟩
  simp only[Array.getElem?_modify]
  rw[if_neg]
  intro e
  exact h2 (by rw[<-e,ha])
theorem fq.drew{b:Nat}{g:Option Nat}(w:World):fq b g w w.drew:=⟨rfl,rfl,rfl,Nat.le_refl _,fun _ _ _ _=>rfl⟩
theorem fq.alloc{b:Nat}{g:Option Nat}(w:World)(o:Obj):fq b g w (w.alloc o):=⟨rfl,rfl,rfl,by simp,fun k hk _ _=>Below.heap_alloc _ _ _ hk⟩
set_option maxHeartbeats 2000000 in
set_option maxRecDepth 100000 in
theorem Yi(L:Lays.n169 P ρ)(X:Builder.Extra P ρ)(b:Nat)(v0:Value)(l:List UInt8)(w:World)(h:rY (ρ.t 72) (ρ.t 5) b v0 (Lib.byteCells l) w):
 Calls P (ρ.f 169) #[.pointer (some ⟨b,0,none⟩)] w fun e w'=>e= .returned (.string ⟨l.toArray⟩)/\fq b v0.ownBlock w w':=by
 obtain⟨p,ub⟩:∃p,w.heap[b]? =some (.cells #[p,v0] (ρ.t 72) (0,0)):=by
  rcases h.l7 with h|h
  ·exact⟨_,h⟩
  ·exact⟨_,h⟩
 have bM:=h.own
 have ar:=h.lt
 rw[Lib.byteCells_length] at bM
 have mixed:=L.mixed
 have t72:=L.t72;have a72:=L.a72;have z72:=L.z72;have v72:=L.v72;have u72:=run_underlying L.t72
 have t70:=L.t70;have a70:=L.a70;have z70:=L.z70;have v70:=L.v70;have u70:=run_underlying L.t70
 have t37:=L.t37;have a37:=L.a37;have z37:=L.z37;have v37:=L.v37;have u37:=run_underlying L.t37
 have t127:=L.t127;have a127:=L.a127;have z127:=L.z127;have v127:=L.v127;have adi:=run_underlying L.t127
 have t3:=L.t3;have a3:=L.a3;have z3:=L.z3;have v3:=L.v3;have u3:=run_underlying L.t3
 have t9:=L.t9;have a9:=L.a9;have z9:=L.z9;have v9:=L.v9;have u9:=run_underlying L.t9
 have t5:=X.t5;have a5:=X.a5;have z5:=X.z5;have v5:=X.v5;have u5:=run_underlying X.t5
 rcases bM.2 with⟨rfl,hz⟩|⟨g,cap,cur,rfl,PY,hg,EG,pE,du,lK⟩
 ·have hl:l=[]:=List.eq_nil_of_length_eq_zero hz
  subst hl
  have PW:=Any.unsafeString_none L X
  have c1:w.drew.cell? ⟨b,1,none⟩=some (.slice none 0 0):=by
   have:w.drew.heap[b]? =some (.cells #[p,.slice none 0 0] (ρ.t 72) (0,0)):=ub
   rw[Lib.cell_of_heap this];rfl
  have PV:(Builtin.unsafeSliceData_ #[(ρ.t 37)] (ρ.t 127) #[.slice none 0 0]).run P w.drew= .ok (.pointer none) w.drew:=rfl
  go_enter L.f169,Body.n169_ntmps ρ
  go_wp2
  go_region_o
  all_goals(go_wp2;go_ret;exact⟨rfl,fq.drew w⟩)
 ·by_cases EA:l.length=0
  ·have hl:l=[]:=List.eq_nil_of_length_eq_zero EA
   subst hl
   by_cases A3:cap=0
   ·subst A3
    have PW:=Any.unsafeString_none L X
    have c1:w.drew.cell? ⟨b,1,none⟩=some (.slice (some ⟨g,0,none⟩) 0 0):=by
     have:w.drew.heap[b]? =some (.cells #[p,.slice (some ⟨g,0,none⟩) 0 0] (ρ.t 72) (0,0)):=ub
     rw[Lib.cell_of_heap this];rfl
    have PV:(Builtin.unsafeSliceData_ #[(ρ.t 37)] (ρ.t 127) #[.slice (some ⟨g,0,none⟩) 0 0]).run P w.drew= .ok (.pointer (some ⟨w.drew.heap.size,0,none⟩)) (w.drew.alloc (.view ⟨g,0,none⟩ (ρ.t 5))):=
     Lib.run_unsafeSliceData_zero w.drew _ _ (ρ.t 5) L.t127 ⟨g,0,none⟩ 0 ((ρ.t 5),cur.size) (by have A7:w.drew.heap[g]? =some (.cells cur (ρ.t 5) (0,0)):=hg;simp [World.shape?,A7])
    have c2:(w.drew.alloc (.view ⟨g,0,none⟩ (ρ.t 5))).cell? ⟨b,1,none⟩=some (.slice (some ⟨g,0,none⟩) 0 0):=by
     have:(w.drew.alloc (.view ⟨g,0,none⟩ (ρ.t 5))).heap[b]? =_:=(Lib.alloc_old w.drew _ b ar).trans ub
     rw[Lib.cell_of_heap this];rfl
    have c3:(w.alloc (.view ⟨g,0,none⟩ (ρ.t 5))).drew.cell? ⟨b,1,none⟩=some (.slice (some ⟨g,0,none⟩) 0 0):=c2
    have c0:w.cell? ⟨b,1,none⟩=some (.slice (some ⟨g,0,none⟩) 0 0):=c1
    go_enter L.f169,Body.n169_ntmps ρ
    go_wp2
    go_region_o
    all_goals(go_wp2;go_ret;exact⟨rfl,(fq.drew w).trans (fq.alloc _ _)⟩)
   ·have PW:=Any.unsafeString_none L X
    have c1:w.drew.cell? ⟨b,1,none⟩=some (.slice (some ⟨g,0,none⟩) 0 cap):=by
     have:w.drew.heap[b]? =some (.cells #[p,.slice (some ⟨g,0,none⟩) 0 cap] (ρ.t 72) (0,0)):=ub
     rw[Lib.cell_of_heap this];rfl
    have PV:(Builtin.unsafeSliceData_ #[(ρ.t 37)] (ρ.t 127) #[.slice (some ⟨g,0,none⟩) 0 cap]).run P w.drew= .ok (.pointer (some ⟨g,0,none⟩)) w.drew:=
     Lib.run_unsafeSliceData_row _ _ _ _ _ _ A3
    clear A3
    go_enter L.f169,Body.n169_ntmps ρ
    go_wp2
    go_region_o
    all_goals(go_wp2;go_ret;exact⟨rfl,fq.drew w⟩)
  ·have h0:l≠ []:=fun e=>EA (by rw[e];rfl)
   have c1:w.drew.cell? ⟨b,1,none⟩=some (.slice (some ⟨g,0,none⟩) l.length cap):=by
    have:w.drew.heap[b]? =some (.cells #[p,.slice (some ⟨g,0,none⟩) l.length cap] (ρ.t 72) (0,0)):=ub
    rw[Lib.cell_of_heap this];rfl
   have PV:(Builtin.unsafeSliceData_ #[(ρ.t 37)] (ρ.t 127) #[.slice (some ⟨g,0,none⟩) l.length cap]).run P w.drew= .ok (.pointer (some ⟨g,0,none⟩)) w.drew:=
    Lib.run_unsafeSliceData_row _ _ _ _ _ _ (by omega)
   have PW:(Builtin.unsafeString_ #[(ρ.t 127),(ρ.t 3)] (ρ.t 9) #[.pointer (some ⟨g,0,none⟩),.int .i64 l.length]).run P w.drew= .ok (.string ⟨l.toArray⟩) (w.drew.freeze ⟨g,0,none⟩ l.length):=by
    refine Lib.run_unsafeString_row w.drew (ρ.t 127) (ρ.t 3) (ρ.t 9) (ρ.t 5) L.t127 X.cellsByte g cur.size (by have A7:w.drew.heap[g]? =some (.cells cur (ρ.t 5) (0,0)):=hg;simp [World.shape?,A7]) l h0 (by omega) (by unfold maxLen at pE;omega) ?_
    intro j x hx
    have:=bM.cells (g:=g) rfl j (.int .u8 x.toNat) (by simp [Lib.byteCells,hx])
    exact this
   go_enter L.f169,Body.n169_ntmps ρ
   go_wp2
   go_region_o
   all_goals(go_wp2;go_ret;exact⟨rfl,(fq.drew w).trans (fq.freeze _ _ rfl _)⟩)
end Go.Ref

namespace Go.Ref
open Go
inductive SV where
 |undef
 |skip
 |cm
 |gn
 |ah (t:Ty) (x:El t) (own:List (List Nat))
 |ptr (id:Nat) (t:Ty) (p:List Nat)
 |view (t:Ty) (x:El t)
 |cap (f:Nat) (t:Ty) (x:El t) (u:Ty) (y:El u)
 |over
def Ty.n5:Ty->Bool
 | .aT (.fw _ _) _ _=>false
 | .aT _ _ _=>true
 |_=>false
def Ty.bE:Ty->Bool
 | .aT _ _ _=>true
 |_=>false
structure bk where
 t:Ty
 x:El t
 own:List (List Nat)
structure State where
 sl:List (List SV)
 bs:List (Option bk)
structure Env where
 ty:TypeId->Option Ty
 bytes:TypeId->Nat
 pt:TypeId->Bool
 cZ:Nat->List Nat
 j6:Nat->List Nat
 outs:List Nat
 ps:List Ty
 mp:TypeId->Option (TypeId×TypeId):=fun _=>none
 join:Nat->Option (List Nat):=fun _=>none
 fz:Nat->Option (Nat×TypeId):=fun _=>none
 dr:Nat->List Nat:=fun _=>[]
 sh:List Nat:=[]
 ro:Bool:=false
 mv:List Nat:=[]
 fr:Nat->List Nat:=fun _=>[]
 bl:TypeId->Option TypeId:=fun _=>none
 sp:Option (Nat×Nat×Nat×Nat):=none
def Ty.fS:Ty->Bool
 | .unit=>true
 | .pair (.int _) b=>b.fS
 |_=>false
def Ty.isKey:Ty->Bool
 | .bool| .int _| .str=>true
 | .pair a b=>(Ty.pair a b).fS
 |_=>false
def se:(t:Ty)->El t->El t->Bool
 | .pair (.int _) b,x,y=>decide (x.1=y.1)&&se b x.2 y.2
 |_,_,_=>true
def eU:(t:Ty)->El t->El t->Bool
 | .bool,x,y=>decide (x=y)
 | .int _,x,y=>decide (x=y)
 | .str,x,y=>decide (x=y)
 | .pair a b,x,y=>se (.pair a b) x y
 |_,_,_=>false
def dR{K V:Type}(eq:K->K->Bool)(d:V):List (K×V)->K->V
 | [],_=>d
 |q::r,k=>bif eq k q.1 then q.2 else dR eq d r k
def dS{K V:Type}(eq:K->K->Bool):List (K×V)->K->Bool
 | [],_=>false
 |q::r,k=>bif eq k q.1 then true else dS eq r k
section
variable {R:Type}
abbrev bF(R:Type):=List SV->Option bk->(List SV->Option bk->Option R)->Option R
def SV.el(s:SV)(u:Ty)(K:El u->Option R):Option R:=
 match s with
 | .ah t x _=>if h:t.b7 u=true then K (Ty.cast h x) else none
 | .cm=>match u with
   | .sl _ _=>K []
   |_=>none
 |_=>none
def z59:Value->SV
 | .bool b=> .ah .bool b []
 | .int k n=> .ah (.int k) n []
 | .string s=> .ah .str s []
 | .slice none 0 0=> .cm
 | .pointer none=> .gn
 |_=> .undef
def State.slot(s:State)(t:Nat):List SV:=s.sl.getD t [.undef]
def State.uy(s:State):Operand->List SV
 | .tmp t=>s.slot t
 | .const v=>[z59 v]
 |_=>[.undef]
def one:List SV->SV
 | [x]=>x
 |_=> .undef
def State.ay(s:State)(x:Operand):SV:=one (s.uy x)
def State.box(s:State)(id:Nat):Option bk:=(s.bs.getD id none)
def SV.shut:SV->SV
 | .ah t x _=> .ah t x []
 |v=>v
def SV.own:SV->List (List Nat)
 | .ah _ _ o=>o
 | .cm=>[[]]
 |_=>[]
def bN:List SV->Nat->List SV
 | [],_=>[]
 |v::r,0=>v.shut::r
 |v::r,j+1=>v::bN r j
structure Out where
 v:List SV
 bx:Option (Nat×bk):=none
 cl:List (Nat×Nat):=[]
def State.close(s:State):List (Nat×Nat)->State
 | []=>s
 |(i,j)::r=>State.close {s with sl:=s.sl.set i (bN (s.slot i) j)} r
def State.aC(s:State):Option (Nat×bk)->State
 |some (id,B)=>{s with bs:=s.bs.set id (some B)}
 |none=>s
def State.aG(s:State):Option Nat->List SV->State
 |some d,v=>{s with sl:=s.sl.set d v}
 |none,_=>s
def State.apply(s:State)(dst:Option Nat)(o:Out):State:=((s.close o.cl).aC o.bx).aG dst o.v
def rM:Operand->Option Nat
 | .tmp t=>some t
 |_=>none
def src:Operand->List (Nat×Nat)
 | .tmp t=>[(t,0)]
 |_=>[]
def aD(op:BinOp)(k:IntKind)(a b:Int):Int:=
 match op with
 | .and=>k.wrap ((BitVec.ofInt k.bits a&&&BitVec.ofInt k.bits b).toNat:Nat)
 | .or=>k.wrap ((BitVec.ofInt k.bits a|||BitVec.ofInt k.bits b).toNat:Nat)
 | .xor=>k.wrap ((BitVec.ofInt k.bits a^^^BitVec.ofInt k.bits b).toNat:Nat)
 |_=>k.wrap ((BitVec.ofInt k.bits a&&& ~~~ BitVec.ofInt k.bits b).toNat:Nat)
def cS:(t:Ty)->El t->El t->Option Bool
 | .bool,x,y=>some (x==y)
 | .int _,x,y=>some (decide (x=y))
 | .str,x,y=>some (decide (x=y))
 | .unit,_,_=>some true
 | .arr _ (.int _),x,y=>some (decide ((x:List Int)=y))
 | .pair a b,x,y=>match cS a x.1 y.1,cS b x.2 y.2 with
   |some p,some q=>some (p&&q)
   |_,_=>none
 |_,_,_=>none
def i64(n:Int):List SV:=[.ah (.int .i64) n []]
def bl(b:Bool):List SV:=[.ah .bool b []]
def oQ(op:BinOp)(k:IntKind)(a:Int)(k':IntKind)(b:Int)(K:List SV->Option R):Option R:=
 match op with
 | .shl=>bif decide (b<0) then none else K [.ah (.int k) (k.wrap (a*2^min b.toNat k.bits)) []]
 | .shr=>bif decide (b<0) then none else K [.ah (.int k) (a.fdiv (2^min b.toNat k.bits)) []]
 |_=>if k=k' then
  match op with
  | .add=>K [.ah (.int k) (k.wrap (a+b)) []]
  | .sub=>K [.ah (.int k) (k.wrap (a-b)) []]
  | .mul=>K [.ah (.int k) (k.wrap (a*b)) []]
  | .quo=>bif decide (b=0) then none else K [.ah (.int k) (k.wrap (a.tdiv b)) []]
  | .rem=>bif decide (b=0) then none else K [.ah (.int k) (a.tmod b) []]
  | .and| .or| .xor| .andNot=>K [.ah (.int k) (aD op k a b) []]
  | .eql=>K (bl (decide (a=b)))
  | .neq=>K (bl (!decide (a=b)))
  | .lss=>K (bl (decide (a<b)))
  | .leq=>K (bl (decide (a<=b)))
  | .gtr=>K (bl (decide (b<a)))
  | .geq=>K (bl (decide (b<=a)))
  |_=>none
  else none
def oR(op:BinOp)(a b:ByteArray)(K:List SV->Option R):Option R:=
 match op with
 | .add=>bif decide (a.size+b.size<=9223372036854775807) then K [.ah .str (a++b) []] else none
 | .eql=>K (bl (decide (a=b)))
 | .neq=>K (bl (!decide (a=b)))
 | .lss=>K (bl (Op.bytesLess a.toList b.toList))
 | .leq=>K (bl (Op.bytesLess a.toList b.toList||decide (a=b)))
 | .gtr=>K (bl (!(Op.bytesLess a.toList b.toList||decide (a=b))))
 | .geq=>K (bl (!(Op.bytesLess a.toList b.toList)))
 |_=>none
def Ty.depth:Ty->Nat
 | .arr _ t=>t.depth+1
 | .pair a b=>max (a.depth+1) b.depth
 |_=>1
def oP(E:Env)(op:BinOp)(T:TypeId)(x y:SV)(K:List SV->Option R):Option R:=
 match E.ty T with
 |some t=>if Nat.ble t.depth 1000=false then none else x.el t fun a=>y.el t fun b=>match cS t a b with
  |some r=>match op with
   | .eql=>K (bl r)
   | .neq=>K (bl (!r))
   |_=>none
  |none=>none
 |none=>none
def bin(E:Env)(op:BinOp)(T:TypeId)(x y:SV)(K:List SV->Option R):Option R:=
 match x,y with
 | .ah (.int k) a _,.ah (.int k') b _=>oQ op k a k' b K
 | .ah .str a _,.ah .str b _=>oR op a b K
 | .ptr _ t _,.gn=>if(t.bE|| !E.pt T)=true then none else match op with
   | .eql=>K (bl false)
   | .neq=>K (bl true)
   |_=>none
 | .gn,.gn=>if E.pt T=false then none else match op with
   | .eql=>K (bl true)
   | .neq=>K (bl false)
   |_=>none
 |x,y=>oP E op T x y K
def ze(s:ByteArray)(i:Nat):Int:=if h:i<s.size then((s[i]'h).toNat:Int) else 0
def strOf(xs:List Int):ByteArray:=⟨(xs.map fun x=>UInt8.ofNat x.toNat).toArray⟩
def zd(i:Int)(n:Nat)(K:Option R):Option R:=bif decide (0<=i) then bif decide (i<(n:Int)) then K else none else none
def vl(lo:Option SV)(h:Nat)(K:Nat->Option R):Option R:=
 match lo with
 |none=>K 0
 |some v=>v.el (.int .i64) fun l=>bif decide (0<=l) then bif decide (l<=(h:Int)) then K l.toNat else none else none
def cutAt(lo hi:Option SV)(n:Nat)(K:Nat->Nat->Option R):Option R:=
 match hi with
 |none=>vl lo n fun l=>K l n
 |some v=>v.el (.int .i64) fun h=>bif decide (0<=h) then bif decide (h<=(n:Int)) then vl lo h.toNat (fun l=>K l h.toNat) else none else none
def Ty.jG:Ty->Nat->Bool
 | .arr n _,i=>Nat.ble (i+1) n
 |_,_=>true
def ve(own:List (List Nat))(p:List Nat):List (List Nat):=own.filter fun q=> !(p.isPrefixOf q)
def mh(own:List (List Nat))(p:List Nat):Bool:=own.any fun q=>q==p
def JN(own:List (List Nat))(p:List Nat):List (List Nat):=(own.filter fun q=>p.isPrefixOf q).map fun q=>q.drop p.length
def bump:List Nat->Option (List Nat)
 | []=>none
 |j::p=>some ((j+1)::p)
def uV:Ty->List (List Nat)
 | .sl _ _=>[[]]
 | .pair a b=>(uV a).map (fun p=>0::p)++(uV b).filterMap bump
 |_=>[]
def po(t:Ty):El t->List (List Nat)->List (Nat×SV×List (List Nat))->(El t->List (List Nat)->Option R)->Option R
 |x,own,[],K=>K x own
 |x,own,(i,v,ov)::r,K=>if t.jG i=false then none else match t.at_ [i] with
  |some u=>v.el u fun y=>match El.set t [i] x u y with
   |some z=>po t z (ov.map (fun p=>i::p)++ve own [i]) r K
   |none=>none
  |none=>none
def vd(o:List (List Nat))(x:Operand):List (Nat×Nat):=
 match o with
 | []=>[]
 |_::_=>src x
def kX:State->List (Nat×Operand)->List (Nat×SV×List (List Nat))×List (Nat×Nat)
 |_,[]=>([],[])
 |s,(i,x)::r=>((i,s.ay x,(s.ay x).own)::(kX (s.close (vd (s.ay x).own x)) r).1,vd (s.ay x).own x++(kX (s.close (vd (s.ay x).own x)) r).2)
def xL(t:Ty):List (El t)->List (Nat×SV)->(List (El t)->Option R)->Option R
 |xs,[],K=>K xs
 |xs,(i,v)::r,K=>if Nat.ble (i+1) xs.length=false then none else v.el t fun y=>xL t (xs.set i y) r K
def Pn(ops:List Oper)(d:Option Nat):Bool:=
 match d with
 |some d=>ops.any fun o=>match o.op with
  | .call ⟨.builtin .append,args,_⟩=>match args.toList with
    | .tmp t::_=>Nat.beq t d
    |_=>false
  |_=>false
 |none=>false
def HQ(ops:List Oper)(d:Option Nat):Bool:=
 match d with
 |some d=>ops.any fun o=>match o.op,o.dst with
  | .indexAddr _ (.tmp t) _,some a=>Nat.beq t d&&ops.any fun q=>match q.op with
    | .store _ (.tmp b) _=>Nat.beq a b
    |_=>false
  |_,_=>false
 |none=>false
def xa(E:Env)(ops:List Oper)(d:Option Nat):Bool:=
 match d with
 |some d=>ops.any fun o=>match o.op with
  | .store _ (.tmp r) (.tmp t)=>Nat.beq t d&&E.outs.any (Nat.beq r)
  |_=>false
 |none=>false
def Az(u':Ty)(s:State)(id:Nat)(t:Ty)(p:List Nat)(K:Out->Option R):Option R:=
 match t,p with
 | .aT .row a b,[i]=>match s.box id with
   |some B=>if h:B.t.b7 (.aT .row a b)=true then if u'.b7 a=true then
     bif Nat.ble (i+1) (List.length (Ty.cast h B.x:List (El a))) then K {v:=[.ah a (List.getD (Ty.cast h B.x:List (El a)) i (El.bI a)) []]} else none
    else none else none
   |none=>none
 |_,_=>none
def Ai(u:Ty)(s:State)(id:Nat)(t:Ty)(p:List Nat)(v:SV)(K:Out->Option R):Option R:=
 match t,p with
 | .aT .row a b,[i]=>match s.box id with
   |some B=>if h:B.t.b7 (.aT .row a b)=true then if a.b7 u=true then
     v.el a fun y=>bif Nat.ble (i+1) (List.length (Ty.cast h B.x:List (El a))) then K {v:=[.skip],bx:=some (id,⟨.aT .row a b,(List.set (Ty.cast h B.x:List (El a)) i y:List (El a)),[]⟩)} else none
    else none else none
   |none=>none
 |_,_=>none
def Is(t:Ty)(n:Int)(id:Nat)(r:Ty)(p:List Nat)(K:Out->Option R):Option R:=
 match r,p with
 | .aT (.fO m) a b,[]=>if a.b7 t=true then zd n m (K {v:=[.ptr id (.aT .row a b) [n.toNat]]}) else none
 |_,_=>none
def BU(u':Ty)(B:bk)(t:Ty)(p:List Nat)(K:Out->Option R):Option R:=
 match t,p with
 | .arr n e,[]=>if h:B.t.b7 (.aT .row e .unit)=true then if u'.b7 (.arr n e)=true then
    bif Nat.beq n (List.length (Ty.cast h B.x:List (El e))) then K {v:=[.ah (.arr n e) (Ty.cast h B.x:List (El e)) []]} else none
   else none else none
 |_,_=>none
def load(E:Env)(T:TypeId)(s:State)(la:Bool)(a:SV)(K:Out->Option R):Option R:=
 match E.ty T with
 |some u'=>match a with
  | .view t x=>if u'.b7 t=true then K {v:=[.ah t x []]} else none
  | .ptr id t p=>if t.bE=true then Az u' s id t p K else match s.box id with
    |some B=>if B.t.b7 t=true then
      match El.get B.t p B.x with
      |some ⟨u,y⟩=>if u'.b7 u=true then
        bif la then K {v:=[.ah u y (JN B.own p)],bx:=some (id,{B with own:=ve B.own p})} else K {v:=[.ah u y []]}
       else none
      |none=>none
     else BU u' B t p K
    |none=>none
  |_=>none
 |none=>none
def store(E:Env)(T:TypeId)(s:State)(a:SV)(vo:Operand)(K:Out->Option R):Option R:=
 match E.ty T with
 |some u=>match a with
  | .ptr id t p=>if t.bE=true then Ai u s id t p (s.ay vo) K else match s.box id with
    |some B=>if B.t.b7 t=true then
      match t.at_ p with
      |some u'=>if u'.b7 u=true then
        (s.ay vo).el u fun y=>match El.set B.t p B.x u y with
        |some z=>K {v:=[.skip],bx:=some (id,{t:=B.t,x:=z,own:=(s.ay vo).own.map (fun q=>p++q)++ve B.own p}),cl:=src vo}
        |none=>none
       else none
      |none=>none
     else none
    |none=>none
  |_=>none
 |none=>none
def Ty.cN:Ty->Bool
 | .pair .. =>true
 |_=>false
def JH(t?:Option Ty)(a:SV)(j:Nat)(K:Out->Option R):Option R:=
 match t?,a with
 |some u,.ptr id t p=>if t.bE=true then none else match t.at_ p with
  |some u'=>if(u.b7 u'&&u.cN)=true then match u.at_ [j] with
    |some f=>if Nat.beq f.cells 0=true then none else K {v:=[.ptr id t (p++ [j])]}
    |none=>none
   else none
  |none=>none
 |some u,.view t x=>if(u.b7 t&&u.cN)=true then match El.get t [j] x with
   |some ⟨f,y⟩=>if Nat.beq f.cells 0=true then none else K {v:=[.view f y]}
   |none=>none
  else none
 |_,_=>none
def SV.num(s:SV)(K:Int->Option R):Option R:=
 match s with
 | .ah (.int _) n _=>K n
 |_=>none
def JJ(E:Env)(T:TypeId)(a i:SV)(K:Out->Option R):Option R:=
 i.num fun n=>match E.ty T,a with
  |some (.sl e t),.ah t' xs _=>(SV.ah t' xs []).el (.sl e t) fun ys=>zd n ys.length (K {v:=[.view t (List.getD ys n.toNat (El.bI t))]})
  |some (.arr m t),.ptr id r p=>if r.bE=true then none else match r.at_ p with
   |some u=>if u.b7 (.arr m t)=true then zd n m (K {v:=[.ptr id r (p++ [n.toNat])]}) else none
   |none=>none
  |some (.arr m t),.view t' xs=>(SV.ah t' xs []).el (.arr m t) fun ys=>zd n m (K {v:=[.view t (List.getD ys n.toNat (El.bI t))]})
  |some (.sl _ t),.ptr id r p=>Is t n id r p K
  |_,_=>none
def JK(E:Env)(T:TypeId)(a i:SV)(K:Out->Option R):Option R:=
 i.num fun n=>match E.ty T with
  |some .str=>a.el .str fun s=>zd n s.size (K {v:=[.ah (.int .u8) (ze s n.toNat) []]})
  |some (.arr m t)=>a.el (.arr m t) fun ys=>zd n m (K {v:=[.ah t (List.getD ys n.toNat (El.bI t)) []]})
  |_=>none
def oU(E:Env)(T:TypeId)(a:SV)(lo hi:Option SV)(K:Out->Option R):Option R:=
 match E.ty T with
 |some .str=>a.el .str fun s=>cutAt lo hi s.size fun l h=>K {v:=[.ah .str (s.extract l h) []]}
 |some (.sl e t)=>a.el (.sl e t) fun xs=>cutAt lo hi (List.length xs) fun l h=>K {v:=[.ah (.sl e t) ((List.take h xs).drop l) []]}
 |_=>none
def Ja(E:Env)(T U:TypeId)(bo:Operand)(b x:SV)(K:Out->Option R):Option R:=
 if Nat.beq T U=false then none else
 match E.ty T with
 |some (.sl e t)=>if(Nat.beq (E.bytes e) 0||Nat.beq t.cells 0)=true then none else match b with
  | .cm=>x.el (.sl e t) fun ys=>bif decide (List.length ys*E.bytes e<=140737488355328) then K {v:=[.ah (.sl e t) ys [[]]]} else none
  | .ah t' xs o=>if mh o []=false then none else(SV.ah t' xs o).el (.sl e t) fun xs=>x.el (.sl e t) fun ys=>
    bif decide ((List.length xs+List.length ys)*E.bytes e<=140737488355328) then K {v:=[.ah (.sl e t) (xs++ys:List (El t)) [[]]],cl:=src bo} else none
  |_=>none
 |_=>none
def ru(E:Env)(T:TypeId)(x:SV)(K:Out->Option R):Option R:=
 match E.ty T with
 |some .str=>x.el .str fun s=>K {v:=i64 (s.size:Int)}
 |some (.sl e t)=>match x with
  | .ptr _ (.aT (.fO n) _ _) []=>K {v:=i64 (n:Int)}
  |x=>x.el (.sl e t) fun xs=>K {v:=i64 (List.length xs:Int)}
 |some (.arr n _)=>K {v:=i64 (n:Int)}
 |_=>none
def jX(E:Env)(S T:TypeId)(x:SV)(K:Out->Option R):Option R:=
 match E.ty S,E.ty T with
 |some (.int k),some (.int k')=>x.el (.int k) fun n=>K {v:=[.ah (.int k') (k'.wrap n) []]}
 |some .str,some .str=>x.el .str fun s=>K {v:=[.ah .str s []]}
 |some (.sl e (.int .u8)),some .str=>x.el (.sl e (.int .u8)) fun xs=>K {v:=[.ah .str (strOf xs) []]}
 |_,_=>none
def iV(E:Env)(S T:TypeId)(s:State)(id n:Nat)(a b:Ty)(K:Out->Option R):Option R:=
 match E.ty S,E.ty T with
 |some (.sl _ (.int .u8)),some .str=>if a.b7 (.int .u8)=true then match s.box id with
  |some B=>if h:B.t.b7 (.aT .row (.int .u8) b)=true then bif Nat.beq n (List.length (Ty.cast h B.x:List Int)) then K {v:=[.ah .str (strOf (Ty.cast h B.x:List Int)) []]} else none else none
  |none=>none else none
 |_,_=>none
def lN(E:Env)(T:TypeId):Option (Ty×Ty):=
 match E.mp T with
 |some (k,e)=>match E.ty k,E.ty e with
  |some kt,some vt=>if kt.isKey=true then some (kt,vt) else none
  |_,_=>none
 |none=>none
def jh(s:State)(dst:Option Nat)(t:Ty)(x:El t)(p:Ty)(K:Out->Option R):Option R:=
 match dst with
 |some d=>match s.bs[d+1]? with
  |some none=>K {v:=[.ptr (d+1) p []],bx:=some (d+1,⟨t,x,[]⟩)}
  |_=>none
 |none=>none
def sM(s:State)(m:SV)(kt vt:Ty)(K:Nat->List (El kt×El vt)->Option R):Option R:=
 match m with
 | .ptr id (.aT .mp QG R7) []=>if((Ty.aT .mp QG R7).b7 (.aT .mp kt vt))=true then match s.box id with
   |some B=>if h:B.t.b7 (.aT .mp kt vt)=true then K id (Ty.cast h B.x) else none
   |none=>none else none
 |_=>none
def j8(E:Env)(T:TypeId)(s:State)(m i:SV)(K:Out->Option R):Option R:=
 match lN E T with
 |some (kt,vt)=>sM s m kt vt fun _ xs=>i.el kt fun k=>K {v:=[.ah vt (dR (eU kt) (El.bI vt) xs k) []]}
 |none=>none
def kH(E:Env)(T:TypeId)(s:State)(m i v:SV)(K:Out->Option R):Option R:=
 match lN E T with
 |some (kt,vt)=>sM s m kt vt fun id xs=>i.el kt fun k=>v.el vt fun y=>bif dS (eU kt) xs k then none else K {v:=[.skip],bx:=some (id,⟨.aT .mp kt vt,(xs++ [(k,y)]:List (El kt×El vt)),[]⟩)}
 |none=>none
def jd:Ty:= .aT .iter .unit .unit
def ka(s:State)(m:SV)(K:Out->Option R):Option R:=
 match m with
 | .ptr id (.aT .iter .unit .unit) []=>match s.box id with
   |some B=>if h:B.t.b7 jd=true then
     bif decide ((Ty.cast h B.x:ByteArray×Nat).2<(Ty.cast h B.x:ByteArray×Nat).1.size) then
      K {v:=[.ah .bool true [],.ah (.int .i64) ((Ty.cast h B.x:ByteArray×Nat).2:Int) [],.ah (.int .i32) ((Utf8.decode (Ty.cast h B.x:ByteArray×Nat).1 (Ty.cast h B.x:ByteArray×Nat).2).1:Int) []],
         bx:=some (id,⟨jd,((Ty.cast h B.x:ByteArray×Nat).1,(Ty.cast h B.x:ByteArray×Nat).2+(Utf8.decode (Ty.cast h B.x:ByteArray×Nat).1 (Ty.cast h B.x:ByteArray×Nat).2).2),[]⟩)}
     else K {v:=[.over]}
    else none
   |none=>none
 |_=>none
def G7:Operand->Bool
 | .const _=>true
 |_=>false
def j9(E:Env)(T:TypeId)(s:State)(dst:Option Nat)(lo:Operand)(l c:SV)(K:Out->Option R):Option R:=
 match E.ty T with
 |some (.sl e t)=>if(Nat.beq (E.bytes e) 0||Nat.beq t.cells 0)=true then none else l.el (.int .i64) fun n=>c.el (.int .i64) fun m=>
  bif G7 lo then
   bif decide (n=0) then bif decide (0<=m) then bif decide (m*E.bytes e<=140737488355328) then K {v:=[.ah (.sl e t) ([]:List (El t)) [[]]]} else none else none else none
  else bif decide (n=m) then bif decide (0<=n) then bif decide (n*E.bytes e<=140737488355328) then jh s dst (.aT .row t .unit) (List.replicate n.toNat (El.bI t):List (El t)) (.aT (.fO n.toNat) t .unit) K else none else none else none
 |_=>none
def Fp(op:UnOp)(x:SV)(K:Out->Option R):Option R:=
 match op,x with
 | .not,.ah .bool b _=>K {v:=bl (!b)}
 | .neg,.ah (.int k) n _=>K {v:=[.ah (.int k) (k.wrap (0-n)) []]}
 |_,_=>none
def ly(f:FuncId)(x:SV)(K:Out->Option R):Option R:=
 match x with
 | .ptr id u []=>if u.n5=true then none else K {v:=[.ptr id (.aT (.pD f) u .unit) []]}
 |_=>none
def qD(n id:Nat)(a b:Ty)(lo hi:Option SV)(K:Out->Option R):Option R:=
 match hi with
 |some _=>none
 |none=>vl lo n fun l=>K {v:=[.ptr id (.aT (.fO n) a b) [l]]}
def oT(E:Env)(T:TypeId)(s:State)(id n:Nat)(t:Ty)(lo hi:Option SV)(K:Out->Option R):Option R:=
 match E.ty T,lo,hi with
 |some u,none,none=>if u.b7 (.arr n t)=true then match s.box id with
  |some B=>if h:B.t.b7 (.arr n t)=true then K {v:=[.ptr id (.aT (.fO n) t .unit) []],bx:=some (id,⟨.aT .row t .unit,(Ty.cast h B.x:List (El t)),[]⟩)} else none
  |none=>none else none
 |_,_,_=>none
def mg(s:ByteArray):List Int:=s.data.toList.map fun c=>(c.toNat:Int)
def bC{α:Type}(xs ys:List α)(lo:Nat):List α:=xs.take lo++(ys++xs.drop (lo+ys.length))
def gf(t:Ty)(s:State)(id n lo:Nat)(a b:Ty)(x:SV)(e:TypeId)(K:Out->Option R):Option R:=
 if a.b7 t=true then x.el (.sl e t) fun(ys:List (El t))=>match s.box id with
  |some B=>if h:B.t.b7 (.aT .row t b)=true then
    bif Nat.beq n (List.length (Ty.cast h B.x:List (El t))) then bif Nat.ble lo n then
     K {v:=i64 ((ys.take (n-lo)).length:Int),bx:=some (id,⟨.aT .row t b,(bC (Ty.cast h B.x:List (El t)) (ys.take (n-lo)) lo:List (El t)),[]⟩)}
    else none else none
   else none
  |none=>none else none
def iW(t:Ty)(s:State)(id n:Nat)(a b:Ty)(y:ByteArray)(K:Out->Option R):Option R:=
 if t.b7 (.int .u8)=true then if a.b7 (.int .u8)=true then match s.box id with
  |some B=>if h:B.t.b7 (.aT .row (.int .u8) b)=true then
    bif Nat.beq n (List.length (Ty.cast h B.x:List Int)) then
     K {v:=i64 ((List.take n (mg y)).length:Int),bx:=some (id,⟨.aT .row (.int .u8) b,(bC (Ty.cast h B.x:List Int) (List.take n (mg y)) 0:List Int),[]⟩)}
    else none
   else none
  |none=>none else none else none
def copyV(E:Env)(T:TypeId)(s:State)(d x:SV)(K:Out->Option R):Option R:=
 match E.ty T,d with
 |some (.sl e t),.ptr id (.aT (.fO n) a b) []=>(match x with
  | .ah .str y _=>iW t s id n a b y K
  |x=>gf t s id n 0 a b x e K)
 |some (.sl e t),.ptr id (.aT (.fO n) a b) [l]=>gf t s id n l a b x e K
 |_,_=>none
def E6(t b:Ty):Bool:=
 b.b7 t||(match t with
  | .aT (.pD _) u _=>b.b7 u
  |_=>false)
def l5(s:State):List SV->Option (List SV×Option (Nat×bk))
 | []=>some ([],none)
 |v::r=>match l5 s r with
  |none=>none
  |some (l,b)=>match v,b with
   | .ah t x _,b=>some (.ah t x []::l,b)
   | .cm,b=>some (.cm::l,b)
   | .view t x,b=>some (.view t x::l,b)
   | .ptr id t [],none=>match s.box id with
     |some B=>if E6 t B.t=true then some (.ptr 0 t []::l,some (id,B)) else none
     |none=>none
   |_,_=>none
def SV.gw(id:Nat):SV->SV
 | .ptr _ t p=> .ptr id t p
 |v=>v
def eQ(C:FuncId->bF R)(s:State)(dst:Option Nat)(f:FuncId)(vs:List SV)(K:Out->Option R):Option R:=
 match l5 s vs with
 |some (l,none)=>C f l none fun r B=>match B with
  |none=>K {v:=r}
  |some B=>match dst with
   |some d=>match s.bs[d+1]? with
    |some none=>K {v:=r.map (SV.gw (d+1)),bx:=some (d+1,B)}
    |_=>none
   |none=>none
 |some (l,some (id,B))=>C f l (some B) fun r B'=>match B' with
  |some B'=>if B'.t.b7 B.t=true then K {v:=r,bx:=some (id,B')} else none
  |none=>none
 |none=>none
def jg(g:Bool)(x y:SV)(K:Out->Option R):Option R:=
 match x,y with
 | .ah (.int k) m _,.ah (.int _) n _=>K {v:=[.ah (.int k) (bif g then(if m<n then n else m) else(if n<m then n else m)) []]}
 |_,_=>none
def mR(E:Env)(T:TypeId)(K:Out->Option R):Option R:=
 match E.ty T with
 |some (.sl e t)=>K {v:=[.ah (.sl e t) ([]:List (El t)) [[]]]}
 |_=>K {v:=[.cm]}
def lT(s:State):Operand->Option (Nat×List SV)
 | .tmp t=>bif Nat.beq (s.slot t).length 1 then none else some (t,s.slot t)
 |_=>none
def jn(t:Nat):Nat->List (Nat×Nat)
 |0=>[]
 |n+1=>(t,n)::jn t n
def eB(E:Env)(d:Option Nat):Bool:=
 match d with
 |some d=>E.sh.any (Nat.beq d)
 |none=>false
def takes(E:Env)(d:Option Nat):Bool:=
 match d with
 |some d=>E.mv.any (Nat.beq d)
 |none=>false
def Out.shut(u:Out):Out:={u with v:=u.v.map SV.shut}
def qB(f:FuncId)(x y:SV)(K:Out->Option R):Option R:=
 match x,y with
 | .view t a,.view u b=>K {v:=[.cap f t a u b]}
 |_,_=>none
def act(E:Env)(C:FuncId->bF R)(ops:List Oper)(o:Oper)(s:State)(K:Out->Option R):Option R:=
 match o.op with
 | .move x=>match lT s x with
   |some (t,l)=>bif eB E o.dst then K {v:=l.map SV.shut} else K {v:=l,cl:=bif l.all fun v=>v.own.isEmpty then [] else jn t l.length}
   |none=>match s.ay x with
    | .ah t y w=>bif Pn ops o.dst||takes E o.dst then K {v:=[.ah t y w],cl:=vd w x} else K {v:=[.ah t y []]}
    | .undef=>none
    | .cm=>mR E o.type K
    |v=>K {v:=[v]}
 | .assign x=>match s.ay x with
   | .ah t y w=>K {v:=[.ah t y w],cl:=vd w x}
   | .undef=>none
   | .cm=>mR E o.type K
   |v=>K {v:=[v]}
 | .pick c a b=>match s.ay c with
   | .ah .bool p _=>bif p then K {v:=[(s.ay a).shut]} else K {v:=[(s.ay b).shut]}
   |_=>none
 | .binOp op T x y _=>bin E op T (s.ay x) (s.ay y) fun v=>K {v}
 | .unOp op _ x=>Fp op (s.ay x) K
 | .convert S T x=>match s.ay x with
   | .ptr id (.aT (.fO n) a b) []=>iV E S T s id n a b K
   |v=>jX E S T v K
 | .load T a=>load E T s (Pn ops o.dst||xa E ops o.dst||HQ ops o.dst) (s.ay a) K
 | .store T a x=>store E T s (s.ay a) x K
 | .nilCheck x=>match s.ay x with
   | .ptr id t p=>if t.bE=true then none else K {v:=[.ptr id t p]}
   | .view t y=>K {v:=[.view t y]}
   |_=>none
 | .fieldAddr T x j=>JH (E.ty T) (s.ay x) j K
 | .indexAddr T x i=>JJ E T (s.ay x) (s.ay i) K
 | .index T x i=>JK E T (s.ay x) (s.ay i) K
 | .field T x j=>match E.ty T with
   |some t=>if t.cN=false then none else(s.ay x).el t fun y=>match El.get t [j] y with
    |some ⟨u,z⟩=>K {v:=[.ah u z []]}
    |none=>none
   |none=>none
 | .slice T x lo hi none=>match s.ay x with
   | .ptr id (.aT (.fO n) a b) []=>(match E.ty T with
     |some (.sl _ t)=>if a.b7 t=true then qD n id a b (lo.map s.ay) (hi.map s.ay) K else none
     |_=>none)
   | .ptr id (.arr n t) []=>oT E T s id n t (lo.map s.ay) (hi.map s.ay) K
   |v=>oU E T v (lo.map s.ay) (hi.map s.ay) K
 | .makeFunc (.func f) first captured=>match first.toList,captured.toList with
   | [],[x]=>ly f (s.ay x) K
   | [],[x,y]=>qB f (s.ay x) (s.ay y) K
   |_,_=>none
 | .alloc T=>match E.ty T,o.dst with
   |some t,some d=>match s.bs[d+1]? with
    |some none=>K {v:=[.ptr (d+1) t []],bx:=some (d+1,⟨t,El.bI t,uV t⟩)}
    |_=>none
   |none,some d=>(match E.bl T with
    |some e=>match s.bs[d+1]? with
     |some none=>K {v:=[.ptr (d+1) (.aT (.fw T e) .unit .unit) []],bx:=some (d+1,⟨.aT (.fw T e) .unit .unit,(⟨#[]⟩:ByteArray),[[]]⟩)}
     |_=>none
    |none=>none)
   |_,_=>none
 | .box T x=>match E.ty T,o.dst with
   |some t,some d=>match s.bs[d+1]? with
    |some none=>(s.ay x).el t fun y=>K {v:=[.ptr (d+1) t []],bx:=some (d+1,⟨t,y,(s.ay x).own⟩),cl:=src x}
    |_=>none
   |_,_=>none
 | .build T parts=>match E.ty T with
   |some t=>if t.agg=false then none else po t (El.bI t) (uV t) (kX s parts.toList).1 fun y own=>K {v:=[.ah t y own],cl:=(kX s parts.toList).2}
   |none=>none
 | .buildSlice T n parts=>match E.ty T with
   |some (.sl e t)=>if Nat.beq t.cells 0=true then none else bif Nat.ble (n*t.cells) 16777216 then xL t (List.replicate n (El.bI t)) (parts.toList.map fun p=>(p.1,s.ay p.2)) fun y=>K {v:=[.ah (.sl e t) y [[]]]} else none
   |_=>none
 | .extract x j=>match x with
   | .tmp t=>if Nat.beq (s.slot t).length 1=true then(match one (s.slot t),j with
      | .over,0=>K {v:=bl false}
      |_,_=>none) else match(s.slot t)[j]? with
     |some (.ah u y w)=>K {v:=[.ah u y w],cl:=bif w.isEmpty then [] else [(t,j)]}
     |some .undef=>none
     |some v=>K {v:=[v]}
     |none=>none
   |_=>none
 | .makeMap T none=>match lN E T with
   |some (kt,vt)=>jh s o.dst (.aT .mp kt vt) ([]:List (El kt×El vt)) (.aT .mp kt vt) K
   |none=>none
 | .lookup T x i false=>j8 E T s (s.ay x) (s.ay i) K
 | .mapUpdate T m k x=>kH E T s (s.ay m) (s.ay k) (s.ay x) K
 | .insert T m k x=>kH E T s (s.ay m) (s.ay k) (s.ay x) K
 | .range T x=>match E.ty T with
   |some .str=>(s.ay x).el .str fun y=>jh s o.dst jd ((y,0):ByteArray×Nat) jd K
   |_=>none
 | .next x true=>ka s (s.ay x) K
 | .makeSlice T l c=>j9 E T s o.dst l (s.ay l) (s.ay c) K
 | .call ⟨.value (.func f),args,_⟩=>eQ C s o.dst f (args.toList.map s.ay) fun u=>K (bif eB E o.dst then u.shut else u)
 | .call ⟨.value (.tmp y),args,_⟩=>match s.ay (.tmp y) with
   | .ptr id (.aT (.pD f) u _) []=>if u.n5=true then none else eQ C s o.dst f (args.toList.map s.ay++ [.ptr id u []]) K
   | .cap f t x u y=>eQ C s o.dst f (args.toList.map s.ay++ [.view t x,.view u y]) K
   |_=>none
 | .call ⟨.builtin .copy,args,argTypes⟩=>match args.toList,argTypes.toList with
   | [d,x],T::_=>copyV E T s (s.ay d) (s.ay x) K
   |_,_=>none
 | .call ⟨.builtin .len,args,argTypes⟩=>match args.toList,argTypes.toList with
   | [x],[T]=>ru E T (s.ay x) K
   |_,_=>none
 | .call ⟨.builtin .append,args,argTypes⟩=>match args.toList,argTypes.toList with
   | [b,x],[T,U]=>Ja E T U b (s.ay b) (s.ay x) K
   |_,_=>none
 | .call ⟨.builtin .max,args,_⟩=>match args.toList with
   | [x,y]=>jg true (s.ay x) (s.ay y) K
   |_=>none
 | .call ⟨.builtin .min,args,_⟩=>match args.toList with
   | [x,y]=>jg false (s.ay x) (s.ay y) K
   |_=>none
 |_=>none
def Je(ops:List Oper)(g:Nat):Option Nat:=(ops[g]?).bind (·.dst)
def step(E:Env)(C:FuncId->bF R)(ops:List Oper)(o:Oper)(s:State)(K:State->Option R):Option R:=
 let go (s:State):Option R:=act E C ops o s fun u=>K (s.apply o.dst u)
 let pass (s:State):Option R:=K (s.aG o.dst [.skip])
 match o.guard with
 |none=>go s
 |some (g,want)=>match Je ops g with
  |none=>none
  |some d=>match s.slot d with
   | [.ah .bool p []]=>bif p then(let s:=s.aG (some d) (bl true);bif want then go s else pass s) else(let s:=s.aG (some d) (bl false);bif want then pass s else go s)
   | [.skip]=>pass s
   |_=>none
def steps(E:Env)(C:FuncId->bF R)(ops:List Oper):List Oper->State->(State->Option R)->Option R
 | [],s,K=>K s
 |o::r,s,K=>step E C ops o s fun s=>steps E C ops r s K
structure dq where
 i:Nat
 r:Nat
 w:Nat
 br:Nat
 bw:Nat
def bit(i:Nat):Nat:=1<<<i
def hD:List Nat->Nat
 | []=>0
 |i::r=>bit i|||hD r
def pu:List Operand->List Nat
 | []=>[]
 | .tmp t::r=>t::pu r
 |_::r=>pu r
def looks(ops:List Oper)(o:Oper):List Nat:=pu o.op.operands.toList++(match o.guard with
 |some (g,_)=>(Je ops g).toList
 |none=>[])
def bS:SV->List Nat
 | .ptr id _ _=>[id]
 |_=>[]
def zv(s:State)(o:Oper):List Nat:=
 match o.op with
 | .load _ a=>bS (s.ay a)
 | .store _ a _=>bS (s.ay a)
 | .alloc _| .box _ _| .makeMap _ _| .range _ _| .makeSlice _ _ _=>o.dst.toList.map fun d=>d+1
 | .convert _ _ x=>bS (s.ay x)
 | .slice _ x _ _ _=>bS (s.ay x)
 | .lookup _ x _ _=>bS (s.ay x)
 | .mapUpdate _ m _ _=>bS (s.ay m)
 | .insert _ m _ _=>bS (s.ay m)
 | .next x _=>bS (s.ay x)
 | .call ⟨.value y,args,_⟩=>(args.toList.flatMap fun x=>bS (s.ay x))++(bS (s.ay y)++o.dst.toList.map fun d=>d+1)
 | .call ⟨.builtin .copy,args,_⟩=>args.toList.flatMap fun x=>bS (s.ay x)
 |_=>[]
def fp(ops:List Oper)(o:Oper)(i:Nat)(s:State)(u:Out):dq:=
 ⟨i,hD (looks ops o),hD (o.dst.toList++u.cl.map (·.1)),hD (zv s o),hD (u.bx.toList.map (·.1))⟩
def dq.apart(a b:dq):Bool:=
 Nat.beq (a.w&&&(b.r|||b.w)) 0&&(Nat.beq (b.w&&&a.r) 0&&(Nat.beq (a.bw&&&(b.br|||b.bw)) 0&&Nat.beq (b.bw&&&a.br) 0))
def kM:List Edge->Nat
 | []=>0
 |e::r=>bif Region.binds .any e then bit e.on|||kM r else kM r
def fits(m:Nat)(f:dq)(tr:List dq):Bool:=Nat.ble (m+1) (bit f.i)&&tr.all fun a=>m.testBit a.i||a.apart f
def kd(E:Env)(C:FuncId->bF R)(ops:List Oper)(o:Oper)(i:Nat)(s:State)(tr:List dq)(K:State->List dq->Option R):Option R:=
 let go (s:State):Option R:=act E C ops o s fun u=>bif fits (kM o.after.toList) (fp ops o i s u) tr then K (s.apply o.dst u) (fp ops o i s u::tr) else none
 let pass (s:State):Option R:=bif fits (kM o.after.toList) (fp ops o i s {v:=[.skip]}) tr then K (s.apply o.dst {v:=[.skip]}) (fp ops o i s {v:=[.skip]}::tr) else none
 match o.guard with
 |none=>go s
 |some (g,want)=>match Je ops g with
  |none=>none
  |some d=>match s.slot d with
   | [.ah .bool p []]=>bif p then(let s:=s.aG (some d) (bl true);bif want then go s else pass s) else(let s:=s.aG (some d) (bl false);bif want then pass s else go s)
   | [.skip]=>pass s
   |_=>none
def xO(E:Env)(C:FuncId->bF R)(ops:List Oper):List Oper->Nat->State->List dq->(State->Option R)->Option R
 | [],_,s,_,K=>K s
 |o::r,i,s,tr,K=>kd E C ops o i s tr fun s tr=>xO E C ops r (i+1) s tr K
inductive Ex where
 |normal
 |exit (id:Nat)
 |ret
def rT:Code->Nat
 | .region id _ _=>id
 | .seq a _=>rT a
 | .cond _ a _=>rT a
 | .block _ b=>rT b
 | .loop b=>rT b
 |_=>0
def eZ{α:Type}(z:α)(l:List Nat):Nat->List α->List α
 |_,[]=>[]
 |i,x::r=>(bif l.any (Nat.beq i) then x else z)::eZ z l (i+1) r
def SV.roots(l:List Nat):SV->Bool
 | .ptr 0 _ _=>true
 | .ptr (id+1) _ _=>l.any (Nat.beq id)
 |_=>true
def QH:List Nat->List Nat->Bool
 | [],[]=>false
 | [],_::_=>true
 |_::_,[]=>false
 |a::p,b::q=>Nat.ble (a+1) b||(Nat.beq a b&&QH p q)
def rh(p:List Nat):List (List Nat)->List (List Nat)
 | []=>[p]
 |q::r=>bif QH q p then q::rh p r else p::q::r
def n6:List (List Nat)->List (List Nat)
 | []=>[]
 |p::r=>rh p (n6 r)
def SV.norm:SV->SV
 | .ah t x own=> .ah t x (n6 own)
 |v=>v
def bk.norm(B:bk):bk:={B with own:=n6 B.own}
def State.norm(s:State):State:=⟨s.sl.map fun v=>v.map SV.norm,s.bs.map fun b=>b.map bk.norm⟩
def pq(l:List Nat)(s:State)(K:State->Option R):Option R:=
 let sl:=eZ [.undef] l 0 s.sl
 bif sl.all (fun v=>v.all (SV.roots l)) then K (State.norm ⟨sl,s.bs.headD none::eZ none l 0 s.bs.tail⟩) else none
def bP(k:Nat)(f:Unit->Option R):Option R:=
 match k with
 |0=>none
 |_+1=>f ()
def lO(E:Env)(k r:Nat)(s:State)(K:State->Option R):Option R:=
 match E.join r with
 |none=>K s
 |some l=>pq l s fun s=>bP k fun _=>K s
def tV(id:Nat)(l:List SV):List SV:=l.map fun v=>match v with
 | .ptr j _ _=>bif Nat.beq j id then .undef else v
 |v=>v
def pd(E:Env)(r:Nat)(s:State)(K:State->Option R):Option R:=
 match E.fz r with
 |none=>K s
 |some (d,T)=>match s.slot d,E.ty T with
  | [.ptr id (.aT (.fO n) a b) []],some (.sl e t)=>if a.b7 t=true then match s.box id with
    |some B=>if h:B.t.b7 (.aT .row t b)=true then
      bif Nat.beq n (List.length (Ty.cast h B.x:List (El t))) then K {sl:=(s.sl.map (tV id)).set d [.ah (.sl e t) (Ty.cast h B.x:List (El t)) []],bs:=s.bs.set id none} else none
     else none
    |none=>none else none
  |_,_=>none
def vn(id:Nat)(B:bk)(v:SV):SV:=
 match v with
 | .ptr j t p=>bif Nat.beq j id then(if t.b7 B.t=true then match El.get B.t p B.x with
    |some ⟨u,y⟩=> .view u y
    |none=> .undef else .undef) else .ptr j t p
 |v=>v
def Nq(id:Nat)(s:State)(K:State->Option R):Option R:=
 match s.box id with
 |some B=>if B.t.bE=true then none else K {sl:=s.sl.map fun l=>l.map (vn id B),bs:=s.bs.set id none}
 |none=>none
def BR:List Nat->State->(State->Option R)->Option R
 | [],s,K=>K s
 |id::r,s,K=>Nq id s fun s=>BR r s K
def gV(l:List Nat):Nat->List (Option bk)->List (Option bk)
 |_,[]=>[]
 |i,b::r=>(bif l.any (Nat.beq i) then b.map (fun B=>{B with own:=[]}) else b)::gV l (i+1) r
def State.drop(l:List Nat)(s:State):State:={s with bs:=gV l 0 s.bs}
def ax(body:State->(Ex->State->Option R)->Option R)(l lx:List Nat):Nat->State->(Ex->State->Option R)->Option R
 |0,_,_=>none
 |k+1,s,K=>body s fun e s=>match e with
  | .normal=>pq l s fun s=>ax body l lx k s K
  |e=>pq lx s fun s=>K e s
def Ty.flat:Ty->Bool
 | .sl _ _=>false
 | .aT _ _ _=>false
 | .arr _ t=>t.flat
 | .pair a b=>a.flat&&b.flat
 |_=>true
def SV.flat:SV->Bool
 | .ah t _ own=>t.flat&&own.isEmpty
 | .ptr _ _ _| .view _ _| .cap _ _ _ _ _=>false
 |_=>true
def jZ(o:Nat):Nat->List (List SV)->Bool
 |_,[]=>true
 |i,l::r=>(Nat.beq i o||l.all SV.flat)&&jZ o (i+1) r
def jf:Nat->Nat->List (List SV)->List (List SV)
 |0,_,sl=>sl
 |n+1,m,sl=>jf n (m+1) (sl.set m [.undef])
def isDst(o:Oper)(d:Nat):Bool:=
 match o.dst,o.guard with
 |some d',none=>Nat.beq d' d
 |_,_=>false
def eA(x:Operand)(i:Nat):Bool:=
 match x with
 | .tmp j=>Nat.beq j i
 |_=>false
def ur(E:Env)(T:TypeId):Bool:=
 match E.ty T with
 |some (.int .u8)=>true
 |_=>false
def Nr(E:Env)(T:TypeId):Bool:=
 match E.ty T with
 |some (.sl _ (.int .u8))=>true
 |_=>false
def AV(o:Oper)(d x:Nat):Bool:=isDst o d&&(match o.op with
 | .move y=>eA y x
 |_=>false)
def isLen(E:Env)(o:Oper)(d x:Nat):Bool:=isDst o d&&(match o.op with
 | .call ⟨.builtin .len,dL,ts⟩=>match dL.toList,ts.toList with
   | [y],[T]=>eA y x&&Nr E T
   |_,_=>false
 |_=>false)
def Po(o:Oper)(d x:Nat):Bool:=isDst o d&&(match o.op with
 | .binOp .sub _ y (.const (.int .i64 c)) _=>eA y x&&decide (c=1)
 |_=>false)
def uq(E:Env)(o:Oper)(d x i:Nat):Bool:=isDst o d&&(match o.op with
 | .indexAddr T y j=>eA y x&&(eA j i&&Nr E T)
 |_=>false)
def zV(E:Env)(o:Oper)(d x:Nat):Bool:=isDst o d&&(match o.op with
 | .load T y=>eA y x&&ur E T
 |_=>false)
def rj(o:Oper)(d x y:Nat):Bool:=isDst o d&&(match o.op with
 | .binOp .add _ u v _=>eA u x&&eA v y
 |_=>false)
def ri(E:Env)(o:Oper)(x y:Nat):Bool:=(match o.dst,o.guard with
 |none,none=>true
 |_,_=>false)&&(match o.op with
 | .store T u v=>eA u x&&(eA v y&&ur E T)
 |_=>false)
def zY(E:Env)(o x m:Nat)(ops:List Oper):Bool:=
 match ops with
 | [a0,a1,a2,a3,a4,a5,a6,a7,a8,a9,x9,ya,a12,D9]=>AV a0 m o&&(AV a1 (m+1) o&&(isLen E a2 (m+2) (m+1)&&(Po a3 (m+3) (m+2)&&(AV a4 (m+4) o&&(AV a5 (m+5) o&&(isLen E a6 (m+6) (m+5)&&(Po a7 (m+7) (m+6)&&(uq E a8 (m+8) (m+4) (m+7)&&(zV E a9 (m+9) (m+8)&&(AV x9 (m+10) x&&(rj ya (m+11) (m+9) (m+10)&&(uq E a12 (m+12) m (m+3)&&ri E D9 (m+12) (m+11)))))))))))))
 |_=>false
def xp(e:TypeId)(xs:List Int)(y:Int)(own:List (List Nat)):List SV:=[.ah (.sl e (.int .u8)) (xs.set (IntKind.i64.wrap ((xs.length:Int)-1)).toNat (IntKind.u8.wrap (xs.getD (IntKind.i64.wrap ((xs.length:Int)-1)).toNat 0+y)):List Int) own]
def ke(E:Env)(q:Nat×Nat×Nat)(ops:List Oper)(s:State)(K:State->Option R):Option R:=
 bif zY E q.1 q.2.1 q.2.2 ops then
  bif Nat.ble (q.1+1) q.2.2&&(Nat.ble (q.2.1+1) q.2.2&&(!(Nat.beq q.1 q.2.1)&&Nat.ble (q.2.2+13) s.sl.length)) then
   match s.slot q.1,s.slot q.2.1 with
   | [.ah (.sl e (.int .u8)) xs own],[.ah (.int .u8) y _]=>
     bif mh own [] then
      bif jZ q.1 0 (jf 13 q.2.2 s.sl)&&s.bs.all Option.isNone then
       zd (IntKind.i64.wrap ((List.length (xs:List Int):Int)-1)) (List.length (xs:List Int)) (K ⟨(jf 13 q.2.2 s.sl).set q.1 (xp e xs y own),s.bs⟩)
      else none
     else none
   |_,_=>none
  else none
 else none
def tW(own:List (List Nat)):List (List Nat):=own.filterMap fun p=>match p with
 |(j+1)::p=>some (j::p)
 |_=>none
def Ty.ci:Ty->List (List Nat)->Bool
 | .sl _ t,own=>t.flat&&mh own []
 | .pair a b,own=>a.ci (JN own [0])&&b.ci (tW own)
 | .aT _ _ _,_=>false
 | .arr _ t,_=>t.flat
 |_,_=>true
def bk.ci(B:bk):Bool:= !B.t.bE&&B.t.ci B.own
def SV.ci(bs:List (Option bk)):SV->Bool
 | .ah t _ own=>t.ci own
 | .view _ _| .cap _ _ _ _ _=>false
 | .ptr id _ _=>match bs.getD id none with
   |some B=>B.ci
   |none=>false
 |_=>true
def hold(bs:List (Option bk))(l:List SV):List SV:=bif l.all (SV.ci bs) then l else [.undef]
def Pr:Option bk->Option bk
 |some B=>bif B.ci then some B else none
 |none=>none
def State.ci(x:Nat)(s:State):State:=⟨(s.sl.set x [.undef]).map (hold s.bs),s.bs.map Pr⟩
def rF(E:Env)(x d:Nat)(T T':TypeId)(i vo:Operand)(s:State)(K:State->Option R):Option R:=
 match s.slot x with
 | [.ah (.sl e t) xs own]=>bif mh own [] then
     match E.ty T,E.ty T' with
     |some u,some w=>bif u.b7 (.sl e t)&&(w.b7 t&&Nat.ble (d+1) s.sl.length) then
       (s.ay i).num fun n=>((s.aG (some d) [.undef]).ay vo).el t fun _=>zd n (List.length (xs:List (El t))) (K ((s.aG (some d) [.undef]).ci x))
      else none
     |_,_=>none
   else none
 |_=>none
def rB(o:Oper):Bool:=
 match o.dst,o.guard with
 |none,none=>true
 |_,_=>false
def hM(E:Env)(oA oS:Oper)(s:State)(K:State->Option R):Option R:=
 match oA.op,oS.op with
 | .indexAddr T (.tmp x) i,.store T' (.tmp d) vo=>bif isDst oA d&&(!(Nat.beq x d)&&rB oS) then rF E x d T T' i vo s K else none
 |_,_=>none
def Ns{α:Type}:List α->Option (List α×α×α)
 | []=>none
 | [_]=>none
 | [a,b]=>some ([],a,b)
 |a::r=>match Ns r with
  |some (l,x,y)=>some (a::l,x,y)
  |none=>none
def kc(E:Env)(C:FuncId->bF R)(ops:List Oper)(s:State)(K:State->Option R):Option R:=
 match Ns ops with
 |some (l,oA,oS)=>steps E C ops l s fun s=>hM E oA oS s K
 |none=>none
def BV(E:Env)(C:FuncId->bF R)(i:Nat)(ops:Array Oper)(d:Bool)(s:State)(K:State->Option R):Option R:=
 pd E i s fun s=>BR (E.fr i) s fun s=>bif d then xO E C ops.toList ops.toList 0 s [] K else steps E C ops.toList ops.toList s K
def ev(E:Env)(C:FuncId->bF R)(k:Nat):Code->State->(Ex->State->Option R)->Option R
 | .skip,s,K=>K .normal s
 | .region i ops d,s,K=>match E.sp with
   |some (j,q)=>bif Nat.beq i j then(match d with
    |true=>none
    |false=>bif Nat.beq q.2.2 0 then kc E C ops.toList s (K .normal) else ke E q ops.toList s (K .normal)) else BV E C i ops d s (K .normal)
   |none=>BV E C i ops d s (K .normal)
 | .seq a b,s,K=>ev E C k a s fun e s=>match e with
   | .normal=>lO E k (rT b) s fun s=>ev E C k b s K
   |e=>K e s
 | .cond c a b,s,K=>match s.ay c with
   | .ah .bool p _=>bif p then ev E C k a (s.aG (rM c) (bl true)) K else ev E C k b (s.aG (rM c) (bl false)) K
   |_=>none
 | .block id b,s,K=>ev E C k b s fun e s=>match e with
   | .exit j=>bif Nat.beq j id then K .normal s else K (.exit j) s
   |e=>K e s
 | .loop b,s,K=>pq (E.cZ (rT b)) (s.drop (E.dr (rT b))) fun s=>ax (ev E C k b) (E.cZ (rT b)) (E.j6 (rT b)) k s K
 | .exit id,s,K=>K (.exit id) s
 | .ret,s,K=>K .ret s
 |_,_,_=>none
def fG(E:Env):State->List ResultVar->Option (List SV×State)
 |s,[]=>some ([],s)
 |s,.tmp t::r=>match fG E (s.close [(t,0)]) r with
  |some (l,s')=>some (one (s.slot t)::l,s')
  |none=>none
 |s,.cell p T::r=>match s.slot p,E.ty T with
  | [.ptr id u []],some t=>match s.box id with
    |some B=>if(t.b7 B.t&& !u.bE)=true then match fG E (s.aC (some (id,{B with own:=[]}))) r with
      |some (l,s')=>some (.ah B.t B.x B.own::l,s')
      |none=>none
     else none
    |none=>none
  |_,_=>none
def xN:List SV->List Nat
 | []=>[]
 | .ptr id _ _::r=>id::xN r
 |_::r=>xN r
def Ch(s:State)(bx:Option bk)(l:List SV)(K:List SV->Option bk->Option R):Option R:=
 match bx,xN l with
 |some _,[]=>match s.box 0 with
  |some B=>K l (some B)
  |none=>none
 |none,[]=>K l none
 |none,[id]=>match s.box id with
  |some B=>K (l.map (SV.gw 0)) (some B)
  |none=>none
 |_,_=>none
def hI(E:Env)(l:List SV):List SV:=bif E.ro then l.map SV.shut else l
def aI:List Ty->List SV->List SV
 | .sl e t::r,.cm::q=> .ah (.sl e t) ([]:List (El t)) []::aI r q
 |_::r,v::q=>v.shut::aI r q
 | [],q=>q
 |_,[]=>[]
def im(E:Env)(C:FuncId->bF R)(k:Nat)(fn:Func)(code:Code)(vs:List SV)(bx:Option bk)(K:List SV->Option bk->Option R):Option R:=
 bif E.sp.isSome&&bx.isSome then none else
 let n:=fn.ntmps-vs.length
 let s:State:=⟨(aI E.ps vs).map (fun v=>[v])++List.replicate n [.undef],bx::List.replicate (vs.length+n) none⟩
 ev E C k code s fun e s=>match e with
  | .exit _=>none
  |_=>match fG E s fn.results.toList with
   |some (l,s')=>Ch s' bx (hI E l) K
   |none=>none
end
end Go.Ref

namespace Go.Ref
open Go
theorem zq{R S:Type}{sv:SV}{t:Ty}{F:El t->Option R}{G:El t->Option S}{K:S->Option R}(h:∀y,F y=(G y).bind K):sv.el t F=(sv.el t G).bind K:=by
 cases sv with
 |ah t' x own=>
  simp only[SV.el]
  split
  ·exact h _
  ·rfl
 |cm=>cases t<;>simp only[SV.el]<;>first|rfl|exact h _
 |_=>rfl
theorem zk{R S:Type}{b:Bool}{x y:Option R}{x' y':Option S}{K:S->Option R}(h:x=x'.bind K)(k:y=y'.bind K):(bif b then x else y)=(bif b then x' else y').bind K:=by
 cases b
 ·exact k
 ·exact h
theorem zo{R S:Type}{c:Prop}[Decidable c]{x y:Option R}{x' y':Option S}{K:S->Option R}(h:x=x'.bind K)(k:y=y'.bind K):(if c then x else y)=(if c then x' else y').bind K:=by
 split
 ·exact h
 ·exact k
section
variable {R:Type}
theorem zmf{op:BinOp}{k k':IntKind}{m n:Int}{K:List SV->Option R}:oQ op k m k' n K=(oQ op k m k' n some).bind K:=by
 unfold oQ
 cases op<;>simp only<;>repeat(first|rfl|refine zk ?_ ?_|refine zo ?_ ?_)
theorem zmh{op:BinOp}{m n:ByteArray}{K:List SV->Option R}:oR op m n K=(oR op m n some).bind K:=by
 unfold oR
 cases op<;>simp only<;>repeat(first|rfl|refine zk ?_ ?_|refine zo ?_ ?_)
theorem zme{E:Env}{op:BinOp}{T:TypeId}{x y:SV}{K:List SV->Option R}:oP E op T x y K=(oP E op T x y some).bind K:=by
 unfold oP
 split
 ·refine zo rfl (zq fun a=>zq fun b=> ?_)
  split
  ·cases op<;>rfl
  ·rfl
 ·rfl
theorem aaW{E:Env}{op:BinOp}{T:TypeId}{x y:SV}{S:Type}{F:List SV->Option R}{G:List SV->Option S}{K:S->Option R}(h:∀l,F l=(G l).bind K):bin E op T x y F=(bin E op T x y G).bind K:=by
 unfold bin
 split
 ·rw[zmf,zmf (K:=G),Option.bind_assoc];congr;funext l;exact h l
 ·rw[zmh,zmh (K:=G),Option.bind_assoc];congr;funext l;exact h l
 ·refine zo rfl ?_;cases op<;>simp only<;>first|exact h _|rfl
 ·refine zo rfl ?_;cases op<;>simp only<;>first|exact h _|rfl
 ·rw[zme,zme (K:=G),Option.bind_assoc];congr;funext l;exact h l
theorem Bm{S:Type}{i:Int}{n:Nat}{x:Option R}{x':Option S}{K:S->Option R}(h:x=x'.bind K):zd i n x=(zd i n x').bind K:=by
 unfold zd
 exact zk (zk h rfl) rfl
theorem zbv{S:Type}{lo:Option SV}{m:Nat}{F:Nat->Option R}{G:Nat->Option S}{K:S->Option R}(h:∀l,F l=(G l).bind K):vl lo m F=(vl lo m G).bind K:=by
 unfold vl
 cases lo with
 |none=>exact h _
 |some v=>exact zq fun y=>zk (zk (h _) rfl) rfl
theorem zwh{S:Type}{lo hi:Option SV}{n:Nat}{F:Nat->Nat->Option R}{G:Nat->Nat->Option S}{K:S->Option R}(h:∀l h,F l h=(G l h).bind K):cutAt lo hi n F=(cutAt lo hi n G).bind K:=by
 unfold cutAt
 cases hi with
 |none=>exact zbv fun l=>h _ _
 |some w=>exact zq fun y=>zk (zk (zbv fun l=>h _ _) rfl) rfl
theorem zqi{S:Type}{t:Ty}{F:El t->List (List Nat)->Option R}{G:El t->List (List Nat)->Option S}{K:S->Option R}(h:∀y o,F y o=(G y o).bind K):∀(l:List (Nat×SV×List (List Nat))) (x:El t) (own:List (List Nat)),po t x own l F=(po t x own l G).bind K
 | [],x,own=>by simpa [po] using h x own
 |(i,v,ov)::r,x,own=>by
  simp only[po]
  refine zo rfl ?_
  split
  ·refine zq fun y=> ?_
   split
   ·exact zqi h r _ _
   ·rfl
  ·rfl
theorem zqj{S:Type}{t:Ty}{F:List (El t)->Option R}{G:List (El t)->Option S}{K:S->Option R}(h:∀y,F y=(G y).bind K):∀(l:List (Nat×SV)) (x:List (El t)),xL t x l F=(xL t x l G).bind K
 | [],x=>by simpa [xL] using h x
 |(i,v)::r,x=>by
  simp only[xL]
  exact zo rfl (zq fun y=>zqj h r _)
variable {S:Type} {F:Out->Option R} {G:Out->Option S} {K:S->Option R}
theorem SR{u:Ty}{s:State}{id:Nat}{t:Ty}{p:List Nat}(h:∀y,F y=(G y).bind K):Az u s id t p F=(Az u s id t p G).bind K:=by
 unfold Az
 split
 ·split
  ·split
   ·exact zo (zk (h _) rfl) rfl
   ·rfl
  ·rfl
 ·rfl
theorem Su{u:Ty}{s:State}{id:Nat}{t:Ty}{p:List Nat}{v:SV}(h:∀y,F y=(G y).bind K):Ai u s id t p v F=(Ai u s id t p v G).bind K:=by
 unfold Ai
 split
 ·split
  ·split
   ·exact zo (zq fun y=>zk (h _) rfl) rfl
   ·rfl
  ·rfl
 ·rfl
theorem So{t:Ty}{n:Int}{id:Nat}{r:Ty}{p:List Nat}(h:∀y,F y=(G y).bind K):Is t n id r p F=(Is t n id r p G).bind K:=by
 unfold Is
 split
 ·exact zo (Bm (h _)) rfl
 ·rfl
theorem SQ{u:Ty}{B:bk}{t:Ty}{p:List Nat}(h:∀y,F y=(G y).bind K):BU u B t p F=(BU u B t p G).bind K:=by
 unfold BU
 split
 ·split
  ·exact zo (zk (h _) rfl) rfl
  ·rfl
 ·rfl
theorem YU{E:Env}{T:TypeId}{s:State}{la:Bool}{v:SV}(h:∀y,F y=(G y).bind K):load E T s la v F=(load E T s la v G).bind K:=by
 unfold load
 split
 ·split
  ·exact zo (h _) rfl
  ·refine zo (SR h) ?_
   split
   ·refine zo ?_ (SQ h)
    split
    ·exact zo (zk (h _) (h _)) rfl
    ·rfl
   ·rfl
  ·rfl
 ·rfl
theorem Wc{E:Env}{T:TypeId}{s:State}{v:SV}{x:Operand}(h:∀y,F y=(G y).bind K):store E T s v x F=(store E T s v x G).bind K:=by
 unfold store
 split
 ·split
  ·refine zo (Su h) ?_
   split
   ·refine zo ?_ rfl
    split
    ·refine zo (zq fun y=> ?_) rfl
     split
     ·exact h _
     ·rfl
    ·rfl
   ·rfl
  ·rfl
 ·rfl
theorem Tn{t:Option Ty}{v:SV}{j:Nat}(h:∀y,F y=(G y).bind K):JH t v j F=(JH t v j G).bind K:=by
 unfold JH
 split
 ·refine zo rfl ?_
  split
  ·refine zo ?_ rfl
   split
   ·exact zo rfl (h _)
   ·rfl
  ·rfl
 ·refine zo ?_ rfl
  split
  ·exact zo rfl (h _)
  ·rfl
 ·rfl
theorem zvj{v:SV}{F':Int->Option R}{G':Int->Option S}{K:S->Option R}(h:∀n,F' n=(G' n).bind K):v.num F'=(v.num G').bind K:=by
 unfold SV.num
 split
 ·exact h _
 ·rfl
theorem Tt{E:Env}{T:TypeId}{v i:SV}(h:∀y,F y=(G y).bind K):JJ E T v i F=(JJ E T v i G).bind K:=by
 unfold JJ
 refine zvj fun n=> ?_
 split
 ·exact zq fun y=>Bm (h _)
 ·refine zo rfl ?_
  split
  ·exact zo (Bm (h _)) rfl
  ·rfl
 ·exact zq fun y=>Bm (h _)
 ·exact So h
 ·rfl
theorem Tu{E:Env}{T:TypeId}{v i:SV}(h:∀y,F y=(G y).bind K):JK E T v i F=(JK E T v i G).bind K:=by
 unfold JK
 refine zvj fun n=> ?_
 split
 ·exact zq fun y=>Bm (h _)
 ·exact zq fun y=>Bm (h _)
 ·rfl
theorem Yt{E:Env}{T:TypeId}{v:SV}{lo hi:Option SV}(h:∀y,F y=(G y).bind K):oU E T v lo hi F=(oU E T v lo hi G).bind K:=by
 unfold oU
 split
 ·exact zq fun y=>zwh fun _ _=>h _
 ·exact zq fun y=>zwh fun _ _=>h _
 ·rfl
theorem SF{E:Env}{T U:TypeId}{bo:Operand}{b x:SV}(h:∀y,F y=(G y).bind K):Ja E T U bo b x F=(Ja E T U bo b x G).bind K:=by
 unfold Ja
 refine zo rfl ?_
 split
 ·refine zo rfl ?_
  split
  ·exact zq fun y=>zk (h _) rfl
  ·exact zo rfl (zq fun y=>zq fun z=>zk (h _) rfl)
  ·rfl
 ·rfl
theorem YR{E:Env}{T:TypeId}{x:SV}(h:∀y,F y=(G y).bind K):ru E T x F=(ru E T x G).bind K:=by
 unfold ru
 split
 ·exact zq fun y=>h _
 ·split
  ·exact h _
  ·exact zq fun y=>h _
 ·exact h _
 ·rfl
theorem Vn{E:Env}{S' T:TypeId}{x:SV}(h:∀y,F y=(G y).bind K):jX E S' T x F=(jX E S' T x G).bind K:=by
 unfold jX
 split
 ·exact zq fun y=>h _
 ·exact zq fun y=>h _
 ·exact zq fun y=>h _
 ·rfl
theorem Vm{E:Env}{S' T:TypeId}{s:State}{id n:Nat}{a b:Ty}(h:∀y,F y=(G y).bind K):iV E S' T s id n a b F=(iV E S' T s id n a b G).bind K:=by
 unfold iV
 split
 ·refine zo ?_ rfl
  split
  ·split
   ·exact zk (h _) rfl
   ·rfl
  ·rfl
 ·rfl
theorem zmt{s:State}{dst:Option Nat}{t:Ty}{x:El t}{p:Ty}(h:∀y,F y=(G y).bind K):jh s dst t x p F=(jh s dst t x p G).bind K:=by
 unfold jh
 split
 ·split
  ·exact h _
  ·rfl
 ·rfl
theorem zr0{s:State}{m:SV}{kt vt:Ty}{F:Nat->List (El kt×El vt)->Option R}{G:Nat->List (El kt×El vt)->Option S}{K:S->Option R}(h:∀n y,F n y=(G n y).bind K):sM s m kt vt F=(sM s m kt vt G).bind K:=by
 unfold sM
 split
 ·refine zo ?_ rfl
  split
  ·split
   ·exact h _ _
   ·rfl
  ·rfl
 ·rfl
theorem VJ{E:Env}{T:TypeId}{s:State}{m i:SV}(h:∀y,F y=(G y).bind K):j8 E T s m i F=(j8 E T s m i G).bind K:=by
 unfold j8
 split
 ·exact zr0 fun _ _=>zq fun _=>h _
 ·rfl
theorem Gp{E:Env}{T:TypeId}{s:State}{m i v:SV}(h:∀y,F y=(G y).bind K):kH E T s m i v F=(kH E T s m i v G).bind K:=by
 unfold kH
 split
 ·exact zr0 fun _ _=>zq fun _=>zq fun _=>zk rfl (h _)
 ·rfl
theorem VO{s:State}{m:SV}(h:∀y,F y=(G y).bind K):ka s m F=(ka s m G).bind K:=by
 unfold ka
 split
 ·split
  ·split
   ·exact zk (h _) (h _)
   ·rfl
  ·rfl
 ·rfl
theorem VL{E:Env}{T:TypeId}{s:State}{dst:Option Nat}{lo:Operand}{l c:SV}(h:∀y,F y=(G y).bind K):j9 E T s dst lo l c F=(j9 E T s dst lo l c G).bind K:=by
 unfold j9
 split
 ·exact zo rfl (zq fun n=>zq fun m=>zk (zk (zk (zk (h _) rfl) rfl) rfl) (zk (zk (zk (zmt h) rfl) rfl) rfl))
 ·rfl
theorem aby{op:UnOp}{x:SV}(h:∀y,F y=(G y).bind K):Fp op x F=(Fp op x G).bind K:=by
 unfold Fp
 split
 ·exact h _
 ·exact h _
 ·rfl
end
abbrev af:=(R:Type)->FuncId->bF R
def af.Nat(C:af):Prop:=∀(R S:Type) (f:FuncId) l b (F:List SV->Option bk->Option R) (G:List SV->Option bk->Option S) (K:S->Option R),(∀r b,F r b=(G r b).bind K)->C R f l b F=(C S f l b G).bind K
section
variable {R S:Type} {F:Out->Option R} {G:Out->Option S} {K:S->Option R} {C:af}
theorem KL(hC:C.Nat){s:State}{dst:Option Nat}{f:FuncId}{vs:List SV}(h:∀y,F y=(G y).bind K):eQ (C R) s dst f vs F=(eQ (C S) s dst f vs G).bind K:=by
 unfold eQ
 split
 ·refine hC R S f _ _ _ _ K fun r b=> ?_
  split
  ·exact h _
  ·split
   ·split
    ·exact h _
    ·rfl
   ·rfl
 ·refine hC R S f _ _ _ _ K fun r b=> ?_
  split
  ·exact zo (h _) rfl
  ·rfl
 ·rfl
theorem Vk{f:FuncId}{x:SV}(h:∀y,F y=(G y).bind K):ly f x F=(ly f x G).bind K:=by
 unfold ly
 split
 ·exact zo rfl (h _)
 ·rfl
theorem Ym{f:FuncId}{x y:SV}(h:∀y,F y=(G y).bind K):qB f x y F=(qB f x y G).bind K:=by
 unfold qB
 split
 ·exact h _
 ·rfl
theorem Ys{n id:Nat}{a b:Ty}{lo hi:Option SV}(h:∀y,F y=(G y).bind K):qD n id a b lo hi F=(qD n id a b lo hi G).bind K:=by
 unfold qD
 split
 ·rfl
 ·exact zbv fun l=>h _
theorem zwg{t:Ty}{s:State}{id n lo:Nat}{a b:Ty}{x:SV}{e:TypeId}(h:∀y,F y=(G y).bind K):gf t s id n lo a b x e F=(gf t s id n lo a b x e G).bind K:=by
 unfold gf
 refine zo (zq fun ys=> ?_) rfl
 split
 ·split
  ·exact zk (zk (h _) rfl) rfl
  ·rfl
 ·rfl
theorem Yr{E:Env}{T:TypeId}{s:State}{id n:Nat}{t:Ty}{lo hi:Option SV}(h:∀y,F y=(G y).bind K):oT E T s id n t lo hi F=(oT E T s id n t lo hi G).bind K:=by
 unfold oT
 split
 ·refine zo ?_ rfl
  split
  ·split
   ·exact h _
   ·rfl
  ·rfl
 ·rfl
theorem Vo{t:Ty}{s:State}{id n:Nat}{a b:Ty}{y:ByteArray}(h:∀y,F y=(G y).bind K):iW t s id n a b y F=(iW t s id n a b y G).bind K:=by
 unfold iW
 refine zo (zo ?_ rfl) rfl
 split
 ·split
  ·exact zk (h _) rfl
  ·rfl
 ·rfl
theorem Vp{E:Env}{T:TypeId}{s:State}{d x:SV}(h:∀y,F y=(G y).bind K):copyV E T s d x F=(copyV E T s d x G).bind K:=by
 unfold copyV
 split
 ·split
  ·exact Vo h
  ·exact zwg h
 ·exact zwg h
 ·rfl
theorem zxf{g:Bool}{x y:SV}(h:∀y,F y=(G y).bind K):jg g x y F=(jg g x y G).bind K:=by
 unfold jg
 split
 ·exact h _
 ·rfl
theorem F6{E:Env}{T:TypeId}(h:∀y,F y=(G y).bind K):mR E T F=(mR E T G).bind K:=by
 unfold mR
 split
 ·exact h _
 ·exact h _
theorem va(hC:C.Nat){E:Env}{ops:List Oper}{o:Oper}{s:State}(h:∀y,F y=(G y).bind K):act E (C R) ops o s F=(act E (C S) ops o s G).bind K:=by
 unfold act
 split
 ·split
  ·exact zk (h _) (h _)
  ·split
   ·exact zk (h _) (h _)
   ·rfl
   ·exact F6 h
   ·exact h _
 ·split
  ·exact h _
  ·rfl
  ·exact F6 h
  ·exact h _
 ·split
  ·exact zk (h _) (h _)
  ·rfl
 ·exact aaW fun l=>h _
 ·exact aby h
 ·split
  ·exact Vm h
  ·exact Vn h
 ·exact YU h
 ·exact Wc h
 ·split
  ·exact zo rfl (h _)
  ·exact h _
  ·rfl
 ·exact Tn h
 ·exact Tt h
 ·exact Tu h
 ·split
  ·refine zo rfl (zq fun y=> ?_)
   split
   ·exact h _
   ·rfl
  ·rfl
 ·split
  ·split
   ·exact zo (Ys h) rfl
   ·rfl
  ·exact Yr h
  ·exact Yt h
 ·split
  ·exact Vk h
  ·exact Ym h
  ·rfl
 ·split
  ·split
   ·exact h _
   ·rfl
  ·split
   ·split
    ·exact h _
    ·rfl
   ·rfl
  ·rfl
 ·split
  ·split
   ·exact zq fun y=>h _
   ·rfl
  ·rfl
 ·split
  ·exact zo rfl (zqi (fun y o=>h _) _ _ _)
  ·rfl
 ·split
  ·exact zo rfl (zk (zqj (fun y=>h _) _ _) rfl)
  ·rfl
 ·split
  ·refine zo ?_ ?_
   ·split
    ·exact h _
    ·rfl
   split
   ·exact h _
   ·rfl
   ·exact h _
   ·rfl
  ·rfl
 ·split
  ·exact zmt h
  ·rfl
 ·exact VJ h
 ·exact Gp h
 ·exact Gp h
 ·split
  ·exact zq fun y=>zmt h
  ·rfl
 ·exact VO h
 ·exact VL h
 ·exact KL hC fun u=>h _
 ·split
  ·exact zo rfl (KL hC h)
  ·exact KL hC h
  ·rfl
 ·split
  ·exact Vp h
  ·rfl
 ·split
  ·exact YR h
  ·rfl
 ·split
  ·exact SF h
  ·rfl
 ·split
  ·exact zxf h
  ·rfl
 ·split
  ·exact zxf h
  ·rfl
 ·rfl
end
section
variable {R S:Type} {F:State->Option R} {G:State->Option S} {K:S->Option R} {C:af}
theorem zn0(hC:C.Nat){E:Env}{ops:List Oper}{o:Oper}{s:State}(h:∀y,F y=(G y).bind K):step E (C R) ops o s F=(step E (C S) ops o s G).bind K:=by
 unfold step
 simp only
 split
 ·exact va hC fun y=>h _
 ·split
  ·rfl
  ·split
   ·exact zk (zk (va hC fun y=>h _) (h _)) (zk (h _) (va hC fun y=>h _))
   ·exact h _
   ·rfl
theorem Io(hC:C.Nat){E:Env}{ops:List Oper}(h:∀y,F y=(G y).bind K):∀(l:List Oper) (s:State),steps E (C R) ops l s F=(steps E (C S) ops l s G).bind K
 | [],s=>h s
 |o::r,s=>by
  simp only[steps]
  exact zn0 hC fun s=>Io hC h r s
theorem Wa(hC:C.Nat){E:Env}{ops:List Oper}{o:Oper}{i:Nat}{s:State}{tr:List dq}{F:State->List dq->Option R}{G:State->List dq->Option S}(h:∀y t,F y t=(G y t).bind K):kd E (C R) ops o i s tr F=(kd E (C S) ops o i s tr G).bind K:=by
 unfold kd
 simp only
 split
 ·exact va hC fun y=>zk (h _ _) rfl
 ·split
  ·rfl
  ·split
   ·exact zk (zk (va hC fun y=>zk (h _ _) rfl) (zk (h _ _) rfl)) (zk (zk (h _ _) rfl) (va hC fun y=>zk (h _ _) rfl))
   ·exact zk (h _ _) rfl
   ·rfl
theorem zc8(hC:C.Nat){E:Env}{ops:List Oper}(h:∀y,F y=(G y).bind K):∀(l:List Oper) (i:Nat) (s:State) (tr:List dq),xO E (C R) ops l i s tr F=(xO E (C S) ops l i s tr G).bind K
 | [],i,s,tr=>h s
 |o::r,i,s,tr=>by
  simp only[xO]
  exact Wa hC fun s tr=>zc8 hC h r (i+1) s tr
theorem Ih{l:List Nat}{s:State}(h:∀y,F y=(G y).bind K):pq l s F=(pq l s G).bind K:=by
 unfold pq
 exact zk (h _) rfl
end
theorem VH{R S:Type}{k:Nat}{F:Unit->Option R}{G:Unit->Option S}{K:S->Option R}(h:F ()=(G ()).bind K):bP k F=(bP k G).bind K:=by
 unfold bP
 cases k
 ·rfl
 ·exact h
theorem YV{R S:Type}{F:State->Option R}{G:State->Option S}{K:S->Option R}{E:Env}{k r:Nat}{s:State}(h:∀y,F y=(G y).bind K):lO E k r s F=(lO E k r s G).bind K:=by
 unfold lO
 split
 ·exact h _
 ·exact Ih fun s=>VH (h _)
theorem Zj{R S:Type}{F:State->Option R}{G:State->Option S}{K:S->Option R}{E:Env}{r:Nat}{s:State}(h:∀y,F y=(G y).bind K):pd E r s F=(pd E r s G).bind K:=by
 unfold pd
 split
 ·exact h _
 ·split
  ·refine zo ?_ rfl
   split
   ·split
    ·exact zk (h _) rfl
    ·rfl
   ·rfl
  ·rfl
theorem zks{R S:Type}{F:State->Option R}{G:State->Option S}{K:S->Option R}(h:∀y,F y=(G y).bind K):∀(l:List Nat) (s:State),BR l s F=(BR l s G).bind K
 | [],s=>h s
 |id::r,s=>by
  simp only[BR]
  unfold Nq
  split
  ·exact zo rfl (zks h r _)
  ·rfl
section
variable {R S:Type} {F:Ex->State->Option R} {G:Ex->State->Option S} {K:S->Option R} {C:af}
theorem zxe{body:State->(Ex->State->Option R)->Option R}{body':State->(Ex->State->Option S)->Option S}{l lx:List Nat}
 (hb:∀(F:Ex->State->Option R) (G:Ex->State->Option S),(∀e s,F e s=(G e s).bind K)->∀s,body s F=(body' s G).bind K) (h:∀e s,F e s=(G e s).bind K):
 ∀(k:Nat) (s:State),ax body l lx k s F=(ax body' l lx k s G).bind K
 |0,_=>rfl
 |k+1,s=>by
  simp only[ax]
  refine hb _ _ (fun e s=> ?_) s
  cases e with
  |normal=>exact Ih fun s=>zxe hb h k s
  |exit id=>exact Ih fun s=>h _ _
  |ret=>exact Ih fun s=>h _ _
theorem Gk{E:Env}{q:Nat×Nat×Nat}{ops:List Oper}{s:State}{F:State->Option R}{G:State->Option S}{K:S->Option R}(h:∀s,F s=(G s).bind K):ke E q ops s F=(ke E q ops s G).bind K:=by
 unfold ke
 refine zk (zk ?_ rfl) rfl
 split
 ·refine zk (zk ?_ rfl) rfl
  unfold zd
  exact zk (zk (h _) rfl) rfl
 ·rfl
theorem VW{E:Env}{oA oS:Oper}{s:State}{F:State->Option R}{G:State->Option S}{K:S->Option R}(h:∀s,F s=(G s).bind K):hM E oA oS s F=(hM E oA oS s G).bind K:=by
 unfold hM
 split
 ·refine zk ?_ rfl
  unfold rF
  split
  ·refine zk ?_ rfl
   split
   ·refine zk (zvj fun n=>zq fun y=> ?_) rfl
    unfold zd
    exact zk (zk (h _) rfl) rfl
   ·rfl
  ·rfl
 ·rfl
theorem Gc(hC:C.Nat){E:Env}{ops:List Oper}{s:State}{F:State->Option R}{G:State->Option S}(h:∀s,F s=(G s).bind K):kc E (C R) ops s F=(kc E (C S) ops s G).bind K:=by
 unfold kc
 split
 ·exact Io hC (fun s=>VW h) _ _
 ·rfl
theorem sL(hC:C.Nat){E:Env}{k:Nat}:∀(c:Code) (F:Ex->State->Option R) (G:Ex->State->Option S),(∀e s,F e s=(G e s).bind K)->∀s,ev E (C R) k c s F=(ev E (C S) k c s G).bind K
 | .skip,F,G,h,s=>h _ _
 | .region i ops d,F,G,h,s=>by
   simp only[ev]
   have key:BV E (C R) i ops d s (F .normal)=(BV E (C S) i ops d s (G .normal)).bind K:=Zj fun s=>zks (fun s=>zk (zc8 hC (fun s=>h _ _) _ _ _ _) (Io hC (fun s=>h _ _) _ _)) _ _
   split
   ·refine zk ?_ key
    cases d with
    |true=>rfl
    |false=>exact zk (Gc hC fun s=>h _ _) (Gk fun s=>h _ _)
   ·exact key
 | .seq a b,F,G,h,s=>by
   simp only[ev]
   refine sL hC a _ _ (fun e s=> ?_) s
   cases e with
   |normal=>exact YV fun s=>sL hC b _ _ h s
   |exit id=>exact h _ _
   |ret=>exact h _ _
 | .cond c a b,F,G,h,s=>by
   simp only[ev]
   split
   ·exact zk (sL hC a _ _ h _) (sL hC b _ _ h _)
   ·rfl
 | .block id b,F,G,h,s=>by
   simp only[ev]
   refine sL hC b _ _ (fun e s=> ?_) s
   cases e with
   |normal=>exact h _ _
   |exit j=>exact zk (h _ _) (h _ _)
   |ret=>exact h _ _
 | .loop b,F,G,h,s=>by
   simp only[ev]
   exact Ih fun s=>zxe (fun F G h s=>sL hC b F G h s) h k s
 | .exit id,F,G,h,s=>h _ _
 | .ret,F,G,h,s=>h _ _
 | .rangeFunc ..,F,G,h,s=>rfl
 | .scope _,F,G,h,s=>rfl
 | .label _,F,G,h,s=>rfl
 | .goto _,F,G,h,s=>rfl
 | .refuse _,F,G,h,s=>rfl
end
theorem kO{R S:Type}{x:Option R}{y:Option S}{K:S->Option R}(h:x=y.bind K){z:R}(hz:x=some z):∃w,y=some w/\K w=some z:=by
 rw[h] at hz
 exact Option.bind_eq_some_iff.1 hz
end Go.Ref

namespace Go.Ref
open Go
def dp(t:Ty)(cs:List Value):Value:=if t.agg=true then .agg cs.toArray else cs.headD undef
def bg(X:ap)(pl:Place)(e:TypeId)(k n:Nat)(v:Value):Prop:=
 (v= .slice none 0 0/\n=0)\/∃g cap cur,v= .slice (some ⟨g,0,none⟩) n cap/\X.w.heap[g]? =some (.cells cur e (0,0))/\n<=cap/\cap<=maxLen/\cur.size=cap*k/\X.ow g= .row pl (n*k)
def bf(X:ap)(pl:List Nat->Place)(t:Ty)(x:El t)(cs:List Value)(own:List (List Nat)):Prop:=
 ∀p∈own,∃e t' xs v,t.eH p/\El.get t p x=some ⟨.sl e t',xs⟩/\cs[t.off p]? =some v/\bg X (pl p) e t'.cells (List.length xs) v
def mS(t:Ty)(p:List Nat)(r:Nat)(v:Value):Prop:=
 match t,p with
 | .aT .mp _ _,_=>v= .map (some r)
 | .aT (.fO n) _ _,[]=>∃cap,v= .slice (some ⟨r,0,none⟩) n cap/\n<=cap
 | .aT (.fO n) a _,[l]=>∃cap off,v= .slice (some ⟨r,off,none⟩) (n-l) cap/\n-l<=cap/\l<=n/\((n=l/\off=0)\/off=l*a.cells)
 | .aT (.pD f) _ _,[]=>v= .func (.func f) #[] #[.pointer (some ⟨r,0,none⟩)]
 | .aT .row a _,[i]=>v= .pointer (some ⟨r,i*a.cells,none⟩)
 |t,p=>v= .pointer (some ⟨r,t.off p,none⟩)/\t.eH p
theorem n9{t:Ty}{p:List Nat}{r:Nat}{v:Value}(h:t.bE=false):mS t p r v↔v= .pointer (some ⟨r,t.off p,none⟩)/\t.eH p:=by
 unfold mS
 split
 all_goals first
  |exact Iff.rfl
  |simp [Ty.bE] at h
theorem Iv{t:Ty}{p:List Nat}{r:Nat}{v:Value}(h:t.n5=false):mS t p r v↔v= .pointer (some ⟨r,t.off p,none⟩)/\t.eH p:=by
 unfold mS
 split
 all_goals first
  |exact Iff.rfl
  |simp [Ty.n5] at h
def au(X:ap)(pl:List Nat->Place):SV->Value->Prop
 | .undef,_=>True
 | .skip,v=>v=Go.undef
 | .cm,v=>v= .slice none 0 0
 | .gn,v=>v= .pointer none
 | .ah t x own,v=>∃cs,aR X t x cs/\v=dp t cs/\bf X pl t x cs own
 | .ptr id t p,v=>∃r,X.β id=some r/\mS t p r v
 | .view t x,v=>∃ad cs,v= .pointer (some ad)/\ad.spot=none/\aR X t x cs/\∀i u,cs[i]? =some u->X.av (ad.add i) u
 | .cap f t x u y,v=>∃ad nV cs dM,v= .func (.func f) #[] #[.pointer (some ad),.pointer (some nV)]/\(ad.spot=none/\aR X t x cs/\∀i w,cs[i]? =some w->X.av (ad.add i) w)/\(nV.spot=none/\aR X u y dM/\∀i w,dM[i]? =some w->X.av (nV.add i) w)
 | .over,v=>v= .tuple #[.bool false]
theorem sA{X Y:ap}{pl ix:List Nat->Place}(h:∀a v,X.av a v->Y.av a v){f:Nat}{t u:Ty}{x:El t}{y:El u}{v:Value}(hr:au X pl (.cap f t x u y) v):au Y ix (.cap f t x u y) v:=by
 obtain⟨ad,nV,cs,dM,h1,⟨h2,h3,h4⟩,h5,h6,h7⟩:=hr
 exact⟨ad,nV,cs,dM,h1,⟨h2,h3.al h,fun i w hi=>h _ _ (h4 i w hi)⟩,h5,h6.al h,fun i w hi=>h _ _ (h7 i w hi)⟩
def cu(X:ap)(pl:Nat->List Nat->Place)(l:List SV)(v:Value):Prop:=
 match l with
 | [s]=>au X (pl 0) s v
 |l=>∃vs:Array Value,v= .tuple vs/\vs.size=l.length/\∀(j:Nat) s u,l[j]? =some s->vs[j]? =some u->au X (pl j) s u
def dt(X:ap)(t:Ty)(x:El t)(v:Value):Prop:=∃cs,aR X t x cs/\v=dp t cs
def cY(X:ap)(r:Nat)(pl:List Nat->Place):(t:Ty)->El t->List (List Nat)->Prop
 | .aT .iter _ _,x,_=>X.w.heap[r]? =some (.stringIter x.1 x.2)
 | .aT .mp kt vt,x,_=>∃es clock,X.w.heap[r]? =some (.map es clock)/\es.size=List.length x/\∀(i:Nat) (q:El kt×El vt) (e:MapEntry),x[i]? =some q->es[i]? =some e->dt X kt q.1 e.key/\dt X vt q.2 e.val
 | .aT .row t _,xs,_=>∃cs T,X.w.heap[r]? =some (.cells cs T (0,0))/\cs.size=List.length xs*t.cells/\∀(j:Nat) (x:El t),xs[j]? =some x->aR X t x ((cs.toList.drop (j*t.cells)).take t.cells)
 | .aT (.fw T e) _ _,x,own=>(∃o,X.w.heap[r]? =some o)/\([]∈own->∃v,rY T e r v (Lib.strCells x) X.w/\∀g,v.ownBlock=some g->X.ow g= .row (pl []) 0)
 | .aT _ _ _,_,_=>False
 |t,x,own=>∃cs T,X.w.heap[r]? =some (.cells cs T (0,0))/\aR X t x cs.toList/\bf X pl t x cs.toList own
theorem cY.plain{X:ap}{r:Nat}{pl:List Nat->Place}{t:Ty}{x:El t}{own:List (List Nat)}(hs:t.bE=false):cY X r pl t x own↔∃cs T,X.w.heap[r]? =some (.cells cs T (0,0))/\aR X t x cs.toList/\bf X pl t x cs.toList own:=by
 cases t<;>first|exact Iff.rfl|simp [Ty.bE] at hs
theorem cY.of{X:ap}{r:Nat}{pl:List Nat->Place}{t:Ty}{x:El t}{own:List (List Nat)}{cs:Array Value}{T:TypeId}(hs:t.bE=false)(h1:X.w.heap[r]? =some (.cells cs T (0,0)))(h2:aR X t x cs.toList)(h3:bf X pl t x cs.toList own):cY X r pl t x own:=(cY.plain hs).2 ⟨cs,T,h1,h2,h3⟩
theorem dt.mono{X Y:ap}(h:∀a v,X.av a v->Y.av a v){t:Ty}{x:El t}{v:Value}(hr:dt X t x v):dt Y t x v:=by
 obtain⟨cs,h1,h2⟩:=hr
 exact⟨cs,h1.al h,h2⟩
theorem cY.lt{X:ap}{r:Nat}{pl:List Nat->Place}{t:Ty}{x:El t}{own:List (List Nat)}(h:cY X r pl t x own):r<X.w.heap.size:=by
 have key:∀o,X.w.heap[r]? =some o->r<X.w.heap.size:=fun o ho=>(Array.getElem?_eq_some_iff.1 ho).1
 unfold cY at h
 split at h
 ·exact key _ h
 ·obtain⟨es,c,h1,_⟩:=h;exact key _ h1
 ·obtain⟨cs,T,h1,_⟩:=h;exact key _ h1
 ·obtain⟨⟨o,ho⟩,_⟩:=h;exact key _ ho
 ·exact h.elim
 ·obtain⟨cs,T,h1,_⟩:=h;exact key _ h1
theorem cY.move{X Y:ap}{r:Nat}{pl ix:List Nat->Place}{t:Ty}{x:El t}{own:List (List Nat)}(hs:∀a v,X.av a v->Y.av a v)(hh:Y.w.heap[r]? =X.w.heap[r]?)
 (ho:∀cs,bf X pl t x cs own->bf Y ix t x cs own) (hg: []∈own->∀g o,X.w.heap[g]? =some o->X.ow g= .row (pl []) 0->Y.w.heap[g]? =some o/\Y.ow g= .row (ix []) 0) (h:cY X r pl t x own):cY Y r ix t x own:=by
 unfold cY at h⊢
 split at h
 ·exact hh.trans h
 ·obtain⟨es,c,h1,h2,h3⟩:=h
  exact⟨es,c,hh.trans h1,h2,fun i q e hq he=>⟨(h3 i q e hq he).1.mono hs,(h3 i q e hq he).2.mono hs⟩⟩
 ·obtain⟨cs,T,h1,h2,h3⟩:=h
  exact⟨cs,T,hh.trans h1,h2,fun j x hj=>(h3 j x hj).al hs⟩
 ·obtain⟨⟨o,h1⟩,h2⟩:=h
  refine⟨⟨o,hh.trans h1⟩,fun hm=> ?_⟩
  obtain⟨v,h3,h4⟩:=h2 hm
  refine⟨v,h3.same hh (fun g o hv ho=>(hg hm g o ho (h4 g hv)).1),fun g hv=> ?_⟩
  obtain⟨cap,cur,yG⟩:∃cap cur,X.w.heap[g]? =some (.cells cur cap (0,0)):=by
   rcases h3.own.2 with⟨hn,_⟩|⟨g',cap,cur,mc,_,yG,_⟩
   ·rw[hn] at hv;simp [Value.ownBlock] at hv
   ·rw[mc] at hv
    simp [Value.ownBlock] at hv
    subst hv
    exact⟨_,_,yG⟩
  exact(hg hm g _ yG (h4 g hv)).2
 ·exact h.elim
 ·obtain⟨cs,T,h1,h2,h3⟩:=h
  exact⟨cs,T,hh.trans h1,h2.al hs,ho _ h3⟩
def bA(X:ap)(id r:Nat)(B:bk):Prop:=X.ow r= .box id/\cY X r (.b id) B.t B.x B.own
theorem bA.cells{X:ap}{id r:Nat}{B:bk}(h:bA X id r B)(hs:B.t.bE=false):∃cs T,X.w.heap[r]? =some (.cells cs T (0,0))/\aR X B.t B.x cs.toList/\X.ow r= .box id/\bf X (.b id) B.t B.x cs.toList B.own:=by
 obtain⟨cs,T,h1,h2,h3⟩:=(cY.plain hs).1 h.2
 exact⟨cs,T,h1,h2,h.1,h3⟩
structure Rel(X:ap)(s:State)(a:Act):Prop where
 size:s.sl.length=a.tmps.size
 gD:s.bs.length=s.sl.length+1
 bH:∀(i:Nat) l v,s.sl[i]? =some l->a.tmps[i]? =some v->cu X (.c i) l v
 boxes:∀(id:Nat) B,s.bs[id]? =some (some B)->∃r,X.β id=some r/\bA X id r B
 live:∀(i:Nat) l id t p,s.sl[i]? =some l->SV.ptr id t p∈l->∃B,s.bs[id]? =some (some B)
 defers:a.defers=[]
theorem BS{w:World}{g:Nat}{o:Obj}(h:w.heap[g]? =some o):g<w.heap.size:=(Array.getElem?_eq_some_iff.1 h).1
theorem cu.jF{X Y:ap}{pl ix:Nat->List Nat->Place}{l:List SV}{v:Value}(hr:cu X pl l v)(h:∀(j:Nat) s u,l[j]? =some s->au X (pl j) s u->au Y (ix j) s u):cu Y ix l v:=by
 match l,hr with
 | [s],hr=>exact h 0 s v (by simp) hr
 | [],⟨vs,h1,h2,h3⟩=>exact⟨vs,h1,h2,fun j s u hs hu=>h j s u hs (h3 j s u hs hu)⟩
 |x::y::r,⟨vs,h1,h2,h3⟩=>exact⟨vs,h1,h2,fun j s u hs hu=>h j s u hs (h3 j s u hs hu)⟩
def ct(s:State):Place->Prop
 | .c i j p=>∃l t x own,s.sl[i]? =some l/\l[j]? =some (.ah t x own)/\p∈own
 | .b id p=>∃B,s.bs[id]? =some (some B)/\p∈B.own
 | .r _ _=>False
structure Mod(s:State)(X Y:ap):Prop where
 av:∀a v,X.av a v->Y.av a v
 size:X.w.heap.size<=Y.w.heap.size
 os:Y.w.os=X.w.os
 tape:Y.w.tape=X.w.tape
 output:Y.w.output=X.w.output
 β0:Y.β 0=X.β 0
 β:∀(id:Nat) B,s.bs[id]? =some (some B)->Y.β id=X.β id
 l7:∀g,g<X.w.heap.size->(Y.ow g=X.ow g/\Y.w.heap[g]? =X.w.heap[g]?)\/∃pl n,X.ow g= .row pl n/\¬ct s pl
theorem Mod.ext{s:State}{X Y:ap}(h:Mod s X Y):Ext X Y:=
 ⟨h.av,h.size,h.os,h.tape,h.output,h.β0,fun g hg cp=>by
   rcases h.l7 g hg with e|⟨pl,n,h1,_⟩
   ·exact e
   ·rw[h1] at cp;exact cp.elim⟩
theorem Mod.refl(s:State)(X:ap):Mod s X X:=⟨fun _ _ h=>h,Nat.le_refl _,rfl,rfl,rfl,rfl,fun _ _ _=>rfl,fun _ _=> .inl ⟨rfl,rfl⟩⟩
theorem bg.mod{s:State}{X Y:ap}(h:Mod s X Y){pl:Place}{e:TypeId}{k n:Nat}{v:Value}(hf:ct s pl)(ho:bg X pl e k n v):bg Y pl e k n v:=by
 rcases ho with ho|⟨g,cap,cur,h1,h2,h3,h4,h5,h6⟩
 ·exact .inl ho
 ·rcases h.l7 g (BS h2) with⟨k1,k2⟩|⟨ix,n',k1,k2⟩
  ·exact .inr ⟨g,cap,cur,h1,k2.trans h2,h3,h4,h5,k1.trans h6⟩
  ·rw[h6] at k1;injection k1 with k1;rw[k1] at hf;exact absurd hf k2
theorem bf.mod{s:State}{X Y:ap}(h:Mod s X Y){pl:List Nat->Place}{t:Ty}{x:El t}{cs:List Value}{own:List (List Nat)}(hf:∀p∈own,ct s (pl p))(ho:bf X pl t x cs own):bf Y pl t x cs own:=fun p hp=>by
 obtain⟨e,t',xs,v,g0,g1,g2,g3⟩:=ho p hp
 exact⟨e,t',xs,v,g0,g1,g2,g3.mod h (hf p hp)⟩
theorem au.mod{s:State}{X Y:ap}(h:Mod s X Y){pl:List Nat->Place}{sv:SV}{v:Value}(hf:∀t x own,sv= .ah t x own->∀p∈own,ct s (pl p))(hl:∀id t p,sv= .ptr id t p->∃B,s.bs[id]? =some (some B))(hr:au X pl sv v):au Y pl sv v:=by
 cases sv with
 |undef=>trivial
 |skip=>exact hr
 |cm=>exact hr
 |gn=>exact hr
 |over=>exact hr
 |ah t x own=>
  obtain⟨cs,h1,h2,h3⟩:=hr
  exact⟨cs,h1.al h.av,h2,h3.mod h (hf t x own rfl)⟩
 |ptr id t p=>
  obtain⟨r,h1,h2⟩:=hr
  obtain⟨B,hB⟩:=hl id t p rfl
  exact⟨r,(h.β id B hB).trans h1,h2⟩
 |view t x=>
  obtain⟨ad,cs,h1,h2,h3,h4⟩:=hr
  exact⟨ad,cs,h1,h2,h3.al h.av,fun i u hi=>h.av _ _ (h4 i u hi)⟩
 |cap f t x u y=>exact sA h.av hr
theorem Rel.mod{s:State}{X Y:ap}{a:Act}(hr:Rel X s a)(h:Mod s X Y):Rel Y s a where
 size:=hr.size
 gD:=hr.gD
 bH:=fun i l v hl hv=>(hr.bH i l v hl hv).jF fun j sv u hm jt=>jt.mod h (fun t x own e p hp=>⟨l,t,x,own,hl,e▸hm,hp⟩) (fun id t p e=>hr.live i l id t p hl (e▸List.mem_of_getElem? hm))
 boxes:=fun id B hB=>by
  obtain⟨r,h1,h4,h2⟩:=hr.boxes id B hB
  have hk:Y.ow r=X.ow r/\Y.w.heap[r]? =X.w.heap[r]? :=by
   rcases h.l7 r h2.lt with hk|⟨ix,n',k1,k2⟩
   ·exact hk
   ·rw[h4] at k1;cases k1
  exact⟨r,(h.β id B hB).trans h1,hk.1.trans h4,h2.move h.av hk.2 (fun cs h5=>h5.mod h fun p hp=>⟨B,hB,hp⟩) fun hm g o ho hw=>by
   rcases h.l7 g (BS ho) with e|⟨pl,n,e1,e2⟩
   ·exact⟨e.2.trans ho,e.1.trans hw⟩
   ·rw[hw] at e1;injection e1 with e1;exact absurd (e1▸(⟨B,hB,hm⟩:ct s (.b id []))) e2⟩
 live:=hr.live
 defers:=hr.defers
structure eC(s:State)(X Y:ap):Prop where
 size:X.w.heap.size<=Y.w.heap.size
 os:Y.w.os=X.w.os
 tape:Y.w.tape=X.w.tape
 output:Y.w.output=X.w.output
 l7:∀g,g<X.w.heap.size->Y.ow g=X.ow g/\Y.w.heap[g]? =X.w.heap[g]?
 β0:Y.β 0=X.β 0
 β:∀(id:Nat) B,s.bs[id]? =some (some B)->Y.β id=X.β id
theorem eC.av{s:State}{X Y:ap}(h:eC s X Y){a:Addr}{v:Value}(hs:X.av a v):Y.av a v:=by
 have ar:=ap.gy hs
 obtain⟨h1,h2⟩:=h.l7 _ ar
 refine⟨hs.1,?_,?_⟩
 ·have:=hs.2.1
  simp only[World.cell?] at this⊢
  rw[h2];exact this
 ·rw[h1];exact hs.2.2
theorem eC.mod{s:State}{X Y:ap}(h:eC s X Y):Mod s X Y:=
 ⟨fun _ _=>h.av,h.size,h.os,h.tape,h.output,h.β0,h.β,fun g hg=> .inl (h.l7 g hg)⟩
theorem eC.ext{s:State}{X Y:ap}(h:eC s X Y):Ext X Y:=h.mod.ext
theorem bg.cZ{s:State}{X Y:ap}(h:eC s X Y){pl:Place}{e:TypeId}{k n:Nat}{v:Value}(ho:bg X pl e k n v):bg Y pl e k n v:=by
 rcases ho with ho|⟨g,cap,cur,h1,h2,h3,h4,h5,h6⟩
 ·exact .inl ho
 ·obtain⟨k1,k2⟩:=h.l7 g (BS h2)
  exact .inr ⟨g,cap,cur,h1,k2.trans h2,h3,h4,h5,k1.trans h6⟩
theorem bf.cZ{s:State}{X Y:ap}(h:eC s X Y){pl:List Nat->Place}{t:Ty}{x:El t}{cs:List Value}{own:List (List Nat)}(ho:bf X pl t x cs own):bf Y pl t x cs own:=fun p hp=>by
 obtain⟨e,t',xs,v,g0,g1,g2,g3⟩:=ho p hp
 exact⟨e,t',xs,v,g0,g1,g2,g3.cZ h⟩
theorem Rel.cZ{s:State}{X Y:ap}{a:Act}(hr:Rel X s a)(h:eC s X Y):Rel Y s a:=hr.mod h.mod
theorem Rel.put{X:ap}{s:State}{a:Act}(hr:Rel X s a){d:Option Nat}{l:List SV}{v:Value}(h:∀d',d=some d'->cu X (.c d') l v)(hl:∀id t p,SV.ptr id t p∈l->∃B,s.bs[id]? =some (some B)):Rel X (s.aG d l) (a.put d v):=by
 cases d with
 |none=>exact hr
 |some d=>
  refine⟨by simpa [State.aG,Act.put] using hr.size,by simpa [State.aG] using hr.gD,fun i l' v' hi hv=> ?_,hr.boxes,fun i l' id t p hi hm=> ?_,hr.defers⟩
  ·simp only[State.aG,List.getElem?_set] at hi
   simp only[Act.put,Array.getElem?_setIfInBounds] at hv
   by_cases e:d=i
   ·subst e
    simp only[if_true] at hi hv
    split at hi
    ·split at hv
     ·cases hi;cases hv;exact h d rfl
     ·cases hv
    ·cases hi
   ·rw[if_neg e] at hi hv
    exact hr.bH i l' v' hi hv
  ·simp only[State.aG,List.getElem?_set] at hi
   split at hi
   ·split at hi
    ·cases hi;exact hl id t p hm
    ·cases hi
   ·exact hr.live i l' id t p hi hm
theorem Rel.skip{X:ap}{s:State}{a:Act}(hr:Rel X s a)(d:Option Nat):Rel X (s.aG d [.skip]) (a.put d Go.undef):=
 hr.put (fun _ _=>rfl) (fun id t p h=>by simp at h)
structure dd(s:State)(X Y:ap):Prop where
 w:Y.w=X.w
 β:Y.β=X.β
 ow:∀g,Y.ow g=X.ow g\/∃pl n q,X.ow g= .row pl n/\¬ct s pl/\Y.ow g= .row q n
theorem dd.av{s:State}{X Y:ap}(h:dd s X Y){a:Addr}{v:Value}:X.av a v↔Y.av a v:=by
 unfold ap.av
 rw[h.w]
 rcases h.ow a.block with e|⟨pl,n,q,h1,_,h2⟩
 ·rw[e]
 ·rw[h1,h2];rfl
theorem dd.mod{s:State}{X Y:ap}(h:dd s X Y):Mod s X Y:=
 ⟨fun _ _=>h.av.1,by rw[h.w];exact Nat.le_refl _,by rw[h.w],by rw[h.w],by rw[h.w],by rw[h.β],fun _ _ _=>by rw[h.β],fun g _=>by
   rcases h.ow g with e|⟨pl,n,q,h1,h2,_⟩
   ·exact .inl ⟨e,by rw[h.w]⟩
   ·exact .inr ⟨pl,n,h1,h2⟩⟩
theorem dd.ext{s:State}{X Y:ap}(h:dd s X Y):Ext X Y:=h.mod.ext
theorem dd.refl(s:State)(X:ap):dd s X X:=⟨rfl,rfl,fun _=> .inl rfl⟩
theorem K1{v:SV}{id:Nat}{t:Ty}{p:List Nat}:v.shut= .ptr id t p->v= .ptr id t p:=by cases v<;>simp [SV.shut]
theorem au.shut{X:ap}{pl ix:List Nat->Place}{sv:SV}{v:Value}(hr:au X pl sv v):au X ix sv.shut v:=by
 cases sv with
 |ah t x own=>
  obtain⟨cs,h1,h2,_⟩:=hr
  exact⟨cs,h1,h2,fun p hp=>by cases hp⟩
 |_=>exact hr
theorem zcd:∀(l:List SV) (j:Nat),(bN l j).length=l.length
 | [],_=>rfl
 |_::_,0=>rfl
 |_::r,j+1=>by simp [bN,zcd r j]
theorem KK:∀(l:List SV) (j i:Nat),(bN l j)[i]? =if i=j then(l[i]?).map SV.shut else l[i]?
 | [],j,i=>by simp [bN]
 |v::r,0,0=>by simp [bN]
 |v::r,0,i+1=>by simp [bN]
 |v::r,j+1,0=>by simp [bN]
 |v::r,j+1,i+1=>by
  simp only[bN,List.getElem?_cons_succ,KK r j i]
  simp
theorem cu.bN{X:ap}{pl:Nat->List Nat->Place}{l:List SV}{v:Value}(hr:cu X pl l v)(j:Nat):cu X pl (bN l j) v:=by
 match l,hr with
 | [s],hr=>
   cases j with
   |zero=>exact hr.shut
   |succ j=>exact hr
 | [],hr=>exact hr
 |x::y::r,⟨vs,h1,h2,h3⟩=>
  have hlen:∃x' y' r',Ref.bN (x::y::r) j=x'::y'::r':=by
   match j with
   |0=>exact⟨_,_,_,rfl⟩
   |1=>exact⟨_,_,_,rfl⟩
   |j+2=>exact⟨_,_,_,rfl⟩
  obtain⟨x',y',r',he⟩:=hlen
  have hl:=zcd (x::y::r) j
  have hg:=KK (x::y::r) j
  rw[he] at hl hg⊢
  refine⟨vs,h1,by rw[hl];exact h2,fun i s u hs hu=> ?_⟩
  rw[hg] at hs
  split at hs
  ·obtain⟨s0,fQ,rfl⟩:=Option.map_eq_some_iff.1 hs
   exact(h3 i s0 u fQ hu).shut
  ·exact h3 i s u hs hu
theorem TG{l:List SV}{j:Nat}{id:Nat}{t:Ty}{p:List Nat}(h:SV.ptr id t p∈bN l j):SV.ptr id t p∈l:=by
 obtain⟨i,hi⟩:=List.mem_iff_getElem?.1 h
 rw[KK] at hi
 split at hi
 ·obtain⟨s0,fQ,he⟩:=Option.map_eq_some_iff.1 hi
  rw[K1 he] at fQ
  exact List.mem_of_getElem? fQ
 ·exact List.mem_of_getElem? hi
theorem vg{s:State}{i:Nat}(h:i<s.sl.length):s.sl[i]? =some (s.slot i):=by
 simp [State.slot,List.getD_eq_getElem?_getD,List.getElem?_eq_getElem h]
def State.cw(s:State)(i j:Nat):State:={s with sl:=s.sl.set i (bN (s.slot i) j)}
theorem Bl{s:State}{i j:Nat}{r:List (Nat×Nat)}:s.close ((i,j)::r)=(s.cw i j).close r:=rfl
theorem zfb{r:List (Nat×Nat)}:∀(l:List (Nat×Nat)) (s:State),s.close (l++r)=(s.close l).close r
 | [],s=>rfl
 |(i,j)::l,s=>by
  rw[List.cons_append,Bl,Bl]
  exact zfb l _
theorem Rel.cw{X:ap}{s:State}{a:Act}(hr:Rel X s a)(i j:Nat):Rel X (s.cw i j) a:=by
 refine⟨by simpa [State.cw] using hr.size,by simpa [State.cw] using hr.gD,fun k l v hl hv=> ?_,hr.boxes,fun k l id t p hl hm=> ?_,hr.defers⟩
 ·simp only[State.cw,List.getElem?_set] at hl
  split at hl
  ·rename_i e
   subst e
   split at hl
   ·rename_i ar
    cases hl
    exact(hr.bH i _ v (vg ar) hv).bN j
   ·cases hl
  ·exact hr.bH k l v hl hv
 ·simp only[State.cw,List.getElem?_set] at hl
  split at hl
  ·rename_i e
   subst e
   split at hl
   ·rename_i ar
    cases hl
    exact hr.live i _ id t p (vg ar) (TG hm)
   ·cases hl
  ·exact hr.live k l id t p hl hm
theorem Rel.close{X:ap}{a:Act}:∀(c:List (Nat×Nat)) {s:State},Rel X s a->Rel X (s.close c) a
 | [],s,hr=>hr
 |(i,j)::r,s,hr=>Rel.close r (hr.cw i j)
theorem uT:∀{c:List (Nat×Nat)} {s:State},(s.close c).bs=s.bs
 | [],s=>rfl
 |(i,j)::r,s=>(uT (c:=r) (s:=s.cw i j))
theorem Ik:∀{c:List (Nat×Nat)} {s:State},(s.close c).sl.length=s.sl.length
 | [],s=>rfl
 |(i,j)::r,s=>by rw[Bl,Ik (c:=r)];simp [State.cw]
theorem ct.pc{s:State}{i j:Nat}{pl:Place}(h:ct (s.cw i j) pl):ct s pl/\∀p,pl≠ .c i j p:=by
 cases pl with
 |r j p=>exact h.elim
 |b id p=>exact⟨h,fun p=>by simp⟩
 |c i' j' p=>
  obtain⟨l,t,x,own,hl,hx,hp⟩:=h
  simp only[State.cw,List.getElem?_set] at hl
  split at hl
  ·rename_i e
   subst e
   split at hl
   ·rename_i ar
    cases hl
    rw[KK] at hx
    split at hx
    ·obtain⟨s0,_,he⟩:=Option.map_eq_some_iff.1 hx
     cases s0<;>simp [SV.shut] at he
     obtain⟨rfl,_,rfl⟩:=he
     cases hp
    ·rename_i bZ
     exact⟨⟨_,t,x,own,vg ar,hx,hp⟩,fun q e=>by cases e;exact bZ rfl⟩
   ·cases hl
  ·rename_i bZ
   exact⟨⟨l,t,x,own,hl,hx,hp⟩,fun q e=>by cases e;exact bZ rfl⟩
theorem ct.ji{pl:Place}:∀{c:List (Nat×Nat)} {s:State},ct (s.close c) pl->ct s pl/\∀i j,(i,j)∈c->∀p,pl≠ .c i j p
 | [],s,h=>⟨h,fun i j hm=>by cases hm⟩
 |(i,j)::r,s,h=>by
  obtain⟨h1,h2⟩:=ct.ji (c:=r) (s:=s.cw i j) h
  obtain⟨h3,h4⟩:=ct.pc h1
  refine⟨h3,fun i' j' hm p=> ?_⟩
  rcases List.mem_cons.1 hm with e|hm
  ·cases e;exact h4 p
  ·exact h2 i' j' hm p
theorem ct.close{s:State}{i j:Nat}{p:List Nat}:¬ct (s.close [(i,j)]) (.c i j p):=fun h=>(ct.ji h).2 i j (by simp) p rfl
def ap.turn(X:ap)(i j:Nat)(q:List Nat->Place):ap:=
 {X with ow:=fun g=>match X.ow g with
  | .row (.c i' j' p) n=>if i'=i/\j'=j then .row (q p) n else .row (.c i' j' p) n
  |w=>w}
theorem zxy{s:State}{X:ap}{i j:Nat}{q:List Nat->Place}(h:∀p,¬ct s (.c i j p)):dd s X (X.turn i j q):=by
 refine⟨rfl,rfl,fun g=> ?_⟩
 simp only[ap.turn]
 cases hg:X.ow g with
 |row pl n=>
  cases pl with
  |c i' j' p=>
   by_cases e:i'=i/\j'=j
   ·obtain⟨rfl,rfl⟩:=e
    exact .inr ⟨_,n,q p,rfl,h p,by simp⟩
   ·exact .inl (by simp [e])
  |_=>exact .inl rfl
 |_=>exact .inl rfl
theorem bg.kG{X:ap}{i j:Nat}{q:List Nat->Place}{p:List Nat}{e:TypeId}{k n:Nat}{v:Value}(h:bg X (.c i j p) e k n v):bg (X.turn i j q) (q p) e k n v:=by
 rcases h with h|⟨g,cap,cur,h1,h2,h3,h4,h5,h6⟩
 ·exact .inl h
 ·exact .inr ⟨g,cap,cur,h1,h2,h3,h4,h5,by simp [ap.turn,h6]⟩
theorem bf.kG{X:ap}{i j:Nat}{q:List Nat->Place}{t:Ty}{x:El t}{cs:List Value}{own:List (List Nat)}(h:bf X (.c i j) t x cs own):bf (X.turn i j q) q t x cs own:=fun p hp=>by
 obtain⟨e,t',xs,v,g0,g1,g2,g3⟩:=h p hp
 exact⟨e,t',xs,v,g0,g1,g2,g3.kG⟩
def ko(X Y:ap):Prop:=Y.w=X.w/\∀g pl n,X.ow g= .row pl n->(∀i j p,pl≠ .c i j p)->Y.ow g= .row pl n
theorem Wl{X:ap}{i j:Nat}{q:List Nat->Place}:ko X (X.turn i j q):=⟨rfl,fun g pl n h hp=>by
 simp only[ap.turn,h]
 cases pl with
 |c i' j' p=>exact absurd rfl (hp i' j' p)
 |_=>rfl⟩
theorem ko.refl(X:ap):ko X X:=⟨rfl,fun _ _ _ h _=>h⟩
theorem bf.stay{X Y:ap}(h:ko X Y){pl:List Nat->Place}(hp:∀r i j p,pl r≠ .c i j p){t:Ty}{x:El t}{cs:List Value}{own:List (List Nat)}(ho:bf X pl t x cs own):bf Y pl t x cs own:=fun p hm=>by
 obtain⟨e,t',xs,v,g0,g1,g2,g3⟩:=ho p hm
 refine⟨e,t',xs,v,g0,g1,g2,?_⟩
 rcases g3 with h0|⟨g,cap,cur,h1,h2,h3,h4,h5,h6⟩
 ·exact .inl h0
 ·exact .inr ⟨g,cap,cur,h1,by rw[h.1];exact h2,h3,h4,h5,h.2 g _ _ h6 (hp p)⟩
theorem Rel.take{X:ap}{s:State}{a:Act}(hr:Rel X s a){i j:Nat}{t:Ty}{x:El t}{w:List (List Nat)}{v:Value}(h:au X (.c i j) (.ah t x w) v)(q:List Nat->Place):
 ∃Y,Y.w=X.w/\Ext X Y/\Rel Y (s.close [(i,j)]) a/\au Y q (.ah t x w) v/\Y.β=X.β/\dd (s.close [(i,j)]) X Y/\ko X Y:=by
 obtain⟨cs,h1,h2,h3⟩:=h
 have hT:dd (s.close [(i,j)]) X (X.turn i j q):=zxy fun p=>ct.close
 exact⟨X.turn i j q,rfl,hT.ext,(hr.close _).mod hT.mod,⟨cs,h1.al (fun _ _=>hT.av.1),h2,h3.kG⟩,rfl,hT,Wl⟩
def ap.dB(X:ap)(i d:Nat):ap:=
 {X with ow:=fun g=>match X.ow g with
  | .row (.c i' j' p) n=>if i'=i then .row (.c d j' p) n else .row (.c i' j' p) n
  |w=>w}
theorem zxx(t:Nat):∀(n j:Nat),j<n->(t,j)∈jn t n
 |0,j,h=>absurd h (Nat.not_lt_zero j)
 |n+1,j,h=>by
  rcases Nat.lt_or_ge j n with h1|h1
  ·exact List.mem_cons_of_mem _ (zxx t n j h1)
  ·have:j=n:=by omega
   subst this
   simp [jn]
theorem ct.closeAll{s:State}{t j:Nat}{p:List Nat}:¬ct (s.close (jn t (s.slot t).length)) (.c t j p):=fun h=>by
 obtain⟨h1,h2⟩:=ct.ji h
 obtain⟨l,ty,x,own,g1,g2,g3⟩:=h1
 have hl:s.slot t=l:=by simp [State.slot,g1]
 have hj:j<l.length:=(List.getElem?_eq_some_iff.1 g2).1
 exact h2 t j (zxx t _ j (by rw[hl];exact hj)) p rfl
theorem Sw{s:State}{X:ap}{i d:Nat}(h:∀j p,¬ct s (.c i j p)):dd s X (X.dB i d):=by
 refine⟨rfl,rfl,fun g=> ?_⟩
 simp only[ap.dB]
 cases hg:X.ow g with
 |row pl n=>
  cases pl with
  |c i' j' p=>
   by_cases e:i'=i
   ·subst e
    exact .inr ⟨_,n,.c d j' p,rfl,h j' p,by simp⟩
   ·exact .inl (by simp [e])
  |_=>exact .inl rfl
 |_=>exact .inl rfl
theorem bg.gO{X:ap}{i d j:Nat}{p:List Nat}{e:TypeId}{k n:Nat}{v:Value}(h:bg X (.c i j p) e k n v):bg (X.dB i d) (.c d j p) e k n v:=by
 rcases h with h|⟨g,cap,cur,h1,h2,h3,h4,h5,h6⟩
 ·exact .inl h
 ·exact .inr ⟨g,cap,cur,h1,h2,h3,h4,h5,by simp [ap.dB,h6]⟩
theorem au.gO{s:State}{X:ap}{i d j:Nat}{sv:SV}{v:Value}(hT:dd s X (X.dB i d))(h:au X (.c i j) sv v):au (X.dB i d) (.c d j) sv v:=by
 cases sv with
 |ah t x own=>
  obtain⟨cs,h1,h2,h3⟩:=h
  refine⟨cs,h1.al (fun _ _=>hT.av.1),h2,fun p hp=> ?_⟩
  obtain⟨e,t',xs,v,g0,g1,g2,g3⟩:=h3 p hp
  exact⟨e,t',xs,v,g0,g1,g2,g3.gO⟩
 |view t x=>
  obtain⟨ad,cs,h1,h2,h3,h4⟩:=h
  exact⟨ad,cs,h1,h2,h3.al (fun _ _=>hT.av.1),fun i u hi=>hT.av.1 (h4 i u hi)⟩
 |cap f t x u y=>exact sA (fun _ _=>hT.av.1) h
 |_=>exact h
theorem Rel.uI{X:ap}{s:State}{a:Act}(hr:Rel X s a){t:Nat}{v:Value}(h:cu X (.c t) (s.slot t) v)(d:Nat):
 ∃Y,Y.w=X.w/\Ext X Y/\Rel Y (s.close (jn t (s.slot t).length)) a/\cu Y (.c d) (s.slot t) v:=by
 have hT:dd (s.close (jn t (s.slot t).length)) X (X.dB t d):=Sw fun j p=>ct.closeAll
 exact⟨X.dB t d,rfl,hT.ext,(hr.close _).mod hT.mod,h.jF fun j sv u hj hu=>hu.gO hT⟩
def zp:Ty->List Value
 | .bool=>[.bool false]
 | .int k=>[.int k 0]
 | .str=>[.string ⟨#[]⟩]
 | .sl _ _=>[.slice none 0 0]
 | .arr n t=>(List.replicate n (zp t)).flatten
 | .unit=>[]
 | .pair a b=>zp a++zp b
 | .aT _ _ _=>[]
def ia(E:Env):List Field->Ty->Nat->Prop
 | [],.unit,_=>True
 |f::r,.pair a b,off=>f.offset=off/\E.ty f.type=some a/\f.name≠ "_" /\ia E r b (off+a.cells)
 |_,_,_=>False
def HH(P:Program)(E:Env)(T:TypeId):Ty->Prop
 | .bool=>P.underlying T=some .bool
 | .int k=>P.underlying T=some (.int k)
 | .str=>P.underlying T=some .string
 | .sl e t=>P.underlying T=some (.slice e)/\E.ty e=some t
 | .arr n t=>∃e,P.underlying T=some (.array n e)/\E.ty e=some t/\P.eqGuardType P.depth T=false
 | .aT _ _ _=>False
 |t=>∃fs,P.underlying T=some (.struct fs)/\ia E fs.toList t 0/\P.stoodInHeld T=false/\P.eqGuardType P.depth T=false
structure kp(P:Program)(E:Env)(T:TypeId)(t:Ty):Prop where
 info:∃i,P.info? T=some i/\i.size=t.cells/\i.bytes=E.bytes T/\i.zero=some (dp t (zp t))
 cO:HH P E T t
structure ak(P:Program)(E:Env):Prop where
 ty:∀T t,E.ty T=some t->kp P E T t
 pt:∀T,E.pt T=true->∃e,P.underlying T=some (.pointer e)
 mp:∀T k e,E.mp T=some (k,e)->P.underlying T=some (.map k e)
 bl:∀T e,E.bl T=some e->∃i,P.info? T=some i/\i.zero=some (.agg #[.pointer none,.slice none 0 0])
theorem ak.gM{P:Program}{E:Env}(hE:ak P E){T:TypeId}{t:Ty}(h:E.ty T=some t):t.bE=false:=by
 have:=(hE.ty T t h).cO
 cases t<;>first|rfl|exact this.elim
theorem sn:∀t:Ty,(zp t).length=t.cells
 | .bool=>rfl
 | .int _=>rfl
 | .str=>rfl
 | .sl _ _=>rfl
 | .unit=>rfl
 | .arr n t=>by simp [zp,Ty.cells,sn t]
 | .pair a b=>by simp [zp,Ty.cells,sn a,sn b]
 | .aT _ _ _=>rfl
theorem z8q{l:List Value}{k:Nat}(hl:l.length=k):∀(n j:Nat),j<n->(((List.replicate n l).flatten).drop (j*k)).take k=l
 |0,j,h=>by omega
 |n+1,0,_=>by
  simp only[List.replicate_succ,List.flatten_cons,Nat.zero_mul,List.drop_zero]
  rw[<-hl];exact List.take_left
 |n+1,j+1,h=>by
  simp only[List.replicate_succ,List.flatten_cons]
  rw[Nat.add_mul,Nat.one_mul,Nat.add_comm,<-List.drop_drop]
  rw[show List.drop k (l++(List.replicate n l).flatten)=(List.replicate n l).flatten by rw[<-hl];exact List.drop_left]
  exact z8q hl n j (by omega)
theorem rV(X:ap):∀t:Ty,aR X t (El.bI t) (zp t)
 | .bool=>rfl
 | .int _=>rfl
 | .str=>rfl
 | .unit=>rfl
 | .sl _ t=>⟨none,0,rfl,Nat.le_refl _,fun j x h=>by simp [El.bI] at h⟩
 | .arr n t=>by
   refine⟨by simp [El.bI],by simp [zp,sn],fun j x h=> ?_⟩
   have hj:j<n:=by
    have:=(List.getElem?_eq_some_iff.1 h).1
    simpa [El.bI] using this
   have hx:x=El.bI t:=by
    simp only[El.bI,List.getElem?_replicate] at h
    rw[if_pos hj] at h
    exact(Option.some.inj h).symm
   subst hx
   have:=z8q (sn t) n j hj
   simp only[zp]
   rw[this]
   exact rV X t
 | .pair a b=>⟨zp a,zp b,rfl,rV X a,rV X b⟩
 | .aT _ _ _=>rfl
theorem Jg{t:Ty}{c:Value}(h:t.agg=false):dp t [c]=c:=by simp [dp,h]
theorem iz{t:Ty}{cs:List Value}(h:t.agg=true):dp t cs= .agg cs.toArray:=by simp [dp,h]
theorem uQ{t:Ty}{X:ap}{x:El t}{cs:List Value}(h:aR X t x cs):(dp t cs).cells=cs.toArray:=by
 cases ht:t.agg with
 |true=>rw[iz ht];rfl
 |false=>
  have hl:=h.len
  have h1:=h.one
  have hc:t.cells=1:=by cases t<;>simp_all [Ty.agg,Ty.cells]
  rw[hc] at hl
  match cs,hl with
  | [c],_=>
    rw[Jg ht]
    have:=h1 c (by simp)
    cases c<;>simp_all [Value.oneCell',Value.cells]
theorem zz{R:Type}{s:SV}{u:Ty}{K:El u->Option R}{z:R}(h:s.el u K=some z):
 ∃y,K y=some z/\∀(X:ap) pl v,au X pl s v->∃cs,aR X u y cs/\v=dp u cs:=by
 cases s with
 |ah t x own=>
  simp only[SV.el] at h
  split at h
  ·rename_i he
   have e:=Ty.aH he
   subst e
   exact⟨x,h,fun X pl v hv=>by obtain⟨cs,h1,h2,_⟩:=hv;exact⟨cs,h1,h2⟩⟩
  ·cases h
 |cm=>
  cases u<;>simp only[SV.el] at h<;>first|cases h|skip
  rename_i e t
  refine⟨[],h,fun X pl v hv=>⟨[.slice none 0 0],⟨none,0,rfl,Nat.le_refl _,fun j x hj=>by simp at hj⟩,hv⟩⟩
 |_=>simp [SV.el] at h
theorem kg{X:ap}{k:IntKind}{n:Int}{cs:List Value}(h:aR X (.int k) n cs):dp (.int k) cs= .int k n:=by cases h;rfl
theorem sE{X:ap}{b:Bool}{cs:List Value}(h:aR X .bool b cs):dp .bool cs= .bool b:=by cases h;rfl
theorem l4{X:ap}{s:ByteArray}{cs:List Value}(h:aR X .str s cs):dp .str cs= .string s:=by cases h;rfl
theorem lZ{X:ap}{pl:List Nat->Place}{t:Ty}{x:El t}{cs:List Value}:bf X pl t x cs []:=fun p hp=>by cases hp
theorem iy{X:ap}{pl:List Nat->Place}{k:IntKind}{n:Int}:au X pl (.ah (.int k) n []) (.int k n):=⟨[.int k n],rfl,rfl,lZ⟩
theorem lY{X:ap}{pl:List Nat->Place}{b:Bool}:au X pl (.ah .bool b []) (.bool b):=⟨[.bool b],rfl,rfl,lZ⟩
theorem xB{X:ap}{pl:List Nat->Place}{s:ByteArray}:au X pl (.ah .str s []) (.string s):=⟨[.string s],rfl,rfl,lZ⟩
theorem xu{X:ap}{pl:List Nat->Place}{k:IntKind}{n:Int}{o:List (List Nat)}{v:Value}(h:au X pl (.ah (.int k) n o) v):v= .int k n:=by
 obtain⟨cs,h1,h2,_⟩:=h
 rw[h2,kg h1]
theorem H5{X:ap}{pl:List Nat->Place}{b:Bool}{o:List (List Nat)}{v:Value}(h:au X pl (.ah .bool b o) v):v= .bool b:=by
 obtain⟨cs,h1,h2,_⟩:=h
 rw[h2,sE h1]
theorem zg6{X:ap}{pl:List Nat->Place}{s:ByteArray}{o:List (List Nat)}{v:Value}(h:au X pl (.ah .str s o) v):v= .string s:=by
 obtain⟨cs,h1,h2,_⟩:=h
 rw[h2,l4 h1]
def yW:Operand->List Nat->Place
 | .tmp t=> .c t 0
 |_=> .r 0
theorem z139(X:ap)(pl:List Nat->Place)(v:Value):au X pl (z59 v) v:=by
 unfold z59
 split
 ·exact lY
 ·exact iy
 ·exact xB
 ·rfl
 ·rfl
 ·trivial
theorem Rel.slot{X:ap}{s:State}{a:Act}(hr:Rel X s a)(t:Nat):cu X (.c t) (s.slot t) (a.tmps.getD t Go.undef):=by
 by_cases h:t<s.sl.length
 ·refine hr.bH t _ _ (vg h) ?_
  have:=hr.size
  simp [Array.getElem?_eq_getElem (show t<a.tmps.size by omega)]
 ·have:s.slot t=[.undef]:=by simp [State.slot,List.getElem?_eq_none (show s.sl.length<=t by omega)]
  rw[this]
  trivial
theorem Rel.ay{X:ap}{s:State}{a:Act}(hr:Rel X s a)(x:Operand):au X (yW x) (s.ay x) (a.eval x):=by
 cases x with
 |tmp t=>
  have h:=hr.slot t
  unfold State.ay State.uy
  simp only[yW,Act.eval]
  match hl:s.slot t with
  | []=>trivial
  | [sv]=>rw[hl] at h;exact h
  |_::_::_=>trivial
 |const v=>exact z139 X _ v
 |_=>trivial
theorem xG{X:ap}{s:State}{a:Act}(hr:Rel X s a){x:Operand}{id:Nat}{t:Ty}{p:List Nat}(h:s.ay x= .ptr id t p):∃B,s.bs[id]? =some (some B):=by
 cases x with
 |tmp i=>
  unfold State.ay State.uy at h
  simp only at h
  by_cases hi:i<s.sl.length
  ·refine hr.live i _ id t p (vg hi) ?_
   match hl:s.slot i,h with
   | [sv],h=>have:sv= .ptr id t p:=h;simp [this]
   | [],h=>simp [one] at h
   |_::_::_,h=>simp [one] at h
  ·have:s.slot i=[.undef]:=by simp [State.slot,List.getElem?_eq_none (Nat.le_of_not_lt hi)]
   rw[this] at h
   simp [one] at h
 |const v=>unfold State.ay State.uy z59 at h;simp only[one] at h;split at h<;>simp at h
 |_=>simp [State.ay,State.uy,one] at h
theorem Rel.fin{Y:ap}{s:State}{a:Act}(hr:Rel Y s a){dst:Option Nat}{l:List SV}{v:Value}(h:cu Y (.c (dst.getD 0)) l v)(hl:∀id t p,SV.ptr id t p∈l->∃B,s.bs[id]? =some (some B)):Rel Y (s.aG dst l) (a.put dst v):=
 hr.put (fun d' e=>by subst e;exact h) hl
def aA(P:Program)(X:ap)(s:State)(a:Act)(o:Oper)(u:Out):Prop:=
 ∃Y v,((execOp a.eval o).run P X.w= .ok (.value v) Y.w\/((execOp a.eval o).run P X.w= .ok .skip Y.w/\v=Go.undef))/\Ext X Y/\Rel Y (s.apply o.dst u) (a.put o.dst v)
theorem aA.plain{P:Program}{X:ap}{s:State}{a:Act}{o:Oper}(hr:Rel X s a){sv:SV}{v:Value}
 (h:(execOp a.eval o).run P X.w= .ok (.value v) X.w) (hv:au X (.c (o.dst.getD 0) 0) sv v) (hl:∀id t p,sv= .ptr id t p->∃B,s.bs[id]? =some (some B)):aA P X s a o {v:=[sv]}:=
 ⟨X,v,.inl h,Ext.refl X,hr.fin hv (fun id t p hm=>hl id t p (by have h':=hm;simp at h';exact h'.symm))⟩
theorem aA.xe{P:Program}{X:ap}{s:State}{a:Act}{o:Oper}(hr:Rel X s a){i j:Nat}{t:Ty}{x:El t}{w:List (List Nat)}{v:Value}
 (h:(execOp a.eval o).run P X.w= .ok (.value v) X.w) (hv:au X (.c i j) (.ah t x w) v):aA P X s a o {v:=[.ah t x w],cl:=[(i,j)]}:=by
 obtain⟨Y,h1,h2,h3,h4,_,_,_⟩:=hr.take hv (.c (o.dst.getD 0) 0)
 refine⟨Y,v,.inl (by rw[h1];exact h),h2,?_⟩
 exact h3.fin h4 (fun id t p hm=>by simp at hm)
variable {P:Program} {E:Env} {X:ap} {s:State} {a:Act} {o:Oper} {u:Out}
def Plain:SV->Prop
 | .ah _ _ (_::_)=>False
 |_=>True
theorem au.place{pl ix:List Nat->Place}{sv:SV}{v:Value}(h:au X pl sv v)(hp:Plain sv):au X ix sv v:=by
 cases sv with
 |ah t x w=>
  cases w with
  |nil=>
   obtain⟨cs,h1,h2,_⟩:=h
   exact⟨cs,h1,h2,lZ⟩
  |cons p w=>exact hp.elim
 |_=>exact h
theorem au.bare{pl ix:List Nat->Place}{t:Ty}{x:El t}{w:List (List Nat)}{v:Value}(h:au X pl (.ah t x w) v):au X ix (.ah t x []) v:=by
 obtain⟨cs,h1,h2,_⟩:=h
 exact⟨cs,h1,h2,lZ⟩
theorem zfe{v:Value}{t:Ty}{y:El t}{w:List (List Nat)}(h:z59 v= .ah t y w):w=[]:=by
 unfold z59 at h
 split at h<;>simp at h
 ·obtain⟨rfl,_,rfl⟩:=h;rfl
 ·obtain⟨rfl,_,rfl⟩:=h;rfl
 ·obtain⟨rfl,_,rfl⟩:=h;rfl
theorem abn{x:Operand}{t:Ty}{y:El t}{w:List (List Nat)}(h:s.ay x= .ah t y w)(hw:w≠ []):∃i,x= .tmp i:=by
 cases x with
 |tmp i=>exact⟨i,rfl⟩
 |const v=>exact absurd (zfe h) hw
 |_=>simp [State.ay,State.uy,one] at h
theorem zxl(hr:Rel X s a){x:Operand}(h:(execOp a.eval o).run P X.w= .ok (.value (a.eval x)) X.w)(hp:Plain (s.ay x)):aA P X s a o {v:=[s.ay x]}:=
 aA.plain hr h ((hr.ay x).place hp) (fun id t p e=>xG hr e)
theorem zwi(hr:Rel X s a){x:Operand}{t:Ty}{y:El t}{w:List (List Nat)}(aV:(execOp a.eval o).run P X.w= .ok (.value (a.eval x)) X.w)(e:s.ay x= .ah t y w):aA P X s a o {v:=[.ah t y w],cl:=vd w x}:=by
 have bY:=hr.ay x
 rw[e] at bY
 cases hw:w with
 |nil=>
  subst hw
  exact aA.plain hr aV bY.bare (fun _ _ _ h=>by cases h)
 |cons p w'=>
 rw[<-hw]
 have kS:vd w x=src x:=by rw[hw];rfl
 rw[kS]
 clear hw
 cases x with
 |tmp i=>exact aA.xe hr aV bY
 |const v=>
  have hw:=zfe (show z59 v= .ah t y w from e)
  subst hw
  exact aA.plain hr aV bY.bare (fun _ _ _ h=>by cases h)
 |_=>simp [State.ay,State.uy,one] at e
theorem F7(hr:Rel X s a){T:TypeId}{v:Value}{pl:List Nat->Place}(aV:(execOp a.eval o).run P X.w= .ok (.value v) X.w)(hv:au X pl .cm v)(h:mR E T some=some u):aA P X s a o u:=by
 unfold mR at h
 split at h
 ·cases h
  refine aA.plain hr aV ⟨[.slice none 0 0],⟨none,0,rfl,Nat.le_refl _,fun j x hj=>by simp at hj⟩,hv,fun p hp=> ?_⟩ (fun _ _ _ e=>by cases e)
  rename_i e t _
  have hp:p=[]:=by simpa using hp
  subst hp
  exact⟨e,t,[],_,by simp [Ty.eH],rfl,rfl,.inl ⟨rfl,rfl⟩⟩
 ·cases h
  exact aA.plain hr aV hv (fun _ _ _ e=>by cases e)
theorem au.eB{pl ix:List Nat->Place}{sv:SV}{v:Value}(hr:au X pl sv v):au X ix sv.shut v:=by
 cases sv with
 |ah t x own=>
  obtain⟨cs,h1,h2,_⟩:=hr
  exact⟨cs,h1,h2,lZ⟩
 |_=>exact hr
theorem cu.eB{pl ix:Nat->List Nat->Place}{l:List SV}{v:Value}(hr:cu X pl l v):cu X ix (l.map SV.shut) v:=by
 match l,hr with
 | [s],hr=>exact au.eB hr
 | [],⟨vs,h1,h2,h3⟩=>exact⟨vs,h1,h2,fun j s u hs=>by simp at hs⟩
 |x::y::r,⟨vs,h1,h2,h3⟩=>
  refine⟨vs,h1,by simpa using h2,fun j s u hs hu=> ?_⟩
  have hs:((x::y::r).map SV.shut)[j]? =some s:=hs
  rw[List.getElem?_map] at hs
  obtain⟨s0,fQ,rfl⟩:=Option.map_eq_some_iff.1 hs
  exact au.eB (h3 j s0 u fQ hu)
theorem Vv(hr:Rel X s a){ops:List Oper}{x:Operand}(ho:o.op= .move x){C:FuncId->bF Out}(h:act E C ops o s some=some u):aA P X s a o u:=by
 have aV:(execOp a.eval o).run P X.w= .ok (.value (a.eval x)) X.w:=by simp [execOp,ho]
 unfold act at h
 simp only[ho] at h
 have bY:=hr.ay x
 cases ht:lT s x with
 |some tl=>
  obtain⟨t,l⟩:=tl
  rw[ht] at h
  cases x with
  |tmp i=>
   change(bif Nat.beq (s.slot i).length 1 then none else some (i,s.slot i))=some (t,l) at ht
   cases hb:Nat.beq (s.slot i).length 1 with
   |true=>rw[hb] at ht;cases ht
   |false=>
    rw[hb] at ht
    cases ht
    have EE:∀id ty p,SV.ptr id ty p∈s.slot t->∃B,s.bs[id]? =some (some B):=fun id ty p hm=>by
     by_cases ar:t<s.sl.length
     ·exact hr.live t _ id _ p (vg ar) hm
     ·have:s.slot t=[.undef]:=by simp [State.slot,List.getElem?_eq_none (Nat.le_of_not_lt ar)]
      rw[this] at hm
      simp at hm
    cases wT:Go.Ref.eB E o.dst with
    |true=>
     rw[wT] at h
     cases h
     refine⟨X,_,.inl aV,Ext.refl X,?_⟩
     refine Rel.fin hr (cu.eB (hr.slot t)) (fun id ty p hm=> ?_)
     obtain⟨s0,fQ,he⟩:=List.mem_map.1 hm
     rw[K1 he] at fQ
     exact EE id ty p fQ
    |false=>
    rw[wT] at h
    cases h
    cases bM:(s.slot t).all fun v=>v.own.isEmpty with
    |true=>
     refine⟨X,_,.inl aV,Ext.refl X,?_⟩
     refine Rel.fin hr ((hr.slot t).jF fun j sv u hj hu=> ?_) (fun id ty p hm=> ?_)
     ·have:=List.all_eq_true.1 bM sv (List.mem_of_getElem? hj)
      refine hu.place ?_
      cases sv with
      |ah ty y w=>
       cases w with
       |nil=>trivial
       |cons p w=>simp [SV.own] at this
      |_=>trivial
     ·by_cases ar:t<s.sl.length
      ·exact hr.live t _ id _ p (vg ar) hm
      ·have:s.slot t=[.undef]:=by simp [State.slot,List.getElem?_eq_none (Nat.le_of_not_lt ar)]
       rw[this] at hm
       simp at hm
    |false=>
    obtain⟨Y,h1,h2,h3,h4⟩:=hr.uI (hr.slot t) (o.dst.getD 0)
    refine⟨Y,_,.inl (by rw[h1];exact aV),h2,?_⟩
    refine h3.fin h4 (fun id ty p hm=> ?_)
    by_cases ar:t<s.sl.length
    ·obtain⟨B,hB⟩:=hr.live t _ id _ p (vg ar) hm
     exact⟨B,by rw[uT];exact hB⟩
    ·have:s.slot t=[.undef]:=by simp [State.slot,List.getElem?_eq_none (Nat.le_of_not_lt ar)]
     rw[this] at hm
     simp at hm
  |_=>cases ht
 |none=>
 rw[ht] at h
 simp only at h
 split at h
 ·rename_i t y w e
  rw[e] at bY
  cases hb:(Pn ops o.dst||takes E o.dst) with
  |true=>
   rw[hb] at h
   cases h
   exact zwi hr aV e
  |false=>
   rw[hb] at h
   cases h
   exact aA.plain hr aV bY.bare (fun _ _ _ h=>by cases h)
 ·cases h
 ·rename_i e
  rw[e] at bY
  exact F7 hr aV bY h
 ·rename_i h1 h2 h3
  cases h
  refine zxl hr aV ?_
  cases hx:s.ay x with
  |ah t y w=>exact absurd hx (h1 t y w)
  |_=>trivial
theorem SK(hr:Rel X s a){ops:List Oper}{x:Operand}(ho:o.op= .assign x){C:FuncId->bF Out}(h:act E C ops o s some=some u):aA P X s a o u:=by
 have aV:(execOp a.eval o).run P X.w= .ok (.value (a.eval x)) X.w:=by simp [execOp,ho]
 unfold act at h
 simp only[ho] at h
 have bY:=hr.ay x
 split at h
 ·rename_i t y w e
  rw[e] at bY
  cases h
  exact zwi hr aV e
 ·cases h
 ·rename_i e
  rw[e] at bY
  exact F7 hr aV bY h
 ·rename_i h1 h2 h3
  cases h
  refine zxl hr aV ?_
  cases hx:s.ay x with
  |ah t y w=>exact absurd hx (h1 t y w)
  |_=>trivial
theorem Vx(hr:Rel X s a){ops:List Oper}{c x y:Operand}(ho:o.op= .pick c x y){C:FuncId->bF Out}(h:act E C ops o s some=some u):aA P X s a o u:=by
 unfold act at h
 simp only[ho] at h
 have hc:=hr.ay c
 split at h
 ·rename_i p w e
  rw[e] at hc
  have hv:=H5 hc
  have key:∀z,aA P X s a o {v:=[(s.ay z).shut]}\/(execOp a.eval o).run P X.w≠ .ok (.value (a.eval z)) X.w:=by
   intro z
   by_cases hz:(execOp a.eval o).run P X.w= .ok (.value (a.eval z)) X.w
   ·refine .inl (aA.plain hr hz (hr.ay z).shut (fun id t p e=> ?_))
    exact xG hr (K1 e)
   ·exact .inr hz
  cases p with
  |true=>
   cases h
   exact(key x).resolve_right (by simp [execOp,ho,hv,asBool])
  |false=>
   cases h
   exact(key y).resolve_right (by simp [execOp,ho,hv,asBool])
 ·cases h
theorem Kv(op:BinOp)(T:TypeId)(x y:Operand)(k k':IntKind)(m n:Int)(w:World):(eqGuard op T x y (.int k m) (.int k' n)).run P w= .ok () w:=by
 cases op<;>simp [eqGuard]
theorem z99(op:BinOp)(T:TypeId)(x y:Operand)(m n:ByteArray)(w:World):(eqGuard op T x y (.string m) (.string n)).run P w= .ok () w:=by
 cases op<;>simp [eqGuard]
theorem zmz(op:BinOp)(T:TypeId)(x y:Operand)(m n:Bool)(w:World):(eqGuard op T x y (.bool m) (.bool n)).run P w= .ok () w:=by
 cases op<;>simp [eqGuard]
theorem zmg{op:BinOp}{T:TypeId}{k k':IntKind}{m n:Int}{l:List SV}(w:World)(h:oQ op k m k' n some=some l):
 ∃sv v,l=[sv]/\(Go.binOp op T (.int k m) (.int k' n)).run P w= .ok v w/\Plain sv/\(∀X pl,au X pl sv v)/\∀id t p,sv≠ .ptr id t p:=by
 have done:∀{sv:SV} {v:Value},l=[sv]->(Go.binOp op T (.int k m) (.int k' n)).run P w= .ok v w->Plain sv->(∀X pl,au X pl sv v)->(∀id t p,sv≠ .ptr id t p)->∃sv v,l=[sv]/\(Go.binOp op T (.int k m) (.int k' n)).run P w= .ok v w/\Plain sv/\(∀X pl,au X pl sv v)/\∀id t p,sv≠ .ptr id t p:=fun h1 h2 h3 h4 h5=>⟨_,_,h1,h2,h3,h4,h5⟩
 have pi:∀{k:IntKind} {n:Int},Plain (.ah (.int k) n []):=trivial
 have pb:∀{b:Bool},Plain (.ah .bool b []):=trivial
 unfold oQ at h
 cases op
 case shl=>
  simp only at h
  cases hd:decide (n<0) with
  |true=>rw[hd] at h;cases h
  |false=>
   rw[hd] at h;cases h
   have:¬n<0:=of_decide_eq_false hd
   exact done rfl (by simp [Go.binOp,Op.shift,this]) pi (fun _ _=>iy) (by simp)
 case shr=>
  simp only at h
  cases hd:decide (n<0) with
  |true=>rw[hd] at h;cases h
  |false=>
   rw[hd] at h;cases h
   have:¬n<0:=of_decide_eq_false hd
   exact done rfl (by simp [Go.binOp,Op.shift,this]) pi (fun _ _=>iy) (by simp)
 all_goals
  simp only at h
  split at h
  case isFalse=>cases h
  rename_i hk
  subst hk
 case quo=>
  cases hd:decide (n=0) with
  |true=>rw[hd] at h;cases h
  |false=>
   rw[hd] at h;cases h
   have:¬n=0:=of_decide_eq_false hd
   exact done rfl (by simp [Go.binOp,Op.intDiv,this]) pi (fun _ _=>iy) (by simp)
 case rem=>
  cases hd:decide (n=0) with
  |true=>rw[hd] at h;cases h
  |false=>
   rw[hd] at h;cases h
   have:¬n=0:=of_decide_eq_false hd
   exact done rfl (by simp [Go.binOp,Op.intDiv,this]) pi (fun _ _=>iy) (by simp)
 case add=>cases h;exact done rfl (by simp [Go.binOp,Op.intArith]) pi (fun _ _=>iy) (by simp)
 case sub=>cases h;exact done rfl (by simp [Go.binOp,Op.intArith]) pi (fun _ _=>iy) (by simp)
 case mul=>cases h;exact done rfl (by simp [Go.binOp,Op.intArith]) pi (fun _ _=>iy) (by simp)
 case and=>cases h;exact done rfl (by simp only[Go.binOp,ne_eq,not_true_eq_false,if_false];rfl) pi (fun _ _=>iy) (by simp)
 case or=>cases h;exact done rfl (by simp only[Go.binOp,ne_eq,not_true_eq_false,if_false];rfl) pi (fun _ _=>iy) (by simp)
 case xor=>cases h;exact done rfl (by simp only[Go.binOp,ne_eq,not_true_eq_false,if_false];rfl) pi (fun _ _=>iy) (by simp)
 case andNot=>cases h;exact done rfl (by simp only[Go.binOp,ne_eq,not_true_eq_false,if_false];rfl) pi (fun _ _=>iy) (by simp)
 case eql=>cases h;exact done rfl (by simp only[Go.binOp,ne_eq,not_true_eq_false,if_false];rfl) pb (fun _ _=>lY) (by simp)
 case neq=>cases h;exact done rfl (by simp only[Go.binOp,ne_eq,not_true_eq_false,if_false];rfl) pb (fun _ _=>lY) (by simp)
 case lss=>cases h;exact done rfl (by simp only[Go.binOp,ne_eq,not_true_eq_false,if_false];rfl) pb (fun _ _=>lY) (by simp)
 case leq=>cases h;exact done rfl (by simp only[Go.binOp,ne_eq,not_true_eq_false,if_false];rfl) pb (fun _ _=>lY) (by simp)
 case gtr=>cases h;exact done rfl (by simp only[Go.binOp,ne_eq,not_true_eq_false,if_false];rfl) pb (fun _ _=>lY) (by simp)
 case geq=>cases h;exact done rfl (by simp only[Go.binOp,ne_eq,not_true_eq_false,if_false];rfl) pb (fun _ _=>lY) (by simp)
end Go.Ref

namespace Go.Ref
open Go
variable {P:Program} {E:Env} {X:ap} {s:State} {a:Act} {o:Oper} {u:Out}
theorem Nw(x y:ByteArray):(x.toList==y.toList)=decide (x=y):=by
 rw[ByteArray.toList_eq,ByteArray.toList_eq]
 by_cases h:x=y
 ·subst h;simp
 ·have:¬x.data.toList=y.data.toList:=fun e=>h (by
   cases x;cases y
   congr
   exact Array.toList_inj.1 e)
  rw[beq_eq_false_iff_ne.2 this,decide_eq_false h]
theorem Yh{op:BinOp}{T:TypeId}{m n:ByteArray}{l:List SV}(w:World)(h:oR op m n some=some l):
 ∃sv v,l=[sv]/\(Go.binOp op T (.string m) (.string n)).run P w= .ok v w/\Plain sv/\(∀X pl,au X pl sv v)/\∀id t p,sv≠ .ptr id t p:=by
 have pb:∀{b:Bool},Plain (.ah .bool b []):=trivial
 unfold oR at h
 cases op<;>simp only at h<;>first|(cases h;done)|skip
 case add=>
  cases hd:decide (m.size+n.size<=9223372036854775807) with
  |false=>rw[hd] at h;cases h
  |true=>
   rw[hd] at h;cases h
   have h1:=of_decide_eq_true hd
   have h2:¬((((m.size+n.size:Nat)):Int)>IntKind.i64.max):=by
    show¬((((m.size+n.size:Nat)):Int)>9223372036854775807)
    omega
   refine⟨_,_,rfl,?_,trivial,fun _ _=>xB,by simp⟩
   simp only[Go.binOp,Op.stringOp]
   rw[if_neg h2]
   rfl
 all_goals
  cases h
  refine⟨_,_,rfl,?_,pb,fun _ _=>lY,by simp⟩
  simp only[Go.binOp,Op.stringOp,Nw]
  rfl
theorem zxa(hE:ak P E){T:TypeId}{t:Ty}(ht:E.ty T=some t)(w:World):(isAgg T).run P w= .ok t.agg w:=by
 have hu:=(hE.ty T t ht).cO
 cases t
 case bool=>simp [isAgg,run_underlying hu,Ty.agg]
 case int=>simp [isAgg,run_underlying hu,Ty.agg]
 case str=>simp [isAgg,run_underlying hu,Ty.agg]
 case sl=>simp [isAgg,run_underlying hu.1,Ty.agg]
 case arr=>obtain⟨e,h1,_⟩:=hu;simp [isAgg,run_underlying h1,Ty.agg]
 case unit=>obtain⟨fs,h1,_⟩:=hu;simp [isAgg,run_underlying h1,Ty.agg]
 case pair=>obtain⟨fs,h1,_⟩:=hu;simp [isAgg,run_underlying h1,Ty.agg]
 case aT=>exact hu.elim
theorem kL(hE:ak P E){T:TypeId}{t:Ty}(ht:E.ty T=some t)(w:World):(sizeOf T).run P w= .ok t.cells w:=by
 obtain⟨i,h1,h2,_⟩:=(hE.ty T t ht).info
 simp [sizeOf,typeInfo,h1,h2]
theorem Ah(hE:ak P E){T:TypeId}{t:Ty}(ht:E.ty T=some t){x:El t}{cs:List Value}(hr:aR X t x cs){all:Array Value}{off:Nat}(ha:(all.toList.drop off).take t.cells=cs)(w:World):
 (part T all off).run P w= .ok (dp t cs) w:=by
 have hl:=hr.len
 unfold part
 simp only[Sem.run_bind,zxa hE ht,Result.andThen_ok]
 cases hg:t.agg with
 |true=>
  simp only[if_true,Sem.run_bind,kL hE ht,Result.andThen_ok,Sem.run_pure,iz hg]
  congr 2
  apply Array.ext'
  rw[<-ha,Array.toList_extract,List.extract_eq_take_drop]
  simp
 |false=>
  simp only[Bool.false_eq_true,if_false]
  have hc:t.cells=1:=by cases t<;>simp_all [Ty.agg,Ty.cells]
  rw[hc] at hl ha
  match cs,hl with
  | [c],_=>
    rw[Jg hg]
    have cq:all[off]? =some c:=by
     have h1:(all.toList.drop off)[0]? =some c:=by
      have:=congrArg (fun l=>l[0]?) ha
      simpa [List.getElem?_take] using this
     simpa using h1
    simp [cq]
def JG(d:Nat)(xs ys:Array Value)(f:Field)(_:Option Bool×Unit):Sem (ForInStep (Option Bool×Unit)):=
 if f.name≠ "_" then do
  let __do_lift<-part f.type xs f.offset
  let __do_lift_1<-part f.type ys f.offset
  let __do_lift<-Op.equalIn d f.type __do_lift __do_lift_1
  if(!__do_lift)=true then pure (ForInStep.done (some false,()))
   else pure (ForInStep.yield (none,()))
 else pure (ForInStep.yield (none,()))
theorem zqh(hE:ak P E){d:Nat}{xs ys:Array Value}(w:World)
 (ih:∀(t:Ty) (T:TypeId),E.ty T=some t->t.depth<=d->∀(x y:El t) (c1 c2:List Value) (r:Bool),aR X t x c1->aR X t y c2->cS t x y=some r->(Op.equalIn d T (dp t c1) (dp t c2)).run P w= .ok r w):
 ∀(fl:List Field) (t:Ty) (off:Nat),ia E fl t off->t.depth<=d+1->∀(x y:El t) (c1 c2:List Value) (r:Bool),aR X t x c1->aR X t y c2->(xs.toList.drop off).take t.cells=c1->(ys.toList.drop off).take t.cells=c2->cS t x y=some r->
  (forIn fl (none,()) (JG d xs ys)).run P w= .ok (if r=true then(none,()) else(some false,())) w:=by
 intro fl
 induction fl with
 |nil=>
  intro t off hf hd x y c1 c2 r h1 h2 h3 h4 he
  cases t<;>simp only[ia] at hf<;>try exact hf.elim
  simp only[cS,Option.some.injEq] at he
  subst he
  simp [List.forIn_nil]
 |cons f fl QF=>
  intro t off hf hd x y c1 c2 r h1 h2 h3 h4 he
  cases t<;>simp only[ia] at hf<;>try exact hf.elim
  rename_i ta tb
  obtain⟨ho,Bb,hn,ey⟩:=hf
  obtain⟨ca,cb,e1,ra,rb⟩:=h1
  obtain⟨da,db,e2,sa,sb⟩:=h2
  simp only[cS] at he
  split at he
  case h_2=>cases he
  rename_i p q hp hq
  cases he
  simp only[Ty.depth] at hd
  have la:=ra.len
  have lb:=rb.len
  have ma:=sa.len
  have mb:=sb.len
  have t1:(xs.toList.drop off).take ta.cells=ca:=by
   have:=congrArg (fun l=>l.take ta.cells) (h3.trans e1)
   simp only[List.take_take,Ty.cells] at this
   rw[Nat.min_eq_left (Nat.le_add_right _ _),<-la,List.take_left] at this
   rw[<-la];exact this
  have t2:(ys.toList.drop off).take ta.cells=da:=by
   have:=congrArg (fun l=>l.take ta.cells) (h4.trans e2)
   simp only[List.take_take,Ty.cells] at this
   rw[Nat.min_eq_left (Nat.le_add_right _ _),<-ma,List.take_left] at this
   rw[<-ma];exact this
  have u1:(xs.toList.drop (off+ta.cells)).take tb.cells=cb:=by
   have:=congrArg (fun l=>l.drop ta.cells) (h3.trans e1)
   simp only[Ty.cells] at this
   rw[List.drop_take,Nat.add_sub_cancel_left,List.drop_drop,<-la,List.drop_left] at this
   rw[<-la];exact this
  have u2:(ys.toList.drop (off+ta.cells)).take tb.cells=db:=by
   have:=congrArg (fun l=>l.drop ta.cells) (h4.trans e2)
   simp only[Ty.cells] at this
   rw[List.drop_take,Nat.add_sub_cancel_left,List.drop_drop,<-ma,List.drop_left] at this
   rw[<-ma];exact this
  have mP:=Ah hE Bb ra (all:=xs) (off:=f.offset) (by rw[ho];exact t1) w
  have yN:=Ah hE Bb sa (all:=ys) (off:=f.offset) (by rw[ho];exact t2) w
  have heq:=ih ta f.type Bb (by omega) x.1 y.1 ca da p ra sa hp
  have EW:(JG d xs ys f (none,())).run P w= .ok (if p=true then ForInStep.yield (none,()) else ForInStep.done (some false,())) w:=by
   unfold JG
   rw[if_pos hn]
   simp only[Sem.run_bind,mP,yN,heq,Result.andThen_ok]
   cases p<;>rfl
  rw[List.forIn_cons]
  simp only[Sem.run_bind,EW,Result.andThen_ok]
  cases p with
  |false=>rfl
  |true=>
   simp only[if_true,Bool.true_and]
   exact QF tb (off+ta.cells) ey (by omega) x.2 y.2 cb db q rb sb u1 u2 hq
theorem VB(hE:ak P E)(w:World){d n:Nat}{k:IntKind}{T e:TypeId}(ht:P.underlying T=some (.array n e))(he:E.ty e=some (.int k)){x y:List Int}{c1 c2:List Value}(r1:aR X (.arr n (.int k)) x c1)(r2:aR X (.arr n (.int k)) y c2):
 (Op.equalIn (d+2) T (.agg c1.toArray) (.agg c2.toArray)).run P w= .ok (decide (x=y)) w:=by
 obtain⟨l1,m1,e1⟩:=r1
 obtain⟨l2,m2,e2⟩:=r2
 have l1:x.length=n:=l1
 have l2:y.length=n:=l2
 have key:decide (x=y)=(List.range n).all fun i=>decide (x.getD i 0=y.getD i 0):=by
  by_cases wY:x=y
  ·rw[decide_eq_true wY]
   exact(List.all_eq_true.2 fun i _=>by rw[wY];simp).symm
  ·rw[decide_eq_false wY]
   cases ha:(List.range n).all fun i=>decide (x.getD i 0=y.getD i 0) with
   |false=>rfl
   |true=>
    refine absurd (List.ext_getElem (l1.trans l2.symm) fun i h1 h2=> ?_) wY
    have:=of_decide_eq_true (List.all_eq_true.1 ha i (List.mem_range.2 (by omega)))
    simpa [List.getD_eq_getElem?_getD,List.getElem?_eq_getElem h1,List.getElem?_eq_getElem h2] using this
 rw[key,List.range_eq_range',Op.equalIn]
 simp only[Sem.run_bind,run_underlying ht,Result.andThen_ok,kL hE he,Std.Legacy.Range.forIn_eq_forIn_range',Std.Legacy.Range.size,Nat.sub_zero,Nat.add_sub_cancel,Nat.div_one]
 have hl:∀i∈List.range' 0 n 1,i<n:=fun i hi=>by simpa using(List.mem_range'_1.1 hi).2
 generalize List.range' 0 n 1=l at hl⊢
 induction l with
 |nil=>simp
 |cons i l ih=>
  have hi:i<n:=hl i (by simp)
  have g1:x[i]? =some (x.getD i 0):=by rw[List.getD_eq_getElem?_getD,List.getElem?_eq_getElem (by omega)];rfl
  have g2:y[i]? =some (y.getD i 0):=by rw[List.getD_eq_getElem?_getD,List.getElem?_eq_getElem (by omega)];rfl
  have p1:=e1 i (x.getD i 0) g1
  have p2:=e2 i (y.getD i 0) g2
  have px:=Ah hE he p1 (all:=c1.toArray) (off:=i*(Ty.int k).cells) rfl w
  have py:=Ah hE he p2 (all:=c2.toArray) (off:=i*(Ty.int k).cells) rfl w
  rw[kg p1] at px
  rw[kg p2] at py
  have pe:(Op.equalIn (d+1) e (.int k (x.getD i 0)) (.int k (y.getD i 0))).run P w= .ok (decide (x.getD i 0=y.getD i 0)) w:=by
   have hu:P.underlying e=some (.int k):=(hE.ty e _ he).cO
   unfold Op.equalIn
   simp only[Sem.run_bind,run_underlying hu,Result.andThen_ok,if_true,Sem.run_pure]
   rfl
  simp only[List.forIn_cons,Sem.run_bind,px,py,pe,Result.andThen_ok,List.all_cons]
  cases hb:decide (x.getD i 0=y.getD i 0)
  ·simp
  ·simp only[Bool.not_true,Bool.false_eq_true,if_false,Sem.run_pure,Result.andThen_ok,Bool.true_and]
   exact ih fun j hj=>hl j (by simp [hj])
theorem zwv(hE:ak P E)(w:World):∀(d:Nat) (t:Ty) (T:TypeId),E.ty T=some t->t.depth<=d->∀(x y:El t) (c1 c2:List Value) (r:Bool),aR X t x c1->aR X t y c2->cS t x y=some r->(Op.equalIn d T (dp t c1) (dp t c2)).run P w= .ok r w:=by
 intro d
 induction d with
 |zero=>intro t T ht hd;cases t<;>simp only[Ty.depth] at hd<;>omega
 |succ d ih=>
  intro t T ht hd x y c1 c2 r h1 h2 he
  have hu:=(hE.ty T t ht).cO
  cases t with
  |bool=>
   rw[sE h1,sE h2]
   simp only[cS,Option.some.injEq] at he
   subst he
   unfold Op.equalIn
   simp only[Sem.run_bind,run_underlying hu,Result.andThen_ok,Sem.run_pure]
  |int k=>
   rw[kg h1,kg h2]
   simp only[cS,Option.some.injEq] at he
   subst he
   unfold Op.equalIn
   simp only[Sem.run_bind,run_underlying hu,Result.andThen_ok,if_true,Sem.run_pure]
   rfl
  |str=>
   rw[l4 h1,l4 h2]
   simp only[cS,Option.some.injEq] at he
   subst he
   unfold Op.equalIn
   simp only[Sem.run_bind,run_underlying hu,Result.andThen_ok,Sem.run_pure]
   rw[beq_toListBytes,Nw]
  |sl e t=>simp [cS] at he
  |arr n t=>
   cases t<;>simp only[cS,Option.some.injEq,reduceCtorEq] at he
   rename_i k
   subst he
   obtain⟨e,iu,jc,_⟩:=hu
   obtain⟨d,rfl⟩:∃d',d=d'+1:=⟨d-1,by simp only[Ty.depth] at hd;omega⟩
   rw[iz rfl,iz rfl]
   exact VB hE w iu jc h1 h2
  |aT _ _ _=>exact hu.elim
  |unit=>
   obtain⟨fs,iu,jc,Kg,_⟩:=hu
   rw[iz rfl,iz rfl]
   unfold Op.equalIn
   simp only[Sem.run_bind,run_underlying iu,Result.andThen_ok,run_program,Kg,Bool.false_eq_true,if_false]
   rw[<-Array.forIn_toList]
   have:=zqh (X:=X) hE (d:=d) (xs:=c1.toArray) (ys:=c2.toArray) w ih fs.toList .unit 0 jc hd x y c1 c2 r h1 h2 (by have:=h1.len;simp [Ty.cells] at this⊢;subst this;rfl) (by have:=h2.len;simp [Ty.cells] at this⊢;subst this;rfl) he
   unfold JG at this
   rw[this]
   simp only[Result.andThen_ok]
   cases r<;>rfl
  |pair ta tb=>
   obtain⟨fs,iu,jc,Kg,_⟩:=hu
   rw[iz rfl,iz rfl]
   unfold Op.equalIn
   simp only[Sem.run_bind,run_underlying iu,Result.andThen_ok,run_program,Kg,Bool.false_eq_true,if_false]
   rw[<-Array.forIn_toList]
   have:=zqh (X:=X) hE (d:=d) (xs:=c1.toArray) (ys:=c2.toArray) w ih fs.toList (.pair ta tb) 0 jc hd x y c1 c2 r h1 h2 (by have:=h1.len;simp only[List.drop_zero];rw[<-this];exact List.take_length) (by have:=h2.len;simp only[List.drop_zero];rw[<-this];exact List.take_length) he
   unfold JG at this
   rw[this]
   simp only[Result.andThen_ok]
   cases r<;>rfl
end Go.Ref

namespace Go.Ref
open Go
variable {P:Program} {E:Env} {X:ap} {s:State} {a:Act} {o:Oper} {u:Out}
theorem Yg(hE:ak P E){op:BinOp}{T:TypeId}{x y:SV}{vx vy:Value}{px py:List Nat->Place}{l:List SV}(w:World)(xo yo:Operand)(hx:au X px x vx)(hy:au X py y vy)(h:oP E op T x y some=some l):
 ∃b:Bool,l=bl b/\(eqGuard op T xo yo vx vy).run P w= .ok () w/\(Go.binOp op T vx vy).run P w= .ok (.bool b) w:=by
 unfold oP at h
 split at h
 case h_2=>cases h
 rename_i t ht
 split at h
 ·cases h
 rename_i P1
 obtain⟨m,h,hm⟩:=zz h
 obtain⟨n,h,hn⟩:=zz h
 split at h
 case h_2=>cases h
 rename_i r hr
 obtain⟨c1,r1,e1⟩:=hm X px vx hx
 obtain⟨c2,r2,e2⟩:=hn X py vy hy
 have hd:t.depth<=10000:=by
  have:Nat.ble t.depth 1000=true:=by simpa using P1
  have:=Nat.le_of_ble_eq_true this
  omega
 have heq:=zwv hE w 10000 t T ht hd m n c1 c2 r r1 r2 hr
 have hu:=(hE.ty T t ht).cO
 have hg:(eqGuard op T xo yo vx vy).run P w= .ok () w:=by
  cases t
  case bool=>rw[e1,e2,sE r1,sE r2];exact zmz ..
  case int=>rw[e1,e2,kg r1,kg r2];exact Kv ..
  case str=>rw[e1,e2,l4 r1,l4 r2];exact z99 ..
  case sl=>simp [cS] at hr
  case arr=>
   obtain⟨fs,_,_,hq⟩:=hu
   rw[e1,e2,iz rfl,iz rfl]
   cases op<;>simp [eqGuard,hq]
  case aT=>simp [cS] at hr
  all_goals
   obtain⟨fs,_,_,_,hq⟩:=hu
   rw[e1,e2,iz rfl,iz rfl]
   cases op<;>simp [eqGuard,hq]
 split at h
 ·cases h
  refine⟨r,rfl,hg,?_⟩
  rw[e1,e2]
  cases t
  case int=>rw[kg r1,kg r2];simp only[cS,Option.some.injEq] at hr;subst hr;simp only[Go.binOp,ne_eq,not_true_eq_false,if_false];rfl
  case str=>rw[l4 r1,l4 r2];simp only[cS,Option.some.injEq] at hr;subst hr;simp only[Go.binOp,Op.stringOp,Nw];rfl
  case bool=>rw[sE r1,sE r2] at heq⊢;simp only[Go.binOp,Sem.run_bind,Op.equal,Op.maxDepth,heq,Result.andThen_ok,Sem.run_pure]
  case sl=>simp [cS] at hr
  case aT=>simp [cS] at hr
  all_goals
   rw[iz rfl,iz rfl] at heq⊢
   simp only[Go.binOp,Sem.run_bind,Op.equal,Op.maxDepth,heq,Result.andThen_ok,Sem.run_pure]
 ·cases h
  refine⟨!r,rfl,hg,?_⟩
  rw[e1,e2]
  cases t
  case int=>rw[kg r1,kg r2];simp only[cS,Option.some.injEq] at hr;subst hr;simp only[Go.binOp,ne_eq,not_true_eq_false,if_false];rfl
  case str=>rw[l4 r1,l4 r2];simp only[cS,Option.some.injEq] at hr;subst hr;simp only[Go.binOp,Op.stringOp,Nw];rfl
  case bool=>rw[sE r1,sE r2] at heq⊢;simp only[Go.binOp,Sem.run_bind,Op.equal,Op.maxDepth,heq,Result.andThen_ok,Sem.run_pure]
  case sl=>simp [cS] at hr
  case aT=>simp [cS] at hr
  all_goals
   rw[iz rfl,iz rfl] at heq⊢
   simp only[Go.binOp,Sem.run_bind,Op.equal,Op.maxDepth,heq,Result.andThen_ok,Sem.run_pure]
 ·cases h
theorem Kw(op:BinOp)(T:TypeId)(x y:Operand)(p q:Option Addr)(w:World):(eqGuard op T x y (.pointer p) (.pointer q)).run P w= .ok () w:=by
 cases op<;>simp [eqGuard]
theorem YF(d:Nat){T e:TypeId}(hu:P.underlying T=some (.pointer e))(w:World)(ad:Addr):(Op.equalIn (d+1) T (.pointer (some ad)) (.pointer none)).run P w= .ok false w:=by
 unfold Op.equalIn
 simp only[Sem.run_bind,run_underlying hu,Result.andThen_ok,Sem.run_pure]
theorem YE(d:Nat){T e:TypeId}(hu:P.underlying T=some (.pointer e))(w:World):(Op.equalIn (d+1) T (.pointer none) (.pointer none)).run P w= .ok true w:=by
 unfold Op.equalIn
 simp only[Sem.run_bind,run_underlying hu,Result.andThen_ok,Sem.run_pure]
 rfl
theorem aaX(hE:ak P E){op:BinOp}{T:TypeId}{x y:SV}{vx vy:Value}{px py:List Nat->Place}{u:Out}(w:World)(xo yo:Operand)(hx:au X px x vx)(hy:au X py y vy)(h:bin E op T x y (fun v=>some ({v:=v}:Out))=some u):
 ∃sv v,u={v:=[sv]}/\(eqGuard op T xo yo vx vy).run P w= .ok () w/\(Go.binOp op T vx vy).run P w= .ok v w/\(∀X pl,au X pl sv v)/\∀id t p,sv≠ .ptr id t p:=by
 unfold bin at h
 split at h
 ·rename_i k m o1 k' n o2
  rw[xu hx,xu hy]
  obtain⟨l,h1,h2⟩:=kO zmf h
  obtain⟨sv,v,rfl,hv,_,hr,hp⟩:=zmg (T:=T) w h1
  cases h2
  exact⟨sv,v,rfl,Kv ..,hv,hr,hp⟩
 ·rename_i m o1 n o2
  rw[zg6 hx,zg6 hy]
  obtain⟨l,h1,h2⟩:=kO zmh h
  obtain⟨sv,v,rfl,hv,_,hr,hp⟩:=Yh (T:=T) w h1
  cases h2
  exact⟨sv,v,rfl,z99 ..,hv,hr,hp⟩
 ·obtain⟨r,_,hpv⟩:=hx
  have Qx:vy= .pointer none:=hy
  subst Qx
  split at h
  ·cases h
  rename_i oY
  simp only[Bool.or_eq_true,Bool.not_eq_true',not_or,Bool.not_eq_true,Bool.not_eq_false] at oY
  obtain⟨rfl,_⟩:=(n9 oY.1).1 hpv
  obtain⟨e,hu⟩:=hE.pt T oY.2
  have heq:∀ad,(Op.equal T (.pointer (some ad)) (.pointer none)).run P w= .ok false w:=fun ad=>YF 9999 hu w ad
  split at h
  ·cases h
   exact⟨_,_,rfl,Kw ..,by(simp only[Go.binOp,Sem.run_bind,heq,Result.andThen_ok,Sem.run_pure];try rfl),fun _ _=>lY,by simp⟩
  ·cases h
   exact⟨_,_,rfl,Kw ..,by(simp only[Go.binOp,Sem.run_bind,heq,Result.andThen_ok,Sem.run_pure];try rfl),fun _ _=>lY,by simp⟩
  ·cases h
 ·have EY:vx= .pointer none:=hx
  have Qx:vy= .pointer none:=hy
  subst EY Qx
  split at h
  ·cases h
  rename_i oY
  obtain⟨e,hu⟩:=hE.pt T (by simpa using oY)
  have heq:(Op.equal T (.pointer none) (.pointer none)).run P w= .ok true w:=YE 9999 hu w
  split at h
  ·cases h
   exact⟨_,_,rfl,Kw ..,by(simp only[Go.binOp,Sem.run_bind,heq,Result.andThen_ok,Sem.run_pure];try rfl),fun _ _=>lY,by simp⟩
  ·cases h
   exact⟨_,_,rfl,Kw ..,by(simp only[Go.binOp,Sem.run_bind,heq,Result.andThen_ok,Sem.run_pure];try rfl),fun _ _=>lY,by simp⟩
  ·cases h
 ·obtain⟨l,h1,h2⟩:=kO zme h
  obtain⟨b,rfl,hg,hv⟩:=Yg hE w xo yo hx hy h1
  cases h2
  exact⟨_,_,rfl,hg,hv,fun _ _=>lY,by simp⟩
theorem Yw(hE:ak P E)(hr:Rel X s a){ops:List Oper}{op:BinOp}{T T':TypeId}{x y:Operand}(ho:o.op= .binOp op T x y T'){C:FuncId->bF Out}(h:act E C ops o s some=some u):aA P X s a o u:=by
 unfold act at h
 simp only[ho] at h
 obtain⟨sv,v,rfl,hg,hv,aJ,hp⟩:=aaX hE X.w x y (hr.ay x) (hr.ay y) h
 exact aA.plain hr (by simp only[execOp,ho,Sem.run_bind,hg,hv,Result.andThen_ok,Sem.run_pure]) (aJ _ _) (fun id t p e=>absurd e (hp id t p))
end Go.Ref

namespace Go.Ref
open Go
variable {P:Program} {E:Env} {X:ap} {s:State} {a:Act} {o:Oper} {u:Out}
theorem I9(ad:Addr)(h:ad.spot=none)(m n:Nat):(ad.add m).add n=ad.add (m+n):=by
 unfold Addr.add
 by_cases h1:m=0<;>by_cases h2:n=0<;>simp [h1,h2,Nat.add_assoc]
theorem xA{ad:Addr}(h:ad.spot=none)(m:Nat):(ad.add m).spot=none:=by
 unfold Addr.add
 split
 ·exact h
 ·rfl
theorem jw(g i j:Nat):(⟨g,i,none⟩:Addr).add j=⟨g,i+j,none⟩:=by
 unfold Addr.add
 split<;>simp_all
theorem KI:∀(t:Ty) (p q:List Nat) (u:Ty),t.at_ p=some u->t.off (p++q)=t.off p+u.off q:=by
 intro t
 induction t with
 |arr n t ih=>
  intro p q u h
  cases p with
  |nil=>simp only[Ty.at_,Option.some.injEq] at h;subst h;simp [Ty.off]
  |cons i p=>
   simp only[Ty.at_] at h
   simp only[List.cons_append,Ty.off,ih p q u h]
   omega
 |pair x y E2 E3=>
  intro p q u h
  cases p with
  |nil=>simp only[Ty.at_,Option.some.injEq] at h;subst h;simp [Ty.off]
  |cons i p=>
   cases i with
   |zero=>simp only[Ty.at_] at h;simp only[List.cons_append,Ty.off,E2 p q u h]
   |succ i=>
    simp only[Ty.at_] at h
    have:=E3 (i::p) q u h
    simp only[List.cons_append,Ty.off] at this⊢
    omega
 |_=>
  intro p q u h
  cases p with
  |nil=>simp only[Ty.at_,Option.some.injEq] at h;subst h;simp [Ty.off]
  |cons i p=>simp [Ty.at_] at h
theorem zc1:∀(t:Ty) (p q:List Nat) (u:Ty),t.at_ p=some u->t.eH p->u.eH q->t.eH (p++q):=by
 intro t
 induction t with
 |arr n t ih=>
  intro p q u h hp hq
  cases p with
  |nil=>simp only[Ty.at_,Option.some.injEq] at h;subst h;exact hq
  |cons i p=>exact⟨hp.1,ih p q u h hp.2 hq⟩
 |pair x y E2 E3=>
  intro p q u h hp hq
  cases p with
  |nil=>simp only[Ty.at_,Option.some.injEq] at h;subst h;exact hq
  |cons i p=>
   cases i with
   |zero=>exact E2 p q u h hp hq
   |succ i=>exact E3 (i::p) q u h hp hq
 |_=>
  intro p q u h hp hq
  cases p with
  |nil=>simp only[Ty.at_,Option.some.injEq] at h;subst h;exact hq
  |cons i p=>simp [Ty.at_] at h
theorem getD_some{α:Type}{xs:List α}{i:Nat}(d:α)(h:i<xs.length):xs[i]? =some (xs.getD i d):=by
 simp [List.getD_eq_getElem?_getD,List.getElem?_eq_getElem h]
theorem Jd{X:ap}:∀{t:Ty} {p:List Nat} {x:El t} {cs:List Value} {u:Ty} {y:El u},aR X t x cs->t.eH p->El.get t p x=some ⟨u,y⟩->
 t.at_ p=some u/\t.off p+u.cells<=t.cells/\aR X u y ((cs.drop (t.off p)).take u.cells):=by
 intro t
 induction t with
 |arr n t ih=>
  intro p x cs u y hr hp h
  cases p with
  |nil=>
   simp only[El.get,Option.some.injEq,Sigma.mk.injEq] at h
   obtain⟨rfl,h⟩:=h
   cases h
   refine⟨rfl,by simp [Ty.off],?_⟩
   have:=hr.len
   simp only[Ty.off,List.drop_zero]
   rw[<-this,List.take_length]
   exact hr
  |cons i p=>
   obtain⟨hi,hp⟩:=hp
   obtain⟨h1,h2,h3⟩:=hr
   simp only[El.get] at h
   obtain⟨k1,k2,k3⟩:=ih (h3 i _ (getD_some (El.bI t) (by omega))) hp h
   have hn:(i+1)*t.cells<=n*t.cells:=Nat.mul_le_mul_right _ hi
   rw[Nat.add_mul,Nat.one_mul] at hn
   refine⟨k1,by simp only[Ty.off,Ty.cells];omega,?_⟩
   simp only[Ty.off]
   rw[List.drop_take,List.take_take,List.drop_drop,Nat.min_eq_left (by omega)] at k3
   exact k3
 |pair ta tb kz kA=>
  intro p x cs u y hr hp h
  cases p with
  |nil=>
   simp only[El.get,Option.some.injEq,Sigma.mk.injEq] at h
   obtain⟨rfl,h⟩:=h
   cases h
   refine⟨rfl,by simp [Ty.off],?_⟩
   have:=hr.len
   simp only[Ty.off,List.drop_zero]
   rw[<-this,List.take_length]
   exact hr
  |cons i p=>
   obtain⟨c1,c2,rfl,r1,r2⟩:=hr
   have l1:=r1.len
   have l2:=r2.len
   cases i with
   |zero=>
    obtain⟨k1,k2,k3⟩:=kz r1 hp h
    refine⟨k1,by simp only[Ty.off,Ty.cells];omega,?_⟩
    simp only[Ty.off]
    rw[List.drop_append_of_le_length (by omega),List.take_append_of_le_length (by rw[List.length_drop];omega)]
    exact k3
   |succ i=>
    obtain⟨k1,k2,k3⟩:=kA r2 hp h
    refine⟨k1,by simp only[Ty.off,Ty.cells];omega,?_⟩
    simp only[Ty.off]
    rw[<-List.drop_drop,<-l1,List.drop_left]
    exact k3
 |_=>
  intro p x cs u y hr hp h
  cases p with
  |nil=>
   simp only[El.get,Option.some.injEq,Sigma.mk.injEq] at h
   obtain⟨rfl,h⟩:=h
   cases h
   refine⟨rfl,by simp [Ty.off],?_⟩
   have:=hr.len
   simp only[Ty.off,List.drop_zero]
   rw[<-this,List.take_length]
   exact hr
  |cons i p=>simp [El.get] at h
theorem Np:∀(fl:List Field) (t:Ty) (off j:Nat) (ft:Ty),ia E fl t off->t.cN=true->t.at_ [j]=some ft->∃f,fl[j]? =some f/\f.offset=off+t.off [j]/\E.ty f.type=some ft/\t.eH [j]:=by
 intro fl
 induction fl with
 |nil=>intro t off j ft hf hp h;cases t<;>simp [ia,Ty.cN] at hf hp
 |cons f fl ih=>
  intro t off j ft hf hp h
  cases t<;>simp only[ia] at hf<;>try exact hf.elim
  rename_i ta tb
  obtain⟨h1,h2,h3,h4⟩:=hf
  cases j with
  |zero=>
   simp only[Ty.at_,Option.some.injEq] at h
   subst h
   exact⟨f,rfl,by simp [Ty.off,h1],h2,by simp [Ty.eH]⟩
  |succ j=>
   simp only[Ty.at_] at h
   cases htb:tb.cN with
   |true=>
    obtain⟨g,g1,g2,g3,g4⟩:=ih tb (off+ta.cells) j ft h4 htb h
    exact⟨g,g1,by simp only[Ty.off];omega,g3,g4⟩
   |false=>
    cases fl with
    |nil=>cases tb<;>simp [ia,Ty.at_] at h4 h
    |cons g fl=>cases tb<;>simp [ia,Ty.cN] at h4 htb
theorem zca(hE:ak P E){T:TypeId}{t:Ty}(ht:E.ty T=some t)(hp:t.cN=true):∃fs,P.underlying T=some (.struct fs)/\ia E fs.toList t 0:=by
 have hu:=(hE.ty T t ht).cO
 cases t<;>simp [Ty.cN] at hp
 obtain⟨fs,h1,h2,_⟩:=hu
 exact⟨fs,h1,h2⟩
theorem zb6(hE:ak P E){f:Field}{ft:Ty}(hf:E.ty f.type=some ft)(hc:ft.cells≠0)(ad:Addr)(w:World):(fieldPlace ad f).run P w= .ok (ad.add f.offset) w:=by
 simp [fieldPlace,kL hE hf,hc]
theorem JI:∀(t:Ty) (p:List Nat) (x:El t) (u:Ty) (y:El u),El.get t p x=some ⟨u,y⟩->t.at_ p=some u:=by
 intro t
 induction t with
 |arr n t ih=>
  intro p x u y h
  cases p with
  |nil=>simp only[El.get,Option.some.injEq,Sigma.mk.injEq] at h;rw[Ty.at_,h.1]
  |cons i p=>exact ih p _ u y h
 |pair a b kz kA=>
  intro p x u y h
  cases p with
  |nil=>simp only[El.get,Option.some.injEq,Sigma.mk.injEq] at h;rw[Ty.at_,h.1]
  |cons i p=>
   cases i with
   |zero=>exact kz p _ u y h
   |succ i=>exact kA (i::p) _ u y h
 |_=>
  intro p x u y h
  cases p with
  |nil=>simp only[El.get,Option.some.injEq,Sigma.mk.injEq] at h;rw[Ty.at_,h.1]
  |cons i p=>simp [El.get] at h
theorem zvd(hE:ak P E)(hr:Rel X s a){ops:List Oper}{T:TypeId}{x:Operand}{j:Nat}(ho:o.op= .fieldAddr T x j){C:FuncId->bF Out}(h:act E C ops o s some=some u):aA P X s a o u:=by
 unfold act at h
 simp only[ho] at h
 have hx:=hr.ay x
 unfold JH at h
 split at h
 ·rename_i t u' id root p hT e
  rw[e] at hx
  obtain⟨r,hb,hx⟩:=hx
  split at h
  ·cases h
  rename_i eK
  have eK:root.bE=false:=by simpa using eK
  obtain⟨hv,fP⟩:=(n9 eK).1 hx
  split at h
  case h_2=>cases h
  rename_i u'' bR
  split at h
  case isFalse=>cases h
  rename_i lE
  rw[Bool.and_eq_true] at lE
  obtain⟨heq,fF⟩:=lE
  have:=Ty.aH heq
  subst this
  split at h
  case h_2=>cases h
  rename_i ft J6
  split at h
  ·cases h
  rename_i gh
  cases h
  have hc:ft.cells≠0:=fun e=>gh (by rw[e];rfl)
  obtain⟨fs,iu,jc⟩:=zca hE hT fF
  obtain⟨f,g1,g2,g3,g4⟩:=Np fs.toList u' 0 j ft jc fF J6
  refine aA.plain hr (v:= .pointer (some ⟨r,root.off (p++ [j]),none⟩)) ?_ ⟨r,hb,(n9 eK).2 ⟨rfl,zc1 root p [j] u' bR fP g4⟩⟩ (fun bT t' p' e'=> ?_)
  ·have iY:fs[j]? =some f:=by rw[<-Array.getElem?_toList];exact g1
   simp only[execOp,ho,Sem.run_bind,Instr.fieldAt,run_underlying iu,Result.andThen_ok,iY,hv,Instr.sureAddr,Sem.run_pure,zb6 hE g3 hc]
   rw[jw,KI root p [j] u' bR,g2,Nat.zero_add]
  ·injection e' with e1 e2 e3
   subst e1
   exact xG hr e
 ·rename_i t u' root y hT e
  rw[e] at hx
  obtain⟨ad,cs,hv,kU,aJ,dh⟩:=hx
  split at h
  case isFalse=>cases h
  rename_i lE
  rw[Bool.and_eq_true] at lE
  obtain⟨heq,fF⟩:=lE
  have:=Ty.aH heq
  subst this
  split at h
  case h_2=>cases h
  rename_i ft z J6
  split at h
  ·cases h
  rename_i gh
  cases h
  have hc:ft.cells≠0:=fun e=>gh (by rw[e];rfl)
  obtain⟨fs,iu,jc⟩:=zca hE hT fF
  have bR:u'.at_ [j]=some ft:=JI u' [j] y ft z J6
  obtain⟨f,g1,g2,g3,g4⟩:=Np fs.toList u' 0 j ft jc fF bR
  obtain⟨k1,k2,k3⟩:=Jd aJ g4 J6
  refine aA.plain hr (v:= .pointer (some (ad.add (u'.off [j])))) ?_ ⟨ad.add (u'.off [j]),_,rfl,xA kU _,k3,fun i v hi=> ?_⟩ (fun bT t' p' e'=>by cases e')
  ·have iY:fs[j]? =some f:=by rw[<-Array.getElem?_toList];exact g1
   simp only[execOp,ho,Sem.run_bind,Instr.fieldAt,run_underlying iu,Result.andThen_ok,iY,hv,Instr.sureAddr,Sem.run_pure,zb6 hE g3 hc]
   rw[g2,Nat.zero_add]
  ·rw[I9 _ kU]
   refine dh _ v ?_
   rw[List.getElem?_take] at hi
   split at hi
   ·rw[List.getElem?_drop] at hi;exact hi
   ·cases hi
 ·cases h
end Go.Ref

namespace Go.Ref
open Go
variable {P:Program} {E:Env} {X:ap} {s:State} {a:Act} {o:Oper} {u:Out}
theorem xw{R:Type}{i:Int}{n:Nat}{x:Option R}{z:R}(h:zd i n x=some z):0<=i/\i<(n:Int)/\x=some z:=by
 unfold zd at h
 cases h1:decide (0<=i)<;>rw[h1] at h
 ·cases h
 ·cases h2:decide (i<(n:Int))<;>rw[h2] at h
  ·cases h
  ·exact⟨of_decide_eq_true h1,of_decide_eq_true h2,h⟩
theorem Pq{e:TypeId}{t:Ty}{xs:List (El t)}{cs:List Value}(h:aR X (.sl e t) xs cs):∃A c,dp (.sl e t) cs= .slice A xs.length c/\xs.length<=c/\
 ∀(j:Nat) x,xs[j]? =some x->∃ad dM,A=some ad/\ad.spot=none/\aR X t x dM/\∀(i:Nat) v,dM[i]? =some v->X.av (ad.add (j*t.cells+i)) v:=by
 obtain⟨A,c,rfl,h1,h2⟩:=h
 exact⟨A,c,rfl,h1,h2⟩
theorem aR.uF{e:TypeId}{t:Ty}{xs:List (El t)}{A:Option Addr}{n c:Nat}(hn:xs.length=n)(h1:n<=c)(h2:∀(j:Nat) x,xs[j]? =some x->∃ad dM,A=some ad/\ad.spot=none/\aR X t x dM/\∀(i:Nat) v,dM[i]? =some v->X.av (ad.add (j*t.cells+i)) v):aR X (.sl e t) xs [.slice A n c]:=by
 subst hn
 exact⟨A,c,rfl,h1,h2⟩
theorem zmu{R:Type}{s:SV}{K:Int->Option R}{z:R}(h:s.num K=some z):∃n k,K n=some z/\∀(X:ap) pl v,au X pl s v->v= .int k n:=by
 unfold SV.num at h
 split at h
 ·rename_i k n w
  refine⟨n,k,h,fun X pl v hv=> ?_⟩
  obtain⟨cs,h1,h2,_⟩:=hv
  rw[h2,kg h1]
 ·cases h
theorem zve(hE:ak P E)(hr:Rel X s a){ops:List Oper}{T:TypeId}{x i:Operand}(ho:o.op= .indexAddr T x i){C:FuncId->bF Out}(h:act E C ops o s some=some u):aA P X s a o u:=by
 unfold act at h
 simp only[ho] at h
 have hx:=hr.ay x
 have hi:=hr.ay i
 unfold JJ at h
 obtain⟨n,ik,h,hn⟩:=zmu h
 have ei:=hn X _ _ hi
 split at h
 ·rename_i e t t' xs w hT dy
  rw[dy] at hx
  obtain⟨ys,h,pG⟩:=zz h
  obtain⟨h0,h1,h⟩:=xw h
  cases h
  obtain⟨cs,lR,ev⟩:=pG X (yW x) _ hx.bare
  obtain⟨A,c,hm,hle,dF⟩:=Pq lR
  rw[hm] at ev
  have ar:n.toNat<List.length ys:=by omega
  obtain⟨ad,dM,rfl,kU,aJ,dh⟩:=dF n.toNat _ (getD_some (El.bI t) ar)
  have hu:=(hE.ty T _ hT).cO
  refine aA.plain hr (v:= .pointer (some (ad.add (n.toNat*t.cells)))) ?_ ⟨ad.add (n.toNat*t.cells),dM,rfl,xA kU _,aJ,fun j v hj=> ?_⟩ (fun _ _ _ e'=>by cases e')
  ·simp only[execOp,ho,Sem.run_bind,Instr.indexAt,ei,ev,asIntOf,Sem.run_pure,Result.andThen_ok,run_underlying hu.1,Sem.run_ite,h0,h1,and_self,if_true,kL hE hu.2]
  ·rw[I9 _ kU];exact dh j v hj
 ·rename_i m t id root p hT dy
  rw[dy] at hx
  obtain⟨r,hb,hx⟩:=hx
  split at h
  ·cases h
  rename_i eK
  have eK:root.bE=false:=by simpa using eK
  obtain⟨hv,fP⟩:=(n9 eK).1 hx
  split at h
  case h_2=>cases h
  rename_i u'' bR
  split at h
  case isFalse=>cases h
  rename_i heq
  have:=Ty.aH heq
  subst this
  obtain⟨h0,h1,h⟩:=xw h
  cases h
  obtain⟨e,iu,jc,_⟩:=(hE.ty T _ hT).cO
  have ar:n.toNat<m:=by omega
  refine aA.plain hr (v:= .pointer (some ⟨r,root.off (p++ [n.toNat]),none⟩)) ?_ ⟨r,hb,(n9 eK).2 ⟨rfl,zc1 root p [n.toNat] _ bR fP ⟨ar,by simp [Ty.eH]⟩⟩⟩ (fun bT t' p' e'=> ?_)
  ·simp only[execOp,ho,Sem.run_bind,Instr.indexAt,ei,hv,asIntOf,Sem.run_pure,Result.andThen_ok,run_underlying iu,Instr.sureAddr,Sem.run_ite,h0,h1,and_self,if_true,kL hE jc]
   rw[jw,KI root p [n.toNat] _ bR]
   simp [Ty.off]
  ·injection e' with e1 e2 e3
   subst e1
   exact xG hr dy
 ·rename_i m t t' xs hT dy
  rw[dy] at hx
  obtain⟨ad,cs,hv,kU,aJ,dh⟩:=hx
  simp only[SV.el] at h
  split at h
  case isFalse=>cases h
  rename_i heq
  have:=Ty.aH heq
  subst this
  obtain⟨h0,h1,h⟩:=xw h
  cases h
  obtain⟨e,iu,jc,_⟩:=(hE.ty T _ hT).cO
  obtain⟨l1,l2,l3⟩:=aJ
  have ar:n.toNat<m:=by omega
  have A8:=l3 n.toNat _ (getD_some (El.bI t) (by omega))
  refine aA.plain hr (v:= .pointer (some (ad.add (n.toNat*t.cells)))) ?_ ⟨ad.add (n.toNat*t.cells),_,rfl,xA kU _,A8,fun j v hj=> ?_⟩ (fun _ _ _ e'=>by cases e')
  ·simp only[execOp,ho,Sem.run_bind,Instr.indexAt,ei,hv,asIntOf,Sem.run_pure,Result.andThen_ok,run_underlying iu,Instr.sureAddr,Sem.run_ite,h0,h1,and_self,if_true,kL hE jc]
  ·rw[I9 _ kU]
   refine dh _ v ?_
   rw[List.getElem?_take] at hj
   split at hj
   ·rw[List.getElem?_drop] at hj;exact hj
   ·cases hj
 ·rename_i e0 t id r p hT dy
  rw[dy] at hx
  unfold Is at h
  split at h
  case h_2=>cases h
  rename_i m ta tb
  split at h
  case isFalse=>cases h
  rename_i heq
  have:=Ty.aH heq
  subst this
  obtain⟨h0,h1,h⟩:=xw h
  cases h
  obtain⟨r0,hb,cap,hv,lD⟩:=hx
  have hu:=(hE.ty T _ hT).cO
  refine aA.plain hr (v:= .pointer (some ⟨r0,n.toNat*ta.cells,none⟩)) ?_ ⟨r0,hb,rfl⟩ (fun bT t' p' e'=> ?_)
  ·simp only[execOp,ho,Sem.run_bind,Instr.indexAt,ei,hv,asIntOf,Sem.run_pure,Result.andThen_ok,run_underlying hu.1,Sem.run_ite,h0,h1,and_self,if_true,kL hE hu.2]
   rw[jw,Nat.zero_add]
  ·injection e' with e1 e2 e3
   subst e1
   exact xG hr dy
 ·cases h
theorem AA{pl:List Nat->Place}{t:Ty}{x:El t}{cs:List Value}(h:aR X t x cs):au X pl (.ah t x []) (dp t cs):=⟨cs,h,rfl,lZ⟩
theorem z162(hE:ak P E)(hr:Rel X s a){ops:List Oper}{T:TypeId}{x i:Operand}(ho:o.op= .index T x i){C:FuncId->bF Out}(h:act E C ops o s some=some u):aA P X s a o u:=by
 unfold act at h
 simp only[ho] at h
 have hx:=hr.ay x
 have hi:=hr.ay i
 unfold JK at h
 obtain⟨n,ik,h,hn⟩:=zmu h
 have ei:=hn X _ _ hi
 split at h
 ·rename_i hT
  obtain⟨st,h,cp⟩:=zz h
  obtain⟨h0,h1,h⟩:=xw h
  cases h
  obtain⟨cs,Ff,ev⟩:=cp X _ _ hx
  rw[l4 Ff] at ev
  have hu:=(hE.ty T _ hT).cO
  have ar:n.toNat<st.size:=by omega
  refine aA.plain hr (v:= .int .u8 (ze st n.toNat)) ?_ iy (fun _ _ _ e'=>by cases e')
  have cq:st[n.toNat]? =some (st[n.toNat]'ar):=getElem?_pos st n.toNat ar
  simp only[execOp,ho,Sem.run_bind,Instr.index,ei,ev,asIntOf,Sem.run_pure,Result.andThen_ok,run_underlying hu,h0,if_true,cq]
  simp [ze,ar]
 ·rename_i m t hT
  obtain⟨ys,h,pG⟩:=zz h
  obtain⟨h0,h1,h⟩:=xw h
  cases h
  obtain⟨cs,lR,ev⟩:=pG X _ _ hx
  rw[iz rfl] at ev
  obtain⟨e,iu,jc,_⟩:=(hE.ty T _ hT).cO
  obtain⟨l1,l2,l3⟩:=lR
  have ar:n.toNat<m:=by omega
  have A8:=l3 n.toNat _ (getD_some (El.bI t) (by omega))
  refine aA.plain hr ?_ (AA A8) (fun _ _ _ e'=>by cases e')
  have hp:=Ah hE jc A8 (all:=cs.toArray) (off:=n.toNat*t.cells) rfl X.w
  simp only[execOp,ho,Sem.run_bind,Instr.index,ei,ev,asIntOf,Sem.run_pure,Result.andThen_ok,run_underlying iu,h0,h1,and_self,if_true,kL hE jc,hp]
 ·cases h
theorem Tk(hE:ak P E)(hr:Rel X s a){ops:List Oper}{T:TypeId}{x:Operand}{j:Nat}(ho:o.op= .field T x j){C:FuncId->bF Out}(h:act E C ops o s some=some u):aA P X s a o u:=by
 unfold act at h
 simp only[ho] at h
 have hx:=hr.ay x
 split at h
 case h_2=>cases h
 rename_i t hT
 split at h
 ·cases h
 rename_i fF
 have fF:t.cN=true:=by simpa using fF
 obtain⟨y,h,hy⟩:=zz h
 split at h
 case h_2=>cases h
 rename_i ft z hg
 cases h
 obtain⟨cs,rep,ev⟩:=hy X _ _ hx
 have oW:t.agg=true:=by cases t<;>simp_all [Ty.cN,Ty.agg]
 rw[iz oW] at ev
 obtain⟨fs,iu,jc⟩:=zca hE hT fF
 obtain⟨f,g1,g2,g3,fP⟩:=Np fs.toList t 0 j ft jc fF (JI t [j] y ft z hg)
 obtain⟨k1,k2,k3⟩:=Jd rep fP hg
 have iY:fs[j]? =some f:=by rw[<-Array.getElem?_toList];exact g1
 refine aA.plain hr ?_ (AA k3) (fun _ _ _ e'=>by cases e')
 have hp:=Ah hE g3 k3 (all:=cs.toArray) (off:=f.offset) (by rw[g2,Nat.zero_add]) X.w
 simp only[execOp,ho,Sem.run_bind,Instr.field,run_underlying iu,Result.andThen_ok,iY,ev,asAgg,Sem.run_pure,hp]
theorem Yz(hE:ak P E)(hr:Rel X s a){ops:List Oper}{x:Operand}{T:TypeId}{dL:Array Operand}{ts:Array TypeId}(ho:o.op= .call ⟨.builtin .len,dL,ts⟩){C:FuncId->bF Out}(h:act E C ops o s some=some u):aA P X s a o u:=by
 unfold act at h
 simp only[ho] at h
 split at h
 case h_2=>cases h
 rename_i x T oZ yu
 have has:dL= #[x]:=by rw[<-Array.toArray_toList (xs:=dL),oZ]
 have gj:ts= #[T]:=by rw[<-Array.toArray_toList (xs:=ts),yu]
 subst has gj
 have hx:=hr.ay x
 unfold ru at h
 split at h
 ·rename_i hT
  obtain⟨st,h,cp⟩:=zz h
  cases h
  obtain⟨cs,Ff,ev⟩:=cp X _ _ hx
  rw[l4 Ff] at ev
  have hu:=(hE.ty T _ hT).cO
  refine aA.plain hr (v:= .int .i64 st.size) ?_ iy (fun _ _ _ e'=>by cases e')
  simp [execOp,ho,resolve,invoke,builtin,Builtin.len_,ev,run_underlying hu,goInt]
 ·rename_i e t hT
  have hu:=(hE.ty T _ hT).cO
  split at h
  ·rename_i id n ta tb dy
   cases h
   rw[dy] at hx
   obtain⟨r0,hb,cap,ev,lD⟩:=hx
   refine aA.plain hr (v:= .int .i64 n) ?_ iy (fun _ _ _ e'=>by cases e')
   simp [execOp,ho,resolve,invoke,builtin,Builtin.len_,ev,run_underlying hu.1,goInt]
  ·obtain⟨xs,h,Qw⟩:=zz h
   cases h
   obtain⟨cs,zG,ev⟩:=Qw X _ _ hx
   obtain⟨A,c,hm,_,_⟩:=Pq zG
   rw[hm] at ev
   refine aA.plain hr (v:= .int .i64 (List.length xs)) ?_ iy (fun _ _ _ e'=>by cases e')
   simp [execOp,ho,resolve,invoke,builtin,Builtin.len_,ev,run_underlying hu.1,goInt]
 ·rename_i n t hT
  cases h
  obtain⟨e,iu,jc,_⟩:=(hE.ty T _ hT).cO
  refine aA.plain hr (v:= .int .i64 n) ?_ iy (fun _ _ _ e'=>by cases e')
  simp [execOp,ho,resolve,invoke,builtin,Builtin.len_,run_underlying iu,goInt]
 ·cases h
theorem zwm(hr:Rel X s a){ops:List Oper}{g:Bool}{dL:Array Operand}{ts:Array TypeId}(ho:o.op= .call ⟨.builtin (if g then .max else .min),dL,ts⟩){C:FuncId->bF Out}(h:act E C ops o s some=some u):aA P X s a o u:=by
 have key:∀x y,dL= #[x,y]->jg g (s.ay x) (s.ay y) some=some u->aA P X s a o u:=by
  intro x y has h
  subst has
  have hx:=hr.ay x
  have hy:=hr.ay y
  unfold jg at h
  split at h
  case h_2=>cases h
  rename_i k m _ k' n _ e1 e2
  rw[e1] at hx
  rw[e2] at hy
  have vx:=xu hx
  have vy:=xu hy
  cases h
  refine aA.plain hr (v:= .int k (bif g then(if(m:Int)<n then n else m) else(if(n:Int)<m then n else m))) ?_ iy (fun _ _ _ e'=>by cases e')
  cases g
  ·simp [execOp,ho,resolve,invoke,builtin,Builtin.min_,Builtin.min2,vx,vy]
  ·simp [execOp,ho,resolve,invoke,builtin,Builtin.max_,Builtin.max2,vx,vy]
 unfold act at h
 cases g with
 |true=>
  simp only[ho,if_true] at h
  split at h
  ·rename_i x y e
   exact key x y (by rw[<-Array.toArray_toList (xs:=dL),e]) h
  ·cases h
 |false=>
  simp only[ho,Bool.false_eq_true,if_false] at h
  split at h
  ·rename_i x y e
   exact key x y (by rw[<-Array.toArray_toList (xs:=dL),e]) h
  ·cases h
theorem aa7(hr:Rel X s a){ops:List Oper}{op:UnOp}{T:TypeId}{x:Operand}(ho:o.op= .unOp op T x){C:FuncId->bF Out}(h:act E C ops o s some=some u):aA P X s a o u:=by
 unfold act at h
 simp only[ho] at h
 have hx:=hr.ay x
 unfold Fp at h
 split at h
 ·rename_i b w e
  rw[e] at hx
  cases h
  refine aA.plain hr (v:= .bool (!b)) ?_ lY (fun _ _ _ e'=>by cases e')
  simp [execOp,ho,H5 hx,Op.unary]
 ·rename_i k n w e
  rw[e] at hx
  cases h
  refine aA.plain hr (v:= .int k (k.wrap (0-n))) ?_ iy (fun _ _ _ e'=>by cases e')
  simp [execOp,ho,xu hx,Op.unary,Op.intArith]
 ·cases h
theorem zyb(hr:Rel X s a){ops:List Oper}{x:Operand}(ho:o.op= .nilCheck x){C:FuncId->bF Out}(h:act E C ops o s some=some u):aA P X s a o u:=by
 unfold act at h
 simp only[ho] at h
 have hx:=hr.ay x
 split at h
 ·rename_i id t p e
  rw[e] at hx
  split at h
  ·cases h
  rename_i eK
  have eK:t.bE=false:=by simpa using eK
  cases h
  obtain⟨r,h1,hx⟩:=hx
  obtain⟨h2,h3⟩:=(n9 eK).1 hx
  refine aA.plain hr (v:= .pointer (some ⟨r,t.off p,none⟩)) ?_ ⟨r,h1,(n9 eK).2 ⟨rfl,h3⟩⟩ (fun bT t' p' e'=> ?_)
  ·simp [execOp,ho,h2]
  ·injection e' with e1 e2 e3
   subst e1
   exact xG hr e
 ·rename_i t y e
  rw[e] at hx
  cases h
  obtain⟨ad,cs,h1,h2⟩:=hx
  refine aA.plain hr (v:= .pointer (some ad)) ?_ ⟨ad,cs,rfl,h2⟩ (fun _ _ _ e'=>by cases e')
  simp [execOp,ho,h1]
 ·cases h
theorem Si(hr:Rel X s a){ops:List Oper}{x:Operand}{j:Nat}(ho:o.op= .extract x j){C:FuncId->bF Out}(h:act E C ops o s some=some u):aA P X s a o u:=by
 unfold act at h
 simp only[ho] at h
 split at h
 case h_2=>cases h
 rename_i t
 have hs:=hr.slot t
 split at h
 ·rename_i hlen
  split at h
  case h_2=>cases h
  rename_i qV
  cases h
  have Kc:=hr.ay (.tmp t)
  rw[show s.ay (.tmp t)=SV.over from qV] at Kc
  have Kc:a.eval (.tmp t)= .tuple #[.bool false]:=Kc
  refine aA.plain hr (v:= .bool false) ?_ lY (fun _ _ _ e'=>by cases e')
  simp [execOp,ho,Kc,Instr.extract]
 rename_i hlen
 have mK:(s.slot t).length≠1:=fun e=>hlen (by rw[e];rfl)
 have Qt:∃vs:Array Value,a.tmps.getD t Go.undef= .tuple vs/\vs.size=(s.slot t).length/\∀(j:Nat) sv v,(s.slot t)[j]? =some sv->vs[j]? =some v->au X (.c t j) sv v:=by
  match hm:s.slot t with
  | [sv]=>rw[hm] at mK;exact absurd rfl mK
  | []=>rw[hm] at hs;exact hs
  |_::_::_=>rw[hm] at hs;exact hs
 obtain⟨vs,h1,h2,h3⟩:=Qt
 have aV:∀v,vs[j]? =some v->(execOp a.eval o).run P X.w= .ok (.value v) X.w:=by
  intro v hv
  simp only[execOp,ho,Act.eval,h1,Sem.run_bind,Instr.extract,hv,Sem.run_pure,Result.andThen_ok]
 have hv:∀sv,(s.slot t)[j]? =some sv->∃v,vs[j]? =some v:=by
  intro sv jt
  have:=(List.getElem?_eq_some_iff.1 jt).1
  exact⟨_,Array.getElem?_eq_getElem (by omega)⟩
 split at h
 ·rename_i ut y w e
  cases h
  obtain⟨v,hv⟩:=hv _ e
  cases w with
  |nil=>exact aA.plain hr (aV v hv) (h3 j _ v e hv).bare (fun _ _ _ h=>by cases h)
  |cons p w=>exact aA.xe hr (aV v hv) (h3 j _ v e hv)
 ·cases h
 ·rename_i sv h4 h5 e
  cases h
  obtain⟨v,hv⟩:=hv _ e
  refine aA.plain hr (aV v hv) ((h3 j _ v e hv).place ?_) (fun id ty p e'=> ?_)
  ·cases sv with
   |ah ut y w=>exact(h4 ut y w rfl).elim
   |_=>trivial
  ·by_cases ar:t<s.sl.length
   ·refine hr.live t _ id ty p (vg ar) ?_
    rw[<-e'];exact List.mem_of_getElem? e
   ·have:s.slot t=[.undef]:=by simp [State.slot,List.getElem?_eq_none (Nat.le_of_not_lt ar)]
    rw[this] at mK
    exact absurd rfl mK
 ·cases h
end Go.Ref

namespace Go.Ref
open Go
variable {P:Program} {E:Env} {X:ap} {s:State} {a:Act} {o:Oper} {u:Out}
def mj(v:Option SV)(n:Nat)(d:Nat):Prop:=match v with
 |none=>n=d
 |some v=>∀(X:ap) pl val,au X pl v val->val= .int .i64 (n:Int)
theorem Gm{l:Int}{m:Nat}(h1:0<=l)(h2:l<=(m:Int)):l.toNat<=m:=by omega
theorem zrd{l:Int}(h1:0<=l):((l.toNat:Nat):Int)=l:=by omega
theorem z9h{R:Type}{lo:Option SV}{m:Nat}{G:Nat->Option R}{z:R}(h:vl lo m G=some z):∃l,G l=some z/\l<=m/\mj lo l 0:=by
 unfold vl at h
 cases lo with
 |none=>exact⟨0,h,Nat.zero_le _,rfl⟩
 |some v=>
  obtain⟨l,h,hl⟩:=zz h
  cases h1:decide (0<=l)<;>rw[h1] at h
  ·cases h
  ·cases h2:decide (l<=(m:Int))<;>rw[h2] at h
   ·cases h
   ·have h1:=of_decide_eq_true h1
    have h2:=of_decide_eq_true h2
    refine⟨l.toNat,h,Gm h1 h2,fun X pl val hv=> ?_⟩
    obtain⟨cs,r,e⟩:=hl X pl val hv
    rw[e,kg r,zrd h1]
theorem zqd{R:Type}{lo hi:Option SV}{n:Nat}{F:Nat->Nat->Option R}{z:R}(h:cutAt lo hi n F=some z):∃l m,F l m=some z/\l<=m/\m<=n/\mj lo l 0/\mj hi m n:=by
 unfold cutAt at h
 cases hi with
 |none=>
  obtain⟨l,h1,h2,h3⟩:=z9h h
  exact⟨l,n,h1,h2,Nat.le_refl _,h3,rfl⟩
 |some v=>
  obtain⟨m,h,hm⟩:=zz h
  cases h1:decide (0<=m)<;>rw[h1] at h
  ·cases h
  ·cases h2:decide (m<=(n:Int))<;>rw[h2] at h
   ·cases h
   ·have h1:=of_decide_eq_true h1
    have h2:=of_decide_eq_true h2
    have h:vl lo (Int.toNat m) (fun l=>F l (Int.toNat m))=some z:=h
    obtain⟨l,g1,g2,g3⟩:=z9h h
    refine⟨l,m.toNat,g1,g2,Gm h1 h2,g3,fun X pl val hv=> ?_⟩
    obtain⟨cs,r,e⟩:=hm X pl val hv
    rw[e,kg r,zrd h1]
theorem mj.val(hr:Rel X s a){x:Option Operand}{n d:Nat}(h:mj (x.map s.ay) n d):(x=none/\n=d)\/x.map a.eval=some (.int .i64 (n:Int)):=by
 cases x with
 |none=>exact .inl ⟨rfl,h⟩
 |some x=>exact .inr (by rw[Option.map_some,h X _ _ (hr.ay x)])
theorem zbp(hr:Rel X s a){isS:Bool}{lo hi:Option Operand}{l m n c:Nat}(hl:mj (lo.map s.ay) l 0)(hm:mj (hi.map s.ay) m n)(h1:l<=m)(h2:m<=n)(h3:n<=c)(w:World):
 (Instr.sliceBounds isS n c (lo.map a.eval) (hi.map a.eval) none).run P w= .ok (l,m,c) w:=by
 have sb:∀(i y:Nat) (code:BoundsCode),i<=y->(Instr.sliceBound (.int .i64 (i:Int)) y code).run P w= .ok i w:=by
  intro i y code h
  rw[run_sliceBound (P:=P) (w:=w) .i64 (i:Int) y code (by omega) (by omega)]
  simp
 rcases hl.val hr with⟨rfl,rfl⟩|hl<;>rcases hm.val hr with⟨rfl,rfl⟩|hm
 ·simp [Instr.sliceBounds]
 ·simp [Instr.sliceBounds,hm,sb m c _ (by omega)]
 ·simp [Instr.sliceBounds,hl,sb l m _ h1]
 ·simp [Instr.sliceBounds,hl,hm,sb l m _ h1,sb m c _ (by omega)]
theorem Vt(hE:ak P E)(hr:Rel X s a){T:TypeId}{x:Operand}{lo hi:Option Operand}(ho:o.op= .slice T x lo hi none)(h:oU E T (s.ay x) (lo.map s.ay) (hi.map s.ay) some=some u):aA P X s a o u:=by
 have hx:=hr.ay x
 unfold oU at h
 split at h
 ·rename_i hT
  obtain⟨st,h,cp⟩:=zz h
  obtain⟨l,m,h,h1,h2,hl,hm⟩:=zqd h
  cases h
  obtain⟨cs,Ff,ev⟩:=cp X _ _ hx
  rw[l4 Ff] at ev
  have hu:=(hE.ty T _ hT).cO
  refine aA.plain hr (v:= .string (st.extract l m)) ?_ xB (fun _ _ _ e'=>by cases e')
  simp only[execOp,ho,Sem.run_bind,Instr.sliceAt,run_underlying hu,Result.andThen_ok,Instr.slice,ev,Option.map_none,Option.isSome_none,Bool.false_eq_true,if_false,zbp hr hl hm h1 h2 (Nat.le_refl _),Sem.run_pure]
 ·rename_i e t hT
  obtain⟨xs,h,oZ⟩:=zz h
  obtain⟨l,m,h,h1,h2,hl,hm⟩:=zqd h
  cases h
  obtain⟨cs,zG,ev⟩:=oZ X _ _ hx
  obtain⟨A,c,EF,hle,dF⟩:=Pq zG
  rw[EF] at ev
  have hu:=(hE.ty T _ hT).cO
  have hlen:((List.take m xs).drop l).length=m-l:=by rw[List.length_drop,List.length_take,Nat.min_eq_left h2]
  refine aA.plain hr (v:= .slice (if c=l then A else A.map (·.add (l*t.cells))) (m-l) (c-l)) ?_ ⟨_,aR.uF (A:=if c=l then A else A.map (·.add (l*t.cells))) (n:=m-l) (c:=c-l) hlen (by omega) (fun j y hj=> ?_),rfl,lZ⟩ (fun _ _ _ e'=>by cases e')
  ·simp only[execOp,ho,Sem.run_bind,Instr.sliceAt,run_underlying hu.1,Result.andThen_ok,Instr.slice,ev,Option.map_none,zbp hr hl hm h1 h2 hle,Sem.run_pure,kL hE hu.2]
  ·have uf:=(List.getElem?_eq_some_iff.1 hj).1
   rw[hlen] at uf
   have Ew:xs[l+j]? =some y:=by
    rw[List.getElem?_drop,List.getElem?_take,if_pos (by omega)] at hj
    exact hj
   obtain⟨ad,dM,rfl,kU,aJ,dh⟩:=dF (l+j) y Ew
   rw[if_neg (by omega)]
   refine⟨ad.add (l*t.cells),dM,rfl,xA kU _,aJ,fun i v hi=> ?_⟩
   rw[I9 _ kU,<-Nat.add_assoc,<-Nat.add_mul]
   exact dh i v hi
 ·cases h
theorem Tj(hE:ak P E)(hr:Rel X s a){S T:TypeId}{x:Operand}(ho:o.op= .convert S T x)(h:jX E S T (s.ay x) some=some u):aA P X s a o u:=by
 have hx:=hr.ay x
 unfold jX at h
 split at h
 ·rename_i k k' hS hT
  obtain⟨n,h,hn⟩:=zz h
  cases h
  obtain⟨cs,rn,ev⟩:=hn X _ _ hx
  rw[kg rn] at ev
  have hu:=(hE.ty S _ hS).cO
  have hv:=(hE.ty T _ hT).cO
  refine aA.plain hr (v:= .int k' (k'.wrap n)) ?_ iy (fun _ _ _ e'=>by cases e')
  simp [execOp,ho,ev,convert,run_underlying hu,run_underlying hv,Conv.intToInt]
 ·rename_i hS hT
  obtain⟨st,h,cp⟩:=zz h
  cases h
  obtain⟨cs,rn,ev⟩:=cp X _ _ hx
  rw[l4 rn] at ev
  have hu:=(hE.ty S _ hS).cO
  have hv:=(hE.ty T _ hT).cO
  refine aA.plain hr (v:= .string st) ?_ xB (fun _ _ _ e'=>by cases e')
  simp [execOp,ho,ev,convert,run_underlying hu,run_underlying hv]
 ·rename_i e hS hT
  obtain⟨xs,h,oZ⟩:=zz h
  cases h
  obtain⟨cs,zG,ev⟩:=oZ X _ _ hx
  obtain⟨A,c,EF,hle,dF⟩:=Pq zG
  rw[EF] at ev
  have hu:=(hE.ty S _ hS).cO
  have he:=(hE.ty e _ hu.2).cO
  have hv:=(hE.ty T _ hT).cO
  refine aA.plain hr (v:= .string (strOf xs)) ?_ xB (fun _ _ _ e'=>by cases e')
  have key:(convert S T (.slice A (List.length xs) c)).run P X.w= .ok (.string (strOf xs)) X.w:=by
   cases A with
   |none=>
    have qT:xs=[]:=by
     cases xs with
     |nil=>rfl
     |cons y ys=>obtain⟨ad,_,h,_⟩:=dF 0 y rfl;cases h
    rw[run_convert_bytes_nil X.w S e hu.1 he _ _ T hv,qT]
    rfl
   |some ad=>
    rw[run_convert_bytes_string X.w S T e _ _ c hu.1 he hv]
    have iZ:(loadCells ad (List.length xs)).run P X.w= .ok (List.map (Value.int .u8) xs).toArray X.w:=by
     have:=run_loadCells_list (P:=P) X.w ad (List.map (Value.int .u8) xs) (fun j v hj=>by
      obtain⟨y,hy,rfl⟩:=List.getElem?_map .. ▸hj|>Option.map_eq_some_iff.1
      obtain⟨nV,dM,h1,kU,aJ,dh⟩:=dF j y hy
      cases h1
      have hc:dM=[.int .u8 y]:=aJ
      have:=dh 0 (.int .u8 y) (by rw[hc];rfl)
      have h2:=this.2.1
      simpa [Ty.cells] using h2)
     rw[List.length_map] at this
     exact this
    rw[run_bytesToString X.w ad _ c xs iZ,foldl_push_bytes]
    simp [strOf,ByteArray.empty,ByteArray.emptyWithCapacity]
    rfl
  simp only[execOp,ho,Sem.run_bind,ev,key,Result.andThen_ok,Sem.run_pure]
 ·cases h
def ap.new(X:ap)(cs:Array Value)(T:TypeId)(w:Ow)(β:Nat->Option Nat):ap:={w:=X.w.alloc (.cells cs T),ow:=fun g=>if g=X.w.heap.size then w else X.ow g,β}
theorem zmr(X:ap)(s:State)(cs:Array Value)(T:TypeId)(w:Ow)(β:Nat->Option Nat)(hβ0:β 0=X.β 0)(hβ:∀(id:Nat) B,s.bs[id]? =some (some B)->β id=X.β id):eC s X (X.new cs T w β) where
 size:=by simp [ap.new]
 os:=rfl
 tape:=rfl
 output:=rfl
 l7:=fun g hg=>⟨by simp only[ap.new];rw[if_neg (by omega)],RowKit.Below.heap_alloc _ _ _ hg⟩
 β0:=hβ0
 β:=hβ
theorem zfz(X:ap)(cs:Array Value)(T:TypeId)(w:Ow)(β:Nat->Option Nat):(X.new cs T w β).w.heap[X.w.heap.size]? =some (.cells cs T (0,0))/\(X.new cs T w β).ow X.w.heap.size=w:=⟨heap_alloc_new X.w _,by simp [ap.new]⟩
theorem zc5(T:TypeId)(v:Value)(w:World):(newVar T v).run P w= .ok ⟨w.heap.size,0,none⟩ (w.alloc (.cells v.cells T)):=by
 simp [newVar,newRow]
theorem Rel.fT{Y:ap}(hr:Rel Y s a){d r:Nat}{B:bk}(hd:d<s.bs.length)(hb:s.bs[d]? =some none)(hβ:Y.β d=some r)(h:bA Y d r B):Rel Y (s.aC (some (d,B))) a where
 size:=hr.size
 gD:=by simpa [State.aC] using hr.gD
 bH:=hr.bH
 boxes:=fun id B' fk=>by
  simp only[State.aC,List.getElem?_set] at fk
  by_cases e:d=id
  ·subst e
   rw[if_pos rfl,if_pos hd] at fk
   cases fk;exact⟨r,hβ,h⟩
  ·rw[if_neg e] at fk
   exact hr.boxes id B' fk
 live:=fun i l id t p hi hm=>by
  obtain⟨B',fk⟩:=hr.live i l id t p hi hm
  simp only[State.aC,List.getElem?_set]
  by_cases e:d=id
  ·subst e;rw[hb] at fk;cases fk
  ·rw[if_neg e];exact⟨B',fk⟩
 defers:=hr.defers
theorem pI{d:Nat}{B:bk}(h:s.box d=some B):s.bs[d]? =some (some B):=by
 unfold State.box at h
 rw[List.getD_eq_getElem?_getD] at h
 cases hg:s.bs[d]? with
 |none=>rw[hg] at h;cases h
 |some x=>rw[hg] at h;simp at h;rw[h]
theorem zvr(hr:Rel X s a){x:Operand}{t:Ty}{R:Type}{K:El t->Option R}{z:R}(h:(s.ay x).el t K=some z){c:List (Nat×Nat)}(hc:c=src x\/((s.ay x).own=[]/\c=[])):
 ∃y,K y=some z/\∀q:List Nat->Place,∃Y cs,Y.w=X.w/\Ext X Y/\Rel Y (s.close c) a/\aR Y t y cs/\a.eval x=dp t cs/\bf Y q t y cs (s.ay x).own/\Y.β=X.β/\dd (s.close c) X Y/\ko X Y:=by
 have hx:=hr.ay x
 cases hs:s.ay x with
 |ah t' y' w=>
  rw[hs] at hx h hc
  simp only[SV.el] at h
  split at h
  case isFalse=>cases h
  rename_i heq
  have:=Ty.aH heq
  subst this
  refine⟨y',h,fun q=> ?_⟩
  have plain:w=[]->∃Y cs,Y.w=X.w/\Ext X Y/\Rel Y (s.close c) a/\aR Y t' y' cs/\a.eval x=dp t' cs/\bf Y q t' y' cs (SV.ah t' y' w).own/\Y.β=X.β/\dd (s.close c) X Y/\ko X Y:=by
   intro hw
   subst hw
   obtain⟨cs,h1,h2,_⟩:=hx
   exact⟨X,cs,rfl,Ext.refl X,hr.close _,h1,h2,lZ,rfl,dd.refl _ _,ko.refl X⟩
  rcases hc with hc|⟨hw,_⟩
  ·cases x with
   |tmp i=>
    obtain⟨Y,h1,h2,h3,⟨cs,h4,h5,h6⟩,h7,h8,h9⟩:=hr.take hx q
    subst hc
    exact⟨Y,cs,h1,h2,h3,h4,h5,h6,h7,h8,h9⟩
   |const v=>exact plain (zfe (show z59 v= .ah t' y' w from hs))
   |_=>simp [State.ay,State.uy,one] at hs
  ·exact plain hw
 |cm=>
  rw[hs] at hx h
  cases t<;>simp only[SV.el] at h<;>try(cases h;done)
  rename_i e t
  refine⟨[],h,fun q=>⟨X,[.slice none 0 0],rfl,Ext.refl X,hr.close _,⟨none,0,rfl,Nat.le_refl _,fun j x hj=>by simp at hj⟩,hx,fun p hp=> ?_,rfl,dd.refl _ _,ko.refl X⟩⟩
  have hp:p=[]:=by simpa [SV.own] using hp
  subst hp
  exact⟨e,t,[],_,by simp [Ty.eH],rfl,rfl,.inl ⟨rfl,rfl⟩⟩
 |_=>rw[hs] at h;simp [SV.el] at h
theorem aA.fT{P:Program}(hr:Rel X s a){d:Nat}{T:TypeId}{t:Ty}{y:El t}{cs:List Value}{own:List (List Nat)}{c:List (Nat×Nat)}{W:ap}
 (eK:t.bE=false) (hd:o.dst=some d) (hb:s.bs[d+1]? =some none) (hW:W.w=X.w) (hX:Ext X W) (Ke:Rel W (s.close c) a) (aJ:aR W t y cs)
 (bM:bf W (.b (d+1)) t y cs own)
 (aV:(execOp a.eval o).run P X.w= .ok (.value (.pointer (some ⟨X.w.heap.size,0,none⟩))) (X.w.alloc (.cells cs.toArray T))):aA P X s a o {v:=[.ptr (d+1) t []],bx:=some (d+1,⟨t,y,own⟩),cl:=c}:=by
 let β:Nat->Option Nat:=fun id=>if id=d+1 then some W.w.heap.size else W.β id
 have ar:d+1<s.bs.length:=(List.getElem?_eq_some_iff.1 hb).1
 have jr:(s.close c).bs[d+1]? =some none:=by rw[uT];exact hb
 have hk:eC (s.close c) W (W.new cs.toArray T (.box (d+1)) β):=zmr W _ _ _ _ _ (by show(if _ then _ else _)=_;rw[if_neg (by omega)]) (fun id B hB=>by
  show(if id=d+1 then _ else _)=_
  rw[if_neg (fun e=>by rw[e,jr] at hB;cases hB)])
 obtain⟨n1,n2⟩:=zfz W cs.toArray T (.box (d+1)) β
 have bV:bA (W.new cs.toArray T (.box (d+1)) β) (d+1) W.w.heap.size ⟨t,y,own⟩:=
  ⟨n2,cY.of eK n1 (by simpa using aJ.al (fun _ _=>hk.av)) (by simpa using bM.cZ hk)⟩
 have hβd:β (d+1)=some W.w.heap.size:=by show(if d+1=d+1 then _ else _)=_;rw[if_pos rfl]
 have eL:=(Ke.cZ hk).fT (by rw[uT];exact ar) jr hβd bV
 refine⟨W.new cs.toArray T (.box (d+1)) β,.pointer (some ⟨X.w.heap.size,0,none⟩),.inl ?_,hX.trans hk.ext,?_⟩
 ·rw[aV];simp [ap.new,hW]
 ·rw[hd]
  refine eL.put (fun d' e=> ?_) (fun id t' p hm=> ?_)
  ·cases e
   refine⟨W.w.heap.size,hβd,(n9 eK).2 ⟨?_,by simp [Ty.eH]⟩⟩
   rw[hW]
   simp [Ty.off]
  ·have:id=d+1:=by have:=hm;simp at this;exact this.1
   subst this
   exact⟨⟨t,y,own⟩,by simp [State.aC,List.getElem?_set,uT,ar]⟩
theorem K3(hE:ak P E){T:TypeId}{t:Ty}(ht:E.ty T=some t)(w:World):(zeroValue T).run P w= .ok (dp t (zp t)) w:=by
 obtain⟨i,h1,_,_,h2⟩:=(hE.ty T t ht).info
 simp [zeroValue,typeInfo,h1,h2]
theorem zxg(X:ap)(pl:List Nat->Place):∀t:Ty,bf X pl t (El.bI t) (zp t) (uV t):=by
 intro t
 induction t generalizing pl with
 |sl e t=>
  intro p hp
  have hp:p=[]:=by simpa [uV] using hp
  subst hp
  exact⟨e,t,[],.slice none 0 0,by simp [Ty.eH],rfl,rfl,.inl ⟨rfl,rfl⟩⟩
 |pair ta tb kz kA=>
  intro p hp
  simp only[uV,List.mem_append,List.mem_map,List.mem_filterMap] at hp
  rcases hp with⟨q,hq,rfl⟩|⟨q,hq,he⟩
  ·obtain⟨e,t',xs,v,g0,g1,g2,g3⟩:=kz (fun q=>pl (0::q)) q hq
   refine⟨e,t',xs,v,g0,g1,?_,g3⟩
   have hl:=(List.getElem?_eq_some_iff.1 g2).1
   simp only[Ty.off,zp]
   rw[List.getElem?_append_left hl]
   exact g2
  ·cases q with
   |nil=>simp [bump] at he
   |cons j q=>
    simp only[bump,Option.some.injEq] at he
    subst he
    obtain⟨e,t',xs,v,g0,g1,g2,g3⟩:=kA (fun q=>match q with| []=>pl []|j::q=>pl ((j+1)::q)) (j::q) hq
    refine⟨e,t',xs,v,g0,g1,?_,g3⟩
    simp only[Ty.off,zp]
    rw[List.getElem?_append_right (by rw[sn];omega),sn,Nat.add_sub_cancel_left]
    exact g2
 |_=>intro p hp;simp [uV] at hp
theorem aA.yT{P:Program}(hr:Rel X s a){d:Nat}{T e:TypeId}(hd:o.dst=some d)(hb:s.bs[d+1]? =some none)
 (aV:(execOp a.eval o).run P X.w= .ok (.value (.pointer (some ⟨X.w.heap.size,0,none⟩))) (X.w.alloc (.cells #[.pointer none,.slice none 0 0] T))):
 aA P X s a o {v:=[.ptr (d+1) (.aT (.fw T e) .unit .unit) []],bx:=some (d+1,⟨.aT (.fw T e) .unit .unit,(⟨#[]⟩:ByteArray),[[]]⟩)}:=by
 let β:Nat->Option Nat:=fun id=>if id=d+1 then some X.w.heap.size else X.β id
 have ar:d+1<s.bs.length:=(List.getElem?_eq_some_iff.1 hb).1
 have hk:eC s X (X.new #[.pointer none,.slice none 0 0] T (.box (d+1)) β):=zmr X _ _ _ _ _ (by show(if _ then _ else _)=_;rw[if_neg (by omega)]) (fun id B hB=>by
  show(if id=d+1 then _ else _)=_
  rw[if_neg (fun e=>by rw[e,hb] at hB;cases hB)])
 obtain⟨n1,n2⟩:=zfz X #[.pointer none,.slice none 0 0] T (.box (d+1)) β
 have bV:bA (X.new #[.pointer none,.slice none 0 0] T (.box (d+1)) β) (d+1) X.w.heap.size ⟨.aT (.fw T e) .unit .unit,(⟨#[]⟩:ByteArray),[[]]⟩:=
  ⟨n2,⟨_,n1⟩,fun _=>⟨.slice none 0 0,⟨.inl n1,⟨rfl,.inl ⟨rfl,rfl⟩⟩,by simp [Value.ownBlock]⟩,fun g hg=>by simp [Value.ownBlock] at hg⟩⟩
 have hβd:β (d+1)=some X.w.heap.size:=by show(if d+1=d+1 then _ else _)=_;rw[if_pos rfl]
 have eL:=(hr.cZ hk).fT ar hb hβd bV
 refine⟨X.new #[.pointer none,.slice none 0 0] T (.box (d+1)) β,.pointer (some ⟨X.w.heap.size,0,none⟩),.inl aV,hk.ext,?_⟩
 rw[hd]
 refine eL.put (fun d' e=> ?_) (fun id t' p hm=> ?_)
 ·cases e
  exact⟨X.w.heap.size,hβd,(Iv rfl).2 ⟨by simp [Ty.off],by simp [Ty.eH]⟩⟩
 ·have:id=d+1:=by have:=hm;simp at this;exact this.1
  subst this
  exact⟨_,by simp [State.aC,List.getElem?_set,ar];rfl⟩
theorem Tf(hE:ak P E)(hr:Rel X s a){ops:List Oper}{T:TypeId}(ho:o.op= .alloc T){C:FuncId->bF Out}(h:act E C ops o s some=some u):aA P X s a o u:=by
 unfold act at h
 simp only[ho] at h
 split at h
 case h_3=>cases h
 case h_2=>
  rename_i d hT hd
  split at h
  case h_2=>cases h
  rename_i e J3
  split at h
  case h_2=>cases h
  rename_i hb
  cases h
  obtain⟨i,h1,h2⟩:=hE.bl T e J3
  refine aA.yT hr hd hb ?_
  have hz:(zeroValue T).run P X.w= .ok (.agg #[.pointer none,.slice none 0 0]) X.w:=by simp [zeroValue,typeInfo,h1,h2]
  simp only[execOp,ho,Sem.run_bind,Instr.alloc,hz,Result.andThen_ok,zc5,Sem.run_pure]
  rfl
 rename_i t d hT hd
 split at h
 case h_2=>cases h
 rename_i hb
 cases h
 have aJ:=rV X t
 refine aA.fT (T:=T) (cs:=zp t) (W:=X) (c:=[]) hr (hE.gM hT) hd hb rfl (Ext.refl X) hr aJ (zxg X _ t) ?_
 simp only[execOp,ho,Sem.run_bind,Instr.alloc,K3 hE hT,Result.andThen_ok,zc5,uQ aJ,Sem.run_pure]
theorem Yx(hE:ak P E)(hr:Rel X s a){ops:List Oper}{T:TypeId}{x:Operand}(ho:o.op= .box T x){C:FuncId->bF Out}(h:act E C ops o s some=some u):aA P X s a o u:=by
 unfold act at h
 simp only[ho] at h
 split at h
 case h_2=>cases h
 rename_i t d hT hd
 split at h
 case h_2=>cases h
 rename_i hb
 obtain⟨y,h,hy⟩:=zvr hr h (.inl rfl)
 cases h
 obtain⟨W,cs,h1,h2,h3,h4,h5,h6,_,_,_⟩:=hy (.b (d+1))
 refine aA.fT (T:=T) (cs:=cs) (W:=W) hr (hE.gM hT) hd hb h1 h2 h3 h4 h6 ?_
 simp only[execOp,ho,Sem.run_bind,Instr.box,zc5,Result.andThen_ok,Sem.run_pure,h5,uQ h4]
end Go.Ref

namespace Go.Ref
open Go
variable {P:Program} {E:Env} {X:ap} {s:State} {a:Act} {o:Oper} {u:Out}
theorem Bh(hE:ak P E){T:TypeId}{t:Ty}(ht:E.ty T=some t){x:El t}{cs:List Value}(hr:aR X t x cs){ad:Addr}{w:World}(hc:∀(i:Nat) v,cs[i]? =some v->w.cell? (ad.add i)=some v):(loadVar T ad).run P w= .ok (dp t cs) w:=by
 have hl:=hr.len
 unfold loadVar
 simp only[Sem.run_bind,zxa hE ht,Result.andThen_ok]
 cases hg:t.agg with
 |true=>
  have:=run_loadCells_list (P:=P) w ad cs hc
  rw[hl] at this
  simp only[if_true,Sem.run_bind,kL hE ht,Result.andThen_ok,this,Sem.run_pure,iz hg]
 |false=>
  have h1:t.cells=1:=by cases t<;>simp_all [Ty.agg,Ty.cells]
  rw[h1] at hl
  match cs,hl with
  | [c],_=>
    rw[Jg hg]
    have:=hc 0 c rfl
    have h0:ad.add 0=ad:=by simp [Addr.add]
    rw[h0] at this
    simp only[Bool.false_eq_true,if_false,run_load,this]
theorem Tr{own:List (List Nat)}{p:List Nat}(h:mh own p=true):p∈own:=by
 unfold mh at h
 obtain⟨q,hq,he⟩:=List.any_eq_true.1 h
 rw[<-eq_of_beq he]
 exact hq
theorem z9i{own:List (List Nat)}{p q:List Nat}(h:q∈ve own p):q∈own/\p.isPrefixOf q=false:=by
 unfold ve at h
 rw[List.mem_filter] at h
 exact⟨h.1,by simpa using h.2⟩
theorem Rel.mT{Y:ap}(hr:Rel Y s a){id r:Nat}{B B':bk}(hb:s.bs[id]? =some (some B))(hβ:Y.β id=some r)(h:bA Y id r B'):Rel Y (s.aC (some (id,B'))) a where
 size:=hr.size
 gD:=by simpa [State.aC] using hr.gD
 bH:=hr.bH
 boxes:=fun bT B2 cP=>by
  have ar:id<s.bs.length:=(List.getElem?_eq_some_iff.1 hb).1
  simp only[State.aC,List.getElem?_set] at cP
  by_cases e:id=bT
  ·subst e
   rw[if_pos rfl,if_pos ar] at cP
   cases cP;exact⟨r,hβ,h⟩
  ·rw[if_neg e] at cP
   exact hr.boxes bT B2 cP
 live:=fun i l bT t p hi hm=>by
  have ar:id<s.bs.length:=(List.getElem?_eq_some_iff.1 hb).1
  obtain⟨B2,cP⟩:=hr.live i l bT t p hi hm
  simp only[State.aC,List.getElem?_set]
  by_cases e:id=bT
  ·subst e;exact⟨B',by rw[if_pos rfl,if_pos ar]⟩
  ·rw[if_neg e];exact⟨B2,cP⟩
 defers:=hr.defers
theorem zc4{id:Nat}{B B':bk}(hb:s.bs[id]? =some (some B)):(s.aC (some (id,B'))).bs[id]? =some (some B'):=by
 have ar:id<s.bs.length:=(List.getElem?_eq_some_iff.1 hb).1
 simp [State.aC,List.getElem?_set,ar]
theorem KV{r off i:Nat}{cs:Array Value}{T:TypeId}{w:World}(h:w.heap[r]? =some (.cells cs T (0,0))){k:Nat}{v:Value}(hv:((cs.toList.drop off).take k)[i]? =some v):w.cell? ((⟨r,off,none⟩:Addr).add i)=some v:=by
 rw[jw]
 rw[List.getElem?_take] at hv
 split at hv
 ·rw[List.getElem?_drop] at hv
  simpa [World.cell?,h] using hv
 ·cases hv
theorem eb:∀(t:Ty) (p:List Nat) (u:Ty),t.at_ p=some u->t.eH p->t.off p+u.cells<=t.cells:=by
 intro t
 induction t with
 |arr n t ih=>
  intro p u h hp
  cases p with
  |nil=>simp only[Ty.at_,Option.some.injEq] at h;subst h;simp [Ty.off]
  |cons i p=>
   have:=ih p u h hp.2
   have hn:(i+1)*t.cells<=n*t.cells:=Nat.mul_le_mul_right _ hp.1
   rw[Nat.add_mul,Nat.one_mul] at hn
   simp only[Ty.off,Ty.cells]
   omega
 |pair x y E2 E3=>
  intro p u h hp
  cases p with
  |nil=>simp only[Ty.at_,Option.some.injEq] at h;subst h;simp [Ty.off]
  |cons i p=>
   cases i with
   |zero=>have:=E2 p u h hp;simp only[Ty.off,Ty.cells];omega
   |succ i=>have:=E3 (i::p) u h hp;simp only[Ty.off,Ty.cells];omega
 |_=>
  intro p u h hp
  cases p with
  |nil=>simp only[Ty.at_,Option.some.injEq] at h;subst h;simp [Ty.off]
  |cons i p=>simp [Ty.at_] at h
theorem acQ{t:Ty}{p:List Nat}{e:TypeId}{t':Ty}(h:t.eH p)(bR:t.at_ p=some (.sl e t')):t.off p<t.cells:=by
 have:=eb t p _ bR h
 simp only[Ty.cells] at this
 omega
theorem Tp:∀{t:Ty} {p q:List Nat} {x:El t} {u:Ty} {y:El u} {r:(u:Ty)×El u},El.get t p x=some ⟨u,y⟩->t.eH (p++q)->El.get t (p++q) x=some r->u.eH q/\El.get u q y=some r:=by
 intro t
 induction t with
 |arr n t ih=>
  intro p q x u y r h1 h2 h3
  cases p with
  |nil=>simp only[El.get,Option.some.injEq,Sigma.mk.injEq] at h1;obtain⟨rfl,h1⟩:=h1;cases h1;exact⟨h2,h3⟩
  |cons i p=>exact ih h1 h2.2 h3
 |pair ta tb kz kA=>
  intro p q x u y r h1 h2 h3
  cases p with
  |nil=>simp only[El.get,Option.some.injEq,Sigma.mk.injEq] at h1;obtain⟨rfl,h1⟩:=h1;cases h1;exact⟨h2,h3⟩
  |cons i p=>
   cases i with
   |zero=>exact kz h1 h2 h3
   |succ i=>exact kA (p:=i::p) h1 h2 h3
 |_=>
  intro p q x u y r h1 h2 h3
  cases p with
  |nil=>simp only[El.get,Option.some.injEq,Sigma.mk.injEq] at h1;obtain⟨rfl,h1⟩:=h1;cases h1;exact⟨h2,h3⟩
  |cons i p=>simp [El.get] at h1
def ap.fH(X:ap)(id:Nat)(p:List Nat)(q:List Nat->Place):ap:=
 {X with ow:=fun g=>match X.ow g with
  | .row (.b bT p') n=>if bT=id/\p.isPrefixOf p'=true then .row (q (p'.drop p.length)) n else .row (.b bT p') n
  |w=>w}
theorem zrg{s:State}{X:ap}{id:Nat}{p:List Nat}{q:List Nat->Place}(h:∀p',¬ct s (.b id (p++p'))):dd s X (X.fH id p q):=by
 refine⟨rfl,rfl,fun g=> ?_⟩
 simp only[ap.fH]
 cases hg:X.ow g with
 |row pl n=>
  cases pl with
  |b bT p'=>
   by_cases e:bT=id/\p.isPrefixOf p'=true
   ·obtain⟨rfl,hp⟩:=e
    obtain⟨r,rfl⟩:=List.isPrefixOf_iff_prefix.1 hp
    exact .inr ⟨_,n,q r,rfl,h r,by simp⟩
   ·exact .inl (if_neg e)
  |_=>exact .inl rfl
 |_=>exact .inl rfl
theorem bg.n7{X:ap}{id:Nat}{p r:List Nat}{q:List Nat->Place}{e:TypeId}{k n:Nat}{v:Value}(h:bg X (.b id (p++r)) e k n v):bg (X.fH id p q) (q r) e k n v:=by
 rcases h with h|⟨g,cap,cur,h1,h2,h3,h4,h5,h6⟩
 ·exact .inl h
 ·exact .inr ⟨g,cap,cur,h1,h2,h3,h4,h5,by simp [ap.fH,h6]⟩
theorem AB(hr:Rel X s a){id:Nat}{t b:Ty}{B:bk}(hB:s.box id=some B)(h:B.t.b7 (.aT .row t b)=true):s.bs[id]? =some (some B)/\∃r,X.β id=some r/\X.ow r= .box id/\∃cs T,X.w.heap[r]? =some (.cells cs T (0,0))/\cs.size=List.length (Ty.cast h B.x:List (El t))*t.cells/\
 ∀(j:Nat) (x:El t),(Ty.cast h B.x:List (El t))[j]? =some x->aR X t x ((cs.toList.drop (j*t.cells)).take t.cells):=by
 have hb:=pI hB
 obtain⟨r,h1,h2,h3⟩:=hr.boxes id B hb
 refine⟨hb,r,h1,h2,?_⟩
 obtain⟨bt,bx,bo⟩:=B
 have e:=Ty.aH h
 simp only at e
 subst e
 obtain⟨cs,T,g1,g2,g3⟩:=h3
 exact⟨cs,T,g1,g2,g3⟩
theorem Ti(hE:ak P E)(hr:Rel X s a){S T:TypeId}{x:Operand}(ho:o.op= .convert S T x){id n:Nat}{ta tb:Ty}(dy:s.ay x= .ptr id (.aT (.fO n) ta tb) [])(h:iV E S T s id n ta tb some=some u):aA P X s a o u:=by
 have hx:=hr.ay x
 rw[dy] at hx
 obtain⟨r0,hβ,cap,hv,lD⟩:=hx
 unfold iV at h
 split at h
 case h_2=>cases h
 rename_i e hS hT
 split at h
 case isFalse=>cases h
 rename_i heq
 have:=Ty.aH heq
 subst this
 split at h
 case h_2=>cases h
 rename_i B hB
 split at h
 case isFalse=>cases h
 rename_i dx
 obtain⟨hb,r,h1,h2,cs,T',aF,di,dF⟩:=AB hr hB dx
 rw[hβ] at h1
 cases h1
 generalize(Ty.cast dx B.x:List Int)=xs at*
 cases hn:Nat.beq n (List.length xs) with
 |false=>rw[hn] at h;cases h
 |true=>
  rw[hn] at h
  cases h
  have hn:=Nat.eq_of_beq_eq_true hn
  subst hn
  have hu:=(hE.ty S _ hS).cO
  have he:=(hE.ty e _ hu.2).cO
  have hT:=(hE.ty T _ hT).cO
  refine aA.plain hr (v:= .string (strOf xs)) ?_ xB (fun _ _ _ e'=>by cases e')
  have key:(convert S T (.slice (some ⟨r0,0,none⟩) (List.length xs) cap)).run P X.w= .ok (.string (strOf xs)) X.w:=by
   rw[run_convert_bytes_string X.w S T e _ _ cap hu.1 he hT]
   have iZ:(loadCells ⟨r0,0,none⟩ (List.length xs)).run P X.w= .ok (List.map (Value.int .u8) xs).toArray X.w:=by
    have:=run_loadCells_list (P:=P) X.w ⟨r0,0,none⟩ (List.map (Value.int .u8) xs) (fun j v hj=>by
     obtain⟨y,hy,rfl⟩:=List.getElem?_map .. ▸hj|>Option.map_eq_some_iff.1
     have hc:(cs.toList.drop (j*1)).take 1=[.int .u8 y]:=dF j y hy
     have h0:=congrArg (fun l=>l[0]?) hc
     simp only[List.getElem?_take,List.getElem?_drop] at h0
     simp only[Nat.zero_lt_one,if_true,Nat.mul_one,Nat.add_zero,List.getElem?_cons_zero] at h0
     rw[jw,Nat.zero_add]
     simpa [World.cell?,aF] using h0)
    rw[List.length_map] at this
    exact this
   rw[run_bytesToString X.w _ _ cap xs iZ,foldl_push_bytes]
   simp [strOf,ByteArray.empty,ByteArray.emptyWithCapacity]
   rfl
  simp only[execOp,ho,Sem.run_bind,hv,key,Result.andThen_ok,Sem.run_pure]
theorem Vr(hE:ak P E)(hr:Rel X s a){ops:List Oper}{S T:TypeId}{x:Operand}(ho:o.op= .convert S T x){C:FuncId->bF Out}(h:act E C ops o s some=some u):aA P X s a o u:=by
 unfold act at h
 simp only[ho] at h
 split at h
 ·rename_i id n ta tb dy
  exact Ti hE hr ho dy h
 ·exact Tj hE hr ho h
theorem Sk(hE:ak P E)(hr:Rel X s a){T:TypeId}{u':Ty}{x:Operand}(ho:o.op= .load T x)(hT:E.ty T=some u'){id:Nat}{t:Ty}{p:List Nat}(dy:s.ay x= .ptr id t p)(h:Az u' s id t p some=some u):aA P X s a o u:=by
 have hx:=hr.ay x
 rw[dy] at hx
 obtain⟨r0,hβ,hv⟩:=hx
 unfold Az at h
 split at h
 case h_2=>cases h
 rename_i ta tb i
 split at h
 case h_2=>cases h
 rename_i B hB
 split at h
 case isFalse=>cases h
 rename_i dx
 split at h
 case isFalse=>cases h
 rename_i heq
 have:=Ty.aH heq
 subst this
 obtain⟨hb,r,h1,h2,cs,T',aF,di,dF⟩:=AB hr hB dx
 rw[hβ] at h1
 cases h1
 generalize(Ty.cast dx B.x:List (El u'))=xs at*
 cases hn:Nat.ble (i+1) (List.length xs) with
 |false=>rw[hn] at h;cases h
 |true=>
  rw[hn] at h
  cases h
  have ar:i<List.length xs:=Nat.le_of_ble_eq_true hn
  have aJ:=dF i _ (getD_some (El.bI u') ar)
  have hv:a.eval x= .pointer (some ⟨r0,i*u'.cells,none⟩):=hv
  refine aA.plain hr ?_ (AA aJ) (fun _ _ _ e'=>by cases e')
  have hl:=Bh hE hT aJ (ad:=⟨r0,i*u'.cells,none⟩) (w:=X.w) (fun j v hj=>KV aF hj)
  simp only[execOp,ho,Sem.run_bind,Instr.loadAt,hv,Instr.sureAddr,Sem.run_pure,Result.andThen_ok,hl]
theorem Sj(hE:ak P E)(hr:Rel X s a){T:TypeId}{u':Ty}{x:Operand}(ho:o.op= .load T x)(hT:E.ty T=some u'){id:Nat}{t:Ty}{p:List Nat}(dy:s.ay x= .ptr id t p){B:bk}(hB:s.box id=some B)(h:BU u' B t p some=some u):aA P X s a o u:=by
 have hx:=hr.ay x
 rw[dy] at hx
 obtain⟨r0,hβ,hv⟩:=hx
 unfold BU at h
 split at h
 case h_2=>cases h
 rename_i n e
 split at h
 case isFalse=>cases h
 rename_i dx
 split at h
 case isFalse=>cases h
 rename_i heq
 have:=Ty.aH heq
 subst this
 obtain⟨hb,r,h1,h2,cs,T',aF,di,dF⟩:=AB hr hB dx
 rw[hβ] at h1
 cases h1
 generalize(Ty.cast dx B.x:List (El e))=xs at*
 cases hn:Nat.beq n (List.length xs) with
 |false=>rw[hn] at h;cases h
 |true=>
  rw[hn] at h
  cases h
  have hn:=Nat.eq_of_beq_eq_true hn
  have aJ:aR X (.arr n e) xs cs.toList:=⟨hn.symm,by rw[hn];simpa using di,dF⟩
  have hv:=((n9 rfl).1 hv).1
  have hv:a.eval x= .pointer (some ⟨r0,0,none⟩):=by rw[hv];rfl
  refine aA.plain hr ?_ (AA aJ) (fun _ _ _ e'=>by cases e')
  have hl:=Bh hE hT aJ (ad:=⟨r0,0,none⟩) (w:=X.w) (fun j v hj=>KV (off:=0) (k:=cs.toList.length) aF (by rw[List.drop_zero,List.take_length];exact hj))
  simp only[execOp,ho,Sem.run_bind,Instr.loadAt,hv,Instr.sureAddr,Sem.run_pure,Result.andThen_ok,hl]
theorem Vu(hE:ak P E)(hr:Rel X s a){ops:List Oper}{T:TypeId}{x:Operand}(ho:o.op= .load T x){C:FuncId->bF Out}(h:act E C ops o s some=some u):aA P X s a o u:=by
 unfold act at h
 simp only[ho] at h
 have hx:=hr.ay x
 unfold load at h
 split at h
 case h_2=>cases h
 rename_i u' hT
 split at h
 ·rename_i t y e
  rw[e] at hx
  obtain⟨ad,cs,hv,kU,aJ,dh⟩:=hx
  split at h
  case isFalse=>cases h
  rename_i heq
  have:=Ty.aH heq
  subst this
  cases h
  refine aA.plain hr ?_ (AA aJ) (fun _ _ _ e'=>by cases e')
  have hl:=Bh hE hT aJ (ad:=ad) (w:=X.w) (fun i v hi=>(dh i v hi).2.1)
  simp only[execOp,ho,Sem.run_bind,Instr.loadAt,hv,Instr.sureAddr,Sem.run_pure,Result.andThen_ok,hl]
 ·rename_i id t p e
  rw[e] at hx
  obtain⟨r,hβ,hx⟩:=hx
  split at h
  ·exact Sk hE hr ho hT e h
  rename_i eK
  have eK:t.bE=false:=by simpa using eK
  obtain⟨hv,fP⟩:=(n9 eK).1 hx
  split at h
  case h_2=>cases h
  rename_i B hB
  split at h
  case isFalse=>exact Sj hE hr ho hT e hB h
  rename_i heq
  have dx:=Ty.aH heq
  split at h
  case h_2=>cases h
  rename_i ut y cq
  split at h
  case isFalse=>cases h
  rename_i yD
  have:=Ty.aH yD
  subst this
  have hb:=pI hB
  obtain⟨r',hβ',tY⟩:=hr.boxes id B hb
  rw[hβ] at hβ'
  cases hβ'
  subst dx
  obtain⟨cs,T',aF,aJ,how,bM⟩:=tY.cells eK
  obtain⟨k1,k2,k3⟩:=Jd aJ fP cq
  have hl:=Bh hE hT k3 (ad:=⟨r,B.t.off p,none⟩) (w:=X.w) (fun i v hi=>KV aF hi)
  have aV:(execOp a.eval o).run P X.w= .ok (.value (dp u' ((cs.toList.drop (B.t.off p)).take u'.cells))) X.w:=by
   simp only[execOp,ho,Sem.run_bind,Instr.loadAt,hv,Instr.sureAddr,Sem.run_pure,Result.andThen_ok,hl]
  cases hc:Pn ops o.dst||xa E ops o.dst||HQ ops o.dst with
  |false=>
   rw[hc] at h
   cases h
   exact aA.plain hr aV (AA k3) (fun _ _ _ e'=>by cases e')
  |true=>
   rw[hc] at h
   cases h
   have fU:Rel X (s.aC (some (id,{B with own:=ve B.own p}))) a:=hr.mT hb hβ ⟨how,cY.of eK aF aJ fun q hq=>bM q (z9i hq).1⟩
   have Ba:∀q,¬ct (s.aC (some (id,{B with own:=ve B.own p}))) (.b id (p++q)):=by
    rintro q ⟨B2,cP,hp⟩
    rw[zc4 hb] at cP
    cases cP
    have:=(z9i hp).2
    rw[List.isPrefixOf_iff_prefix.2 (List.prefix_append p q)] at this
    cases this
   have kR:=zrg (X:=X) (q:= .c (o.dst.getD 0) 0) Ba
   refine⟨X.fH id p (.c (o.dst.getD 0) 0),_,.inl aV,kR.ext,(fU.mod kR.mod).fin ⟨_,k3.al (fun _ _=>kR.av.1),rfl,?_⟩ (fun id t p hm=>by simp at hm)⟩
   intro q hq
   obtain⟨q0,hq0,rfl⟩:=List.mem_map.1 hq
   obtain⟨hq1,Qm⟩:=List.mem_filter.1 hq0
   obtain⟨q,rfl⟩:=List.isPrefixOf_iff_prefix.1 Qm
   rw[List.drop_left]
   obtain⟨e',t',xs,v,h0,h1,h2,h3⟩:=bM _ hq1
   obtain⟨j1,j2⟩:=Tp cq h0 h1
   have hle:=acQ j1 (JI _ _ _ _ _ j2)
   refine⟨e',t',xs,v,j1,j2,?_,h3.n7⟩
   rw[KI _ _ _ _ k1] at h2
   rw[List.getElem?_take,if_pos hle,List.getElem?_drop]
   exact h2
 ·cases h
theorem zg8{cs c:List Value}{off:Nat}(h:off+c.length<=cs.length)(j k:Nat):(∀h1:j+k<=off\/off+c.length<=j,((cs.take off++c++cs.drop (off+c.length)).drop j).take k=(cs.drop j).take k):=by
 intro h1
 apply List.ext_getElem?
 intro q
 simp only[List.getElem?_take,List.getElem?_drop]
 split
 ·rename_i hq
  rw[List.append_assoc]
  rcases h1 with h1|h1
  ·rw[List.getElem?_append_left (by rw[List.length_take];omega),List.getElem?_take,if_pos (by omega)]
  ·rw[List.getElem?_append_right (by rw[List.length_take];omega),List.length_take,Nat.min_eq_left (by omega),List.getElem?_append_right (by omega),List.getElem?_drop]
   congr 1
   omega
 ·rfl
theorem fm{X:ap}:∀{t:Ty} {p:List Nat} {x:El t} {cs:List Value} {u:Ty} {y:El u} {z:El t} {c:List Value},aR X t x cs->t.eH p->t.at_ p=some u->El.set t p x u y=some z->aR X u y c->
 aR X t z (cs.take (t.off p)++c++cs.drop (t.off p+c.length)):=by
 intro t
 induction t with
 |arr n t ih=>
  intro p x cs u y z c hr hp bR h hc
  have kS:=hc.len
  cases p with
  |nil=>
   simp only[Ty.at_,Option.some.injEq] at bR
   subst bR
   simp only[El.set,Ty.bJ,dite_true,Option.some.injEq] at h
   subst h
   have hl:=hr.len
   simp only[Ty.off,Nat.zero_add,List.take_zero,List.nil_append]
   rw[kS,<-hl,List.drop_length,List.append_nil]
   exact hc
  |cons i p=>
   obtain⟨hi,hp⟩:=hp
   obtain⟨h1,h2,h3⟩:=hr
   simp only[El.set] at h
   obtain⟨z',lM,rfl⟩:=Option.map_eq_some_iff.1 h
   have lC:t.at_ p=some u:=bR
   have hle:=eb t p u lC hp
   have hn:(i+1)*t.cells<=n*t.cells:=Nat.mul_le_mul_right _ hi
   rw[Nat.add_mul,Nat.one_mul] at hn
   have P6:=ih (h3 i _ (getD_some (El.bI t) (by omega))) hp lC lM hc
   have cM:i*t.cells+t.off p+c.length<=cs.length:=by rw[kS,h2];omega
   refine⟨by simpa using h1,?_,fun j w hj=> ?_⟩
   ·simp only[Ty.off,List.length_append,List.length_take,List.length_drop];omega
   ·simp only[Ty.off]
    by_cases e:j=i
    ·subst e
     rw[List.getElem?_set_self (by omega)] at hj
     cases hj
     have hL:((cs.take (j*t.cells+t.off p)++c++cs.drop (j*t.cells+t.off p+c.length)).drop (j*t.cells)).take t.cells=
      ((cs.drop (j*t.cells)).take t.cells).take (t.off p)++c++((cs.drop (j*t.cells)).take t.cells).drop (t.off p+c.length):=by
      apply List.ext_getElem?
      intro q
      rw[List.append_assoc,List.append_assoc]
      simp only[List.getElem?_take,List.getElem?_drop,List.getElem?_append,List.length_take,List.length_drop]
      rw[Nat.min_eq_left (show j*t.cells+t.off p<=cs.length by omega),Nat.min_eq_left (show t.cells<=cs.length-j*t.cells by omega),Nat.min_eq_left (show t.off p<=t.cells by omega)]
      by_cases q1:q<t.cells
      ·by_cases q2:q<t.off p
       ·rw[if_pos q1,if_pos (by omega),if_pos (by omega),if_pos q2,if_pos q2,if_pos q1]
       ·by_cases q3:q-t.off p<c.length
        ·rw[if_pos q1,if_neg (by omega),if_pos (by omega),if_neg q2,if_pos q3]
         congr 1
         omega
        ·rw[if_pos q1,if_neg (by omega),if_neg (by omega),if_neg q2,if_neg q3,if_pos (by omega)]
         congr 1
         omega
      ·rw[if_neg q1,if_neg (by omega),if_neg (by omega),if_neg (by omega)]
     rw[hL]
     exact P6
    ·rw[List.getElem?_set_ne (Ne.symm e)] at hj
     have uf:=(List.getElem?_eq_some_iff.1 hj).1
     rw[zg8 cM (j*t.cells) t.cells ?_]
     ·exact h3 j w hj
     ·rcases Nat.lt_or_gt_of_ne e with ar|hgt
      ·have:(j+1)*t.cells<=i*t.cells:=Nat.mul_le_mul_right _ ar
       rw[Nat.add_mul,Nat.one_mul] at this
       exact .inl (by omega)
      ·have:(i+1)*t.cells<=j*t.cells:=Nat.mul_le_mul_right _ hgt
       rw[Nat.add_mul,Nat.one_mul] at this
       exact .inr (by omega)
 |pair ta tb kz kA=>
  intro p x cs u y z c hr hp bR h hc
  have kS:=hc.len
  cases p with
  |nil=>
   simp only[Ty.at_,Option.some.injEq] at bR
   subst bR
   simp only[El.set,Ty.bJ,dite_true,Option.some.injEq] at h
   subst h
   have hl:=hr.len
   simp only[Ty.off,Nat.zero_add,List.take_zero,List.nil_append]
   rw[kS,<-hl,List.drop_length,List.append_nil]
   exact hc
  |cons i p=>
   obtain⟨c1,c2,rfl,r1,r2⟩:=hr
   have l1:=r1.len
   have l2:=r2.len
   cases i with
   |zero=>
    simp only[El.set] at h
    obtain⟨z',lM,rfl⟩:=Option.map_eq_some_iff.1 h
    have lC:ta.at_ p=some u:=bR
    have hle:=eb ta p u lC hp
    have:=kz r1 hp lC lM hc
    refine⟨_,c2,?_,this,r2⟩
    simp only[Ty.off]
    rw[List.take_append_of_le_length (by omega),List.drop_append_of_le_length (by omega)]
    simp [List.append_assoc]
   |succ i=>
    simp only[El.set] at h
    obtain⟨z',lM,rfl⟩:=Option.map_eq_some_iff.1 h
    have lC:tb.at_ (i::p)=some u:=bR
    have hle:=eb tb (i::p) u lC hp
    have:=kA r2 hp lC lM hc
    refine⟨c1,_,?_,r1,this⟩
    simp only[Ty.off]
    rw[<-l1,List.take_length_add_append,Nat.add_assoc,List.drop_length_add_append]
    simp [List.append_assoc]
 |_=>
  intro p x cs u y z c hr hp bR h hc
  have kS:=hc.len
  cases p with
  |nil=>
   simp only[Ty.at_,Option.some.injEq] at bR
   subst bR
   simp only[El.set,Ty.bJ,dite_true,Option.some.injEq] at h
   first|subst h|skip
   have hl:=hr.len
   simp only[Ty.off,Nat.zero_add,List.take_zero,List.nil_append]
   rw[kS,<-hl,List.drop_length,List.append_nil]
   exact hc
  |cons i p=>simp [Ty.at_] at bR
end Go.Ref

namespace Go.Ref
open Go
variable {P:Program} {E:Env} {X:ap} {s:State} {a:Act} {o:Oper} {u:Out}
theorem zye:∀{t:Ty} {p q:List Nat} {x:El t} {u:Ty} {y:El u} {z:El t} {e:TypeId} {t':Ty} {xs:El (.sl e t')},El.set t p x u y=some z->t.at_ p=some u->t.eH p->t.eH q->p.isPrefixOf q=false->El.get t q x=some ⟨.sl e t',xs⟩->
 El.get t q z=some ⟨.sl e t',xs⟩/\(t.off q+1<=t.off p\/t.off p+u.cells<=t.off q):=by
 intro t
 induction t with
 |arr n t ih=>
  intro p q x u y z e t' xs hs bR hp hq eX hg
  cases p with
  |nil=>simp at eX
  |cons i p=>
   cases q with
   |nil=>simp [El.get] at hg
   |cons j q=>
    simp only[El.set] at hs
    obtain⟨z',lM,rfl⟩:=Option.map_eq_some_iff.1 hs
    by_cases PM:i=j
    ·subst PM
     have lG:p.isPrefixOf q=false:=by simpa [List.isPrefixOf] using eX
     obtain⟨h1,h2⟩:=ih lM bR hp.2 hq.2 lG hg
     refine⟨?_,by simp only[Ty.off];omega⟩
     simp only[El.get]
     by_cases hl:i<List.length x
     ·rw[List.getD_eq_getElem?_getD,List.getElem?_set_self hl]
      exact h1
     ·have eY:List.set x i z'=x:=by rw[List.set_eq_of_length_le (Nat.le_of_not_lt hl)]
      rw[eY];exact hg
    ·refine⟨?_,?_⟩
     ·simp only[El.get] at hg⊢
      rw[List.getD_eq_getElem?_getD,List.getElem?_set_ne PM,<-List.getD_eq_getElem?_getD]
      exact hg
     ·have a1:=eb t p u bR hp.2
      have a2:t.off q+1<=t.cells:=by
       have:=eb t q _ (JI t q _ _ _ hg) hq.2
       simpa [Ty.cells] using this
      simp only[Ty.off]
      rcases Nat.lt_or_gt_of_ne PM with h|h
      ·have:(i+1)*t.cells<=j*t.cells:=Nat.mul_le_mul_right _ h
       rw[Nat.add_mul,Nat.one_mul] at this
       omega
      ·have:(j+1)*t.cells<=i*t.cells:=Nat.mul_le_mul_right _ h
       rw[Nat.add_mul,Nat.one_mul] at this
       omega
 |pair ta tb kz kA=>
  intro p q x u y z e t' xs hs bR hp hq eX hg
  cases p with
  |nil=>simp at eX
  |cons i p=>
   cases q with
   |nil=>simp [El.get] at hg
   |cons j q=>
    cases i with
    |zero=>
     simp only[El.set] at hs
     obtain⟨z',lM,rfl⟩:=Option.map_eq_some_iff.1 hs
     cases j with
     |zero=>
      have lG:p.isPrefixOf q=false:=by simpa [List.isPrefixOf] using eX
      obtain⟨h1,h2⟩:=kz lM bR hp hq lG hg
      exact⟨h1,by simp only[Ty.off];omega⟩
     |succ j=>
      have a1:=eb ta p u bR hp
      exact⟨hg,by simp only[Ty.off];omega⟩
    |succ i=>
     simp only[El.set] at hs
     obtain⟨z',lM,rfl⟩:=Option.map_eq_some_iff.1 hs
     cases j with
     |zero=>
      have a2:ta.off q+1<=ta.cells:=by
       have:=eb ta q _ (JI ta q _ _ _ hg) hq
       simpa [Ty.cells] using this
      exact⟨hg,by simp only[Ty.off];omega⟩
     |succ j=>
      have lG:(i::p).isPrefixOf (j::q)=false:=by
       simp [List.isPrefixOf] at eX⊢
       exact eX
      obtain⟨h1,h2⟩:=kA lM bR hp hq lG hg
      exact⟨h1,by simp only[Ty.off];omega⟩
 |_=>
  intro p q x u y z e t' xs hs bR hp hq eX hg
  cases p with
  |nil=>simp at eX
  |cons i p=>simp [Ty.at_] at bR
def ap.row(X:ap)(r:Nat)(cs:Array Value):ap:={X with w:=X.w.setRow r cs}
theorem sF{r id:Nat}{cs:Array Value}(h:X.ow r= .box id){ad:Addr}{v:Value}(hs:X.av ad v):(X.row r cs).av ad v:=by
 have bZ:ad.block≠r:=fun e=>by
  have:=hs.2.2
  rw[e,h] at this
  exact this
 refine⟨hs.1,?_,hs.2.2⟩
 have:=hs.2.1
 simp only[World.cell?,ap.row] at this⊢
 rw[setRow_other X.w r ad.block cs bZ]
 exact this
theorem Nu{r id:Nat}{cs:Array Value}(h:X.ow r= .box id):Ext X (X.row r cs) where
 av:=fun _ _=>sF h
 size:=by simp [ap.row]
 os:=rfl
 tape:=rfl
 output:=rfl
 β0:=rfl
 still:=fun g _ cp=>by
  have bZ:g≠r:=fun e=>by rw[e,h] at cp;exact cp
  exact⟨rfl,setRow_other X.w r g cs bZ⟩
theorem bg.row{r id:Nat}{cs:Array Value}(h:X.ow r= .box id){pl:Place}{e:TypeId}{k n:Nat}{v:Value}(ho:bg X pl e k n v):bg (X.row r cs) pl e k n v:=by
 rcases ho with ho|⟨g,cap,cur,h1,h2,h3,h4,h5,h6⟩
 ·exact .inl ho
 ·have bZ:g≠r:=fun e=>by rw[e,h] at h6;cases h6
  exact .inr ⟨g,cap,cur,h1,(setRow_other X.w r g cs bZ).trans h2,h3,h4,h5,h6⟩
theorem bf.row{r id:Nat}{cs:Array Value}(h:X.ow r= .box id){pl:List Nat->Place}{t:Ty}{x:El t}{c:List Value}{own:List (List Nat)}(ho:bf X pl t x c own):bf (X.row r cs) pl t x c own:=fun p hp=>by
 obtain⟨e,t',xs,v,g0,g1,g2,g3⟩:=ho p hp
 exact⟨e,t',xs,v,g0,g1,g2,g3.row h⟩
theorem au.row{r id:Nat}{cs:Array Value}(h:X.ow r= .box id){pl:List Nat->Place}{sv:SV}{v:Value}(hr:au X pl sv v):au (X.row r cs) pl sv v:=by
 cases sv with
 |undef=>trivial
 |skip=>exact hr
 |cm=>exact hr
 |gn=>exact hr
 |over=>exact hr
 |ah t x own=>
  obtain⟨c,h1,h2,h3⟩:=hr
  exact⟨c,h1.al (fun _ _=>sF h),h2,h3.row h⟩
 |ptr id t p=>exact hr
 |view t x=>
  obtain⟨ad,c,h1,h2,h3,h4⟩:=hr
  exact⟨ad,c,h1,h2,h3.al (fun _ _=>sF h),fun i u hi=>sF h (h4 i u hi)⟩
 |cap f t x u y=>exact sA (fun _ _=>sF h) hr
theorem Rel.row{r id:Nat}{B B':bk}{cs:Array Value}(hr:Rel X s a)(hb:s.bs[id]? =some (some B))(hβ:X.β id=some r)(h:X.ow r= .box id)(hB:bA (X.row r cs) id r B'):Rel (X.row r cs) (s.aC (some (id,B'))) a where
 size:=hr.size
 gD:=by simpa [State.aC] using hr.gD
 bH:=fun i l v hl hv=>(hr.bH i l v hl hv).jF fun j sv u hm jt=>jt.row h
 boxes:=fun bT B2 cP=>by
  have ar:id<s.bs.length:=(List.getElem?_eq_some_iff.1 hb).1
  simp only[State.aC,List.getElem?_set] at cP
  by_cases e:id=bT
  ·subst e
   rw[if_pos rfl,if_pos ar] at cP
   cases cP;exact⟨r,hβ,hB⟩
  ·rw[if_neg e] at cP
   obtain⟨r',h1,h4,h2⟩:=hr.boxes bT B2 cP
   have bZ:r'≠r:=fun e2=>by rw[e2,h] at h4;cases h4;exact e rfl
   exact⟨r',h1,h4,h2.move (fun _ _=>sF h) (setRow_other X.w r r' cs bZ) (fun cs h5=>h5.row h) fun _ g o ho hw=>⟨(setRow_other X.w r g cs (fun e3=>by rw[e3,h] at hw;cases hw)).trans ho,hw⟩⟩
 live:=fun i l bT t p hi hm=>by
  have ar:id<s.bs.length:=(List.getElem?_eq_some_iff.1 hb).1
  obtain⟨B2,cP⟩:=hr.live i l bT t p hi hm
  simp only[State.aC,List.getElem?_set]
  by_cases e:id=bT
  ·subst e;exact⟨B',by rw[if_pos rfl,if_pos ar]⟩
  ·rw[if_neg e];exact⟨B2,cP⟩
 defers:=hr.defers
theorem Kx(hE:ak P E){T:TypeId}{t:Ty}(ht:E.ty T=some t){x:El t}{cs:List Value}(hr:aR X t x cs){r off:Nat}{cur:Array Value}{T':TypeId}{w:World}(hg:w.heap[r]? =some (.cells cur T' (0,0)))(hf:off+t.cells<=cur.size):
 (storeVar T ⟨r,off,none⟩ (dp t cs)).run P w= .ok () (w.setRow r (cur.toList.take off++cs++cur.toList.drop (off+cs.length)).toArray):=by
 have hl:=hr.len
 have cp:=run_storeCells_at P r off T' cs 0 cur w hg (by omega) hr.one
 simp only[Nat.add_zero] at cp
 unfold storeVar
 simp only[Sem.run_bind,kL hE ht,Result.andThen_ok,uQ hr]
 rw[if_neg (by simp [hl])]
 exact cp
theorem SP:∀{t:Ty} {p q:List Nat} {x:El t} {u:Ty} {y:El u} {z:El t} {r:(u:Ty)×El u} {X:ap} {cs:List Value},aR X t x cs->El.set t p x u y=some z->t.at_ p=some u->t.eH p->El.get u q y=some r->El.get t (p++q) z=some r:=by
 intro t
 induction t with
 |arr n t ih=>
  intro p q x u y z r X cs hr hs bR hp hg
  cases p with
  |nil=>
   simp only[Ty.at_,Option.some.injEq] at bR
   subst bR
   simp only[El.set,Ty.bJ,dite_true,Option.some.injEq] at hs
   subst hs
   exact hg
  |cons i p=>
   simp only[El.set] at hs
   obtain⟨z',lM,rfl⟩:=Option.map_eq_some_iff.1 hs
   obtain⟨h1,h2,h3⟩:=hr
   have hi:i<List.length x:=by rw[h1];exact hp.1
   simp only[El.get,List.cons_append]
   rw[List.getD_eq_getElem?_getD,List.getElem?_set_self hi]
   exact ih (h3 i _ (getD_some _ hi)) lM bR hp.2 hg
 |pair ta tb kz kA=>
  intro p q x u y z r X cs hr hs bR hp hg
  cases p with
  |nil=>
   simp only[Ty.at_,Option.some.injEq] at bR
   subst bR
   simp only[El.set,Ty.bJ,dite_true,Option.some.injEq] at hs
   subst hs
   exact hg
  |cons i p=>
   obtain⟨c1,c2,_,r1,r2⟩:=hr
   cases i with
   |zero=>
    simp only[El.set] at hs
    obtain⟨z',lM,rfl⟩:=Option.map_eq_some_iff.1 hs
    exact kz r1 lM bR hp hg
   |succ i=>
    simp only[El.set] at hs
    obtain⟨z',lM,rfl⟩:=Option.map_eq_some_iff.1 hs
    exact kA (p:=i::p) r2 lM bR hp hg
 |_=>
  intro p q x u y z r X cs hr hs bR hp hg
  cases p with
  |nil=>
   simp only[Ty.at_,Option.some.injEq] at bR
   subst bR
   simp only[El.set,Ty.bJ,dite_true,Option.some.injEq] at hs
   first|subst hs|skip
   exact hg
  |cons i p=>simp [Ty.at_] at bR
theorem Hg{t u:Ty}{p:List Nat}{x z:El t}{y:El u}{cs cv:List Value}{own oy:List (List Nat)}{pl:List Nat->Place}(hr:aR X t x cs)(fP:t.eH p)(bR:t.at_ p=some u)(eY:El.set t p x u y=some z)(rep:aR X u y cv)
 (ho:bf X pl t x cs own) (hy:bf X (fun q=>pl (p++q)) u y cv oy):bf X pl t z (cs.take (t.off p)++cv++cs.drop (t.off p+cv.length)) (oy.map (fun q=>p++q)++ve own p):=by
 have kS:=rep.len
 have hle:=eb t p u bR fP
 have du:=hr.len
 intro q hq
 rcases List.mem_append.1 hq with hq|hq
 ·obtain⟨q,Qm,rfl⟩:=List.mem_map.1 hq
  obtain⟨e,t',xs,v,g0,g1,g2,g3⟩:=hy q Qm
  have ar:=(List.getElem?_eq_some_iff.1 g2).1
  refine⟨e,t',xs,v,zc1 t p q u bR fP g0,SP hr eY bR fP g1,?_,g3⟩
  rw[KI t p q u bR,List.append_assoc,List.getElem?_append_right (by rw[List.length_take];omega),List.length_take,Nat.min_eq_left (by omega),Nat.add_sub_cancel_left,List.getElem?_append_left ar]
  exact g2
 ·obtain⟨hqm,eX⟩:=z9i hq
  obtain⟨e,t',xs,v,g0,g1,g2,g3⟩:=ho q hqm
  obtain⟨k1,k2⟩:=zye eY bR fP g0 eX g1
  refine⟨e,t',xs,v,g0,k1,?_,g3⟩
  have kU:=zg8 (cs:=cs) (c:=cv) (off:=t.off p) (by omega) (t.off q) 1 (by rw[kS];omega)
  have h0:=congrArg (fun l=>l[0]?) kU
  simp only[List.getElem?_take,List.getElem?_drop] at h0
  simp only[Nat.zero_lt_one,if_true,Nat.add_zero] at h0
  rw[h0];exact g2
theorem zyc(hE:ak P E)(hr:Rel X s a){T:TypeId}{u0:Ty}{x y:Operand}(ho:o.op= .store T x y)(hT:E.ty T=some u0){id:Nat}{t:Ty}{p:List Nat}(dy:s.ay x= .ptr id t p)(h:Ai u0 s id t p (s.ay y) some=some u):aA P X s a o u:=by
 have hx:=hr.ay x
 rw[dy] at hx
 obtain⟨r0,hβ,hv⟩:=hx
 unfold Ai at h
 split at h
 case h_2=>cases h
 rename_i ta tb i
 split at h
 case h_2=>cases h
 rename_i B hB
 split at h
 case isFalse=>cases h
 rename_i dx
 split at h
 case isFalse=>cases h
 rename_i heq
 have:=Ty.aH heq
 subst this
 obtain⟨hb,r,h1,how,cs,T',aF,di,dF⟩:=AB hr hB dx
 rw[hβ] at h1
 cases h1
 obtain⟨yv,h,hy⟩:=zz h
 obtain⟨cv,rep,ev⟩:=hy X _ _ (hr.ay y)
 generalize(Ty.cast dx B.x:List (El ta))=xs at*
 cases hn:Nat.ble (i+1) (List.length xs) with
 |false=>rw[hn] at h;cases h
 |true=>
  rw[hn] at h
  cases h
  have ar:i<List.length xs:=Nat.le_of_ble_eq_true hn
  have hv:a.eval x= .pointer (some ⟨r0,i*ta.cells,none⟩):=hv
  have kS:=rep.len
  have hmul:(i+1)*ta.cells<=List.length xs*ta.cells:=Nat.mul_le_mul_right _ ar
  rw[Nat.add_mul,Nat.one_mul] at hmul
  have cM:i*ta.cells+ta.cells<=cs.size:=by omega
  have si:i*ta.cells+cv.length<=cs.toList.length:=by simp;omega
  let new:=(cs.toList.take (i*ta.cells)++cv++cs.toList.drop (i*ta.cells+cv.length)).toArray
  have jE:new.toList=cs.toList.take (i*ta.cells)++cv++cs.toList.drop (i*ta.cells+cv.length):=rfl
  have aV:(execOp a.eval o).run P X.w= .ok .skip ((X.row r0 new).w):=by
   have cp:=Kx (P:=P) hE hT rep (off:=i*ta.cells) (w:=X.w) (r:=r0) (cur:=cs) (T':=T') aF cM
   simp only[execOp,ho,Sem.run_bind,Instr.storeAt,hv,Instr.sureAddr,Sem.run_pure,Result.andThen_ok,ev,cp]
   rfl
  have b8:new.size=cs.size:=by
   have:new.toList.length=cs.toList.length:=by rw[jE];simp;omega
   simpa using this
  have bV:bA (X.row r0 new) id r0 ⟨.aT .row ta tb,(List.set xs i yv:List (El ta)),[]⟩:=by
   refine⟨how,new,T',setRow_heap X.w r0 cs new T' (0,0) aF,?_,fun j z hj=> ?_⟩
   ·rw[b8,di]
    show _=List.length (List.set xs i yv)*_
    rw[List.length_set]
   ·refine aR.al (fun _ _=>sF (cs:=new) how) ?_
    have hj:(List.set xs i yv)[j]? =some z:=hj
    rw[jE]
    by_cases e:i=j
    ·subst e
     rw[List.getElem?_set_self ar] at hj
     cases hj
     have:((cs.toList.take (i*ta.cells)++cv++cs.toList.drop (i*ta.cells+cv.length)).drop (i*ta.cells)).take ta.cells=cv:=by
      rw[List.append_assoc,List.drop_append_of_le_length (by rw[List.length_take];omega),List.drop_eq_nil_of_le (by rw[List.length_take];omega),List.nil_append,<-kS,List.take_left]
     rw[this]
     exact rep
    ·rw[List.getElem?_set_ne e] at hj
     rw[zg8 (cs:=cs.toList) (c:=cv) (off:=i*ta.cells) si (j*ta.cells) ta.cells ?_]
     ·exact dF j z hj
     ·rcases Nat.lt_or_gt_of_ne e with h|h
      ·have:(i+1)*ta.cells<=j*ta.cells:=Nat.mul_le_mul_right _ h
       rw[Nat.add_mul,Nat.one_mul] at this
       right;omega
      ·have:(j+1)*ta.cells<=i*ta.cells:=Nat.mul_le_mul_right _ h
       rw[Nat.add_mul,Nat.one_mul] at this
       left;omega
  exact⟨X.row r0 new,Go.undef,.inr ⟨aV,rfl⟩,Nu how,(hr.row (cs:=new) hb hβ how bV).skip o.dst⟩
theorem Tm(hE:ak P E)(hr:Rel X s a){ops:List Oper}{T:TypeId}{x y:Operand}(ho:o.op= .store T x y){C:FuncId->bF Out}(h:act E C ops o s some=some u):aA P X s a o u:=by
 unfold act at h
 simp only[ho] at h
 have hx:=hr.ay x
 unfold store at h
 split at h
 case h_2=>cases h
 rename_i u0 hT
 split at h
 case h_2=>cases h
 rename_i id t p e
 rw[e] at hx
 obtain⟨r,hβ,hx⟩:=hx
 split at h
 ·exact zyc hE hr ho hT e h
 rename_i eK
 have eK:t.bE=false:=by simpa using eK
 obtain⟨hv,fP⟩:=(n9 eK).1 hx
 split at h
 case h_2=>cases h
 rename_i B hB
 split at h
 case isFalse=>cases h
 rename_i heq
 have dx:=Ty.aH heq
 subst dx
 split at h
 case h_2=>cases h
 rename_i u' bR
 split at h
 case isFalse=>cases h
 rename_i yD
 have:=Ty.aH yD
 subst this
 have hb:=pI hB
 obtain⟨yv,h,hy⟩:=zvr hr h (.inl rfl)
 split at h
 case h_2=>cases h
 rename_i z eY
 cases h
 obtain⟨W,cv,hW,hX,Ke,rep,ev,hO,hβ2,kR,_⟩:=hy (fun q=> .b id (p++q))
 obtain⟨r',hβW,tY⟩:=Ke.boxes id B (by rw[uT];exact hb)
 obtain⟨cs,T2,aF,aJ,how,bM⟩:=tY.cells eK
 have hrr:r'=r:=by
  rw[hβ2,hβ] at hβW
  exact(Option.some.inj hβW).symm
 subst hrr
 have cM:B.t.off p+u'.cells<=cs.size:=by
  have:=eb B.t p u' bR fP
  have hl:=aJ.len
  simp at hl
  omega
 let new:=(cs.toList.take (B.t.off p)++cv++cs.toList.drop (B.t.off p+cv.length)).toArray
 have aV:(execOp a.eval o).run P X.w= .ok .skip ((W.row r' new).w):=by
  have cp:=Kx (P:=P) hE hT rep (off:=B.t.off p) (w:=X.w) (r:=r') (cur:=cs) (T':=T2) (by rw[<-hW];exact aF) cM
  simp only[execOp,ho,Sem.run_bind,Instr.storeAt,hv,Instr.sureAddr,Sem.run_pure,Result.andThen_ok,ev,cp]
  rw[<-hW];rfl
 have qX:=Hg aJ fP bR eY rep bM hO
 have bV:bA (W.row r' new) id r' {t:=B.t,x:=z,own:=(s.ay y).own.map (fun q=>p++q)++ve B.own p}:=by
  refine⟨how,cY.of eK (setRow_heap W.w r' cs new T2 (0,0) aF) ?_ ?_⟩
  ·have:=(fm aJ fP bR eY rep).al (fun _ _=>sF (cs:=new) how)
   simpa [new] using this
  ·have:=qX.row (cs:=new) how
   simpa [new] using this
 have eL:=Ke.row (cs:=new) (by rw[uT];exact hb) hβW how bV
 exact⟨W.row r' new,Go.undef,.inr ⟨aV,rfl⟩,hX.trans (Nu how),eL.skip o.dst⟩
end Go.Ref

namespace Go.Ref
open Go
variable {P:Program} {E:Env} {X:ap} {s:State} {a:Act} {o:Oper} {u:Out}
theorem FO(off:Nat):∀(l:List Value) (k:Nat) (cs:Array Value),off+k+l.length<=cs.size->
 ((l.zipIdx k).foldl (fun cs p=>cs.setIfInBounds (off+p.2) p.1) cs).toList=cs.toList.take (off+k)++l++cs.toList.drop (off+k+l.length)
 | [],k,cs,h=>by simp
 |v::r,k,cs,h=>by
  simp only[List.length_cons] at h
  simp only[List.zipIdx_cons,List.foldl_cons]
  rw[FO off r (k+1) _ (by simp;omega)]
  simp only[Array.toList_setIfInBounds,List.length_cons]
  apply List.ext_getElem?
  intro q
  simp only[List.getElem?_append,List.getElem?_take,List.getElem?_drop,List.length_append,List.length_take,List.length_set,Array.length_toList,List.getElem?_set,List.length_cons,List.getElem?_cons]
  rw[Nat.min_eq_left (show off+(k+1)<=cs.size by omega),Nat.min_eq_left (show off+k<=cs.size by omega)]
  by_cases h1:q<off+k
  ·rw[if_pos (by omega),if_pos (by omega),if_pos (by omega),if_neg (by omega),if_pos (by omega),if_pos (by omega),if_pos (by omega)]
  ·by_cases h2:q=off+k
   ·subst h2
    rw[if_pos (by omega),if_pos (by omega),if_pos (by omega),if_pos rfl,if_pos (by omega),if_pos (by omega),if_neg (by omega),if_pos (by omega)]
   ·by_cases h3:q<off+(k+1)+r.length
    ·rw[if_pos (by omega),if_neg (by omega),if_pos (by omega),if_neg (by omega),if_neg (by omega)]
     try(congr 1<;>omega)
    ·rw[if_neg (by omega),if_neg (by omega),if_neg (by omega)]
     first|done|(congr 1;omega)
theorem z119(off:Nat)(l:List Value)(cs:Array Value)(h:off+l.length<=cs.size):
 ((l.toArray.zipIdx).foldl (fun cs (p:Value×Nat)=>cs.setIfInBounds (off+p.2) p.1) cs).toList=cs.toList.take off++l++cs.toList.drop (off+l.length):=by
 have:=FO off l 0 cs (by omega)
 rw[<-Array.foldl_toList,Array.toList_zipIdx]
 simpa using this
theorem FN(hr:Rel X s a){t:Ty}{pl:Nat->Option (Nat×Nat)}(iA:∀i ft,t.at_ [i]=some ft->t.jG i=true->t.eH [i]/\pl i=some (t.off [i],ft.cells)){R:Type}{K:El t->List (List Nat)->Option R}{z:R}:
 ∀(parts:List (Nat×Operand)) (x:El t) (own:List (List Nat)) (cs:Array Value),aR X t x cs.toList->po t x own (parts.map fun p=>(p.1,s.ay p.2,[])) K=some z->
  ∃y lQ cells,K y lQ=some z/\Instr.fill pl cs (parts.map fun p=>(p.1,a.eval p.2))=some cells/\aR X t y cells.toList
 | [],x,own,cs,rep,h=>⟨x,own,cs,h,rfl,rep⟩
 |(i,p)::r,x,own,cs,rep,h=>by
  simp only[List.map_cons,po] at h
  split at h
  case isTrue=>cases h
  rename_i hb
  have hb:t.jG i=true:=by cases yx:t.jG i<;>simp_all
  split at h
  case h_2=>cases h
  rename_i ft bR
  obtain⟨y,h,hy⟩:=zz h
  split at h
  case h_2=>cases h
  rename_i x' eY
  obtain⟨c,rc,ec⟩:=hy X _ _ (hr.ay p)
  obtain⟨fP,hp⟩:=iA i ft bR hb
  have kS:=rc.len
  have du:=rep.len
  have hle:=eb t [i] ft bR fP
  have q7:=fm rep fP bR eY rc
  have cM:t.off [i]+c.length<=cs.size:=by rw[kS];simp at du;omega
  have nY:=z119 (t.off [i]) c cs cM
  obtain⟨y2,rE,cells,h1,h2,h3⟩:=FN hr iA r x' _ _ (by rw[nY];exact q7) h
  refine⟨y2,rE,cells,h1,?_,h3⟩
  simp only[List.map_cons,Instr.fill,hp,ec,uQ rc]
  rw[if_neg (by simp only[List.size_toArray,kS];simp;simp at du;omega)]
  exact h2
theorem z93{t:Ty}{pl:Nat->Option (Nat×Nat)}(iA:∀i ft,t.at_ [i]=some ft->t.jG i=true->t.eH [i]/\pl i=some (t.off [i],ft.cells)){R:Type}{K:El t->List (List Nat)->Option R}{z:R}:
 ∀(parts:List (Nat×Operand)) (X:ap) (s:State) (x:El t) (own:List (List Nat)) (cs:Array Value),Rel X s a->aR X t x cs.toList->bf X (.r 0) t x cs.toList own->po t x own (kX s parts).1 K=some z->
  ∃y lQ cells Y,K y lQ=some z/\Y.w=X.w/\Ext X Y/\Rel Y (s.close (kX s parts).2) a/\Instr.fill pl cs (parts.map fun p=>(p.1,a.eval p.2))=some cells/\aR Y t y cells.toList/\bf Y (.r 0) t y cells.toList lQ
 | [],X,s,x,own,cs,hr,rep,ho,h=>⟨x,own,cs,X,h,rfl,Ext.refl X,hr,rfl,rep,ho⟩
 |(i,p)::r,X,s,x,own,cs,hr,rep,ho,h=>by
  simp only[kX,po] at h
  split at h
  case isTrue=>cases h
  rename_i hb
  have hb:t.jG i=true:=by cases yx:t.jG i<;>simp_all
  split at h
  case h_2=>cases h
  rename_i ft bR
  have hc:vd (s.ay p).own p=src p\/((s.ay p).own=[]/\vd (s.ay p).own p=[]):=by
   cases bM:(s.ay p).own with
   |nil=>exact .inr ⟨rfl,rfl⟩
   |cons _ _=>exact .inl rfl
  obtain⟨y,h,hy⟩:=zvr hr h hc
  split at h
  case h_2=>cases h
  rename_i x' eY
  obtain⟨Y,c,hw,aZ,bm,rc,ec,hO,hβ,hT,cp⟩:=hy (fun q=> .r 0 ([i]++q))
  obtain⟨fP,hp⟩:=iA i ft bR hb
  have kS:=rc.len
  have du:=rep.len
  have hle:=eb t [i] ft bR fP
  have Fc:=rep.mono aZ
  have hoY:=ho.stay cp (by simp)
  have q7:=fm Fc fP bR eY rc
  have qX:=Hg Fc fP bR eY rc hoY hO
  have cM:t.off [i]+c.length<=cs.size:=by rw[kS];simp at du;omega
  have nY:=z119 (t.off [i]) c cs cM
  obtain⟨y2,rE,cells,Z,h1,sk,bO,cV,h2,h3,h4⟩:=z93 iA r Y _ x' _ _ bm (by rw[nY];exact q7) (by rw[nY];exact qX) h
  refine⟨y2,rE,cells,Z,h1,sk.trans hw,aZ.trans bO,?_,?_,h3,h4⟩
  ·simp only[kX,zfb]
   exact cV
  ·simp only[List.map_cons,Instr.fill,hp,ec,uQ rc]
   rw[if_neg (by simp only[List.size_toArray,kS];simp;simp at du;omega)]
   exact h2
theorem zvl(hE:ak P E):∀(fl:List Field) (t:Ty) (off:Nat),ia E fl t off->∃places,fl.mapM (fun(f:Field)=>(P.info? f.type).map fun i=>(f.offset,i.size))=some places/\
 ∀(j:Nat) (f:Field) (ft:Ty),fl[j]? =some f->E.ty f.type=some ft->places[j]? =some (f.offset,ft.cells)
 | [],t,off,h=>⟨[],rfl,fun j f ft hj=>by simp at hj⟩
 |f::r,t,off,h=>by
  cases t<;>simp only[ia] at h<;>try exact h.elim
  rename_i ta tb
  obtain⟨h1,h2,h3,h4⟩:=h
  obtain⟨places,g1,g2⟩:=zvl hE r tb _ h4
  obtain⟨i,i1,i2,_⟩:=(hE.ty _ _ h2).info
  refine⟨(f.offset,i.size)::places,?_,fun j g gt hj hg=> ?_⟩
  ·simp [List.mapM_cons,i1,g1]
  ·cases j with
   |zero=>
    simp only[List.getElem?_cons_zero,Option.some.injEq] at hj
    subst hj
    rw[h2] at hg
    cases hg
    simp [i2]
   |succ j=>
    simp only[List.getElem?_cons_succ] at hj⊢
    exact g2 j g gt hj hg
theorem Vf(hE:ak P E)(hr:Rel X s a){T:TypeId}{t:Ty}(hT:E.ty T=some t)(oW:t.agg=true){R:Type}{K:El t->List (List Nat)->Option R}{z:R}(parts:Array (Nat×Operand))
 (h:po t (El.bI t) (uV t) (kX s parts.toList).1 K=some z):
 ∃y own cs Y,K y own=some z/\Y.w=X.w/\Ext X Y/\Rel Y (s.close (kX s parts.toList).2) a/\aR Y t y cs/\bf Y (.r 0) t y cs own/\(Instr.build T (parts.map fun(i,x)=>(i,a.eval x))).run P X.w= .ok (dp t cs) X.w:=by
 have hf:=hE.ty T t hT
 obtain⟨i,i1,i2,i3,i4⟩:=hf.info
 have hz:=rV X t
 have hn:=zxg X (.r 0) t
 have QB:(dp t (zp t)).cells=(zp t).toArray:=uQ hz
 have oX:(parts.map fun(i,x)=>(i,a.eval x)).toList=parts.toList.map fun p=>(p.1,a.eval p.2):=by simp
 cases t with
 |arr n t=>
  obtain⟨e,hu,he,_⟩:=hf.cO
  obtain⟨ie,j1,j2,_⟩:=(hE.ty e t he).info
  obtain⟨y,own,cells,Y,k1,hw,aZ,bm,k2,k3,k4⟩:=z93 (pl:=fun i=>some (i*ie.size,ie.size)) (fun i ft bR hb=>by
   simp only[Ty.at_,Option.some.injEq] at bR
   subst bR
   have hb:i+1<=n:=by simpa [Ty.jG] using hb
   exact⟨⟨hb,by simp [Ty.eH]⟩,by simp [Ty.off,j2]⟩) parts.toList X s (El.bI (.arr n t)) _ (zp (.arr n t)).toArray hr (by simpa using hz) (by simpa using hn) h
  refine⟨y,own,cells.toList,Y,k1,hw,aZ,bm,k3,k4,?_⟩
  rw[iz rfl]
  refine run_build X.w T _ cells.toList.toArray ?_
  unfold Program.built
  simp only[i1,hu,i4,j1,QB,oX]
  simpa using k2
 |pair ta tb=>
  obtain⟨fs,hu,cM,_⟩:=hf.cO
  obtain⟨places,p1,p2⟩:=zvl hE fs.toList _ 0 cM
  obtain⟨y,own,cells,Y,k1,hw,aZ,bm,k2,k3,k4⟩:=z93 (pl:=(places.toArray[·]?)) (fun i ft bR hb=>by
   obtain⟨f,g1,g2,g3,g4⟩:=Np fs.toList _ 0 i ft cM rfl bR
   refine⟨g4,?_⟩
   have:=p2 i f ft g1 g3
   simp only[List.getElem?_toArray,this,g2,Nat.zero_add]) parts.toList X s (El.bI (.pair ta tb)) _ (zp (.pair ta tb)).toArray hr (by simpa using hz) (by simpa using hn) h
  refine⟨y,own,cells.toList,Y,k1,hw,aZ,bm,k3,k4,?_⟩
  rw[iz rfl]
  refine run_build X.w T _ cells.toList.toArray ?_
  unfold Program.built
  simp only[i1,hu,i4,p1,QB,oX]
  simpa using k2
 |unit=>
  obtain⟨fs,hu,cM,_⟩:=hf.cO
  obtain⟨places,p1,p2⟩:=zvl hE fs.toList _ 0 cM
  obtain⟨y,own,cells,Y,k1,hw,aZ,bm,k2,k3,k4⟩:=z93 (pl:=(places.toArray[·]?)) (fun i ft bR hb=>by simp [Ty.at_] at bR) parts.toList X s (El.bI .unit) _ (zp .unit).toArray hr (by simpa using hz) (by simpa using hn) h
  refine⟨y,own,cells.toList,Y,k1,hw,aZ,bm,k3,k4,?_⟩
  rw[iz rfl]
  refine run_build X.w T _ cells.toList.toArray ?_
  unfold Program.built
  simp only[i1,hu,i4,p1,QB,oX]
  simpa using k2
 |aT k a b=>exact absurd (hE.gM hT) (by simp [Ty.bE])
 |_=>simp [Ty.agg] at oW
def ap.lU(X:ap)(j:Nat)(q:List Nat->Place):ap:=
 {X with ow:=fun g=>match X.ow g with
  | .row (.r j' p) n=>if j'=j then .row (q p) n else .row (.r j' p) n
  |w=>w}
theorem TL{s:State}{X:ap}{j:Nat}{q:List Nat->Place}:dd s X (X.lU j q):=by
 refine⟨rfl,rfl,fun g=> ?_⟩
 simp only[ap.lU]
 cases hg:X.ow g with
 |row pl n=>
  cases pl with
  |r j' p=>
   by_cases e:j'=j
   ·subst e
    exact .inr ⟨_,n,q p,rfl,fun h=>h,by simp⟩
   ·exact .inl (if_neg e)
  |_=>exact .inl rfl
 |_=>exact .inl rfl
theorem bf.uJ{X:ap}{j:Nat}{q:List Nat->Place}{t:Ty}{x:El t}{cs:List Value}{own:List (List Nat)}(h:bf X (.r j) t x cs own):bf (X.lU j q) q t x cs own:=fun p hp=>by
 obtain⟨e,t',xs,v,g0,g1,g2,g3⟩:=h p hp
 refine⟨e,t',xs,v,g0,g1,g2,?_⟩
 rcases g3 with h|⟨g,cap,cur,h1,h2,h3,h4,h5,h6⟩
 ·exact .inl h
 ·exact .inr ⟨g,cap,cur,h1,h2,h3,h4,h5,by simp [ap.lU,h6]⟩
theorem Tg(hE:ak P E)(hr:Rel X s a){ops:List Oper}{T:TypeId}{parts:Array (Nat×Operand)}(ho:o.op= .build T parts){C:FuncId->bF Out}(h:act E C ops o s some=some u):aA P X s a o u:=by
 unfold act at h
 simp only[ho] at h
 split at h
 case h_2=>cases h
 rename_i t hT
 split at h
 case isTrue=>cases h
 rename_i oW
 have oW:t.agg=true:=by cases yx:t.agg<;>simp_all
 obtain⟨y,own,cs,Y,h,hw,aZ,bm,rep,hO,aV⟩:=Vf hE hr hT oW parts h
 cases h
 have kR:=TL (s:=s.close (kX s parts.toList).2) (X:=Y) (j:=0) (q:= .c (o.dst.getD 0) 0)
 refine⟨Y.lU 0 (.c (o.dst.getD 0) 0),dp t cs,.inl ?_,aZ.trans kR.ext,(bm.mod kR.mod).fin ⟨cs,rep.al (fun _ _=>kR.av.1),rfl,hO.uJ⟩ (fun id t p hm=>by simp at hm)⟩
 rw[kR.w,hw]
 simp only[execOp,ho,Sem.run_bind,aV,Result.andThen_ok,Sem.run_pure]
end Go.Ref

namespace Go.Ref
open Go
variable {P:Program} {E:Env} {X:ap} {s:State} {a:Act} {o:Oper} {u:Out}
theorem Ye{t:Ty}{x:El t}{xs:List (El t)}{n:Nat}{c cs:List Value}(h1:aR X t x c)(h2:aR X (.arr n t) xs cs):aR X (.arr (n+1) t) (x::xs:List (El t)) (c++cs):=by
 obtain⟨k1,k2,k3⟩:=h2
 have hl:=h1.len
 refine⟨by simp;exact k1,by simp [k2,hl,Nat.add_mul];omega,fun j y hj=> ?_⟩
 cases j with
 |zero=>
  simp only[List.getElem?_cons_zero,Option.some.injEq] at hj
  subst hj
  rw[Nat.zero_mul,List.drop_zero,<-hl,List.take_left]
  exact h1
 |succ j=>
  simp only[List.getElem?_cons_succ] at hj
  have hd:(c++cs).drop ((j+1)*t.cells)=cs.drop (j*t.cells):=by
   rw[Nat.add_mul,Nat.one_mul,Nat.add_comm,<-List.drop_drop,<-hl,List.drop_left]
  rw[hd]
  exact k3 j y hj
theorem Bj{t:Ty}{xs ys:List (El t)}{n m:Nat}{c d:List Value}(h1:aR X (.arr n t) xs c)(h2:aR X (.arr m t) ys d):aR X (.arr (n+m) t) (xs++ys:List (El t)) (c++d):=by
 obtain⟨j1,j2,j3⟩:=h1
 obtain⟨k1,k2,k3⟩:=h2
 refine⟨by rw[List.length_append,j1,k1],by rw[List.length_append,j2,k2,Nat.add_mul],fun j y hj=> ?_⟩
 by_cases ar:j<n
 ·rw[List.getElem?_append_left (by rw[j1];exact ar)] at hj
  have hle:(j+1)*t.cells<=n*t.cells:=Nat.mul_le_mul_right _ ar
  rw[Nat.add_mul,Nat.one_mul] at hle
  rw[List.drop_append_of_le_length (by omega),List.take_append_of_le_length (by rw[List.length_drop];omega)]
  exact j3 j y hj
 ·rw[List.getElem?_append_right (by rw[j1];omega),j1] at hj
  have hd:(c++d).drop (j*t.cells)=d.drop ((j-n)*t.cells):=by
   have hm:j*t.cells=c.length+(j-n)*t.cells:=by
    rw[j2,<-Nat.add_mul]
    congr 1
    omega
   rw[hm,List.drop_length_add_append]
  rw[hd]
  exact k3 _ y hj
theorem zr9{t:Ty}{ad:Addr}(hs:ad.spot=none):∀(xs:List (El t)) (p:Nat),(∀(j:Nat) x,xs[j]? =some x->∃dM,aR X t x dM/\∀(i:Nat) v,dM[i]? =some v->X.av (ad.add (p+(j*t.cells+i))) v)->
 ∃cs,aR X (.arr xs.length t) xs cs/\∀(i:Nat) v,cs[i]? =some v->X.av (ad.add (p+i)) v
 | [],p,h=>⟨[],⟨rfl,by simp,fun j x hj=>by simp at hj⟩,fun i v hi=>by simp at hi⟩
 |x::xs,p,h=>by
  obtain⟨c,r1,s1⟩:=h 0 x rfl
  obtain⟨cs,r2,s2⟩:=zr9 hs xs (p+t.cells) (fun j y hj=>by
   obtain⟨c',r',s'⟩:=h (j+1) y hj
   refine⟨c',r',fun i v hi=> ?_⟩
   have:=s' i v hi
   rw[show p+((j+1)*t.cells+i)=p+t.cells+(j*t.cells+i) by rw[Nat.add_mul];omega] at this
   exact this)
  have hl:=r1.len
  refine⟨c++cs,Ye r1 r2,fun i v hi=> ?_⟩
  rw[List.getElem?_append] at hi
  split at hi
  ·have:=s1 i v hi
   rwa [show p+(0*t.cells+i)=p+i by omega] at this
  ·have:=s2 _ v hi
   rwa [show p+t.cells+(i-c.length)=p+i by omega] at this
theorem z9n{e:TypeId}{t:Ty}{xs:List (El t)}{A:Option Addr}{n c:Nat}(h:aR X (.sl e t) xs [.slice A n c]):n=xs.length/\xs.length<=c/\
 ∃cs,aR X (.arr xs.length t) xs cs/\(A=none->xs=[])/\∀ad,A=some ad->∀(i:Nat) v,cs[i]? =some v->X.av (ad.add i) v:=by
 obtain⟨A',c',h1,h2,h3⟩:=h
 simp only[List.cons.injEq,Value.slice.injEq,and_true] at h1
 obtain⟨rfl,rfl,rfl⟩:=h1
 refine⟨rfl,h2,?_⟩
 cases xs with
 |nil=>exact⟨[],⟨rfl,by simp,fun j x hj=>by simp at hj⟩,fun _=>rfl,fun ad _ i v hi=>by simp at hi⟩
 |cons x r=>
  obtain⟨ad,_,hA,hs,_⟩:=h3 0 x rfl
  subst hA
  obtain⟨cs,k1,k2⟩:=zr9 (X:=X) hs (x::r) 0 (fun j y hj=>by
   obtain⟨nV,c',e1,_,g1,g2⟩:=h3 j y hj
   cases e1
   exact⟨c',g1,fun i v hi=>by rw[Nat.zero_add];exact g2 i v hi⟩)
  refine⟨cs,k1,(fun e=>by cases e),fun nV e i v hi=> ?_⟩
  cases e
  have:=k2 i v hi
  rwa [Nat.zero_add] at this
theorem zg9{e:TypeId}{t:Ty}{xs:List (El t)}{g cap:Nat}{pl:Place}{cur:Array Value}{cs:List Value}(hg:X.w.heap[g]? =some (.cells cur e (0,0)))(how:X.ow g= .row pl (xs.length*t.cells))
 (lK:cur.toList.take (xs.length*t.cells)=cs) (aJ:aR X (.arr xs.length t) xs cs) (lD:xs.length<=cap):aR X (.sl e t) xs [.slice (some ⟨g,0,none⟩) xs.length cap]:=by
 refine⟨_,cap,rfl,lD,fun j x hj=>⟨_,_,rfl,rfl,aJ.2.2 j x hj,fun i v hi=> ?_⟩⟩
 have uf:=(List.getElem?_eq_some_iff.1 hj).1
 have hle:(j+1)*t.cells<=xs.length*t.cells:=Nat.mul_le_mul_right _ uf
 rw[Nat.add_mul,Nat.one_mul] at hle
 rw[List.getElem?_take] at hi
 split at hi
 case isFalse=>cases hi
 rename_i J9
 rw[List.getElem?_drop,<-lK,List.getElem?_take,if_pos (by omega)] at hi
 refine⟨xA rfl _,?_,?_⟩
 ·rw[jw,Nat.zero_add]
  simp only[World.cell?,hg]
  simpa using hi
 ·rw[jw,Nat.zero_add]
  show Ow.used (X.ow g) _
  rw[how]
  show j*t.cells+i<_
  omega
end Go.Ref

namespace Go.Ref
open Go
variable {P:Program} {E:Env} {X:ap} {s:State} {a:Act} {o:Oper} {u:Out}
theorem zwx{R:Type}{t:Ty}{n:Nat}{K:List (El t)->Option R}:∀(parts:List (Nat×SV)) (xs:List (El t)) (own:List (List Nat)),xs.length=n->xL t xs parts K=po (.arr n t) xs own (parts.map fun p=>(p.1,p.2,[])) (fun y _=>K y)
 | [],xs,own,h=>rfl
 |(i,v)::r,xs,own,h=>by
  subst h
  simp only[xL,List.map_cons,po,Ty.jG,Ty.at_,El.set,Ty.bJ,dite_true,Option.map_some]
  congr 1
  refine congrArg (v.el t) (funext fun y=> ?_)
  exact zwx r (xs.set i y) _ (by simp)
theorem Wx{t:Ty}(n:Nat)(hk:0<t.cells):((Array.range (n*t.cells)).map fun i=>(zp t).toArray[i % (zp t).toArray.size]!).toList=(List.replicate n (zp t)).flatten:=by
 have hz:=sn t
 apply List.ext_getElem?
 intro q
 have hlen:((List.replicate n (zp t)).flatten).length=n*t.cells:=by simp [hz]
 by_cases hq:q<n*t.cells
 ·have h1:q/t.cells<n:=(Nat.div_lt_iff_lt_mul hk).2 hq
  have h2:=z8q hz n (q/t.cells) h1
  have h3:=congrArg (fun l=>l[q % t.cells]?) h2
  simp only[List.getElem?_take,List.getElem?_drop,if_pos (Nat.mod_lt q hk)] at h3
  rw[Nat.mul_comm,Nat.div_add_mod] at h3
  rw[h3]
  have hm:q % t.cells<(zp t).length:=by rw[hz];exact Nat.mod_lt q hk
  rw[List.getElem?_eq_getElem hm]
  simp [hq,hz,hm]
  rw[List.getElem?_eq_getElem hm]
  rfl
 ·rw[List.getElem?_eq_none (by simp;omega),List.getElem?_eq_none (by omega)]
theorem Hf{X:ap}{pl:List Nat->Place}{e:TypeId}{t:Ty}{xs:List (El t)}{v:Value}(h:bg X (pl []) e t.cells xs.length v):bf X pl (.sl e t) xs [v] [[]]:=fun p hp=>by
 have hp:p=[]:=by simpa using hp
 subst hp
 exact⟨e,t,xs,v,by simp [Ty.eH],rfl,rfl,h⟩
theorem zqe(hE:ak P E)(hr:Rel X s a){ops:List Oper}{T:TypeId}{n:Nat}{parts:Array (Nat×Operand)}(ho:o.op= .buildSlice T n parts){C:FuncId->bF Out}(h:act E C ops o s some=some u):aA P X s a o u:=by
 unfold act at h
 simp only[ho] at h
 split at h
 case h_2=>cases h
 rename_i e t hT
 split at h
 case isTrue=>cases h
 rename_i Ez
 have hk:0<t.cells:=by rcases Nat.eq_zero_or_pos t.cells with h0|h0<;>simp_all
 cases hb:Nat.ble (n*t.cells) 16777216 with
 |false=>rw[hb] at h;cases h
 |true=>
  rw[hb] at h
  simp only[cond_true] at h
  have q9:n*t.cells<=16777216:=Nat.le_of_ble_eq_true hb
  rw[zwx (n:=n) _ _ [] (by simp),List.map_map] at h
  obtain⟨hu,he⟩:=(hE.ty T _ hT).cO
  have di:=kL (P:=P) hE he X.w
  have hzr:=K3 (P:=P) hE he X.w
  have E1:=rV X (.arr n t)
  obtain⟨y,lQ,cells,k1,k2,k3⟩:=FN (pl:=fun i=>some (i*t.cells,t.cells)) hr (fun i ft bR hb=>by
   simp only[Ty.at_,Option.some.injEq] at bR
   subst bR
   have hb:i+1<=n:=by simpa [Ty.jG] using hb
   exact⟨⟨hb,by simp [Ty.eH]⟩,by simp [Ty.off]⟩) parts.toList (El.bI (.arr n t)) [] (zp (.arr n t)).toArray (by simpa using E1) h
  cases k1
  have hy:List.length y=n:=k3.1
  have du:cells.size=n*t.cells:=by have:=k3.2.1;simpa using this
  have hn:n<=n*t.cells:=Nat.le_mul_of_pos_right n hk
  let Y:=X.new cells e (.row (.c (o.dst.getD 0) 0 []) (n*t.cells)) X.β
  have ug:eC s X Y:=zmr X s cells e _ _ rfl (fun _ _ _=>rfl)
  obtain⟨n1,n2⟩:=zfz X cells e (.row (.c (o.dst.getD 0) 0 []) (n*t.cells)) X.β
  refine⟨Y,.slice (some ⟨X.w.heap.size,0,none⟩) n n,.inl ?_,ug.ext,?_⟩
  ·have hcz:(Array.map (fun x=>(dp t (zp t)).cells[x % (dp t (zp t)).cells.size]!) (Array.range (n*t.cells)))=(zp (.arr n t)).toArray:=by
    apply Array.ext'
    rw[uQ (rV X t),Wx n hk]
    rfl
   have oX:(parts.map fun(i,x)=>(i,a.eval x)).toList=parts.toList.map fun p=>(p.1,a.eval p.2):=by simp
   by_cases hn0:n*t.cells=0
   ·have Qc:n=0:=by
     rcases Nat.mul_eq_zero.1 hn0 with h0|h0
     ·exact h0
     ·omega
    subst Qc
    have k2':Instr.fill (fun i=>some (i*t.cells,t.cells)) #[] (parts.toList.map fun p=>(p.1,a.eval p.2))=some cells:=k2
    have ada:(parts.map fun x=>(x.1,a.eval x.2)).toList=parts.toList.map fun p=>(p.1,a.eval p.2):=by simp
    simp [execOp,ho,Instr.buildSlice,run_underlying hu,di,newRow,Y,ap.new]
    rw[show(Array.map (fun x=>default) (Array.range 0):Array Value)= #[] by simp,k2']
    simp
   ·have hc:=hcz
    simp [execOp,ho,Instr.buildSlice,run_underlying hu,di,hzr,hn0,newRow,Y,ap.new,Nat.not_lt.2 q9]
    rw[hcz,k2]
    simp
  ·refine(hr.cZ ug).fin ?_ (fun id t p hm=>by simp at hm)
   refine⟨[.slice (some ⟨X.w.heap.size,0,none⟩) n n],?_,rfl,Hf ?_⟩
   ·rw[<-hy]
    refine zg9 (pl:= .c (o.dst.getD 0) 0 []) (cur:=cells) (cs:=cells.toList) n1 (by rw[hy];exact n2) ?_ ?_ (Nat.le_refl _)
    ·rw[hy,List.take_of_length_le (by simp [du])]
    ·rw[hy];exact k3.al (fun _ _=>ug.av)
   ·refine .inr ⟨X.w.heap.size,n,cells,by rw[hy],n1,by rw[hy];exact Nat.le_refl _,?_,du,by rw[hy];exact n2⟩
    simp only[maxLen]
    omega
end Go.Ref

namespace Go.Ref
open Go
variable {P:Program} {E:Env} {X:ap} {s:State} {a:Act} {o:Oper} {u:Out}
inductive Grown(w w':World)(e:TypeId)(k:Nat)(vb v':Value)(cx cy:List Value)(n:Nat):Prop where
 |same (h:w'=w) (hv:v'=vb) (hy:cy=[])
 |room (g cap:Nat) (cur eR:Array Value) (hb:∃m,vb= .slice (some ⟨g,0,none⟩) m cap) (hg:w.heap[g]? =some (.cells cur e (0,0))) (hv:v'= .slice (some ⟨g,0,none⟩) n cap) (hn:n<=cap) (hm:cap<=maxLen)
   (hw:w'=w.setRow g eR) (hs:eR.size=cap*k) (ht:eR.toList.take (n*k)=cx++cy)
 |new (cap:Nat) (eR:Array Value) (hv:v'= .slice (some ⟨w.heap.size,0,none⟩) n cap) (hn:n<=cap) (hm:cap<=maxLen) (hw:w'=w.drew.alloc (.cells eR e)) (hs:eR.size=cap*k) (ht:eR.toList.take (n*k)=cx++cy)
theorem S9(hE:ak P E){T ty e:TypeId}{t:Ty}(hT:E.ty T=some (.sl e t))(hk:0<t.cells)(l9:E.bytes e≠0){xs ys:List (El t)}{vb vx:Value}{pl:Place}
 (bM:bg X pl e t.cells xs.length vb) {cx cy:List Value} (rx:aR X (.arr xs.length t) xs cx) (sx:∀g m c,vb= .slice (some ⟨g,0,none⟩) m c->∀(i:Nat) v,cx[i]? =some v->X.av ((⟨g,0,none⟩:Addr).add i) v)
 (ry:aR X (.arr ys.length t) ys cy) (hvx:∃A c,vx= .slice A ys.length c/\(A=none->ys=[])/\∀ad,A=some ad->∀(i:Nat) v,cy[i]? =some v->X.av (ad.add i) v)
 (hbound:(xs.length+ys.length)*E.bytes e<=140737488355328):
 ∃v' w',(Builtin.append_ #[T,T] ty #[vb,vx]).run P X.w= .ok v' w'/\Grown X.w w' e t.cells vb v' cx cy (xs.length+ys.length)/\(v'= .slice none 0 0->xs.length+ys.length=0):=by
 obtain⟨hu,he⟩:=(hE.ty T _ hT).cO
 obtain⟨i,hi,b8,eW,hz⟩:=(hE.ty e t he).info
 have hzs:(dp t (zp t)).cells.size=t.cells:=by rw[uQ (rV X t)];simp [sn]
 have uk:cx.length=xs.length*t.cells:=rx.2.1
 have qR:cy.length=ys.length*t.cells:=ry.2.1
 have h1:∀u∈cy,u.oneCell'=true:=ry.one
 have hle:xs.length+ys.length<=140737488355328:=Nat.le_trans (Nat.le_mul_of_pos_right _ (Nat.pos_of_ne_zero l9)) hbound
 have wF:xs.length+ys.length<=maxLen:=by simp only[maxLen];omega
 obtain⟨A,c,rfl,hA,hsy⟩:=hvx
 cases A with
 |none=>
  have pG:=hA rfl
  subst pG
  have P0:cy=[]:=List.eq_nil_of_length_eq_zero (by simpa using qR)
  subst P0
  rcases bM with⟨rfl,hn⟩|⟨g,cap,cur,rfl,hg,EG,pE,du,how⟩
  ·refine⟨.slice none 0 0,X.w,?_,.same rfl rfl rfl,fun _=>by simp [hn]⟩
   simp [Builtin.append_,run_underlying hu,sizeOf,typeInfo,hi,Builtin.lenOf,Builtin.firstCells]
  ·refine⟨_,X.w,?_,.same rfl rfl rfl,fun e=>by cases e⟩
   simp [Builtin.append_,run_underlying hu,sizeOf,typeInfo,hi,Builtin.lenOf,Builtin.firstCells,EG,storeCells]
 |some ad=>
  have Qf:∀j u,cy[j]? =some u->X.w.cell? (ad.add j)=some u:=fun j u hj=>(hsy ad rfl j u hj).2.1
  have kv:∀(old:Nat),(cx.toArray++cy.toArray++Builtin.zeroCells (dp t (zp t)).cells (grownCap X.w (xs.length+ys.length) old e-(xs.length+ys.length))).size=grownCap X.w (xs.length+ys.length) old e*t.cells/\
   (cx.toArray++cy.toArray++Builtin.zeroCells (dp t (zp t)).cells (grownCap X.w (xs.length+ys.length) old e-(xs.length+ys.length))).toList.take ((xs.length+ys.length)*t.cells)=cx++cy:=by
   intro old
   have J7:=grownCap_ge X.w (xs.length+ys.length) old e
   refine⟨?_,?_⟩
   ·simp only[Array.size_append,List.size_toArray,size_zeroCells,hzs,uk,qR,<-Nat.add_mul]
    congr 1
    omega
   ·have hl:(cx++cy).length=(xs.length+ys.length)*t.cells:=by rw[List.length_append,uk,qR,Nat.add_mul]
    rw[<-hl]
    simp only[Array.toList_append]
    exact List.take_left
  rcases bM with⟨rfl,hn⟩|⟨g,cap,cur,rfl,hg,EG,pE,du,how⟩
  ·have uc:cx=[]:=List.eq_nil_of_length_eq_zero (by rw[uk,hn,Nat.zero_mul])
   subst uc
   by_cases hm:ys.length=0
   ·have P0:cy=[]:=List.eq_nil_of_length_eq_zero (by rw[qR,hm,Nat.zero_mul])
    subst P0
    refine⟨.slice none 0 0,X.w,?_,.same rfl rfl rfl,fun _=>by omega⟩
    simp [Builtin.append_,run_underlying hu,sizeOf,typeInfo,hi,Builtin.lenOf,Builtin.firstCells,hm,loadCells,loadCellsFrom]
   ·have wX:xs.length=0:=hn
    rw[wX,Nat.zero_add] at hbound hle wF
    have hr:=run_append_nil (P:=P) X.w T ty e i (dp t (zp t)) hu hi hz ad ys.length c cy (by rw[b8];exact qR) Qf (by omega) (by omega) (by rw[eW];omega)
    obtain⟨c1,c2⟩:=kv 0
    have J7:=grownCap_ge X.w (xs.length+ys.length) 0 e
    have pE:=grownCap_le_maxLen X.w (xs.length+ys.length) 0 e (by rw[wX,Nat.zero_add];exact wF)
    refine⟨_,_,hr,.new (grownCap X.w (xs.length+ys.length) 0 e) _ (by rw[wX,Nat.zero_add]) J7 pE ?_ c1 c2,fun e=>by cases e⟩
    rw[wX,Nat.zero_add]
    simp
  ·by_cases lI:xs.length+ys.length<=cap
   ·have cM:xs.length*i.size+cy.length<=cur.size:=by rw[b8,qR,du,<-Nat.add_mul];exact Nat.mul_le_mul_right _ lI
    have hr:=run_append_room (P:=P) X.w T ty e i hu hi g xs.length cap cur hg ad ys.length c cy (by rw[b8];exact qR) Qf h1 lI cM
    refine⟨_,_,hr,.room g cap cur _ ⟨_,rfl⟩ hg rfl lI pE rfl ?_ ?_,fun e=>by cases e⟩
    ·simp only[List.size_toArray,List.length_append,List.length_take,List.length_drop,Array.length_toList]
     omega
    ·have lK:cur.toList.take (xs.length*i.size)=cx:=by
      rw[b8]
      apply List.ext_getElem?
      intro q
      by_cases hq:q<xs.length*t.cells
      ·rw[List.getElem?_take,if_pos hq]
       have EZ:=List.getElem?_eq_getElem (l:=cx) (i:=q) (by rw[uk];exact hq)
       have:=(sx g _ _ rfl q _ EZ).2.1
       rw[jw,Nat.zero_add] at this
       simp only[World.cell?,hg] at this
       rw[EZ]
       simpa using this
      ·rw[List.getElem?_eq_none (by rw[List.length_take];omega),List.getElem?_eq_none (by omega)]
     have hl:(cx++cy).length=(xs.length+ys.length)*t.cells:=by rw[List.length_append,uk,qR,Nat.add_mul]
     rw[lK,<-hl]
     simp only[List.take_left]
   ·have holds:∀j u,cx[j]? =some u->X.w.cell? ((⟨g,0,none⟩:Addr).add j)=some u:=fun j u hj=>(sx g _ _ rfl j u hj).2.1
    have hr:=run_append_grow (P:=P) X.w T ty e i (dp t (zp t)) hu hi hz ⟨g,0,none⟩ xs.length cap cx (by rw[b8];exact uk) holds ad ys.length c cy (by rw[b8];exact qR) Qf (by omega) (by omega) (growslice_fits (by omega) (by rw[eW];exact hbound))
    obtain⟨c1,c2⟩:=kv cap
    exact⟨_,_,hr,.new _ _ rfl (grownCap_ge _ _ _ _) (grownCap_le_maxLen _ _ _ _ wF) rfl c1 c2,fun e=>by cases e⟩
theorem bg.PR{X:ap}{s:State}{pl:Place}{e:TypeId}{k n:Nat}{v:Value}(h:bg X pl e k n v)(hf:¬ct s pl)(q:Place):∃Y,dd s X Y/\bg Y q e k n v:=by
 rcases h with h|⟨g,cap,cur,h1,h2,h3,h4,h5,h6⟩
 ·exact⟨X,dd.refl s X,.inl h⟩
 ·refine⟨{X with ow:=fun g'=>if g'=g then .row q (n*k) else X.ow g'},⟨rfl,rfl,fun g'=> ?_⟩,.inr ⟨g,cap,cur,h1,h2,h3,h4,h5,by simp⟩⟩
  by_cases e:g'=g
  ·subst e;exact .inr ⟨pl,_,q,h6,hf,by simp⟩
  ·exact .inl (by simp [e])
theorem acU{R:Type}{t t':Ty}{x:El t'}{w:List (List Nat)}{K:El t->Option R}{z:R}(h:(SV.ah t' x w).el t K=some z):∃he:t'.b7 t=true,K (Ty.cast he x)=some z:=by
 simp only[SV.el] at h
 split at h
 ·rename_i he;exact⟨he,h⟩
 ·cases h
theorem SJ(hE:ak P E)(hr:Rel X s a){ops:List Oper}{dL:Array Operand}{ts:Array TypeId}(ho:o.op= .call ⟨.builtin .append,dL,ts⟩){C:FuncId->bF Out}(h:act E C ops o s some=some u):aA P X s a o u:=by
 unfold act at h
 simp only[ho] at h
 split at h
 case h_2=>cases h
 rename_i b x T U oZ yu
 have has:dL= #[b,x]:=by rw[<-Array.toArray_toList (xs:=dL),oZ]
 have gj:ts= #[T,U]:=by rw[<-Array.toArray_toList (xs:=ts),yu]
 subst has gj
 have hb:=hr.ay b
 have hx:=hr.ay x
 unfold Ja at h
 split at h
 case isTrue=>cases h
 rename_i hTU
 have hTU:T=U:=by
  have:T.beq U=true:=by cases yx:Nat.beq T U<;>simp_all
  exact Nat.eq_of_beq_eq_true this
 subst hTU
 split at h
 case h_2=>cases h
 rename_i e t hT
 split at h
 case isTrue=>cases h
 rename_i h0
 have h0:Nat.beq (E.bytes e) 0=false/\Nat.beq t.cells 0=false:=by
  cases h1:Nat.beq (E.bytes e) 0<;>cases h2:Nat.beq t.cells 0<;>simp_all
 have l9:E.bytes e≠0:=fun e0=>by rw[e0] at h0;simp at h0
 have hk:0<t.cells:=by
  rcases Nat.eq_zero_or_pos t.cells with e0|e0
  ·rw[e0] at h0;simp at h0
  ·exact e0
 have key:∀(xs ys:List (El t)) (cl:List (Nat×Nat)) (pl:Place),¬ct (s.close cl) pl->bg X pl e t.cells xs.length (a.eval b)->aR X (.sl e t) xs [a.eval b]->aR X (.sl e t) ys [a.eval x]->
  (xs.length+ys.length)*E.bytes e<=140737488355328->aA P X s a o {v:=[.ah (.sl e t) (xs++ys:List (El t)) [[]]],cl:=cl}:=by
  intro xs ys cl pl Ba bM zG lR hbound
  obtain⟨A1,c1,wV,xk⟩:=zG
  have e1:a.eval b= .slice A1 xs.length c1:=by simpa using wV
  obtain⟨A2,c2,EX,Fe⟩:=lR
  have e2:a.eval x= .slice A2 ys.length c2:=by simpa using EX
  obtain⟨_,_,cx,rx,_,sx⟩:=z9n (X:=X) (e:=e) (show aR X (.sl e t) xs [.slice A1 xs.length c1] from⟨A1,c1,rfl,xk⟩)
  obtain⟨_,_,cy,ry,ny,sy⟩:=z9n (X:=X) (e:=e) (show aR X (.sl e t) ys [.slice A2 ys.length c2] from⟨A2,c2,rfl,Fe⟩)
  have sx':∀g m c,a.eval b= .slice (some ⟨g,0,none⟩) m c->∀(i:Nat) v,cx[i]? =some v->X.av ((⟨g,0,none⟩:Addr).add i) v:=by
   intro g m c hv
   rw[e1] at hv
   injection hv with hA
   exact sx _ hA
  obtain⟨v',w',aV,hgr,qT⟩:=S9 (ty:=o.type) hE hT hk l9 bM rx sx' ry ⟨A2,c2,e2,ny,sy⟩ hbound
  have uk:cx.length=xs.length*t.cells:=rx.2.1
  have qR:cy.length=ys.length*t.cells:=ry.2.1
  have ET:(execOp a.eval o).run P X.w= .ok (.value v') w':=by
   simp only[execOp,ho,resolve,invoke,builtin,Sem.run_bind,Sem.run_pure,Result.andThen_ok,List.map_toArray,List.map_cons,List.map_nil,aV]
  have fin:∀(Y:ap),Y.w=w'->Mod (s.close cl) X Y->aR Y (.arr (xs.length+ys.length) t) (xs++ys:List (El t)) (cx++cy)->bg Y (.c (o.dst.getD 0) 0 []) e t.cells (xs.length+ys.length) v'->
   aR Y (.sl e t) (xs++ys:List (El t)) [v']->aA P X s a o {v:=[.ah (.sl e t) (xs++ys:List (El t)) [[]]],cl:=cl}:=by
   intro Y hY hm eL ho2 yO
   refine⟨Y,v',.inl (by rw[hY];exact ET),hm.ext,((hr.close cl).mod hm).fin ⟨[v'],yO,rfl,Hf ?_⟩ (fun id t p yL=>by simp at yL)⟩
   rw[List.length_append]
   exact ho2
  cases hgr with
  |same h1 h2 h3=>
   subst h2
   have hy0:ys=[]:=by
    have:ys.length=0:=by
     rcases Nat.mul_eq_zero.1 (show ys.length*t.cells=0 by rw[<-qR,h3];rfl) with h|h
     ·exact h
     ·omega
    exact List.eq_nil_of_length_eq_zero this
   subst hy0
   obtain⟨Y,kR,hO2⟩:=bg.PR (s:=s.close cl) bM Ba (.c (o.dst.getD 0) 0 [])
   refine fin Y (by rw[kR.w,h1]) kR.mod ?_ (by simpa using hO2) ?_
   ·have:=(Bj rx ry)
    exact this.al (fun _ _=>kR.av.1)
   ·rw[List.append_nil]
    exact aR.al (fun _ _=>kR.av.1) (show aR X (.sl e t) xs [a.eval b] from⟨A1,c1,wV,xk⟩)
  |new cap eR hv hn hm hw hs ht=>
   let Y:ap:=⟨w',fun g=>if g=X.w.heap.size then .row (.c (o.dst.getD 0) 0 []) ((xs.length+ys.length)*t.cells) else X.ow g,X.β⟩
   have ug:eC (s.close cl) X Y:=⟨by simp [Y,hw],by simp only[Y,hw];rfl,by simp only[Y,hw];rfl,by simp only[Y,hw];rfl,fun g hg=>⟨by simp only[Y];rw[if_neg (by omega)],by simp only[Y,hw];exact RowKit.Below.heap_alloc _ _ _ hg⟩,rfl,fun _ _ _=>rfl⟩
   have aF:Y.w.heap[X.w.heap.size]? =some (.cells eR e (0,0)):=by simp only[Y,hw];exact heap_alloc_new X.w.drew _
   have how:Y.ow X.w.heap.size= .row (.c (o.dst.getD 0) 0 []) ((xs.length+ys.length)*t.cells):=by simp [Y]
   have aJ:=(Bj rx ry).al (fun _ _=>ug.av)
   refine fin Y rfl ug.mod aJ (.inr ⟨_,cap,eR,hv,aF,hn,hm,hs,how⟩) ?_
   rw[hv,<-List.length_append]
   exact zg9 (cs:=cx++cy) aF (by rw[List.length_append];exact how) (by rw[List.length_append];exact ht) (by rw[List.length_append];exact aJ) (by rw[List.length_append];exact hn)
  |room g cap cur eR qI hg hv hn hm hw hs ht=>
   obtain⟨m,yz⟩:=qI
   rcases bM with⟨hz,_⟩|⟨g',tT,Ed,mc,A7,EG,pE,du,how⟩
   ·rw[hz] at yz;cases yz
   have yG:g'=g:=by rw[yz] at mc;injection mc with h1;injection h1 with h1;injection h1 with h1;exact h1.symm
   subst yG
   have PZ:Ed=cur:=by rw[hg] at A7;cases A7;rfl
   subst PZ
   have ar:=BS hg
   let Y:ap:=⟨w',fun k=>if k=g' then .row (.c (o.dst.getD 0) 0 []) ((xs.length+ys.length)*t.cells) else X.ow k,X.β⟩
   have aF:Y.w.heap[g']? =some (.cells eR e (0,0)):=by simp only[Y,hw];exact setRow_heap X.w g' Ed eR e (0,0) hg
   have mO:Y.ow g'= .row (.c (o.dst.getD 0) 0 []) ((xs.length+ys.length)*t.cells):=by simp [Y]
   have wS:∀ad v,X.av ad v->Y.av ad v:=by
    intro ad v jt
    by_cases heq:ad.block=g'
    ·obtain⟨k1,k2,k3⟩:=jt
     rw[heq,how] at k3
     have k3:ad.off<xs.length*t.cells:=k3
     have had:ad=(⟨g',0,none⟩:Addr).add ad.off:=by rw[jw,Nat.zero_add];cases ad;simp_all
     have EZ:=List.getElem?_eq_getElem (l:=cx) (i:=ad.off) (by rw[uk];exact k3)
     have uc:=(sx' g' _ _ yz ad.off _ EZ).2.1
     rw[<-had,k2] at uc
     refine⟨k1,?_,?_⟩
     ·have hq:eR.toList[ad.off]? =some v:=by
       have:=congrArg (fun l=>l[ad.off]?) ht
       simp only[List.getElem?_take] at this
       have hle:xs.length*t.cells<=(xs.length+ys.length)*t.cells:=Nat.mul_le_mul_right _ (Nat.le_add_right _ _)
       rw[if_pos (by omega),List.getElem?_append_left (by rw[uk];exact k3),EZ] at this
       rw[this];exact uc.symm
      simp only[World.cell?,heq,aF,k1]
      simpa using hq
     ·rw[heq,mO]
      have hle:xs.length*t.cells<=(xs.length+ys.length)*t.cells:=Nat.mul_le_mul_right _ (Nat.le_add_right _ _)
      show ad.off<_
      omega
    ·refine⟨jt.1,?_,?_⟩
     ·have:=jt.2.1
      simp only[World.cell?,Y,hw] at this⊢
      rw[setRow_other X.w g' ad.block eR heq]
      exact this
     ·simp only[Y]
      rw[if_neg heq]
      exact jt.2.2
   have yM:Mod (s.close cl) X Y:=⟨wS,by simp [Y,hw],by simp only[Y,hw];rfl,by simp only[Y,hw];rfl,by simp only[Y,hw];rfl,rfl,fun _ _ _=>rfl,fun k hk=>by
    by_cases heq:k=g'
    ·subst heq;exact .inr ⟨pl,_,how,Ba⟩
    ·refine .inl ⟨by simp only[Y];rw[if_neg heq],?_⟩
     simp only[Y,hw]
     exact setRow_other X.w g' k eR heq⟩
   have aJ:=(Bj rx ry).al wS
   refine fin Y rfl yM aJ (.inr ⟨_,cap,eR,hv,aF,hn,hm,hs,mO⟩) ?_
   rw[hv,<-List.length_append]
   exact zg9 (cs:=cx++cy) aF (by rw[List.length_append];exact mO) (by rw[List.length_append];exact ht) (by rw[List.length_append];exact aJ) (by rw[List.length_append];exact hn)
 split at h
 ·rename_i jr
  rw[jr] at hb
  obtain⟨ys,h,pG⟩:=zz h
  cases hd:decide (List.length ys*E.bytes e<=140737488355328) with
  |false=>rw[hd] at h;cases h
  |true=>
   rw[hd] at h
   cases h
   obtain⟨cs,lR,ev⟩:=pG X _ _ hx
   have yz:a.eval b= .slice none 0 0:=hb
   have qV:cs=[a.eval x]:=by
    obtain⟨A,c,du,_⟩:=lR
    rw[ev,du];rfl
   have:=key [] ys [] (.r 0 []) (fun hf=>hf) (.inl ⟨yz,rfl⟩) (by rw[yz];exact⟨none,0,rfl,Nat.le_refl _,fun j x hj=>by simp at hj⟩) (by rw[<-qV];exact lR) (by simpa using of_decide_eq_true hd)
   simpa using this
 ·rename_i t' xs0 uC jr
  rw[jr] at hb
  split at h
  case isTrue=>cases h
  rename_i Et
  have Et:mh uC []=true:=by cases yx:mh uC []<;>simp_all
  obtain⟨heq,h⟩:=acU h
  have:=Ty.aH heq
  subst this
  obtain⟨ys,h,pG⟩:=zz h
  cases hd:decide ((List.length (Ty.cast heq xs0)+List.length ys)*E.bytes e<=140737488355328) with
  |false=>rw[hd] at h;cases h
  |true=>
   rw[hd] at h
   cases h
   obtain⟨cs,lR,ev⟩:=pG X _ _ hx
   have fx:=Tr Et
   obtain⟨i,rfl⟩:=abn jr (fun e=>by rw[e] at fx;cases fx)
   obtain⟨cs1,r1,ev1,hO⟩:=hb
   have qV:cs=[a.eval x]:=by
    obtain⟨A,c,du,_⟩:=lR
    rw[ev,du];rfl
   have wP:cs1=[a.eval (.tmp i)]:=by
    obtain⟨A,c,du,_⟩:=r1
    rw[ev1,du];rfl
   obtain⟨e',t'',xs',v',_,g1,g2,g3⟩:=hO [] fx
   simp only[El.get,Option.some.injEq,Sigma.mk.injEq,Ty.sl.injEq] at g1
   obtain⟨⟨rfl,rfl⟩,g1⟩:=g1
   cases g1
   have mc:v'=a.eval (.tmp i):=by
    rw[wP] at g2
    simpa [Ty.off] using g2.symm
   rw[mc] at g3
   exact key xs0 ys [(i,0)] (.c i 0 []) ct.close g3 (by rw[<-wP];exact r1) (by rw[<-qV];exact lR) (of_decide_eq_true hd)
 ·cases h
end Go.Ref

namespace Go.Ref
open Go
variable {P:Program} {E:Env} {X:ap} {s:State} {a:Act} {o:Oper} {u:Out}
def ap.obj(X:ap)(r:Nat)(b:Obj):ap:={X with w:={X.w with heap:=X.w.heap.setIfInBounds r b}}
theorem Im{r g:Nat}{b:Obj}(h:g≠r):(X.obj r b).w.heap[g]? =X.w.heap[g]? :=by
 simp [ap.obj,Ne.symm h]
theorem F8{r:Nat}{b b':Obj}(h:X.w.heap[r]? =some b'):(X.obj r b).w.heap[r]? =some b:=(MapKept.heap_set h).1
theorem Ag{r id:Nat}{b:Obj}(h:X.ow r= .box id){ad:Addr}{v:Value}(hs:X.av ad v):(X.obj r b).av ad v:=by
 have bZ:ad.block≠r:=fun e=>by
  have:=hs.2.2
  rw[e,h] at this
  exact this
 refine⟨hs.1,?_,hs.2.2⟩
 have:=hs.2.1
 simp only[World.cell?] at this⊢
 rw[Im bZ]
 exact this
theorem Hc{r id:Nat}{b:Obj}(h:X.ow r= .box id):Ext X (X.obj r b) where
 av:=fun _ _=>Ag h
 size:=by simp [ap.obj]
 os:=rfl
 tape:=rfl
 output:=rfl
 β0:=rfl
 still:=fun g _ cp=>by
  have bZ:g≠r:=fun e=>by rw[e,h] at cp;exact cp
  exact⟨rfl,Im bZ⟩
theorem bg.obj{r id:Nat}{b:Obj}(h:X.ow r= .box id){pl:Place}{e:TypeId}{k n:Nat}{v:Value}(ho:bg X pl e k n v):bg (X.obj r b) pl e k n v:=by
 rcases ho with ho|⟨g,cap,cur,h1,h2,h3,h4,h5,h6⟩
 ·exact .inl ho
 ·have bZ:g≠r:=fun e=>by rw[e,h] at h6;cases h6
  exact .inr ⟨g,cap,cur,h1,(Im bZ).trans h2,h3,h4,h5,h6⟩
theorem bf.obj{r id:Nat}{b:Obj}(h:X.ow r= .box id){pl:List Nat->Place}{t:Ty}{x:El t}{c:List Value}{own:List (List Nat)}(ho:bf X pl t x c own):bf (X.obj r b) pl t x c own:=fun p hp=>by
 obtain⟨e,t',xs,v,g0,g1,g2,g3⟩:=ho p hp
 exact⟨e,t',xs,v,g0,g1,g2,g3.obj h⟩
theorem au.obj{r id:Nat}{b:Obj}(h:X.ow r= .box id){pl:List Nat->Place}{sv:SV}{v:Value}(hr:au X pl sv v):au (X.obj r b) pl sv v:=by
 cases sv with
 |ah t x own=>
  obtain⟨c,h1,h2,h3⟩:=hr
  exact⟨c,h1.al (fun _ _=>Ag h),h2,h3.obj h⟩
 |view t x=>
  obtain⟨ad,c,h1,h2,h3,h4⟩:=hr
  exact⟨ad,c,h1,h2,h3.al (fun _ _=>Ag h),fun i u hi=>Ag h (h4 i u hi)⟩
 |cap f t x u y=>exact sA (fun _ _=>Ag h) hr
 |_=>exact hr
theorem Rel.obj{r id:Nat}{B B':bk}{b:Obj}(hr:Rel X s a)(hb:s.bs[id]? =some (some B))(hβ:X.β id=some r)(h:X.ow r= .box id)(hB:bA (X.obj r b) id r B'):Rel (X.obj r b) (s.aC (some (id,B'))) a where
 size:=hr.size
 gD:=by simpa [State.aC] using hr.gD
 bH:=fun i l v hl hv=>(hr.bH i l v hl hv).jF fun j sv u hm jt=>jt.obj h
 boxes:=fun bT B2 cP=>by
  have ar:id<s.bs.length:=(List.getElem?_eq_some_iff.1 hb).1
  simp only[State.aC,List.getElem?_set] at cP
  by_cases e:id=bT
  ·subst e
   rw[if_pos rfl,if_pos ar] at cP
   cases cP;exact⟨r,hβ,hB⟩
  ·rw[if_neg e] at cP
   obtain⟨r',h1,h4,h2⟩:=hr.boxes bT B2 cP
   have bZ:r'≠r:=fun e2=>by rw[e2,h] at h4;cases h4;exact e rfl
   exact⟨r',h1,h4,h2.move (fun _ _=>Ag h) (Im bZ) (fun cs h5=>h5.obj h) fun _ g o ho hw=>⟨(Im (fun e3=>by rw[e3,h] at hw;cases hw)).trans ho,hw⟩⟩
 live:=fun i l bT t p hi hm=>by
  have ar:id<s.bs.length:=(List.getElem?_eq_some_iff.1 hb).1
  obtain⟨B2,cP⟩:=hr.live i l bT t p hi hm
  simp only[State.aC,List.getElem?_set]
  by_cases e:id=bT
  ·subst e;exact⟨B',by rw[if_pos rfl,if_pos ar]⟩
  ·rw[if_neg e];exact⟨B2,cP⟩
 defers:=hr.defers
def ap.jH(X:ap)(b:Obj)(w:Ow)(β:Nat->Option Nat):ap:={w:=X.w.alloc b,ow:=fun g=>if g=X.w.heap.size then w else X.ow g,β}
theorem zxb(X:ap)(s:State)(b:Obj)(w:Ow)(β:Nat->Option Nat)(hβ0:β 0=X.β 0)(hβ:∀(id:Nat) B,s.bs[id]? =some (some B)->β id=X.β id):eC s X (X.jH b w β) where
 size:=by simp [ap.jH]
 os:=rfl
 tape:=rfl
 output:=rfl
 l7:=fun g hg=>⟨by simp only[ap.jH];rw[if_neg (by omega)],RowKit.Below.heap_alloc _ _ _ hg⟩
 β0:=hβ0
 β:=hβ
theorem zff(hr:Rel X s a){t p:Ty}{x:El t}{b:Obj}{v:Value}(aV:(execOp a.eval o).run P X.w= .ok (.value v) (X.w.alloc b))
 (Eu:∀Y:ap,(∀ad v,X.av ad v->Y.av ad v)->Y.w.heap[X.w.heap.size]? =some b->∀pl,cY Y X.w.heap.size pl t x []) (qY:mS p [] X.w.heap.size v) (h:jh s o.dst t x p some=some u):aA P X s a o u:=by
 unfold jh at h
 split at h
 case h_2=>cases h
 rename_i d hd
 split at h
 case h_2=>cases h
 rename_i hb
 cases h
 let β:Nat->Option Nat:=fun id=>if id=d+1 then some X.w.heap.size else X.β id
 have ar:d+1<s.bs.length:=(List.getElem?_eq_some_iff.1 hb).1
 have hk:eC s X (X.jH b (.box (d+1)) β):=zxb X _ _ _ _ (by show(if _ then _ else _)=_;rw[if_neg (by omega)]) (fun id B hB=>by
  show(if id=d+1 then _ else _)=_
  rw[if_neg (fun e=>by rw[e,hb] at hB;cases hB)])
 have bV:bA (X.jH b (.box (d+1)) β) (d+1) X.w.heap.size ⟨t,x,[]⟩:=⟨by simp [ap.jH],Eu _ (fun _ _=>hk.av) (heap_alloc_new X.w _) _⟩
 have hβd:β (d+1)=some X.w.heap.size:=by show(if d+1=d+1 then _ else _)=_;rw[if_pos rfl]
 have eL:=(hr.cZ hk).fT ar hb hβd bV
 refine⟨X.jH b (.box (d+1)) β,v,.inl aV,hk.ext,?_⟩
 rw[hd]
 refine eL.put (fun d' e=> ?_) (fun id t' q hm=> ?_)
 ·cases e
  exact⟨X.w.heap.size,hβd,qY⟩
 ·have:id=d+1:=by have:=hm;simp at this;exact this.1
  subst this
  exact⟨⟨t,x,[]⟩,by simp [State.aC,List.getElem?_set,ar]⟩
def je:(t:Ty)->El t->Value
 | .bool,b=> .bool b
 | .int k,n=> .int k n
 | .str,x=> .string x
 |_,_=>Go.undef
def Ty.gl:Ty->Bool
 | .bool| .int _| .str=>true
 |_=>false
theorem zmx{t:Ty}(hk:t.gl=true){x:El t}{v:Value}(h:dt X t x v):v=je t x:=by
 obtain⟨cs,h1,h2⟩:=h
 cases t<;>simp [Ty.gl] at hk
 ·rw[h2,sE h1];rfl
 ·rw[h2,kg h1];rfl
 ·rw[h2,l4 h1];rfl
theorem HR{T:TypeId}{t:Ty}(hE:ak P E)(hT:E.ty T=some t)(hk:t.gl=true)(x:El t):∃d,P.underlying T=some d/\MapKept.IsKey d (je t x)/\∀y,Instr.sameNow d (je t x) (je t y)=some (eU t x y):=by
 have hu:=(hE.ty T t hT).cO
 cases t<;>simp [Ty.gl] at hk
 ·have hu:P.underlying T=some .bool:=hu
  exact⟨_,hu,trivial,fun y=>by cases x<;>cases y<;>rfl⟩
 ·have hu:P.underlying T=some (.int _):=hu
  refine⟨_,hu,by simp [MapKept.IsKey,je],fun y=> ?_⟩
  simp only[Instr.sameNow,je,if_true,eU]
  congr 1
 ·have hu:P.underlying T=some .string:=hu
  refine⟨_,hu,trivial,fun y=> ?_⟩
  simp only[Instr.sameNow,je,eU]
  congr 1
  by_cases e:x=y
  ·rw[decide_eq_true e];exact(MapKept.bytes_beq _ _).2 e
  ·rw[decide_eq_false e]
   cases hb:(x==y) with
   |false=>rfl
   |true=>exact absurd ((MapKept.bytes_beq _ _).1 hb) e
theorem z116{kt vt:Ty}{d:TypeDesc}{k:El kt}(hk:kt.gl=true)(hs:∀y,Instr.sameNow d (je kt k) (je kt y)=some (eU kt k y)):∀(es:List MapEntry) (xs:List (El kt×El vt)) (i:Nat),es.length=xs.length->
 (∀(i:Nat) q e,xs[i]? =some q->es[i]? =some e->dt X kt q.1 e.key/\dt X vt q.2 e.val)->
 (dS (eU kt) xs k=false/\dR (eU kt) (El.bI vt) xs k=El.bI vt/\Instr.findNow d (je kt k) es i=some none)\/(dS (eU kt) xs k=true/\∃j v,Instr.findNow d (je kt k) es i=some (some (j,v))/\dt X vt (dR (eU kt) (El.bI vt) xs k) v)
 | [],[],i,_,_=> .inl ⟨rfl,rfl,rfl⟩
 |e::es,q::xs,i,hl,hp=>by
  obtain⟨h1,h2⟩:=hp 0 q e rfl rfl
  have hke:=zmx hk h1
  have nZ:=hs q.1
  rw[<-hke] at nZ
  simp only[Instr.findNow,nZ,dS,dR]
  cases heq:eU kt k q.1 with
  |true=>exact .inr ⟨rfl,i,e.val,rfl,h2⟩
  |false=>exact z116 hk hs es xs (i+1) (by simpa using hl) (fun i q e hq he=>hp (i+1) q e (by simpa using hq) (by simpa using he))
 | [],_::_,_,hl,_=>by simp at hl
 |_::_,[],_,hl,_=>by simp at hl
theorem zqv:∀{t:Ty},t.fS=true->t.depth<=2
 | .unit,_=>by decide
 | .pair (.int _) b,h=>by
   have:=zqv (t:=b) h
   simp only[Ty.depth];omega
theorem G6:∀{t:Ty},t.fS=true->∀x y:El t,cS t x y=some (se t x y)
 | .unit,_,_,_=>rfl
 | .pair (.int _) b,h,x,y=>by
   have:=G6 (t:=b) h x.2 y.2
   simp only[cS,this,se]
theorem fL(hE:ak P E){xs:Array Value}(w:World)(em:Bool)(n:Nat):
 ∀(fl:List Field) (t:Ty) (off:Nat),ia E fl t off->t.fS=true->∀(x:El t) (c1:List Value),aR X t x c1->(xs.toList.drop off).take t.cells=c1->
  (forIn fl () fun(f:Field) (_:Unit)=>(if f.name≠ "_" then do
    let __do_lift<-part f.type xs f.offset
    Instr.checkKey em (n+1) f.type __do_lift
    pure (ForInStep.yield ()) else pure (ForInStep.yield ()):Sem (ForInStep Unit))).run P w= .ok () w:=by
 intro fl
 induction fl with
 |nil=>intro t off hf hi x c1 h1 h3;simp [List.forIn_nil]
 |cons f fl QF=>
  intro t off hf hi x c1 h1 h3
  cases t<;>simp only[ia] at hf<;>try exact hf.elim
  rename_i ta tb
  obtain⟨ho,Bb,hn,ey⟩:=hf
  obtain⟨ca,cb,e1,ra,rb⟩:=h1
  have la:=ra.len
  have t1:(xs.toList.drop off).take ta.cells=ca:=by
   have:=congrArg (fun l=>l.take ta.cells) (h3.trans e1)
   simp only[List.take_take,Ty.cells] at this
   rw[Nat.min_eq_left (Nat.le_add_right _ _),<-la,List.take_left] at this
   rw[<-la];exact this
  have u1:(xs.toList.drop (off+ta.cells)).take tb.cells=cb:=by
   have:=congrArg (fun l=>l.drop ta.cells) (h3.trans e1)
   simp only[Ty.cells] at this
   rw[List.drop_take,Nat.add_sub_cancel_left,List.drop_drop,<-la,List.drop_left] at this
   rw[<-la];exact this
  have mP:=Ah hE Bb ra (all:=xs) (off:=f.offset) (by rw[ho];exact t1) w
  cases ta<;>simp [Ty.fS] at hi
  rename_i k
  have hu:P.underlying f.type=some (.int k):=(hE.ty f.type _ Bb).cO
  have A4:(Instr.checkKey em (n+1) f.type (dp (.int k) ca)).run P w= .ok () w:=by
   rw[kg ra]
   exact MapKept.run_checkKey hu (by simp [MapKept.IsKey]) em n
  rw[List.forIn_cons]
  simp only[hn,ne_eq,not_false_eq_true,if_true,Sem.run_bind,mP,A4,Result.andThen_ok,Sem.run_pure]
  exact QF tb _ ey hi x.2 cb rb u1
theorem zxc{T:TypeId}{t:Ty}(hE:ak P E)(hT:E.ty T=some t)(hk:t.isKey=true){x:El t}{v:Value}(h:dt X t x v)(em:Bool)(w:World):(Instr.checkKey em 10000 T v).run P w= .ok () w:=by
 cases h1:t.gl with
 |true=>
  obtain⟨d,hd,J9,_⟩:=HR hE hT h1 x
  rw[zmx h1 h]
  exact MapKept.run_checkKey hd J9 em 9999
 |false=>
  have hu:=(hE.ty T t hT).cO
  cases t<;>simp [Ty.isKey,Ty.gl] at hk h1
  rename_i ta tb
  obtain⟨fs,iu,jc,Kg,_⟩:=hu
  obtain⟨cs,hr,rfl⟩:=h
  rw[iz rfl]
  unfold Instr.checkKey
  simp only[Sem.run_bind,run_underlying iu,Result.andThen_ok]
  rw[<-Array.forIn_toList]
  have:=fL (X:=X) hE (xs:=cs.toArray) w em 9998 fs.toList (.pair ta tb) 0 jc hk x cs hr (by have:=hr.len;simp only[List.drop_zero];rw[<-this];exact List.take_length)
  exact(congrArg (fun r=>Result.andThen r (fun a w'=>Sem.run P (pure ()) w')) this).trans (by simp)
theorem zkq(hE:ak P E){T:TypeId}{kt vt:Ty}(hT:E.ty T=some kt)(hk:kt.fS=true){k:El kt}{v:Value}(h:dt X kt k v)(w:World):∀(es:List MapEntry) (xs:List (El kt×El vt)) (i:Nat),es.length=xs.length->
 (∀(i:Nat) q e,xs[i]? =some q->es[i]? =some e->dt X kt q.1 e.key/\dt X vt q.2 e.val)->
 (dS (se kt) xs k=false/\dR (se kt) (El.bI vt) xs k=El.bI vt/\(Instr.findAsking T v es i).run P w= .ok none w)\/(dS (se kt) xs k=true/\∃j u,(Instr.findAsking T v es i).run P w= .ok (some (j,u)) w/\dt X vt (dR (se kt) (El.bI vt) xs k) u)
 | [],[],i,_,_=> .inl ⟨rfl,rfl,by simp [Instr.findAsking]⟩
 |e::es,q::xs,i,hl,hp=>by
  obtain⟨h1,h2⟩:=hp 0 q e rfl rfl
  obtain⟨c1,r1,rfl⟩:=h
  obtain⟨c2,r2,e2⟩:=h1
  have heq:(Op.equal T (dp kt c1) e.key).run P w= .ok (se kt k q.1) w:=by
   rw[e2]
   exact zwv (X:=X) hE w 10000 kt T hT (Nat.le_trans (zqv hk) (by decide)) k q.1 c1 c2 _ r1 r2 (G6 hk k q.1)
  unfold Instr.findAsking
  simp only[Sem.run_bind,heq,Result.andThen_ok,dS,dR]
  cases heq:se kt k q.1 with
  |true=>exact .inr ⟨rfl,i,e.val,by simp,h2⟩
  |false=>exact zkq hE hT hk ⟨c1,r1,rfl⟩ w es xs (i+1) (by simpa using hl) (fun i q e hq he=>hp (i+1) q e (by simpa using hq) (by simpa using he))
 | [],_::_,_,hl,_=>by simp at hl
 |_::_,[],_,hl,_=>by simp at hl
theorem F1(hE:ak P E){T:TypeId}{kt vt:Ty}(hT:E.ty T=some kt)(hk:kt.isKey=true){k:El kt}{v:Value}(h:dt X kt k v)(w:World)(es:List MapEntry)(xs:List (El kt×El vt))(hl:es.length=xs.length)
 (hp:∀(i:Nat) q e,xs[i]? =some q->es[i]? =some e->dt X kt q.1 e.key/\dt X vt q.2 e.val):
 (dS (eU kt) xs k=false/\dR (eU kt) (El.bI vt) xs k=El.bI vt/\(Instr.findKey T v es).run P w= .ok none w)\/(dS (eU kt) xs k=true/\∃j u,(Instr.findKey T v es).run P w= .ok (some (j,u)) w/\dt X vt (dR (eU kt) (El.bI vt) xs k) u):=by
 cases h1:kt.gl with
 |true=>
  obtain⟨d,hd,J9,nZ⟩:=HR hE hT h1 k
  rw[zmx h1 h]
  rcases z116 (X:=X) h1 nZ es xs 0 hl hp with⟨g1,g2,g3⟩|⟨g1,j,u,g3,g4⟩
  ·exact .inl ⟨g1,g2,MapKept.run_findKey hd g3⟩
  ·exact .inr ⟨g1,j,u,MapKept.run_findKey hd g3,g4⟩
 |false=>
  have hu:=(hE.ty T kt hT).cO
  cases kt<;>simp [Ty.isKey,Ty.gl] at hk h1
  rename_i ta tb
  obtain⟨fs,iu,_⟩:=hu
  have e:=run_findKey_eq (P:=P) w (k:=T) (by rw[iu]) v es
  have:=zkq (X:=X) hE hT hk h w es xs 0 hl hp
  rw[e]
  exact this
theorem zr1{T:TypeId}{kt vt:Ty}(hE:ak P E)(h:lN E T=some (kt,vt)):∃k e,P.underlying T=some (.map k e)/\E.ty k=some kt/\E.ty e=some vt/\kt.isKey=true:=by
 unfold lN at h
 split at h
 case h_2=>cases h
 rename_i k e hm
 split at h
 case h_2=>cases h
 rename_i QG R7 h1 h2
 split at h
 case isFalse=>cases h
 rename_i hk
 cases h
 exact⟨k,e,hE.mp T k e hm,h1,h2,hk⟩
theorem zkz{m:Operand}{kt vt:Ty}{R:Type}{K:Nat->List (El kt×El vt)->Option R}{z:R}(hr:Rel X s a)(h:sM s (s.ay m) kt vt K=some z):
 ∃id B r xs,K id xs=some z/\s.bs[id]? =some (some B)/\X.β id=some r/\X.ow r= .box id/\a.eval m= .map (some r)/\∃es clock,X.w.heap[r]? =some (.map es clock)/\es.size=xs.length/\
  ∀(i:Nat) (q:El kt×El vt) (e:MapEntry),xs[i]? =some q->es[i]? =some e->dt X kt q.1 e.key/\dt X vt q.2 e.val:=by
 have hx:=hr.ay m
 unfold sM at h
 split at h
 case h_2=>cases h
 rename_i id QG R7 hm
 rw[hm] at hx
 obtain⟨r,hβ,hv⟩:=hx
 split at h
 case isFalse=>cases h
 split at h
 case h_2=>cases h
 rename_i B hB
 split at h
 case isFalse=>cases h
 rename_i dx
 have hb:=pI hB
 obtain⟨r',h1,h2,h3⟩:=hr.boxes id B hb
 rw[hβ] at h1
 cases h1
 refine⟨id,B,r,_,h,hb,hβ,h2,hv,?_⟩
 obtain⟨bt,bx,bo⟩:=B
 have e:=Ty.aH dx
 simp only at e
 subst e
 exact h3
theorem Sl(hE:ak P E)(hr:Rel X s a){ops:List Oper}{T:TypeId}{rs:Option Operand}(ho:o.op= .makeMap T rs){C:FuncId->bF Out}(h:act E C ops o s some=some u):aA P X s a o u:=by
 unfold act at h
 cases rs with
 |some r=>simp only[ho] at h;cases h
 |none=>
  simp only[ho] at h
  split at h
  case h_2=>cases h
  rename_i kt vt hm
  refine zff hr (t:= .aT .mp kt vt) (p:= .aT .mp kt vt) (x:=([]:List (El kt×El vt))) (b:= .map #[] 0) (v:= .map (some X.w.heap.size)) ?_ (fun Y _ hY pl=>⟨#[],0,hY,rfl,fun i q e hq=>by simp at hq⟩) rfl h
  simp [execOp,ho,Instr.makeMap]
theorem SL(hE:ak P E)(hr:Rel X s a){ops:List Oper}{T:TypeId}{x i:Operand}{ok:Bool}(ho:o.op= .lookup T x i ok){C:FuncId->bF Out}(h:act E C ops o s some=some u):aA P X s a o u:=by
 unfold act at h
 cases ok with
 |true=>simp only[ho] at h;cases h
 |false=>
  simp only[ho] at h
  unfold j8 at h
  split at h
  case h_2=>cases h
  rename_i kt vt hm
  obtain⟨k,e,hu,hk,he,qM⟩:=zr1 hE hm
  obtain⟨id,B,r,xs,h,hb,hβ,how,hv,es,clock,aF,di,dF⟩:=zkz hr h
  obtain⟨key,h,P9⟩:=zz h
  cases h
  obtain⟨ck,rk,evk⟩:=P9 X _ _ (hr.ay i)
  have A4:=zxc hE hk qM (X:=X) (x:=key) ⟨ck,rk,evk⟩ es.isEmpty X.w
  rcases F1 (X:=X) hE hk qM (k:=key) ⟨ck,rk,evk⟩ X.w es.toList xs (by simpa using di) (fun i q e hq he=>dF i q e hq (by simpa using he)) with⟨g1,g2,hf⟩|⟨g1,j,v,hf,g4⟩
  ·rw[g2]
   have hz:=K3 (P:=P) hE he X.w
   refine aA.plain hr (v:=dp vt (zp vt)) ?_ (AA (rV X vt)) (fun _ _ _ e'=>by cases e')
   simp only[execOp,ho,Sem.run_bind,Instr.lookup,run_underlying hu,Result.andThen_ok,hv,MapKept.run_getObj_map aF,Sem.run_pure,A4,hf,hz,Bool.false_eq_true,if_false]
  ·obtain⟨cv,rv,ev⟩:=g4
   refine aA.plain hr (v:=v) ?_ ⟨cv,rv,ev,lZ⟩ (fun _ _ _ e'=>by cases e')
   simp only[execOp,ho,Sem.run_bind,Instr.lookup,run_underlying hu,Result.andThen_ok,hv,MapKept.run_getObj_map aF,Sem.run_pure,A4,hf,Bool.false_eq_true,if_false]
theorem FK(hE:ak P E)(hr:Rel X s a){T:TypeId}{m k x:Operand}(ho:(execOp a.eval o).run P X.w=((Instr.mapUpdate T (a.eval m) (a.eval k) (a.eval x)).run P X.w).andThen fun _ w=> .ok .skip w)(h:kH E T s (s.ay m) (s.ay k) (s.ay x) some=some u):aA P X s a o u:=by
 unfold kH at h
 split at h
 case h_2=>cases h
 rename_i kt vt hm
 obtain⟨kT,eT,hu,hk,he,qM⟩:=zr1 hE hm
 obtain⟨id,B,r,xs,h,hb,hβ,how,hv,es,clock,aF,di,dF⟩:=zkz hr h
 obtain⟨key,h,P9⟩:=zz h
 obtain⟨y,h,hyv⟩:=zz h
 obtain⟨ck,rk,yq⟩:=P9 X _ _ (hr.ay k)
 obtain⟨cy,ry,PN⟩:=hyv X _ _ (hr.ay x)
 have A4:=zxc hE hk qM (X:=X) (x:=key) ⟨ck,rk,yq⟩ false X.w
 rcases F1 (X:=X) hE hk qM (k:=key) ⟨ck,rk,yq⟩ X.w es.toList xs (by simpa using di) (fun i q e hq he=>dF i q e hq (by simpa using he)) with⟨g1,g2,hf⟩|⟨g1,j,v,hf,g4⟩
 ·rw[g1] at h
  cases h
  let new:Obj:= .map (es.push {key:=a.eval k,val:=a.eval x,born:=clock}) (clock+1)
  have aV:(execOp a.eval o).run P X.w= .ok .skip (X.obj r new).w:=by
   rw[ho]
   simp only[Instr.mapUpdate,Sem.run_bind,run_underlying hu,Result.andThen_ok,hv,MapKept.run_getObj_map aF,A4,hf,MapKept.run_setObj_map _ aF]
   simp only[new]
   rfl
  have bV:bA (X.obj r new) id r ⟨.aT .mp kt vt,(xs++ [(key,y)]:List (El kt×El vt)),[]⟩:=by
   refine⟨how,es.push {key:=a.eval k,val:=a.eval x,born:=clock},clock+1,F8 aF,by simp [di],fun i q e hq he=> ?_⟩
   have hs:∀ad v,X.av ad v->(X.obj r new).av ad v:=fun _ _=>Ag how
   have hq:(xs++ [(key,y)])[i]? =some q:=hq
   rw[List.getElem?_append] at hq
   rw[Array.getElem?_push] at he
   split at hq
   ·rename_i ar
    rw[if_neg (by omega)] at he
    obtain⟨j1,j2⟩:=dF i q e hq he
    exact⟨j1.mono hs,j2.mono hs⟩
   ·rename_i ar
    have hi:i-xs.length=0:=by
     have:=(List.getElem?_eq_some_iff.1 hq).1
     simp at this
     omega
    rw[hi] at hq
    cases hq
    rw[if_pos (by omega)] at he
    cases he
    exact⟨dt.mono hs ⟨ck,rk,yq⟩,dt.mono hs ⟨cy,ry,PN⟩⟩
  exact⟨X.obj r new,Go.undef,.inr ⟨aV,rfl⟩,Hc how,(hr.obj hb hβ how bV).skip o.dst⟩
 ·rw[g1] at h
  cases h
theorem zb5(hE:ak P E)(hr:Rel X s a){ops:List Oper}{T:TypeId}{m k x:Operand}(ho:o.op= .mapUpdate T m k x\/o.op= .insert T m k x){C:FuncId->bF Out}(h:act E C ops o s some=some u):aA P X s a o u:=by
 unfold act at h
 rcases ho with ho|ho
 ·simp only[ho] at h
  exact FK hE hr (by simp [execOp,ho]) h
 ·simp only[ho] at h
  exact FK hE hr (by simp [execOp,ho]) h
theorem Tl(hE:ak P E)(hr:Rel X s a){ops:List Oper}{T:TypeId}{x:Operand}(ho:o.op= .range T x){C:FuncId->bF Out}(h:act E C ops o s some=some u):aA P X s a o u:=by
 unfold act at h
 simp only[ho] at h
 split at h
 case h_2=>cases h
 rename_i hT
 obtain⟨y,h,hy⟩:=zz h
 obtain⟨cs,ry,ev⟩:=hy X _ _ (hr.ay x)
 rw[l4 ry] at ev
 have hu:=(hE.ty T _ hT).cO
 refine zff hr (t:=jd) (p:=jd) (x:=((y,0):ByteArray×Nat)) (b:= .stringIter y 0) (v:= .pointer (some ⟨X.w.heap.size,0,none⟩)) ?_ (fun Y _ hY pl=>hY) ⟨rfl,trivial⟩ h
 simp [execOp,ho,Instr.range,run_underlying hu,ev]
theorem Vw(hr:Rel X s a){ops:List Oper}{x:Operand}{str:Bool}(ho:o.op= .next x str){C:FuncId->bF Out}(h:act E C ops o s some=some u):aA P X s a o u:=by
 unfold act at h
 cases str with
 |false=>simp only[ho] at h;cases h
 |true=>
  simp only[ho] at h
  unfold ka at h
  have hx:=hr.ay x
  split at h
  case h_2=>cases h
  rename_i id hm
  rw[hm] at hx
  obtain⟨r,hβ,hv,_⟩:=hx
  split at h
  case h_2=>cases h
  rename_i B hB
  split at h
  case isFalse=>cases h
  rename_i dx
  have hb:=pI hB
  obtain⟨r',h1,how,h3⟩:=hr.boxes id B hb
  rw[hβ] at h1
  cases h1
  have aF:X.w.heap[r]? =some (.stringIter (Ty.cast dx B.x:ByteArray×Nat).1 (Ty.cast dx B.x:ByteArray×Nat).2):=by
   obtain⟨bt,bx,bo⟩:=B
   have e:=Ty.aH dx
   simp only at e
   subst e
   exact h3
  generalize(Ty.cast dx B.x:ByteArray×Nat)=q at*
  obtain⟨st,pos⟩:=q
  simp only at h aF
  have hv:a.eval x= .pointer (some ⟨r,0,none⟩):=by simpa [Ty.off] using hv
  have cq:(getObj r).run P X.w= .ok (.stringIter st pos) X.w:=by simp [getObj,Sem.run,aF]
  cases ar:decide (pos<st.size) with
  |false=>
   rw[ar] at h
   cases h
   have ar:=of_decide_eq_false ar
   refine aA.plain hr (sv:= .over) (v:= .tuple #[.bool false]) ?_ rfl (fun _ _ _ e'=>by cases e')
   simp only[execOp,ho,Sem.run_bind,Instr.next,hv,cq,Result.andThen_ok,if_neg ar,Sem.run_pure]
  |true=>
   rw[ar] at h
   cases h
   have ar:=of_decide_eq_true ar
   let new:Obj:= .stringIter st (pos+(Utf8.decode st pos).2)
   have eY:(setObj r new).run P X.w= .ok () (X.obj r new).w:=by simp [setObj,Sem.run,aF,ap.obj]
   have bV:bA (X.obj r new) id r ⟨jd,((st,pos+(Utf8.decode st pos).2):ByteArray×Nat),[]⟩:=⟨how,F8 aF⟩
   have eL:=hr.obj hb hβ how bV
   refine⟨X.obj r new,.tuple #[.bool true,.int .i64 pos,.int .i32 (Utf8.decode st pos).1],.inl ?_,Hc how,?_⟩
   ·simp only[execOp,ho,Sem.run_bind,Instr.next,hv,cq,Result.andThen_ok,if_pos ar,Sem.run_pure]
    simp only[new] at eY
    rw[eY]
    rfl
   ·refine eL.put (fun d' e=>⟨_,rfl,rfl,fun j sv v hj hv=> ?_⟩) (fun id t' q hm=>by simp at hm)
    match j with
    |0=>cases hj;cases hv;exact lY
    |1=>cases hj;cases hv;exact iy
    |2=>cases hj;cases hv;exact iy
    |j+3=>simp at hj
theorem Zt{t:Ty}{k:Nat}(hk:(zp t).length=k)(n:Nat):((Array.range (n*k)).map fun i=>(zp t).toArray[i % (zp t).toArray.size]!).size=n*k/\
 ∀j,j<n->((((Array.range (n*k)).map fun i=>(zp t).toArray[i % (zp t).toArray.size]!).toList.drop (j*k)).take k)=zp t:=by
 refine⟨by simp,fun j hj=> ?_⟩
 apply List.ext_getElem?
 intro i
 rw[List.getElem?_take]
 split
 ·rename_i hi
  have ar:j*k+i<n*k:=by
   have:(j+1)*k<=n*k:=Nat.mul_le_mul_right _ hj
   rw[Nat.add_mul,Nat.one_mul] at this
   omega
  have yM:(j*k+i)% k=i:=by rw[Nat.mul_comm,Nat.mul_add_mod,Nat.mod_eq_of_lt hi]
  rw[List.getElem?_drop,Array.getElem?_toList,Array.getElem?_map,Array.getElem?_range,if_pos ar]
  simp only[Option.map_some,List.size_toArray,hk,yM]
  rw[List.getElem?_eq_getElem (by omega)]
  simp [getElem!_def,List.getElem?_eq_getElem (show i<(zp t).length by omega)]
 ·rename_i hi
  rw[List.getElem?_eq_none (by omega)]
theorem F3(hE:ak P E){T e:TypeId}{t:Ty}(hT:E.ty T=some (.sl e t))(hk:t.cells≠0)(l9:E.bytes e≠0){n m:Int}(hn:0<=n)(hnm:n<=m)(hb:m*E.bytes e<=140737488355328)(w:World):
 m.toNat<=maxLen/\∃cur,cur.size=m.toNat*t.cells/\(∀j,j<m.toNat->(cur.toList.drop (j*t.cells)).take t.cells=zp t)/\
  (Instr.makeSlice T (.int .i64 n) (.int .i64 m)).run P w= .ok (.slice (some ⟨w.heap.size,0,none⟩) n.toNat m.toNat) (w.alloc (.cells cur e)):=by
 obtain⟨hu,he⟩:=(hE.ty T _ hT).cO
 obtain⟨i,hi,b8,eW,hz⟩:=(hE.ty e t he).info
 have hle:m<=m*E.bytes e:=by
  have h1:(1:Int)<=E.bytes e:=by omega
  have:=Int.mul_le_mul_of_nonneg_left h1 (show 0<=m by omega)
  simpa using this
 have yK:m.toNat<=maxLen:=by simp only[maxLen];omega
 have kv:(dp t (zp t)).cells=(zp t).toArray:=uQ (X:=⟨w,fun _=> .all,fun _=>none⟩) (rV _ t)
 obtain⟨z1,z2⟩:=Zt (sn t) m.toNat
 refine⟨yK,(Array.range (m.toNat*t.cells)).map (fun i=>(zp t).toArray[i % (zp t).toArray.size]!),z1,z2,?_⟩
 have Ki:IntKind.i64.wrap n=n:=by simp [IntKind.wrap,IntKind.signed,IntKind.bits];omega
 have sk:IntKind.i64.wrap m=m:=by simp [IntKind.wrap,IntKind.signed,IntKind.bits];omega
 have hmul:(i.bytes:Int)*m<=2^48:=by rw[eW,Int.mul_comm];omega
 have c1:¬m<0:=by omega
 have c2:¬(281474976710656:Int)<(i.bytes:Int)*m:=by omega
 have c3:¬n<0:=by omega
 have c4:¬m<n:=by omega
 have hai:∀(n:Int) (w:World),(asInt (.int .i64 n)).run P w= .ok n w:=fun n w=>by simp [asInt,asIntOf]
 have hti:∀w:World,(typeInfo e).run P w= .ok i w:=fun w=>by simp [typeInfo,hi]
 have iq:∀w:World,(sizeOf e).run P w= .ok t.cells w:=fun w=>kL hE he w
 have hzv:∀w:World,(zeroValue e).run P w= .ok (dp t (zp t)) w:=fun w=>K3 hE he w
 simp only[Instr.makeSlice,Sem.run_bind,run_underlying hu,Result.andThen_ok,hai,hti,Ki,sk]
 by_cases h0:m.toNat*t.cells=0
 ·simp [c1,c2,c3,c4,iq,h0,newRow]
  rw[show Array.range 0= #[] from rfl]
  simp
 ·simp [c1,c2,c3,c4,iq,h0,hzv,kv,newRow]
theorem zvf(hE:ak P E)(hr:Rel X s a){ops:List Oper}{T:TypeId}{l c:Operand}(ho:o.op= .makeSlice T l c){C:FuncId->bF Out}(h:act E C ops o s some=some u):aA P X s a o u:=by
 unfold act at h
 simp only[ho] at h
 unfold j9 at h
 split at h
 case h_2=>cases h
 rename_i e t hT
 split at h
 ·cases h
 rename_i bZ
 have l9:E.bytes e≠0:=fun e0=>bZ (by rw[e0];rfl)
 have hk:t.cells≠0:=fun e0=>bZ (by rw[e0];simp)
 obtain⟨n,h,hn⟩:=zz h
 obtain⟨m,h,hm⟩:=zz h
 obtain⟨_,rn,en⟩:=hn X _ _ (hr.ay l)
 rw[kg rn] at en
 obtain⟨_,rm,em⟩:=hm X _ _ (hr.ay c)
 rw[kg rm] at em
 cases hc:G7 l with
 |true=>
  rw[hc] at h
  simp only[cond_true] at h
  cases d1:decide (n=0)<;>rw[d1] at h<;>simp only[cond_true,cond_false] at h
  ·cases h
  cases d2:decide (0<=m)<;>rw[d2] at h<;>simp only[cond_true,cond_false] at h
  ·cases h
  cases d3:decide (m*E.bytes e<=140737488355328)<;>rw[d3] at h<;>simp only[cond_true,cond_false] at h
  ·cases h
  cases h
  have d1:=of_decide_eq_true d1
  have d2:=of_decide_eq_true d2
  have d3:=of_decide_eq_true d3
  subst d1
  obtain⟨yK,cur,g1,g2,aV⟩:=F3 (P:=P) hE hT hk l9 (n:=0) (m:=m) (by omega) d2 d3 X.w
  have ug:eC s X (X.jH (.cells cur e) (.row (.c (o.dst.getD 0) 0 []) 0) X.β):=zxb X _ _ _ _ rfl (fun _ _ _=>rfl)
  refine⟨X.jH (.cells cur e) (.row (.c (o.dst.getD 0) 0 []) 0) X.β,.slice (some ⟨X.w.heap.size,0,none⟩) 0 m.toNat,.inl ?_,ug.ext,(hr.cZ ug).fin ⟨[.slice (some ⟨X.w.heap.size,0,none⟩) 0 m.toNat],⟨_,_,rfl,Nat.zero_le _,fun j x hj=>by simp at hj⟩,rfl,fun p hp=> ?_⟩ (fun id t p hm=>by simp at hm)⟩
  ·simp only[execOp,ho,Sem.run_bind,en,em,aV,Result.andThen_ok,Sem.run_pure]
   rfl
  ·have hp:p=[]:=by simpa using hp
   subst hp
   refine⟨e,t,[],_,by simp [Ty.eH],rfl,rfl,.inr ⟨X.w.heap.size,m.toNat,cur,rfl,heap_alloc_new X.w _,Nat.zero_le _,yK,g1,?_⟩⟩
   simp [ap.jH]
 |false=>
  rw[hc] at h
  simp only[cond_false] at h
  cases d1:decide (n=m)<;>rw[d1] at h<;>simp only[cond_true,cond_false] at h
  ·cases h
  cases d2:decide (0<=n)<;>rw[d2] at h<;>simp only[cond_true,cond_false] at h
  ·cases h
  cases d3:decide (n*E.bytes e<=140737488355328)<;>rw[d3] at h<;>simp only[cond_true,cond_false] at h
  ·cases h
  have d1:=of_decide_eq_true d1
  have d2:=of_decide_eq_true d2
  have d3:=of_decide_eq_true d3
  have d1:m=n:=d1.symm
  subst d1
  obtain⟨yK,cur,g1,g2,aV⟩:=F3 (P:=P) hE hT hk l9 (n:=m) (m:=m) d2 (Int.le_refl _) d3 X.w
  refine zff hr (t:= .aT .row t .unit) (p:= .aT (.fO m.toNat) t .unit) (x:=(List.replicate m.toNat (El.bI t):List (El t))) (b:= .cells cur e) (v:= .slice (some ⟨X.w.heap.size,0,none⟩) m.toNat m.toNat) ?_ (fun Y _ hY pl=>⟨cur,e,hY,?_,fun j x hj=> ?_⟩) ⟨_,rfl,Nat.le_refl _⟩ h
  ·simp only[execOp,ho,Sem.run_bind,en,em,aV,Result.andThen_ok,Sem.run_pure]
  ·rw[g1];show _=List.length (List.replicate _ _)*_;rw[List.length_replicate]
  ·have hj:(List.replicate m.toNat (El.bI t))[j]? =some x:=hj
   rw[List.getElem?_replicate] at hj
   split at hj
   ·rename_i ar
    cases hj
    rw[g2 j ar]
    exact rV Y t
   ·cases hj
end Go.Ref

