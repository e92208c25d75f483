/- No condition. -/
import Derived.Orders
import Derived.Below
import Derived.Maps.AppendAt
import Derived.WalkKit
import Derived.Lib.AppendStr
import Derived.Shelf.Strings.BuilderF
import Derived.WideKeyRuns
import Derived.MapKept
set_option linter.unusedVariables false
set_option linter.unusedSimpArgs false
set_option maxRecDepth 100000
namespace Go.Ref
open Go
structure lT(T e:TypeId)(b:Nat)(v:Value)(bs:List Value)(w:World):Prop where
 hJ:w.heap[b]? =some (.cells #[.pointer none,v] T (0,0))\/w.heap[b]? =some (.cells #[.pointer (some ⟨b,0,none⟩),v] T (0,0))
 own:w.ownsRow 0 e 1 v bs.length bs
 ne:v.ownBlock≠some b
theorem lT.lt{T e:TypeId}{b:Nat}{v:Value}{bs:List Value}{w:World}(h:lT T e b v bs w):b<w.heap.size:=by
 rcases Nat.lt_or_ge b w.heap.size with h'|h'
 ·exact h'
 ·rcases h.hJ with h|h<;>simp [Array.getElem?_eq_none h'] at h
theorem lT.same{T e:TypeId}{b:Nat}{v:Value}{bs:List Value}{w w':World}(h:lT T e b v bs w)(hb:w'.heap[b]? =w.heap[b]?)(hg:∀g o,v.ownBlock=some g->w.heap[g]? =some o->w'.heap[g]? =some o):lT T e b v bs w':=by
 refine⟨by rw[hb];exact h.hJ,⟨h.own.1,?_⟩,h.ne⟩
 rcases h.own.2 with hn|⟨g,cap,cur,hv,h0,qX,rest⟩
 ·exact .inl hn
 ·exact .inr ⟨g,cap,cur,hv,h0,hg g _ (by rw[hv];rfl) qX,rest⟩
inductive BB where
 |iter
 |mp
 |row
 |ey (n:Nat)
 |dk (T e:Nat)
 |own
 |j7 (f:Nat)
 deriving DecidableEq,Inhabited
@[reducible] def mM:BB->Type->Type->Type
  | .iter,_,_=>ByteArray×Nat
  | .mp,a,b=>List (a×b)
  | .row,a,_=>List a
  | .ey _,_,_=>Unit
  | .dk _ _,_,_=>ByteArray
  | .own,a,_=>Option a
  | .j7 _,_,_=>Unit
def mM.bj:(k:BB)->(a b:Type)->mM k a b
 | .iter,_,_=>((⟨#[]⟩:ByteArray),(0:Nat))
 | .mp,_,_=>[]
 | .row,_,_=>[]
 | .ey _,_,_=>()
 | .dk _ _,_,_=>(⟨#[]⟩:ByteArray)
 | .own,_,_=>none
 | .j7 _,_,_=>()
inductive Ty where
 |bool
 |int (k:IntKind)
 |str
 |sl (e:TypeId) (t:Ty)
 |arr (n:Nat) (t:Ty)
 |unit
 |pair (a b:Ty)
 |aP (k:BB) (a b:Ty)
 deriving Inhabited
@[reducible] def El:Ty->Type
  | .bool=>Bool
  | .int _=>Int
  | .str=>ByteArray
  | .sl _ t=>List (El t)
  | .arr _ t=>List (El t)
  | .unit=>Unit
  | .pair a b=>El a×El b
  | .aP k a b=>mM k (El a) (El b)
def El.bj:(t:Ty)->El t
 | .bool=>false
 | .int _=>(0:Int)
 | .str=>(⟨#[]⟩:ByteArray)
 | .sl _ _=>[]
 | .arr n t=>List.replicate n (El.bj t)
 | .unit=>()
 | .pair a b=>(El.bj a,El.bj b)
 | .aP k a b=>mM.bj k (El a) (El b)
def Ty.bE:Ty->Ty->Bool
 | .bool,.bool=>true
 | .str,.str=>true
 | .unit,.unit=>true
 | .int j,.int k=>decide (j=k)
 | .sl e t,.sl f u=>Nat.beq e f&&Ty.bE t u
 | .arr n t,.arr m u=>Nat.beq n m&&Ty.bE t u
 | .pair a b,.pair c d=>Ty.bE a c&&Ty.bE b d
 | .aP k a b,.aP j c d=>decide (k=j)&&(Ty.bE a c&&Ty.bE b d)
 |_,_=>false
theorem Ty.aH:∀{t u:Ty},t.bE u=true->t=u:=by
 intro t
 induction t with
 |bool=>intro u h;cases u<;>simp_all [Ty.bE]
 |int k=>intro u h;cases u<;>simp_all [Ty.bE]
 |str=>intro u h;cases u<;>simp_all [Ty.bE]
 |unit=>intro u h;cases u<;>simp_all [Ty.bE]
 |sl e t ih=>
  intro u h
  cases u<;>simp [Ty.bE] at h
  obtain⟨h1,h2⟩:=h
  rw[ih h2,h1]
 |arr e t ih=>
  intro u h
  cases u<;>simp [Ty.bE] at h
  obtain⟨h1,h2⟩:=h
  rw[ih h2,h1]
 |pair a b ga gb=>
  intro u h
  cases u<;>simp [Ty.bE] at h
  rw[ga h.1,gb h.2]
 |aP k a b ga gb=>
  intro u h
  cases u<;>simp [Ty.bE] at h
  rw[h.1,ga h.2.1,gb h.2.2]
theorem Ty.bk:∀t:Ty,t.bE t=true
 | .bool=>rfl
 | .str=>rfl
 | .unit=>rfl
 | .int k=>by simp [Ty.bE]
 | .sl e t=>by simp [Ty.bE,Ty.bk t]
 | .arr e t=>by simp [Ty.bE,Ty.bk t]
 | .pair a b=>by simp [Ty.bE,Ty.bk a,Ty.bk b]
 | .aP k a b=>by simp [Ty.bE,Ty.bk a,Ty.bk b]
def Ty.cast{t u:Ty}(h:t.bE u=true)(x:El t):El u:=Ty.aH h▸x
def Ty.cells:Ty->Nat
 | .arr n t=>n*t.cells
 | .unit=>0
 | .pair a b=>a.cells+b.cells
 | .aP _ _ _=>0
 |_=>1
def Ty.agg:Ty->Bool
 | .arr .. | .unit| .pair .. | .aP .. =>true
 |_=>false
def Ty.at_:Ty->List Nat->Option Ty
 |t,[]=>some t
 | .arr _ t,_::p=>t.at_ p
 | .pair a _,0::p=>a.at_ p
 | .pair _ b,(j+1)::p=>b.at_ (j::p)
 |_,_=>none
def Ty.off:Ty->List Nat->Nat
 |_,[]=>0
 | .arr _ t,i::p=>i*t.cells+t.off p
 | .pair a _,0::p=>a.off p
 | .pair a b,(j+1)::p=>a.cells+b.off (j::p)
 |_,_=>0
def El.get:(t:Ty)->List Nat->El t->Option ((u:Ty)×El u)
 |t,[],x=>some ⟨t,x⟩
 | .arr _ t,i::p,xs=>El.get t p (xs.getD i (El.bj t))
 | .pair a _,0::p,x=>El.get a p x.1
 | .pair _ b,(j+1)::p,x=>El.get b (j::p) x.2
 |_,_::_,_=>none
def El.set:(t:Ty)->List Nat->El t->(u:Ty)->El u->Option (El t)
 |t,[],_,u,y=>if h:u.bE t=true then some (Ty.cast h y) else none
 | .arr _ t,i::p,xs,u,y=>(El.set t p (xs.getD i (El.bj t)) u y).map fun z=>List.set xs i z
 | .pair a _,0::p,x,u,y=>(El.set a p x.1 u y).map fun z=>(z,x.2)
 | .pair _ b,(j+1)::p,x,u,y=>(El.set b (j::p) x.2 u y).map fun z=>(x.1,z)
 |_,_::_,_,_,_=>none
def Ty.cS:Ty->List Nat->Prop
 |_,[]=>True
 | .arr n t,i::p=>i<n/\t.cS p
 | .pair a _,0::p=>a.cS p
 | .pair _ b,(j+1)::p=>b.cS (j::p)
 |_,_=>False
inductive Place where
 |c (i j:Nat) (p:List Nat)
 |b (id:Nat) (p:List Nat)
 |r (j:Nat) (p:List Nat)
inductive Ow where
 |all
 |ro (n:Nat)
 |box (id:Nat)
 |row (pl:Place) (n:Nat)
def Ow.used:Ow->Nat->Prop
 | .all,_=>True
 | .ro n,o=>o<n
 | .box _,_=>False
 | .row _ n,o=>o<n
def Ow.still:Ow->Prop
 | .all| .ro _=>True
 |_=>False
structure ak where
 w:World
 ow:Nat->Ow
 β:Nat->Option Nat
def ak.au(X:ak)(a:Addr)(v:Value):Prop:=a.spot=none/\X.w.cell? a=some v/\(X.ow a.block).used a.off
structure Ext(X Y:ak):Prop where
 au:∀a v,X.au a v->Y.au a v
 size:X.w.heap.size<=Y.w.heap.size
 os:Y.w.os=X.w.os
 tape:Y.w.tape=X.w.tape
 output:Y.w.output=X.w.output
 β0:Y.β 0=X.β 0
 still:∀g,g<X.w.heap.size->(X.ow g).still->Y.ow g=X.ow g/\Y.w.heap[g]? =X.w.heap[g]?
theorem Ext.refl(X:ak):Ext X X:=⟨fun _ _ h=>h,Nat.le_refl _,rfl,rfl,rfl,rfl,fun _ _ _=>⟨rfl,rfl⟩⟩
theorem Ext.trans{X Y Z:ak}(h:Ext X Y)(k:Ext Y Z):Ext X Z:=
 ⟨fun a v hs=>k.au a v (h.au a v hs),Nat.le_trans h.size k.size,k.os.trans h.os,k.tape.trans h.tape,k.output.trans h.output,k.β0.trans h.β0,
  fun g hg bL=>by
   obtain⟨h1,h2⟩:=h.still g hg bL
   obtain⟨k1,k2⟩:=k.still g (Nat.lt_of_lt_of_le hg h.size) (by rw[h1];exact bL)
   exact⟨k1.trans h1,k2.trans h2⟩⟩
theorem ak.dN{X:ak}{a:Addr}{v:Value}(h:X.au a v):a.block<X.w.heap.size:=World.block_lt_of_cell? X.w a h.2.1
def aN(X:ak):(t:Ty)->El t->List Value->Prop
 | .bool,b,cs=>cs=[.bool b]
 | .int k,n,cs=>cs=[.int k n]
 | .str,s,cs=>cs=[.string s]
 | .sl _ t,xs,cs=>∃A c,cs=[.slice A xs.length c]/\xs.length<=c/\
    ∀j x,xs[j]? =some x->∃ad cI,A=some ad/\ad.spot=none/\aN X t x cI/\∀i v,cI[i]? =some v->X.au (ad.add (j*t.cells+i)) v
 | .arr n t,xs,cs=>xs.length=n/\cs.length=n*t.cells/\∀j x,xs[j]? =some x->aN X t x ((cs.drop (j*t.cells)).take t.cells)
 | .unit,_,cs=>cs=[]
 | .pair a b,x,cs=>∃c1 c2,cs=c1++c2/\aN X a x.1 c1/\aN X b x.2 c2
 | .aP _ _ _,_,cs=>cs=[]
theorem aN.aj{X Y:ak}(h:∀a v,X.au a v->Y.au a v):∀{t:Ty} {x:El t} {cs:List Value},aN X t x cs->aN Y t x cs
 | .bool,_,_,hr=>hr
 | .int _,_,_,hr=>hr
 | .str,_,_,hr=>hr
 | .unit,_,_,hr=>hr
 | .sl _ t,xs,cs,⟨A,c,h1,h2,h3⟩=>⟨A,c,h1,h2,fun j x hj=>by
    obtain⟨ad,cI,h4,h5,h6,h7⟩:=h3 j x hj
    exact⟨ad,cI,h4,h5,aN.aj h h6,fun i v hi=>h _ _ (h7 i v hi)⟩⟩
 | .arr n t,xs,cs,⟨h1,h2,h3⟩=>⟨h1,h2,fun j x hj=>aN.aj h (h3 j x hj)⟩
 | .pair a b,x,cs,⟨c1,c2,h1,h2,h3⟩=>⟨c1,c2,h1,aN.aj h h2,aN.aj h h3⟩
 | .aP _ _ _,_,_,hr=>hr
theorem aN.mono{X Y:ak}(h:Ext X Y){t:Ty}{x:El t}{cs:List Value}(hr:aN X t x cs):aN Y t x cs:=aN.aj h.au hr
theorem aN.len{X:ak}:∀{t:Ty} {x:El t} {cs:List Value},aN X t x cs->cs.length=t.cells
 | .bool,_,_,hr=>by cases hr;rfl
 | .int _,_,_,hr=>by cases hr;rfl
 | .str,_,_,hr=>by cases hr;rfl
 | .unit,_,_,hr=>by cases hr;rfl
 | .sl _ t,xs,cs,⟨A,c,h1,_⟩=>by cases h1;rfl
 | .arr n t,xs,cs,⟨h1,h2,h3⟩=>h2
 | .pair a b,x,cs,⟨c1,c2,h1,h2,h3⟩=>by rw[h1,List.length_append,h2.len,h3.len];rfl
 | .aP _ _ _,_,_,hr=>by cases hr;rfl
theorem Ub{cs:List Value}{n k:Nat}{u:Value}(hu:u∈cs)(hk:cs.length=n*k):∃j,j<n/\u∈(cs.drop (j*k)).take k:=by
 obtain⟨q,hq,rfl⟩:=List.mem_iff_getElem.1 hu
 have va:0<k:=by
  rcases Nat.eq_zero_or_pos k with h|h
  ·subst h;simp at hk;subst hk;simp at hq
  ·exact h
 refine⟨q/k,by rw[Nat.div_lt_iff_lt_mul va,<-hk];exact hq,?_⟩
 rw[List.mem_iff_getElem?]
 refine⟨q % k,?_⟩
 rw[List.getElem?_take,if_pos (Nat.mod_lt _ va),List.getElem?_drop,Nat.mul_comm,Nat.div_add_mod,List.getElem?_eq_getElem hq]
theorem aN.one{X:ak}:∀{t:Ty} {x:El t} {cs:List Value},aN X t x cs->∀u∈cs,u.oneCell'=true
 | .bool,_,_,hr,u,hu=>by cases hr;simp at hu;subst hu;rfl
 | .int _,_,_,hr,u,hu=>by cases hr;simp at hu;subst hu;rfl
 | .str,_,_,hr,u,hu=>by cases hr;simp at hu;subst hu;rfl
 | .unit,_,_,hr,u,hu=>by cases hr;simp at hu
 | .sl _ t,xs,cs,⟨A,c,h1,_⟩,u,hu=>by cases h1;simp at hu;subst hu;rfl
 | .arr n t,xs,cs,⟨h1,h2,h3⟩,u,hu=>by
   obtain⟨j,hj,hm⟩:=Ub hu h2
   exact aN.one (h3 j _ (List.getElem?_eq_getElem (by omega))) u hm
 | .pair a b,x,cs,⟨c1,c2,h1,h2,h3⟩,u,hu=>by
   rw[h1] at hu
   rcases List.mem_append.1 hu with hu|hu
   ·exact h2.one u hu
   ·exact h3.one u hu
 | .aP _ _ _,_,_,hr,u,hu=>by cases hr;simp at hu
end Go.Ref

namespace Go.Ref
open Go Go.Shelf Go.RowKit Go.Proofs
variable {P:Program} {ρ:Ren}
structure dj(b:Nat)(g:Option Nat)(w w':World):Prop where
 os:w'.os=w.os
 tape:w'.tape=w.tape
 output:w'.output=w.output
 size:w.heap.size<=w'.heap.size
 block:∀k,k<w.heap.size->k≠b->some k≠g->w'.heap[k]? =w.heap[k]?
theorem dj.of{b:Nat}{g:Option Nat}{w w':World}(h:w.grownBy w' g):dj b g w w':=⟨h.os,h.tape,h.output,h.size,fun k hk _ hg=>h.block k hk hg⟩
theorem dj.trans{b:Nat}{g:Option Nat}{u v w:World}(h:dj b g u v)(k:dj b g v w):dj b g u w:=
 ⟨k.os.trans h.os,k.tape.trans h.tape,k.output.trans h.output,Nat.le_trans h.size k.size,fun i hi h1 h2=>(k.block i (Nat.lt_of_lt_of_le hi h.size) h1 h2).trans (h.block i hi h1 h2)⟩
theorem dj.refl{b:Nat}{g:Option Nat}(w:World):dj b g w w:=⟨rfl,rfl,rfl,Nat.le_refl _,fun _ _ _ _=>rfl⟩
theorem dj.setCell{b:Nat}{g:Option Nat}(w:World)(a:Addr)(ha:a.block=b)(u:Value):dj b g w (w.setCell a u):=
 ⟨rfl,rfl,rfl,by simp [World.setCell],fun k _ hk _=>Below.heap_setCell _ _ _ _ (by rw[ha];exact hk)⟩
theorem Wp{w:World}(t u ty e:TypeId)(i:TypeInfo)(ht:P.underlying t=some (.slice e))(hu:P.underlying u=some .string)(hi:P.info? e=some i)(hz:i.zero=some (.int .u8 0))(bF:i.size=1)(jR:i.bytes=1)
 (v:Value) (n:Nat) (xs:List Value) (bm:w.ownsRow 0 e 1 v n xs) (s:ByteArray) (oK:n+s.size<=maxLen) (cZ:n+s.size<=140737488355328) {v':Value} {w':World}
 (h:(Builtin.append_ #[t,u] ty #[v,.string s]).run P w= .ok v' w'):∀g,v'.ownBlock=some g->v.ownBlock=some g\/g=w.heap.size:=by
 have oY:xs.length=n:=by simpa using bm.1
 have lv:n+s.size<=9223372036854775807:=by simp only[maxLen] at oK;omega
 intro g0 qW
 rcases bm.2 with⟨rfl,rfl⟩|⟨g,cap,cur,rfl,BT,hg,vh,oN,di,gO⟩
 ·by_cases hm:s.size=0
  ·have hf:=Lib.run_firstCells_string (P:=P) w 1 s
   rw[hm] at hf
   simp [Builtin.append_,run_underlying ht,run_underlying hu,sizeOf,typeInfo,hi,bF,Builtin.lenOf,hm,hf] at h
   rw[<-h.1] at qW
   simp [Value.ownBlock] at qW
  ·have hr:=run_append_nil_string (P:=P) w t u ty e i (.int .u8 0) ht hu hi hz s (by omega) (by omega) (by rw[jR];omega)
   rw[hr] at h
   cases h
   simp [Value.ownBlock] at qW
   exact .inr qW.symm
 ·by_cases gM:n+s.size<=cap
  ·have QX:cur.size=cap:=by simpa using di
   have hr:=Lib.run_append_room_string (P:=P) w t u ty e i ht hu hi bF g n cap cur hg s gM (by omega)
   rw[hr] at h
   cases h
   exact .inl qW
  ·have holds:∀j u,xs[j]? =some u->w.cell? ((⟨g,0,none⟩:Addr).add j)=some u:=bm.cells (g:=g) rfl
   have hr:=Lib.run_append_grow_string (P:=P) w t u ty e i (.int .u8 0) ht hu hi hz ⟨g,0,none⟩ n cap xs (by rw[bF];simpa using oY) holds s (by omega) (by omega) (by rw[jR];exact growslice_fits (by omega) (by omega))
   rw[hr] at h
   cases h
   simp [Value.ownBlock] at qW
   exact .inr qW.symm
theorem U8{ops:Array Oper}{rest:List Oper}{o:Oper}{a:Act}{w:World}{Q:Exit->Act->World->Prop}(rX:o.guard=none)(sl x:Operand)(t u:TypeId)
 (ho:o.op= .call {callee:= .builtin .append,args:= #[sl,x],argTypes:= #[t,u]})
 (e:TypeId) (i:TypeInfo) (ht:P.underlying t=some (.slice e)) (hu:P.underlying u=some .string) (hi:P.info? e=some i) (hz:i.zero=some (.int .u8 0))
 (bF:i.size=1) (jR:i.bytes=1)
 (v:Value) (n:Nat) (xs:List Value) (hs:a.eval sl=v) (bm:w.ownsRow 0 e 1 v n xs) (s:ByteArray) (hx:a.eval x= .string s)
 (oK:n+s.size<=maxLen) (cZ:n+s.size<=140737488355328)
 (h:∀v' w',w'.ownsRow 0 e 1 v' (n+s.size) (xs++Lib.strCells s)->w.grownBy w' v.ownBlock->(∀g,v'.ownBlock=some g->v.ownBlock=some g\/g=w.heap.size)->wpList P ops Q rest (a.put o.dst v') w'):wpList P ops Q (o::rest) a w:=by
 refine wpList_plain rX fun K hK=> ?_
 obtain⟨v',w',hr,h2,h3,h4⟩:=Lib.run_append_own_string (P:=P) w 0 t u o.type e i ht hu hi hz bF jR v n xs bm s oK cZ (Nat.zero_le _)
 unfold Oper.wp execOp
 simp only[ho,resolve,invoke,builtin,Sem.run_bind,Sem.run_pure,Result.andThen_ok,List.map_toArray,List.map_cons,List.map_nil,hs,hx,hr]
 exact hK _ _ (h v' w' h2 h3 (Wp t u o.type e i ht hu hi hz bF jR v n xs bm s oK cZ hr))
theorem Wx(L:Lays.n240 P ρ)(X:Builder.X72 P ρ)(b:Nat)(v:Value)(bs:List Value)(w:World)(h:lT (ρ.t 72) (ρ.t 5) b v bs w):
 Calls P (ρ.f 240) #[.pointer (some ⟨b,0,none⟩)] w fun e w'=>e= .returned (.tuple #[])/\(w'.heap[b]? =some (.cells #[.pointer (some ⟨b,0,none⟩),v] (ρ.t 72) (0,0))/\w'.ownsRow 0 (ρ.t 5) 1 v bs.length bs)/\(dj b none w w'/\w'.heap.size=w.heap.size):=by
 rcases h.hJ with hb|hb
 ·have hA:Lib.BuilderAt (ρ.t 72) (ρ.t 5) 0 b (.pointer none) bs w:=⟨Nat.zero_le _,v,hb,h.own,h.ne⟩
  refine(Any.Builder_copyCheck_fresh L X b w hA.cell0 hA.shape hA.frozen0).mono ?_
  rintro e w' ⟨rfl,rfl⟩
  have hu:=hA.used (.pointer (some ⟨b,0,none⟩))
  obtain⟨_,v',qQ,gI,_⟩:=hu
  have hv:v'=v:=by
   have:(w.setCell ⟨b,0,none⟩ (.pointer (some ⟨b,0,none⟩))).heap[b]? =some (.cells #[.pointer (some ⟨b,0,none⟩),v] (ρ.t 72) (0,0)):=heap_setCell_same w b 0 _ _ _ hb
   rw[qQ] at this
   simp at this
   exact this
  subst hv
  exact⟨rfl,⟨qQ,gI⟩,dj.setCell w ⟨b,0,none⟩ rfl _,by simp [World.setCell]⟩
 ·have hA:Lib.BuilderAt (ρ.t 72) (ρ.t 5) 0 b (.pointer (some ⟨b,0,none⟩)) bs w:=⟨Nat.zero_le _,v,hb,h.own,h.ne⟩
  refine(Any.Builder_copyCheck_used L X b w hA.cell0).mono ?_
  rintro e w' ⟨rfl,rfl⟩
  exact⟨rfl,⟨hb,h.own⟩,dj.refl _,rfl⟩
set_option maxHeartbeats 2000000 in
set_option maxRecDepth 100000 in
theorem Wy(L:Lays.n166 P ρ)(X:Builder.Extra P ρ)(b:Nat)(v0:Value)(bs:List Value)(s:ByteArray)(w:World)(h:lT (ρ.t 72) (ρ.t 5) b v0 bs w)(hlen:bs.length+s.size<=140737488355328):
 Calls P (ρ.f 166) #[.pointer (some ⟨b,0,none⟩),.string s] w fun e w'=>e= .returned (.tuple #[.int .i64 s.size,.nilIface])/\∃v',lT (ρ.t 72) (ρ.t 5) b v' (bs++Lib.strCells s) w'/\dj b v0.ownBlock w w'/\∀g,v'.ownBlock=some g->v0.ownBlock=some g\/w.heap.size<=g:=by
 obtain⟨i0,hi,Cv,RW,RX⟩:=info_parts X.infoByte
 have aK:=h.lt
 have mixed:=L.mixed
 have t72:=L.t72;have a72:=L.a72;have z72:=L.z72;have v72:=L.v72;have TK:=run_underlying L.t72
 have t70:=L.t70;have a70:=L.a70;have z70:=L.z70;have v70:=L.v70;have TJ:=run_underlying L.t70
 have t37:=L.t37;have a37:=L.a37;have z37:=L.z37;have v37:=L.v37;have TI:=run_underlying L.t37
 have t3:=L.t3;have a3:=L.a3;have z3:=L.z3;have v3:=L.v3;have u3:=run_underlying L.t3
 have t9:=L.t9;have a9:=L.a9;have z9:=L.z9;have v9:=L.v9;have u9:=run_underlying L.t9
 have t4:=L.t4;have a4:=L.a4;have z4:=L.z4;have v4:=L.v4;have u4:=run_underlying L.t4
 have t164:=L.t164;have a164:=L.a164;have z164:=L.z164;have v164:=L.v164;have TH:=run_underlying L.t164
 have t5:=X.t5;have a5:=X.a5;have z5:=X.z5;have v5:=X.v5;have u5:=run_underlying X.t5
 have QP:∀args w,(callFunc (ρ.f 240) args).run P w= .ok (.enter (ρ.f 240) args) w:=enters_of L.f240 (by kernel_rfl) rfl
 go_enter L.f166,Body.n166_ntmps ρ
 go_wp2_with (go_at_fn (ρ.f 240);refine(Wx {L with} X.toX72 b v0 bs _ h).mono ?_)
 rintro e w1 ⟨rfl,⟨nz,bm⟩,lV,RJ⟩
 have bV:=h.ne
 have c0:w1.cell? ⟨b,0,none⟩=some (.pointer (some ⟨b,0,none⟩)):=by rw[Lib.cell_of_heap nz];rfl
 have c1:w1.cell? ⟨b,1,none⟩=some v0:=by rw[Lib.cell_of_heap nz];rfl
 go_wp2_with (at_builtin;refine U8 rfl _ _ (ρ.t 37) (ρ.t 9) rfl (ρ.t 5) i0 L.t37 L.t9 hi Cv RW RX _ _ _ rfl bm s rfl ?c3 ?c4 ?_)
 case c3=>unfold maxLen;omega
 case c4=>omega
 intro v' w2 gI oQ fj
 have B9:b<w1.heap.size:=by rw[RJ];exact aK
 have oM:w2.heap[b]? =some (.cells #[.pointer (some ⟨b,0,none⟩),v0] (ρ.t 72) (0,0)):=by
  rw[oQ.block b B9 (fun e=>bV e.symm)]
  exact nz
 have d0:w2.cell? ⟨b,0,none⟩=some (.pointer (some ⟨b,0,none⟩)):=by rw[Lib.cell_of_heap oM];rfl
 have d1:w2.cell? ⟨b,1,none⟩=some v0:=by rw[Lib.cell_of_heap oM];rfl
 have f1:w2.frozen? ⟨b,1,none⟩=false:=Lib.frozen_of_heap oM 1
 obtain⟨ao,n',cap,rfl⟩:∃ao n' cap,v'= .slice ao n' cap:=by
  rcases gI.2 with⟨hv,_⟩|⟨g,cap,cur,hv,_⟩
  ·exact⟨_,_,_,hv⟩
  ·exact⟨_,_,_,hv⟩
 go_wp2
 go_ret2
 have vi:(Value.slice ao n' cap).ownBlock≠some b:=fun e=>by
  rcases fj b e with h1|h1
  ·exact bV h1
  ·omega
 have c9:(w2.setCell ⟨b,1,none⟩ (.slice ao n' cap)).heap[b]? =some (.cells #[.pointer (some ⟨b,0,none⟩),.slice ao n' cap] (ρ.t 72) (0,0)):=heap_setCell_same w2 b 1 _ _ _ oM
 refine⟨rfl,_,⟨.inr c9,?_,vi⟩,?_,fun g hg=> ?_⟩
 ·have hl:(bs++Lib.strCells s).length=bs.length+s.size:=by rw[List.length_append,Lib.strCells_length]
  rw[hl]
  refine⟨gI.1,?_⟩
  rcases gI.2 with hn|⟨g,nr,cur,hv,BT,hg,rest⟩
  ·exact .inl hn
  ·refine .inr ⟨g,nr,cur,hv,BT,?_,rest⟩
   rw[Below.heap_setCell _ _ _ _ (fun e=>vi (by rw[hv,Value.ownBlock];exact congrArg some e))]
   exact hg
 ·refine dj.trans ⟨lV.os,lV.tape,lV.output,lV.size,fun k hk h1 h2=>lV.block k hk h1 (by simp)⟩ (dj.trans (dj.of oQ) (dj.setCell w2 ⟨b,1,none⟩ rfl _))
 ·rcases fj g hg with h1|h1
  ·exact .inl h1
  ·exact .inr (by omega)
theorem dj.freeze{b:Nat}{g:Nat}(w:World)(a:Addr)(ha:a.block=g)(n:Nat):dj b (some g) w (w.freeze a n):=by
 unfold World.freeze
 split
 ·exact dj.refl _
 ·refine⟨rfl,rfl,rfl,by simp,fun k hk h1 h2=> ?_⟩
  simp only[Array.getElem?_modify]
  rw[if_neg]
  intro e
  exact h2 (by rw[<-e,ha])
theorem dj.drew{b:Nat}{g:Option Nat}(w:World):dj b g w w.drew:=⟨rfl,rfl,rfl,Nat.le_refl _,fun _ _ _ _=>rfl⟩
theorem dj.alloc{b:Nat}{g:Option Nat}(w:World)(o:Obj):dj b g w (w.alloc o):=⟨rfl,rfl,rfl,by simp,fun k hk _ _=>Below.heap_alloc _ _ _ hk⟩
set_option maxHeartbeats 2000000 in
set_option maxRecDepth 100000 in
theorem Yz(L:Lays.n169 P ρ)(X:Builder.Extra P ρ)(b:Nat)(v0:Value)(l:List UInt8)(w:World)(h:lT (ρ.t 72) (ρ.t 5) b v0 (Lib.byteCells l) w):
 Calls P (ρ.f 169) #[.pointer (some ⟨b,0,none⟩)] w fun e w'=>e= .returned (.string ⟨l.toArray⟩)/\dj b v0.ownBlock w w':=by
 obtain⟨p,nz⟩:∃p,w.heap[b]? =some (.cells #[p,v0] (ρ.t 72) (0,0)):=by
  rcases h.hJ with h|h
  ·exact⟨_,h⟩
  ·exact⟨_,h⟩
 have bm:=h.own
 have aK:=h.lt
 rw[Lib.byteCells_length] at bm
 have mixed:=L.mixed
 have t72:=L.t72;have a72:=L.a72;have z72:=L.z72;have v72:=L.v72;have TK:=run_underlying L.t72
 have t70:=L.t70;have a70:=L.a70;have z70:=L.z70;have v70:=L.v70;have TJ:=run_underlying L.t70
 have t37:=L.t37;have a37:=L.a37;have z37:=L.z37;have v37:=L.v37;have TI:=run_underlying L.t37
 have t127:=L.t127;have a127:=L.a127;have z127:=L.z127;have v127:=L.v127;have TG:=run_underlying L.t127
 have t3:=L.t3;have a3:=L.a3;have z3:=L.z3;have v3:=L.v3;have u3:=run_underlying L.t3
 have t9:=L.t9;have a9:=L.a9;have z9:=L.z9;have v9:=L.v9;have u9:=run_underlying L.t9
 have t5:=X.t5;have a5:=X.a5;have z5:=X.z5;have v5:=X.v5;have u5:=run_underlying X.t5
 rcases bm.2 with⟨rfl,hz⟩|⟨g,cap,cur,rfl,BT,hg,vh,oN,di,gO⟩
 ·have hl:l=[]:=List.eq_nil_of_length_eq_zero hz
  subst hl
  have BR:=Any.unsafeString_none L X
  have c1:w.drew.cell? ⟨b,1,none⟩=some (.slice none 0 0):=by
   have:w.drew.heap[b]? =some (.cells #[p,.slice none 0 0] (ρ.t 72) (0,0)):=nz
   rw[Lib.cell_of_heap this];rfl
  have BQ:(Builtin.unsafeSliceData_ #[(ρ.t 37)] (ρ.t 127) #[.slice none 0 0]).run P w.drew= .ok (.pointer none) w.drew:=rfl
  go_enter L.f169,Body.n169_ntmps ρ
  go_wp2
  go_region_o
  all_goals(go_wp2;go_ret;exact⟨rfl,dj.drew w⟩)
 ·by_cases Ny:l.length=0
  ·have hl:l=[]:=List.eq_nil_of_length_eq_zero Ny
   subst hl
   by_cases BU:cap=0
   ·subst BU
    have BR:=Any.unsafeString_none L X
    have c1:w.drew.cell? ⟨b,1,none⟩=some (.slice (some ⟨g,0,none⟩) 0 0):=by
     have:w.drew.heap[b]? =some (.cells #[p,.slice (some ⟨g,0,none⟩) 0 0] (ρ.t 72) (0,0)):=nz
     rw[Lib.cell_of_heap this];rfl
    have BQ:(Builtin.unsafeSliceData_ #[(ρ.t 37)] (ρ.t 127) #[.slice (some ⟨g,0,none⟩) 0 0]).run P w.drew= .ok (.pointer (some ⟨w.drew.heap.size,0,none⟩)) (w.drew.alloc (.view ⟨g,0,none⟩ (ρ.t 5))):=
     Lib.run_unsafeSliceData_zero w.drew _ _ (ρ.t 5) L.t127 ⟨g,0,none⟩ 0 ((ρ.t 5),cur.size) (by have rW:w.drew.heap[g]? =some (.cells cur (ρ.t 5) (0,0)):=hg;simp [World.shape?,rW])
    have c2:(w.drew.alloc (.view ⟨g,0,none⟩ (ρ.t 5))).cell? ⟨b,1,none⟩=some (.slice (some ⟨g,0,none⟩) 0 0):=by
     have:(w.drew.alloc (.view ⟨g,0,none⟩ (ρ.t 5))).heap[b]? =_:=(Lib.alloc_old w.drew _ b aK).trans nz
     rw[Lib.cell_of_heap this];rfl
    have c3:(w.alloc (.view ⟨g,0,none⟩ (ρ.t 5))).drew.cell? ⟨b,1,none⟩=some (.slice (some ⟨g,0,none⟩) 0 0):=c2
    have c0:w.cell? ⟨b,1,none⟩=some (.slice (some ⟨g,0,none⟩) 0 0):=c1
    go_enter L.f169,Body.n169_ntmps ρ
    go_wp2
    go_region_o
    all_goals(go_wp2;go_ret;exact⟨rfl,(dj.drew w).trans (dj.alloc _ _)⟩)
   ·have BR:=Any.unsafeString_none L X
    have c1:w.drew.cell? ⟨b,1,none⟩=some (.slice (some ⟨g,0,none⟩) 0 cap):=by
     have:w.drew.heap[b]? =some (.cells #[p,.slice (some ⟨g,0,none⟩) 0 cap] (ρ.t 72) (0,0)):=nz
     rw[Lib.cell_of_heap this];rfl
    have BQ:(Builtin.unsafeSliceData_ #[(ρ.t 37)] (ρ.t 127) #[.slice (some ⟨g,0,none⟩) 0 cap]).run P w.drew= .ok (.pointer (some ⟨g,0,none⟩)) w.drew:=
     Lib.run_unsafeSliceData_row _ _ _ _ _ _ BU
    clear BU
    go_enter L.f169,Body.n169_ntmps ρ
    go_wp2
    go_region_o
    all_goals(go_wp2;go_ret;exact⟨rfl,dj.drew w⟩)
  ·have h0:l≠ []:=fun e=>Ny (by rw[e];rfl)
   have c1:w.drew.cell? ⟨b,1,none⟩=some (.slice (some ⟨g,0,none⟩) l.length cap):=by
    have:w.drew.heap[b]? =some (.cells #[p,.slice (some ⟨g,0,none⟩) l.length cap] (ρ.t 72) (0,0)):=nz
    rw[Lib.cell_of_heap this];rfl
   have BQ:(Builtin.unsafeSliceData_ #[(ρ.t 37)] (ρ.t 127) #[.slice (some ⟨g,0,none⟩) l.length cap]).run P w.drew= .ok (.pointer (some ⟨g,0,none⟩)) w.drew:=
    Lib.run_unsafeSliceData_row _ _ _ _ _ _ (by omega)
   have BR:(Builtin.unsafeString_ #[(ρ.t 127),(ρ.t 3)] (ρ.t 9) #[.pointer (some ⟨g,0,none⟩),.int .i64 l.length]).run P w.drew= .ok (.string ⟨l.toArray⟩) (w.drew.freeze ⟨g,0,none⟩ l.length):=by
    refine Lib.run_unsafeString_row w.drew (ρ.t 127) (ρ.t 3) (ρ.t 9) (ρ.t 5) L.t127 X.cellsByte g cur.size (by have rW:w.drew.heap[g]? =some (.cells cur (ρ.t 5) (0,0)):=hg;simp [World.shape?,rW]) l h0 (by omega) (by unfold maxLen at oN;omega) ?_
    intro j x hx
    have:=bm.cells (g:=g) rfl j (.int .u8 x.toNat) (by simp [Lib.byteCells,hx])
    exact this
   go_enter L.f169,Body.n169_ntmps ρ
   go_wp2
   go_region_o
   all_goals(go_wp2;go_ret;exact⟨rfl,(dj.drew w).trans (dj.freeze _ _ rfl _)⟩)
end Go.Ref

namespace Go.Ref
open Go
inductive SV where
 |undef
 |skip
 |bK
 |dL
 |af (t:Ty) (x:El t) (own:List (List Nat))
 |ptr (id:Nat) (t:Ty) (p:List Nat)
 |view (t:Ty) (x:El t)
 |cap (f:Nat) (t:Ty) (x:El t) (u:Ty) (y:El u)
 |over
def Ty.jr:Ty->Bool
 | .aP (.dk _ _) _ _=>false
 | .aP _ _ _=>true
 |_=>false
def Ty.bf:Ty->Bool
 | .aP _ _ _=>true
 |_=>false
structure aX where
 t:Ty
 x:El t
 own:List (List Nat)
structure State where
 sl:List (List SV)
 bs:List (Option aX)
structure Env where
 ty:TypeId->Option Ty
 bytes:TypeId->Nat
 pt:TypeId->Bool
 cj:Nat->List Nat
 fC:Nat->List Nat
 outs:List Nat
 ps:List Ty
 mp:TypeId->Option (TypeId×TypeId):=fun _=>none
 join:Nat->Option (List Nat):=fun _=>none
 fz:Nat->Option (Nat×TypeId):=fun _=>none
 dr:Nat->List Nat:=fun _=>[]
 sh:List Nat:=[]
 ro:Bool:=false
 mv:List Nat:=[]
 fr:Nat->List Nat:=fun _=>[]
 bl:TypeId->Option TypeId:=fun _=>none
 sp:Option (Nat×Nat×Nat×Nat):=none
def Ty.dA:Ty->Bool
 | .unit=>true
 | .pair (.int _) b=>b.dA
 |_=>false
def Ty.isKey:Ty->Bool
 | .bool| .int _| .str=>true
 | .pair a b=>(Ty.pair a b).dA
 |_=>false
def lU:(t:Ty)->El t->El t->Bool
 | .pair (.int _) b,x,y=>decide (x.1=y.1)&&lU b x.2 y.2
 |_,_,_=>true
def fh:(t:Ty)->El t->El t->Bool
 | .bool,x,y=>decide (x=y)
 | .int _,x,y=>decide (x=y)
 | .str,x,y=>decide (x=y)
 | .pair a b,x,y=>lU (.pair a b) x y
 |_,_,_=>false
def dT{K V:Type}(eq:K->K->Bool)(d:V):List (K×V)->K->V
 | [],_=>d
 |q::r,k=>bif eq k q.1 then q.2 else dT eq d r k
def dU{K V:Type}(eq:K->K->Bool):List (K×V)->K->Bool
 | [],_=>false
 |q::r,k=>bif eq k q.1 then true else dU eq r k
section
variable {R:Type}
abbrev bg(R:Type):=List SV->Option aX->(List SV->Option aX->Option R)->Option R
def SV.el(s:SV)(u:Ty)(K:El u->Option R):Option R:=
 match s with
 | .af t x _=>if h:t.bE u=true then K (Ty.cast h x) else none
 | .bK=>match u with
   | .sl _ _=>K []
   |_=>none
 |_=>none
def pB:Value->SV
 | .bool b=> .af .bool b []
 | .int k n=> .af (.int k) n []
 | .string s=> .af .str s []
 | .slice none 0 0=> .bK
 | .pointer none=> .dL
 |_=> .undef
def State.slot(s:State)(t:Nat):List SV:=s.sl.getD t [.undef]
def State.nM(s:State):Operand->List SV
 | .tmp t=>s.slot t
 | .const v=>[pB v]
 |_=>[.undef]
def one:List SV->SV
 | [x]=>x
 |_=> .undef
def State.ax(s:State)(x:Operand):SV:=one (s.nM x)
def State.box(s:State)(id:Nat):Option aX:=(s.bs.getD id none)
def SV.shut:SV->SV
 | .af t x _=> .af t x []
 |v=>v
def SV.own:SV->List (List Nat)
 | .af _ _ o=>o
 | .bK=>[[]]
 |_=>[]
def bn:List SV->Nat->List SV
 | [],_=>[]
 |v::r,0=>v.shut::r
 |v::r,j+1=>v::bn r j
structure Out where
 v:List SV
 bx:Option (Nat×aX):=none
 cl:List (Nat×Nat):=[]
def State.close(s:State):List (Nat×Nat)->State
 | []=>s
 |(i,j)::r=>State.close {s with sl:=s.sl.set i (bn (s.slot i) j)} r
def State.aC(s:State):Option (Nat×aX)->State
 |some (id,B)=>{s with bs:=s.bs.set id (some B)}
 |none=>s
def State.aG(s:State):Option Nat->List SV->State
 |some d,v=>{s with sl:=s.sl.set d v}
 |none,_=>s
def State.apply(s:State)(dst:Option Nat)(o:Out):State:=((s.close o.cl).aC o.bx).aG dst o.v
def lM:Operand->Option Nat
 | .tmp t=>some t
 |_=>none
def src:Operand->List (Nat×Nat)
 | .tmp t=>[(t,0)]
 |_=>[]
def aZ(op:BinOp)(k:IntKind)(a b:Int):Int:=
 match op with
 | .and=>k.wrap ((BitVec.ofInt k.bits a&&&BitVec.ofInt k.bits b).toNat:Nat)
 | .or=>k.wrap ((BitVec.ofInt k.bits a|||BitVec.ofInt k.bits b).toNat:Nat)
 | .xor=>k.wrap ((BitVec.ofInt k.bits a^^^BitVec.ofInt k.bits b).toNat:Nat)
 |_=>k.wrap ((BitVec.ofInt k.bits a&&& ~~~ BitVec.ofInt k.bits b).toNat:Nat)
def cf:(t:Ty)->El t->El t->Option Bool
 | .bool,x,y=>some (x==y)
 | .int _,x,y=>some (decide (x=y))
 | .str,x,y=>some (decide (x=y))
 | .unit,_,_=>some true
 | .arr _ (.int _),x,y=>some (decide ((x:List Int)=y))
 | .pair a b,x,y=>match cf a x.1 y.1,cf b x.2 y.2 with
   |some p,some q=>some (p&&q)
   |_,_=>none
 |_,_,_=>none
def i64(n:Int):List SV:=[.af (.int .i64) n []]
def bl(b:Bool):List SV:=[.af .bool b []]
def jK(op:BinOp)(k:IntKind)(a:Int)(k':IntKind)(b:Int)(K:List SV->Option R):Option R:=
 match op with
 | .shl=>bif decide (b<0) then none else K [.af (.int k) (k.wrap (a*2^min b.toNat k.bits)) []]
 | .shr=>bif decide (b<0) then none else K [.af (.int k) (a.fdiv (2^min b.toNat k.bits)) []]
 |_=>if k=k' then
  match op with
  | .add=>K [.af (.int k) (k.wrap (a+b)) []]
  | .sub=>K [.af (.int k) (k.wrap (a-b)) []]
  | .mul=>K [.af (.int k) (k.wrap (a*b)) []]
  | .quo=>bif decide (b=0) then none else K [.af (.int k) (k.wrap (a.tdiv b)) []]
  | .rem=>bif decide (b=0) then none else K [.af (.int k) (a.tmod b) []]
  | .and| .or| .xor| .andNot=>K [.af (.int k) (aZ op k a b) []]
  | .eql=>K (bl (decide (a=b)))
  | .neq=>K (bl (!decide (a=b)))
  | .lss=>K (bl (decide (a<b)))
  | .leq=>K (bl (decide (a<=b)))
  | .gtr=>K (bl (decide (b<a)))
  | .geq=>K (bl (decide (b<=a)))
  |_=>none
  else none
def jL(op:BinOp)(a b:ByteArray)(K:List SV->Option R):Option R:=
 match op with
 | .add=>bif decide (a.size+b.size<=9223372036854775807) then K [.af .str (a++b) []] else none
 | .eql=>K (bl (decide (a=b)))
 | .neq=>K (bl (!decide (a=b)))
 | .lss=>K (bl (Op.bytesLess a.toList b.toList))
 | .leq=>K (bl (Op.bytesLess a.toList b.toList||decide (a=b)))
 | .gtr=>K (bl (!(Op.bytesLess a.toList b.toList||decide (a=b))))
 | .geq=>K (bl (!(Op.bytesLess a.toList b.toList)))
 |_=>none
def Ty.depth:Ty->Nat
 | .arr _ t=>t.depth+1
 | .pair a b=>max (a.depth+1) b.depth
 |_=>1
def jJ(E:Env)(op:BinOp)(T:TypeId)(x y:SV)(K:List SV->Option R):Option R:=
 match E.ty T with
 |some t=>if Nat.ble t.depth 1000=false then none else x.el t fun a=>y.el t fun b=>match cf t a b with
  |some r=>match op with
   | .eql=>K (bl r)
   | .neq=>K (bl (!r))
   |_=>none
  |none=>none
 |none=>none
def bin(E:Env)(op:BinOp)(T:TypeId)(x y:SV)(K:List SV->Option R):Option R:=
 match x,y with
 | .af (.int k) a _,.af (.int k') b _=>jK op k a k' b K
 | .af .str a _,.af .str b _=>jL op a b K
 | .ptr _ t _,.dL=>if(t.bf|| !E.pt T)=true then none else match op with
   | .eql=>K (bl false)
   | .neq=>K (bl true)
   |_=>none
 | .dL,.dL=>if E.pt T=false then none else match op with
   | .eql=>K (bl true)
   | .neq=>K (bl false)
   |_=>none
 |x,y=>jJ E op T x y K
def zb(s:ByteArray)(i:Nat):Int:=if h:i<s.size then((s[i]'h).toNat:Int) else 0
def strOf(xs:List Int):ByteArray:=⟨(xs.map fun x=>UInt8.ofNat x.toNat).toArray⟩
def za(i:Int)(n:Nat)(K:Option R):Option R:=bif decide (0<=i) then bif decide (i<(n:Int)) then K else none else none
def n6(lo:Option SV)(h:Nat)(K:Nat->Option R):Option R:=
 match lo with
 |none=>K 0
 |some v=>v.el (.int .i64) fun l=>bif decide (0<=l) then bif decide (l<=(h:Int)) then K l.toNat else none else none
def cutAt(lo hi:Option SV)(n:Nat)(K:Nat->Nat->Option R):Option R:=
 match hi with
 |none=>n6 lo n fun l=>K l n
 |some v=>v.el (.int .i64) fun h=>bif decide (0<=h) then bif decide (h<=(n:Int)) then n6 lo h.toNat (fun l=>K l h.toNat) else none else none
def Ty.fm:Ty->Nat->Bool
 | .arr n _,i=>Nat.ble (i+1) n
 |_,_=>true
def n4(own:List (List Nat))(p:List Nat):List (List Nat):=own.filter fun q=> !(p.isPrefixOf q)
def hN(own:List (List Nat))(p:List Nat):Bool:=own.any fun q=>q==p
def z87(own:List (List Nat))(p:List Nat):List (List Nat):=(own.filter fun q=>p.isPrefixOf q).map fun q=>q.drop p.length
def bump:List Nat->Option (List Nat)
 | []=>none
 |j::p=>some ((j+1)::p)
def nZ:Ty->List (List Nat)
 | .sl _ _=>[[]]
 | .pair a b=>(nZ a).map (fun p=>0::p)++(nZ b).filterMap bump
 |_=>[]
def jY(t:Ty):El t->List (List Nat)->List (Nat×SV×List (List Nat))->(El t->List (List Nat)->Option R)->Option R
 |x,own,[],K=>K x own
 |x,own,(i,v,ov)::r,K=>if t.fm i=false then none else match t.at_ [i] with
  |some u=>v.el u fun y=>match El.set t [i] x u y with
   |some z=>jY t z (ov.map (fun p=>i::p)++n4 own [i]) r K
   |none=>none
  |none=>none
def n3(o:List (List Nat))(x:Operand):List (Nat×Nat):=
 match o with
 | []=>[]
 |_::_=>src x
def zx:State->List (Nat×Operand)->List (Nat×SV×List (List Nat))×List (Nat×Nat)
 |_,[]=>([],[])
 |s,(i,x)::r=>((i,s.ax x,(s.ax x).own)::(zx (s.close (n3 (s.ax x).own x)) r).1,n3 (s.ax x).own x++(zx (s.close (n3 (s.ax x).own x)) r).2)
def pD(t:Ty):List (El t)->List (Nat×SV)->(List (El t)->Option R)->Option R
 |xs,[],K=>K xs
 |xs,(i,v)::r,K=>if Nat.ble (i+1) xs.length=false then none else v.el t fun y=>pD t (xs.set i y) r K
def A8(ops:List Oper)(d:Option Nat):Bool:=
 match d with
 |some d=>ops.any fun o=>match o.op with
  | .call ⟨.builtin .append,args,_⟩=>match args.toList with
    | .tmp t::_=>Nat.beq t d
    |_=>false
  |_=>false
 |none=>false
def Qy(ops:List Oper)(d:Option Nat):Bool:=
 match d with
 |some d=>ops.any fun o=>match o.op,o.dst with
  | .indexAddr _ (.tmp t) _,some a=>Nat.beq t d&&ops.any fun q=>match q.op with
    | .store _ (.tmp b) _=>Nat.beq a b
    |_=>false
  |_,_=>false
 |none=>false
def pa(E:Env)(ops:List Oper)(d:Option Nat):Bool:=
 match d with
 |some d=>ops.any fun o=>match o.op with
  | .store _ (.tmp r) (.tmp t)=>Nat.beq t d&&E.outs.any (Nat.beq r)
  |_=>false
 |none=>false
def rJ(u':Ty)(s:State)(id:Nat)(t:Ty)(p:List Nat)(K:Out->Option R):Option R:=
 match t,p with
 | .aP .row a b,[i]=>match s.box id with
   |some B=>if h:B.t.bE (.aP .row a b)=true then if u'.bE a=true then
     bif Nat.ble (i+1) (List.length (Ty.cast h B.x:List (El a))) then K {v:=[.af a (List.getD (Ty.cast h B.x:List (El a)) i (El.bj a)) []]} else none
    else none else none
   |none=>none
 |_,_=>none
def rH(u:Ty)(s:State)(id:Nat)(t:Ty)(p:List Nat)(v:SV)(K:Out->Option R):Option R:=
 match t,p with
 | .aP .row a b,[i]=>match s.box id with
   |some B=>if h:B.t.bE (.aP .row a b)=true then if a.bE u=true then
     v.el a fun y=>bif Nat.ble (i+1) (List.length (Ty.cast h B.x:List (El a))) then K {v:=[.skip],bx:=some (id,⟨.aP .row a b,(List.set (Ty.cast h B.x:List (El a)) i y:List (El a)),[]⟩)} else none
    else none else none
   |none=>none
 |_,_=>none
def wh(t:Ty)(n:Int)(id:Nat)(r:Ty)(p:List Nat)(K:Out->Option R):Option R:=
 match r,p with
 | .aP (.ey m) a b,[]=>if a.bE t=true then za n m (K {v:=[.ptr id (.aP .row a b) [n.toNat]]}) else none
 |_,_=>none
def sB(u':Ty)(B:aX)(t:Ty)(p:List Nat)(K:Out->Option R):Option R:=
 match t,p with
 | .arr n e,[]=>if h:B.t.bE (.aP .row e .unit)=true then if u'.bE (.arr n e)=true then
    bif Nat.beq n (List.length (Ty.cast h B.x:List (El e))) then K {v:=[.af (.arr n e) (Ty.cast h B.x:List (El e)) []]} else none
   else none else none
 |_,_=>none
def load(E:Env)(T:TypeId)(s:State)(la:Bool)(a:SV)(K:Out->Option R):Option R:=
 match E.ty T with
 |some u'=>match a with
  | .view t x=>if u'.bE t=true then K {v:=[.af t x []]} else none
  | .ptr id t p=>if t.bf=true then rJ u' s id t p K else match s.box id with
    |some B=>if B.t.bE t=true then
      match El.get B.t p B.x with
      |some ⟨u,y⟩=>if u'.bE u=true then
        bif la then K {v:=[.af u y (z87 B.own p)],bx:=some (id,{B with own:=n4 B.own p})} else K {v:=[.af u y []]}
       else none
      |none=>none
     else sB u' B t p K
    |none=>none
  |_=>none
 |none=>none
def store(E:Env)(T:TypeId)(s:State)(a:SV)(vo:Operand)(K:Out->Option R):Option R:=
 match E.ty T with
 |some u=>match a with
  | .ptr id t p=>if t.bf=true then rH u s id t p (s.ax vo) K else match s.box id with
    |some B=>if B.t.bE t=true then
      match t.at_ p with
      |some u'=>if u'.bE u=true then
        (s.ax vo).el u fun y=>match El.set B.t p B.x u y with
        |some z=>K {v:=[.skip],bx:=some (id,{t:=B.t,x:=z,own:=(s.ax vo).own.map (fun q=>p++q)++n4 B.own p}),cl:=src vo}
        |none=>none
       else none
      |none=>none
     else none
    |none=>none
  |_=>none
 |none=>none
def Ty.b7:Ty->Bool
 | .pair .. =>true
 |_=>false
def wD(t?:Option Ty)(a:SV)(j:Nat)(K:Out->Option R):Option R:=
 match t?,a with
 |some u,.ptr id t p=>if t.bf=true then none else match t.at_ p with
  |some u'=>if(u.bE u'&&u.b7)=true then match u.at_ [j] with
    |some f=>if Nat.beq f.cells 0=true then none else K {v:=[.ptr id t (p++ [j])]}
    |none=>none
   else none
  |none=>none
 |some u,.view t x=>if(u.bE t&&u.b7)=true then match El.get t [j] x with
   |some ⟨f,y⟩=>if Nat.beq f.cells 0=true then none else K {v:=[.view f y]}
   |none=>none
  else none
 |_,_=>none
def SV.num(s:SV)(K:Int->Option R):Option R:=
 match s with
 | .af (.int _) n _=>K n
 |_=>none
def wF(E:Env)(T:TypeId)(a i:SV)(K:Out->Option R):Option R:=
 i.num fun n=>match E.ty T,a with
  |some (.sl e t),.af t' xs _=>(SV.af t' xs []).el (.sl e t) fun ys=>za n ys.length (K {v:=[.view t (List.getD ys n.toNat (El.bj t))]})
  |some (.arr m t),.ptr id r p=>if r.bf=true then none else match r.at_ p with
   |some u=>if u.bE (.arr m t)=true then za n m (K {v:=[.ptr id r (p++ [n.toNat])]}) else none
   |none=>none
  |some (.arr m t),.view t' xs=>(SV.af t' xs []).el (.arr m t) fun ys=>za n m (K {v:=[.view t (List.getD ys n.toNat (El.bj t))]})
  |some (.sl _ t),.ptr id r p=>wh t n id r p K
  |_,_=>none
def wG(E:Env)(T:TypeId)(a i:SV)(K:Out->Option R):Option R:=
 i.num fun n=>match E.ty T with
  |some .str=>a.el .str fun s=>za n s.size (K {v:=[.af (.int .u8) (zb s n.toNat) []]})
  |some (.arr m t)=>a.el (.arr m t) fun ys=>za n m (K {v:=[.af t (List.getD ys n.toNat (El.bj t)) []]})
  |_=>none
def jN(E:Env)(T:TypeId)(a:SV)(lo hi:Option SV)(K:Out->Option R):Option R:=
 match E.ty T with
 |some .str=>a.el .str fun s=>cutAt lo hi s.size fun l h=>K {v:=[.af .str (s.extract l h) []]}
 |some (.sl e t)=>a.el (.sl e t) fun xs=>cutAt lo hi (List.length xs) fun l h=>K {v:=[.af (.sl e t) ((List.take h xs).drop l) []]}
 |_=>none
def wo(E:Env)(T U:TypeId)(bo:Operand)(b x:SV)(K:Out->Option R):Option R:=
 if Nat.beq T U=false then none else
 match E.ty T with
 |some (.sl e t)=>if(Nat.beq (E.bytes e) 0||Nat.beq t.cells 0)=true then none else match b with
  | .bK=>x.el (.sl e t) fun ys=>bif decide (List.length ys*E.bytes e<=140737488355328) then K {v:=[.af (.sl e t) ys [[]]]} else none
  | .af t' xs o=>if hN o []=false then none else(SV.af t' xs o).el (.sl e t) fun xs=>x.el (.sl e t) fun ys=>
    bif decide ((List.length xs+List.length ys)*E.bytes e<=140737488355328) then K {v:=[.af (.sl e t) (xs++ys:List (El t)) [[]]],cl:=src bo} else none
  |_=>none
 |_=>none
def lG(E:Env)(T:TypeId)(x:SV)(K:Out->Option R):Option R:=
 match E.ty T with
 |some .str=>x.el .str fun s=>K {v:=i64 (s.size:Int)}
 |some (.sl e t)=>match x with
  | .ptr _ (.aP (.ey n) _ _) []=>K {v:=i64 (n:Int)}
  |x=>x.el (.sl e t) fun xs=>K {v:=i64 (List.length xs:Int)}
 |some (.arr n _)=>K {v:=i64 (n:Int)}
 |_=>none
def fy(E:Env)(S T:TypeId)(x:SV)(K:Out->Option R):Option R:=
 match E.ty S,E.ty T with
 |some (.int k),some (.int k')=>x.el (.int k) fun n=>K {v:=[.af (.int k') (k'.wrap n) []]}
 |some .str,some .str=>x.el .str fun s=>K {v:=[.af .str s []]}
 |some (.sl e (.int .u8)),some .str=>x.el (.sl e (.int .u8)) fun xs=>K {v:=[.af .str (strOf xs) []]}
 |_,_=>none
def eK(E:Env)(S T:TypeId)(s:State)(id n:Nat)(a b:Ty)(K:Out->Option R):Option R:=
 match E.ty S,E.ty T with
 |some (.sl _ (.int .u8)),some .str=>if a.bE (.int .u8)=true then match s.box id with
  |some B=>if h:B.t.bE (.aP .row (.int .u8) b)=true then bif Nat.beq n (List.length (Ty.cast h B.x:List Int)) then K {v:=[.af .str (strOf (Ty.cast h B.x:List Int)) []]} else none else none
  |none=>none else none
 |_,_=>none
def gR(E:Env)(T:TypeId):Option (Ty×Ty):=
 match E.mp T with
 |some (k,e)=>match E.ty k,E.ty e with
  |some kt,some vt=>if kt.isKey=true then some (kt,vt) else none
  |_,_=>none
 |none=>none
def eX(s:State)(dst:Option Nat)(t:Ty)(x:El t)(p:Ty)(K:Out->Option R):Option R:=
 match dst with
 |some d=>match s.bs[d+1]? with
  |some none=>K {v:=[.ptr (d+1) p []],bx:=some (d+1,⟨t,x,[]⟩)}
  |_=>none
 |none=>none
def ml(s:State)(m:SV)(kt vt:Ty)(K:Nat->List (El kt×El vt)->Option R):Option R:=
 match m with
 | .ptr id (.aP .mp CB DE) []=>if((Ty.aP .mp CB DE).bE (.aP .mp kt vt))=true then match s.box id with
   |some B=>if h:B.t.bE (.aP .mp kt vt)=true then K id (Ty.cast h B.x) else none
   |none=>none else none
 |_=>none
def fD(E:Env)(T:TypeId)(s:State)(m i:SV)(K:Out->Option R):Option R:=
 match gR E T with
 |some (kt,vt)=>ml s m kt vt fun _ xs=>i.el kt fun k=>K {v:=[.af vt (dT (fh kt) (El.bj vt) xs k) []]}
 |none=>none
def gi(E:Env)(T:TypeId)(s:State)(m i v:SV)(K:Out->Option R):Option R:=
 match gR E T with
 |some (kt,vt)=>ml s m kt vt fun id xs=>i.el kt fun k=>v.el vt fun y=>bif dU (fh kt) xs k then none else K {v:=[.skip],bx:=some (id,⟨.aP .mp kt vt,(xs++ [(k,y)]:List (El kt×El vt)),[]⟩)}
 |none=>none
def eS:Ty:= .aP .iter .unit .unit
def fF(s:State)(m:SV)(K:Out->Option R):Option R:=
 match m with
 | .ptr id (.aP .iter .unit .unit) []=>match s.box id with
   |some B=>if h:B.t.bE eS=true then
     bif decide ((Ty.cast h B.x:ByteArray×Nat).2<(Ty.cast h B.x:ByteArray×Nat).1.size) then
      K {v:=[.af .bool true [],.af (.int .i64) ((Ty.cast h B.x:ByteArray×Nat).2:Int) [],.af (.int .i32) ((Utf8.decode (Ty.cast h B.x:ByteArray×Nat).1 (Ty.cast h B.x:ByteArray×Nat).2).1:Int) []],
         bx:=some (id,⟨eS,((Ty.cast h B.x:ByteArray×Nat).1,(Ty.cast h B.x:ByteArray×Nat).2+(Utf8.decode (Ty.cast h B.x:ByteArray×Nat).1 (Ty.cast h B.x:ByteArray×Nat).2).2),[]⟩)}
     else K {v:=[.over]}
    else none
   |none=>none
 |_=>none
def Qe:Operand->Bool
 | .const _=>true
 |_=>false
def fE(E:Env)(T:TypeId)(s:State)(dst:Option Nat)(lo:Operand)(l c:SV)(K:Out->Option R):Option R:=
 match E.ty T with
 |some (.sl e t)=>if(Nat.beq (E.bytes e) 0||Nat.beq t.cells 0)=true then none else l.el (.int .i64) fun n=>c.el (.int .i64) fun m=>
  bif Qe lo then
   bif decide (n=0) then bif decide (0<=m) then bif decide (m*E.bytes e<=140737488355328) then K {v:=[.af (.sl e t) ([]:List (El t)) [[]]]} else none else none else none
  else bif decide (n=m) then bif decide (0<=n) then bif decide (n*E.bytes e<=140737488355328) then eX s dst (.aP .row t .unit) (List.replicate n.toNat (El.bj t):List (El t)) (.aP (.ey n.toNat) t .unit) K else none else none else none
 |_=>none
def vU(op:UnOp)(x:SV)(K:Out->Option R):Option R:=
 match op,x with
 | .not,.af .bool b _=>K {v:=bl (!b)}
 | .neg,.af (.int k) n _=>K {v:=[.af (.int k) (k.wrap (0-n)) []]}
 |_,_=>none
def gC(f:FuncId)(x:SV)(K:Out->Option R):Option R:=
 match x with
 | .ptr id u []=>if u.jr=true then none else K {v:=[.ptr id (.aP (.j7 f) u .unit) []]}
 |_=>none
def kV(n id:Nat)(a b:Ty)(lo hi:Option SV)(K:Out->Option R):Option R:=
 match hi with
 |some _=>none
 |none=>n6 lo n fun l=>K {v:=[.ptr id (.aP (.ey n) a b) [l]]}
def jM(E:Env)(T:TypeId)(s:State)(id n:Nat)(t:Ty)(lo hi:Option SV)(K:Out->Option R):Option R:=
 match E.ty T,lo,hi with
 |some u,none,none=>if u.bE (.arr n t)=true then match s.box id with
  |some B=>if h:B.t.bE (.arr n t)=true then K {v:=[.ptr id (.aP (.ey n) t .unit) []],bx:=some (id,⟨.aP .row t .unit,(Ty.cast h B.x:List (El t)),[]⟩)} else none
  |none=>none else none
 |_,_,_=>none
def ju(s:ByteArray):List Int:=s.data.toList.map fun c=>(c.toNat:Int)
def bJ{α:Type}(xs ys:List α)(lo:Nat):List α:=xs.take lo++(ys++xs.drop (lo+ys.length))
def dH(t:Ty)(s:State)(id n lo:Nat)(a b:Ty)(x:SV)(e:TypeId)(K:Out->Option R):Option R:=
 if a.bE t=true then x.el (.sl e t) fun(ys:List (El t))=>match s.box id with
  |some B=>if h:B.t.bE (.aP .row t b)=true then
    bif Nat.beq n (List.length (Ty.cast h B.x:List (El t))) then bif Nat.ble lo n then
     K {v:=i64 ((ys.take (n-lo)).length:Int),bx:=some (id,⟨.aP .row t b,(bJ (Ty.cast h B.x:List (El t)) (ys.take (n-lo)) lo:List (El t)),[]⟩)}
    else none else none
   else none
  |none=>none else none
def eL(t:Ty)(s:State)(id n:Nat)(a b:Ty)(y:ByteArray)(K:Out->Option R):Option R:=
 if t.bE (.int .u8)=true then if a.bE (.int .u8)=true then match s.box id with
  |some B=>if h:B.t.bE (.aP .row (.int .u8) b)=true then
    bif Nat.beq n (List.length (Ty.cast h B.x:List Int)) then
     K {v:=i64 ((List.take n (ju y)).length:Int),bx:=some (id,⟨.aP .row (.int .u8) b,(bJ (Ty.cast h B.x:List Int) (List.take n (ju y)) 0:List Int),[]⟩)}
    else none
   else none
  |none=>none else none else none
def copyV(E:Env)(T:TypeId)(s:State)(d x:SV)(K:Out->Option R):Option R:=
 match E.ty T,d with
 |some (.sl e t),.ptr id (.aP (.ey n) a b) []=>(match x with
  | .af .str y _=>eL t s id n a b y K
  |x=>dH t s id n 0 a b x e K)
 |some (.sl e t),.ptr id (.aP (.ey n) a b) [l]=>dH t s id n l a b x e K
 |_,_=>none
def vF(t b:Ty):Bool:=
 b.bE t||(match t with
  | .aP (.j7 _) u _=>b.bE u
  |_=>false)
def hH(s:State):List SV->Option (List SV×Option (Nat×aX))
 | []=>some ([],none)
 |v::r=>match hH s r with
  |none=>none
  |some (l,b)=>match v,b with
   | .af t x _,b=>some (.af t x []::l,b)
   | .bK,b=>some (.bK::l,b)
   | .view t x,b=>some (.view t x::l,b)
   | .ptr id t [],none=>match s.box id with
     |some B=>if vF t B.t=true then some (.ptr 0 t []::l,some (id,B)) else none
     |none=>none
   |_,_=>none
def SV.dM(id:Nat):SV->SV
 | .ptr _ t p=> .ptr id t p
 |v=>v
def cX(C:FuncId->bg R)(s:State)(dst:Option Nat)(f:FuncId)(vs:List SV)(K:Out->Option R):Option R:=
 match hH s vs with
 |some (l,none)=>C f l none fun r B=>match B with
  |none=>K {v:=r}
  |some B=>match dst with
   |some d=>match s.bs[d+1]? with
    |some none=>K {v:=r.map (SV.dM (d+1)),bx:=some (d+1,B)}
    |_=>none
   |none=>none
 |some (l,some (id,B))=>C f l (some B) fun r B'=>match B' with
  |some B'=>if B'.t.bE B.t=true then K {v:=r,bx:=some (id,B')} else none
  |none=>none
 |none=>none
def eW(g:Bool)(x y:SV)(K:Out->Option R):Option R:=
 match x,y with
 | .af (.int k) m _,.af (.int _) n _=>K {v:=[.af (.int k) (bif g then(if m<n then n else m) else(if n<m then n else m)) []]}
 |_,_=>none
def iz(E:Env)(T:TypeId)(K:Out->Option R):Option R:=
 match E.ty T with
 |some (.sl e t)=>K {v:=[.af (.sl e t) ([]:List (El t)) [[]]]}
 |_=>K {v:=[.bK]}
def hD(s:State):Operand->Option (Nat×List SV)
 | .tmp t=>bif Nat.beq (s.slot t).length 1 then none else some (t,s.slot t)
 |_=>none
def eZ(t:Nat):Nat->List (Nat×Nat)
 |0=>[]
 |n+1=>(t,n)::eZ t n
def cP(E:Env)(d:Option Nat):Bool:=
 match d with
 |some d=>E.sh.any (Nat.beq d)
 |none=>false
def takes(E:Env)(d:Option Nat):Bool:=
 match d with
 |some d=>E.mv.any (Nat.beq d)
 |none=>false
def Out.shut(u:Out):Out:={u with v:=u.v.map SV.shut}
def kU(f:FuncId)(x y:SV)(K:Out->Option R):Option R:=
 match x,y with
 | .view t a,.view u b=>K {v:=[.cap f t a u b]}
 |_,_=>none
def act(E:Env)(C:FuncId->bg R)(ops:List Oper)(o:Oper)(s:State)(K:Out->Option R):Option R:=
 match o.op with
 | .move x=>match hD s x with
   |some (t,l)=>bif cP E o.dst then K {v:=l.map SV.shut} else K {v:=l,cl:=bif l.all fun v=>v.own.isEmpty then [] else eZ t l.length}
   |none=>match s.ax x with
    | .af t y w=>bif A8 ops o.dst||takes E o.dst then K {v:=[.af t y w],cl:=n3 w x} else K {v:=[.af t y []]}
    | .undef=>none
    | .bK=>iz E o.type K
    |v=>K {v:=[v]}
 | .assign x=>match s.ax x with
   | .af t y w=>K {v:=[.af t y w],cl:=n3 w x}
   | .undef=>none
   | .bK=>iz E o.type K
   |v=>K {v:=[v]}
 | .pick c a b=>match s.ax c with
   | .af .bool p _=>bif p then K {v:=[(s.ax a).shut]} else K {v:=[(s.ax b).shut]}
   |_=>none
 | .binOp op T x y _=>bin E op T (s.ax x) (s.ax y) fun v=>K {v}
 | .unOp op _ x=>vU op (s.ax x) K
 | .convert S T x=>match s.ax x with
   | .ptr id (.aP (.ey n) a b) []=>eK E S T s id n a b K
   |v=>fy E S T v K
 | .load T a=>load E T s (A8 ops o.dst||pa E ops o.dst||Qy ops o.dst) (s.ax a) K
 | .store T a x=>store E T s (s.ax a) x K
 | .nilCheck x=>match s.ax x with
   | .ptr id t p=>if t.bf=true then none else K {v:=[.ptr id t p]}
   | .view t y=>K {v:=[.view t y]}
   |_=>none
 | .fieldAddr T x j=>wD (E.ty T) (s.ax x) j K
 | .indexAddr T x i=>wF E T (s.ax x) (s.ax i) K
 | .index T x i=>wG E T (s.ax x) (s.ax i) K
 | .field T x j=>match E.ty T with
   |some t=>if t.b7=false then none else(s.ax x).el t fun y=>match El.get t [j] y with
    |some ⟨u,z⟩=>K {v:=[.af u z []]}
    |none=>none
   |none=>none
 | .slice T x lo hi none=>match s.ax x with
   | .ptr id (.aP (.ey n) a b) []=>(match E.ty T with
     |some (.sl _ t)=>if a.bE t=true then kV n id a b (lo.map s.ax) (hi.map s.ax) K else none
     |_=>none)
   | .ptr id (.arr n t) []=>jM E T s id n t (lo.map s.ax) (hi.map s.ax) K
   |v=>jN E T v (lo.map s.ax) (hi.map s.ax) K
 | .makeFunc (.func f) first captured=>match first.toList,captured.toList with
   | [],[x]=>gC f (s.ax x) K
   | [],[x,y]=>kU f (s.ax x) (s.ax y) K
   |_,_=>none
 | .alloc T=>match E.ty T,o.dst with
   |some t,some d=>match s.bs[d+1]? with
    |some none=>K {v:=[.ptr (d+1) t []],bx:=some (d+1,⟨t,El.bj t,nZ t⟩)}
    |_=>none
   |none,some d=>(match E.bl T with
    |some e=>match s.bs[d+1]? with
     |some none=>K {v:=[.ptr (d+1) (.aP (.dk T e) .unit .unit) []],bx:=some (d+1,⟨.aP (.dk T e) .unit .unit,(⟨#[]⟩:ByteArray),[[]]⟩)}
     |_=>none
    |none=>none)
   |_,_=>none
 | .box T x=>match E.ty T,o.dst with
   |some t,some d=>match s.bs[d+1]? with
    |some none=>(s.ax x).el t fun y=>K {v:=[.ptr (d+1) t []],bx:=some (d+1,⟨t,y,(s.ax x).own⟩),cl:=src x}
    |_=>none
   |_,_=>none
 | .build T parts=>match E.ty T with
   |some t=>if t.agg=false then none else jY t (El.bj t) (nZ t) (zx s parts.toList).1 fun y own=>K {v:=[.af t y own],cl:=(zx s parts.toList).2}
   |none=>none
 | .buildSlice T n parts=>match E.ty T with
   |some (.sl e t)=>if Nat.beq t.cells 0=true then none else bif Nat.ble (n*t.cells) 16777216 then pD t (List.replicate n (El.bj t)) (parts.toList.map fun p=>(p.1,s.ax p.2)) fun y=>K {v:=[.af (.sl e t) y [[]]]} else none
   |_=>none
 | .extract x j=>match x with
   | .tmp t=>if Nat.beq (s.slot t).length 1=true then(match one (s.slot t),j with
      | .over,0=>K {v:=bl false}
      |_,_=>none) else match(s.slot t)[j]? with
     |some (.af u y w)=>K {v:=[.af u y w],cl:=bif w.isEmpty then [] else [(t,j)]}
     |some .undef=>none
     |some v=>K {v:=[v]}
     |none=>none
   |_=>none
 | .makeMap T none=>match gR E T with
   |some (kt,vt)=>eX s o.dst (.aP .mp kt vt) ([]:List (El kt×El vt)) (.aP .mp kt vt) K
   |none=>none
 | .lookup T x i false=>fD E T s (s.ax x) (s.ax i) K
 | .mapUpdate T m k x=>gi E T s (s.ax m) (s.ax k) (s.ax x) K
 | .insert T m k x=>gi E T s (s.ax m) (s.ax k) (s.ax x) K
 | .range T x=>match E.ty T with
   |some .str=>(s.ax x).el .str fun y=>eX s o.dst eS ((y,0):ByteArray×Nat) eS K
   |_=>none
 | .next x true=>fF s (s.ax x) K
 | .makeSlice T l c=>fE E T s o.dst l (s.ax l) (s.ax c) K
 | .call ⟨.value (.func f),args,_⟩=>cX C s o.dst f (args.toList.map s.ax) fun u=>K (bif cP E o.dst then u.shut else u)
 | .call ⟨.value (.tmp y),args,_⟩=>match s.ax (.tmp y) with
   | .ptr id (.aP (.j7 f) u _) []=>if u.jr=true then none else cX C s o.dst f (args.toList.map s.ax++ [.ptr id u []]) K
   | .cap f t x u y=>cX C s o.dst f (args.toList.map s.ax++ [.view t x,.view u y]) K
   |_=>none
 | .call ⟨.builtin .copy,args,argTypes⟩=>match args.toList,argTypes.toList with
   | [d,x],T::_=>copyV E T s (s.ax d) (s.ax x) K
   |_,_=>none
 | .call ⟨.builtin .len,args,argTypes⟩=>match args.toList,argTypes.toList with
   | [x],[T]=>lG E T (s.ax x) K
   |_,_=>none
 | .call ⟨.builtin .append,args,argTypes⟩=>match args.toList,argTypes.toList with
   | [b,x],[T,U]=>wo E T U b (s.ax b) (s.ax x) K
   |_,_=>none
 | .call ⟨.builtin .max,args,_⟩=>match args.toList with
   | [x,y]=>eW true (s.ax x) (s.ax y) K
   |_=>none
 | .call ⟨.builtin .min,args,_⟩=>match args.toList with
   | [x,y]=>eW false (s.ax x) (s.ax y) K
   |_=>none
 |_=>none
def wv(ops:List Oper)(g:Nat):Option Nat:=(ops[g]?).bind (·.dst)
def step(E:Env)(C:FuncId->bg R)(ops:List Oper)(o:Oper)(s:State)(K:State->Option R):Option R:=
 let go (s:State):Option R:=act E C ops o s fun u=>K (s.apply o.dst u)
 let pass (s:State):Option R:=K (s.aG o.dst [.skip])
 match o.guard with
 |none=>go s
 |some (g,want)=>match wv ops g with
  |none=>none
  |some d=>match s.slot d with
   | [.af .bool p []]=>bif p then(let s:=s.aG (some d) (bl true);bif want then go s else pass s) else(let s:=s.aG (some d) (bl false);bif want then pass s else go s)
   | [.skip]=>pass s
   |_=>none
def steps(E:Env)(C:FuncId->bg R)(ops:List Oper):List Oper->State->(State->Option R)->Option R
 | [],s,K=>K s
 |o::r,s,K=>step E C ops o s fun s=>steps E C ops r s K
structure cr where
 i:Nat
 r:Nat
 w:Nat
 br:Nat
 bw:Nat
def bit(i:Nat):Nat:=1<<<i
def eh:List Nat->Nat
 | []=>0
 |i::r=>bit i|||eh r
def j4:List Operand->List Nat
 | []=>[]
 | .tmp t::r=>t::j4 r
 |_::r=>j4 r
def looks(ops:List Oper)(o:Oper):List Nat:=j4 o.op.operands.toList++(match o.guard with
 |some (g,_)=>(wv ops g).toList
 |none=>[])
def bq:SV->List Nat
 | .ptr id _ _=>[id]
 |_=>[]
def zh(s:State)(o:Oper):List Nat:=
 match o.op with
 | .load _ a=>bq (s.ax a)
 | .store _ a _=>bq (s.ax a)
 | .alloc _| .box _ _| .makeMap _ _| .range _ _| .makeSlice _ _ _=>o.dst.toList.map fun d=>d+1
 | .convert _ _ x=>bq (s.ax x)
 | .slice _ x _ _ _=>bq (s.ax x)
 | .lookup _ x _ _=>bq (s.ax x)
 | .mapUpdate _ m _ _=>bq (s.ax m)
 | .insert _ m _ _=>bq (s.ax m)
 | .next x _=>bq (s.ax x)
 | .call ⟨.value y,args,_⟩=>(args.toList.flatMap fun x=>bq (s.ax x))++(bq (s.ax y)++o.dst.toList.map fun d=>d+1)
 | .call ⟨.builtin .copy,args,_⟩=>args.toList.flatMap fun x=>bq (s.ax x)
 |_=>[]
def zj(ops:List Oper)(o:Oper)(i:Nat)(s:State)(u:Out):cr:=
 ⟨i,eh (looks ops o),eh (o.dst.toList++u.cl.map (·.1)),eh (zh s o),eh (u.bx.toList.map (·.1))⟩
def cr.apart(a b:cr):Bool:=
 Nat.beq (a.w&&&(b.r|||b.w)) 0&&(Nat.beq (b.w&&&a.r) 0&&(Nat.beq (a.bw&&&(b.br|||b.bw)) 0&&Nat.beq (b.bw&&&a.br) 0))
def zn:List Edge->Nat
 | []=>0
 |e::r=>bif Region.binds .any e then bit e.on|||zn r else zn r
def fits(m:Nat)(f:cr)(tr:List cr):Bool:=Nat.ble (m+1) (bit f.i)&&tr.all fun a=>m.testBit a.i||a.apart f
def fK(E:Env)(C:FuncId->bg R)(ops:List Oper)(o:Oper)(i:Nat)(s:State)(tr:List cr)(K:State->List cr->Option R):Option R:=
 let go (s:State):Option R:=act E C ops o s fun u=>bif fits (zn o.after.toList) (zj ops o i s u) tr then K (s.apply o.dst u) (zj ops o i s u::tr) else none
 let pass (s:State):Option R:=bif fits (zn o.after.toList) (zj ops o i s {v:=[.skip]}) tr then K (s.apply o.dst {v:=[.skip]}) (zj ops o i s {v:=[.skip]}::tr) else none
 match o.guard with
 |none=>go s
 |some (g,want)=>match wv ops g with
  |none=>none
  |some d=>match s.slot d with
   | [.af .bool p []]=>bif p then(let s:=s.aG (some d) (bl true);bif want then go s else pass s) else(let s:=s.aG (some d) (bl false);bif want then pass s else go s)
   | [.skip]=>pass s
   |_=>none
def pF(E:Env)(C:FuncId->bg R)(ops:List Oper):List Oper->Nat->State->List cr->(State->Option R)->Option R
 | [],_,s,_,K=>K s
 |o::r,i,s,tr,K=>fK E C ops o i s tr fun s tr=>pF E C ops r (i+1) s tr K
inductive Ex where
 |normal
 |exit (id:Nat)
 |ret
def zy:Code->Nat
 | .region id _ _=>id
 | .seq a _=>zy a
 | .cond _ a _=>zy a
 | .block _ b=>zy b
 | .loop b=>zy b
 |_=>0
def dc{α:Type}(z:α)(l:List Nat):Nat->List α->List α
 |_,[]=>[]
 |i,x::r=>(bif l.any (Nat.beq i) then x else z)::dc z l (i+1) r
def SV.roots(l:List Nat):SV->Bool
 | .ptr 0 _ _=>true
 | .ptr (id+1) _ _=>l.any (Nat.beq id)
 |_=>true
def CE:List Nat->List Nat->Bool
 | [],[]=>false
 | [],_::_=>true
 |_::_,[]=>false
 |a::p,b::q=>Nat.ble (a+1) b||(Nat.beq a b&&CE p q)
def lC(p:List Nat):List (List Nat)->List (List Nat)
 | []=>[p]
 |q::r=>bif CE q p then q::lC p r else p::q::r
def js:List (List Nat)->List (List Nat)
 | []=>[]
 |p::r=>lC p (js r)
def SV.norm:SV->SV
 | .af t x own=> .af t x (js own)
 |v=>v
def aX.norm(B:aX):aX:={B with own:=js B.own}
def State.norm(s:State):State:=⟨s.sl.map fun v=>v.map SV.norm,s.bs.map fun b=>b.map aX.norm⟩
def jZ(l:List Nat)(s:State)(K:State->Option R):Option R:=
 let sl:=dc [.undef] l 0 s.sl
 bif sl.all (fun v=>v.all (SV.roots l)) then K (State.norm ⟨sl,s.bs.headD none::dc none l 0 s.bs.tail⟩) else none
def gQ(k:Nat)(f:Unit->Option R):Option R:=
 match k with
 |0=>none
 |_+1=>f ()
def gS(E:Env)(k r:Nat)(s:State)(K:State->Option R):Option R:=
 match E.join r with
 |none=>K s
 |some l=>jZ l s fun s=>gQ k fun _=>K s
def ns(id:Nat)(l:List SV):List SV:=l.map fun v=>match v with
 | .ptr j _ _=>bif Nat.beq j id then .undef else v
 |v=>v
def jW(E:Env)(r:Nat)(s:State)(K:State->Option R):Option R:=
 match E.fz r with
 |none=>K s
 |some (d,T)=>match s.slot d,E.ty T with
  | [.ptr id (.aP (.ey n) a b) []],some (.sl e t)=>if a.bE t=true then match s.box id with
    |some B=>if h:B.t.bE (.aP .row t b)=true then
      bif Nat.beq n (List.length (Ty.cast h B.x:List (El t))) then K {sl:=(s.sl.map (ns id)).set d [.af (.sl e t) (Ty.cast h B.x:List (El t)) []],bs:=s.bs.set id none} else none
     else none
    |none=>none else none
  |_,_=>none
def n7(id:Nat)(B:aX)(v:SV):SV:=
 match v with
 | .ptr j t p=>bif Nat.beq j id then(if t.bE B.t=true then match El.get B.t p B.x with
    |some ⟨u,y⟩=> .view u y
    |none=> .undef else .undef) else .ptr j t p
 |v=>v
def zQ(id:Nat)(s:State)(K:State->Option R):Option R:=
 match s.box id with
 |some B=>if B.t.bf=true then none else K {sl:=s.sl.map fun l=>l.map (n7 id B),bs:=s.bs.set id none}
 |none=>none
def sw:List Nat->State->(State->Option R)->Option R
 | [],s,K=>K s
 |id::r,s,K=>zQ id s fun s=>sw r s K
def ea(l:List Nat):Nat->List (Option aX)->List (Option aX)
 |_,[]=>[]
 |i,b::r=>(bif l.any (Nat.beq i) then b.map (fun B=>{B with own:=[]}) else b)::ea l (i+1) r
def State.drop(l:List Nat)(s:State):State:={s with bs:=ea l 0 s.bs}
def az(body:State->(Ex->State->Option R)->Option R)(l lx:List Nat):Nat->State->(Ex->State->Option R)->Option R
 |0,_,_=>none
 |k+1,s,K=>body s fun e s=>match e with
  | .normal=>jZ l s fun s=>az body l lx k s K
  |e=>jZ lx s fun s=>K e s
def Ty.flat:Ty->Bool
 | .sl _ _=>false
 | .aP _ _ _=>false
 | .arr _ t=>t.flat
 | .pair a b=>a.flat&&b.flat
 |_=>true
def SV.flat:SV->Bool
 | .af t _ own=>t.flat&&own.isEmpty
 | .ptr _ _ _| .view _ _| .cap _ _ _ _ _=>false
 |_=>true
def fA(o:Nat):Nat->List (List SV)->Bool
 |_,[]=>true
 |i,l::r=>(Nat.beq i o||l.all SV.flat)&&fA o (i+1) r
def eV:Nat->Nat->List (List SV)->List (List SV)
 |0,_,sl=>sl
 |n+1,m,sl=>eV n (m+1) (sl.set m [.undef])
def isDst(o:Oper)(d:Nat):Bool:=
 match o.dst,o.guard with
 |some d',none=>Nat.beq d' d
 |_,_=>false
def cN(x:Operand)(i:Nat):Bool:=
 match x with
 | .tmp j=>Nat.beq j i
 |_=>false
def nI(E:Env)(T:TypeId):Bool:=
 match E.ty T with
 |some (.int .u8)=>true
 |_=>false
def zR(E:Env)(T:TypeId):Bool:=
 match E.ty T with
 |some (.sl _ (.int .u8))=>true
 |_=>false
def rQ(o:Oper)(d x:Nat):Bool:=isDst o d&&(match o.op with
 | .move y=>cN y x
 |_=>false)
def isLen(E:Env)(o:Oper)(d x:Nat):Bool:=isDst o d&&(match o.op with
 | .call ⟨.builtin .len,cH,ts⟩=>match cH.toList,ts.toList with
   | [y],[T]=>cN y x&&zR E T
   |_,_=>false
 |_=>false)
def A9(o:Oper)(d x:Nat):Bool:=isDst o d&&(match o.op with
 | .binOp .sub _ y (.const (.int .i64 c)) _=>cN y x&&decide (c=1)
 |_=>false)
def nH(E:Env)(o:Oper)(d x i:Nat):Bool:=isDst o d&&(match o.op with
 | .indexAddr T y j=>cN y x&&(cN j i&&zR E T)
 |_=>false)
def MQ(E:Env)(o:Oper)(d x:Nat):Bool:=isDst o d&&(match o.op with
 | .load T y=>cN y x&&nI E T
 |_=>false)
def lE(o:Oper)(d x y:Nat):Bool:=isDst o d&&(match o.op with
 | .binOp .add _ u v _=>cN u x&&cN v y
 |_=>false)
def lD(E:Env)(o:Oper)(x y:Nat):Bool:=(match o.dst,o.guard with
 |none,none=>true
 |_,_=>false)&&(match o.op with
 | .store T u v=>cN u x&&(cN v y&&nI E T)
 |_=>false)
def MS(E:Env)(o x m:Nat)(ops:List Oper):Bool:=
 match ops with
 | [a0,a1,a2,a3,a4,a5,a6,a7,a8,a9,qz,qA,a12,uP]=>rQ a0 m o&&(rQ a1 (m+1) o&&(isLen E a2 (m+2) (m+1)&&(A9 a3 (m+3) (m+2)&&(rQ a4 (m+4) o&&(rQ a5 (m+5) o&&(isLen E a6 (m+6) (m+5)&&(A9 a7 (m+7) (m+6)&&(nH E a8 (m+8) (m+4) (m+7)&&(MQ E a9 (m+9) (m+8)&&(rQ qz (m+10) x&&(lE qA (m+11) (m+9) (m+10)&&(nH E a12 (m+12) m (m+3)&&lD E uP (m+12) (m+11)))))))))))))
 |_=>false
def pk(e:TypeId)(xs:List Int)(y:Int)(own:List (List Nat)):List SV:=[.af (.sl e (.int .u8)) (xs.set (IntKind.i64.wrap ((xs.length:Int)-1)).toNat (IntKind.u8.wrap (xs.getD (IntKind.i64.wrap ((xs.length:Int)-1)).toNat 0+y)):List Int) own]
def fL(E:Env)(q:Nat×Nat×Nat)(ops:List Oper)(s:State)(K:State->Option R):Option R:=
 bif MS E q.1 q.2.1 q.2.2 ops then
  bif Nat.ble (q.1+1) q.2.2&&(Nat.ble (q.2.1+1) q.2.2&&(!(Nat.beq q.1 q.2.1)&&Nat.ble (q.2.2+13) s.sl.length)) then
   match s.slot q.1,s.slot q.2.1 with
   | [.af (.sl e (.int .u8)) xs own],[.af (.int .u8) y _]=>
     bif hN own [] then
      bif fA q.1 0 (eV 13 q.2.2 s.sl)&&s.bs.all Option.isNone then
       za (IntKind.i64.wrap ((List.length (xs:List Int):Int)-1)) (List.length (xs:List Int)) (K ⟨(eV 13 q.2.2 s.sl).set q.1 (pk e xs y own),s.bs⟩)
      else none
     else none
   |_,_=>none
  else none
 else none
def nt(own:List (List Nat)):List (List Nat):=own.filterMap fun p=>match p with
 |(j+1)::p=>some (j::p)
 |_=>none
def Ty.bH:Ty->List (List Nat)->Bool
 | .sl _ t,own=>t.flat&&hN own []
 | .pair a b,own=>a.bH (z87 own [0])&&b.bH (nt own)
 | .aP _ _ _,_=>false
 | .arr _ t,_=>t.flat
 |_,_=>true
def aX.bH(B:aX):Bool:= !B.t.bf&&B.t.bH B.own
def SV.bH(bs:List (Option aX)):SV->Bool
 | .af t _ own=>t.bH own
 | .view _ _| .cap _ _ _ _ _=>false
 | .ptr id _ _=>match bs.getD id none with
   |some B=>B.bH
   |none=>false
 |_=>true
def hold(bs:List (Option aX))(l:List SV):List SV:=bif l.all (SV.bH bs) then l else [.undef]
def Bb:Option aX->Option aX
 |some B=>bif B.bH then some B else none
 |none=>none
def State.bH(x:Nat)(s:State):State:=⟨(s.sl.set x [.undef]).map (hold s.bs),s.bs.map Bb⟩
def lK(E:Env)(x d:Nat)(T T':TypeId)(i vo:Operand)(s:State)(K:State->Option R):Option R:=
 match s.slot x with
 | [.af (.sl e t) xs own]=>bif hN own [] then
     match E.ty T,E.ty T' with
     |some u,some w=>bif u.bE (.sl e t)&&(w.bE t&&Nat.ble (d+1) s.sl.length) then
       (s.ax i).num fun n=>((s.aG (some d) [.undef]).ax vo).el t fun _=>za n (List.length (xs:List (El t))) (K ((s.aG (some d) [.undef]).bH x))
      else none
     |_,_=>none
   else none
 |_=>none
def lH(o:Oper):Bool:=
 match o.dst,o.guard with
 |none,none=>true
 |_,_=>false
def ep(E:Env)(oA oS:Oper)(s:State)(K:State->Option R):Option R:=
 match oA.op,oS.op with
 | .indexAddr T (.tmp x) i,.store T' (.tmp d) vo=>bif isDst oA d&&(!(Nat.beq x d)&&lH oS) then lK E x d T T' i vo s K else none
 |_,_=>none
def zS{α:Type}:List α->Option (List α×α×α)
 | []=>none
 | [_]=>none
 | [a,b]=>some ([],a,b)
 |a::r=>match zS r with
  |some (l,x,y)=>some (a::l,x,y)
  |none=>none
def fH(E:Env)(C:FuncId->bg R)(ops:List Oper)(s:State)(K:State->Option R):Option R:=
 match zS ops with
 |some (l,oA,oS)=>steps E C ops l s fun s=>ep E oA oS s K
 |none=>none
def sC(E:Env)(C:FuncId->bg R)(i:Nat)(ops:Array Oper)(d:Bool)(s:State)(K:State->Option R):Option R:=
 jW E i s fun s=>sw (E.fr i) s fun s=>bif d then pF E C ops.toList ops.toList 0 s [] K else steps E C ops.toList ops.toList s K
def ev(E:Env)(C:FuncId->bg R)(k:Nat):Code->State->(Ex->State->Option R)->Option R
 | .skip,s,K=>K .normal s
 | .region i ops d,s,K=>match E.sp with
   |some (j,q)=>bif Nat.beq i j then(match d with
    |true=>none
    |false=>bif Nat.beq q.2.2 0 then fH E C ops.toList s (K .normal) else fL E q ops.toList s (K .normal)) else sC E C i ops d s (K .normal)
   |none=>sC E C i ops d s (K .normal)
 | .seq a b,s,K=>ev E C k a s fun e s=>match e with
   | .normal=>gS E k (zy b) s fun s=>ev E C k b s K
   |e=>K e s
 | .cond c a b,s,K=>match s.ax c with
   | .af .bool p _=>bif p then ev E C k a (s.aG (lM c) (bl true)) K else ev E C k b (s.aG (lM c) (bl false)) K
   |_=>none
 | .block id b,s,K=>ev E C k b s fun e s=>match e with
   | .exit j=>bif Nat.beq j id then K .normal s else K (.exit j) s
   |e=>K e s
 | .loop b,s,K=>jZ (E.cj (zy b)) (s.drop (E.dr (zy b))) fun s=>az (ev E C k b) (E.cj (zy b)) (E.fC (zy b)) k s K
 | .exit id,s,K=>K (.exit id) s
 | .ret,s,K=>K .ret s
 |_,_,_=>none
def dt(E:Env):State->List ResultVar->Option (List SV×State)
 |s,[]=>some ([],s)
 |s,.tmp t::r=>match dt E (s.close [(t,0)]) r with
  |some (l,s')=>some (one (s.slot t)::l,s')
  |none=>none
 |s,.cell p T::r=>match s.slot p,E.ty T with
  | [.ptr id u []],some t=>match s.box id with
    |some B=>if(t.bE B.t&& !u.bf)=true then match dt E (s.aC (some (id,{B with own:=[]}))) r with
      |some (l,s')=>some (.af B.t B.x B.own::l,s')
      |none=>none
     else none
    |none=>none
  |_,_=>none
def pE:List SV->List Nat
 | []=>[]
 | .ptr id _ _::r=>id::pE r
 |_::r=>pE r
def sF(s:State)(bx:Option aX)(l:List SV)(K:List SV->Option aX->Option R):Option R:=
 match bx,pE l with
 |some _,[]=>match s.box 0 with
  |some B=>K l (some B)
  |none=>none
 |none,[]=>K l none
 |none,[id]=>match s.box id with
  |some B=>K (l.map (SV.dM 0)) (some B)
  |none=>none
 |_,_=>none
def eo(E:Env)(l:List SV):List SV:=bif E.ro then l.map SV.shut else l
def aI:List Ty->List SV->List SV
 | .sl e t::r,.bK::q=> .af (.sl e t) ([]:List (El t)) []::aI r q
 |_::r,v::q=>v.shut::aI r q
 | [],q=>q
 |_,[]=>[]
def ew(E:Env)(C:FuncId->bg R)(k:Nat)(fn:Func)(code:Code)(vs:List SV)(bx:Option aX)(K:List SV->Option aX->Option R):Option R:=
 bif E.sp.isSome&&bx.isSome then none else
 let n:=fn.ntmps-vs.length
 let s:State:=⟨(aI E.ps vs).map (fun v=>[v])++List.replicate n [.undef],bx::List.replicate (vs.length+n) none⟩
 ev E C k code s fun e s=>match e with
  | .exit _=>none
  |_=>match dt E s fn.results.toList with
   |some (l,s')=>sF s' bx (eo E l) K
   |none=>none
end
end Go.Ref

namespace Go.Ref
open Go
theorem zg{R S:Type}{sv:SV}{t:Ty}{F:El t->Option R}{G:El t->Option S}{K:S->Option R}(h:∀y,F y=(G y).bind K):sv.el t F=(sv.el t G).bind K:=by
 cases sv with
 |af t' x own=>
  simp only[SV.el]
  split
  ·exact h _
  ·rfl
 |bK=>cases t<;>simp only[SV.el]<;>first|rfl|exact h _
 |_=>rfl
theorem zc{R S:Type}{b:Bool}{x y:Option R}{x' y':Option S}{K:S->Option R}(h:x=x'.bind K)(k:y=y'.bind K):(bif b then x else y)=(bif b then x' else y').bind K:=by
 cases b
 ·exact k
 ·exact h
theorem ze{R S:Type}{c:Prop}[Decidable c]{x y:Option R}{x' y':Option S}{K:S->Option R}(h:x=x'.bind K)(k:y=y'.bind K):(if c then x else y)=(if c then x' else y').bind K:=by
 split
 ·exact h
 ·exact k
section
variable {R:Type}
theorem Hx{op:BinOp}{k k':IntKind}{m n:Int}{K:List SV->Option R}:jK op k m k' n K=(jK op k m k' n some).bind K:=by
 unfold jK
 cases op<;>simp only<;>repeat(first|rfl|refine zc ?_ ?_|refine ze ?_ ?_)
theorem Hz{op:BinOp}{m n:ByteArray}{K:List SV->Option R}:jL op m n K=(jL op m n some).bind K:=by
 unfold jL
 cases op<;>simp only<;>repeat(first|rfl|refine zc ?_ ?_|refine ze ?_ ?_)
theorem Hw{E:Env}{op:BinOp}{T:TypeId}{x y:SV}{K:List SV->Option R}:jJ E op T x y K=(jJ E op T x y some).bind K:=by
 unfold jJ
 split
 ·refine ze rfl (zg fun a=>zg fun b=> ?_)
  split
  ·cases op<;>rfl
  ·rfl
 ·rfl
theorem DR{E:Env}{op:BinOp}{T:TypeId}{x y:SV}{S:Type}{F:List SV->Option R}{G:List SV->Option S}{K:S->Option R}(h:∀l,F l=(G l).bind K):bin E op T x y F=(bin E op T x y G).bind K:=by
 unfold bin
 split
 ·rw[Hx,Hx (K:=G),Option.bind_assoc];congr;funext l;exact h l
 ·rw[Hz,Hz (K:=G),Option.bind_assoc];congr;funext l;exact h l
 ·refine ze rfl ?_;cases op<;>simp only<;>first|exact h _|rfl
 ·refine ze rfl ?_;cases op<;>simp only<;>first|exact h _|rfl
 ·rw[Hw,Hw (K:=G),Option.bind_assoc];congr;funext l;exact h l
theorem sm{S:Type}{i:Int}{n:Nat}{x:Option R}{x':Option S}{K:S->Option R}(h:x=x'.bind K):za i n x=(za i n x').bind K:=by
 unfold za
 exact zc (zc h rfl) rfl
theorem FI{S:Type}{lo:Option SV}{m:Nat}{F:Nat->Option R}{G:Nat->Option S}{K:S->Option R}(h:∀l,F l=(G l).bind K):n6 lo m F=(n6 lo m G).bind K:=by
 unfold n6
 cases lo with
 |none=>exact h _
 |some v=>exact zg fun y=>zc (zc (h _) rfl) rfl
theorem OZ{S:Type}{lo hi:Option SV}{n:Nat}{F:Nat->Nat->Option R}{G:Nat->Nat->Option S}{K:S->Option R}(h:∀l h,F l h=(G l h).bind K):cutAt lo hi n F=(cutAt lo hi n G).bind K:=by
 unfold cutAt
 cases hi with
 |none=>exact FI fun l=>h _ _
 |some w=>exact zg fun y=>zc (zc (FI fun l=>h _ _) rfl) rfl
theorem OE{S:Type}{t:Ty}{F:El t->List (List Nat)->Option R}{G:El t->List (List Nat)->Option S}{K:S->Option R}(h:∀y o,F y o=(G y o).bind K):∀(l:List (Nat×SV×List (List Nat))) (x:El t) (own:List (List Nat)),jY t x own l F=(jY t x own l G).bind K
 | [],x,own=>by simpa [jY] using h x own
 |(i,v,ov)::r,x,own=>by
  simp only[jY]
  refine ze rfl ?_
  split
  ·refine zg fun y=> ?_
   split
   ·exact OE h r _ _
   ·rfl
  ·rfl
theorem OG{S:Type}{t:Ty}{F:List (El t)->Option R}{G:List (El t)->Option S}{K:S->Option R}(h:∀y,F y=(G y).bind K):∀(l:List (Nat×SV)) (x:List (El t)),pD t x l F=(pD t x l G).bind K
 | [],x=>by simpa [pD] using h x
 |(i,v)::r,x=>by
  simp only[pD]
  exact ze rfl (zg fun y=>OG h r _)
variable {S:Type} {F:Out->Option R} {G:Out->Option S} {K:S->Option R}
theorem Ux{u:Ty}{s:State}{id:Nat}{t:Ty}{p:List Nat}(h:∀y,F y=(G y).bind K):rJ u s id t p F=(rJ u s id t p G).bind K:=by
 unfold rJ
 split
 ·split
  ·split
   ·exact ze (zc (h _) rfl) rfl
   ·rfl
  ·rfl
 ·rfl
theorem Ul{u:Ty}{s:State}{id:Nat}{t:Ty}{p:List Nat}{v:SV}(h:∀y,F y=(G y).bind K):rH u s id t p v F=(rH u s id t p v G).bind K:=by
 unfold rH
 split
 ·split
  ·split
   ·exact ze (zg fun y=>zc (h _) rfl) rfl
   ·rfl
  ·rfl
 ·rfl
theorem Uj{t:Ty}{n:Int}{id:Nat}{r:Ty}{p:List Nat}(h:∀y,F y=(G y).bind K):wh t n id r p F=(wh t n id r p G).bind K:=by
 unfold wh
 split
 ·exact ze (sm (h _)) rfl
 ·rfl
theorem Uw{u:Ty}{B:aX}{t:Ty}{p:List Nat}(h:∀y,F y=(G y).bind K):sB u B t p F=(sB u B t p G).bind K:=by
 unfold sB
 split
 ·split
  ·exact ze (zc (h _) rfl) rfl
  ·rfl
 ·rfl
theorem YV{E:Env}{T:TypeId}{s:State}{la:Bool}{v:SV}(h:∀y,F y=(G y).bind K):load E T s la v F=(load E T s la v G).bind K:=by
 unfold load
 split
 ·split
  ·exact ze (h _) rfl
  ·refine ze (Ux h) ?_
   split
   ·refine ze ?_ (Uw h)
    split
    ·exact ze (zc (h _) (h _)) rfl
    ·rfl
   ·rfl
  ·rfl
 ·rfl
theorem Xk{E:Env}{T:TypeId}{s:State}{v:SV}{x:Operand}(h:∀y,F y=(G y).bind K):store E T s v x F=(store E T s v x G).bind K:=by
 unfold store
 split
 ·split
  ·refine ze (Ul h) ?_
   split
   ·refine ze ?_ rfl
    split
    ·refine ze (zg fun y=> ?_) rfl
     split
     ·exact h _
     ·rfl
    ·rfl
   ·rfl
  ·rfl
 ·rfl
theorem US{t:Option Ty}{v:SV}{j:Nat}(h:∀y,F y=(G y).bind K):wD t v j F=(wD t v j G).bind K:=by
 unfold wD
 split
 ·refine ze rfl ?_
  split
  ·refine ze ?_ rfl
   split
   ·exact ze rfl (h _)
   ·rfl
  ·rfl
 ·refine ze ?_ rfl
  split
  ·exact ze rfl (h _)
  ·rfl
 ·rfl
theorem LO{v:SV}{F':Int->Option R}{G':Int->Option S}{K:S->Option R}(h:∀n,F' n=(G' n).bind K):v.num F'=(v.num G').bind K:=by
 unfold SV.num
 split
 ·exact h _
 ·rfl
theorem UX{E:Env}{T:TypeId}{v i:SV}(h:∀y,F y=(G y).bind K):wF E T v i F=(wF E T v i G).bind K:=by
 unfold wF
 refine LO fun n=> ?_
 split
 ·exact zg fun y=>sm (h _)
 ·refine ze rfl ?_
  split
  ·exact ze (sm (h _)) rfl
  ·rfl
 ·exact zg fun y=>sm (h _)
 ·exact Uj h
 ·rfl
theorem UY{E:Env}{T:TypeId}{v i:SV}(h:∀y,F y=(G y).bind K):wG E T v i F=(wG E T v i G).bind K:=by
 unfold wG
 refine LO fun n=> ?_
 split
 ·exact zg fun y=>sm (h _)
 ·exact zg fun y=>sm (h _)
 ·rfl
theorem YG{E:Env}{T:TypeId}{v:SV}{lo hi:Option SV}(h:∀y,F y=(G y).bind K):jN E T v lo hi F=(jN E T v lo hi G).bind K:=by
 unfold jN
 split
 ·exact zg fun y=>OZ fun _ _=>h _
 ·exact zg fun y=>OZ fun _ _=>h _
 ·rfl
theorem Uo{E:Env}{T U:TypeId}{bo:Operand}{b x:SV}(h:∀y,F y=(G y).bind K):wo E T U bo b x F=(wo E T U bo b x G).bind K:=by
 unfold wo
 refine ze rfl ?_
 split
 ·refine ze rfl ?_
  split
  ·exact zg fun y=>zc (h _) rfl
  ·exact ze rfl (zg fun y=>zg fun z=>zc (h _) rfl)
  ·rfl
 ·rfl
theorem YS{E:Env}{T:TypeId}{x:SV}(h:∀y,F y=(G y).bind K):lG E T x F=(lG E T x G).bind K:=by
 unfold lG
 split
 ·exact zg fun y=>h _
 ·split
  ·exact h _
  ·exact zg fun y=>h _
 ·exact h _
 ·rfl
theorem WE{E:Env}{S' T:TypeId}{x:SV}(h:∀y,F y=(G y).bind K):fy E S' T x F=(fy E S' T x G).bind K:=by
 unfold fy
 split
 ·exact zg fun y=>h _
 ·exact zg fun y=>h _
 ·exact zg fun y=>h _
 ·rfl
theorem WD{E:Env}{S' T:TypeId}{s:State}{id n:Nat}{a b:Ty}(h:∀y,F y=(G y).bind K):eK E S' T s id n a b F=(eK E S' T s id n a b G).bind K:=by
 unfold eK
 split
 ·refine ze ?_ rfl
  split
  ·split
   ·exact zc (h _) rfl
   ·rfl
  ·rfl
 ·rfl
theorem HD{s:State}{dst:Option Nat}{t:Ty}{x:El t}{p:Ty}(h:∀y,F y=(G y).bind K):eX s dst t x p F=(eX s dst t x p G).bind K:=by
 unfold eX
 split
 ·split
  ·exact h _
  ·rfl
 ·rfl
theorem OL{s:State}{m:SV}{kt vt:Ty}{F:Nat->List (El kt×El vt)->Option R}{G:Nat->List (El kt×El vt)->Option S}{K:S->Option R}(h:∀n y,F n y=(G n y).bind K):ml s m kt vt F=(ml s m kt vt G).bind K:=by
 unfold ml
 split
 ·refine ze ?_ rfl
  split
  ·split
   ·exact h _ _
   ·rfl
  ·rfl
 ·rfl
theorem WY{E:Env}{T:TypeId}{s:State}{m i:SV}(h:∀y,F y=(G y).bind K):fD E T s m i F=(fD E T s m i G).bind K:=by
 unfold fD
 split
 ·exact OL fun _ _=>zg fun _=>h _
 ·rfl
theorem PT{E:Env}{T:TypeId}{s:State}{m i v:SV}(h:∀y,F y=(G y).bind K):gi E T s m i v F=(gi E T s m i v G).bind K:=by
 unfold gi
 split
 ·exact OL fun _ _=>zg fun _=>zg fun _=>zc rfl (h _)
 ·rfl
theorem W4{s:State}{m:SV}(h:∀y,F y=(G y).bind K):fF s m F=(fF s m G).bind K:=by
 unfold fF
 split
 ·split
  ·split
   ·exact zc (h _) (h _)
   ·rfl
  ·rfl
 ·rfl
theorem W3{E:Env}{T:TypeId}{s:State}{dst:Option Nat}{lo:Operand}{l c:SV}(h:∀y,F y=(G y).bind K):fE E T s dst lo l c F=(fE E T s dst lo l c G).bind K:=by
 unfold fE
 split
 ·exact ze rfl (zg fun n=>zg fun m=>zc (zc (zc (zc (h _) rfl) rfl) rfl) (zc (zc (zc (HD h) rfl) rfl) rfl))
 ·rfl
theorem D6{op:UnOp}{x:SV}(h:∀y,F y=(G y).bind K):vU op x F=(vU op x G).bind K:=by
 unfold vU
 split
 ·exact h _
 ·exact h _
 ·rfl
end
abbrev ae:=(R:Type)->FuncId->bg R
def ae.Nat(C:ae):Prop:=∀(R S:Type) (f:FuncId) l b (F:List SV->Option aX->Option R) (G:List SV->Option aX->Option S) (K:S->Option R),(∀r b,F r b=(G r b).bind K)->C R f l b F=(C S f l b G).bind K
section
variable {R S:Type} {F:Out->Option R} {G:Out->Option S} {K:S->Option R} {C:ae}
theorem xq(hC:C.Nat){s:State}{dst:Option Nat}{f:FuncId}{vs:List SV}(h:∀y,F y=(G y).bind K):cX (C R) s dst f vs F=(cX (C S) s dst f vs G).bind K:=by
 unfold cX
 split
 ·refine hC R S f _ _ _ _ K fun r b=> ?_
  split
  ·exact h _
  ·split
   ·split
    ·exact h _
    ·rfl
   ·rfl
 ·refine hC R S f _ _ _ _ K fun r b=> ?_
  split
  ·exact ze (h _) rfl
  ·rfl
 ·rfl
theorem WC{f:FuncId}{x:SV}(h:∀y,F y=(G y).bind K):gC f x F=(gC f x G).bind K:=by
 unfold gC
 split
 ·exact ze rfl (h _)
 ·rfl
theorem YB{f:FuncId}{x y:SV}(h:∀y,F y=(G y).bind K):kU f x y F=(kU f x y G).bind K:=by
 unfold kU
 split
 ·exact h _
 ·rfl
theorem YF{n id:Nat}{a b:Ty}{lo hi:Option SV}(h:∀y,F y=(G y).bind K):kV n id a b lo hi F=(kV n id a b lo hi G).bind K:=by
 unfold kV
 split
 ·rfl
 ·exact FI fun l=>h _
theorem OY{t:Ty}{s:State}{id n lo:Nat}{a b:Ty}{x:SV}{e:TypeId}(h:∀y,F y=(G y).bind K):dH t s id n lo a b x e F=(dH t s id n lo a b x e G).bind K:=by
 unfold dH
 refine ze (zg fun ys=> ?_) rfl
 split
 ·split
  ·exact zc (zc (h _) rfl) rfl
  ·rfl
 ·rfl
theorem YE{E:Env}{T:TypeId}{s:State}{id n:Nat}{t:Ty}{lo hi:Option SV}(h:∀y,F y=(G y).bind K):jM E T s id n t lo hi F=(jM E T s id n t lo hi G).bind K:=by
 unfold jM
 split
 ·refine ze ?_ rfl
  split
  ·split
   ·exact h _
   ·rfl
  ·rfl
 ·rfl
theorem WG{t:Ty}{s:State}{id n:Nat}{a b:Ty}{y:ByteArray}(h:∀y,F y=(G y).bind K):eL t s id n a b y F=(eL t s id n a b y G).bind K:=by
 unfold eL
 refine ze (ze ?_ rfl) rfl
 split
 ·split
  ·exact zc (h _) rfl
  ·rfl
 ·rfl
theorem WH{E:Env}{T:TypeId}{s:State}{d x:SV}(h:∀y,F y=(G y).bind K):copyV E T s d x F=(copyV E T s d x G).bind K:=by
 unfold copyV
 split
 ·split
  ·exact WG h
  ·exact OY h
 ·exact OY h
 ·rfl
theorem Pc{g:Bool}{x y:SV}(h:∀y,F y=(G y).bind K):eW g x y F=(eW g x y G).bind K:=by
 unfold eW
 split
 ·exact h _
 ·rfl
theorem PG{E:Env}{T:TypeId}(h:∀y,F y=(G y).bind K):iz E T F=(iz E T G).bind K:=by
 unfold iz
 split
 ·exact h _
 ·exact h _
theorem n0(hC:C.Nat){E:Env}{ops:List Oper}{o:Oper}{s:State}(h:∀y,F y=(G y).bind K):act E (C R) ops o s F=(act E (C S) ops o s G).bind K:=by
 unfold act
 split
 ·split
  ·exact zc (h _) (h _)
  ·split
   ·exact zc (h _) (h _)
   ·rfl
   ·exact PG h
   ·exact h _
 ·split
  ·exact h _
  ·rfl
  ·exact PG h
  ·exact h _
 ·split
  ·exact zc (h _) (h _)
  ·rfl
 ·exact DR fun l=>h _
 ·exact D6 h
 ·split
  ·exact WD h
  ·exact WE h
 ·exact YV h
 ·exact Xk h
 ·split
  ·exact ze rfl (h _)
  ·exact h _
  ·rfl
 ·exact US h
 ·exact UX h
 ·exact UY h
 ·split
  ·refine ze rfl (zg fun y=> ?_)
   split
   ·exact h _
   ·rfl
  ·rfl
 ·split
  ·split
   ·exact ze (YF h) rfl
   ·rfl
  ·exact YE h
  ·exact YG h
 ·split
  ·exact WC h
  ·exact YB h
  ·rfl
 ·split
  ·split
   ·exact h _
   ·rfl
  ·split
   ·split
    ·exact h _
    ·rfl
   ·rfl
  ·rfl
 ·split
  ·split
   ·exact zg fun y=>h _
   ·rfl
  ·rfl
 ·split
  ·exact ze rfl (OE (fun y o=>h _) _ _ _)
  ·rfl
 ·split
  ·exact ze rfl (zc (OG (fun y=>h _) _ _) rfl)
  ·rfl
 ·split
  ·refine ze ?_ ?_
   ·split
    ·exact h _
    ·rfl
   split
   ·exact h _
   ·rfl
   ·exact h _
   ·rfl
  ·rfl
 ·split
  ·exact HD h
  ·rfl
 ·exact WY h
 ·exact PT h
 ·exact PT h
 ·split
  ·exact zg fun y=>HD h
  ·rfl
 ·exact W4 h
 ·exact W3 h
 ·exact xq hC fun u=>h _
 ·split
  ·exact ze rfl (xq hC h)
  ·exact xq hC h
  ·rfl
 ·split
  ·exact WH h
  ·rfl
 ·split
  ·exact YS h
  ·rfl
 ·split
  ·exact Uo h
  ·rfl
 ·split
  ·exact Pc h
  ·rfl
 ·split
  ·exact Pc h
  ·rfl
 ·rfl
end
section
variable {R S:Type} {F:State->Option R} {G:State->Option S} {K:S->Option R} {C:ae}
theorem HH(hC:C.Nat){E:Env}{ops:List Oper}{o:Oper}{s:State}(h:∀y,F y=(G y).bind K):step E (C R) ops o s F=(step E (C S) ops o s G).bind K:=by
 unfold step
 simp only
 split
 ·exact n0 hC fun y=>h _
 ·split
  ·rfl
  ·split
   ·exact zc (zc (n0 hC fun y=>h _) (h _)) (zc (h _) (n0 hC fun y=>h _))
   ·exact h _
   ·rfl
theorem wc(hC:C.Nat){E:Env}{ops:List Oper}(h:∀y,F y=(G y).bind K):∀(l:List Oper) (s:State),steps E (C R) ops l s F=(steps E (C S) ops l s G).bind K
 | [],s=>h s
 |o::r,s=>by
  simp only[steps]
  exact HH hC fun s=>wc hC h r s
theorem Xi(hC:C.Nat){E:Env}{ops:List Oper}{o:Oper}{i:Nat}{s:State}{tr:List cr}{F:State->List cr->Option R}{G:State->List cr->Option S}(h:∀y t,F y t=(G y t).bind K):fK E (C R) ops o i s tr F=(fK E (C S) ops o i s tr G).bind K:=by
 unfold fK
 simp only
 split
 ·exact n0 hC fun y=>zc (h _ _) rfl
 ·split
  ·rfl
  ·split
   ·exact zc (zc (n0 hC fun y=>zc (h _ _) rfl) (zc (h _ _) rfl)) (zc (zc (h _ _) rfl) (n0 hC fun y=>zc (h _ _) rfl))
   ·exact zc (h _ _) rfl
   ·rfl
theorem FN(hC:C.Nat){E:Env}{ops:List Oper}(h:∀y,F y=(G y).bind K):∀(l:List Oper) (i:Nat) (s:State) (tr:List cr),pF E (C R) ops l i s tr F=(pF E (C S) ops l i s tr G).bind K
 | [],i,s,tr=>h s
 |o::r,i,s,tr=>by
  simp only[pF]
  exact Xi hC fun s tr=>FN hC h r (i+1) s tr
theorem vW{l:List Nat}{s:State}(h:∀y,F y=(G y).bind K):jZ l s F=(jZ l s G).bind K:=by
 unfold jZ
 exact zc (h _) rfl
end
theorem WX{R S:Type}{k:Nat}{F:Unit->Option R}{G:Unit->Option S}{K:S->Option R}(h:F ()=(G ()).bind K):gQ k F=(gQ k G).bind K:=by
 unfold gQ
 cases k
 ·rfl
 ·exact h
theorem YW{R S:Type}{F:State->Option R}{G:State->Option S}{K:S->Option R}{E:Env}{k r:Nat}{s:State}(h:∀y,F y=(G y).bind K):gS E k r s F=(gS E k r s G).bind K:=by
 unfold gS
 split
 ·exact h _
 ·exact vW fun s=>WX (h _)
theorem Zb{R S:Type}{F:State->Option R}{G:State->Option S}{K:S->Option R}{E:Env}{r:Nat}{s:State}(h:∀y,F y=(G y).bind K):jW E r s F=(jW E r s G).bind K:=by
 unfold jW
 split
 ·exact h _
 ·split
  ·refine ze ?_ rfl
   split
   ·split
    ·exact zc (h _) rfl
    ·rfl
   ·rfl
  ·rfl
theorem Oo{R S:Type}{F:State->Option R}{G:State->Option S}{K:S->Option R}(h:∀y,F y=(G y).bind K):∀(l:List Nat) (s:State),sw l s F=(sw l s G).bind K
 | [],s=>h s
 |id::r,s=>by
  simp only[sw]
  unfold zQ
  split
  ·exact ze rfl (Oo h r _)
  ·rfl
section
variable {R S:Type} {F:Ex->State->Option R} {G:Ex->State->Option S} {K:S->Option R} {C:ae}
theorem Pb{body:State->(Ex->State->Option R)->Option R}{body':State->(Ex->State->Option S)->Option S}{l lx:List Nat}
 (hb:∀(F:Ex->State->Option R) (G:Ex->State->Option S),(∀e s,F e s=(G e s).bind K)->∀s,body s F=(body' s G).bind K) (h:∀e s,F e s=(G e s).bind K):
 ∀(k:Nat) (s:State),az body l lx k s F=(az body' l lx k s G).bind K
 |0,_=>rfl
 |k+1,s=>by
  simp only[az]
  refine hb _ _ (fun e s=> ?_) s
  cases e with
  |normal=>exact vW fun s=>Pb hb h k s
  |exit id=>exact vW fun s=>h _ _
  |ret=>exact vW fun s=>h _ _
theorem PQ{E:Env}{q:Nat×Nat×Nat}{ops:List Oper}{s:State}{F:State->Option R}{G:State->Option S}{K:S->Option R}(h:∀s,F s=(G s).bind K):fL E q ops s F=(fL E q ops s G).bind K:=by
 unfold fL
 refine zc (zc ?_ rfl) rfl
 split
 ·refine zc (zc ?_ rfl) rfl
  unfold za
  exact zc (zc (h _) rfl) rfl
 ·rfl
theorem Xa{E:Env}{oA oS:Oper}{s:State}{F:State->Option R}{G:State->Option S}{K:S->Option R}(h:∀s,F s=(G s).bind K):ep E oA oS s F=(ep E oA oS s G).bind K:=by
 unfold ep
 split
 ·refine zc ?_ rfl
  unfold lK
  split
  ·refine zc ?_ rfl
   split
   ·refine zc (LO fun n=>zg fun y=> ?_) rfl
    unfold za
    exact zc (zc (h _) rfl) rfl
   ·rfl
  ·rfl
 ·rfl
theorem PK(hC:C.Nat){E:Env}{ops:List Oper}{s:State}{F:State->Option R}{G:State->Option S}(h:∀s,F s=(G s).bind K):fH E (C R) ops s F=(fH E (C S) ops s G).bind K:=by
 unfold fH
 split
 ·exact wc hC (fun s=>Xa h) _ _
 ·rfl
theorem mj(hC:C.Nat){E:Env}{k:Nat}:∀(c:Code) (F:Ex->State->Option R) (G:Ex->State->Option S),(∀e s,F e s=(G e s).bind K)->∀s,ev E (C R) k c s F=(ev E (C S) k c s G).bind K
 | .skip,F,G,h,s=>h _ _
 | .region i ops d,F,G,h,s=>by
   simp only[ev]
   have key:sC E (C R) i ops d s (F .normal)=(sC E (C S) i ops d s (G .normal)).bind K:=Zb fun s=>Oo (fun s=>zc (FN hC (fun s=>h _ _) _ _ _ _) (wc hC (fun s=>h _ _) _ _)) _ _
   split
   ·refine zc ?_ key
    cases d with
    |true=>rfl
    |false=>exact zc (PK hC fun s=>h _ _) (PQ fun s=>h _ _)
   ·exact key
 | .seq a b,F,G,h,s=>by
   simp only[ev]
   refine mj hC a _ _ (fun e s=> ?_) s
   cases e with
   |normal=>exact YW fun s=>mj hC b _ _ h s
   |exit id=>exact h _ _
   |ret=>exact h _ _
 | .cond c a b,F,G,h,s=>by
   simp only[ev]
   split
   ·exact zc (mj hC a _ _ h _) (mj hC b _ _ h _)
   ·rfl
 | .block id b,F,G,h,s=>by
   simp only[ev]
   refine mj hC b _ _ (fun e s=> ?_) s
   cases e with
   |normal=>exact h _ _
   |exit j=>exact zc (h _ _) (h _ _)
   |ret=>exact h _ _
 | .loop b,F,G,h,s=>by
   simp only[ev]
   exact vW fun s=>Pb (fun F G h s=>mj hC b F G h s) h k s
 | .exit id,F,G,h,s=>h _ _
 | .ret,F,G,h,s=>h _ _
 | .rangeFunc ..,F,G,h,s=>rfl
 | .scope _,F,G,h,s=>rfl
 | .label _,F,G,h,s=>rfl
 | .goto _,F,G,h,s=>rfl
 | .refuse _,F,G,h,s=>rfl
end
theorem zs{R S:Type}{x:Option R}{y:Option S}{K:S->Option R}(h:x=y.bind K){z:R}(hz:x=some z):∃w,y=some w/\K w=some z:=by
 rw[h] at hz
 exact Option.bind_eq_some_iff.1 hz
end Go.Ref

namespace Go.Ref
open Go
def cq(t:Ty)(cs:List Value):Value:=if t.agg=true then .agg cs.toArray else cs.headD undef
def aV(X:ak)(pl:Place)(e:TypeId)(k n:Nat)(v:Value):Prop:=
 (v= .slice none 0 0/\n=0)\/∃g cap cur,v= .slice (some ⟨g,0,none⟩) n cap/\X.w.heap[g]? =some (.cells cur e (0,0))/\n<=cap/\cap<=maxLen/\cur.size=cap*k/\X.ow g= .row pl (n*k)
def aU(X:ak)(pl:List Nat->Place)(t:Ty)(x:El t)(cs:List Value)(own:List (List Nat)):Prop:=
 ∀p∈own,∃e t' xs v,t.cS p/\El.get t p x=some ⟨.sl e t',xs⟩/\cs[t.off p]? =some v/\aV X (pl p) e t'.cells (List.length xs) v
def iA(t:Ty)(p:List Nat)(r:Nat)(v:Value):Prop:=
 match t,p with
 | .aP .mp _ _,_=>v= .map (some r)
 | .aP (.ey n) _ _,[]=>∃cap,v= .slice (some ⟨r,0,none⟩) n cap/\n<=cap
 | .aP (.ey n) a _,[l]=>∃cap off,v= .slice (some ⟨r,off,none⟩) (n-l) cap/\n-l<=cap/\l<=n/\((n=l/\off=0)\/off=l*a.cells)
 | .aP (.j7 f) _ _,[]=>v= .func (.func f) #[] #[.pointer (some ⟨r,0,none⟩)]
 | .aP .row a _,[i]=>v= .pointer (some ⟨r,i*a.cells,none⟩)
 |t,p=>v= .pointer (some ⟨r,t.off p,none⟩)/\t.cS p
theorem zu{t:Ty}{p:List Nat}{r:Nat}{v:Value}(h:t.bf=false):iA t p r v↔v= .pointer (some ⟨r,t.off p,none⟩)/\t.cS p:=by
 unfold iA
 split
 all_goals first
  |exact Iff.rfl
  |simp [Ty.bf] at h
theorem wi{t:Ty}{p:List Nat}{r:Nat}{v:Value}(h:t.jr=false):iA t p r v↔v= .pointer (some ⟨r,t.off p,none⟩)/\t.cS p:=by
 unfold iA
 split
 all_goals first
  |exact Iff.rfl
  |simp [Ty.jr] at h
def ar(X:ak)(pl:List Nat->Place):SV->Value->Prop
 | .undef,_=>True
 | .skip,v=>v=Go.undef
 | .bK,v=>v= .slice none 0 0
 | .dL,v=>v= .pointer none
 | .af t x own,v=>∃cs,aN X t x cs/\v=cq t cs/\aU X pl t x cs own
 | .ptr id t p,v=>∃r,X.β id=some r/\iA t p r v
 | .view t x,v=>∃ad cs,v= .pointer (some ad)/\ad.spot=none/\aN X t x cs/\∀i u,cs[i]? =some u->X.au (ad.add i) u
 | .cap f t x u y,v=>∃ad jl cs cI,v= .func (.func f) #[] #[.pointer (some ad),.pointer (some jl)]/\(ad.spot=none/\aN X t x cs/\∀i w,cs[i]? =some w->X.au (ad.add i) w)/\(jl.spot=none/\aN X u y cI/\∀i w,cI[i]? =some w->X.au (jl.add i) w)
 | .over,v=>v= .tuple #[.bool false]
theorem l9{X Y:ak}{pl eD:List Nat->Place}(h:∀a v,X.au a v->Y.au a v){f:Nat}{t u:Ty}{x:El t}{y:El u}{v:Value}(hr:ar X pl (.cap f t x u y) v):ar Y eD (.cap f t x u y) v:=by
 obtain⟨ad,jl,cs,cI,h1,⟨h2,h3,h4⟩,h5,h6,h7⟩:=hr
 exact⟨ad,jl,cs,cI,h1,⟨h2,h3.aj h,fun i w hi=>h _ _ (h4 i w hi)⟩,h5,h6.aj h,fun i w hi=>h _ _ (h7 i w hi)⟩
def bQ(X:ak)(pl:Nat->List Nat->Place)(l:List SV)(v:Value):Prop:=
 match l with
 | [s]=>ar X (pl 0) s v
 |l=>∃vs:Array Value,v= .tuple vs/\vs.size=l.length/\∀(j:Nat) s u,l[j]? =some s->vs[j]? =some u->ar X (pl j) s u
def ct(X:ak)(t:Ty)(x:El t)(v:Value):Prop:=∃cs,aN X t x cs/\v=cq t cs
def ci(X:ak)(r:Nat)(pl:List Nat->Place):(t:Ty)->El t->List (List Nat)->Prop
 | .aP .iter _ _,x,_=>X.w.heap[r]? =some (.stringIter x.1 x.2)
 | .aP .mp kt vt,x,_=>∃es clock,X.w.heap[r]? =some (.map es clock)/\es.size=List.length x/\∀(i:Nat) (q:El kt×El vt) (e:MapEntry),x[i]? =some q->es[i]? =some e->ct X kt q.1 e.key/\ct X vt q.2 e.val
 | .aP .row t _,xs,_=>∃cs T,X.w.heap[r]? =some (.cells cs T (0,0))/\cs.size=List.length xs*t.cells/\∀(j:Nat) (x:El t),xs[j]? =some x->aN X t x ((cs.toList.drop (j*t.cells)).take t.cells)
 | .aP (.dk T e) _ _,x,own=>(∃o,X.w.heap[r]? =some o)/\([]∈own->∃v,lT T e r v (Lib.strCells x) X.w/\∀g,v.ownBlock=some g->X.ow g= .row (pl []) 0)
 | .aP _ _ _,_,_=>False
 |t,x,own=>∃cs T,X.w.heap[r]? =some (.cells cs T (0,0))/\aN X t x cs.toList/\aU X pl t x cs.toList own
theorem ci.plain{X:ak}{r:Nat}{pl:List Nat->Place}{t:Ty}{x:El t}{own:List (List Nat)}(hs:t.bf=false):ci X r pl t x own↔∃cs T,X.w.heap[r]? =some (.cells cs T (0,0))/\aN X t x cs.toList/\aU X pl t x cs.toList own:=by
 cases t<;>first|exact Iff.rfl|simp [Ty.bf] at hs
theorem ci.of{X:ak}{r:Nat}{pl:List Nat->Place}{t:Ty}{x:El t}{own:List (List Nat)}{cs:Array Value}{T:TypeId}(hs:t.bf=false)(h1:X.w.heap[r]? =some (.cells cs T (0,0)))(h2:aN X t x cs.toList)(h3:aU X pl t x cs.toList own):ci X r pl t x own:=(ci.plain hs).2 ⟨cs,T,h1,h2,h3⟩
theorem ct.mono{X Y:ak}(h:∀a v,X.au a v->Y.au a v){t:Ty}{x:El t}{v:Value}(hr:ct X t x v):ct Y t x v:=by
 obtain⟨cs,h1,h2⟩:=hr
 exact⟨cs,h1.aj h,h2⟩
theorem ci.lt{X:ak}{r:Nat}{pl:List Nat->Place}{t:Ty}{x:El t}{own:List (List Nat)}(h:ci X r pl t x own):r<X.w.heap.size:=by
 have key:∀o,X.w.heap[r]? =some o->r<X.w.heap.size:=fun o ho=>(Array.getElem?_eq_some_iff.1 ho).1
 unfold ci at h
 split at h
 ·exact key _ h
 ·obtain⟨es,c,h1,_⟩:=h;exact key _ h1
 ·obtain⟨cs,T,h1,_⟩:=h;exact key _ h1
 ·obtain⟨⟨o,ho⟩,_⟩:=h;exact key _ ho
 ·exact h.elim
 ·obtain⟨cs,T,h1,_⟩:=h;exact key _ h1
theorem ci.move{X Y:ak}{r:Nat}{pl eD:List Nat->Place}{t:Ty}{x:El t}{own:List (List Nat)}(hs:∀a v,X.au a v->Y.au a v)(hh:Y.w.heap[r]? =X.w.heap[r]?)
 (ho:∀cs,aU X pl t x cs own->aU Y eD t x cs own) (hg: []∈own->∀g o,X.w.heap[g]? =some o->X.ow g= .row (pl []) 0->Y.w.heap[g]? =some o/\Y.ow g= .row (eD []) 0) (h:ci X r pl t x own):ci Y r eD t x own:=by
 unfold ci at h⊢
 split at h
 ·exact hh.trans h
 ·obtain⟨es,c,h1,h2,h3⟩:=h
  exact⟨es,c,hh.trans h1,h2,fun i q e hq he=>⟨(h3 i q e hq he).1.mono hs,(h3 i q e hq he).2.mono hs⟩⟩
 ·obtain⟨cs,T,h1,h2,h3⟩:=h
  exact⟨cs,T,hh.trans h1,h2,fun j x hj=>(h3 j x hj).aj hs⟩
 ·obtain⟨⟨o,h1⟩,h2⟩:=h
  refine⟨⟨o,hh.trans h1⟩,fun hm=> ?_⟩
  obtain⟨v,h3,h4⟩:=h2 hm
  refine⟨v,h3.same hh (fun g o hv ho=>(hg hm g o ho (h4 g hv)).1),fun g hv=> ?_⟩
  obtain⟨cap,cur,qX⟩:∃cap cur,X.w.heap[g]? =some (.cells cur cap (0,0)):=by
   rcases h3.own.2 with⟨hn,_⟩|⟨g',cap,cur,lz,_,qX,_⟩
   ·rw[hn] at hv;simp [Value.ownBlock] at hv
   ·rw[lz] at hv
    simp [Value.ownBlock] at hv
    subst hv
    exact⟨_,_,qX⟩
  exact(hg hm g _ qX (h4 g hv)).2
 ·exact h.elim
 ·obtain⟨cs,T,h1,h2,h3⟩:=h
  exact⟨cs,T,hh.trans h1,h2.aj hs,ho _ h3⟩
def bd(X:ak)(id r:Nat)(B:aX):Prop:=X.ow r= .box id/\ci X r (.b id) B.t B.x B.own
theorem bd.cells{X:ak}{id r:Nat}{B:aX}(h:bd X id r B)(hs:B.t.bf=false):∃cs T,X.w.heap[r]? =some (.cells cs T (0,0))/\aN X B.t B.x cs.toList/\X.ow r= .box id/\aU X (.b id) B.t B.x cs.toList B.own:=by
 obtain⟨cs,T,h1,h2,h3⟩:=(ci.plain hs).1 h.2
 exact⟨cs,T,h1,h2,h.1,h3⟩
structure Rel(X:ak)(s:State)(a:Act):Prop where
 size:s.sl.length=a.tmps.size
 dP:s.bs.length=s.sl.length+1
 bh:∀(i:Nat) l v,s.sl[i]? =some l->a.tmps[i]? =some v->bQ X (.c i) l v
 boxes:∀(id:Nat) B,s.bs[id]? =some (some B)->∃r,X.β id=some r/\bd X id r B
 live:∀(i:Nat) l id t p,s.sl[i]? =some l->SV.ptr id t p∈l->∃B,s.bs[id]? =some (some B)
 defers:a.defers=[]
theorem sA{w:World}{g:Nat}{o:Obj}(h:w.heap[g]? =some o):g<w.heap.size:=(Array.getElem?_eq_some_iff.1 h).1
theorem bQ.fk{X Y:ak}{pl eD:Nat->List Nat->Place}{l:List SV}{v:Value}(hr:bQ X pl l v)(h:∀(j:Nat) s u,l[j]? =some s->ar X (pl j) s u->ar Y (eD j) s u):bQ Y eD l v:=by
 match l,hr with
 | [s],hr=>exact h 0 s v (by simp) hr
 | [],⟨vs,h1,h2,h3⟩=>exact⟨vs,h1,h2,fun j s u hs hu=>h j s u hs (h3 j s u hs hu)⟩
 |x::y::r,⟨vs,h1,h2,h3⟩=>exact⟨vs,h1,h2,fun j s u hs hu=>h j s u hs (h3 j s u hs hu)⟩
def bP(s:State):Place->Prop
 | .c i j p=>∃l t x own,s.sl[i]? =some l/\l[j]? =some (.af t x own)/\p∈own
 | .b id p=>∃B,s.bs[id]? =some (some B)/\p∈B.own
 | .r _ _=>False
structure Mod(s:State)(X Y:ak):Prop where
 au:∀a v,X.au a v->Y.au a v
 size:X.w.heap.size<=Y.w.heap.size
 os:Y.w.os=X.w.os
 tape:Y.w.tape=X.w.tape
 output:Y.w.output=X.w.output
 β0:Y.β 0=X.β 0
 β:∀(id:Nat) B,s.bs[id]? =some (some B)->Y.β id=X.β id
 hJ:∀g,g<X.w.heap.size->(Y.ow g=X.ow g/\Y.w.heap[g]? =X.w.heap[g]?)\/∃pl n,X.ow g= .row pl n/\¬bP s pl
theorem Mod.ext{s:State}{X Y:ak}(h:Mod s X Y):Ext X Y:=
 ⟨h.au,h.size,h.os,h.tape,h.output,h.β0,fun g hg bL=>by
   rcases h.hJ g hg with e|⟨pl,n,h1,_⟩
   ·exact e
   ·rw[h1] at bL;exact bL.elim⟩
theorem Mod.refl(s:State)(X:ak):Mod s X X:=⟨fun _ _ h=>h,Nat.le_refl _,rfl,rfl,rfl,rfl,fun _ _ _=>rfl,fun _ _=> .inl ⟨rfl,rfl⟩⟩
theorem aV.mod{s:State}{X Y:ak}(h:Mod s X Y){pl:Place}{e:TypeId}{k n:Nat}{v:Value}(hf:bP s pl)(ho:aV X pl e k n v):aV Y pl e k n v:=by
 rcases ho with ho|⟨g,cap,cur,h1,h2,h3,h4,h5,h6⟩
 ·exact .inl ho
 ·rcases h.hJ g (sA h2) with⟨k1,k2⟩|⟨eD,n',k1,k2⟩
  ·exact .inr ⟨g,cap,cur,h1,k2.trans h2,h3,h4,h5,k1.trans h6⟩
  ·rw[h6] at k1;injection k1 with k1;rw[k1] at hf;exact absurd hf k2
theorem aU.mod{s:State}{X Y:ak}(h:Mod s X Y){pl:List Nat->Place}{t:Ty}{x:El t}{cs:List Value}{own:List (List Nat)}(hf:∀p∈own,bP s (pl p))(ho:aU X pl t x cs own):aU Y pl t x cs own:=fun p hp=>by
 obtain⟨e,t',xs,v,g0,g1,g2,g3⟩:=ho p hp
 exact⟨e,t',xs,v,g0,g1,g2,g3.mod h (hf p hp)⟩
theorem ar.mod{s:State}{X Y:ak}(h:Mod s X Y){pl:List Nat->Place}{sv:SV}{v:Value}(hf:∀t x own,sv= .af t x own->∀p∈own,bP s (pl p))(hl:∀id t p,sv= .ptr id t p->∃B,s.bs[id]? =some (some B))(hr:ar X pl sv v):ar Y pl sv v:=by
 cases sv with
 |undef=>trivial
 |skip=>exact hr
 |bK=>exact hr
 |dL=>exact hr
 |over=>exact hr
 |af t x own=>
  obtain⟨cs,h1,h2,h3⟩:=hr
  exact⟨cs,h1.aj h.au,h2,h3.mod h (hf t x own rfl)⟩
 |ptr id t p=>
  obtain⟨r,h1,h2⟩:=hr
  obtain⟨B,hB⟩:=hl id t p rfl
  exact⟨r,(h.β id B hB).trans h1,h2⟩
 |view t x=>
  obtain⟨ad,cs,h1,h2,h3,h4⟩:=hr
  exact⟨ad,cs,h1,h2,h3.aj h.au,fun i u hi=>h.au _ _ (h4 i u hi)⟩
 |cap f t x u y=>exact l9 h.au hr
theorem Rel.mod{s:State}{X Y:ak}{a:Act}(hr:Rel X s a)(h:Mod s X Y):Rel Y s a where
 size:=hr.size
 dP:=hr.dP
 bh:=fun i l v hl hv=>(hr.bh i l v hl hv).fk fun j sv u hm fc=>fc.mod h (fun t x own e p hp=>⟨l,t,x,own,hl,e▸hm,hp⟩) (fun id t p e=>hr.live i l id t p hl (e▸List.mem_of_getElem? hm))
 boxes:=fun id B hB=>by
  obtain⟨r,h1,h4,h2⟩:=hr.boxes id B hB
  have hk:Y.ow r=X.ow r/\Y.w.heap[r]? =X.w.heap[r]? :=by
   rcases h.hJ r h2.lt with hk|⟨eD,n',k1,k2⟩
   ·exact hk
   ·rw[h4] at k1;cases k1
  exact⟨r,(h.β id B hB).trans h1,hk.1.trans h4,h2.move h.au hk.2 (fun cs h5=>h5.mod h fun p hp=>⟨B,hB,hp⟩) fun hm g o ho hw=>by
   rcases h.hJ g (sA ho) with e|⟨pl,n,e1,e2⟩
   ·exact⟨e.2.trans ho,e.1.trans hw⟩
   ·rw[hw] at e1;injection e1 with e1;exact absurd (e1▸(⟨B,hB,hm⟩:bP s (.b id []))) e2⟩
 live:=hr.live
 defers:=hr.defers
structure cQ(s:State)(X Y:ak):Prop where
 size:X.w.heap.size<=Y.w.heap.size
 os:Y.w.os=X.w.os
 tape:Y.w.tape=X.w.tape
 output:Y.w.output=X.w.output
 hJ:∀g,g<X.w.heap.size->Y.ow g=X.ow g/\Y.w.heap[g]? =X.w.heap[g]?
 β0:Y.β 0=X.β 0
 β:∀(id:Nat) B,s.bs[id]? =some (some B)->Y.β id=X.β id
theorem cQ.au{s:State}{X Y:ak}(h:cQ s X Y){a:Addr}{v:Value}(hs:X.au a v):Y.au a v:=by
 have aK:=ak.dN hs
 obtain⟨h1,h2⟩:=h.hJ _ aK
 refine⟨hs.1,?_,?_⟩
 ·have:=hs.2.1
  simp only[World.cell?] at this⊢
  rw[h2];exact this
 ·rw[h1];exact hs.2.2
theorem cQ.mod{s:State}{X Y:ak}(h:cQ s X Y):Mod s X Y:=
 ⟨fun _ _=>h.au,h.size,h.os,h.tape,h.output,h.β0,h.β,fun g hg=> .inl (h.hJ g hg)⟩
theorem cQ.ext{s:State}{X Y:ak}(h:cQ s X Y):Ext X Y:=h.mod.ext
theorem aV.cj{s:State}{X Y:ak}(h:cQ s X Y){pl:Place}{e:TypeId}{k n:Nat}{v:Value}(ho:aV X pl e k n v):aV Y pl e k n v:=by
 rcases ho with ho|⟨g,cap,cur,h1,h2,h3,h4,h5,h6⟩
 ·exact .inl ho
 ·obtain⟨k1,k2⟩:=h.hJ g (sA h2)
  exact .inr ⟨g,cap,cur,h1,k2.trans h2,h3,h4,h5,k1.trans h6⟩
theorem aU.cj{s:State}{X Y:ak}(h:cQ s X Y){pl:List Nat->Place}{t:Ty}{x:El t}{cs:List Value}{own:List (List Nat)}(ho:aU X pl t x cs own):aU Y pl t x cs own:=fun p hp=>by
 obtain⟨e,t',xs,v,g0,g1,g2,g3⟩:=ho p hp
 exact⟨e,t',xs,v,g0,g1,g2,g3.cj h⟩
theorem Rel.cj{s:State}{X Y:ak}{a:Act}(hr:Rel X s a)(h:cQ s X Y):Rel Y s a:=hr.mod h.mod
theorem Rel.put{X:ak}{s:State}{a:Act}(hr:Rel X s a){d:Option Nat}{l:List SV}{v:Value}(h:∀d',d=some d'->bQ X (.c d') l v)(hl:∀id t p,SV.ptr id t p∈l->∃B,s.bs[id]? =some (some B)):Rel X (s.aG d l) (a.put d v):=by
 cases d with
 |none=>exact hr
 |some d=>
  refine⟨by simpa [State.aG,Act.put] using hr.size,by simpa [State.aG] using hr.dP,fun i l' v' hi hv=> ?_,hr.boxes,fun i l' id t p hi hm=> ?_,hr.defers⟩
  ·simp only[State.aG,List.getElem?_set] at hi
   simp only[Act.put,Array.getElem?_setIfInBounds] at hv
   by_cases e:d=i
   ·subst e
    simp only[if_true] at hi hv
    split at hi
    ·split at hv
     ·cases hi;cases hv;exact h d rfl
     ·cases hv
    ·cases hi
   ·rw[if_neg e] at hi hv
    exact hr.bh i l' v' hi hv
  ·simp only[State.aG,List.getElem?_set] at hi
   split at hi
   ·split at hi
    ·cases hi;exact hl id t p hm
    ·cases hi
   ·exact hr.live i l' id t p hi hm
theorem Rel.skip{X:ak}{s:State}{a:Act}(hr:Rel X s a)(d:Option Nat):Rel X (s.aG d [.skip]) (a.put d Go.undef):=
 hr.put (fun _ _=>rfl) (fun id t p h=>by simp at h)
structure cm(s:State)(X Y:ak):Prop where
 w:Y.w=X.w
 β:Y.β=X.β
 ow:∀g,Y.ow g=X.ow g\/∃pl n q,X.ow g= .row pl n/\¬bP s pl/\Y.ow g= .row q n
theorem cm.au{s:State}{X Y:ak}(h:cm s X Y){a:Addr}{v:Value}:X.au a v↔Y.au a v:=by
 unfold ak.au
 rw[h.w]
 rcases h.ow a.block with e|⟨pl,n,q,h1,_,h2⟩
 ·rw[e]
 ·rw[h1,h2];rfl
theorem cm.mod{s:State}{X Y:ak}(h:cm s X Y):Mod s X Y:=
 ⟨fun _ _=>h.au.1,by rw[h.w];exact Nat.le_refl _,by rw[h.w],by rw[h.w],by rw[h.w],by rw[h.β],fun _ _ _=>by rw[h.β],fun g _=>by
   rcases h.ow g with e|⟨pl,n,q,h1,h2,_⟩
   ·exact .inl ⟨e,by rw[h.w]⟩
   ·exact .inr ⟨pl,n,h1,h2⟩⟩
theorem cm.ext{s:State}{X Y:ak}(h:cm s X Y):Ext X Y:=h.mod.ext
theorem cm.refl(s:State)(X:ak):cm s X X:=⟨rfl,rfl,fun _=> .inl rfl⟩
theorem xy{v:SV}{id:Nat}{t:Ty}{p:List Nat}:v.shut= .ptr id t p->v= .ptr id t p:=by cases v<;>simp [SV.shut]
theorem ar.shut{X:ak}{pl eD:List Nat->Place}{sv:SV}{v:Value}(hr:ar X pl sv v):ar X eD sv.shut v:=by
 cases sv with
 |af t x own=>
  obtain⟨cs,h1,h2,_⟩:=hr
  exact⟨cs,h1,h2,fun p hp=>by cases hp⟩
 |_=>exact hr
theorem Od:∀(l:List SV) (j:Nat),(bn l j).length=l.length
 | [],_=>rfl
 |_::_,0=>rfl
 |_::r,j+1=>by simp [bn,Od r j]
theorem xp:∀(l:List SV) (j i:Nat),(bn l j)[i]? =if i=j then(l[i]?).map SV.shut else l[i]?
 | [],j,i=>by simp [bn]
 |v::r,0,0=>by simp [bn]
 |v::r,0,i+1=>by simp [bn]
 |v::r,j+1,0=>by simp [bn]
 |v::r,j+1,i+1=>by
  simp only[bn,List.getElem?_cons_succ,xp r j i]
  simp
theorem bQ.bn{X:ak}{pl:Nat->List Nat->Place}{l:List SV}{v:Value}(hr:bQ X pl l v)(j:Nat):bQ X pl (bn l j) v:=by
 match l,hr with
 | [s],hr=>
   cases j with
   |zero=>exact hr.shut
   |succ j=>exact hr
 | [],hr=>exact hr
 |x::y::r,⟨vs,h1,h2,h3⟩=>
  have hlen:∃x' y' r',Ref.bn (x::y::r) j=x'::y'::r':=by
   match j with
   |0=>exact⟨_,_,_,rfl⟩
   |1=>exact⟨_,_,_,rfl⟩
   |j+2=>exact⟨_,_,_,rfl⟩
  obtain⟨x',y',r',he⟩:=hlen
  have hl:=Od (x::y::r) j
  have hg:=xp (x::y::r) j
  rw[he] at hl hg⊢
  refine⟨vs,h1,by rw[hl];exact h2,fun i s u hs hu=> ?_⟩
  rw[hg] at hs
  split at hs
  ·obtain⟨s0,dz,rfl⟩:=Option.map_eq_some_iff.1 hs
   exact(h3 i s0 u dz hu).shut
  ·exact h3 i s u hs hu
theorem U2{l:List SV}{j:Nat}{id:Nat}{t:Ty}{p:List Nat}(h:SV.ptr id t p∈bn l j):SV.ptr id t p∈l:=by
 obtain⟨i,hi⟩:=List.mem_iff_getElem?.1 h
 rw[xp] at hi
 split at hi
 ·obtain⟨s0,dz,he⟩:=Option.map_eq_some_iff.1 hi
  rw[xy he] at dz
  exact List.mem_of_getElem? dz
 ·exact List.mem_of_getElem? hi
theorem n5{s:State}{i:Nat}(h:i<s.sl.length):s.sl[i]? =some (s.slot i):=by
 simp [State.slot,List.getD_eq_getElem?_getD,List.getElem?_eq_getElem h]
def State.bS(s:State)(i j:Nat):State:={s with sl:=s.sl.set i (bn (s.slot i) j)}
theorem sk{s:State}{i j:Nat}{r:List (Nat×Nat)}:s.close ((i,j)::r)=(s.bS i j).close r:=rfl
theorem Og{r:List (Nat×Nat)}:∀(l:List (Nat×Nat)) (s:State),s.close (l++r)=(s.close l).close r
 | [],s=>rfl
 |(i,j)::l,s=>by
  rw[List.cons_append,sk,sk]
  exact Og l _
theorem Rel.bS{X:ak}{s:State}{a:Act}(hr:Rel X s a)(i j:Nat):Rel X (s.bS i j) a:=by
 refine⟨by simpa [State.bS] using hr.size,by simpa [State.bS] using hr.dP,fun k l v hl hv=> ?_,hr.boxes,fun k l id t p hl hm=> ?_,hr.defers⟩
 ·simp only[State.bS,List.getElem?_set] at hl
  split at hl
  ·rename_i e
   subst e
   split at hl
   ·rename_i aK
    cases hl
    exact(hr.bh i _ v (n5 aK) hv).bn j
   ·cases hl
  ·exact hr.bh k l v hl hv
 ·simp only[State.bS,List.getElem?_set] at hl
  split at hl
  ·rename_i e
   subst e
   split at hl
   ·rename_i aK
    cases hl
    exact hr.live i _ id t p (n5 aK) (U2 hm)
   ·cases hl
  ·exact hr.live k l id t p hl hm
theorem Rel.close{X:ak}{a:Act}:∀(c:List (Nat×Nat)) {s:State},Rel X s a->Rel X (s.close c) a
 | [],s,hr=>hr
 |(i,j)::r,s,hr=>Rel.close r (hr.bS i j)
theorem nY:∀{c:List (Nat×Nat)} {s:State},(s.close c).bs=s.bs
 | [],s=>rfl
 |(i,j)::r,s=>(nY (c:=r) (s:=s.bS i j))
theorem vZ:∀{c:List (Nat×Nat)} {s:State},(s.close c).sl.length=s.sl.length
 | [],s=>rfl
 |(i,j)::r,s=>by rw[sk,vZ (c:=r)];simp [State.bS]
theorem bP.jU{s:State}{i j:Nat}{pl:Place}(h:bP (s.bS i j) pl):bP s pl/\∀p,pl≠ .c i j p:=by
 cases pl with
 |r j p=>exact h.elim
 |b id p=>exact⟨h,fun p=>by simp⟩
 |c i' j' p=>
  obtain⟨l,t,x,own,hl,hx,hp⟩:=h
  simp only[State.bS,List.getElem?_set] at hl
  split at hl
  ·rename_i e
   subst e
   split at hl
   ·rename_i aK
    cases hl
    rw[xp] at hx
    split at hx
    ·obtain⟨s0,_,he⟩:=Option.map_eq_some_iff.1 hx
     cases s0<;>simp [SV.shut] at he
     obtain⟨rfl,_,rfl⟩:=he
     cases hp
    ·rename_i bV
     exact⟨⟨_,t,x,own,n5 aK,hx,hp⟩,fun q e=>by cases e;exact bV rfl⟩
   ·cases hl
  ·rename_i bV
   exact⟨⟨l,t,x,own,hl,hx,hp⟩,fun q e=>by cases e;exact bV rfl⟩
theorem bP.eY{pl:Place}:∀{c:List (Nat×Nat)} {s:State},bP (s.close c) pl->bP s pl/\∀i j,(i,j)∈c->∀p,pl≠ .c i j p
 | [],s,h=>⟨h,fun i j hm=>by cases hm⟩
 |(i,j)::r,s,h=>by
  obtain⟨h1,h2⟩:=bP.eY (c:=r) (s:=s.bS i j) h
  obtain⟨h3,h4⟩:=bP.jU h1
  refine⟨h3,fun i' j' hm p=> ?_⟩
  rcases List.mem_cons.1 hm with e|hm
  ·cases e;exact h4 p
  ·exact h2 i' j' hm p
theorem bP.close{s:State}{i j:Nat}{p:List Nat}:¬bP (s.close [(i,j)]) (.c i j p):=fun h=>(bP.eY h).2 i j (by simp) p rfl
def ak.turn(X:ak)(i j:Nat)(q:List Nat->Place):ak:=
 {X with ow:=fun g=>match X.ow g with
  | .row (.c i' j' p) n=>if i'=i/\j'=j then .row (q p) n else .row (.c i' j' p) n
  |w=>w}
theorem Po{s:State}{X:ak}{i j:Nat}{q:List Nat->Place}(h:∀p,¬bP s (.c i j p)):cm s X (X.turn i j q):=by
 refine⟨rfl,rfl,fun g=> ?_⟩
 simp only[ak.turn]
 cases hg:X.ow g with
 |row pl n=>
  cases pl with
  |c i' j' p=>
   by_cases e:i'=i/\j'=j
   ·obtain⟨rfl,rfl⟩:=e
    exact .inr ⟨_,n,q p,rfl,h p,by simp⟩
   ·exact .inl (by simp [e])
  |_=>exact .inl rfl
 |_=>exact .inl rfl
theorem aV.gh{X:ak}{i j:Nat}{q:List Nat->Place}{p:List Nat}{e:TypeId}{k n:Nat}{v:Value}(h:aV X (.c i j p) e k n v):aV (X.turn i j q) (q p) e k n v:=by
 rcases h with h|⟨g,cap,cur,h1,h2,h3,h4,h5,h6⟩
 ·exact .inl h
 ·exact .inr ⟨g,cap,cur,h1,h2,h3,h4,h5,by simp [ak.turn,h6]⟩
theorem aU.gh{X:ak}{i j:Nat}{q:List Nat->Place}{t:Ty}{x:El t}{cs:List Value}{own:List (List Nat)}(h:aU X (.c i j) t x cs own):aU (X.turn i j q) q t x cs own:=fun p hp=>by
 obtain⟨e,t',xs,v,g0,g1,g2,g3⟩:=h p hp
 exact⟨e,t',xs,v,g0,g1,g2,g3.gh⟩
def fV(X Y:ak):Prop:=Y.w=X.w/\∀g pl n,X.ow g= .row pl n->(∀i j p,pl≠ .c i j p)->Y.ow g= .row pl n
theorem Xn{X:ak}{i j:Nat}{q:List Nat->Place}:fV X (X.turn i j q):=⟨rfl,fun g pl n h hp=>by
 simp only[ak.turn,h]
 cases pl with
 |c i' j' p=>exact absurd rfl (hp i' j' p)
 |_=>rfl⟩
theorem fV.refl(X:ak):fV X X:=⟨rfl,fun _ _ _ h _=>h⟩
theorem aU.stay{X Y:ak}(h:fV X Y){pl:List Nat->Place}(hp:∀r i j p,pl r≠ .c i j p){t:Ty}{x:El t}{cs:List Value}{own:List (List Nat)}(ho:aU X pl t x cs own):aU Y pl t x cs own:=fun p hm=>by
 obtain⟨e,t',xs,v,g0,g1,g2,g3⟩:=ho p hm
 refine⟨e,t',xs,v,g0,g1,g2,?_⟩
 rcases g3 with h0|⟨g,cap,cur,h1,h2,h3,h4,h5,h6⟩
 ·exact .inl h0
 ·exact .inr ⟨g,cap,cur,h1,by rw[h.1];exact h2,h3,h4,h5,h.2 g _ _ h6 (hp p)⟩
theorem Rel.take{X:ak}{s:State}{a:Act}(hr:Rel X s a){i j:Nat}{t:Ty}{x:El t}{w:List (List Nat)}{v:Value}(h:ar X (.c i j) (.af t x w) v)(q:List Nat->Place):
 ∃Y,Y.w=X.w/\Ext X Y/\Rel Y (s.close [(i,j)]) a/\ar Y q (.af t x w) v/\Y.β=X.β/\cm (s.close [(i,j)]) X Y/\fV X Y:=by
 obtain⟨cs,h1,h2,h3⟩:=h
 have hT:cm (s.close [(i,j)]) X (X.turn i j q):=Po fun p=>bP.close
 exact⟨X.turn i j q,rfl,hT.ext,(hr.close _).mod hT.mod,⟨cs,h1.aj (fun _ _=>hT.au.1),h2,h3.gh⟩,rfl,hT,Xn⟩
def ak.cC(X:ak)(i d:Nat):ak:=
 {X with ow:=fun g=>match X.ow g with
  | .row (.c i' j' p) n=>if i'=i then .row (.c d j' p) n else .row (.c i' j' p) n
  |w=>w}
theorem Pn(t:Nat):∀(n j:Nat),j<n->(t,j)∈eZ t n
 |0,j,h=>absurd h (Nat.not_lt_zero j)
 |n+1,j,h=>by
  rcases Nat.lt_or_ge j n with h1|h1
  ·exact List.mem_cons_of_mem _ (Pn t n j h1)
  ·have:j=n:=by omega
   subst this
   simp [eZ]
theorem bP.closeAll{s:State}{t j:Nat}{p:List Nat}:¬bP (s.close (eZ t (s.slot t).length)) (.c t j p):=fun h=>by
 obtain⟨h1,h2⟩:=bP.eY h
 obtain⟨l,ty,x,own,g1,g2,g3⟩:=h1
 have hl:s.slot t=l:=by simp [State.slot,g1]
 have hj:j<l.length:=(List.getElem?_eq_some_iff.1 g2).1
 exact h2 t j (Pn t _ j (by rw[hl];exact hj)) p rfl
theorem Un{s:State}{X:ak}{i d:Nat}(h:∀j p,¬bP s (.c i j p)):cm s X (X.cC i d):=by
 refine⟨rfl,rfl,fun g=> ?_⟩
 simp only[ak.cC]
 cases hg:X.ow g with
 |row pl n=>
  cases pl with
  |c i' j' p=>
   by_cases e:i'=i
   ·subst e
    exact .inr ⟨_,n,.c d j' p,rfl,h j' p,by simp⟩
   ·exact .inl (by simp [e])
  |_=>exact .inl rfl
 |_=>exact .inl rfl
theorem aV.dX{X:ak}{i d j:Nat}{p:List Nat}{e:TypeId}{k n:Nat}{v:Value}(h:aV X (.c i j p) e k n v):aV (X.cC i d) (.c d j p) e k n v:=by
 rcases h with h|⟨g,cap,cur,h1,h2,h3,h4,h5,h6⟩
 ·exact .inl h
 ·exact .inr ⟨g,cap,cur,h1,h2,h3,h4,h5,by simp [ak.cC,h6]⟩
theorem ar.dX{s:State}{X:ak}{i d j:Nat}{sv:SV}{v:Value}(hT:cm s X (X.cC i d))(h:ar X (.c i j) sv v):ar (X.cC i d) (.c d j) sv v:=by
 cases sv with
 |af t x own=>
  obtain⟨cs,h1,h2,h3⟩:=h
  refine⟨cs,h1.aj (fun _ _=>hT.au.1),h2,fun p hp=> ?_⟩
  obtain⟨e,t',xs,v,g0,g1,g2,g3⟩:=h3 p hp
  exact⟨e,t',xs,v,g0,g1,g2,g3.dX⟩
 |view t x=>
  obtain⟨ad,cs,h1,h2,h3,h4⟩:=h
  exact⟨ad,cs,h1,h2,h3.aj (fun _ _=>hT.au.1),fun i u hi=>hT.au.1 (h4 i u hi)⟩
 |cap f t x u y=>exact l9 (fun _ _=>hT.au.1) h
 |_=>exact h
theorem Rel.nR{X:ak}{s:State}{a:Act}(hr:Rel X s a){t:Nat}{v:Value}(h:bQ X (.c t) (s.slot t) v)(d:Nat):
 ∃Y,Y.w=X.w/\Ext X Y/\Rel Y (s.close (eZ t (s.slot t).length)) a/\bQ Y (.c d) (s.slot t) v:=by
 have hT:cm (s.close (eZ t (s.slot t).length)) X (X.cC t d):=Un fun j p=>bP.closeAll
 exact⟨X.cC t d,rfl,hT.ext,(hr.close _).mod hT.mod,h.fk fun j sv u hj hu=>hu.dX hT⟩
def zf:Ty->List Value
 | .bool=>[.bool false]
 | .int k=>[.int k 0]
 | .str=>[.string ⟨#[]⟩]
 | .sl _ _=>[.slice none 0 0]
 | .arr n t=>(List.replicate n (zf t)).flatten
 | .unit=>[]
 | .pair a b=>zf a++zf b
 | .aP _ _ _=>[]
def zo(E:Env):List Field->Ty->Nat->Prop
 | [],.unit,_=>True
 |f::r,.pair a b,off=>f.offset=off/\E.ty f.type=some a/\f.name≠ "_" /\zo E r b (off+a.cells)
 |_,_,_=>False
def Qw(P:Program)(E:Env)(T:TypeId):Ty->Prop
 | .bool=>P.underlying T=some .bool
 | .int k=>P.underlying T=some (.int k)
 | .str=>P.underlying T=some .string
 | .sl e t=>P.underlying T=some (.slice e)/\E.ty e=some t
 | .arr n t=>∃e,P.underlying T=some (.array n e)/\E.ty e=some t/\P.eqGuardType P.depth T=false
 | .aP _ _ _=>False
 |t=>∃fs,P.underlying T=some (.struct fs)/\zo E fs.toList t 0/\P.stoodInHeld T=false/\P.eqGuardType P.depth T=false
structure fW(P:Program)(E:Env)(T:TypeId)(t:Ty):Prop where
 info:∃i,P.info? T=some i/\i.size=t.cells/\i.bytes=E.bytes T/\i.zero=some (cq t (zf t))
 b8:Qw P E T t
structure ah(P:Program)(E:Env):Prop where
 ty:∀T t,E.ty T=some t->fW P E T t
 pt:∀T,E.pt T=true->∃e,P.underlying T=some (.pointer e)
 mp:∀T k e,E.mp T=some (k,e)->P.underlying T=some (.map k e)
 bl:∀T e,E.bl T=some e->∃i,P.info? T=some i/\i.zero=some (.agg #[.pointer none,.slice none 0 0])
theorem ah.dV{P:Program}{E:Env}(hE:ah P E){T:TypeId}{t:Ty}(h:E.ty T=some t):t.bf=false:=by
 have:=(hE.ty T t h).b8
 cases t<;>first|rfl|exact this.elim
theorem l6:∀t:Ty,(zf t).length=t.cells
 | .bool=>rfl
 | .int _=>rfl
 | .str=>rfl
 | .sl _ _=>rfl
 | .unit=>rfl
 | .arr n t=>by simp [zf,Ty.cells,l6 t]
 | .pair a b=>by simp [zf,Ty.cells,l6 a,l6 b]
 | .aP _ _ _=>rfl
theorem Fz{l:List Value}{k:Nat}(hl:l.length=k):∀(n j:Nat),j<n->(((List.replicate n l).flatten).drop (j*k)).take k=l
 |0,j,h=>by omega
 |n+1,0,_=>by
  simp only[List.replicate_succ,List.flatten_cons,Nat.zero_mul,List.drop_zero]
  rw[<-hl];exact List.take_left
 |n+1,j+1,h=>by
  simp only[List.replicate_succ,List.flatten_cons]
  rw[Nat.add_mul,Nat.one_mul,Nat.add_comm,<-List.drop_drop]
  rw[show List.drop k (l++(List.replicate n l).flatten)=(List.replicate n l).flatten by rw[<-hl];exact List.drop_left]
  exact Fz hl n j (by omega)
theorem lQ(X:ak):∀t:Ty,aN X t (El.bj t) (zf t)
 | .bool=>rfl
 | .int _=>rfl
 | .str=>rfl
 | .unit=>rfl
 | .sl _ t=>⟨none,0,rfl,Nat.le_refl _,fun j x h=>by simp [El.bj] at h⟩
 | .arr n t=>by
   refine⟨by simp [El.bj],by simp [zf,l6],fun j x h=> ?_⟩
   have hj:j<n:=by
    have:=(List.getElem?_eq_some_iff.1 h).1
    simpa [El.bj] using this
   have hx:x=El.bj t:=by
    simp only[El.bj,List.getElem?_replicate] at h
    rw[if_pos hj] at h
    exact(Option.some.inj h).symm
   subst hx
   have:=Fz (l6 t) n j hj
   simp only[zf]
   rw[this]
   exact lQ X t
 | .pair a b=>⟨zf a,zf b,rfl,lQ X a,lQ X b⟩
 | .aP _ _ _=>rfl
theorem ww{t:Ty}{c:Value}(h:t.agg=false):cq t [c]=c:=by simp [cq,h]
theorem zm{t:Ty}{cs:List Value}(h:t.agg=true):cq t cs= .agg cs.toArray:=by simp [cq,h]
theorem nX{t:Ty}{X:ak}{x:El t}{cs:List Value}(h:aN X t x cs):(cq t cs).cells=cs.toArray:=by
 cases ht:t.agg with
 |true=>rw[zm ht];rfl
 |false=>
  have hl:=h.len
  have h1:=h.one
  have hc:t.cells=1:=by cases t<;>simp_all [Ty.agg,Ty.cells]
  rw[hc] at hl
  match cs,hl with
  | [c],_=>
    rw[ww ht]
    have:=h1 c (by simp)
    cases c<;>simp_all [Value.oneCell',Value.cells]
theorem zi{R:Type}{s:SV}{u:Ty}{K:El u->Option R}{z:R}(h:s.el u K=some z):
 ∃y,K y=some z/\∀(X:ak) pl v,ar X pl s v->∃cs,aN X u y cs/\v=cq u cs:=by
 cases s with
 |af t x own=>
  simp only[SV.el] at h
  split at h
  ·rename_i he
   have e:=Ty.aH he
   subst e
   exact⟨x,h,fun X pl v hv=>by obtain⟨cs,h1,h2,_⟩:=hv;exact⟨cs,h1,h2⟩⟩
  ·cases h
 |bK=>
  cases u<;>simp only[SV.el] at h<;>first|cases h|skip
  rename_i e t
  refine⟨[],h,fun X pl v hv=>⟨[.slice none 0 0],⟨none,0,rfl,Nat.le_refl _,fun j x hj=>by simp at hj⟩,hv⟩⟩
 |_=>simp [SV.el] at h
theorem zv{X:ak}{k:IntKind}{n:Int}{cs:List Value}(h:aN X (.int k) n cs):cq (.int k) cs= .int k n:=by cases h;rfl
theorem mg{X:ak}{b:Bool}{cs:List Value}(h:aN X .bool b cs):cq .bool cs= .bool b:=by cases h;rfl
theorem zz{X:ak}{s:ByteArray}{cs:List Value}(h:aN X .str s cs):cq .str cs= .string s:=by cases h;rfl
theorem zw{X:ak}{pl:List Nat->Place}{t:Ty}{x:El t}{cs:List Value}:aU X pl t x cs []:=fun p hp=>by cases hp
theorem zk{X:ak}{pl:List Nat->Place}{k:IntKind}{n:Int}:ar X pl (.af (.int k) n []) (.int k n):=⟨[.int k n],rfl,rfl,zw⟩
theorem zp{X:ak}{pl:List Nat->Place}{b:Bool}:ar X pl (.af .bool b []) (.bool b):=⟨[.bool b],rfl,rfl,zw⟩
theorem pA{X:ak}{pl:List Nat->Place}{s:ByteArray}:ar X pl (.af .str s []) (.string s):=⟨[.string s],rfl,rfl,zw⟩
theorem pr{X:ak}{pl:List Nat->Place}{k:IntKind}{n:Int}{o:List (List Nat)}{v:Value}(h:ar X pl (.af (.int k) n o) v):v= .int k n:=by
 obtain⟨cs,h1,h2,_⟩:=h
 rw[h2,zv h1]
theorem z21{X:ak}{pl:List Nat->Place}{b:Bool}{o:List (List Nat)}{v:Value}(h:ar X pl (.af .bool b o) v):v= .bool b:=by
 obtain⟨cs,h1,h2,_⟩:=h
 rw[h2,mg h1]
theorem Oi{X:ak}{pl:List Nat->Place}{s:ByteArray}{o:List (List Nat)}{v:Value}(h:ar X pl (.af .str s o) v):v= .string s:=by
 obtain⟨cs,h1,h2,_⟩:=h
 rw[h2,zz h1]
def rl:Operand->List Nat->Place
 | .tmp t=> .c t 0
 |_=> .r 0
theorem Uq(X:ak)(pl:List Nat->Place)(v:Value):ar X pl (pB v) v:=by
 unfold pB
 split
 ·exact zp
 ·exact zk
 ·exact pA
 ·rfl
 ·rfl
 ·trivial
theorem Rel.slot{X:ak}{s:State}{a:Act}(hr:Rel X s a)(t:Nat):bQ X (.c t) (s.slot t) (a.tmps.getD t Go.undef):=by
 by_cases h:t<s.sl.length
 ·refine hr.bh t _ _ (n5 h) ?_
  have:=hr.size
  simp [Array.getElem?_eq_getElem (show t<a.tmps.size by omega)]
 ·have:s.slot t=[.undef]:=by simp [State.slot,List.getElem?_eq_none (show s.sl.length<=t by omega)]
  rw[this]
  trivial
theorem Rel.ax{X:ak}{s:State}{a:Act}(hr:Rel X s a)(x:Operand):ar X (rl x) (s.ax x) (a.eval x):=by
 cases x with
 |tmp t=>
  have h:=hr.slot t
  unfold State.ax State.nM
  simp only[rl,Act.eval]
  match hl:s.slot t with
  | []=>trivial
  | [sv]=>rw[hl] at h;exact h
  |_::_::_=>trivial
 |const v=>exact Uq X _ v
 |_=>trivial
theorem pC{X:ak}{s:State}{a:Act}(hr:Rel X s a){x:Operand}{id:Nat}{t:Ty}{p:List Nat}(h:s.ax x= .ptr id t p):∃B,s.bs[id]? =some (some B):=by
 cases x with
 |tmp i=>
  unfold State.ax State.nM at h
  simp only at h
  by_cases hi:i<s.sl.length
  ·refine hr.live i _ id t p (n5 hi) ?_
   match hl:s.slot i,h with
   | [sv],h=>have:sv= .ptr id t p:=h;simp [this]
   | [],h=>simp [one] at h
   |_::_::_,h=>simp [one] at h
  ·have:s.slot i=[.undef]:=by simp [State.slot,List.getElem?_eq_none (Nat.le_of_not_lt hi)]
   rw[this] at h
   simp [one] at h
 |const v=>unfold State.ax State.nM pB at h;simp only[one] at h;split at h<;>simp at h
 |_=>simp [State.ax,State.nM,one] at h
theorem Rel.fin{Y:ak}{s:State}{a:Act}(hr:Rel Y s a){dst:Option Nat}{l:List SV}{v:Value}(h:bQ Y (.c (dst.getD 0)) l v)(hl:∀id t p,SV.ptr id t p∈l->∃B,s.bs[id]? =some (some B)):Rel Y (s.aG dst l) (a.put dst v):=
 hr.put (fun d' e=>by subst e;exact h) hl
def ay(P:Program)(X:ak)(s:State)(a:Act)(o:Oper)(u:Out):Prop:=
 ∃Y v,((execOp a.eval o).run P X.w= .ok (.value v) Y.w\/((execOp a.eval o).run P X.w= .ok .skip Y.w/\v=Go.undef))/\Ext X Y/\Rel Y (s.apply o.dst u) (a.put o.dst v)
theorem ay.plain{P:Program}{X:ak}{s:State}{a:Act}{o:Oper}(hr:Rel X s a){sv:SV}{v:Value}
 (h:(execOp a.eval o).run P X.w= .ok (.value v) X.w) (hv:ar X (.c (o.dst.getD 0) 0) sv v) (hl:∀id t p,sv= .ptr id t p->∃B,s.bs[id]? =some (some B)):ay P X s a o {v:=[sv]}:=
 ⟨X,v,.inl h,Ext.refl X,hr.fin hv (fun id t p hm=>hl id t p (by have h':=hm;simp at h';exact h'.symm))⟩
theorem ay.pd{P:Program}{X:ak}{s:State}{a:Act}{o:Oper}(hr:Rel X s a){i j:Nat}{t:Ty}{x:El t}{w:List (List Nat)}{v:Value}
 (h:(execOp a.eval o).run P X.w= .ok (.value v) X.w) (hv:ar X (.c i j) (.af t x w) v):ay P X s a o {v:=[.af t x w],cl:=[(i,j)]}:=by
 obtain⟨Y,h1,h2,h3,h4,_,_,_⟩:=hr.take hv (.c (o.dst.getD 0) 0)
 refine⟨Y,v,.inl (by rw[h1];exact h),h2,?_⟩
 exact h3.fin h4 (fun id t p hm=>by simp at hm)
variable {P:Program} {E:Env} {X:ak} {s:State} {a:Act} {o:Oper} {u:Out}
def Plain:SV->Prop
 | .af _ _ (_::_)=>False
 |_=>True
theorem ar.place{pl eD:List Nat->Place}{sv:SV}{v:Value}(h:ar X pl sv v)(hp:Plain sv):ar X eD sv v:=by
 cases sv with
 |af t x w=>
  cases w with
  |nil=>
   obtain⟨cs,h1,h2,_⟩:=h
   exact⟨cs,h1,h2,zw⟩
  |cons p w=>exact hp.elim
 |_=>exact h
theorem ar.bare{pl eD:List Nat->Place}{t:Ty}{x:El t}{w:List (List Nat)}{v:Value}(h:ar X pl (.af t x w) v):ar X eD (.af t x []) v:=by
 obtain⟨cs,h1,h2,_⟩:=h
 exact⟨cs,h1,h2,zw⟩
theorem Ha{v:Value}{t:Ty}{y:El t}{w:List (List Nat)}(h:pB v= .af t y w):w=[]:=by
 unfold pB at h
 split at h<;>simp at h
 ·obtain⟨rfl,_,rfl⟩:=h;rfl
 ·obtain⟨rfl,_,rfl⟩:=h;rfl
 ·obtain⟨rfl,_,rfl⟩:=h;rfl
theorem D1{x:Operand}{t:Ty}{y:El t}{w:List (List Nat)}(h:s.ax x= .af t y w)(hw:w≠ []):∃i,x= .tmp i:=by
 cases x with
 |tmp i=>exact⟨i,rfl⟩
 |const v=>exact absurd (Ha h) hw
 |_=>simp [State.ax,State.nM,one] at h
theorem Ph(hr:Rel X s a){x:Operand}(h:(execOp a.eval o).run P X.w= .ok (.value (a.eval x)) X.w)(hp:Plain (s.ax x)):ay P X s a o {v:=[s.ax x]}:=
 ay.plain hr h ((hr.ax x).place hp) (fun id t p e=>pC hr e)
theorem O0(hr:Rel X s a){x:Operand}{t:Ty}{y:El t}{w:List (List Nat)}(aQ:(execOp a.eval o).run P X.w= .ok (.value (a.eval x)) X.w)(e:s.ax x= .af t y w):ay P X s a o {v:=[.af t y w],cl:=n3 w x}:=by
 have bC:=hr.ax x
 rw[e] at bC
 cases hw:w with
 |nil=>
  subst hw
  exact ay.plain hr aQ bC.bare (fun _ _ _ h=>by cases h)
 |cons p w'=>
 rw[<-hw]
 have gn:n3 w x=src x:=by rw[hw];rfl
 rw[gn]
 clear hw
 cases x with
 |tmp i=>exact ay.pd hr aQ bC
 |const v=>
  have hw:=Ha (show pB v= .af t y w from e)
  subst hw
  exact ay.plain hr aQ bC.bare (fun _ _ _ h=>by cases h)
 |_=>simp [State.ax,State.nM,one] at e
theorem PH(hr:Rel X s a){T:TypeId}{v:Value}{pl:List Nat->Place}(aQ:(execOp a.eval o).run P X.w= .ok (.value v) X.w)(hv:ar X pl .bK v)(h:iz E T some=some u):ay P X s a o u:=by
 unfold iz at h
 split at h
 ·cases h
  refine ay.plain hr aQ ⟨[.slice none 0 0],⟨none,0,rfl,Nat.le_refl _,fun j x hj=>by simp at hj⟩,hv,fun p hp=> ?_⟩ (fun _ _ _ e=>by cases e)
  rename_i e t _
  have hp:p=[]:=by simpa using hp
  subst hp
  exact⟨e,t,[],_,by simp [Ty.cS],rfl,rfl,.inl ⟨rfl,rfl⟩⟩
 ·cases h
  exact ay.plain hr aQ hv (fun _ _ _ e=>by cases e)
theorem ar.cP{pl eD:List Nat->Place}{sv:SV}{v:Value}(hr:ar X pl sv v):ar X eD sv.shut v:=by
 cases sv with
 |af t x own=>
  obtain⟨cs,h1,h2,_⟩:=hr
  exact⟨cs,h1,h2,zw⟩
 |_=>exact hr
theorem bQ.cP{pl eD:Nat->List Nat->Place}{l:List SV}{v:Value}(hr:bQ X pl l v):bQ X eD (l.map SV.shut) v:=by
 match l,hr with
 | [s],hr=>exact ar.cP hr
 | [],⟨vs,h1,h2,h3⟩=>exact⟨vs,h1,h2,fun j s u hs=>by simp at hs⟩
 |x::y::r,⟨vs,h1,h2,h3⟩=>
  refine⟨vs,h1,by simpa using h2,fun j s u hs hu=> ?_⟩
  have hs:((x::y::r).map SV.shut)[j]? =some s:=hs
  rw[List.getElem?_map] at hs
  obtain⟨s0,dz,rfl⟩:=Option.map_eq_some_iff.1 hs
  exact ar.cP (h3 j s0 u dz hu)
theorem WN(hr:Rel X s a){ops:List Oper}{x:Operand}(ho:o.op= .move x){C:FuncId->bg Out}(h:act E C ops o s some=some u):ay P X s a o u:=by
 have aQ:(execOp a.eval o).run P X.w= .ok (.value (a.eval x)) X.w:=by simp [execOp,ho]
 unfold act at h
 simp only[ho] at h
 have bC:=hr.ax x
 cases ht:hD s x with
 |some tl=>
  obtain⟨t,l⟩:=tl
  rw[ht] at h
  cases x with
  |tmp i=>
   change(bif Nat.beq (s.slot i).length 1 then none else some (i,s.slot i))=some (t,l) at ht
   cases hb:Nat.beq (s.slot i).length 1 with
   |true=>rw[hb] at ht;cases ht
   |false=>
    rw[hb] at ht
    cases ht
    have vf:∀id ty p,SV.ptr id ty p∈s.slot t->∃B,s.bs[id]? =some (some B):=fun id ty p hm=>by
     by_cases aK:t<s.sl.length
     ·exact hr.live t _ id _ p (n5 aK) hm
     ·have:s.slot t=[.undef]:=by simp [State.slot,List.getElem?_eq_none (Nat.le_of_not_lt aK)]
      rw[this] at hm
      simp at hm
    cases NG:Go.Ref.cP E o.dst with
    |true=>
     rw[NG] at h
     cases h
     refine⟨X,_,.inl aQ,Ext.refl X,?_⟩
     refine Rel.fin hr (bQ.cP (hr.slot t)) (fun id ty p hm=> ?_)
     obtain⟨s0,dz,he⟩:=List.mem_map.1 hm
     rw[xy he] at dz
     exact vf id ty p dz
    |false=>
    rw[NG] at h
    cases h
    cases bm:(s.slot t).all fun v=>v.own.isEmpty with
    |true=>
     refine⟨X,_,.inl aQ,Ext.refl X,?_⟩
     refine Rel.fin hr ((hr.slot t).fk fun j sv u hj hu=> ?_) (fun id ty p hm=> ?_)
     ·have:=List.all_eq_true.1 bm sv (List.mem_of_getElem? hj)
      refine hu.place ?_
      cases sv with
      |af ty y w=>
       cases w with
       |nil=>trivial
       |cons p w=>simp [SV.own] at this
      |_=>trivial
     ·by_cases aK:t<s.sl.length
      ·exact hr.live t _ id _ p (n5 aK) hm
      ·have:s.slot t=[.undef]:=by simp [State.slot,List.getElem?_eq_none (Nat.le_of_not_lt aK)]
       rw[this] at hm
       simp at hm
    |false=>
    obtain⟨Y,h1,h2,h3,h4⟩:=hr.nR (hr.slot t) (o.dst.getD 0)
    refine⟨Y,_,.inl (by rw[h1];exact aQ),h2,?_⟩
    refine h3.fin h4 (fun id ty p hm=> ?_)
    by_cases aK:t<s.sl.length
    ·obtain⟨B,hB⟩:=hr.live t _ id _ p (n5 aK) hm
     exact⟨B,by rw[nY];exact hB⟩
    ·have:s.slot t=[.undef]:=by simp [State.slot,List.getElem?_eq_none (Nat.le_of_not_lt aK)]
     rw[this] at hm
     simp at hm
  |_=>cases ht
 |none=>
 rw[ht] at h
 simp only at h
 split at h
 ·rename_i t y w e
  rw[e] at bC
  cases hb:(A8 ops o.dst||takes E o.dst) with
  |true=>
   rw[hb] at h
   cases h
   exact O0 hr aQ e
  |false=>
   rw[hb] at h
   cases h
   exact ay.plain hr aQ bC.bare (fun _ _ _ h=>by cases h)
 ·cases h
 ·rename_i e
  rw[e] at bC
  exact PH hr aQ bC h
 ·rename_i h1 h2 h3
  cases h
  refine Ph hr aQ ?_
  cases hx:s.ax x with
  |af t y w=>exact absurd hx (h1 t y w)
  |_=>trivial
theorem Us(hr:Rel X s a){ops:List Oper}{x:Operand}(ho:o.op= .assign x){C:FuncId->bg Out}(h:act E C ops o s some=some u):ay P X s a o u:=by
 have aQ:(execOp a.eval o).run P X.w= .ok (.value (a.eval x)) X.w:=by simp [execOp,ho]
 unfold act at h
 simp only[ho] at h
 have bC:=hr.ax x
 split at h
 ·rename_i t y w e
  rw[e] at bC
  cases h
  exact O0 hr aQ e
 ·cases h
 ·rename_i e
  rw[e] at bC
  exact PH hr aQ bC h
 ·rename_i h1 h2 h3
  cases h
  refine Ph hr aQ ?_
  cases hx:s.ax x with
  |af t y w=>exact absurd hx (h1 t y w)
  |_=>trivial
theorem WQ(hr:Rel X s a){ops:List Oper}{c x y:Operand}(ho:o.op= .pick c x y){C:FuncId->bg Out}(h:act E C ops o s some=some u):ay P X s a o u:=by
 unfold act at h
 simp only[ho] at h
 have hc:=hr.ax c
 split at h
 ·rename_i p w e
  rw[e] at hc
  have hv:=z21 hc
  have key:∀z,ay P X s a o {v:=[(s.ax z).shut]}\/(execOp a.eval o).run P X.w≠ .ok (.value (a.eval z)) X.w:=by
   intro z
   by_cases hz:(execOp a.eval o).run P X.w= .ok (.value (a.eval z)) X.w
   ·refine .inl (ay.plain hr hz (hr.ax z).shut (fun id t p e=> ?_))
    exact pC hr (xy e)
   ·exact .inr hz
  cases p with
  |true=>
   cases h
   exact(key x).resolve_right (by simp [execOp,ho,hv,asBool])
  |false=>
   cases h
   exact(key y).resolve_right (by simp [execOp,ho,hv,asBool])
 ·cases h
theorem xj(op:BinOp)(T:TypeId)(x y:Operand)(k k':IntKind)(m n:Int)(w:World):(eqGuard op T x y (.int k m) (.int k' n)).run P w= .ok () w:=by
 cases op<;>simp [eqGuard]
theorem Oa(op:BinOp)(T:TypeId)(x y:Operand)(m n:ByteArray)(w:World):(eqGuard op T x y (.string m) (.string n)).run P w= .ok () w:=by
 cases op<;>simp [eqGuard]
theorem TZ(op:BinOp)(T:TypeId)(x y:Operand)(m n:Bool)(w:World):(eqGuard op T x y (.bool m) (.bool n)).run P w= .ok () w:=by
 cases op<;>simp [eqGuard]
theorem Hy{op:BinOp}{T:TypeId}{k k':IntKind}{m n:Int}{l:List SV}(w:World)(h:jK op k m k' n some=some l):
 ∃sv v,l=[sv]/\(Go.binOp op T (.int k m) (.int k' n)).run P w= .ok v w/\Plain sv/\(∀X pl,ar X pl sv v)/\∀id t p,sv≠ .ptr id t p:=by
 have done:∀{sv:SV} {v:Value},l=[sv]->(Go.binOp op T (.int k m) (.int k' n)).run P w= .ok v w->Plain sv->(∀X pl,ar X pl sv v)->(∀id t p,sv≠ .ptr id t p)->∃sv v,l=[sv]/\(Go.binOp op T (.int k m) (.int k' n)).run P w= .ok v w/\Plain sv/\(∀X pl,ar X pl sv v)/\∀id t p,sv≠ .ptr id t p:=fun h1 h2 h3 h4 h5=>⟨_,_,h1,h2,h3,h4,h5⟩
 have pi:∀{k:IntKind} {n:Int},Plain (.af (.int k) n []):=trivial
 have pb:∀{b:Bool},Plain (.af .bool b []):=trivial
 unfold jK at h
 cases op
 case shl=>
  simp only at h
  cases hd:decide (n<0) with
  |true=>rw[hd] at h;cases h
  |false=>
   rw[hd] at h;cases h
   have:¬n<0:=of_decide_eq_false hd
   exact done rfl (by simp [Go.binOp,Op.shift,this]) pi (fun _ _=>zk) (by simp)
 case shr=>
  simp only at h
  cases hd:decide (n<0) with
  |true=>rw[hd] at h;cases h
  |false=>
   rw[hd] at h;cases h
   have:¬n<0:=of_decide_eq_false hd
   exact done rfl (by simp [Go.binOp,Op.shift,this]) pi (fun _ _=>zk) (by simp)
 all_goals
  simp only at h
  split at h
  case isFalse=>cases h
  rename_i hk
  subst hk
 case quo=>
  cases hd:decide (n=0) with
  |true=>rw[hd] at h;cases h
  |false=>
   rw[hd] at h;cases h
   have:¬n=0:=of_decide_eq_false hd
   exact done rfl (by simp [Go.binOp,Op.intDiv,this]) pi (fun _ _=>zk) (by simp)
 case rem=>
  cases hd:decide (n=0) with
  |true=>rw[hd] at h;cases h
  |false=>
   rw[hd] at h;cases h
   have:¬n=0:=of_decide_eq_false hd
   exact done rfl (by simp [Go.binOp,Op.intDiv,this]) pi (fun _ _=>zk) (by simp)
 case add=>cases h;exact done rfl (by simp [Go.binOp,Op.intArith]) pi (fun _ _=>zk) (by simp)
 case sub=>cases h;exact done rfl (by simp [Go.binOp,Op.intArith]) pi (fun _ _=>zk) (by simp)
 case mul=>cases h;exact done rfl (by simp [Go.binOp,Op.intArith]) pi (fun _ _=>zk) (by simp)
 case and=>cases h;exact done rfl (by simp only[Go.binOp,ne_eq,not_true_eq_false,if_false];rfl) pi (fun _ _=>zk) (by simp)
 case or=>cases h;exact done rfl (by simp only[Go.binOp,ne_eq,not_true_eq_false,if_false];rfl) pi (fun _ _=>zk) (by simp)
 case xor=>cases h;exact done rfl (by simp only[Go.binOp,ne_eq,not_true_eq_false,if_false];rfl) pi (fun _ _=>zk) (by simp)
 case andNot=>cases h;exact done rfl (by simp only[Go.binOp,ne_eq,not_true_eq_false,if_false];rfl) pi (fun _ _=>zk) (by simp)
 case eql=>cases h;exact done rfl (by simp only[Go.binOp,ne_eq,not_true_eq_false,if_false];rfl) pb (fun _ _=>zp) (by simp)
 case neq=>cases h;exact done rfl (by simp only[Go.binOp,ne_eq,not_true_eq_false,if_false];rfl) pb (fun _ _=>zp) (by simp)
 case lss=>cases h;exact done rfl (by simp only[Go.binOp,ne_eq,not_true_eq_false,if_false];rfl) pb (fun _ _=>zp) (by simp)
 case leq=>cases h;exact done rfl (by simp only[Go.binOp,ne_eq,not_true_eq_false,if_false];rfl) pb (fun _ _=>zp) (by simp)
 case gtr=>cases h;exact done rfl (by simp only[Go.binOp,ne_eq,not_true_eq_false,if_false];rfl) pb (fun _ _=>zp) (by simp)
 case geq=>cases h;exact done rfl (by simp only[Go.binOp,ne_eq,not_true_eq_false,if_false];rfl) pb (fun _ _=>zp) (by simp)
end Go.Ref

namespace Go.Ref
open Go
variable {P:Program} {E:Env} {X:ak} {s:State} {a:Act} {o:Oper} {u:Out}
theorem zZ(x y:ByteArray):(x.toList==y.toList)=decide (x=y):=by
 rw[ByteArray.toList_eq,ByteArray.toList_eq]
 by_cases h:x=y
 ·subst h;simp
 ·have:¬x.data.toList=y.data.toList:=fun e=>h (by
   cases x;cases y
   congr
   exact Array.toList_inj.1 e)
  rw[beq_eq_false_iff_ne.2 this,decide_eq_false h]
theorem Yy{op:BinOp}{T:TypeId}{m n:ByteArray}{l:List SV}(w:World)(h:jL op m n some=some l):
 ∃sv v,l=[sv]/\(Go.binOp op T (.string m) (.string n)).run P w= .ok v w/\Plain sv/\(∀X pl,ar X pl sv v)/\∀id t p,sv≠ .ptr id t p:=by
 have pb:∀{b:Bool},Plain (.af .bool b []):=trivial
 unfold jL at h
 cases op<;>simp only at h<;>first|(cases h;done)|skip
 case add=>
  cases hd:decide (m.size+n.size<=9223372036854775807) with
  |false=>rw[hd] at h;cases h
  |true=>
   rw[hd] at h;cases h
   have h1:=of_decide_eq_true hd
   have h2:¬((((m.size+n.size:Nat)):Int)>IntKind.i64.max):=by
    show¬((((m.size+n.size:Nat)):Int)>9223372036854775807)
    omega
   refine⟨_,_,rfl,?_,trivial,fun _ _=>pA,by simp⟩
   simp only[Go.binOp,Op.stringOp]
   rw[if_neg h2]
   rfl
 all_goals
  cases h
  refine⟨_,_,rfl,?_,pb,fun _ _=>zp,by simp⟩
  simp only[Go.binOp,Op.stringOp,zZ]
  rfl
theorem O7(hE:ah P E){T:TypeId}{t:Ty}(ht:E.ty T=some t)(w:World):(isAgg T).run P w= .ok t.agg w:=by
 have hu:=(hE.ty T t ht).b8
 cases t
 case bool=>simp [isAgg,run_underlying hu,Ty.agg]
 case int=>simp [isAgg,run_underlying hu,Ty.agg]
 case str=>simp [isAgg,run_underlying hu,Ty.agg]
 case sl=>simp [isAgg,run_underlying hu.1,Ty.agg]
 case arr=>obtain⟨e,h1,_⟩:=hu;simp [isAgg,run_underlying h1,Ty.agg]
 case unit=>obtain⟨fs,h1,_⟩:=hu;simp [isAgg,run_underlying h1,Ty.agg]
 case pair=>obtain⟨fs,h1,_⟩:=hu;simp [isAgg,run_underlying h1,Ty.agg]
 case aP=>exact hu.elim
theorem zl(hE:ah P E){T:TypeId}{t:Ty}(ht:E.ty T=some t)(w:World):(sizeOf T).run P w= .ok t.cells w:=by
 obtain⟨i,h1,h2,_⟩:=(hE.ty T t ht).info
 simp [sizeOf,typeInfo,h1,h2]
theorem rG(hE:ah P E){T:TypeId}{t:Ty}(ht:E.ty T=some t){x:El t}{cs:List Value}(hr:aN X t x cs){all:Array Value}{off:Nat}(ha:(all.toList.drop off).take t.cells=cs)(w:World):
 (part T all off).run P w= .ok (cq t cs) w:=by
 have hl:=hr.len
 unfold part
 simp only[Sem.run_bind,O7 hE ht,Result.andThen_ok]
 cases hg:t.agg with
 |true=>
  simp only[if_true,Sem.run_bind,zl hE ht,Result.andThen_ok,Sem.run_pure,zm hg]
  congr 2
  apply Array.ext'
  rw[<-ha,Array.toList_extract,List.extract_eq_take_drop]
  simp
 |false=>
  simp only[Bool.false_eq_true,if_false]
  have hc:t.cells=1:=by cases t<;>simp_all [Ty.agg,Ty.cells]
  rw[hc] at hl ha
  match cs,hl with
  | [c],_=>
    rw[ww hg]
    have bN:all[off]? =some c:=by
     have h1:(all.toList.drop off)[0]? =some c:=by
      have:=congrArg (fun l=>l[0]?) ha
      simpa [List.getElem?_take] using this
     simpa using h1
    simp [bN]
def wC(d:Nat)(xs ys:Array Value)(f:Field)(_:Option Bool×Unit):Sem (ForInStep (Option Bool×Unit)):=
 if f.name≠ "_" then do
  let __do_lift<-part f.type xs f.offset
  let __do_lift_1<-part f.type ys f.offset
  let __do_lift<-Op.equalIn d f.type __do_lift __do_lift_1
  if(!__do_lift)=true then pure (ForInStep.done (some false,()))
   else pure (ForInStep.yield (none,()))
 else pure (ForInStep.yield (none,()))
theorem OD(hE:ah P E){d:Nat}{xs ys:Array Value}(w:World)
 (ih:∀(t:Ty) (T:TypeId),E.ty T=some t->t.depth<=d->∀(x y:El t) (c1 c2:List Value) (r:Bool),aN X t x c1->aN X t y c2->cf t x y=some r->(Op.equalIn d T (cq t c1) (cq t c2)).run P w= .ok r w):
 ∀(fl:List Field) (t:Ty) (off:Nat),zo E fl t off->t.depth<=d+1->∀(x y:El t) (c1 c2:List Value) (r:Bool),aN X t x c1->aN X t y c2->(xs.toList.drop off).take t.cells=c1->(ys.toList.drop off).take t.cells=c2->cf t x y=some r->
  (forIn fl (none,()) (wC d xs ys)).run P w= .ok (if r=true then(none,()) else(some false,())) w:=by
 intro fl
 induction fl with
 |nil=>
  intro t off hf hd x y c1 c2 r h1 h2 h3 h4 he
  cases t<;>simp only[zo] at hf<;>try exact hf.elim
  simp only[cf,Option.some.injEq] at he
  subst he
  simp [List.forIn_nil]
 |cons f fl CA=>
  intro t off hf hd x y c1 c2 r h1 h2 h3 h4 he
  cases t<;>simp only[zo] at hf<;>try exact hf.elim
  rename_i ta tb
  obtain⟨ho,sd,hn,cM⟩:=hf
  obtain⟨ca,cb,e1,ra,rb⟩:=h1
  obtain⟨da,db,e2,sa,sb⟩:=h2
  simp only[cf] at he
  split at he
  case h_2=>cases he
  rename_i p q hp hq
  cases he
  simp only[Ty.depth] at hd
  have la:=ra.len
  have lb:=rb.len
  have ma:=sa.len
  have mb:=sb.len
  have t1:(xs.toList.drop off).take ta.cells=ca:=by
   have:=congrArg (fun l=>l.take ta.cells) (h3.trans e1)
   simp only[List.take_take,Ty.cells] at this
   rw[Nat.min_eq_left (Nat.le_add_right _ _),<-la,List.take_left] at this
   rw[<-la];exact this
  have t2:(ys.toList.drop off).take ta.cells=da:=by
   have:=congrArg (fun l=>l.take ta.cells) (h4.trans e2)
   simp only[List.take_take,Ty.cells] at this
   rw[Nat.min_eq_left (Nat.le_add_right _ _),<-ma,List.take_left] at this
   rw[<-ma];exact this
  have u1:(xs.toList.drop (off+ta.cells)).take tb.cells=cb:=by
   have:=congrArg (fun l=>l.drop ta.cells) (h3.trans e1)
   simp only[Ty.cells] at this
   rw[List.drop_take,Nat.add_sub_cancel_left,List.drop_drop,<-la,List.drop_left] at this
   rw[<-la];exact this
  have u2:(ys.toList.drop (off+ta.cells)).take tb.cells=db:=by
   have:=congrArg (fun l=>l.drop ta.cells) (h4.trans e2)
   simp only[Ty.cells] at this
   rw[List.drop_take,Nat.add_sub_cancel_left,List.drop_drop,<-ma,List.drop_left] at this
   rw[<-ma];exact this
  have iw:=rG hE sd ra (all:=xs) (off:=f.offset) (by rw[ho];exact t1) w
  have q5:=rG hE sd sa (all:=ys) (off:=f.offset) (by rw[ho];exact t2) w
  have heq:=ih ta f.type sd (by omega) x.1 y.1 ca da p ra sa hp
  have vv:(wC d xs ys f (none,())).run P w= .ok (if p=true then ForInStep.yield (none,()) else ForInStep.done (some false,())) w:=by
   unfold wC
   rw[if_pos hn]
   simp only[Sem.run_bind,iw,q5,heq,Result.andThen_ok]
   cases p<;>rfl
  rw[List.forIn_cons]
  simp only[Sem.run_bind,vv,Result.andThen_ok]
  cases p with
  |false=>rfl
  |true=>
   simp only[if_true,Bool.true_and]
   exact CA tb (off+ta.cells) cM (by omega) x.2 y.2 cb db q rb sb u1 u2 hq
theorem WU(hE:ah P E)(w:World){d n:Nat}{k:IntKind}{T e:TypeId}(ht:P.underlying T=some (.array n e))(he:E.ty e=some (.int k)){x y:List Int}{c1 c2:List Value}(r1:aN X (.arr n (.int k)) x c1)(r2:aN X (.arr n (.int k)) y c2):
 (Op.equalIn (d+2) T (.agg c1.toArray) (.agg c2.toArray)).run P w= .ok (decide (x=y)) w:=by
 obtain⟨l1,m1,e1⟩:=r1
 obtain⟨l2,m2,e2⟩:=r2
 have l1:x.length=n:=l1
 have l2:y.length=n:=l2
 have key:decide (x=y)=(List.range n).all fun i=>decide (x.getD i 0=y.getD i 0):=by
  by_cases xb:x=y
  ·rw[decide_eq_true xb]
   exact(List.all_eq_true.2 fun i _=>by rw[xb];simp).symm
  ·rw[decide_eq_false xb]
   cases ha:(List.range n).all fun i=>decide (x.getD i 0=y.getD i 0) with
   |false=>rfl
   |true=>
    refine absurd (List.ext_getElem (l1.trans l2.symm) fun i h1 h2=> ?_) xb
    have:=of_decide_eq_true (List.all_eq_true.1 ha i (List.mem_range.2 (by omega)))
    simpa [List.getD_eq_getElem?_getD,List.getElem?_eq_getElem h1,List.getElem?_eq_getElem h2] using this
 rw[key,List.range_eq_range',Op.equalIn]
 simp only[Sem.run_bind,run_underlying ht,Result.andThen_ok,zl hE he,Std.Legacy.Range.forIn_eq_forIn_range',Std.Legacy.Range.size,Nat.sub_zero,Nat.add_sub_cancel,Nat.div_one]
 have hl:∀i∈List.range' 0 n 1,i<n:=fun i hi=>by simpa using(List.mem_range'_1.1 hi).2
 generalize List.range' 0 n 1=l at hl⊢
 induction l with
 |nil=>simp
 |cons i l ih=>
  have hi:i<n:=hl i (by simp)
  have g1:x[i]? =some (x.getD i 0):=by rw[List.getD_eq_getElem?_getD,List.getElem?_eq_getElem (by omega)];rfl
  have g2:y[i]? =some (y.getD i 0):=by rw[List.getD_eq_getElem?_getD,List.getElem?_eq_getElem (by omega)];rfl
  have p1:=e1 i (x.getD i 0) g1
  have p2:=e2 i (y.getD i 0) g2
  have px:=rG hE he p1 (all:=c1.toArray) (off:=i*(Ty.int k).cells) rfl w
  have py:=rG hE he p2 (all:=c2.toArray) (off:=i*(Ty.int k).cells) rfl w
  rw[zv p1] at px
  rw[zv p2] at py
  have pe:(Op.equalIn (d+1) e (.int k (x.getD i 0)) (.int k (y.getD i 0))).run P w= .ok (decide (x.getD i 0=y.getD i 0)) w:=by
   have hu:P.underlying e=some (.int k):=(hE.ty e _ he).b8
   unfold Op.equalIn
   simp only[Sem.run_bind,run_underlying hu,Result.andThen_ok,if_true,Sem.run_pure]
   rfl
  simp only[List.forIn_cons,Sem.run_bind,px,py,pe,Result.andThen_ok,List.all_cons]
  cases hb:decide (x.getD i 0=y.getD i 0)
  ·simp
  ·simp only[Bool.not_true,Bool.false_eq_true,if_false,Sem.run_pure,Result.andThen_ok,Bool.true_and]
   exact ih fun j hj=>hl j (by simp [hj])
theorem O4(hE:ah P E)(w:World):∀(d:Nat) (t:Ty) (T:TypeId),E.ty T=some t->t.depth<=d->∀(x y:El t) (c1 c2:List Value) (r:Bool),aN X t x c1->aN X t y c2->cf t x y=some r->(Op.equalIn d T (cq t c1) (cq t c2)).run P w= .ok r w:=by
 intro d
 induction d with
 |zero=>intro t T ht hd;cases t<;>simp only[Ty.depth] at hd<;>omega
 |succ d ih=>
  intro t T ht hd x y c1 c2 r h1 h2 he
  have hu:=(hE.ty T t ht).b8
  cases t with
  |bool=>
   rw[mg h1,mg h2]
   simp only[cf,Option.some.injEq] at he
   subst he
   unfold Op.equalIn
   simp only[Sem.run_bind,run_underlying hu,Result.andThen_ok,Sem.run_pure]
  |int k=>
   rw[zv h1,zv h2]
   simp only[cf,Option.some.injEq] at he
   subst he
   unfold Op.equalIn
   simp only[Sem.run_bind,run_underlying hu,Result.andThen_ok,if_true,Sem.run_pure]
   rfl
  |str=>
   rw[zz h1,zz h2]
   simp only[cf,Option.some.injEq] at he
   subst he
   unfold Op.equalIn
   simp only[Sem.run_bind,run_underlying hu,Result.andThen_ok,Sem.run_pure]
   rw[beq_toListBytes,zZ]
  |sl e t=>simp [cf] at he
  |arr n t=>
   cases t<;>simp only[cf,Option.some.injEq,reduceCtorEq] at he
   rename_i k
   subst he
   obtain⟨e,eB,eR,_⟩:=hu
   obtain⟨d,rfl⟩:∃d',d=d'+1:=⟨d-1,by simp only[Ty.depth] at hd;omega⟩
   rw[zm rfl,zm rfl]
   exact WU hE w eB eR h1 h2
  |aP _ _ _=>exact hu.elim
  |unit=>
   obtain⟨fs,eB,eR,w8,_⟩:=hu
   rw[zm rfl,zm rfl]
   unfold Op.equalIn
   simp only[Sem.run_bind,run_underlying eB,Result.andThen_ok,run_program,w8,Bool.false_eq_true,if_false]
   rw[<-Array.forIn_toList]
   have:=OD (X:=X) hE (d:=d) (xs:=c1.toArray) (ys:=c2.toArray) w ih fs.toList .unit 0 eR hd x y c1 c2 r h1 h2 (by have:=h1.len;simp [Ty.cells] at this⊢;subst this;rfl) (by have:=h2.len;simp [Ty.cells] at this⊢;subst this;rfl) he
   unfold wC at this
   rw[this]
   simp only[Result.andThen_ok]
   cases r<;>rfl
  |pair ta tb=>
   obtain⟨fs,eB,eR,w8,_⟩:=hu
   rw[zm rfl,zm rfl]
   unfold Op.equalIn
   simp only[Sem.run_bind,run_underlying eB,Result.andThen_ok,run_program,w8,Bool.false_eq_true,if_false]
   rw[<-Array.forIn_toList]
   have:=OD (X:=X) hE (d:=d) (xs:=c1.toArray) (ys:=c2.toArray) w ih fs.toList (.pair ta tb) 0 eR hd x y c1 c2 r h1 h2 (by have:=h1.len;simp only[List.drop_zero];rw[<-this];exact List.take_length) (by have:=h2.len;simp only[List.drop_zero];rw[<-this];exact List.take_length) he
   unfold wC at this
   rw[this]
   simp only[Result.andThen_ok]
   cases r<;>rfl
end Go.Ref

namespace Go.Ref
open Go
variable {P:Program} {E:Env} {X:ak} {s:State} {a:Act} {o:Oper} {u:Out}
theorem Yx(hE:ah P E){op:BinOp}{T:TypeId}{x y:SV}{vx vy:Value}{px py:List Nat->Place}{l:List SV}(w:World)(xo yo:Operand)(hx:ar X px x vx)(hy:ar X py y vy)(h:jJ E op T x y some=some l):
 ∃b:Bool,l=bl b/\(eqGuard op T xo yo vx vy).run P w= .ok () w/\(Go.binOp op T vx vy).run P w= .ok (.bool b) w:=by
 unfold jJ at h
 split at h
 case h_2=>cases h
 rename_i t ht
 split at h
 ·cases h
 rename_i BX
 obtain⟨m,h,hm⟩:=zi h
 obtain⟨n,h,hn⟩:=zi h
 split at h
 case h_2=>cases h
 rename_i r hr
 obtain⟨c1,r1,e1⟩:=hm X px vx hx
 obtain⟨c2,r2,e2⟩:=hn X py vy hy
 have hd:t.depth<=10000:=by
  have:Nat.ble t.depth 1000=true:=by simpa using BX
  have:=Nat.le_of_ble_eq_true this
  omega
 have heq:=O4 hE w 10000 t T ht hd m n c1 c2 r r1 r2 hr
 have hu:=(hE.ty T t ht).b8
 have hg:(eqGuard op T xo yo vx vy).run P w= .ok () w:=by
  cases t
  case bool=>rw[e1,e2,mg r1,mg r2];exact TZ ..
  case int=>rw[e1,e2,zv r1,zv r2];exact xj ..
  case str=>rw[e1,e2,zz r1,zz r2];exact Oa ..
  case sl=>simp [cf] at hr
  case arr=>
   obtain⟨fs,_,_,hq⟩:=hu
   rw[e1,e2,zm rfl,zm rfl]
   cases op<;>simp [eqGuard,hq]
  case aP=>simp [cf] at hr
  all_goals
   obtain⟨fs,_,_,_,hq⟩:=hu
   rw[e1,e2,zm rfl,zm rfl]
   cases op<;>simp [eqGuard,hq]
 split at h
 ·cases h
  refine⟨r,rfl,hg,?_⟩
  rw[e1,e2]
  cases t
  case int=>rw[zv r1,zv r2];simp only[cf,Option.some.injEq] at hr;subst hr;simp only[Go.binOp,ne_eq,not_true_eq_false,if_false];rfl
  case str=>rw[zz r1,zz r2];simp only[cf,Option.some.injEq] at hr;subst hr;simp only[Go.binOp,Op.stringOp,zZ];rfl
  case bool=>rw[mg r1,mg r2] at heq⊢;simp only[Go.binOp,Sem.run_bind,Op.equal,Op.maxDepth,heq,Result.andThen_ok,Sem.run_pure]
  case sl=>simp [cf] at hr
  case aP=>simp [cf] at hr
  all_goals
   rw[zm rfl,zm rfl] at heq⊢
   simp only[Go.binOp,Sem.run_bind,Op.equal,Op.maxDepth,heq,Result.andThen_ok,Sem.run_pure]
 ·cases h
  refine⟨!r,rfl,hg,?_⟩
  rw[e1,e2]
  cases t
  case int=>rw[zv r1,zv r2];simp only[cf,Option.some.injEq] at hr;subst hr;simp only[Go.binOp,ne_eq,not_true_eq_false,if_false];rfl
  case str=>rw[zz r1,zz r2];simp only[cf,Option.some.injEq] at hr;subst hr;simp only[Go.binOp,Op.stringOp,zZ];rfl
  case bool=>rw[mg r1,mg r2] at heq⊢;simp only[Go.binOp,Sem.run_bind,Op.equal,Op.maxDepth,heq,Result.andThen_ok,Sem.run_pure]
  case sl=>simp [cf] at hr
  case aP=>simp [cf] at hr
  all_goals
   rw[zm rfl,zm rfl] at heq⊢
   simp only[Go.binOp,Sem.run_bind,Op.equal,Op.maxDepth,heq,Result.andThen_ok,Sem.run_pure]
 ·cases h
theorem z24(op:BinOp)(T:TypeId)(x y:Operand)(p q:Option Addr)(w:World):(eqGuard op T x y (.pointer p) (.pointer q)).run P w= .ok () w:=by
 cases op<;>simp [eqGuard]
theorem YO(d:Nat){T e:TypeId}(hu:P.underlying T=some (.pointer e))(w:World)(ad:Addr):(Op.equalIn (d+1) T (.pointer (some ad)) (.pointer none)).run P w= .ok false w:=by
 unfold Op.equalIn
 simp only[Sem.run_bind,run_underlying hu,Result.andThen_ok,Sem.run_pure]
theorem YN(d:Nat){T e:TypeId}(hu:P.underlying T=some (.pointer e))(w:World):(Op.equalIn (d+1) T (.pointer none) (.pointer none)).run P w= .ok true w:=by
 unfold Op.equalIn
 simp only[Sem.run_bind,run_underlying hu,Result.andThen_ok,Sem.run_pure]
 rfl
theorem DS(hE:ah P E){op:BinOp}{T:TypeId}{x y:SV}{vx vy:Value}{px py:List Nat->Place}{u:Out}(w:World)(xo yo:Operand)(hx:ar X px x vx)(hy:ar X py y vy)(h:bin E op T x y (fun v=>some ({v:=v}:Out))=some u):
 ∃sv v,u={v:=[sv]}/\(eqGuard op T xo yo vx vy).run P w= .ok () w/\(Go.binOp op T vx vy).run P w= .ok v w/\(∀X pl,ar X pl sv v)/\∀id t p,sv≠ .ptr id t p:=by
 unfold bin at h
 split at h
 ·rename_i k m o1 k' n o2
  rw[pr hx,pr hy]
  obtain⟨l,h1,h2⟩:=zs Hx h
  obtain⟨sv,v,rfl,hv,_,hr,hp⟩:=Hy (T:=T) w h1
  cases h2
  exact⟨sv,v,rfl,xj ..,hv,hr,hp⟩
 ·rename_i m o1 n o2
  rw[Oi hx,Oi hy]
  obtain⟨l,h1,h2⟩:=zs Hz h
  obtain⟨sv,v,rfl,hv,_,hr,hp⟩:=Yy (T:=T) w h1
  cases h2
  exact⟨sv,v,rfl,Oa ..,hv,hr,hp⟩
 ·obtain⟨r,_,RD⟩:=hx
  have Cu:vy= .pointer none:=hy
  subst Cu
  split at h
  ·cases h
  rename_i vm
  simp only[Bool.or_eq_true,Bool.not_eq_true',not_or,Bool.not_eq_true,Bool.not_eq_false] at vm
  obtain⟨rfl,_⟩:=(zu vm.1).1 RD
  obtain⟨e,hu⟩:=hE.pt T vm.2
  have heq:∀ad,(Op.equal T (.pointer (some ad)) (.pointer none)).run P w= .ok false w:=fun ad=>YO 9999 hu w ad
  split at h
  ·cases h
   exact⟨_,_,rfl,z24 ..,by(simp only[Go.binOp,Sem.run_bind,heq,Result.andThen_ok,Sem.run_pure];try rfl),fun _ _=>zp,by simp⟩
  ·cases h
   exact⟨_,_,rfl,z24 ..,by(simp only[Go.binOp,Sem.run_bind,heq,Result.andThen_ok,Sem.run_pure];try rfl),fun _ _=>zp,by simp⟩
  ·cases h
 ·have Cp:vx= .pointer none:=hx
  have Cu:vy= .pointer none:=hy
  subst Cp Cu
  split at h
  ·cases h
  rename_i vm
  obtain⟨e,hu⟩:=hE.pt T (by simpa using vm)
  have heq:(Op.equal T (.pointer none) (.pointer none)).run P w= .ok true w:=YN 9999 hu w
  split at h
  ·cases h
   exact⟨_,_,rfl,z24 ..,by(simp only[Go.binOp,Sem.run_bind,heq,Result.andThen_ok,Sem.run_pure];try rfl),fun _ _=>zp,by simp⟩
  ·cases h
   exact⟨_,_,rfl,z24 ..,by(simp only[Go.binOp,Sem.run_bind,heq,Result.andThen_ok,Sem.run_pure];try rfl),fun _ _=>zp,by simp⟩
  ·cases h
 ·obtain⟨l,h1,h2⟩:=zs Hw h
  obtain⟨b,rfl,hg,hv⟩:=Yx hE w xo yo hx hy h1
  cases h2
  exact⟨_,_,rfl,hg,hv,fun _ _=>zp,by simp⟩
theorem YH(hE:ah P E)(hr:Rel X s a){ops:List Oper}{op:BinOp}{T T':TypeId}{x y:Operand}(ho:o.op= .binOp op T x y T'){C:FuncId->bg Out}(h:act E C ops o s some=some u):ay P X s a o u:=by
 unfold act at h
 simp only[ho] at h
 obtain⟨sv,v,rfl,hg,hv,aJ,hp⟩:=DS hE X.w x y (hr.ax x) (hr.ax y) h
 exact ay.plain hr (by simp only[execOp,ho,Sem.run_bind,hg,hv,Result.andThen_ok,Sem.run_pure]) (aJ _ _) (fun id t p e=>absurd e (hp id t p))
end Go.Ref

namespace Go.Ref
open Go
variable {P:Program} {E:Env} {X:ak} {s:State} {a:Act} {o:Oper} {u:Out}
theorem wm(ad:Addr)(h:ad.spot=none)(m n:Nat):(ad.add m).add n=ad.add (m+n):=by
 unfold Addr.add
 by_cases h1:m=0<;>by_cases h2:n=0<;>simp [h1,h2,Nat.add_assoc]
theorem pw{ad:Addr}(h:ad.spot=none)(m:Nat):(ad.add m).spot=none:=by
 unfold Addr.add
 split
 ·exact h
 ·rfl
theorem zr(g i j:Nat):(⟨g,i,none⟩:Addr).add j=⟨g,i+j,none⟩:=by
 unfold Addr.add
 split<;>simp_all
theorem xn:∀(t:Ty) (p q:List Nat) (u:Ty),t.at_ p=some u->t.off (p++q)=t.off p+u.off q:=by
 intro t
 induction t with
 |arr n t ih=>
  intro p q u h
  cases p with
  |nil=>simp only[Ty.at_,Option.some.injEq] at h;subst h;simp [Ty.off]
  |cons i p=>
   simp only[Ty.at_] at h
   simp only[List.cons_append,Ty.off,ih p q u h]
   omega
 |pair x y vB vC=>
  intro p q u h
  cases p with
  |nil=>simp only[Ty.at_,Option.some.injEq] at h;subst h;simp [Ty.off]
  |cons i p=>
   cases i with
   |zero=>simp only[Ty.at_] at h;simp only[List.cons_append,Ty.off,vB p q u h]
   |succ i=>
    simp only[Ty.at_] at h
    have:=vC (i::p) q u h
    simp only[List.cons_append,Ty.off] at this⊢
    omega
 |_=>
  intro p q u h
  cases p with
  |nil=>simp only[Ty.at_,Option.some.injEq] at h;subst h;simp [Ty.off]
  |cons i p=>simp [Ty.at_] at h
theorem FK:∀(t:Ty) (p q:List Nat) (u:Ty),t.at_ p=some u->t.cS p->u.cS q->t.cS (p++q):=by
 intro t
 induction t with
 |arr n t ih=>
  intro p q u h hp hq
  cases p with
  |nil=>simp only[Ty.at_,Option.some.injEq] at h;subst h;exact hq
  |cons i p=>exact⟨hp.1,ih p q u h hp.2 hq⟩
 |pair x y vB vC=>
  intro p q u h hp hq
  cases p with
  |nil=>simp only[Ty.at_,Option.some.injEq] at h;subst h;exact hq
  |cons i p=>
   cases i with
   |zero=>exact vB p q u h hp hq
   |succ i=>exact vC (i::p) q u h hp hq
 |_=>
  intro p q u h hp hq
  cases p with
  |nil=>simp only[Ty.at_,Option.some.injEq] at h;subst h;exact hq
  |cons i p=>simp [Ty.at_] at h
theorem getD_some{α:Type}{xs:List α}{i:Nat}(d:α)(h:i<xs.length):xs[i]? =some (xs.getD i d):=by
 simp [List.getD_eq_getElem?_getD,List.getElem?_eq_getElem h]
theorem wu{X:ak}:∀{t:Ty} {p:List Nat} {x:El t} {cs:List Value} {u:Ty} {y:El u},aN X t x cs->t.cS p->El.get t p x=some ⟨u,y⟩->
 t.at_ p=some u/\t.off p+u.cells<=t.cells/\aN X u y ((cs.drop (t.off p)).take u.cells):=by
 intro t
 induction t with
 |arr n t ih=>
  intro p x cs u y hr hp h
  cases p with
  |nil=>
   simp only[El.get,Option.some.injEq,Sigma.mk.injEq] at h
   obtain⟨rfl,h⟩:=h
   cases h
   refine⟨rfl,by simp [Ty.off],?_⟩
   have:=hr.len
   simp only[Ty.off,List.drop_zero]
   rw[<-this,List.take_length]
   exact hr
  |cons i p=>
   obtain⟨hi,hp⟩:=hp
   obtain⟨h1,h2,h3⟩:=hr
   simp only[El.get] at h
   obtain⟨k1,k2,k3⟩:=ih (h3 i _ (getD_some (El.bj t) (by omega))) hp h
   have hn:(i+1)*t.cells<=n*t.cells:=Nat.mul_le_mul_right _ hi
   rw[Nat.add_mul,Nat.one_mul] at hn
   refine⟨k1,by simp only[Ty.off,Ty.cells];omega,?_⟩
   simp only[Ty.off]
   rw[List.drop_take,List.take_take,List.drop_drop,Nat.min_eq_left (by omega)] at k3
   exact k3
 |pair ta tb ga gb=>
  intro p x cs u y hr hp h
  cases p with
  |nil=>
   simp only[El.get,Option.some.injEq,Sigma.mk.injEq] at h
   obtain⟨rfl,h⟩:=h
   cases h
   refine⟨rfl,by simp [Ty.off],?_⟩
   have:=hr.len
   simp only[Ty.off,List.drop_zero]
   rw[<-this,List.take_length]
   exact hr
  |cons i p=>
   obtain⟨c1,c2,rfl,r1,r2⟩:=hr
   have l1:=r1.len
   have l2:=r2.len
   cases i with
   |zero=>
    obtain⟨k1,k2,k3⟩:=ga r1 hp h
    refine⟨k1,by simp only[Ty.off,Ty.cells];omega,?_⟩
    simp only[Ty.off]
    rw[List.drop_append_of_le_length (by omega),List.take_append_of_le_length (by rw[List.length_drop];omega)]
    exact k3
   |succ i=>
    obtain⟨k1,k2,k3⟩:=gb r2 hp h
    refine⟨k1,by simp only[Ty.off,Ty.cells];omega,?_⟩
    simp only[Ty.off]
    rw[<-List.drop_drop,<-l1,List.drop_left]
    exact k3
 |_=>
  intro p x cs u y hr hp h
  cases p with
  |nil=>
   simp only[El.get,Option.some.injEq,Sigma.mk.injEq] at h
   obtain⟨rfl,h⟩:=h
   cases h
   refine⟨rfl,by simp [Ty.off],?_⟩
   have:=hr.len
   simp only[Ty.off,List.drop_zero]
   rw[<-this,List.take_length]
   exact hr
  |cons i p=>simp [El.get] at h
theorem zP:∀(fl:List Field) (t:Ty) (off j:Nat) (ft:Ty),zo E fl t off->t.b7=true->t.at_ [j]=some ft->∃f,fl[j]? =some f/\f.offset=off+t.off [j]/\E.ty f.type=some ft/\t.cS [j]:=by
 intro fl
 induction fl with
 |nil=>intro t off j ft hf hp h;cases t<;>simp [zo,Ty.b7] at hf hp
 |cons f fl ih=>
  intro t off j ft hf hp h
  cases t<;>simp only[zo] at hf<;>try exact hf.elim
  rename_i ta tb
  obtain⟨h1,h2,h3,h4⟩:=hf
  cases j with
  |zero=>
   simp only[Ty.at_,Option.some.injEq] at h
   subst h
   exact⟨f,rfl,by simp [Ty.off,h1],h2,by simp [Ty.cS]⟩
  |succ j=>
   simp only[Ty.at_] at h
   cases NH:tb.b7 with
   |true=>
    obtain⟨g,g1,g2,g3,g4⟩:=ih tb (off+ta.cells) j ft h4 NH h
    exact⟨g,g1,by simp only[Ty.off];omega,g3,g4⟩
   |false=>
    cases fl with
    |nil=>cases tb<;>simp [zo,Ty.at_] at h4 h
    |cons g fl=>cases tb<;>simp [zo,Ty.b7] at h4 NH
theorem z59(hE:ah P E){T:TypeId}{t:Ty}(ht:E.ty T=some t)(hp:t.b7=true):∃fs,P.underlying T=some (.struct fs)/\zo E fs.toList t 0:=by
 have hu:=(hE.ty T t ht).b8
 cases t<;>simp [Ty.b7] at hp
 obtain⟨fs,h1,h2,_⟩:=hu
 exact⟨fs,h1,h2⟩
theorem Oc(hE:ah P E){f:Field}{ft:Ty}(hf:E.ty f.type=some ft)(hc:ft.cells≠0)(ad:Addr)(w:World):(fieldPlace ad f).run P w= .ok (ad.add f.offset) w:=by
 simp [fieldPlace,zl hE hf,hc]
theorem wE:∀(t:Ty) (p:List Nat) (x:El t) (u:Ty) (y:El u),El.get t p x=some ⟨u,y⟩->t.at_ p=some u:=by
 intro t
 induction t with
 |arr n t ih=>
  intro p x u y h
  cases p with
  |nil=>simp only[El.get,Option.some.injEq,Sigma.mk.injEq] at h;rw[Ty.at_,h.1]
  |cons i p=>exact ih p _ u y h
 |pair a b ga gb=>
  intro p x u y h
  cases p with
  |nil=>simp only[El.get,Option.some.injEq,Sigma.mk.injEq] at h;rw[Ty.at_,h.1]
  |cons i p=>
   cases i with
   |zero=>exact ga p _ u y h
   |succ i=>exact gb (i::p) _ u y h
 |_=>
  intro p x u y h
  cases p with
  |nil=>simp only[El.get,Option.some.injEq,Sigma.mk.injEq] at h;rw[Ty.at_,h.1]
  |cons i p=>simp [El.get] at h
theorem T4(hE:ah P E)(hr:Rel X s a){ops:List Oper}{T:TypeId}{x:Operand}{j:Nat}(ho:o.op= .fieldAddr T x j){C:FuncId->bg Out}(h:act E C ops o s some=some u):ay P X s a o u:=by
 unfold act at h
 simp only[ho] at h
 have hx:=hr.ax x
 unfold wD at h
 split at h
 ·rename_i t u' id root p hT e
  rw[e] at hx
  obtain⟨r,hb,hx⟩:=hx
  split at h
  ·cases h
  rename_i cU
  have cU:root.bf=false:=by simpa using cU
  obtain⟨hv,dy⟩:=(zu cU).1 hx
  split at h
  case h_2=>cases h
  rename_i TF bz
  split at h
  case isFalse=>cases h
  rename_i gH
  rw[Bool.and_eq_true] at gH
  obtain⟨heq,dn⟩:=gH
  have:=Ty.aH heq
  subst this
  split at h
  case h_2=>cases h
  rename_i ft wV
  split at h
  ·cases h
  rename_i dI
  cases h
  have hc:ft.cells≠0:=fun e=>dI (by rw[e];rfl)
  obtain⟨fs,eB,eR⟩:=z59 hE hT dn
  obtain⟨f,g1,g2,g3,g4⟩:=zP fs.toList u' 0 j ft eR dn wV
  refine ay.plain hr (v:= .pointer (some ⟨r,root.off (p++ [j]),none⟩)) ?_ ⟨r,hb,(zu cU).2 ⟨rfl,FK root p [j] u' bz dy g4⟩⟩ (fun bu t' p' e'=> ?_)
  ·have eM:fs[j]? =some f:=by rw[<-Array.getElem?_toList];exact g1
   simp only[execOp,ho,Sem.run_bind,Instr.fieldAt,run_underlying eB,Result.andThen_ok,eM,hv,Instr.sureAddr,Sem.run_pure,Oc hE g3 hc]
   rw[zr,xn root p [j] u' bz,g2,Nat.zero_add]
  ·injection e' with e1 e2 e3
   subst e1
   exact pC hr e
 ·rename_i t u' root y hT e
  rw[e] at hx
  obtain⟨ad,cs,hv,gp,aJ,cn⟩:=hx
  split at h
  case isFalse=>cases h
  rename_i gH
  rw[Bool.and_eq_true] at gH
  obtain⟨heq,dn⟩:=gH
  have:=Ty.aH heq
  subst this
  split at h
  case h_2=>cases h
  rename_i ft z wV
  split at h
  ·cases h
  rename_i dI
  cases h
  have hc:ft.cells≠0:=fun e=>dI (by rw[e];rfl)
  obtain⟨fs,eB,eR⟩:=z59 hE hT dn
  have bz:u'.at_ [j]=some ft:=wE u' [j] y ft z wV
  obtain⟨f,g1,g2,g3,g4⟩:=zP fs.toList u' 0 j ft eR dn bz
  obtain⟨k1,k2,k3⟩:=wu aJ g4 wV
  refine ay.plain hr (v:= .pointer (some (ad.add (u'.off [j])))) ?_ ⟨ad.add (u'.off [j]),_,rfl,pw gp _,k3,fun i v hi=> ?_⟩ (fun bu t' p' e'=>by cases e')
  ·have eM:fs[j]? =some f:=by rw[<-Array.getElem?_toList];exact g1
   simp only[execOp,ho,Sem.run_bind,Instr.fieldAt,run_underlying eB,Result.andThen_ok,eM,hv,Instr.sureAddr,Sem.run_pure,Oc hE g3 hc]
   rw[g2,Nat.zero_add]
  ·rw[wm _ gp]
   refine cn _ v ?_
   rw[List.getElem?_take] at hi
   split at hi
   ·rw[List.getElem?_drop] at hi;exact hi
   ·cases hi
 ·cases h
end Go.Ref

namespace Go.Ref
open Go
variable {P:Program} {E:Env} {X:ak} {s:State} {a:Act} {o:Oper} {u:Out}
theorem pu{R:Type}{i:Int}{n:Nat}{x:Option R}{z:R}(h:za i n x=some z):0<=i/\i<(n:Int)/\x=some z:=by
 unfold za at h
 cases h1:decide (0<=i)<;>rw[h1] at h
 ·cases h
 ·cases h2:decide (i<(n:Int))<;>rw[h2] at h
  ·cases h
  ·exact⟨of_decide_eq_true h1,of_decide_eq_true h2,h⟩
theorem Ba{e:TypeId}{t:Ty}{xs:List (El t)}{cs:List Value}(h:aN X (.sl e t) xs cs):∃A c,cq (.sl e t) cs= .slice A xs.length c/\xs.length<=c/\
 ∀(j:Nat) x,xs[j]? =some x->∃ad cI,A=some ad/\ad.spot=none/\aN X t x cI/\∀(i:Nat) v,cI[i]? =some v->X.au (ad.add (j*t.cells+i)) v:=by
 obtain⟨A,c,rfl,h1,h2⟩:=h
 exact⟨A,c,rfl,h1,h2⟩
theorem aN.nO{e:TypeId}{t:Ty}{xs:List (El t)}{A:Option Addr}{n c:Nat}(hn:xs.length=n)(h1:n<=c)(h2:∀(j:Nat) x,xs[j]? =some x->∃ad cI,A=some ad/\ad.spot=none/\aN X t x cI/\∀(i:Nat) v,cI[i]? =some v->X.au (ad.add (j*t.cells+i)) v):aN X (.sl e t) xs [.slice A n c]:=by
 subst hn
 exact⟨A,c,rfl,h1,h2⟩
theorem HE{R:Type}{s:SV}{K:Int->Option R}{z:R}(h:s.num K=some z):∃n k,K n=some z/\∀(X:ak) pl v,ar X pl s v->v= .int k n:=by
 unfold SV.num at h
 split at h
 ·rename_i k n w
  refine⟨n,k,h,fun X pl v hv=> ?_⟩
  obtain⟨cs,h1,h2,_⟩:=hv
  rw[h2,zv h1]
 ·cases h
theorem T5(hE:ah P E)(hr:Rel X s a){ops:List Oper}{T:TypeId}{x i:Operand}(ho:o.op= .indexAddr T x i){C:FuncId->bg Out}(h:act E C ops o s some=some u):ay P X s a o u:=by
 unfold act at h
 simp only[ho] at h
 have hx:=hr.ax x
 have hi:=hr.ax i
 unfold wF at h
 obtain⟨n,ik,h,hn⟩:=HE h
 have ei:=hn X _ _ hi
 split at h
 ·rename_i e t t' xs w hT cz
  rw[cz] at hx
  obtain⟨ys,h,lB⟩:=zi h
  obtain⟨h0,h1,h⟩:=pu h
  cases h
  obtain⟨cs,gY,ev⟩:=lB X (rl x) _ hx.bare
  obtain⟨A,c,hm,hle,cT⟩:=Ba gY
  rw[hm] at ev
  have aK:n.toNat<List.length ys:=by omega
  obtain⟨ad,cI,rfl,gp,aJ,cn⟩:=cT n.toNat _ (getD_some (El.bj t) aK)
  have hu:=(hE.ty T _ hT).b8
  refine ay.plain hr (v:= .pointer (some (ad.add (n.toNat*t.cells)))) ?_ ⟨ad.add (n.toNat*t.cells),cI,rfl,pw gp _,aJ,fun j v hj=> ?_⟩ (fun _ _ _ e'=>by cases e')
  ·simp only[execOp,ho,Sem.run_bind,Instr.indexAt,ei,ev,asIntOf,Sem.run_pure,Result.andThen_ok,run_underlying hu.1,Sem.run_ite,h0,h1,and_self,if_true,zl hE hu.2]
  ·rw[wm _ gp];exact cn j v hj
 ·rename_i m t id root p hT cz
  rw[cz] at hx
  obtain⟨r,hb,hx⟩:=hx
  split at h
  ·cases h
  rename_i cU
  have cU:root.bf=false:=by simpa using cU
  obtain⟨hv,dy⟩:=(zu cU).1 hx
  split at h
  case h_2=>cases h
  rename_i TF bz
  split at h
  case isFalse=>cases h
  rename_i heq
  have:=Ty.aH heq
  subst this
  obtain⟨h0,h1,h⟩:=pu h
  cases h
  obtain⟨e,eB,eR,_⟩:=(hE.ty T _ hT).b8
  have aK:n.toNat<m:=by omega
  refine ay.plain hr (v:= .pointer (some ⟨r,root.off (p++ [n.toNat]),none⟩)) ?_ ⟨r,hb,(zu cU).2 ⟨rfl,FK root p [n.toNat] _ bz dy ⟨aK,by simp [Ty.cS]⟩⟩⟩ (fun bu t' p' e'=> ?_)
  ·simp only[execOp,ho,Sem.run_bind,Instr.indexAt,ei,hv,asIntOf,Sem.run_pure,Result.andThen_ok,run_underlying eB,Instr.sureAddr,Sem.run_ite,h0,h1,and_self,if_true,zl hE eR]
   rw[zr,xn root p [n.toNat] _ bz]
   simp [Ty.off]
  ·injection e' with e1 e2 e3
   subst e1
   exact pC hr cz
 ·rename_i m t t' xs hT cz
  rw[cz] at hx
  obtain⟨ad,cs,hv,gp,aJ,cn⟩:=hx
  simp only[SV.el] at h
  split at h
  case isFalse=>cases h
  rename_i heq
  have:=Ty.aH heq
  subst this
  obtain⟨h0,h1,h⟩:=pu h
  cases h
  obtain⟨e,eB,eR,_⟩:=(hE.ty T _ hT).b8
  obtain⟨l1,l2,l3⟩:=aJ
  have aK:n.toNat<m:=by omega
  have rX:=l3 n.toNat _ (getD_some (El.bj t) (by omega))
  refine ay.plain hr (v:= .pointer (some (ad.add (n.toNat*t.cells)))) ?_ ⟨ad.add (n.toNat*t.cells),_,rfl,pw gp _,rX,fun j v hj=> ?_⟩ (fun _ _ _ e'=>by cases e')
  ·simp only[execOp,ho,Sem.run_bind,Instr.indexAt,ei,hv,asIntOf,Sem.run_pure,Result.andThen_ok,run_underlying eB,Instr.sureAddr,Sem.run_ite,h0,h1,and_self,if_true,zl hE eR]
  ·rw[wm _ gp]
   refine cn _ v ?_
   rw[List.getElem?_take] at hj
   split at hj
   ·rw[List.getElem?_drop] at hj;exact hj
   ·cases hj
 ·rename_i e0 t id r p hT cz
  rw[cz] at hx
  unfold wh at h
  split at h
  case h_2=>cases h
  rename_i m ta tb
  split at h
  case isFalse=>cases h
  rename_i heq
  have:=Ty.aH heq
  subst this
  obtain⟨h0,h1,h⟩:=pu h
  cases h
  obtain⟨r0,hb,cap,hv,gG⟩:=hx
  have hu:=(hE.ty T _ hT).b8
  refine ay.plain hr (v:= .pointer (some ⟨r0,n.toNat*ta.cells,none⟩)) ?_ ⟨r0,hb,rfl⟩ (fun bu t' p' e'=> ?_)
  ·simp only[execOp,ho,Sem.run_bind,Instr.indexAt,ei,hv,asIntOf,Sem.run_pure,Result.andThen_ok,run_underlying hu.1,Sem.run_ite,h0,h1,and_self,if_true,zl hE hu.2]
   rw[zr,Nat.zero_add]
  ·injection e' with e1 e2 e3
   subst e1
   exact pC hr cz
 ·cases h
theorem rK{pl:List Nat->Place}{t:Ty}{x:El t}{cs:List Value}(h:aN X t x cs):ar X pl (.af t x []) (cq t cs):=⟨cs,h,rfl,zw⟩
theorem UP(hE:ah P E)(hr:Rel X s a){ops:List Oper}{T:TypeId}{x i:Operand}(ho:o.op= .index T x i){C:FuncId->bg Out}(h:act E C ops o s some=some u):ay P X s a o u:=by
 unfold act at h
 simp only[ho] at h
 have hx:=hr.ax x
 have hi:=hr.ax i
 unfold wG at h
 obtain⟨n,ik,h,hn⟩:=HE h
 have ei:=hn X _ _ hi
 split at h
 ·rename_i hT
  obtain⟨st,h,bL⟩:=zi h
  obtain⟨h0,h1,h⟩:=pu h
  cases h
  obtain⟨cs,vO,ev⟩:=bL X _ _ hx
  rw[zz vO] at ev
  have hu:=(hE.ty T _ hT).b8
  have aK:n.toNat<st.size:=by omega
  refine ay.plain hr (v:= .int .u8 (zb st n.toNat)) ?_ zk (fun _ _ _ e'=>by cases e')
  have bN:st[n.toNat]? =some (st[n.toNat]'aK):=getElem?_pos st n.toNat aK
  simp only[execOp,ho,Sem.run_bind,Instr.index,ei,ev,asIntOf,Sem.run_pure,Result.andThen_ok,run_underlying hu,h0,if_true,bN]
  simp [zb,aK]
 ·rename_i m t hT
  obtain⟨ys,h,lB⟩:=zi h
  obtain⟨h0,h1,h⟩:=pu h
  cases h
  obtain⟨cs,gY,ev⟩:=lB X _ _ hx
  rw[zm rfl] at ev
  obtain⟨e,eB,eR,_⟩:=(hE.ty T _ hT).b8
  obtain⟨l1,l2,l3⟩:=gY
  have aK:n.toNat<m:=by omega
  have rX:=l3 n.toNat _ (getD_some (El.bj t) (by omega))
  refine ay.plain hr ?_ (rK rX) (fun _ _ _ e'=>by cases e')
  have hp:=rG hE eR rX (all:=cs.toArray) (off:=n.toNat*t.cells) rfl X.w
  simp only[execOp,ho,Sem.run_bind,Instr.index,ei,ev,asIntOf,Sem.run_pure,Result.andThen_ok,run_underlying eB,h0,h1,and_self,if_true,zl hE eR,hp]
 ·cases h
theorem UO(hE:ah P E)(hr:Rel X s a){ops:List Oper}{T:TypeId}{x:Operand}{j:Nat}(ho:o.op= .field T x j){C:FuncId->bg Out}(h:act E C ops o s some=some u):ay P X s a o u:=by
 unfold act at h
 simp only[ho] at h
 have hx:=hr.ax x
 split at h
 case h_2=>cases h
 rename_i t hT
 split at h
 ·cases h
 rename_i dn
 have dn:t.b7=true:=by simpa using dn
 obtain⟨y,h,hy⟩:=zi h
 split at h
 case h_2=>cases h
 rename_i ft z hg
 cases h
 obtain⟨cs,rep,ev⟩:=hy X _ _ hx
 have jQ:t.agg=true:=by cases t<;>simp_all [Ty.b7,Ty.agg]
 rw[zm jQ] at ev
 obtain⟨fs,eB,eR⟩:=z59 hE hT dn
 obtain⟨f,g1,g2,g3,dy⟩:=zP fs.toList t 0 j ft eR dn (wE t [j] y ft z hg)
 obtain⟨k1,k2,k3⟩:=wu rep dy hg
 have eM:fs[j]? =some f:=by rw[<-Array.getElem?_toList];exact g1
 refine ay.plain hr ?_ (rK k3) (fun _ _ _ e'=>by cases e')
 have hp:=rG hE g3 k3 (all:=cs.toArray) (off:=f.offset) (by rw[g2,Nat.zero_add]) X.w
 simp only[execOp,ho,Sem.run_bind,Instr.field,run_underlying eB,Result.andThen_ok,eM,ev,asAgg,Sem.run_pure,hp]
theorem YK(hE:ah P E)(hr:Rel X s a){ops:List Oper}{x:Operand}{T:TypeId}{cH:Array Operand}{ts:Array TypeId}(ho:o.op= .call ⟨.builtin .len,cH,ts⟩){C:FuncId->bg Out}(h:act E C ops o s some=some u):ay P X s a o u:=by
 unfold act at h
 simp only[ho] at h
 split at h
 case h_2=>cases h
 rename_i x T lA qP
 have has:cH= #[x]:=by rw[<-Array.toArray_toList (xs:=cH),lA]
 have jT:ts= #[T]:=by rw[<-Array.toArray_toList (xs:=ts),qP]
 subst has jT
 have hx:=hr.ax x
 unfold lG at h
 split at h
 ·rename_i hT
  obtain⟨st,h,bL⟩:=zi h
  cases h
  obtain⟨cs,vO,ev⟩:=bL X _ _ hx
  rw[zz vO] at ev
  have hu:=(hE.ty T _ hT).b8
  refine ay.plain hr (v:= .int .i64 st.size) ?_ zk (fun _ _ _ e'=>by cases e')
  simp [execOp,ho,resolve,invoke,builtin,Builtin.len_,ev,run_underlying hu,goInt]
 ·rename_i e t hT
  have hu:=(hE.ty T _ hT).b8
  split at h
  ·rename_i id n ta tb cz
   cases h
   rw[cz] at hx
   obtain⟨r0,hb,cap,ev,gG⟩:=hx
   refine ay.plain hr (v:= .int .i64 n) ?_ zk (fun _ _ _ e'=>by cases e')
   simp [execOp,ho,resolve,invoke,builtin,Builtin.len_,ev,run_underlying hu.1,goInt]
  ·obtain⟨xs,h,Ct⟩:=zi h
   cases h
   obtain⟨cs,rq,ev⟩:=Ct X _ _ hx
   obtain⟨A,c,hm,_,_⟩:=Ba rq
   rw[hm] at ev
   refine ay.plain hr (v:= .int .i64 (List.length xs)) ?_ zk (fun _ _ _ e'=>by cases e')
   simp [execOp,ho,resolve,invoke,builtin,Builtin.len_,ev,run_underlying hu.1,goInt]
 ·rename_i n t hT
  cases h
  obtain⟨e,eB,eR,_⟩:=(hE.ty T _ hT).b8
  refine ay.plain hr (v:= .int .i64 n) ?_ zk (fun _ _ _ e'=>by cases e')
  simp [execOp,ho,resolve,invoke,builtin,Builtin.len_,run_underlying eB,goInt]
 ·cases h
theorem O1(hr:Rel X s a){ops:List Oper}{g:Bool}{cH:Array Operand}{ts:Array TypeId}(ho:o.op= .call ⟨.builtin (if g then .max else .min),cH,ts⟩){C:FuncId->bg Out}(h:act E C ops o s some=some u):ay P X s a o u:=by
 have key:∀x y,cH= #[x,y]->eW g (s.ax x) (s.ax y) some=some u->ay P X s a o u:=by
  intro x y has h
  subst has
  have hx:=hr.ax x
  have hy:=hr.ax y
  unfold eW at h
  split at h
  case h_2=>cases h
  rename_i k m _ k' n _ e1 e2
  rw[e1] at hx
  rw[e2] at hy
  have vx:=pr hx
  have vy:=pr hy
  cases h
  refine ay.plain hr (v:= .int k (bif g then(if(m:Int)<n then n else m) else(if(n:Int)<m then n else m))) ?_ zk (fun _ _ _ e'=>by cases e')
  cases g
  ·simp [execOp,ho,resolve,invoke,builtin,Builtin.min_,Builtin.min2,vx,vy]
  ·simp [execOp,ho,resolve,invoke,builtin,Builtin.max_,Builtin.max2,vx,vy]
 unfold act at h
 cases g with
 |true=>
  simp only[ho,if_true] at h
  split at h
  ·rename_i x y e
   exact key x y (by rw[<-Array.toArray_toList (xs:=cH),e]) h
  ·cases h
 |false=>
  simp only[ho,Bool.false_eq_true,if_false] at h
  split at h
  ·rename_i x y e
   exact key x y (by rw[<-Array.toArray_toList (xs:=cH),e]) h
  ·cases h
theorem DV(hr:Rel X s a){ops:List Oper}{op:UnOp}{T:TypeId}{x:Operand}(ho:o.op= .unOp op T x){C:FuncId->bg Out}(h:act E C ops o s some=some u):ay P X s a o u:=by
 unfold act at h
 simp only[ho] at h
 have hx:=hr.ax x
 unfold vU at h
 split at h
 ·rename_i b w e
  rw[e] at hx
  cases h
  refine ay.plain hr (v:= .bool (!b)) ?_ zp (fun _ _ _ e'=>by cases e')
  simp [execOp,ho,z21 hx,Op.unary]
 ·rename_i k n w e
  rw[e] at hx
  cases h
  refine ay.plain hr (v:= .int k (k.wrap (0-n))) ?_ zk (fun _ _ _ e'=>by cases e')
  simp [execOp,ho,pr hx,Op.unary,Op.intArith]
 ·cases h
theorem T8(hr:Rel X s a){ops:List Oper}{x:Operand}(ho:o.op= .nilCheck x){C:FuncId->bg Out}(h:act E C ops o s some=some u):ay P X s a o u:=by
 unfold act at h
 simp only[ho] at h
 have hx:=hr.ax x
 split at h
 ·rename_i id t p e
  rw[e] at hx
  split at h
  ·cases h
  rename_i cU
  have cU:t.bf=false:=by simpa using cU
  cases h
  obtain⟨r,h1,hx⟩:=hx
  obtain⟨h2,h3⟩:=(zu cU).1 hx
  refine ay.plain hr (v:= .pointer (some ⟨r,t.off p,none⟩)) ?_ ⟨r,h1,(zu cU).2 ⟨rfl,h3⟩⟩ (fun bu t' p' e'=> ?_)
  ·simp [execOp,ho,h2]
  ·injection e' with e1 e2 e3
   subst e1
   exact pC hr e
 ·rename_i t y e
  rw[e] at hx
  cases h
  obtain⟨ad,cs,h1,h2⟩:=hx
  refine ay.plain hr (v:= .pointer (some ad)) ?_ ⟨ad,cs,rfl,h2⟩ (fun _ _ _ e'=>by cases e')
  simp [execOp,ho,h1]
 ·cases h
theorem Ue(hr:Rel X s a){ops:List Oper}{x:Operand}{j:Nat}(ho:o.op= .extract x j){C:FuncId->bg Out}(h:act E C ops o s some=some u):ay P X s a o u:=by
 unfold act at h
 simp only[ho] at h
 split at h
 case h_2=>cases h
 rename_i t
 have hs:=hr.slot t
 split at h
 ·rename_i hlen
  split at h
  case h_2=>cases h
  rename_i lm
  cases h
  have w0:=hr.ax (.tmp t)
  rw[show s.ax (.tmp t)=SV.over from lm] at w0
  have w0:a.eval (.tmp t)= .tuple #[.bool false]:=w0
  refine ay.plain hr (v:= .bool false) ?_ zp (fun _ _ _ e'=>by cases e')
  simp [execOp,ho,w0,Instr.extract]
 rename_i hlen
 have wY:(s.slot t).length≠1:=fun e=>hlen (by rw[e];rfl)
 have Co:∃vs:Array Value,a.tmps.getD t Go.undef= .tuple vs/\vs.size=(s.slot t).length/\∀(j:Nat) sv v,(s.slot t)[j]? =some sv->vs[j]? =some v->ar X (.c t j) sv v:=by
  match hm:s.slot t with
  | [sv]=>rw[hm] at wY;exact absurd rfl wY
  | []=>rw[hm] at hs;exact hs
  |_::_::_=>rw[hm] at hs;exact hs
 obtain⟨vs,h1,h2,h3⟩:=Co
 have aQ:∀v,vs[j]? =some v->(execOp a.eval o).run P X.w= .ok (.value v) X.w:=by
  intro v hv
  simp only[execOp,ho,Act.eval,h1,Sem.run_bind,Instr.extract,hv,Sem.run_pure,Result.andThen_ok]
 have hv:∀sv,(s.slot t)[j]? =some sv->∃v,vs[j]? =some v:=by
  intro sv fc
  have:=(List.getElem?_eq_some_iff.1 fc).1
  exact⟨_,Array.getElem?_eq_getElem (by omega)⟩
 split at h
 ·rename_i ut y w e
  cases h
  obtain⟨v,hv⟩:=hv _ e
  cases w with
  |nil=>exact ay.plain hr (aQ v hv) (h3 j _ v e hv).bare (fun _ _ _ h=>by cases h)
  |cons p w=>exact ay.pd hr (aQ v hv) (h3 j _ v e hv)
 ·cases h
 ·rename_i sv h4 h5 e
  cases h
  obtain⟨v,hv⟩:=hv _ e
  refine ay.plain hr (aQ v hv) ((h3 j _ v e hv).place ?_) (fun id ty p e'=> ?_)
  ·cases sv with
   |af ut y w=>exact(h4 ut y w rfl).elim
   |_=>trivial
  ·by_cases aK:t<s.sl.length
   ·refine hr.live t _ id ty p (n5 aK) ?_
    rw[<-e'];exact List.mem_of_getElem? e
   ·have:s.slot t=[.undef]:=by simp [State.slot,List.getElem?_eq_none (Nat.le_of_not_lt aK)]
    rw[this] at wY
    exact absurd rfl wY
 ·cases h
end Go.Ref

namespace Go.Ref
open Go
variable {P:Program} {E:Env} {X:ak} {s:State} {a:Act} {o:Oper} {u:Out}
def hP(v:Option SV)(n:Nat)(d:Nat):Prop:=match v with
 |none=>n=d
 |some v=>∀(X:ak) pl val,ar X pl v val->val= .int .i64 (n:Int)
theorem PR{l:Int}{m:Nat}(h1:0<=l)(h2:l<=(m:Int)):l.toNat<=m:=by omega
theorem OR{l:Int}(h1:0<=l):((l.toNat:Nat):Int)=l:=by omega
theorem FB{R:Type}{lo:Option SV}{m:Nat}{G:Nat->Option R}{z:R}(h:n6 lo m G=some z):∃l,G l=some z/\l<=m/\hP lo l 0:=by
 unfold n6 at h
 cases lo with
 |none=>exact⟨0,h,Nat.zero_le _,rfl⟩
 |some v=>
  obtain⟨l,h,hl⟩:=zi h
  cases h1:decide (0<=l)<;>rw[h1] at h
  ·cases h
  ·cases h2:decide (l<=(m:Int))<;>rw[h2] at h
   ·cases h
   ·have h1:=of_decide_eq_true h1
    have h2:=of_decide_eq_true h2
    refine⟨l.toNat,h,PR h1 h2,fun X pl val hv=> ?_⟩
    obtain⟨cs,r,e⟩:=hl X pl val hv
    rw[e,zv r,OR h1]
theorem OA{R:Type}{lo hi:Option SV}{n:Nat}{F:Nat->Nat->Option R}{z:R}(h:cutAt lo hi n F=some z):∃l m,F l m=some z/\l<=m/\m<=n/\hP lo l 0/\hP hi m n:=by
 unfold cutAt at h
 cases hi with
 |none=>
  obtain⟨l,h1,h2,h3⟩:=FB h
  exact⟨l,n,h1,h2,Nat.le_refl _,h3,rfl⟩
 |some v=>
  obtain⟨m,h,hm⟩:=zi h
  cases h1:decide (0<=m)<;>rw[h1] at h
  ·cases h
  ·cases h2:decide (m<=(n:Int))<;>rw[h2] at h
   ·cases h
   ·have h1:=of_decide_eq_true h1
    have h2:=of_decide_eq_true h2
    have h:n6 lo (Int.toNat m) (fun l=>F l (Int.toNat m))=some z:=h
    obtain⟨l,g1,g2,g3⟩:=FB h
    refine⟨l,m.toNat,g1,g2,PR h1 h2,g3,fun X pl val hv=> ?_⟩
    obtain⟨cs,r,e⟩:=hm X pl val hv
    rw[e,zv r,OR h1]
theorem hP.val(hr:Rel X s a){x:Option Operand}{n d:Nat}(h:hP (x.map s.ax) n d):(x=none/\n=d)\/x.map a.eval=some (.int .i64 (n:Int)):=by
 cases x with
 |none=>exact .inl ⟨rfl,h⟩
 |some x=>exact .inr (by rw[Option.map_some,h X _ _ (hr.ax x)])
theorem FG(hr:Rel X s a){isS:Bool}{lo hi:Option Operand}{l m n c:Nat}(hl:hP (lo.map s.ax) l 0)(hm:hP (hi.map s.ax) m n)(h1:l<=m)(h2:m<=n)(h3:n<=c)(w:World):
 (Instr.sliceBounds isS n c (lo.map a.eval) (hi.map a.eval) none).run P w= .ok (l,m,c) w:=by
 have sb:∀(i y:Nat) (code:BoundsCode),i<=y->(Instr.sliceBound (.int .i64 (i:Int)) y code).run P w= .ok i w:=by
  intro i y code h
  rw[run_sliceBound (P:=P) (w:=w) .i64 (i:Int) y code (by omega) (by omega)]
  simp
 rcases hl.val hr with⟨rfl,rfl⟩|hl<;>rcases hm.val hr with⟨rfl,rfl⟩|hm
 ·simp [Instr.sliceBounds]
 ·simp [Instr.sliceBounds,hm,sb m c _ (by omega)]
 ·simp [Instr.sliceBounds,hl,sb l m _ h1]
 ·simp [Instr.sliceBounds,hl,hm,sb l m _ h1,sb m c _ (by omega)]
theorem WL(hE:ah P E)(hr:Rel X s a){T:TypeId}{x:Operand}{lo hi:Option Operand}(ho:o.op= .slice T x lo hi none)(h:jN E T (s.ax x) (lo.map s.ax) (hi.map s.ax) some=some u):ay P X s a o u:=by
 have hx:=hr.ax x
 unfold jN at h
 split at h
 ·rename_i hT
  obtain⟨st,h,bL⟩:=zi h
  obtain⟨l,m,h,h1,h2,hl,hm⟩:=OA h
  cases h
  obtain⟨cs,vO,ev⟩:=bL X _ _ hx
  rw[zz vO] at ev
  have hu:=(hE.ty T _ hT).b8
  refine ay.plain hr (v:= .string (st.extract l m)) ?_ pA (fun _ _ _ e'=>by cases e')
  simp only[execOp,ho,Sem.run_bind,Instr.sliceAt,run_underlying hu,Result.andThen_ok,Instr.slice,ev,Option.map_none,Option.isSome_none,Bool.false_eq_true,if_false,FG hr hl hm h1 h2 (Nat.le_refl _),Sem.run_pure]
 ·rename_i e t hT
  obtain⟨xs,h,lA⟩:=zi h
  obtain⟨l,m,h,h1,h2,hl,hm⟩:=OA h
  cases h
  obtain⟨cs,rq,ev⟩:=lA X _ _ hx
  obtain⟨A,c,vg,hle,cT⟩:=Ba rq
  rw[vg] at ev
  have hu:=(hE.ty T _ hT).b8
  have hlen:((List.take m xs).drop l).length=m-l:=by rw[List.length_drop,List.length_take,Nat.min_eq_left h2]
  refine ay.plain hr (v:= .slice (if c=l then A else A.map (·.add (l*t.cells))) (m-l) (c-l)) ?_ ⟨_,aN.nO (A:=if c=l then A else A.map (·.add (l*t.cells))) (n:=m-l) (c:=c-l) hlen (by omega) (fun j y hj=> ?_),rfl,zw⟩ (fun _ _ _ e'=>by cases e')
  ·simp only[execOp,ho,Sem.run_bind,Instr.sliceAt,run_underlying hu.1,Result.andThen_ok,Instr.slice,ev,Option.map_none,FG hr hl hm h1 h2 hle,Sem.run_pure,zl hE hu.2]
  ·have nD:=(List.getElem?_eq_some_iff.1 hj).1
   rw[hlen] at nD
   have Rl:xs[l+j]? =some y:=by
    rw[List.getElem?_drop,List.getElem?_take,if_pos (by omega)] at hj
    exact hj
   obtain⟨ad,cI,rfl,gp,aJ,cn⟩:=cT (l+j) y Rl
   rw[if_neg (by omega)]
   refine⟨ad.add (l*t.cells),cI,rfl,pw gp _,aJ,fun i v hi=> ?_⟩
   rw[wm _ gp,<-Nat.add_assoc,<-Nat.add_mul]
   exact cn i v hi
 ·cases h
theorem UM(hE:ah P E)(hr:Rel X s a){S T:TypeId}{x:Operand}(ho:o.op= .convert S T x)(h:fy E S T (s.ax x) some=some u):ay P X s a o u:=by
 have hx:=hr.ax x
 unfold fy at h
 split at h
 ·rename_i k k' hS hT
  obtain⟨n,h,hn⟩:=zi h
  cases h
  obtain⟨cs,rn,ev⟩:=hn X _ _ hx
  rw[zv rn] at ev
  have hu:=(hE.ty S _ hS).b8
  have hv:=(hE.ty T _ hT).b8
  refine ay.plain hr (v:= .int k' (k'.wrap n)) ?_ zk (fun _ _ _ e'=>by cases e')
  simp [execOp,ho,ev,convert,run_underlying hu,run_underlying hv,Conv.intToInt]
 ·rename_i hS hT
  obtain⟨st,h,bL⟩:=zi h
  cases h
  obtain⟨cs,rn,ev⟩:=bL X _ _ hx
  rw[zz rn] at ev
  have hu:=(hE.ty S _ hS).b8
  have hv:=(hE.ty T _ hT).b8
  refine ay.plain hr (v:= .string st) ?_ pA (fun _ _ _ e'=>by cases e')
  simp [execOp,ho,ev,convert,run_underlying hu,run_underlying hv]
 ·rename_i e hS hT
  obtain⟨xs,h,lA⟩:=zi h
  cases h
  obtain⟨cs,rq,ev⟩:=lA X _ _ hx
  obtain⟨A,c,vg,hle,cT⟩:=Ba rq
  rw[vg] at ev
  have hu:=(hE.ty S _ hS).b8
  have he:=(hE.ty e _ hu.2).b8
  have hv:=(hE.ty T _ hT).b8
  refine ay.plain hr (v:= .string (strOf xs)) ?_ pA (fun _ _ _ e'=>by cases e')
  have key:(convert S T (.slice A (List.length xs) c)).run P X.w= .ok (.string (strOf xs)) X.w:=by
   cases A with
   |none=>
    have ll:xs=[]:=by
     cases xs with
     |nil=>rfl
     |cons y ys=>obtain⟨ad,_,h,_⟩:=cT 0 y rfl;cases h
    rw[run_convert_bytes_nil X.w S e hu.1 he _ _ T hv,ll]
    rfl
   |some ad=>
    rw[run_convert_bytes_string X.w S T e _ _ c hu.1 he hv]
    have eN:(loadCells ad (List.length xs)).run P X.w= .ok (List.map (Value.int .u8) xs).toArray X.w:=by
     have:=run_loadCells_list (P:=P) X.w ad (List.map (Value.int .u8) xs) (fun j v hj=>by
      obtain⟨y,hy,rfl⟩:=List.getElem?_map .. ▸hj|>Option.map_eq_some_iff.1
      obtain⟨jl,cI,h1,gp,aJ,cn⟩:=cT j y hy
      cases h1
      have hc:cI=[.int .u8 y]:=aJ
      have:=cn 0 (.int .u8 y) (by rw[hc];rfl)
      have h2:=this.2.1
      simpa [Ty.cells] using h2)
     rw[List.length_map] at this
     exact this
    rw[run_bytesToString X.w ad _ c xs eN,foldl_push_bytes]
    simp [strOf,ByteArray.empty,ByteArray.emptyWithCapacity]
    rfl
  simp only[execOp,ho,Sem.run_bind,ev,key,Result.andThen_ok,Sem.run_pure]
 ·cases h
def ak.new(X:ak)(cs:Array Value)(T:TypeId)(w:Ow)(β:Nat->Option Nat):ak:={w:=X.w.alloc (.cells cs T),ow:=fun g=>if g=X.w.heap.size then w else X.ow g,β}
theorem HC(X:ak)(s:State)(cs:Array Value)(T:TypeId)(w:Ow)(β:Nat->Option Nat)(hβ0:β 0=X.β 0)(hβ:∀(id:Nat) B,s.bs[id]? =some (some B)->β id=X.β id):cQ s X (X.new cs T w β) where
 size:=by simp [ak.new]
 os:=rfl
 tape:=rfl
 output:=rfl
 hJ:=fun g hg=>⟨by simp only[ak.new];rw[if_neg (by omega)],RowKit.Below.heap_alloc _ _ _ hg⟩
 β0:=hβ0
 β:=hβ
theorem Hg(X:ak)(cs:Array Value)(T:TypeId)(w:Ow)(β:Nat->Option Nat):(X.new cs T w β).w.heap[X.w.heap.size]? =some (.cells cs T (0,0))/\(X.new cs T w β).ow X.w.heap.size=w:=⟨heap_alloc_new X.w _,by simp [ak.new]⟩
theorem FM(T:TypeId)(v:Value)(w:World):(newVar T v).run P w= .ok ⟨w.heap.size,0,none⟩ (w.alloc (.cells v.cells T)):=by
 simp [newVar,newRow]
theorem Rel.dB{Y:ak}(hr:Rel Y s a){d r:Nat}{B:aX}(hd:d<s.bs.length)(hb:s.bs[d]? =some none)(hβ:Y.β d=some r)(h:bd Y d r B):Rel Y (s.aC (some (d,B))) a where
 size:=hr.size
 dP:=by simpa [State.aC] using hr.dP
 bh:=hr.bh
 boxes:=fun id B' dg=>by
  simp only[State.aC,List.getElem?_set] at dg
  by_cases e:d=id
  ·subst e
   rw[if_pos rfl,if_pos hd] at dg
   cases dg;exact⟨r,hβ,h⟩
  ·rw[if_neg e] at dg
   exact hr.boxes id B' dg
 live:=fun i l id t p hi hm=>by
  obtain⟨B',dg⟩:=hr.live i l id t p hi hm
  simp only[State.aC,List.getElem?_set]
  by_cases e:d=id
  ·subst e;rw[hb] at dg;cases dg
  ·rw[if_neg e];exact⟨B',dg⟩
 defers:=hr.defers
theorem ke{d:Nat}{B:aX}(h:s.box d=some B):s.bs[d]? =some (some B):=by
 unfold State.box at h
 rw[List.getD_eq_getElem?_getD] at h
 cases hg:s.bs[d]? with
 |none=>rw[hg] at h;cases h
 |some x=>rw[hg] at h;simp at h;rw[h]
theorem LV(hr:Rel X s a){x:Operand}{t:Ty}{R:Type}{K:El t->Option R}{z:R}(h:(s.ax x).el t K=some z){c:List (Nat×Nat)}(hc:c=src x\/((s.ax x).own=[]/\c=[])):
 ∃y,K y=some z/\∀q:List Nat->Place,∃Y cs,Y.w=X.w/\Ext X Y/\Rel Y (s.close c) a/\aN Y t y cs/\a.eval x=cq t cs/\aU Y q t y cs (s.ax x).own/\Y.β=X.β/\cm (s.close c) X Y/\fV X Y:=by
 have hx:=hr.ax x
 cases hs:s.ax x with
 |af t' y' w=>
  rw[hs] at hx h hc
  simp only[SV.el] at h
  split at h
  case isFalse=>cases h
  rename_i heq
  have:=Ty.aH heq
  subst this
  refine⟨y',h,fun q=> ?_⟩
  have plain:w=[]->∃Y cs,Y.w=X.w/\Ext X Y/\Rel Y (s.close c) a/\aN Y t' y' cs/\a.eval x=cq t' cs/\aU Y q t' y' cs (SV.af t' y' w).own/\Y.β=X.β/\cm (s.close c) X Y/\fV X Y:=by
   intro hw
   subst hw
   obtain⟨cs,h1,h2,_⟩:=hx
   exact⟨X,cs,rfl,Ext.refl X,hr.close _,h1,h2,zw,rfl,cm.refl _ _,fV.refl X⟩
  rcases hc with hc|⟨hw,_⟩
  ·cases x with
   |tmp i=>
    obtain⟨Y,h1,h2,h3,⟨cs,h4,h5,h6⟩,h7,h8,h9⟩:=hr.take hx q
    subst hc
    exact⟨Y,cs,h1,h2,h3,h4,h5,h6,h7,h8,h9⟩
   |const v=>exact plain (Ha (show pB v= .af t' y' w from hs))
   |_=>simp [State.ax,State.nM,one] at hs
  ·exact plain hw
 |bK=>
  rw[hs] at hx h
  cases t<;>simp only[SV.el] at h<;>try(cases h;done)
  rename_i e t
  refine⟨[],h,fun q=>⟨X,[.slice none 0 0],rfl,Ext.refl X,hr.close _,⟨none,0,rfl,Nat.le_refl _,fun j x hj=>by simp at hj⟩,hx,fun p hp=> ?_,rfl,cm.refl _ _,fV.refl X⟩⟩
  have hp:p=[]:=by simpa [SV.own] using hp
  subst hp
  exact⟨e,t,[],_,by simp [Ty.cS],rfl,rfl,.inl ⟨rfl,rfl⟩⟩
 |_=>rw[hs] at h;simp [SV.el] at h
theorem ay.dB{P:Program}(hr:Rel X s a){d:Nat}{T:TypeId}{t:Ty}{y:El t}{cs:List Value}{own:List (List Nat)}{c:List (Nat×Nat)}{W:ak}
 (cU:t.bf=false) (hd:o.dst=some d) (hb:s.bs[d+1]? =some none) (hW:W.w=X.w) (hX:Ext X W) (w7:Rel W (s.close c) a) (aJ:aN W t y cs)
 (bm:aU W (.b (d+1)) t y cs own)
 (aQ:(execOp a.eval o).run P X.w= .ok (.value (.pointer (some ⟨X.w.heap.size,0,none⟩))) (X.w.alloc (.cells cs.toArray T))):ay P X s a o {v:=[.ptr (d+1) t []],bx:=some (d+1,⟨t,y,own⟩),cl:=c}:=by
 let β:Nat->Option Nat:=fun id=>if id=d+1 then some W.w.heap.size else W.β id
 have aK:d+1<s.bs.length:=(List.getElem?_eq_some_iff.1 hb).1
 have fa:(s.close c).bs[d+1]? =some none:=by rw[nY];exact hb
 have hk:cQ (s.close c) W (W.new cs.toArray T (.box (d+1)) β):=HC W _ _ _ _ _ (by show(if _ then _ else _)=_;rw[if_neg (by omega)]) (fun id B hB=>by
  show(if id=d+1 then _ else _)=_
  rw[if_neg (fun e=>by rw[e,fa] at hB;cases hB)])
 obtain⟨n1,n2⟩:=Hg W cs.toArray T (.box (d+1)) β
 have bA:bd (W.new cs.toArray T (.box (d+1)) β) (d+1) W.w.heap.size ⟨t,y,own⟩:=
  ⟨n2,ci.of cU n1 (by simpa using aJ.aj (fun _ _=>hk.au)) (by simpa using bm.cj hk)⟩
 have hβd:β (d+1)=some W.w.heap.size:=by show(if d+1=d+1 then _ else _)=_;rw[if_pos rfl]
 have dp:=(w7.cj hk).dB (by rw[nY];exact aK) fa hβd bA
 refine⟨W.new cs.toArray T (.box (d+1)) β,.pointer (some ⟨X.w.heap.size,0,none⟩),.inl ?_,hX.trans hk.ext,?_⟩
 ·rw[aQ];simp [ak.new,hW]
 ·rw[hd]
  refine dp.put (fun d' e=> ?_) (fun id t' p hm=> ?_)
  ·cases e
   refine⟨W.w.heap.size,hβd,(zu cU).2 ⟨?_,by simp [Ty.cS]⟩⟩
   rw[hW]
   simp [Ty.off]
  ·have:id=d+1:=by have:=hm;simp at this;exact this.1
   subst this
   exact⟨⟨t,y,own⟩,by simp [State.aC,List.getElem?_set,nY,aK]⟩
theorem xA(hE:ah P E){T:TypeId}{t:Ty}(ht:E.ty T=some t)(w:World):(zeroValue T).run P w= .ok (cq t (zf t)) w:=by
 obtain⟨i,h1,_,_,h2⟩:=(hE.ty T t ht).info
 simp [zeroValue,typeInfo,h1,h2]
theorem Pd(X:ak)(pl:List Nat->Place):∀t:Ty,aU X pl t (El.bj t) (zf t) (nZ t):=by
 intro t
 induction t generalizing pl with
 |sl e t=>
  intro p hp
  have hp:p=[]:=by simpa [nZ] using hp
  subst hp
  exact⟨e,t,[],.slice none 0 0,by simp [Ty.cS],rfl,rfl,.inl ⟨rfl,rfl⟩⟩
 |pair ta tb ga gb=>
  intro p hp
  simp only[nZ,List.mem_append,List.mem_map,List.mem_filterMap] at hp
  rcases hp with⟨q,hq,rfl⟩|⟨q,hq,he⟩
  ·obtain⟨e,t',xs,v,g0,g1,g2,g3⟩:=ga (fun q=>pl (0::q)) q hq
   refine⟨e,t',xs,v,g0,g1,?_,g3⟩
   have hl:=(List.getElem?_eq_some_iff.1 g2).1
   simp only[Ty.off,zf]
   rw[List.getElem?_append_left hl]
   exact g2
  ·cases q with
   |nil=>simp [bump] at he
   |cons j q=>
    simp only[bump,Option.some.injEq] at he
    subst he
    obtain⟨e,t',xs,v,g0,g1,g2,g3⟩:=gb (fun q=>match q with| []=>pl []|j::q=>pl ((j+1)::q)) (j::q) hq
    refine⟨e,t',xs,v,g0,g1,?_,g3⟩
    simp only[Ty.off,zf]
    rw[List.getElem?_append_right (by rw[l6];omega),l6,Nat.add_sub_cancel_left]
    exact g2
 |_=>intro p hp;simp [nZ] at hp
theorem ay.rf{P:Program}(hr:Rel X s a){d:Nat}{T e:TypeId}(hd:o.dst=some d)(hb:s.bs[d+1]? =some none)
 (aQ:(execOp a.eval o).run P X.w= .ok (.value (.pointer (some ⟨X.w.heap.size,0,none⟩))) (X.w.alloc (.cells #[.pointer none,.slice none 0 0] T))):
 ay P X s a o {v:=[.ptr (d+1) (.aP (.dk T e) .unit .unit) []],bx:=some (d+1,⟨.aP (.dk T e) .unit .unit,(⟨#[]⟩:ByteArray),[[]]⟩)}:=by
 let β:Nat->Option Nat:=fun id=>if id=d+1 then some X.w.heap.size else X.β id
 have aK:d+1<s.bs.length:=(List.getElem?_eq_some_iff.1 hb).1
 have hk:cQ s X (X.new #[.pointer none,.slice none 0 0] T (.box (d+1)) β):=HC X _ _ _ _ _ (by show(if _ then _ else _)=_;rw[if_neg (by omega)]) (fun id B hB=>by
  show(if id=d+1 then _ else _)=_
  rw[if_neg (fun e=>by rw[e,hb] at hB;cases hB)])
 obtain⟨n1,n2⟩:=Hg X #[.pointer none,.slice none 0 0] T (.box (d+1)) β
 have bA:bd (X.new #[.pointer none,.slice none 0 0] T (.box (d+1)) β) (d+1) X.w.heap.size ⟨.aP (.dk T e) .unit .unit,(⟨#[]⟩:ByteArray),[[]]⟩:=
  ⟨n2,⟨_,n1⟩,fun _=>⟨.slice none 0 0,⟨.inl n1,⟨rfl,.inl ⟨rfl,rfl⟩⟩,by simp [Value.ownBlock]⟩,fun g hg=>by simp [Value.ownBlock] at hg⟩⟩
 have hβd:β (d+1)=some X.w.heap.size:=by show(if d+1=d+1 then _ else _)=_;rw[if_pos rfl]
 have dp:=(hr.cj hk).dB aK hb hβd bA
 refine⟨X.new #[.pointer none,.slice none 0 0] T (.box (d+1)) β,.pointer (some ⟨X.w.heap.size,0,none⟩),.inl aQ,hk.ext,?_⟩
 rw[hd]
 refine dp.put (fun d' e=> ?_) (fun id t' p hm=> ?_)
 ·cases e
  exact⟨X.w.heap.size,hβd,(wi rfl).2 ⟨by simp [Ty.off],by simp [Ty.cS]⟩⟩
 ·have:id=d+1:=by have:=hm;simp at this;exact this.1
  subst this
  exact⟨_,by simp [State.aC,List.getElem?_set,aK];rfl⟩
theorem UI(hE:ah P E)(hr:Rel X s a){ops:List Oper}{T:TypeId}(ho:o.op= .alloc T){C:FuncId->bg Out}(h:act E C ops o s some=some u):ay P X s a o u:=by
 unfold act at h
 simp only[ho] at h
 split at h
 case h_3=>cases h
 case h_2=>
  rename_i d hT hd
  split at h
  case h_2=>cases h
  rename_i e wU
  split at h
  case h_2=>cases h
  rename_i hb
  cases h
  obtain⟨i,h1,h2⟩:=hE.bl T e wU
  refine ay.rf hr hd hb ?_
  have hz:(zeroValue T).run P X.w= .ok (.agg #[.pointer none,.slice none 0 0]) X.w:=by simp [zeroValue,typeInfo,h1,h2]
  simp only[execOp,ho,Sem.run_bind,Instr.alloc,hz,Result.andThen_ok,FM,Sem.run_pure]
  rfl
 rename_i t d hT hd
 split at h
 case h_2=>cases h
 rename_i hb
 cases h
 have aJ:=lQ X t
 refine ay.dB (T:=T) (cs:=zf t) (W:=X) (c:=[]) hr (hE.dV hT) hd hb rfl (Ext.refl X) hr aJ (Pd X _ t) ?_
 simp only[execOp,ho,Sem.run_bind,Instr.alloc,xA hE hT,Result.andThen_ok,FM,nX aJ,Sem.run_pure]
theorem YI(hE:ah P E)(hr:Rel X s a){ops:List Oper}{T:TypeId}{x:Operand}(ho:o.op= .box T x){C:FuncId->bg Out}(h:act E C ops o s some=some u):ay P X s a o u:=by
 unfold act at h
 simp only[ho] at h
 split at h
 case h_2=>cases h
 rename_i t d hT hd
 split at h
 case h_2=>cases h
 rename_i hb
 obtain⟨y,h,hy⟩:=LV hr h (.inl rfl)
 cases h
 obtain⟨W,cs,h1,h2,h3,h4,h5,h6,_,_,_⟩:=hy (.b (d+1))
 refine ay.dB (T:=T) (cs:=cs) (W:=W) hr (hE.dV hT) hd hb h1 h2 h3 h4 h6 ?_
 simp only[execOp,ho,Sem.run_bind,Instr.box,FM,Result.andThen_ok,Sem.run_pure,h5,nX h4]
end Go.Ref

namespace Go.Ref
open Go
variable {P:Program} {E:Env} {X:ak} {s:State} {a:Act} {o:Oper} {u:Out}
theorem sg(hE:ah P E){T:TypeId}{t:Ty}(ht:E.ty T=some t){x:El t}{cs:List Value}(hr:aN X t x cs){ad:Addr}{w:World}(hc:∀(i:Nat) v,cs[i]? =some v->w.cell? (ad.add i)=some v):(loadVar T ad).run P w= .ok (cq t cs) w:=by
 have hl:=hr.len
 unfold loadVar
 simp only[Sem.run_bind,O7 hE ht,Result.andThen_ok]
 cases hg:t.agg with
 |true=>
  have:=run_loadCells_list (P:=P) w ad cs hc
  rw[hl] at this
  simp only[if_true,Sem.run_bind,zl hE ht,Result.andThen_ok,this,Sem.run_pure,zm hg]
 |false=>
  have h1:t.cells=1:=by cases t<;>simp_all [Ty.agg,Ty.cells]
  rw[h1] at hl
  match cs,hl with
  | [c],_=>
    rw[ww hg]
    have:=hc 0 c rfl
    have h0:ad.add 0=ad:=by simp [Addr.add]
    rw[h0] at this
    simp only[Bool.false_eq_true,if_false,run_load,this]
theorem UW{own:List (List Nat)}{p:List Nat}(h:hN own p=true):p∈own:=by
 unfold hN at h
 obtain⟨q,hq,he⟩:=List.any_eq_true.1 h
 rw[<-eq_of_beq he]
 exact hq
theorem z49{own:List (List Nat)}{p q:List Nat}(h:q∈n4 own p):q∈own/\p.isPrefixOf q=false:=by
 unfold n4 at h
 rw[List.mem_filter] at h
 exact⟨h.1,by simpa using h.2⟩
theorem Rel.iB{Y:ak}(hr:Rel Y s a){id r:Nat}{B B':aX}(hb:s.bs[id]? =some (some B))(hβ:Y.β id=some r)(h:bd Y id r B'):Rel Y (s.aC (some (id,B'))) a where
 size:=hr.size
 dP:=by simpa [State.aC] using hr.dP
 bh:=hr.bh
 boxes:=fun bu B2 b9=>by
  have aK:id<s.bs.length:=(List.getElem?_eq_some_iff.1 hb).1
  simp only[State.aC,List.getElem?_set] at b9
  by_cases e:id=bu
  ·subst e
   rw[if_pos rfl,if_pos aK] at b9
   cases b9;exact⟨r,hβ,h⟩
  ·rw[if_neg e] at b9
   exact hr.boxes bu B2 b9
 live:=fun i l bu t p hi hm=>by
  have aK:id<s.bs.length:=(List.getElem?_eq_some_iff.1 hb).1
  obtain⟨B2,b9⟩:=hr.live i l bu t p hi hm
  simp only[State.aC,List.getElem?_set]
  by_cases e:id=bu
  ·subst e;exact⟨B',by rw[if_pos rfl,if_pos aK]⟩
  ·rw[if_neg e];exact⟨B2,b9⟩
 defers:=hr.defers
theorem FL{id:Nat}{B B':aX}(hb:s.bs[id]? =some (some B)):(s.aC (some (id,B'))).bs[id]? =some (some B'):=by
 have aK:id<s.bs.length:=(List.getElem?_eq_some_iff.1 hb).1
 simp [State.aC,List.getElem?_set,aK]
theorem xv{r off i:Nat}{cs:Array Value}{T:TypeId}{w:World}(h:w.heap[r]? =some (.cells cs T (0,0))){k:Nat}{v:Value}(hv:((cs.toList.drop off).take k)[i]? =some v):w.cell? ((⟨r,off,none⟩:Addr).add i)=some v:=by
 rw[zr]
 rw[List.getElem?_take] at hv
 split at hv
 ·rw[List.getElem?_drop] at hv
  simpa [World.cell?,h] using hv
 ·cases hv
theorem cL:∀(t:Ty) (p:List Nat) (u:Ty),t.at_ p=some u->t.cS p->t.off p+u.cells<=t.cells:=by
 intro t
 induction t with
 |arr n t ih=>
  intro p u h hp
  cases p with
  |nil=>simp only[Ty.at_,Option.some.injEq] at h;subst h;simp [Ty.off]
  |cons i p=>
   have:=ih p u h hp.2
   have hn:(i+1)*t.cells<=n*t.cells:=Nat.mul_le_mul_right _ hp.1
   rw[Nat.add_mul,Nat.one_mul] at hn
   simp only[Ty.off,Ty.cells]
   omega
 |pair x y vB vC=>
  intro p u h hp
  cases p with
  |nil=>simp only[Ty.at_,Option.some.injEq] at h;subst h;simp [Ty.off]
  |cons i p=>
   cases i with
   |zero=>have:=vB p u h hp;simp only[Ty.off,Ty.cells];omega
   |succ i=>have:=vC (i::p) u h hp;simp only[Ty.off,Ty.cells];omega
 |_=>
  intro p u h hp
  cases p with
  |nil=>simp only[Ty.at_,Option.some.injEq] at h;subst h;simp [Ty.off]
  |cons i p=>simp [Ty.at_] at h
theorem Ft{t:Ty}{p:List Nat}{e:TypeId}{t':Ty}(h:t.cS p)(bz:t.at_ p=some (.sl e t')):t.off p<t.cells:=by
 have:=cL t p _ bz h
 simp only[Ty.cells] at this
 omega
theorem UU:∀{t:Ty} {p q:List Nat} {x:El t} {u:Ty} {y:El u} {r:(u:Ty)×El u},El.get t p x=some ⟨u,y⟩->t.cS (p++q)->El.get t (p++q) x=some r->u.cS q/\El.get u q y=some r:=by
 intro t
 induction t with
 |arr n t ih=>
  intro p q x u y r h1 h2 h3
  cases p with
  |nil=>simp only[El.get,Option.some.injEq,Sigma.mk.injEq] at h1;obtain⟨rfl,h1⟩:=h1;cases h1;exact⟨h2,h3⟩
  |cons i p=>exact ih h1 h2.2 h3
 |pair ta tb ga gb=>
  intro p q x u y r h1 h2 h3
  cases p with
  |nil=>simp only[El.get,Option.some.injEq,Sigma.mk.injEq] at h1;obtain⟨rfl,h1⟩:=h1;cases h1;exact⟨h2,h3⟩
  |cons i p=>
   cases i with
   |zero=>exact ga h1 h2 h3
   |succ i=>exact gb (p:=i::p) h1 h2 h3
 |_=>
  intro p q x u y r h1 h2 h3
  cases p with
  |nil=>simp only[El.get,Option.some.injEq,Sigma.mk.injEq] at h1;obtain⟨rfl,h1⟩:=h1;cases h1;exact⟨h2,h3⟩
  |cons i p=>simp [El.get] at h1
def ak.du(X:ak)(id:Nat)(p:List Nat)(q:List Nat->Place):ak:=
 {X with ow:=fun g=>match X.ow g with
  | .row (.b bu p') n=>if bu=id/\p.isPrefixOf p'=true then .row (q (p'.drop p.length)) n else .row (.b bu p') n
  |w=>w}
theorem OS{s:State}{X:ak}{id:Nat}{p:List Nat}{q:List Nat->Place}(h:∀p',¬bP s (.b id (p++p'))):cm s X (X.du id p q):=by
 refine⟨rfl,rfl,fun g=> ?_⟩
 simp only[ak.du]
 cases hg:X.ow g with
 |row pl n=>
  cases pl with
  |b bu p'=>
   by_cases e:bu=id/\p.isPrefixOf p'=true
   ·obtain⟨rfl,hp⟩:=e
    obtain⟨r,rfl⟩:=List.isPrefixOf_iff_prefix.1 hp
    exact .inr ⟨_,n,q r,rfl,h r,by simp⟩
   ·exact .inl (if_neg e)
  |_=>exact .inl rfl
 |_=>exact .inl rfl
theorem aV.jt{X:ak}{id:Nat}{p r:List Nat}{q:List Nat->Place}{e:TypeId}{k n:Nat}{v:Value}(h:aV X (.b id (p++r)) e k n v):aV (X.du id p q) (q r) e k n v:=by
 rcases h with h|⟨g,cap,cur,h1,h2,h3,h4,h5,h6⟩
 ·exact .inl h
 ·exact .inr ⟨g,cap,cur,h1,h2,h3,h4,h5,by simp [ak.du,h6]⟩
theorem rL(hr:Rel X s a){id:Nat}{t b:Ty}{B:aX}(hB:s.box id=some B)(h:B.t.bE (.aP .row t b)=true):s.bs[id]? =some (some B)/\∃r,X.β id=some r/\X.ow r= .box id/\∃cs T,X.w.heap[r]? =some (.cells cs T (0,0))/\cs.size=List.length (Ty.cast h B.x:List (El t))*t.cells/\
 ∀(j:Nat) (x:El t),(Ty.cast h B.x:List (El t))[j]? =some x->aN X t x ((cs.toList.drop (j*t.cells)).take t.cells):=by
 have hb:=ke hB
 obtain⟨r,h1,h2,h3⟩:=hr.boxes id B hb
 refine⟨hb,r,h1,h2,?_⟩
 obtain⟨bt,bx,bo⟩:=B
 have e:=Ty.aH h
 simp only at e
 subst e
 obtain⟨cs,T,g1,g2,g3⟩:=h3
 exact⟨cs,T,g1,g2,g3⟩
theorem UL(hE:ah P E)(hr:Rel X s a){S T:TypeId}{x:Operand}(ho:o.op= .convert S T x){id n:Nat}{ta tb:Ty}(cz:s.ax x= .ptr id (.aP (.ey n) ta tb) [])(h:eK E S T s id n ta tb some=some u):ay P X s a o u:=by
 have hx:=hr.ax x
 rw[cz] at hx
 obtain⟨r0,hβ,cap,hv,gG⟩:=hx
 unfold eK at h
 split at h
 case h_2=>cases h
 rename_i e hS hT
 split at h
 case isFalse=>cases h
 rename_i heq
 have:=Ty.aH heq
 subst this
 split at h
 case h_2=>cases h
 rename_i B hB
 split at h
 case isFalse=>cases h
 rename_i dh
 obtain⟨hb,r,h1,h2,cs,T',aF,dq,cT⟩:=rL hr hB dh
 rw[hβ] at h1
 cases h1
 generalize(Ty.cast dh B.x:List Int)=xs at*
 cases hn:Nat.beq n (List.length xs) with
 |false=>rw[hn] at h;cases h
 |true=>
  rw[hn] at h
  cases h
  have hn:=Nat.eq_of_beq_eq_true hn
  subst hn
  have hu:=(hE.ty S _ hS).b8
  have he:=(hE.ty e _ hu.2).b8
  have hT:=(hE.ty T _ hT).b8
  refine ay.plain hr (v:= .string (strOf xs)) ?_ pA (fun _ _ _ e'=>by cases e')
  have key:(convert S T (.slice (some ⟨r0,0,none⟩) (List.length xs) cap)).run P X.w= .ok (.string (strOf xs)) X.w:=by
   rw[run_convert_bytes_string X.w S T e _ _ cap hu.1 he hT]
   have eN:(loadCells ⟨r0,0,none⟩ (List.length xs)).run P X.w= .ok (List.map (Value.int .u8) xs).toArray X.w:=by
    have:=run_loadCells_list (P:=P) X.w ⟨r0,0,none⟩ (List.map (Value.int .u8) xs) (fun j v hj=>by
     obtain⟨y,hy,rfl⟩:=List.getElem?_map .. ▸hj|>Option.map_eq_some_iff.1
     have hc:(cs.toList.drop (j*1)).take 1=[.int .u8 y]:=cT j y hy
     have h0:=congrArg (fun l=>l[0]?) hc
     simp only[List.getElem?_take,List.getElem?_drop] at h0
     simp only[Nat.zero_lt_one,if_true,Nat.mul_one,Nat.add_zero,List.getElem?_cons_zero] at h0
     rw[zr,Nat.zero_add]
     simpa [World.cell?,aF] using h0)
    rw[List.length_map] at this
    exact this
   rw[run_bytesToString X.w _ _ cap xs eN,foldl_push_bytes]
   simp [strOf,ByteArray.empty,ByteArray.emptyWithCapacity]
   rfl
  simp only[execOp,ho,Sem.run_bind,hv,key,Result.andThen_ok,Sem.run_pure]
theorem WJ(hE:ah P E)(hr:Rel X s a){ops:List Oper}{S T:TypeId}{x:Operand}(ho:o.op= .convert S T x){C:FuncId->bg Out}(h:act E C ops o s some=some u):ay P X s a o u:=by
 unfold act at h
 simp only[ho] at h
 split at h
 ·rename_i id n ta tb cz
  exact UL hE hr ho cz h
 ·exact UM hE hr ho h
theorem Ug(hE:ah P E)(hr:Rel X s a){T:TypeId}{u':Ty}{x:Operand}(ho:o.op= .load T x)(hT:E.ty T=some u'){id:Nat}{t:Ty}{p:List Nat}(cz:s.ax x= .ptr id t p)(h:rJ u' s id t p some=some u):ay P X s a o u:=by
 have hx:=hr.ax x
 rw[cz] at hx
 obtain⟨r0,hβ,hv⟩:=hx
 unfold rJ at h
 split at h
 case h_2=>cases h
 rename_i ta tb i
 split at h
 case h_2=>cases h
 rename_i B hB
 split at h
 case isFalse=>cases h
 rename_i dh
 split at h
 case isFalse=>cases h
 rename_i heq
 have:=Ty.aH heq
 subst this
 obtain⟨hb,r,h1,h2,cs,T',aF,dq,cT⟩:=rL hr hB dh
 rw[hβ] at h1
 cases h1
 generalize(Ty.cast dh B.x:List (El u'))=xs at*
 cases hn:Nat.ble (i+1) (List.length xs) with
 |false=>rw[hn] at h;cases h
 |true=>
  rw[hn] at h
  cases h
  have aK:i<List.length xs:=Nat.le_of_ble_eq_true hn
  have aJ:=cT i _ (getD_some (El.bj u') aK)
  have hv:a.eval x= .pointer (some ⟨r0,i*u'.cells,none⟩):=hv
  refine ay.plain hr ?_ (rK aJ) (fun _ _ _ e'=>by cases e')
  have hl:=sg hE hT aJ (ad:=⟨r0,i*u'.cells,none⟩) (w:=X.w) (fun j v hj=>xv aF hj)
  simp only[execOp,ho,Sem.run_bind,Instr.loadAt,hv,Instr.sureAddr,Sem.run_pure,Result.andThen_ok,hl]
theorem Uf(hE:ah P E)(hr:Rel X s a){T:TypeId}{u':Ty}{x:Operand}(ho:o.op= .load T x)(hT:E.ty T=some u'){id:Nat}{t:Ty}{p:List Nat}(cz:s.ax x= .ptr id t p){B:aX}(hB:s.box id=some B)(h:sB u' B t p some=some u):ay P X s a o u:=by
 have hx:=hr.ax x
 rw[cz] at hx
 obtain⟨r0,hβ,hv⟩:=hx
 unfold sB at h
 split at h
 case h_2=>cases h
 rename_i n e
 split at h
 case isFalse=>cases h
 rename_i dh
 split at h
 case isFalse=>cases h
 rename_i heq
 have:=Ty.aH heq
 subst this
 obtain⟨hb,r,h1,h2,cs,T',aF,dq,cT⟩:=rL hr hB dh
 rw[hβ] at h1
 cases h1
 generalize(Ty.cast dh B.x:List (El e))=xs at*
 cases hn:Nat.beq n (List.length xs) with
 |false=>rw[hn] at h;cases h
 |true=>
  rw[hn] at h
  cases h
  have hn:=Nat.eq_of_beq_eq_true hn
  have aJ:aN X (.arr n e) xs cs.toList:=⟨hn.symm,by rw[hn];simpa using dq,cT⟩
  have hv:=((zu rfl).1 hv).1
  have hv:a.eval x= .pointer (some ⟨r0,0,none⟩):=by rw[hv];rfl
  refine ay.plain hr ?_ (rK aJ) (fun _ _ _ e'=>by cases e')
  have hl:=sg hE hT aJ (ad:=⟨r0,0,none⟩) (w:=X.w) (fun j v hj=>xv (off:=0) (k:=cs.toList.length) aF (by rw[List.drop_zero,List.take_length];exact hj))
  simp only[execOp,ho,Sem.run_bind,Instr.loadAt,hv,Instr.sureAddr,Sem.run_pure,Result.andThen_ok,hl]
theorem WM(hE:ah P E)(hr:Rel X s a){ops:List Oper}{T:TypeId}{x:Operand}(ho:o.op= .load T x){C:FuncId->bg Out}(h:act E C ops o s some=some u):ay P X s a o u:=by
 unfold act at h
 simp only[ho] at h
 have hx:=hr.ax x
 unfold load at h
 split at h
 case h_2=>cases h
 rename_i u' hT
 split at h
 ·rename_i t y e
  rw[e] at hx
  obtain⟨ad,cs,hv,gp,aJ,cn⟩:=hx
  split at h
  case isFalse=>cases h
  rename_i heq
  have:=Ty.aH heq
  subst this
  cases h
  refine ay.plain hr ?_ (rK aJ) (fun _ _ _ e'=>by cases e')
  have hl:=sg hE hT aJ (ad:=ad) (w:=X.w) (fun i v hi=>(cn i v hi).2.1)
  simp only[execOp,ho,Sem.run_bind,Instr.loadAt,hv,Instr.sureAddr,Sem.run_pure,Result.andThen_ok,hl]
 ·rename_i id t p e
  rw[e] at hx
  obtain⟨r,hβ,hx⟩:=hx
  split at h
  ·exact Ug hE hr ho hT e h
  rename_i cU
  have cU:t.bf=false:=by simpa using cU
  obtain⟨hv,dy⟩:=(zu cU).1 hx
  split at h
  case h_2=>cases h
  rename_i B hB
  split at h
  case isFalse=>exact Uf hE hr ho hT e hB h
  rename_i heq
  have dh:=Ty.aH heq
  split at h
  case h_2=>cases h
  rename_i ut y bN
  split at h
  case isFalse=>cases h
  rename_i qV
  have:=Ty.aH qV
  subst this
  have hb:=ke hB
  obtain⟨r',hβ',nw⟩:=hr.boxes id B hb
  rw[hβ] at hβ'
  cases hβ'
  subst dh
  obtain⟨cs,T',aF,aJ,how,bm⟩:=nw.cells cU
  obtain⟨k1,k2,k3⟩:=wu aJ dy bN
  have hl:=sg hE hT k3 (ad:=⟨r,B.t.off p,none⟩) (w:=X.w) (fun i v hi=>xv aF hi)
  have aQ:(execOp a.eval o).run P X.w= .ok (.value (cq u' ((cs.toList.drop (B.t.off p)).take u'.cells))) X.w:=by
   simp only[execOp,ho,Sem.run_bind,Instr.loadAt,hv,Instr.sureAddr,Sem.run_pure,Result.andThen_ok,hl]
  cases hc:A8 ops o.dst||pa E ops o.dst||Qy ops o.dst with
  |false=>
   rw[hc] at h
   cases h
   exact ay.plain hr aQ (rK k3) (fun _ _ _ e'=>by cases e')
  |true=>
   rw[hc] at h
   cases h
   have dQ:Rel X (s.aC (some (id,{B with own:=n4 B.own p}))) a:=hr.iB hb hβ ⟨how,ci.of cU aF aJ fun q hq=>bm q (z49 hq).1⟩
   have sc:∀q,¬bP (s.aC (some (id,{B with own:=n4 B.own p}))) (.b id (p++q)):=by
    rintro q ⟨B2,b9,hp⟩
    rw[FL hb] at b9
    cases b9
    have:=(z49 hp).2
    rw[List.isPrefixOf_iff_prefix.2 (List.prefix_append p q)] at this
    cases this
   have gm:=OS (X:=X) (q:= .c (o.dst.getD 0) 0) sc
   refine⟨X.du id p (.c (o.dst.getD 0) 0),_,.inl aQ,gm.ext,(dQ.mod gm.mod).fin ⟨_,k3.aj (fun _ _=>gm.au.1),rfl,?_⟩ (fun id t p hm=>by simp at hm)⟩
   intro q hq
   obtain⟨q0,RE,rfl⟩:=List.mem_map.1 hq
   obtain⟨RF,Ck⟩:=List.mem_filter.1 RE
   obtain⟨q,rfl⟩:=List.isPrefixOf_iff_prefix.1 Ck
   rw[List.drop_left]
   obtain⟨e',t',xs,v,h0,h1,h2,h3⟩:=bm _ RF
   obtain⟨j1,j2⟩:=UU bN h0 h1
   have hle:=Ft j1 (wE _ _ _ _ _ j2)
   refine⟨e',t',xs,v,j1,j2,?_,h3.jt⟩
   rw[xn _ _ _ _ k1] at h2
   rw[List.getElem?_take,if_pos hle,List.getElem?_drop]
   exact h2
 ·cases h
theorem Hi{cs c:List Value}{off:Nat}(h:off+c.length<=cs.length)(j k:Nat):(∀h1:j+k<=off\/off+c.length<=j,((cs.take off++c++cs.drop (off+c.length)).drop j).take k=(cs.drop j).take k):=by
 intro h1
 apply List.ext_getElem?
 intro q
 simp only[List.getElem?_take,List.getElem?_drop]
 split
 ·rename_i hq
  rw[List.append_assoc]
  rcases h1 with h1|h1
  ·rw[List.getElem?_append_left (by rw[List.length_take];omega),List.getElem?_take,if_pos (by omega)]
  ·rw[List.getElem?_append_right (by rw[List.length_take];omega),List.length_take,Nat.min_eq_left (by omega),List.getElem?_append_right (by omega),List.getElem?_drop]
   congr 1
   omega
 ·rfl
theorem LS{X:ak}:∀{t:Ty} {p:List Nat} {x:El t} {cs:List Value} {u:Ty} {y:El u} {z:El t} {c:List Value},aN X t x cs->t.cS p->t.at_ p=some u->El.set t p x u y=some z->aN X u y c->
 aN X t z (cs.take (t.off p)++c++cs.drop (t.off p+c.length)):=by
 intro t
 induction t with
 |arr n t ih=>
  intro p x cs u y z c hr hp bz h hc
  have gn:=hc.len
  cases p with
  |nil=>
   simp only[Ty.at_,Option.some.injEq] at bz
   subst bz
   simp only[El.set,Ty.bk,dite_true,Option.some.injEq] at h
   subst h
   have hl:=hr.len
   simp only[Ty.off,Nat.zero_add,List.take_zero,List.nil_append]
   rw[gn,<-hl,List.drop_length,List.append_nil]
   exact hc
  |cons i p=>
   obtain⟨hi,hp⟩:=hp
   obtain⟨h1,h2,h3⟩:=hr
   simp only[El.set] at h
   obtain⟨z',gP,rfl⟩:=Option.map_eq_some_iff.1 h
   have gF:t.at_ p=some u:=bz
   have hle:=cL t p u gF hp
   have hn:(i+1)*t.cells<=n*t.cells:=Nat.mul_le_mul_right _ hi
   rw[Nat.add_mul,Nat.one_mul] at hn
   have B5:=ih (h3 i _ (getD_some (El.bj t) (by omega))) hp gF gP hc
   have b6:i*t.cells+t.off p+c.length<=cs.length:=by rw[gn,h2];omega
   refine⟨by simpa using h1,?_,fun j w hj=> ?_⟩
   ·simp only[Ty.off,List.length_append,List.length_take,List.length_drop];omega
   ·simp only[Ty.off]
    by_cases e:j=i
    ·subst e
     rw[List.getElem?_set_self (by omega)] at hj
     cases hj
     have hL:((cs.take (j*t.cells+t.off p)++c++cs.drop (j*t.cells+t.off p+c.length)).drop (j*t.cells)).take t.cells=
      ((cs.drop (j*t.cells)).take t.cells).take (t.off p)++c++((cs.drop (j*t.cells)).take t.cells).drop (t.off p+c.length):=by
      apply List.ext_getElem?
      intro q
      rw[List.append_assoc,List.append_assoc]
      simp only[List.getElem?_take,List.getElem?_drop,List.getElem?_append,List.length_take,List.length_drop]
      rw[Nat.min_eq_left (show j*t.cells+t.off p<=cs.length by omega),Nat.min_eq_left (show t.cells<=cs.length-j*t.cells by omega),Nat.min_eq_left (show t.off p<=t.cells by omega)]
      by_cases q1:q<t.cells
      ·by_cases q2:q<t.off p
       ·rw[if_pos q1,if_pos (by omega),if_pos (by omega),if_pos q2,if_pos q2,if_pos q1]
       ·by_cases q3:q-t.off p<c.length
        ·rw[if_pos q1,if_neg (by omega),if_pos (by omega),if_neg q2,if_pos q3]
         congr 1
         omega
        ·rw[if_pos q1,if_neg (by omega),if_neg (by omega),if_neg q2,if_neg q3,if_pos (by omega)]
         congr 1
         omega
      ·rw[if_neg q1,if_neg (by omega),if_neg (by omega),if_neg (by omega)]
     rw[hL]
     exact B5
    ·rw[List.getElem?_set_ne (Ne.symm e)] at hj
     have nD:=(List.getElem?_eq_some_iff.1 hj).1
     rw[Hi b6 (j*t.cells) t.cells ?_]
     ·exact h3 j w hj
     ·rcases Nat.lt_or_gt_of_ne e with aK|Nv
      ·have:(j+1)*t.cells<=i*t.cells:=Nat.mul_le_mul_right _ aK
       rw[Nat.add_mul,Nat.one_mul] at this
       exact .inl (by omega)
      ·have:(i+1)*t.cells<=j*t.cells:=Nat.mul_le_mul_right _ Nv
       rw[Nat.add_mul,Nat.one_mul] at this
       exact .inr (by omega)
 |pair ta tb ga gb=>
  intro p x cs u y z c hr hp bz h hc
  have gn:=hc.len
  cases p with
  |nil=>
   simp only[Ty.at_,Option.some.injEq] at bz
   subst bz
   simp only[El.set,Ty.bk,dite_true,Option.some.injEq] at h
   subst h
   have hl:=hr.len
   simp only[Ty.off,Nat.zero_add,List.take_zero,List.nil_append]
   rw[gn,<-hl,List.drop_length,List.append_nil]
   exact hc
  |cons i p=>
   obtain⟨c1,c2,rfl,r1,r2⟩:=hr
   have l1:=r1.len
   have l2:=r2.len
   cases i with
   |zero=>
    simp only[El.set] at h
    obtain⟨z',gP,rfl⟩:=Option.map_eq_some_iff.1 h
    have gF:ta.at_ p=some u:=bz
    have hle:=cL ta p u gF hp
    have:=ga r1 hp gF gP hc
    refine⟨_,c2,?_,this,r2⟩
    simp only[Ty.off]
    rw[List.take_append_of_le_length (by omega),List.drop_append_of_le_length (by omega)]
    simp [List.append_assoc]
   |succ i=>
    simp only[El.set] at h
    obtain⟨z',gP,rfl⟩:=Option.map_eq_some_iff.1 h
    have gF:tb.at_ (i::p)=some u:=bz
    have hle:=cL tb (i::p) u gF hp
    have:=gb r2 hp gF gP hc
    refine⟨c1,_,?_,r1,this⟩
    simp only[Ty.off]
    rw[<-l1,List.take_length_add_append,Nat.add_assoc,List.drop_length_add_append]
    simp [List.append_assoc]
 |_=>
  intro p x cs u y z c hr hp bz h hc
  have gn:=hc.len
  cases p with
  |nil=>
   simp only[Ty.at_,Option.some.injEq] at bz
   subst bz
   simp only[El.set,Ty.bk,dite_true,Option.some.injEq] at h
   first|subst h|skip
   have hl:=hr.len
   simp only[Ty.off,Nat.zero_add,List.take_zero,List.nil_append]
   rw[gn,<-hl,List.drop_length,List.append_nil]
   exact hc
  |cons i p=>simp [Ty.at_] at bz
end Go.Ref

namespace Go.Ref
open Go
variable {P:Program} {E:Env} {X:ak} {s:State} {a:Act} {o:Oper} {u:Out}
theorem Ua:∀{t:Ty} {p q:List Nat} {x:El t} {u:Ty} {y:El u} {z:El t} {e:TypeId} {t':Ty} {xs:El (.sl e t')},El.set t p x u y=some z->t.at_ p=some u->t.cS p->t.cS q->p.isPrefixOf q=false->El.get t q x=some ⟨.sl e t',xs⟩->
 El.get t q z=some ⟨.sl e t',xs⟩/\(t.off q+1<=t.off p\/t.off p+u.cells<=t.off q):=by
 intro t
 induction t with
 |arr n t ih=>
  intro p q x u y z e t' xs hs bz hp hq c8 hg
  cases p with
  |nil=>simp at c8
  |cons i p=>
   cases q with
   |nil=>simp [El.get] at hg
   |cons j q=>
    simp only[El.set] at hs
    obtain⟨z',gP,rfl⟩:=Option.map_eq_some_iff.1 hs
    by_cases BL:i=j
    ·subst BL
     have gJ:p.isPrefixOf q=false:=by simpa [List.isPrefixOf] using c8
     obtain⟨h1,h2⟩:=ih gP bz hp.2 hq.2 gJ hg
     refine⟨?_,by simp only[Ty.off];omega⟩
     simp only[El.get]
     by_cases hl:i<List.length x
     ·rw[List.getD_eq_getElem?_getD,List.getElem?_set_self hl]
      exact h1
     ·have c9:List.set x i z'=x:=by rw[List.set_eq_of_length_le (Nat.le_of_not_lt hl)]
      rw[c9];exact hg
    ·refine⟨?_,?_⟩
     ·simp only[El.get] at hg⊢
      rw[List.getD_eq_getElem?_getD,List.getElem?_set_ne BL,<-List.getD_eq_getElem?_getD]
      exact hg
     ·have a1:=cL t p u bz hp.2
      have a2:t.off q+1<=t.cells:=by
       have:=cL t q _ (wE t q _ _ _ hg) hq.2
       simpa [Ty.cells] using this
      simp only[Ty.off]
      rcases Nat.lt_or_gt_of_ne BL with h|h
      ·have:(i+1)*t.cells<=j*t.cells:=Nat.mul_le_mul_right _ h
       rw[Nat.add_mul,Nat.one_mul] at this
       omega
      ·have:(j+1)*t.cells<=i*t.cells:=Nat.mul_le_mul_right _ h
       rw[Nat.add_mul,Nat.one_mul] at this
       omega
 |pair ta tb ga gb=>
  intro p q x u y z e t' xs hs bz hp hq c8 hg
  cases p with
  |nil=>simp at c8
  |cons i p=>
   cases q with
   |nil=>simp [El.get] at hg
   |cons j q=>
    cases i with
    |zero=>
     simp only[El.set] at hs
     obtain⟨z',gP,rfl⟩:=Option.map_eq_some_iff.1 hs
     cases j with
     |zero=>
      have gJ:p.isPrefixOf q=false:=by simpa [List.isPrefixOf] using c8
      obtain⟨h1,h2⟩:=ga gP bz hp hq gJ hg
      exact⟨h1,by simp only[Ty.off];omega⟩
     |succ j=>
      have a1:=cL ta p u bz hp
      exact⟨hg,by simp only[Ty.off];omega⟩
    |succ i=>
     simp only[El.set] at hs
     obtain⟨z',gP,rfl⟩:=Option.map_eq_some_iff.1 hs
     cases j with
     |zero=>
      have a2:ta.off q+1<=ta.cells:=by
       have:=cL ta q _ (wE ta q _ _ _ hg) hq
       simpa [Ty.cells] using this
      exact⟨hg,by simp only[Ty.off];omega⟩
     |succ j=>
      have gJ:(i::p).isPrefixOf (j::q)=false:=by
       simp [List.isPrefixOf] at c8⊢
       exact c8
      obtain⟨h1,h2⟩:=gb gP bz hp hq gJ hg
      exact⟨h1,by simp only[Ty.off];omega⟩
 |_=>
  intro p q x u y z e t' xs hs bz hp hq c8 hg
  cases p with
  |nil=>simp at c8
  |cons i p=>simp [Ty.at_] at bz
def ak.row(X:ak)(r:Nat)(cs:Array Value):ak:={X with w:=X.w.setRow r cs}
theorem mh{r id:Nat}{cs:Array Value}(h:X.ow r= .box id){ad:Addr}{v:Value}(hs:X.au ad v):(X.row r cs).au ad v:=by
 have bV:ad.block≠r:=fun e=>by
  have:=hs.2.2
  rw[e,h] at this
  exact this
 refine⟨hs.1,?_,hs.2.2⟩
 have:=hs.2.1
 simp only[World.cell?,ak.row] at this⊢
 rw[setRow_other X.w r ad.block cs bV]
 exact this
theorem zX{r id:Nat}{cs:Array Value}(h:X.ow r= .box id):Ext X (X.row r cs) where
 au:=fun _ _=>mh h
 size:=by simp [ak.row]
 os:=rfl
 tape:=rfl
 output:=rfl
 β0:=rfl
 still:=fun g _ bL=>by
  have bV:g≠r:=fun e=>by rw[e,h] at bL;exact bL
  exact⟨rfl,setRow_other X.w r g cs bV⟩
theorem aV.row{r id:Nat}{cs:Array Value}(h:X.ow r= .box id){pl:Place}{e:TypeId}{k n:Nat}{v:Value}(ho:aV X pl e k n v):aV (X.row r cs) pl e k n v:=by
 rcases ho with ho|⟨g,cap,cur,h1,h2,h3,h4,h5,h6⟩
 ·exact .inl ho
 ·have bV:g≠r:=fun e=>by rw[e,h] at h6;cases h6
  exact .inr ⟨g,cap,cur,h1,(setRow_other X.w r g cs bV).trans h2,h3,h4,h5,h6⟩
theorem aU.row{r id:Nat}{cs:Array Value}(h:X.ow r= .box id){pl:List Nat->Place}{t:Ty}{x:El t}{c:List Value}{own:List (List Nat)}(ho:aU X pl t x c own):aU (X.row r cs) pl t x c own:=fun p hp=>by
 obtain⟨e,t',xs,v,g0,g1,g2,g3⟩:=ho p hp
 exact⟨e,t',xs,v,g0,g1,g2,g3.row h⟩
theorem ar.row{r id:Nat}{cs:Array Value}(h:X.ow r= .box id){pl:List Nat->Place}{sv:SV}{v:Value}(hr:ar X pl sv v):ar (X.row r cs) pl sv v:=by
 cases sv with
 |undef=>trivial
 |skip=>exact hr
 |bK=>exact hr
 |dL=>exact hr
 |over=>exact hr
 |af t x own=>
  obtain⟨c,h1,h2,h3⟩:=hr
  exact⟨c,h1.aj (fun _ _=>mh h),h2,h3.row h⟩
 |ptr id t p=>exact hr
 |view t x=>
  obtain⟨ad,c,h1,h2,h3,h4⟩:=hr
  exact⟨ad,c,h1,h2,h3.aj (fun _ _=>mh h),fun i u hi=>mh h (h4 i u hi)⟩
 |cap f t x u y=>exact l9 (fun _ _=>mh h) hr
theorem Rel.row{r id:Nat}{B B':aX}{cs:Array Value}(hr:Rel X s a)(hb:s.bs[id]? =some (some B))(hβ:X.β id=some r)(h:X.ow r= .box id)(hB:bd (X.row r cs) id r B'):Rel (X.row r cs) (s.aC (some (id,B'))) a where
 size:=hr.size
 dP:=by simpa [State.aC] using hr.dP
 bh:=fun i l v hl hv=>(hr.bh i l v hl hv).fk fun j sv u hm fc=>fc.row h
 boxes:=fun bu B2 b9=>by
  have aK:id<s.bs.length:=(List.getElem?_eq_some_iff.1 hb).1
  simp only[State.aC,List.getElem?_set] at b9
  by_cases e:id=bu
  ·subst e
   rw[if_pos rfl,if_pos aK] at b9
   cases b9;exact⟨r,hβ,hB⟩
  ·rw[if_neg e] at b9
   obtain⟨r',h1,h4,h2⟩:=hr.boxes bu B2 b9
   have bV:r'≠r:=fun e2=>by rw[e2,h] at h4;cases h4;exact e rfl
   exact⟨r',h1,h4,h2.move (fun _ _=>mh h) (setRow_other X.w r r' cs bV) (fun cs h5=>h5.row h) fun _ g o ho hw=>⟨(setRow_other X.w r g cs (fun e3=>by rw[e3,h] at hw;cases hw)).trans ho,hw⟩⟩
 live:=fun i l bu t p hi hm=>by
  have aK:id<s.bs.length:=(List.getElem?_eq_some_iff.1 hb).1
  obtain⟨B2,b9⟩:=hr.live i l bu t p hi hm
  simp only[State.aC,List.getElem?_set]
  by_cases e:id=bu
  ·subst e;exact⟨B',by rw[if_pos rfl,if_pos aK]⟩
  ·rw[if_neg e];exact⟨B2,b9⟩
 defers:=hr.defers
theorem xk(hE:ah P E){T:TypeId}{t:Ty}(ht:E.ty T=some t){x:El t}{cs:List Value}(hr:aN X t x cs){r off:Nat}{cur:Array Value}{T':TypeId}{w:World}(hg:w.heap[r]? =some (.cells cur T' (0,0)))(hf:off+t.cells<=cur.size):
 (storeVar T ⟨r,off,none⟩ (cq t cs)).run P w= .ok () (w.setRow r (cur.toList.take off++cs++cur.toList.drop (off+cs.length)).toArray):=by
 have hl:=hr.len
 have bL:=run_storeCells_at P r off T' cs 0 cur w hg (by omega) hr.one
 simp only[Nat.add_zero] at bL
 unfold storeVar
 simp only[Sem.run_bind,zl hE ht,Result.andThen_ok,nX hr]
 rw[if_neg (by simp [hl])]
 exact bL
theorem Uv:∀{t:Ty} {p q:List Nat} {x:El t} {u:Ty} {y:El u} {z:El t} {r:(u:Ty)×El u} {X:ak} {cs:List Value},aN X t x cs->El.set t p x u y=some z->t.at_ p=some u->t.cS p->El.get u q y=some r->El.get t (p++q) z=some r:=by
 intro t
 induction t with
 |arr n t ih=>
  intro p q x u y z r X cs hr hs bz hp hg
  cases p with
  |nil=>
   simp only[Ty.at_,Option.some.injEq] at bz
   subst bz
   simp only[El.set,Ty.bk,dite_true,Option.some.injEq] at hs
   subst hs
   exact hg
  |cons i p=>
   simp only[El.set] at hs
   obtain⟨z',gP,rfl⟩:=Option.map_eq_some_iff.1 hs
   obtain⟨h1,h2,h3⟩:=hr
   have hi:i<List.length x:=by rw[h1];exact hp.1
   simp only[El.get,List.cons_append]
   rw[List.getD_eq_getElem?_getD,List.getElem?_set_self hi]
   exact ih (h3 i _ (getD_some _ hi)) gP bz hp.2 hg
 |pair ta tb ga gb=>
  intro p q x u y z r X cs hr hs bz hp hg
  cases p with
  |nil=>
   simp only[Ty.at_,Option.some.injEq] at bz
   subst bz
   simp only[El.set,Ty.bk,dite_true,Option.some.injEq] at hs
   subst hs
   exact hg
  |cons i p=>
   obtain⟨c1,c2,_,r1,r2⟩:=hr
   cases i with
   |zero=>
    simp only[El.set] at hs
    obtain⟨z',gP,rfl⟩:=Option.map_eq_some_iff.1 hs
    exact ga r1 gP bz hp hg
   |succ i=>
    simp only[El.set] at hs
    obtain⟨z',gP,rfl⟩:=Option.map_eq_some_iff.1 hs
    exact gb (p:=i::p) r2 gP bz hp hg
 |_=>
  intro p q x u y z r X cs hr hs bz hp hg
  cases p with
  |nil=>
   simp only[Ty.at_,Option.some.injEq] at bz
   subst bz
   simp only[El.set,Ty.bk,dite_true,Option.some.injEq] at hs
   first|subst hs|skip
   exact hg
  |cons i p=>simp [Ty.at_] at bz
theorem Qj{t u:Ty}{p:List Nat}{x z:El t}{y:El u}{cs cv:List Value}{own oy:List (List Nat)}{pl:List Nat->Place}(hr:aN X t x cs)(dy:t.cS p)(bz:t.at_ p=some u)(c9:El.set t p x u y=some z)(rep:aN X u y cv)
 (ho:aU X pl t x cs own) (hy:aU X (fun q=>pl (p++q)) u y cv oy):aU X pl t z (cs.take (t.off p)++cv++cs.drop (t.off p+cv.length)) (oy.map (fun q=>p++q)++n4 own p):=by
 have gn:=rep.len
 have hle:=cL t p u bz dy
 have di:=hr.len
 intro q hq
 rcases List.mem_append.1 hq with hq|hq
 ·obtain⟨q,Ck,rfl⟩:=List.mem_map.1 hq
  obtain⟨e,t',xs,v,g0,g1,g2,g3⟩:=hy q Ck
  have aK:=(List.getElem?_eq_some_iff.1 g2).1
  refine⟨e,t',xs,v,FK t p q u bz dy g0,Uv hr c9 bz dy g1,?_,g3⟩
  rw[xn t p q u bz,List.append_assoc,List.getElem?_append_right (by rw[List.length_take];omega),List.length_take,Nat.min_eq_left (by omega),Nat.add_sub_cancel_left,List.getElem?_append_left aK]
  exact g2
 ·obtain⟨RG,c8⟩:=z49 hq
  obtain⟨e,t',xs,v,g0,g1,g2,g3⟩:=ho q RG
  obtain⟨k1,k2⟩:=Ua c9 bz dy g0 c8 g1
  refine⟨e,t',xs,v,g0,k1,?_,g3⟩
  have gp:=Hi (cs:=cs) (c:=cv) (off:=t.off p) (by omega) (t.off q) 1 (by rw[gn];omega)
  have h0:=congrArg (fun l=>l[0]?) gp
  simp only[List.getElem?_take,List.getElem?_drop] at h0
  simp only[Nat.zero_lt_one,if_true,Nat.add_zero] at h0
  rw[h0];exact g2
theorem T9(hE:ah P E)(hr:Rel X s a){T:TypeId}{u0:Ty}{x y:Operand}(ho:o.op= .store T x y)(hT:E.ty T=some u0){id:Nat}{t:Ty}{p:List Nat}(cz:s.ax x= .ptr id t p)(h:rH u0 s id t p (s.ax y) some=some u):ay P X s a o u:=by
 have hx:=hr.ax x
 rw[cz] at hx
 obtain⟨r0,hβ,hv⟩:=hx
 unfold rH at h
 split at h
 case h_2=>cases h
 rename_i ta tb i
 split at h
 case h_2=>cases h
 rename_i B hB
 split at h
 case isFalse=>cases h
 rename_i dh
 split at h
 case isFalse=>cases h
 rename_i heq
 have:=Ty.aH heq
 subst this
 obtain⟨hb,r,h1,how,cs,T',aF,dq,cT⟩:=rL hr hB dh
 rw[hβ] at h1
 cases h1
 obtain⟨yv,h,hy⟩:=zi h
 obtain⟨cv,rep,ev⟩:=hy X _ _ (hr.ax y)
 generalize(Ty.cast dh B.x:List (El ta))=xs at*
 cases hn:Nat.ble (i+1) (List.length xs) with
 |false=>rw[hn] at h;cases h
 |true=>
  rw[hn] at h
  cases h
  have aK:i<List.length xs:=Nat.le_of_ble_eq_true hn
  have hv:a.eval x= .pointer (some ⟨r0,i*ta.cells,none⟩):=hv
  have gn:=rep.len
  have hmul:(i+1)*ta.cells<=List.length xs*ta.cells:=Nat.mul_le_mul_right _ aK
  rw[Nat.add_mul,Nat.one_mul] at hmul
  have b6:i*ta.cells+ta.cells<=cs.size:=by omega
  have lX:i*ta.cells+cv.length<=cs.toList.length:=by simp;omega
  let new:=(cs.toList.take (i*ta.cells)++cv++cs.toList.drop (i*ta.cells+cv.length)).toArray
  have fj:new.toList=cs.toList.take (i*ta.cells)++cv++cs.toList.drop (i*ta.cells+cv.length):=rfl
  have aQ:(execOp a.eval o).run P X.w= .ok .skip ((X.row r0 new).w):=by
   have bL:=xk (P:=P) hE hT rep (off:=i*ta.cells) (w:=X.w) (r:=r0) (cur:=cs) (T':=T') aF b6
   simp only[execOp,ho,Sem.run_bind,Instr.storeAt,hv,Instr.sureAddr,Sem.run_pure,Result.andThen_ok,ev,bL]
   rfl
  have bF:new.size=cs.size:=by
   have:new.toList.length=cs.toList.length:=by rw[fj];simp;omega
   simpa using this
  have bA:bd (X.row r0 new) id r0 ⟨.aP .row ta tb,(List.set xs i yv:List (El ta)),[]⟩:=by
   refine⟨how,new,T',setRow_heap X.w r0 cs new T' (0,0) aF,?_,fun j z hj=> ?_⟩
   ·rw[bF,dq]
    show _=List.length (List.set xs i yv)*_
    rw[List.length_set]
   ·refine aN.aj (fun _ _=>mh (cs:=new) how) ?_
    have hj:(List.set xs i yv)[j]? =some z:=hj
    rw[fj]
    by_cases e:i=j
    ·subst e
     rw[List.getElem?_set_self aK] at hj
     cases hj
     have:((cs.toList.take (i*ta.cells)++cv++cs.toList.drop (i*ta.cells+cv.length)).drop (i*ta.cells)).take ta.cells=cv:=by
      rw[List.append_assoc,List.drop_append_of_le_length (by rw[List.length_take];omega),List.drop_eq_nil_of_le (by rw[List.length_take];omega),List.nil_append,<-gn,List.take_left]
     rw[this]
     exact rep
    ·rw[List.getElem?_set_ne e] at hj
     rw[Hi (cs:=cs.toList) (c:=cv) (off:=i*ta.cells) lX (j*ta.cells) ta.cells ?_]
     ·exact cT j z hj
     ·rcases Nat.lt_or_gt_of_ne e with h|h
      ·have:(i+1)*ta.cells<=j*ta.cells:=Nat.mul_le_mul_right _ h
       rw[Nat.add_mul,Nat.one_mul] at this
       right;omega
      ·have:(j+1)*ta.cells<=i*ta.cells:=Nat.mul_le_mul_right _ h
       rw[Nat.add_mul,Nat.one_mul] at this
       left;omega
  exact⟨X.row r0 new,Go.undef,.inr ⟨aQ,rfl⟩,zX how,(hr.row (cs:=new) hb hβ how bA).skip o.dst⟩
theorem UR(hE:ah P E)(hr:Rel X s a){ops:List Oper}{T:TypeId}{x y:Operand}(ho:o.op= .store T x y){C:FuncId->bg Out}(h:act E C ops o s some=some u):ay P X s a o u:=by
 unfold act at h
 simp only[ho] at h
 have hx:=hr.ax x
 unfold store at h
 split at h
 case h_2=>cases h
 rename_i u0 hT
 split at h
 case h_2=>cases h
 rename_i id t p e
 rw[e] at hx
 obtain⟨r,hβ,hx⟩:=hx
 split at h
 ·exact T9 hE hr ho hT e h
 rename_i cU
 have cU:t.bf=false:=by simpa using cU
 obtain⟨hv,dy⟩:=(zu cU).1 hx
 split at h
 case h_2=>cases h
 rename_i B hB
 split at h
 case isFalse=>cases h
 rename_i heq
 have dh:=Ty.aH heq
 subst dh
 split at h
 case h_2=>cases h
 rename_i u' bz
 split at h
 case isFalse=>cases h
 rename_i qV
 have:=Ty.aH qV
 subst this
 have hb:=ke hB
 obtain⟨yv,h,hy⟩:=LV hr h (.inl rfl)
 split at h
 case h_2=>cases h
 rename_i z c9
 cases h
 obtain⟨W,cv,hW,hX,w7,rep,ev,hO,hβ2,gm,_⟩:=hy (fun q=> .b id (p++q))
 obtain⟨r',hβW,nw⟩:=w7.boxes id B (by rw[nY];exact hb)
 obtain⟨cs,T2,aF,aJ,how,bm⟩:=nw.cells cU
 have RI:r'=r:=by
  rw[hβ2,hβ] at hβW
  exact(Option.some.inj hβW).symm
 subst RI
 have b6:B.t.off p+u'.cells<=cs.size:=by
  have:=cL B.t p u' bz dy
  have hl:=aJ.len
  simp at hl
  omega
 let new:=(cs.toList.take (B.t.off p)++cv++cs.toList.drop (B.t.off p+cv.length)).toArray
 have aQ:(execOp a.eval o).run P X.w= .ok .skip ((W.row r' new).w):=by
  have bL:=xk (P:=P) hE hT rep (off:=B.t.off p) (w:=X.w) (r:=r') (cur:=cs) (T':=T2) (by rw[<-hW];exact aF) b6
  simp only[execOp,ho,Sem.run_bind,Instr.storeAt,hv,Instr.sureAddr,Sem.run_pure,Result.andThen_ok,ev,bL]
  rw[<-hW];rfl
 have lp:=Qj aJ dy bz c9 rep bm hO
 have bA:bd (W.row r' new) id r' {t:=B.t,x:=z,own:=(s.ax y).own.map (fun q=>p++q)++n4 B.own p}:=by
  refine⟨how,ci.of cU (setRow_heap W.w r' cs new T2 (0,0) aF) ?_ ?_⟩
  ·have:=(LS aJ dy bz c9 rep).aj (fun _ _=>mh (cs:=new) how)
   simpa [new] using this
  ·have:=lp.row (cs:=new) how
   simpa [new] using this
 have dp:=w7.row (cs:=new) (by rw[nY];exact hb) hβW how bA
 exact⟨W.row r' new,Go.undef,.inr ⟨aQ,rfl⟩,hX.trans (zX how),dp.skip o.dst⟩
end Go.Ref

namespace Go.Ref
open Go
variable {P:Program} {E:Env} {X:ak} {s:State} {a:Act} {o:Oper} {u:Out}
theorem PB(off:Nat):∀(l:List Value) (k:Nat) (cs:Array Value),off+k+l.length<=cs.size->
 ((l.zipIdx k).foldl (fun cs p=>cs.setIfInBounds (off+p.2) p.1) cs).toList=cs.toList.take (off+k)++l++cs.toList.drop (off+k+l.length)
 | [],k,cs,h=>by simp
 |v::r,k,cs,h=>by
  simp only[List.length_cons] at h
  simp only[List.zipIdx_cons,List.foldl_cons]
  rw[PB off r (k+1) _ (by simp;omega)]
  simp only[Array.toList_setIfInBounds,List.length_cons]
  apply List.ext_getElem?
  intro q
  simp only[List.getElem?_append,List.getElem?_take,List.getElem?_drop,List.length_append,List.length_take,List.length_set,Array.length_toList,List.getElem?_set,List.length_cons,List.getElem?_cons]
  rw[Nat.min_eq_left (show off+(k+1)<=cs.size by omega),Nat.min_eq_left (show off+k<=cs.size by omega)]
  by_cases h1:q<off+k
  ·rw[if_pos (by omega),if_pos (by omega),if_pos (by omega),if_neg (by omega),if_pos (by omega),if_pos (by omega),if_pos (by omega)]
  ·by_cases h2:q=off+k
   ·subst h2
    rw[if_pos (by omega),if_pos (by omega),if_pos (by omega),if_pos rfl,if_pos (by omega),if_pos (by omega),if_neg (by omega),if_pos (by omega)]
   ·by_cases h3:q<off+(k+1)+r.length
    ·rw[if_pos (by omega),if_neg (by omega),if_pos (by omega),if_neg (by omega),if_neg (by omega)]
     try(congr 1<;>omega)
    ·rw[if_neg (by omega),if_neg (by omega),if_neg (by omega)]
     first|done|(congr 1;omega)
theorem PA(off:Nat)(l:List Value)(cs:Array Value)(h:off+l.length<=cs.size):
 ((l.toArray.zipIdx).foldl (fun cs (p:Value×Nat)=>cs.setIfInBounds (off+p.2) p.1) cs).toList=cs.toList.take off++l++cs.toList.drop (off+l.length):=by
 have:=PB off l 0 cs (by omega)
 rw[<-Array.foldl_toList,Array.toList_zipIdx]
 simpa using this
theorem Py(hr:Rel X s a){t:Ty}{pl:Nat->Option (Nat×Nat)}(eF:∀i ft,t.at_ [i]=some ft->t.fm i=true->t.cS [i]/\pl i=some (t.off [i],ft.cells)){R:Type}{K:El t->List (List Nat)->Option R}{z:R}:
 ∀(parts:List (Nat×Operand)) (x:El t) (own:List (List Nat)) (cs:Array Value),aN X t x cs.toList->jY t x own (parts.map fun p=>(p.1,s.ax p.2,[])) K=some z->
  ∃y gU cells,K y gU=some z/\Instr.fill pl cs (parts.map fun p=>(p.1,a.eval p.2))=some cells/\aN X t y cells.toList
 | [],x,own,cs,rep,h=>⟨x,own,cs,h,rfl,rep⟩
 |(i,p)::r,x,own,cs,rep,h=>by
  simp only[List.map_cons,jY] at h
  split at h
  case isTrue=>cases h
  rename_i hb
  have hb:t.fm i=true:=by cases qQ:t.fm i<;>simp_all
  split at h
  case h_2=>cases h
  rename_i ft bz
  obtain⟨y,h,hy⟩:=zi h
  split at h
  case h_2=>cases h
  rename_i x' c9
  obtain⟨c,rc,ec⟩:=hy X _ _ (hr.ax p)
  obtain⟨dy,hp⟩:=eF i ft bz hb
  have gn:=rc.len
  have di:=rep.len
  have hle:=cL t [i] ft bz dy
  have lu:=LS rep dy bz c9 rc
  have b6:t.off [i]+c.length<=cs.size:=by rw[gn];simp at di;omega
  have jn:=PA (t.off [i]) c cs b6
  obtain⟨y2,lJ,cells,h1,h2,h3⟩:=Py hr eF r x' _ _ (by rw[jn];exact lu) h
  refine⟨y2,lJ,cells,h1,?_,h3⟩
  simp only[List.map_cons,Instr.fill,hp,ec,nX rc]
  rw[if_neg (by simp only[List.size_toArray,gn];simp;simp at di;omega)]
  exact h2
theorem xr{t:Ty}{pl:Nat->Option (Nat×Nat)}(eF:∀i ft,t.at_ [i]=some ft->t.fm i=true->t.cS [i]/\pl i=some (t.off [i],ft.cells)){R:Type}{K:El t->List (List Nat)->Option R}{z:R}:
 ∀(parts:List (Nat×Operand)) (X:ak) (s:State) (x:El t) (own:List (List Nat)) (cs:Array Value),Rel X s a->aN X t x cs.toList->aU X (.r 0) t x cs.toList own->jY t x own (zx s parts).1 K=some z->
  ∃y gU cells Y,K y gU=some z/\Y.w=X.w/\Ext X Y/\Rel Y (s.close (zx s parts).2) a/\Instr.fill pl cs (parts.map fun p=>(p.1,a.eval p.2))=some cells/\aN Y t y cells.toList/\aU Y (.r 0) t y cells.toList gU
 | [],X,s,x,own,cs,hr,rep,ho,h=>⟨x,own,cs,X,h,rfl,Ext.refl X,hr,rfl,rep,ho⟩
 |(i,p)::r,X,s,x,own,cs,hr,rep,ho,h=>by
  simp only[zx,jY] at h
  split at h
  case isTrue=>cases h
  rename_i hb
  have hb:t.fm i=true:=by cases qQ:t.fm i<;>simp_all
  split at h
  case h_2=>cases h
  rename_i ft bz
  have hc:n3 (s.ax p).own p=src p\/((s.ax p).own=[]/\n3 (s.ax p).own p=[]):=by
   cases bm:(s.ax p).own with
   |nil=>exact .inr ⟨rfl,rfl⟩
   |cons _ _=>exact .inl rfl
  obtain⟨y,h,hy⟩:=LV hr h hc
  split at h
  case h_2=>cases h
  rename_i x' c9
  obtain⟨Y,c,hw,aT,aY,rc,ec,hO,hβ,hT,bL⟩:=hy (fun q=> .r 0 ([i]++q))
  obtain⟨dy,hp⟩:=eF i ft bz hb
  have gn:=rc.len
  have di:=rep.len
  have hle:=cL t [i] ft bz dy
  have vL:=rep.mono aT
  have Rs:=ho.stay bL (by simp)
  have lu:=LS vL dy bz c9 rc
  have lp:=Qj vL dy bz c9 rc Rs hO
  have b6:t.off [i]+c.length<=cs.size:=by rw[gn];simp at di;omega
  have jn:=PA (t.off [i]) c cs b6
  obtain⟨y2,lJ,cells,Z,h1,l4,bp,cg,h2,h3,h4⟩:=xr eF r Y _ x' _ _ aY (by rw[jn];exact lu) (by rw[jn];exact lp) h
  refine⟨y2,lJ,cells,Z,h1,l4.trans hw,aT.trans bp,?_,?_,h3,h4⟩
  ·simp only[zx,Og]
   exact cg
  ·simp only[List.map_cons,Instr.fill,hp,ec,nX rc]
   rw[if_neg (by simp only[List.size_toArray,gn];simp;simp at di;omega)]
   exact h2
theorem LP(hE:ah P E):∀(fl:List Field) (t:Ty) (off:Nat),zo E fl t off->∃places,fl.mapM (fun(f:Field)=>(P.info? f.type).map fun i=>(f.offset,i.size))=some places/\
 ∀(j:Nat) (f:Field) (ft:Ty),fl[j]? =some f->E.ty f.type=some ft->places[j]? =some (f.offset,ft.cells)
 | [],t,off,h=>⟨[],rfl,fun j f ft hj=>by simp at hj⟩
 |f::r,t,off,h=>by
  cases t<;>simp only[zo] at h<;>try exact h.elim
  rename_i ta tb
  obtain⟨h1,h2,h3,h4⟩:=h
  obtain⟨places,g1,g2⟩:=LP hE r tb _ h4
  obtain⟨i,i1,i2,_⟩:=(hE.ty _ _ h2).info
  refine⟨(f.offset,i.size)::places,?_,fun j g gt hj hg=> ?_⟩
  ·simp [List.mapM_cons,i1,g1]
  ·cases j with
   |zero=>
    simp only[List.getElem?_cons_zero,Option.some.injEq] at hj
    subst hj
    rw[h2] at hg
    cases hg
    simp [i2]
   |succ j=>
    simp only[List.getElem?_cons_succ] at hj⊢
    exact g2 j g gt hj hg
theorem Wz(hE:ah P E)(hr:Rel X s a){T:TypeId}{t:Ty}(hT:E.ty T=some t)(jQ:t.agg=true){R:Type}{K:El t->List (List Nat)->Option R}{z:R}(parts:Array (Nat×Operand))
 (h:jY t (El.bj t) (nZ t) (zx s parts.toList).1 K=some z):
 ∃y own cs Y,K y own=some z/\Y.w=X.w/\Ext X Y/\Rel Y (s.close (zx s parts.toList).2) a/\aN Y t y cs/\aU Y (.r 0) t y cs own/\(Instr.build T (parts.map fun(i,x)=>(i,a.eval x))).run P X.w= .ok (cq t cs) X.w:=by
 have hf:=hE.ty T t hT
 obtain⟨i,i1,i2,i3,i4⟩:=hf.info
 have hz:=lQ X t
 have hn:=Pd X (.r 0) t
 have Cw:(cq t (zf t)).cells=(zf t).toArray:=nX hz
 have jS:(parts.map fun(i,x)=>(i,a.eval x)).toList=parts.toList.map fun p=>(p.1,a.eval p.2):=by simp
 cases t with
 |arr n t=>
  obtain⟨e,hu,he,_⟩:=hf.b8
  obtain⟨ie,j1,j2,_⟩:=(hE.ty e t he).info
  obtain⟨y,own,cells,Y,k1,hw,aT,aY,k2,k3,k4⟩:=xr (pl:=fun i=>some (i*ie.size,ie.size)) (fun i ft bz hb=>by
   simp only[Ty.at_,Option.some.injEq] at bz
   subst bz
   have hb:i+1<=n:=by simpa [Ty.fm] using hb
   exact⟨⟨hb,by simp [Ty.cS]⟩,by simp [Ty.off,j2]⟩) parts.toList X s (El.bj (.arr n t)) _ (zf (.arr n t)).toArray hr (by simpa using hz) (by simpa using hn) h
  refine⟨y,own,cells.toList,Y,k1,hw,aT,aY,k3,k4,?_⟩
  rw[zm rfl]
  refine run_build X.w T _ cells.toList.toArray ?_
  unfold Program.built
  simp only[i1,hu,i4,j1,Cw,jS]
  simpa using k2
 |pair ta tb=>
  obtain⟨fs,hu,b6,_⟩:=hf.b8
  obtain⟨places,p1,p2⟩:=LP hE fs.toList _ 0 b6
  obtain⟨y,own,cells,Y,k1,hw,aT,aY,k2,k3,k4⟩:=xr (pl:=(places.toArray[·]?)) (fun i ft bz hb=>by
   obtain⟨f,g1,g2,g3,g4⟩:=zP fs.toList _ 0 i ft b6 rfl bz
   refine⟨g4,?_⟩
   have:=p2 i f ft g1 g3
   simp only[List.getElem?_toArray,this,g2,Nat.zero_add]) parts.toList X s (El.bj (.pair ta tb)) _ (zf (.pair ta tb)).toArray hr (by simpa using hz) (by simpa using hn) h
  refine⟨y,own,cells.toList,Y,k1,hw,aT,aY,k3,k4,?_⟩
  rw[zm rfl]
  refine run_build X.w T _ cells.toList.toArray ?_
  unfold Program.built
  simp only[i1,hu,i4,p1,Cw,jS]
  simpa using k2
 |unit=>
  obtain⟨fs,hu,b6,_⟩:=hf.b8
  obtain⟨places,p1,p2⟩:=LP hE fs.toList _ 0 b6
  obtain⟨y,own,cells,Y,k1,hw,aT,aY,k2,k3,k4⟩:=xr (pl:=(places.toArray[·]?)) (fun i ft bz hb=>by simp [Ty.at_] at bz) parts.toList X s (El.bj .unit) _ (zf .unit).toArray hr (by simpa using hz) (by simpa using hn) h
  refine⟨y,own,cells.toList,Y,k1,hw,aT,aY,k3,k4,?_⟩
  rw[zm rfl]
  refine run_build X.w T _ cells.toList.toArray ?_
  unfold Program.built
  simp only[i1,hu,i4,p1,Cw,jS]
  simpa using k2
 |aP k a b=>exact absurd (hE.dV hT) (by simp [Ty.bf])
 |_=>simp [Ty.agg] at jQ
def ak.hG(X:ak)(j:Nat)(q:List Nat->Place):ak:=
 {X with ow:=fun g=>match X.ow g with
  | .row (.r j' p) n=>if j'=j then .row (q p) n else .row (.r j' p) n
  |w=>w}
theorem U7{s:State}{X:ak}{j:Nat}{q:List Nat->Place}:cm s X (X.hG j q):=by
 refine⟨rfl,rfl,fun g=> ?_⟩
 simp only[ak.hG]
 cases hg:X.ow g with
 |row pl n=>
  cases pl with
  |r j' p=>
   by_cases e:j'=j
   ·subst e
    exact .inr ⟨_,n,q p,rfl,fun h=>h,by simp⟩
   ·exact .inl (if_neg e)
  |_=>exact .inl rfl
 |_=>exact .inl rfl
theorem aU.nT{X:ak}{j:Nat}{q:List Nat->Place}{t:Ty}{x:El t}{cs:List Value}{own:List (List Nat)}(h:aU X (.r j) t x cs own):aU (X.hG j q) q t x cs own:=fun p hp=>by
 obtain⟨e,t',xs,v,g0,g1,g2,g3⟩:=h p hp
 refine⟨e,t',xs,v,g0,g1,g2,?_⟩
 rcases g3 with h|⟨g,cap,cur,h1,h2,h3,h4,h5,h6⟩
 ·exact .inl h
 ·exact .inr ⟨g,cap,cur,h1,h2,h3,h4,h5,by simp [ak.hG,h6]⟩
theorem UJ(hE:ah P E)(hr:Rel X s a){ops:List Oper}{T:TypeId}{parts:Array (Nat×Operand)}(ho:o.op= .build T parts){C:FuncId->bg Out}(h:act E C ops o s some=some u):ay P X s a o u:=by
 unfold act at h
 simp only[ho] at h
 split at h
 case h_2=>cases h
 rename_i t hT
 split at h
 case isTrue=>cases h
 rename_i jQ
 have jQ:t.agg=true:=by cases qQ:t.agg<;>simp_all
 obtain⟨y,own,cs,Y,h,hw,aT,aY,rep,hO,aQ⟩:=Wz hE hr hT jQ parts h
 cases h
 have gm:=U7 (s:=s.close (zx s parts.toList).2) (X:=Y) (j:=0) (q:= .c (o.dst.getD 0) 0)
 refine⟨Y.hG 0 (.c (o.dst.getD 0) 0),cq t cs,.inl ?_,aT.trans gm.ext,(aY.mod gm.mod).fin ⟨cs,rep.aj (fun _ _=>gm.au.1),rfl,hO.nT⟩ (fun id t p hm=>by simp at hm)⟩
 rw[gm.w,hw]
 simp only[execOp,ho,Sem.run_bind,aQ,Result.andThen_ok,Sem.run_pure]
end Go.Ref

namespace Go.Ref
open Go
variable {P:Program} {E:Env} {X:ak} {s:State} {a:Act} {o:Oper} {u:Out}
theorem Yw{t:Ty}{x:El t}{xs:List (El t)}{n:Nat}{c cs:List Value}(h1:aN X t x c)(h2:aN X (.arr n t) xs cs):aN X (.arr (n+1) t) (x::xs:List (El t)) (c++cs):=by
 obtain⟨k1,k2,k3⟩:=h2
 have hl:=h1.len
 refine⟨by simp;exact k1,by simp [k2,hl,Nat.add_mul];omega,fun j y hj=> ?_⟩
 cases j with
 |zero=>
  simp only[List.getElem?_cons_zero,Option.some.injEq] at hj
  subst hj
  rw[Nat.zero_mul,List.drop_zero,<-hl,List.take_left]
  exact h1
 |succ j=>
  simp only[List.getElem?_cons_succ] at hj
  have hd:(c++cs).drop ((j+1)*t.cells)=cs.drop (j*t.cells):=by
   rw[Nat.add_mul,Nat.one_mul,Nat.add_comm,<-List.drop_drop,<-hl,List.drop_left]
  rw[hd]
  exact k3 j y hj
theorem si{t:Ty}{xs ys:List (El t)}{n m:Nat}{c d:List Value}(h1:aN X (.arr n t) xs c)(h2:aN X (.arr m t) ys d):aN X (.arr (n+m) t) (xs++ys:List (El t)) (c++d):=by
 obtain⟨j1,j2,j3⟩:=h1
 obtain⟨k1,k2,k3⟩:=h2
 refine⟨by rw[List.length_append,j1,k1],by rw[List.length_append,j2,k2,Nat.add_mul],fun j y hj=> ?_⟩
 by_cases aK:j<n
 ·rw[List.getElem?_append_left (by rw[j1];exact aK)] at hj
  have hle:(j+1)*t.cells<=n*t.cells:=Nat.mul_le_mul_right _ aK
  rw[Nat.add_mul,Nat.one_mul] at hle
  rw[List.drop_append_of_le_length (by omega),List.take_append_of_le_length (by rw[List.length_drop];omega)]
  exact j3 j y hj
 ·rw[List.getElem?_append_right (by rw[j1];omega),j1] at hj
  have hd:(c++d).drop (j*t.cells)=d.drop ((j-n)*t.cells):=by
   have hm:j*t.cells=c.length+(j-n)*t.cells:=by
    rw[j2,<-Nat.add_mul]
    congr 1
    omega
   rw[hm,List.drop_length_add_append]
  rw[hd]
  exact k3 _ y hj
theorem OQ{t:Ty}{ad:Addr}(hs:ad.spot=none):∀(xs:List (El t)) (p:Nat),(∀(j:Nat) x,xs[j]? =some x->∃cI,aN X t x cI/\∀(i:Nat) v,cI[i]? =some v->X.au (ad.add (p+(j*t.cells+i))) v)->
 ∃cs,aN X (.arr xs.length t) xs cs/\∀(i:Nat) v,cs[i]? =some v->X.au (ad.add (p+i)) v
 | [],p,h=>⟨[],⟨rfl,by simp,fun j x hj=>by simp at hj⟩,fun i v hi=>by simp at hi⟩
 |x::xs,p,h=>by
  obtain⟨c,r1,s1⟩:=h 0 x rfl
  obtain⟨cs,r2,s2⟩:=OQ hs xs (p+t.cells) (fun j y hj=>by
   obtain⟨c',r',s'⟩:=h (j+1) y hj
   refine⟨c',r',fun i v hi=> ?_⟩
   have:=s' i v hi
   rw[show p+((j+1)*t.cells+i)=p+t.cells+(j*t.cells+i) by rw[Nat.add_mul];omega] at this
   exact this)
  have hl:=r1.len
  refine⟨c++cs,Yw r1 r2,fun i v hi=> ?_⟩
  rw[List.getElem?_append] at hi
  split at hi
  ·have:=s1 i v hi
   rwa [show p+(0*t.cells+i)=p+i by omega] at this
  ·have:=s2 _ v hi
   rwa [show p+t.cells+(i-c.length)=p+i by omega] at this
theorem FC{e:TypeId}{t:Ty}{xs:List (El t)}{A:Option Addr}{n c:Nat}(h:aN X (.sl e t) xs [.slice A n c]):n=xs.length/\xs.length<=c/\
 ∃cs,aN X (.arr xs.length t) xs cs/\(A=none->xs=[])/\∀ad,A=some ad->∀(i:Nat) v,cs[i]? =some v->X.au (ad.add i) v:=by
 obtain⟨A',c',h1,h2,h3⟩:=h
 simp only[List.cons.injEq,Value.slice.injEq,and_true] at h1
 obtain⟨rfl,rfl,rfl⟩:=h1
 refine⟨rfl,h2,?_⟩
 cases xs with
 |nil=>exact⟨[],⟨rfl,by simp,fun j x hj=>by simp at hj⟩,fun _=>rfl,fun ad _ i v hi=>by simp at hi⟩
 |cons x r=>
  obtain⟨ad,_,hA,hs,_⟩:=h3 0 x rfl
  subst hA
  obtain⟨cs,k1,k2⟩:=OQ (X:=X) hs (x::r) 0 (fun j y hj=>by
   obtain⟨jl,c',e1,_,g1,g2⟩:=h3 j y hj
   cases e1
   exact⟨c',g1,fun i v hi=>by rw[Nat.zero_add];exact g2 i v hi⟩)
  refine⟨cs,k1,(fun e=>by cases e),fun jl e i v hi=> ?_⟩
  cases e
  have:=k2 i v hi
  rwa [Nat.zero_add] at this
theorem z85{e:TypeId}{t:Ty}{xs:List (El t)}{g cap:Nat}{pl:Place}{cur:Array Value}{cs:List Value}(hg:X.w.heap[g]? =some (.cells cur e (0,0)))(how:X.ow g= .row pl (xs.length*t.cells))
 (gO:cur.toList.take (xs.length*t.cells)=cs) (aJ:aN X (.arr xs.length t) xs cs) (gG:xs.length<=cap):aN X (.sl e t) xs [.slice (some ⟨g,0,none⟩) xs.length cap]:=by
 refine⟨_,cap,rfl,gG,fun j x hj=>⟨_,_,rfl,rfl,aJ.2.2 j x hj,fun i v hi=> ?_⟩⟩
 have nD:=(List.getElem?_eq_some_iff.1 hj).1
 have hle:(j+1)*t.cells<=xs.length*t.cells:=Nat.mul_le_mul_right _ nD
 rw[Nat.add_mul,Nat.one_mul] at hle
 rw[List.getElem?_take] at hi
 split at hi
 case isFalse=>cases hi
 rename_i wX
 rw[List.getElem?_drop,<-gO,List.getElem?_take,if_pos (by omega)] at hi
 refine⟨pw rfl _,?_,?_⟩
 ·rw[zr,Nat.zero_add]
  simp only[World.cell?,hg]
  simpa using hi
 ·rw[zr,Nat.zero_add]
  show Ow.used (X.ow g) _
  rw[how]
  show j*t.cells+i<_
  omega
end Go.Ref

namespace Go.Ref
open Go
variable {P:Program} {E:Env} {X:ak} {s:State} {a:Act} {o:Oper} {u:Out}
theorem O5{R:Type}{t:Ty}{n:Nat}{K:List (El t)->Option R}:∀(parts:List (Nat×SV)) (xs:List (El t)) (own:List (List Nat)),xs.length=n->pD t xs parts K=jY (.arr n t) xs own (parts.map fun p=>(p.1,p.2,[])) (fun y _=>K y)
 | [],xs,own,h=>rfl
 |(i,v)::r,xs,own,h=>by
  subst h
  simp only[pD,List.map_cons,jY,Ty.fm,Ty.at_,El.set,Ty.bk,dite_true,Option.map_some]
  congr 1
  refine congrArg (v.el t) (funext fun y=> ?_)
  exact O5 r (xs.set i y) _ (by simp)
theorem Xs{t:Ty}(n:Nat)(hk:0<t.cells):((Array.range (n*t.cells)).map fun i=>(zf t).toArray[i % (zf t).toArray.size]!).toList=(List.replicate n (zf t)).flatten:=by
 have hz:=l6 t
 apply List.ext_getElem?
 intro q
 have hlen:((List.replicate n (zf t)).flatten).length=n*t.cells:=by simp [hz]
 by_cases hq:q<n*t.cells
 ·have h1:q/t.cells<n:=(Nat.div_lt_iff_lt_mul hk).2 hq
  have h2:=Fz hz n (q/t.cells) h1
  have h3:=congrArg (fun l=>l[q % t.cells]?) h2
  simp only[List.getElem?_take,List.getElem?_drop,if_pos (Nat.mod_lt q hk)] at h3
  rw[Nat.mul_comm,Nat.div_add_mod] at h3
  rw[h3]
  have hm:q % t.cells<(zf t).length:=by rw[hz];exact Nat.mod_lt q hk
  rw[List.getElem?_eq_getElem hm]
  simp [hq,hz,hm]
  rw[List.getElem?_eq_getElem hm]
  rfl
 ·rw[List.getElem?_eq_none (by simp;omega),List.getElem?_eq_none (by omega)]
theorem Qi{X:ak}{pl:List Nat->Place}{e:TypeId}{t:Ty}{xs:List (El t)}{v:Value}(h:aV X (pl []) e t.cells xs.length v):aU X pl (.sl e t) xs [v] [[]]:=fun p hp=>by
 have hp:p=[]:=by simpa using hp
 subst hp
 exact⟨e,t,xs,v,by simp [Ty.cS],rfl,rfl,h⟩
theorem T3(hE:ah P E)(hr:Rel X s a){ops:List Oper}{T:TypeId}{n:Nat}{parts:Array (Nat×Operand)}(ho:o.op= .buildSlice T n parts){C:FuncId->bg Out}(h:act E C ops o s some=some u):ay P X s a o u:=by
 unfold act at h
 simp only[ho] at h
 split at h
 case h_2=>cases h
 rename_i e t hT
 split at h
 case isTrue=>cases h
 rename_i va
 have hk:0<t.cells:=by rcases Nat.eq_zero_or_pos t.cells with h0|h0<;>simp_all
 cases hb:Nat.ble (n*t.cells) 16777216 with
 |false=>rw[hb] at h;cases h
 |true=>
  rw[hb] at h
  simp only[cond_true] at h
  have lv:n*t.cells<=16777216:=Nat.le_of_ble_eq_true hb
  rw[O5 (n:=n) _ _ [] (by simp),List.map_map] at h
  obtain⟨hu,he⟩:=(hE.ty T _ hT).b8
  have dq:=zl (P:=P) hE he X.w
  have RY:=xA (P:=P) hE he X.w
  have Cv:=lQ X (.arr n t)
  obtain⟨y,gU,cells,k1,k2,k3⟩:=Py (pl:=fun i=>some (i*t.cells,t.cells)) hr (fun i ft bz hb=>by
   simp only[Ty.at_,Option.some.injEq] at bz
   subst bz
   have hb:i+1<=n:=by simpa [Ty.fm] using hb
   exact⟨⟨hb,by simp [Ty.cS]⟩,by simp [Ty.off]⟩) parts.toList (El.bj (.arr n t)) [] (zf (.arr n t)).toArray (by simpa using Cv) h
  cases k1
  have hy:List.length y=n:=k3.1
  have di:cells.size=n*t.cells:=by have:=k3.2.1;simpa using this
  have hn:n<=n*t.cells:=Nat.le_mul_of_pos_right n hk
  let Y:=X.new cells e (.row (.c (o.dst.getD 0) 0 []) (n*t.cells)) X.β
  have nE:cQ s X Y:=HC X s cells e _ _ rfl (fun _ _ _=>rfl)
  obtain⟨n1,n2⟩:=Hg X cells e (.row (.c (o.dst.getD 0) 0 []) (n*t.cells)) X.β
  refine⟨Y,.slice (some ⟨X.w.heap.size,0,none⟩) n n,.inl ?_,nE.ext,?_⟩
  ·have Ns:(Array.map (fun x=>(cq t (zf t)).cells[x % (cq t (zf t)).cells.size]!) (Array.range (n*t.cells)))=(zf (.arr n t)).toArray:=by
    apply Array.ext'
    rw[nX (lQ X t),Xs n hk]
    rfl
   have jS:(parts.map fun(i,x)=>(i,a.eval x)).toList=parts.toList.map fun p=>(p.1,a.eval p.2):=by simp
   by_cases NC:n*t.cells=0
   ·have Cc:n=0:=by
     rcases Nat.mul_eq_zero.1 NC with h0|h0
     ·exact h0
     ·omega
    subst Cc
    have R4:Instr.fill (fun i=>some (i*t.cells,t.cells)) #[] (parts.toList.map fun p=>(p.1,a.eval p.2))=some cells:=k2
    have NA:(parts.map fun x=>(x.1,a.eval x.2)).toList=parts.toList.map fun p=>(p.1,a.eval p.2):=by simp
    simp [execOp,ho,Instr.buildSlice,run_underlying hu,dq,newRow,Y,ak.new]
    rw[show(Array.map (fun x=>default) (Array.range 0):Array Value)= #[] by simp,R4]
    simp
   ·have hc:=Ns
    simp [execOp,ho,Instr.buildSlice,run_underlying hu,dq,RY,NC,newRow,Y,ak.new,Nat.not_lt.2 lv]
    rw[Ns,k2]
    simp
  ·refine(hr.cj nE).fin ?_ (fun id t p hm=>by simp at hm)
   refine⟨[.slice (some ⟨X.w.heap.size,0,none⟩) n n],?_,rfl,Qi ?_⟩
   ·rw[<-hy]
    refine z85 (pl:= .c (o.dst.getD 0) 0 []) (cur:=cells) (cs:=cells.toList) n1 (by rw[hy];exact n2) ?_ ?_ (Nat.le_refl _)
    ·rw[hy,List.take_of_length_le (by simp [di])]
    ·rw[hy];exact k3.aj (fun _ _=>nE.au)
   ·refine .inr ⟨X.w.heap.size,n,cells,by rw[hy],n1,by rw[hy];exact Nat.le_refl _,?_,di,by rw[hy];exact n2⟩
    simp only[maxLen]
    omega
end Go.Ref

namespace Go.Ref
open Go
variable {P:Program} {E:Env} {X:ak} {s:State} {a:Act} {o:Oper} {u:Out}
inductive Grown(w w':World)(e:TypeId)(k:Nat)(vb v':Value)(cx cy:List Value)(n:Nat):Prop where
 |same (h:w'=w) (hv:v'=vb) (hy:cy=[])
 |room (g cap:Nat) (cur cY:Array Value) (hb:∃m,vb= .slice (some ⟨g,0,none⟩) m cap) (hg:w.heap[g]? =some (.cells cur e (0,0))) (hv:v'= .slice (some ⟨g,0,none⟩) n cap) (hn:n<=cap) (hm:cap<=maxLen)
   (hw:w'=w.setRow g cY) (hs:cY.size=cap*k) (ht:cY.toList.take (n*k)=cx++cy)
 |new (cap:Nat) (cY:Array Value) (hv:v'= .slice (some ⟨w.heap.size,0,none⟩) n cap) (hn:n<=cap) (hm:cap<=maxLen) (hw:w'=w.drew.alloc (.cells cY e)) (hs:cY.size=cap*k) (ht:cY.toList.take (n*k)=cx++cy)
theorem UD(hE:ah P E){T ty e:TypeId}{t:Ty}(hT:E.ty T=some (.sl e t))(hk:0<t.cells)(jR:E.bytes e≠0){xs ys:List (El t)}{vb vx:Value}{pl:Place}
 (bm:aV X pl e t.cells xs.length vb) {cx cy:List Value} (rx:aN X (.arr xs.length t) xs cx) (sx:∀g m c,vb= .slice (some ⟨g,0,none⟩) m c->∀(i:Nat) v,cx[i]? =some v->X.au ((⟨g,0,none⟩:Addr).add i) v)
 (ry:aN X (.arr ys.length t) ys cy) (RP:∃A c,vx= .slice A ys.length c/\(A=none->ys=[])/\∀ad,A=some ad->∀(i:Nat) v,cy[i]? =some v->X.au (ad.add i) v)
 (hbound:(xs.length+ys.length)*E.bytes e<=140737488355328):
 ∃v' w',(Builtin.append_ #[T,T] ty #[vb,vx]).run P X.w= .ok v' w'/\Grown X.w w' e t.cells vb v' cx cy (xs.length+ys.length)/\(v'= .slice none 0 0->xs.length+ys.length=0):=by
 obtain⟨hu,he⟩:=(hE.ty T _ hT).b8
 obtain⟨i,hi,bF,cZ,hz⟩:=(hE.ty e t he).info
 have RZ:(cq t (zf t)).cells.size=t.cells:=by rw[nX (lQ X t)];simp [l6]
 have nF:cx.length=xs.length*t.cells:=rx.2.1
 have lj:cy.length=ys.length*t.cells:=ry.2.1
 have h1:∀u∈cy,u.oneCell'=true:=ry.one
 have hle:xs.length+ys.length<=140737488355328:=Nat.le_trans (Nat.le_mul_of_pos_right _ (Nat.pos_of_ne_zero jR)) hbound
 have oK:xs.length+ys.length<=maxLen:=by simp only[maxLen];omega
 obtain⟨A,c,rfl,hA,RK⟩:=RP
 cases A with
 |none=>
  have lB:=hA rfl
  subst lB
  have BW:cy=[]:=List.eq_nil_of_length_eq_zero (by simpa using lj)
  subst BW
  rcases bm with⟨rfl,hn⟩|⟨g,cap,cur,rfl,hg,vh,oN,di,how⟩
  ·refine⟨.slice none 0 0,X.w,?_,.same rfl rfl rfl,fun _=>by simp [hn]⟩
   simp [Builtin.append_,run_underlying hu,sizeOf,typeInfo,hi,Builtin.lenOf,Builtin.firstCells]
  ·refine⟨_,X.w,?_,.same rfl rfl rfl,fun e=>by cases e⟩
   simp [Builtin.append_,run_underlying hu,sizeOf,typeInfo,hi,Builtin.lenOf,Builtin.firstCells,vh,storeCells]
 |some ad=>
  have Cf:∀j u,cy[j]? =some u->X.w.cell? (ad.add j)=some u:=fun j u hj=>(RK ad rfl j u hj).2.1
  have fX:∀(old:Nat),(cx.toArray++cy.toArray++Builtin.zeroCells (cq t (zf t)).cells (grownCap X.w (xs.length+ys.length) old e-(xs.length+ys.length))).size=grownCap X.w (xs.length+ys.length) old e*t.cells/\
   (cx.toArray++cy.toArray++Builtin.zeroCells (cq t (zf t)).cells (grownCap X.w (xs.length+ys.length) old e-(xs.length+ys.length))).toList.take ((xs.length+ys.length)*t.cells)=cx++cy:=by
   intro old
   have B4:=grownCap_ge X.w (xs.length+ys.length) old e
   refine⟨?_,?_⟩
   ·simp only[Array.size_append,List.size_toArray,size_zeroCells,RZ,nF,lj,<-Nat.add_mul]
    congr 1
    omega
   ·have hl:(cx++cy).length=(xs.length+ys.length)*t.cells:=by rw[List.length_append,nF,lj,Nat.add_mul]
    rw[<-hl]
    simp only[Array.toList_append]
    exact List.take_left
  rcases bm with⟨rfl,hn⟩|⟨g,cap,cur,rfl,hg,vh,oN,di,how⟩
  ·have nA:cx=[]:=List.eq_nil_of_length_eq_zero (by rw[nF,hn,Nat.zero_mul])
   subst nA
   by_cases hm:ys.length=0
   ·have BW:cy=[]:=List.eq_nil_of_length_eq_zero (by rw[lj,hm,Nat.zero_mul])
    subst BW
    refine⟨.slice none 0 0,X.w,?_,.same rfl rfl rfl,fun _=>by omega⟩
    simp [Builtin.append_,run_underlying hu,sizeOf,typeInfo,hi,Builtin.lenOf,Builtin.firstCells,hm,loadCells,loadCellsFrom]
   ·have oY:xs.length=0:=hn
    rw[oY,Nat.zero_add] at hbound hle oK
    have hr:=run_append_nil (P:=P) X.w T ty e i (cq t (zf t)) hu hi hz ad ys.length c cy (by rw[bF];exact lj) Cf (by omega) (by omega) (by rw[cZ];omega)
    obtain⟨c1,c2⟩:=fX 0
    have B4:=grownCap_ge X.w (xs.length+ys.length) 0 e
    have oN:=grownCap_le_maxLen X.w (xs.length+ys.length) 0 e (by rw[oY,Nat.zero_add];exact oK)
    refine⟨_,_,hr,.new (grownCap X.w (xs.length+ys.length) 0 e) _ (by rw[oY,Nat.zero_add]) B4 oN ?_ c1 c2,fun e=>by cases e⟩
    rw[oY,Nat.zero_add]
    simp
  ·by_cases gM:xs.length+ys.length<=cap
   ·have b6:xs.length*i.size+cy.length<=cur.size:=by rw[bF,lj,di,<-Nat.add_mul];exact Nat.mul_le_mul_right _ gM
    have hr:=run_append_room (P:=P) X.w T ty e i hu hi g xs.length cap cur hg ad ys.length c cy (by rw[bF];exact lj) Cf h1 gM b6
    refine⟨_,_,hr,.room g cap cur _ ⟨_,rfl⟩ hg rfl gM oN rfl ?_ ?_,fun e=>by cases e⟩
    ·simp only[List.size_toArray,List.length_append,List.length_take,List.length_drop,Array.length_toList]
     omega
    ·have gO:cur.toList.take (xs.length*i.size)=cx:=by
      rw[bF]
      apply List.ext_getElem?
      intro q
      by_cases hq:q<xs.length*t.cells
      ·rw[List.getElem?_take,if_pos hq]
       have vz:=List.getElem?_eq_getElem (l:=cx) (i:=q) (by rw[nF];exact hq)
       have:=(sx g _ _ rfl q _ vz).2.1
       rw[zr,Nat.zero_add] at this
       simp only[World.cell?,hg] at this
       rw[vz]
       simpa using this
      ·rw[List.getElem?_eq_none (by rw[List.length_take];omega),List.getElem?_eq_none (by omega)]
     have hl:(cx++cy).length=(xs.length+ys.length)*t.cells:=by rw[List.length_append,nF,lj,Nat.add_mul]
     rw[gO,<-hl]
     simp only[List.take_left]
   ·have holds:∀j u,cx[j]? =some u->X.w.cell? ((⟨g,0,none⟩:Addr).add j)=some u:=fun j u hj=>(sx g _ _ rfl j u hj).2.1
    have hr:=run_append_grow (P:=P) X.w T ty e i (cq t (zf t)) hu hi hz ⟨g,0,none⟩ xs.length cap cx (by rw[bF];exact nF) holds ad ys.length c cy (by rw[bF];exact lj) Cf (by omega) (by omega) (growslice_fits (by omega) (by rw[cZ];exact hbound))
    obtain⟨c1,c2⟩:=fX cap
    exact⟨_,_,hr,.new _ _ rfl (grownCap_ge _ _ _ _) (grownCap_le_maxLen _ _ _ _ oK) rfl c1 c2,fun e=>by cases e⟩
theorem aV.BN{X:ak}{s:State}{pl:Place}{e:TypeId}{k n:Nat}{v:Value}(h:aV X pl e k n v)(hf:¬bP s pl)(q:Place):∃Y,cm s X Y/\aV Y q e k n v:=by
 rcases h with h|⟨g,cap,cur,h1,h2,h3,h4,h5,h6⟩
 ·exact⟨X,cm.refl s X,.inl h⟩
 ·refine⟨{X with ow:=fun g'=>if g'=g then .row q (n*k) else X.ow g'},⟨rfl,rfl,fun g'=> ?_⟩,.inr ⟨g,cap,cur,h1,h2,h3,h4,h5,by simp⟩⟩
  by_cases e:g'=g
  ·subst e;exact .inr ⟨pl,_,q,h6,hf,by simp⟩
  ·exact .inl (by simp [e])
theorem z139{R:Type}{t t':Ty}{x:El t'}{w:List (List Nat)}{K:El t->Option R}{z:R}(h:(SV.af t' x w).el t K=some z):∃he:t'.bE t=true,K (Ty.cast he x)=some z:=by
 simp only[SV.el] at h
 split at h
 ·rename_i he;exact⟨he,h⟩
 ·cases h
theorem Ur(hE:ah P E)(hr:Rel X s a){ops:List Oper}{cH:Array Operand}{ts:Array TypeId}(ho:o.op= .call ⟨.builtin .append,cH,ts⟩){C:FuncId->bg Out}(h:act E C ops o s some=some u):ay P X s a o u:=by
 unfold act at h
 simp only[ho] at h
 split at h
 case h_2=>cases h
 rename_i b x T U lA qP
 have has:cH= #[b,x]:=by rw[<-Array.toArray_toList (xs:=cH),lA]
 have jT:ts= #[T,U]:=by rw[<-Array.toArray_toList (xs:=ts),qP]
 subst has jT
 have hb:=hr.ax b
 have hx:=hr.ax x
 unfold wo at h
 split at h
 case isTrue=>cases h
 rename_i Nk
 have Nk:T=U:=by
  have:T.beq U=true:=by cases qQ:Nat.beq T U<;>simp_all
  exact Nat.eq_of_beq_eq_true this
 subst Nk
 split at h
 case h_2=>cases h
 rename_i e t hT
 split at h
 case isTrue=>cases h
 rename_i h0
 have h0:Nat.beq (E.bytes e) 0=false/\Nat.beq t.cells 0=false:=by
  cases h1:Nat.beq (E.bytes e) 0<;>cases h2:Nat.beq t.cells 0<;>simp_all
 have jR:E.bytes e≠0:=fun e0=>by rw[e0] at h0;simp at h0
 have hk:0<t.cells:=by
  rcases Nat.eq_zero_or_pos t.cells with e0|e0
  ·rw[e0] at h0;simp at h0
  ·exact e0
 have key:∀(xs ys:List (El t)) (cl:List (Nat×Nat)) (pl:Place),¬bP (s.close cl) pl->aV X pl e t.cells xs.length (a.eval b)->aN X (.sl e t) xs [a.eval b]->aN X (.sl e t) ys [a.eval x]->
  (xs.length+ys.length)*E.bytes e<=140737488355328->ay P X s a o {v:=[.af (.sl e t) (xs++ys:List (El t)) [[]]],cl:=cl}:=by
  intro xs ys cl pl sc bm rq gY hbound
  obtain⟨A1,c1,oW,pg⟩:=rq
  have e1:a.eval b= .slice A1 xs.length c1:=by simpa using oW
  obtain⟨A2,c2,vw,vN⟩:=gY
  have e2:a.eval x= .slice A2 ys.length c2:=by simpa using vw
  obtain⟨_,_,cx,rx,_,sx⟩:=FC (X:=X) (e:=e) (show aN X (.sl e t) xs [.slice A1 xs.length c1] from⟨A1,c1,rfl,pg⟩)
  obtain⟨_,_,cy,ry,ny,sy⟩:=FC (X:=X) (e:=e) (show aN X (.sl e t) ys [.slice A2 ys.length c2] from⟨A2,c2,rfl,vN⟩)
  have N5:∀g m c,a.eval b= .slice (some ⟨g,0,none⟩) m c->∀(i:Nat) v,cx[i]? =some v->X.au ((⟨g,0,none⟩:Addr).add i) v:=by
   intro g m c hv
   rw[e1] at hv
   injection hv with hA
   exact sx _ hA
  obtain⟨v',w',aQ,Rg,ll⟩:=UD (ty:=o.type) hE hT hk jR bm rx N5 ry ⟨A2,c2,e2,ny,sy⟩ hbound
  have nF:cx.length=xs.length*t.cells:=rx.2.1
  have lj:cy.length=ys.length*t.cells:=ry.2.1
  have vr:(execOp a.eval o).run P X.w= .ok (.value v') w':=by
   simp only[execOp,ho,resolve,invoke,builtin,Sem.run_bind,Sem.run_pure,Result.andThen_ok,List.map_toArray,List.map_cons,List.map_nil,aQ]
  have fin:∀(Y:ak),Y.w=w'->Mod (s.close cl) X Y->aN Y (.arr (xs.length+ys.length) t) (xs++ys:List (El t)) (cx++cy)->aV Y (.c (o.dst.getD 0) 0 []) e t.cells (xs.length+ys.length) v'->
   aN Y (.sl e t) (xs++ys:List (El t)) [v']->ay P X s a o {v:=[.af (.sl e t) (xs++ys:List (El t)) [[]]],cl:=cl}:=by
   intro Y hY hm dp Rp q6
   refine⟨Y,v',.inl (by rw[hY];exact vr),hm.ext,((hr.close cl).mod hm).fin ⟨[v'],q6,rfl,Qi ?_⟩ (fun id t p rZ=>by simp at rZ)⟩
   rw[List.length_append]
   exact Rp
  cases Rg with
  |same h1 h2 h3=>
   subst h2
   have RU:ys=[]:=by
    have:ys.length=0:=by
     rcases Nat.mul_eq_zero.1 (show ys.length*t.cells=0 by rw[<-lj,h3];rfl) with h|h
     ·exact h
     ·omega
    exact List.eq_nil_of_length_eq_zero this
   subst RU
   obtain⟨Y,gm,QT⟩:=aV.BN (s:=s.close cl) bm sc (.c (o.dst.getD 0) 0 [])
   refine fin Y (by rw[gm.w,h1]) gm.mod ?_ (by simpa using QT) ?_
   ·have:=(si rx ry)
    exact this.aj (fun _ _=>gm.au.1)
   ·rw[List.append_nil]
    exact aN.aj (fun _ _=>gm.au.1) (show aN X (.sl e t) xs [a.eval b] from⟨A1,c1,oW,pg⟩)
  |new cap cY hv hn hm hw hs ht=>
   let Y:ak:=⟨w',fun g=>if g=X.w.heap.size then .row (.c (o.dst.getD 0) 0 []) ((xs.length+ys.length)*t.cells) else X.ow g,X.β⟩
   have nE:cQ (s.close cl) X Y:=⟨by simp [Y,hw],by simp only[Y,hw];rfl,by simp only[Y,hw];rfl,by simp only[Y,hw];rfl,fun g hg=>⟨by simp only[Y];rw[if_neg (by omega)],by simp only[Y,hw];exact RowKit.Below.heap_alloc _ _ _ hg⟩,rfl,fun _ _ _=>rfl⟩
   have aF:Y.w.heap[X.w.heap.size]? =some (.cells cY e (0,0)):=by simp only[Y,hw];exact heap_alloc_new X.w.drew _
   have how:Y.ow X.w.heap.size= .row (.c (o.dst.getD 0) 0 []) ((xs.length+ys.length)*t.cells):=by simp [Y]
   have aJ:=(si rx ry).aj (fun _ _=>nE.au)
   refine fin Y rfl nE.mod aJ (.inr ⟨_,cap,cY,hv,aF,hn,hm,hs,how⟩) ?_
   rw[hv,<-List.length_append]
   exact z85 (cs:=cx++cy) aF (by rw[List.length_append];exact how) (by rw[List.length_append];exact ht) (by rw[List.length_append];exact aJ) (by rw[List.length_append];exact hn)
  |room g cap cur cY oM hg hv hn hm hw hs ht=>
   obtain⟨m,qR⟩:=oM
   rcases bm with⟨hz,_⟩|⟨g',nr,uQ,lz,rW,vh,oN,di,how⟩
   ·rw[hz] at qR;cases qR
   have qX:g'=g:=by rw[qR] at lz;injection lz with h1;injection h1 with h1;injection h1 with h1;exact h1.symm
   subst qX
   have BV:uQ=cur:=by rw[hg] at rW;cases rW;rfl
   subst BV
   have aK:=sA hg
   let Y:ak:=⟨w',fun k=>if k=g' then .row (.c (o.dst.getD 0) 0 []) ((xs.length+ys.length)*t.cells) else X.ow k,X.β⟩
   have aF:Y.w.heap[g']? =some (.cells cY e (0,0)):=by simp only[Y,hw];exact setRow_heap X.w g' uQ cY e (0,0) hg
   have iv:Y.ow g'= .row (.c (o.dst.getD 0) 0 []) ((xs.length+ys.length)*t.cells):=by simp [Y]
   have oU:∀ad v,X.au ad v->Y.au ad v:=by
    intro ad v fc
    by_cases heq:ad.block=g'
    ·obtain⟨k1,k2,k3⟩:=fc
     rw[heq,how] at k3
     have k3:ad.off<xs.length*t.cells:=k3
     have had:ad=(⟨g',0,none⟩:Addr).add ad.off:=by rw[zr,Nat.zero_add];cases ad;simp_all
     have vz:=List.getElem?_eq_getElem (l:=cx) (i:=ad.off) (by rw[nF];exact k3)
     have nA:=(N5 g' _ _ qR ad.off _ vz).2.1
     rw[<-had,k2] at nA
     refine⟨k1,?_,?_⟩
     ·have hq:cY.toList[ad.off]? =some v:=by
       have:=congrArg (fun l=>l[ad.off]?) ht
       simp only[List.getElem?_take] at this
       have hle:xs.length*t.cells<=(xs.length+ys.length)*t.cells:=Nat.mul_le_mul_right _ (Nat.le_add_right _ _)
       rw[if_pos (by omega),List.getElem?_append_left (by rw[nF];exact k3),vz] at this
       rw[this];exact nA.symm
      simp only[World.cell?,heq,aF,k1]
      simpa using hq
     ·rw[heq,iv]
      have hle:xs.length*t.cells<=(xs.length+ys.length)*t.cells:=Nat.mul_le_mul_right _ (Nat.le_add_right _ _)
      show ad.off<_
      omega
    ·refine⟨fc.1,?_,?_⟩
     ·have:=fc.2.1
      simp only[World.cell?,Y,hw] at this⊢
      rw[setRow_other X.w g' ad.block cY heq]
      exact this
     ·simp only[Y]
      rw[if_neg heq]
      exact fc.2.2
   have qZ:Mod (s.close cl) X Y:=⟨oU,by simp [Y,hw],by simp only[Y,hw];rfl,by simp only[Y,hw];rfl,by simp only[Y,hw];rfl,rfl,fun _ _ _=>rfl,fun k hk=>by
    by_cases heq:k=g'
    ·subst heq;exact .inr ⟨pl,_,how,sc⟩
    ·refine .inl ⟨by simp only[Y];rw[if_neg heq],?_⟩
     simp only[Y,hw]
     exact setRow_other X.w g' k cY heq⟩
   have aJ:=(si rx ry).aj oU
   refine fin Y rfl qZ aJ (.inr ⟨_,cap,cY,hv,aF,hn,hm,hs,iv⟩) ?_
   rw[hv,<-List.length_append]
   exact z85 (cs:=cx++cy) aF (by rw[List.length_append];exact iv) (by rw[List.length_append];exact ht) (by rw[List.length_append];exact aJ) (by rw[List.length_append];exact hn)
 split at h
 ·rename_i fa
  rw[fa] at hb
  obtain⟨ys,h,lB⟩:=zi h
  cases hd:decide (List.length ys*E.bytes e<=140737488355328) with
  |false=>rw[hd] at h;cases h
  |true=>
   rw[hd] at h
   cases h
   obtain⟨cs,gY,ev⟩:=lB X _ _ hx
   have qR:a.eval b= .slice none 0 0:=hb
   have lm:cs=[a.eval x]:=by
    obtain⟨A,c,di,_⟩:=gY
    rw[ev,di];rfl
   have:=key [] ys [] (.r 0 []) (fun hf=>hf) (.inl ⟨qR,rfl⟩) (by rw[qR];exact⟨none,0,rfl,Nat.le_refl _,fun j x hj=>by simp at hj⟩) (by rw[<-lm];exact gY) (by simpa using of_decide_eq_true hd)
   simpa using this
 ·rename_i t' N6 nN fa
  rw[fa] at hb
  split at h
  case isTrue=>cases h
  rename_i uY
  have uY:hN nN []=true:=by cases qQ:hN nN []<;>simp_all
  obtain⟨heq,h⟩:=z139 h
  have:=Ty.aH heq
  subst this
  obtain⟨ys,h,lB⟩:=zi h
  cases hd:decide ((List.length (Ty.cast heq N6)+List.length ys)*E.bytes e<=140737488355328) with
  |false=>rw[hd] at h;cases h
  |true=>
   rw[hd] at h
   cases h
   obtain⟨cs,gY,ev⟩:=lB X _ _ hx
   have eO:=UW uY
   obtain⟨i,rfl⟩:=D1 fa (fun e=>by rw[e] at eO;cases eO)
   obtain⟨QO,r1,QR,hO⟩:=hb
   have lm:cs=[a.eval x]:=by
    obtain⟨A,c,di,_⟩:=gY
    rw[ev,di];rfl
   have oR:QO=[a.eval (.tmp i)]:=by
    obtain⟨A,c,di,_⟩:=r1
    rw[QR,di];rfl
   obtain⟨e',t'',xs',v',_,g1,g2,g3⟩:=hO [] eO
   simp only[El.get,Option.some.injEq,Sigma.mk.injEq,Ty.sl.injEq] at g1
   obtain⟨⟨rfl,rfl⟩,g1⟩:=g1
   cases g1
   have lz:v'=a.eval (.tmp i):=by
    rw[oR] at g2
    simpa [Ty.off] using g2.symm
   rw[lz] at g3
   exact key N6 ys [(i,0)] (.c i 0 []) bP.close g3 (by rw[<-oR];exact r1) (by rw[<-lm];exact gY) (of_decide_eq_true hd)
 ·cases h
end Go.Ref

namespace Go.Ref
open Go
variable {P:Program} {E:Env} {X:ak} {s:State} {a:Act} {o:Oper} {u:Out}
def ak.obj(X:ak)(r:Nat)(b:Obj):ak:={X with w:={X.w with heap:=X.w.heap.setIfInBounds r b}}
theorem wb{r g:Nat}{b:Obj}(h:g≠r):(X.obj r b).w.heap[g]? =X.w.heap[g]? :=by
 simp [ak.obj,Ne.symm h]
theorem PI{r:Nat}{b b':Obj}(h:X.w.heap[r]? =some b'):(X.obj r b).w.heap[r]? =some b:=(MapKept.heap_set h).1
theorem rF{r id:Nat}{b:Obj}(h:X.ow r= .box id){ad:Addr}{v:Value}(hs:X.au ad v):(X.obj r b).au ad v:=by
 have bV:ad.block≠r:=fun e=>by
  have:=hs.2.2
  rw[e,h] at this
  exact this
 refine⟨hs.1,?_,hs.2.2⟩
 have:=hs.2.1
 simp only[World.cell?] at this⊢
 rw[wb bV]
 exact this
theorem Qh{r id:Nat}{b:Obj}(h:X.ow r= .box id):Ext X (X.obj r b) where
 au:=fun _ _=>rF h
 size:=by simp [ak.obj]
 os:=rfl
 tape:=rfl
 output:=rfl
 β0:=rfl
 still:=fun g _ bL=>by
  have bV:g≠r:=fun e=>by rw[e,h] at bL;exact bL
  exact⟨rfl,wb bV⟩
theorem aV.obj{r id:Nat}{b:Obj}(h:X.ow r= .box id){pl:Place}{e:TypeId}{k n:Nat}{v:Value}(ho:aV X pl e k n v):aV (X.obj r b) pl e k n v:=by
 rcases ho with ho|⟨g,cap,cur,h1,h2,h3,h4,h5,h6⟩
 ·exact .inl ho
 ·have bV:g≠r:=fun e=>by rw[e,h] at h6;cases h6
  exact .inr ⟨g,cap,cur,h1,(wb bV).trans h2,h3,h4,h5,h6⟩
theorem aU.obj{r id:Nat}{b:Obj}(h:X.ow r= .box id){pl:List Nat->Place}{t:Ty}{x:El t}{c:List Value}{own:List (List Nat)}(ho:aU X pl t x c own):aU (X.obj r b) pl t x c own:=fun p hp=>by
 obtain⟨e,t',xs,v,g0,g1,g2,g3⟩:=ho p hp
 exact⟨e,t',xs,v,g0,g1,g2,g3.obj h⟩
theorem ar.obj{r id:Nat}{b:Obj}(h:X.ow r= .box id){pl:List Nat->Place}{sv:SV}{v:Value}(hr:ar X pl sv v):ar (X.obj r b) pl sv v:=by
 cases sv with
 |af t x own=>
  obtain⟨c,h1,h2,h3⟩:=hr
  exact⟨c,h1.aj (fun _ _=>rF h),h2,h3.obj h⟩
 |view t x=>
  obtain⟨ad,c,h1,h2,h3,h4⟩:=hr
  exact⟨ad,c,h1,h2,h3.aj (fun _ _=>rF h),fun i u hi=>rF h (h4 i u hi)⟩
 |cap f t x u y=>exact l9 (fun _ _=>rF h) hr
 |_=>exact hr
theorem Rel.obj{r id:Nat}{B B':aX}{b:Obj}(hr:Rel X s a)(hb:s.bs[id]? =some (some B))(hβ:X.β id=some r)(h:X.ow r= .box id)(hB:bd (X.obj r b) id r B'):Rel (X.obj r b) (s.aC (some (id,B'))) a where
 size:=hr.size
 dP:=by simpa [State.aC] using hr.dP
 bh:=fun i l v hl hv=>(hr.bh i l v hl hv).fk fun j sv u hm fc=>fc.obj h
 boxes:=fun bu B2 b9=>by
  have aK:id<s.bs.length:=(List.getElem?_eq_some_iff.1 hb).1
  simp only[State.aC,List.getElem?_set] at b9
  by_cases e:id=bu
  ·subst e
   rw[if_pos rfl,if_pos aK] at b9
   cases b9;exact⟨r,hβ,hB⟩
  ·rw[if_neg e] at b9
   obtain⟨r',h1,h4,h2⟩:=hr.boxes bu B2 b9
   have bV:r'≠r:=fun e2=>by rw[e2,h] at h4;cases h4;exact e rfl
   exact⟨r',h1,h4,h2.move (fun _ _=>rF h) (wb bV) (fun cs h5=>h5.obj h) fun _ g o ho hw=>⟨(wb (fun e3=>by rw[e3,h] at hw;cases hw)).trans ho,hw⟩⟩
 live:=fun i l bu t p hi hm=>by
  have aK:id<s.bs.length:=(List.getElem?_eq_some_iff.1 hb).1
  obtain⟨B2,b9⟩:=hr.live i l bu t p hi hm
  simp only[State.aC,List.getElem?_set]
  by_cases e:id=bu
  ·subst e;exact⟨B',by rw[if_pos rfl,if_pos aK]⟩
  ·rw[if_neg e];exact⟨B2,b9⟩
 defers:=hr.defers
def ak.fo(X:ak)(b:Obj)(w:Ow)(β:Nat->Option Nat):ak:={w:=X.w.alloc b,ow:=fun g=>if g=X.w.heap.size then w else X.ow g,β}
theorem O8(X:ak)(s:State)(b:Obj)(w:Ow)(β:Nat->Option Nat)(hβ0:β 0=X.β 0)(hβ:∀(id:Nat) B,s.bs[id]? =some (some B)->β id=X.β id):cQ s X (X.fo b w β) where
 size:=by simp [ak.fo]
 os:=rfl
 tape:=rfl
 output:=rfl
 hJ:=fun g hg=>⟨by simp only[ak.fo];rw[if_neg (by omega)],RowKit.Below.heap_alloc _ _ _ hg⟩
 β0:=hβ0
 β:=hβ
theorem Hb(hr:Rel X s a){t p:Ty}{x:El t}{b:Obj}{v:Value}(aQ:(execOp a.eval o).run P X.w= .ok (.value v) (X.w.alloc b))
 (uZ:∀Y:ak,(∀ad v,X.au ad v->Y.au ad v)->Y.w.heap[X.w.heap.size]? =some b->∀pl,ci Y X.w.heap.size pl t x []) (lq:iA p [] X.w.heap.size v) (h:eX s o.dst t x p some=some u):ay P X s a o u:=by
 unfold eX at h
 split at h
 case h_2=>cases h
 rename_i d hd
 split at h
 case h_2=>cases h
 rename_i hb
 cases h
 let β:Nat->Option Nat:=fun id=>if id=d+1 then some X.w.heap.size else X.β id
 have aK:d+1<s.bs.length:=(List.getElem?_eq_some_iff.1 hb).1
 have hk:cQ s X (X.fo b (.box (d+1)) β):=O8 X _ _ _ _ (by show(if _ then _ else _)=_;rw[if_neg (by omega)]) (fun id B hB=>by
  show(if id=d+1 then _ else _)=_
  rw[if_neg (fun e=>by rw[e,hb] at hB;cases hB)])
 have bA:bd (X.fo b (.box (d+1)) β) (d+1) X.w.heap.size ⟨t,x,[]⟩:=⟨by simp [ak.fo],uZ _ (fun _ _=>hk.au) (heap_alloc_new X.w _) _⟩
 have hβd:β (d+1)=some X.w.heap.size:=by show(if d+1=d+1 then _ else _)=_;rw[if_pos rfl]
 have dp:=(hr.cj hk).dB aK hb hβd bA
 refine⟨X.fo b (.box (d+1)) β,v,.inl aQ,hk.ext,?_⟩
 rw[hd]
 refine dp.put (fun d' e=> ?_) (fun id t' q hm=> ?_)
 ·cases e
  exact⟨X.w.heap.size,hβd,lq⟩
 ·have:id=d+1:=by have:=hm;simp at this;exact this.1
  subst this
  exact⟨⟨t,x,[]⟩,by simp [State.aC,List.getElem?_set,aK]⟩
def eU:(t:Ty)->El t->Value
 | .bool,b=> .bool b
 | .int k,n=> .int k n
 | .str,x=> .string x
 |_,_=>Go.undef
def Ty.dK:Ty->Bool
 | .bool| .int _| .str=>true
 |_=>false
theorem HF{t:Ty}(hk:t.dK=true){x:El t}{v:Value}(h:ct X t x v):v=eU t x:=by
 obtain⟨cs,h1,h2⟩:=h
 cases t<;>simp [Ty.dK] at hk
 ·rw[h2,mg h1];rfl
 ·rw[h2,zv h1];rfl
 ·rw[h2,zz h1];rfl
theorem Qz{T:TypeId}{t:Ty}(hE:ah P E)(hT:E.ty T=some t)(hk:t.dK=true)(x:El t):∃d,P.underlying T=some d/\MapKept.IsKey d (eU t x)/\∀y,Instr.sameNow d (eU t x) (eU t y)=some (fh t x y):=by
 have hu:=(hE.ty T t hT).b8
 cases t<;>simp [Ty.dK] at hk
 ·have hu:P.underlying T=some .bool:=hu
  exact⟨_,hu,trivial,fun y=>by cases x<;>cases y<;>rfl⟩
 ·have hu:P.underlying T=some (.int _):=hu
  refine⟨_,hu,by simp [MapKept.IsKey,eU],fun y=> ?_⟩
  simp only[Instr.sameNow,eU,if_true,fh]
  congr 1
 ·have hu:P.underlying T=some .string:=hu
  refine⟨_,hu,trivial,fun y=> ?_⟩
  simp only[Instr.sameNow,eU,fh]
  congr 1
  by_cases e:x=y
  ·rw[decide_eq_true e];exact(MapKept.bytes_beq _ _).2 e
  ·rw[decide_eq_false e]
   cases hb:(x==y) with
   |false=>rfl
   |true=>exact absurd ((MapKept.bytes_beq _ _).1 hb) e
theorem Pz{kt vt:Ty}{d:TypeDesc}{k:El kt}(hk:kt.dK=true)(hs:∀y,Instr.sameNow d (eU kt k) (eU kt y)=some (fh kt k y)):∀(es:List MapEntry) (xs:List (El kt×El vt)) (i:Nat),es.length=xs.length->
 (∀(i:Nat) q e,xs[i]? =some q->es[i]? =some e->ct X kt q.1 e.key/\ct X vt q.2 e.val)->
 (dU (fh kt) xs k=false/\dT (fh kt) (El.bj vt) xs k=El.bj vt/\Instr.findNow d (eU kt k) es i=some none)\/(dU (fh kt) xs k=true/\∃j v,Instr.findNow d (eU kt k) es i=some (some (j,v))/\ct X vt (dT (fh kt) (El.bj vt) xs k) v)
 | [],[],i,_,_=> .inl ⟨rfl,rfl,rfl⟩
 |e::es,q::xs,i,hl,hp=>by
  obtain⟨h1,h2⟩:=hp 0 q e rfl rfl
  have Rn:=HF hk h1
  have jo:=hs q.1
  rw[<-Rn] at jo
  simp only[Instr.findNow,jo,dU,dT]
  cases heq:fh kt k q.1 with
  |true=>exact .inr ⟨rfl,i,e.val,rfl,h2⟩
  |false=>exact Pz hk hs es xs (i+1) (by simpa using hl) (fun i q e hq he=>hp (i+1) q e (by simpa using hq) (by simpa using he))
 | [],_::_,_,hl,_=>by simp at hl
 |_::_,[],_,hl,_=>by simp at hl
theorem OI:∀{t:Ty},t.dA=true->t.depth<=2
 | .unit,_=>by decide
 | .pair (.int _) b,h=>by
   have:=OI (t:=b) h
   simp only[Ty.depth];omega
theorem Qd:∀{t:Ty},t.dA=true->∀x y:El t,cf t x y=some (lU t x y)
 | .unit,_,_,_=>rfl
 | .pair (.int _) b,h,x,y=>by
   have:=Qd (t:=b) h x.2 y.2
   simp only[cf,this,lU]
theorem eJ(hE:ah P E){xs:Array Value}(w:World)(em:Bool)(n:Nat):
 ∀(fl:List Field) (t:Ty) (off:Nat),zo E fl t off->t.dA=true->∀(x:El t) (c1:List Value),aN X t x c1->(xs.toList.drop off).take t.cells=c1->
  (forIn fl () fun(f:Field) (_:Unit)=>(if f.name≠ "_" then do
    let __do_lift<-part f.type xs f.offset
    Instr.checkKey em (n+1) f.type __do_lift
    pure (ForInStep.yield ()) else pure (ForInStep.yield ()):Sem (ForInStep Unit))).run P w= .ok () w:=by
 intro fl
 induction fl with
 |nil=>intro t off hf hi x c1 h1 h3;simp [List.forIn_nil]
 |cons f fl CA=>
  intro t off hf hi x c1 h1 h3
  cases t<;>simp only[zo] at hf<;>try exact hf.elim
  rename_i ta tb
  obtain⟨ho,sd,hn,cM⟩:=hf
  obtain⟨ca,cb,e1,ra,rb⟩:=h1
  have la:=ra.len
  have t1:(xs.toList.drop off).take ta.cells=ca:=by
   have:=congrArg (fun l=>l.take ta.cells) (h3.trans e1)
   simp only[List.take_take,Ty.cells] at this
   rw[Nat.min_eq_left (Nat.le_add_right _ _),<-la,List.take_left] at this
   rw[<-la];exact this
  have u1:(xs.toList.drop (off+ta.cells)).take tb.cells=cb:=by
   have:=congrArg (fun l=>l.drop ta.cells) (h3.trans e1)
   simp only[Ty.cells] at this
   rw[List.drop_take,Nat.add_sub_cancel_left,List.drop_drop,<-la,List.drop_left] at this
   rw[<-la];exact this
  have iw:=rG hE sd ra (all:=xs) (off:=f.offset) (by rw[ho];exact t1) w
  cases ta<;>simp [Ty.dA] at hi
  rename_i k
  have hu:P.underlying f.type=some (.int k):=(hE.ty f.type _ sd).b8
  have rT:(Instr.checkKey em (n+1) f.type (cq (.int k) ca)).run P w= .ok () w:=by
   rw[zv ra]
   exact MapKept.run_checkKey hu (by simp [MapKept.IsKey]) em n
  rw[List.forIn_cons]
  simp only[hn,ne_eq,not_false_eq_true,if_true,Sem.run_bind,iw,rT,Result.andThen_ok,Sem.run_pure]
  exact CA tb _ cM hi x.2 cb rb u1
theorem O9{T:TypeId}{t:Ty}(hE:ah P E)(hT:E.ty T=some t)(hk:t.isKey=true){x:El t}{v:Value}(h:ct X t x v)(em:Bool)(w:World):(Instr.checkKey em 10000 T v).run P w= .ok () w:=by
 cases h1:t.dK with
 |true=>
  obtain⟨d,hd,wX,_⟩:=Qz hE hT h1 x
  rw[HF h1 h]
  exact MapKept.run_checkKey hd wX em 9999
 |false=>
  have hu:=(hE.ty T t hT).b8
  cases t<;>simp [Ty.isKey,Ty.dK] at hk h1
  rename_i ta tb
  obtain⟨fs,eB,eR,w8,_⟩:=hu
  obtain⟨cs,hr,rfl⟩:=h
  rw[zm rfl]
  unfold Instr.checkKey
  simp only[Sem.run_bind,run_underlying eB,Result.andThen_ok]
  rw[<-Array.forIn_toList]
  have:=eJ (X:=X) hE (xs:=cs.toArray) w em 9998 fs.toList (.pair ta tb) 0 eR hk x cs hr (by have:=hr.len;simp only[List.drop_zero];rw[<-this];exact List.take_length)
  exact(congrArg (fun r=>Result.andThen r (fun a w'=>Sem.run P (pure ()) w')) this).trans (by simp)
theorem On(hE:ah P E){T:TypeId}{kt vt:Ty}(hT:E.ty T=some kt)(hk:kt.dA=true){k:El kt}{v:Value}(h:ct X kt k v)(w:World):∀(es:List MapEntry) (xs:List (El kt×El vt)) (i:Nat),es.length=xs.length->
 (∀(i:Nat) q e,xs[i]? =some q->es[i]? =some e->ct X kt q.1 e.key/\ct X vt q.2 e.val)->
 (dU (lU kt) xs k=false/\dT (lU kt) (El.bj vt) xs k=El.bj vt/\(Instr.findAsking T v es i).run P w= .ok none w)\/(dU (lU kt) xs k=true/\∃j u,(Instr.findAsking T v es i).run P w= .ok (some (j,u)) w/\ct X vt (dT (lU kt) (El.bj vt) xs k) u)
 | [],[],i,_,_=> .inl ⟨rfl,rfl,by simp [Instr.findAsking]⟩
 |e::es,q::xs,i,hl,hp=>by
  obtain⟨h1,h2⟩:=hp 0 q e rfl rfl
  obtain⟨c1,r1,rfl⟩:=h
  obtain⟨c2,r2,e2⟩:=h1
  have heq:(Op.equal T (cq kt c1) e.key).run P w= .ok (lU kt k q.1) w:=by
   rw[e2]
   exact O4 (X:=X) hE w 10000 kt T hT (Nat.le_trans (OI hk) (by decide)) k q.1 c1 c2 _ r1 r2 (Qd hk k q.1)
  unfold Instr.findAsking
  simp only[Sem.run_bind,heq,Result.andThen_ok,dU,dT]
  cases heq:lU kt k q.1 with
  |true=>exact .inr ⟨rfl,i,e.val,by simp,h2⟩
  |false=>exact On hE hT hk ⟨c1,r1,rfl⟩ w es xs (i+1) (by simpa using hl) (fun i q e hq he=>hp (i+1) q e (by simpa using hq) (by simpa using he))
 | [],_::_,_,hl,_=>by simp at hl
 |_::_,[],_,hl,_=>by simp at hl
theorem PC(hE:ah P E){T:TypeId}{kt vt:Ty}(hT:E.ty T=some kt)(hk:kt.isKey=true){k:El kt}{v:Value}(h:ct X kt k v)(w:World)(es:List MapEntry)(xs:List (El kt×El vt))(hl:es.length=xs.length)
 (hp:∀(i:Nat) q e,xs[i]? =some q->es[i]? =some e->ct X kt q.1 e.key/\ct X vt q.2 e.val):
 (dU (fh kt) xs k=false/\dT (fh kt) (El.bj vt) xs k=El.bj vt/\(Instr.findKey T v es).run P w= .ok none w)\/(dU (fh kt) xs k=true/\∃j u,(Instr.findKey T v es).run P w= .ok (some (j,u)) w/\ct X vt (dT (fh kt) (El.bj vt) xs k) u):=by
 cases h1:kt.dK with
 |true=>
  obtain⟨d,hd,wX,jo⟩:=Qz hE hT h1 k
  rw[HF h1 h]
  rcases Pz (X:=X) h1 jo es xs 0 hl hp with⟨g1,g2,g3⟩|⟨g1,j,u,g3,g4⟩
  ·exact .inl ⟨g1,g2,MapKept.run_findKey hd g3⟩
  ·exact .inr ⟨g1,j,u,MapKept.run_findKey hd g3,g4⟩
 |false=>
  have hu:=(hE.ty T kt hT).b8
  cases kt<;>simp [Ty.isKey,Ty.dK] at hk h1
  rename_i ta tb
  obtain⟨fs,eB,_⟩:=hu
  have e:=run_findKey_eq (P:=P) w (k:=T) (by rw[eB]) v es
  have:=On (X:=X) hE hT hk h w es xs 0 hl hp
  rw[e]
  exact this
theorem OM{T:TypeId}{kt vt:Ty}(hE:ah P E)(h:gR E T=some (kt,vt)):∃k e,P.underlying T=some (.map k e)/\E.ty k=some kt/\E.ty e=some vt/\kt.isKey=true:=by
 unfold gR at h
 split at h
 case h_2=>cases h
 rename_i k e hm
 split at h
 case h_2=>cases h
 rename_i CB DE h1 h2
 split at h
 case isFalse=>cases h
 rename_i hk
 cases h
 exact⟨k,e,hE.mp T k e hm,h1,h2,hk⟩
theorem Ot{m:Operand}{kt vt:Ty}{R:Type}{K:Nat->List (El kt×El vt)->Option R}{z:R}(hr:Rel X s a)(h:ml s (s.ax m) kt vt K=some z):
 ∃id B r xs,K id xs=some z/\s.bs[id]? =some (some B)/\X.β id=some r/\X.ow r= .box id/\a.eval m= .map (some r)/\∃es clock,X.w.heap[r]? =some (.map es clock)/\es.size=xs.length/\
  ∀(i:Nat) (q:El kt×El vt) (e:MapEntry),xs[i]? =some q->es[i]? =some e->ct X kt q.1 e.key/\ct X vt q.2 e.val:=by
 have hx:=hr.ax m
 unfold ml at h
 split at h
 case h_2=>cases h
 rename_i id CB DE hm
 rw[hm] at hx
 obtain⟨r,hβ,hv⟩:=hx
 split at h
 case isFalse=>cases h
 split at h
 case h_2=>cases h
 rename_i B hB
 split at h
 case isFalse=>cases h
 rename_i dh
 have hb:=ke hB
 obtain⟨r',h1,h2,h3⟩:=hr.boxes id B hb
 rw[hβ] at h1
 cases h1
 refine⟨id,B,r,_,h,hb,hβ,h2,hv,?_⟩
 obtain⟨bt,bx,bo⟩:=B
 have e:=Ty.aH dh
 simp only at e
 subst e
 exact h3
theorem Uh(hE:ah P E)(hr:Rel X s a){ops:List Oper}{T:TypeId}{rs:Option Operand}(ho:o.op= .makeMap T rs){C:FuncId->bg Out}(h:act E C ops o s some=some u):ay P X s a o u:=by
 unfold act at h
 cases rs with
 |some r=>simp only[ho] at h;cases h
 |none=>
  simp only[ho] at h
  split at h
  case h_2=>cases h
  rename_i kt vt hm
  refine Hb hr (t:= .aP .mp kt vt) (p:= .aP .mp kt vt) (x:=([]:List (El kt×El vt))) (b:= .map #[] 0) (v:= .map (some X.w.heap.size)) ?_ (fun Y _ hY pl=>⟨#[],0,hY,rfl,fun i q e hq=>by simp at hq⟩) rfl h
  simp [execOp,ho,Instr.makeMap]
theorem Ut(hE:ah P E)(hr:Rel X s a){ops:List Oper}{T:TypeId}{x i:Operand}{ok:Bool}(ho:o.op= .lookup T x i ok){C:FuncId->bg Out}(h:act E C ops o s some=some u):ay P X s a o u:=by
 unfold act at h
 cases ok with
 |true=>simp only[ho] at h;cases h
 |false=>
  simp only[ho] at h
  unfold fD at h
  split at h
  case h_2=>cases h
  rename_i kt vt hm
  obtain⟨k,e,hu,hk,he,ld⟩:=OM hE hm
  obtain⟨id,B,r,xs,h,hb,hβ,how,hv,es,clock,aF,dq,cT⟩:=Ot hr h
  obtain⟨key,h,B7⟩:=zi h
  cases h
  obtain⟨ck,rk,Nd⟩:=B7 X _ _ (hr.ax i)
  have rT:=O9 hE hk ld (X:=X) (x:=key) ⟨ck,rk,Nd⟩ es.isEmpty X.w
  rcases PC (X:=X) hE hk ld (k:=key) ⟨ck,rk,Nd⟩ X.w es.toList xs (by simpa using dq) (fun i q e hq he=>cT i q e hq (by simpa using he)) with⟨g1,g2,hf⟩|⟨g1,j,v,hf,g4⟩
  ·rw[g2]
   have hz:=xA (P:=P) hE he X.w
   refine ay.plain hr (v:=cq vt (zf vt)) ?_ (rK (lQ X vt)) (fun _ _ _ e'=>by cases e')
   simp only[execOp,ho,Sem.run_bind,Instr.lookup,run_underlying hu,Result.andThen_ok,hv,MapKept.run_getObj_map aF,Sem.run_pure,rT,hf,hz,Bool.false_eq_true,if_false]
  ·obtain⟨cv,rv,ev⟩:=g4
   refine ay.plain hr (v:=v) ?_ ⟨cv,rv,ev,zw⟩ (fun _ _ _ e'=>by cases e')
   simp only[execOp,ho,Sem.run_bind,Instr.lookup,run_underlying hu,Result.andThen_ok,hv,MapKept.run_getObj_map aF,Sem.run_pure,rT,hf,Bool.false_eq_true,if_false]
theorem Px(hE:ah P E)(hr:Rel X s a){T:TypeId}{m k x:Operand}(ho:(execOp a.eval o).run P X.w=((Instr.mapUpdate T (a.eval m) (a.eval k) (a.eval x)).run P X.w).andThen fun _ w=> .ok .skip w)(h:gi E T s (s.ax m) (s.ax k) (s.ax x) some=some u):ay P X s a o u:=by
 unfold gi at h
 split at h
 case h_2=>cases h
 rename_i kt vt hm
 obtain⟨kT,eT,hu,hk,he,ld⟩:=OM hE hm
 obtain⟨id,B,r,xs,h,hb,hβ,how,hv,es,clock,aF,dq,cT⟩:=Ot hr h
 obtain⟨key,h,B7⟩:=zi h
 obtain⟨y,h,RV⟩:=zi h
 obtain⟨ck,rk,qN⟩:=B7 X _ _ (hr.ax k)
 obtain⟨cy,ry,BM⟩:=RV X _ _ (hr.ax x)
 have rT:=O9 hE hk ld (X:=X) (x:=key) ⟨ck,rk,qN⟩ false X.w
 rcases PC (X:=X) hE hk ld (k:=key) ⟨ck,rk,qN⟩ X.w es.toList xs (by simpa using dq) (fun i q e hq he=>cT i q e hq (by simpa using he)) with⟨g1,g2,hf⟩|⟨g1,j,v,hf,g4⟩
 ·rw[g1] at h
  cases h
  let new:Obj:= .map (es.push {key:=a.eval k,val:=a.eval x,born:=clock}) (clock+1)
  have aQ:(execOp a.eval o).run P X.w= .ok .skip (X.obj r new).w:=by
   rw[ho]
   simp only[Instr.mapUpdate,Sem.run_bind,run_underlying hu,Result.andThen_ok,hv,MapKept.run_getObj_map aF,rT,hf,MapKept.run_setObj_map _ aF]
   simp only[new]
   rfl
  have bA:bd (X.obj r new) id r ⟨.aP .mp kt vt,(xs++ [(key,y)]:List (El kt×El vt)),[]⟩:=by
   refine⟨how,es.push {key:=a.eval k,val:=a.eval x,born:=clock},clock+1,PI aF,by simp [dq],fun i q e hq he=> ?_⟩
   have hs:∀ad v,X.au ad v->(X.obj r new).au ad v:=fun _ _=>rF how
   have hq:(xs++ [(key,y)])[i]? =some q:=hq
   rw[List.getElem?_append] at hq
   rw[Array.getElem?_push] at he
   split at hq
   ·rename_i aK
    rw[if_neg (by omega)] at he
    obtain⟨j1,j2⟩:=cT i q e hq he
    exact⟨j1.mono hs,j2.mono hs⟩
   ·rename_i aK
    have hi:i-xs.length=0:=by
     have:=(List.getElem?_eq_some_iff.1 hq).1
     simp at this
     omega
    rw[hi] at hq
    cases hq
    rw[if_pos (by omega)] at he
    cases he
    exact⟨ct.mono hs ⟨ck,rk,qN⟩,ct.mono hs ⟨cy,ry,BM⟩⟩
  exact⟨X.obj r new,Go.undef,.inr ⟨aQ,rfl⟩,Qh how,(hr.obj hb hβ how bA).skip o.dst⟩
 ·rw[g1] at h
  cases h
theorem Ob(hE:ah P E)(hr:Rel X s a){ops:List Oper}{T:TypeId}{m k x:Operand}(ho:o.op= .mapUpdate T m k x\/o.op= .insert T m k x){C:FuncId->bg Out}(h:act E C ops o s some=some u):ay P X s a o u:=by
 unfold act at h
 rcases ho with ho|ho
 ·simp only[ho] at h
  exact Px hE hr (by simp [execOp,ho]) h
 ·simp only[ho] at h
  exact Px hE hr (by simp [execOp,ho]) h
theorem UQ(hE:ah P E)(hr:Rel X s a){ops:List Oper}{T:TypeId}{x:Operand}(ho:o.op= .range T x){C:FuncId->bg Out}(h:act E C ops o s some=some u):ay P X s a o u:=by
 unfold act at h
 simp only[ho] at h
 split at h
 case h_2=>cases h
 rename_i hT
 obtain⟨y,h,hy⟩:=zi h
 obtain⟨cs,ry,ev⟩:=hy X _ _ (hr.ax x)
 rw[zz ry] at ev
 have hu:=(hE.ty T _ hT).b8
 refine Hb hr (t:=eS) (p:=eS) (x:=((y,0):ByteArray×Nat)) (b:= .stringIter y 0) (v:= .pointer (some ⟨X.w.heap.size,0,none⟩)) ?_ (fun Y _ hY pl=>hY) ⟨rfl,trivial⟩ h
 simp [execOp,ho,Instr.range,run_underlying hu,ev]
theorem WO(hr:Rel X s a){ops:List Oper}{x:Operand}{str:Bool}(ho:o.op= .next x str){C:FuncId->bg Out}(h:act E C ops o s some=some u):ay P X s a o u:=by
 unfold act at h
 cases str with
 |false=>simp only[ho] at h;cases h
 |true=>
  simp only[ho] at h
  unfold fF at h
  have hx:=hr.ax x
  split at h
  case h_2=>cases h
  rename_i id hm
  rw[hm] at hx
  obtain⟨r,hβ,hv,_⟩:=hx
  split at h
  case h_2=>cases h
  rename_i B hB
  split at h
  case isFalse=>cases h
  rename_i dh
  have hb:=ke hB
  obtain⟨r',h1,how,h3⟩:=hr.boxes id B hb
  rw[hβ] at h1
  cases h1
  have aF:X.w.heap[r]? =some (.stringIter (Ty.cast dh B.x:ByteArray×Nat).1 (Ty.cast dh B.x:ByteArray×Nat).2):=by
   obtain⟨bt,bx,bo⟩:=B
   have e:=Ty.aH dh
   simp only at e
   subst e
   exact h3
  generalize(Ty.cast dh B.x:ByteArray×Nat)=q at*
  obtain⟨st,pos⟩:=q
  simp only at h aF
  have hv:a.eval x= .pointer (some ⟨r,0,none⟩):=by simpa [Ty.off] using hv
  have bN:(getObj r).run P X.w= .ok (.stringIter st pos) X.w:=by simp [getObj,Sem.run,aF]
  cases aK:decide (pos<st.size) with
  |false=>
   rw[aK] at h
   cases h
   have aK:=of_decide_eq_false aK
   refine ay.plain hr (sv:= .over) (v:= .tuple #[.bool false]) ?_ rfl (fun _ _ _ e'=>by cases e')
   simp only[execOp,ho,Sem.run_bind,Instr.next,hv,bN,Result.andThen_ok,if_neg aK,Sem.run_pure]
  |true=>
   rw[aK] at h
   cases h
   have aK:=of_decide_eq_true aK
   let new:Obj:= .stringIter st (pos+(Utf8.decode st pos).2)
   have c9:(setObj r new).run P X.w= .ok () (X.obj r new).w:=by simp [setObj,Sem.run,aF,ak.obj]
   have bA:bd (X.obj r new) id r ⟨eS,((st,pos+(Utf8.decode st pos).2):ByteArray×Nat),[]⟩:=⟨how,PI aF⟩
   have dp:=hr.obj hb hβ how bA
   refine⟨X.obj r new,.tuple #[.bool true,.int .i64 pos,.int .i32 (Utf8.decode st pos).1],.inl ?_,Qh how,?_⟩
   ·simp only[execOp,ho,Sem.run_bind,Instr.next,hv,bN,Result.andThen_ok,if_pos aK,Sem.run_pure]
    simp only[new] at c9
    rw[c9]
    rfl
   ·refine dp.put (fun d' e=>⟨_,rfl,rfl,fun j sv v hj hv=> ?_⟩) (fun id t' q hm=>by simp at hm)
    match j with
    |0=>cases hj;cases hv;exact zp
    |1=>cases hj;cases hv;exact zk
    |2=>cases hj;cases hv;exact zk
    |j+3=>simp at hj
theorem Zh{t:Ty}{k:Nat}(hk:(zf t).length=k)(n:Nat):((Array.range (n*k)).map fun i=>(zf t).toArray[i % (zf t).toArray.size]!).size=n*k/\
 ∀j,j<n->((((Array.range (n*k)).map fun i=>(zf t).toArray[i % (zf t).toArray.size]!).toList.drop (j*k)).take k)=zf t:=by
 refine⟨by simp,fun j hj=> ?_⟩
 apply List.ext_getElem?
 intro i
 rw[List.getElem?_take]
 split
 ·rename_i hi
  have aK:j*k+i<n*k:=by
   have:(j+1)*k<=n*k:=Nat.mul_le_mul_right _ hj
   rw[Nat.add_mul,Nat.one_mul] at this
   omega
  have qZ:(j*k+i)% k=i:=by rw[Nat.mul_comm,Nat.mul_add_mod,Nat.mod_eq_of_lt hi]
  rw[List.getElem?_drop,Array.getElem?_toList,Array.getElem?_map,Array.getElem?_range,if_pos aK]
  simp only[Option.map_some,List.size_toArray,hk,qZ]
  rw[List.getElem?_eq_getElem (by omega)]
  simp [getElem!_def,List.getElem?_eq_getElem (show i<(zf t).length by omega)]
 ·rename_i hi
  rw[List.getElem?_eq_none (by omega)]
theorem PE(hE:ah P E){T e:TypeId}{t:Ty}(hT:E.ty T=some (.sl e t))(hk:t.cells≠0)(jR:E.bytes e≠0){n m:Int}(hn:0<=n)(hnm:n<=m)(hb:m*E.bytes e<=140737488355328)(w:World):
 m.toNat<=maxLen/\∃cur,cur.size=m.toNat*t.cells/\(∀j,j<m.toNat->(cur.toList.drop (j*t.cells)).take t.cells=zf t)/\
  (Instr.makeSlice T (.int .i64 n) (.int .i64 m)).run P w= .ok (.slice (some ⟨w.heap.size,0,none⟩) n.toNat m.toNat) (w.alloc (.cells cur e)):=by
 obtain⟨hu,he⟩:=(hE.ty T _ hT).b8
 obtain⟨i,hi,bF,cZ,hz⟩:=(hE.ty e t he).info
 have hle:m<=m*E.bytes e:=by
  have h1:(1:Int)<=E.bytes e:=by omega
  have:=Int.mul_le_mul_of_nonneg_left h1 (show 0<=m by omega)
  simpa using this
 have rY:m.toNat<=maxLen:=by simp only[maxLen];omega
 have fX:(cq t (zf t)).cells=(zf t).toArray:=nX (X:=⟨w,fun _=> .all,fun _=>none⟩) (lQ _ t)
 obtain⟨z1,z2⟩:=Zh (l6 t) m.toNat
 refine⟨rY,(Array.range (m.toNat*t.cells)).map (fun i=>(zf t).toArray[i % (zf t).toArray.size]!),z1,z2,?_⟩
 have xa:IntKind.i64.wrap n=n:=by simp [IntKind.wrap,IntKind.signed,IntKind.bits];omega
 have l4:IntKind.i64.wrap m=m:=by simp [IntKind.wrap,IntKind.signed,IntKind.bits];omega
 have hmul:(i.bytes:Int)*m<=2^48:=by rw[cZ,Int.mul_comm];omega
 have c1:¬m<0:=by omega
 have c2:¬(281474976710656:Int)<(i.bytes:Int)*m:=by omega
 have c3:¬n<0:=by omega
 have c4:¬m<n:=by omega
 have QV:∀(n:Int) (w:World),(asInt (.int .i64 n)).run P w= .ok n w:=fun n w=>by simp [asInt,asIntOf]
 have RL:∀w:World,(typeInfo e).run P w= .ok i w:=fun w=>by simp [typeInfo,hi]
 have eA:∀w:World,(sizeOf e).run P w= .ok t.cells w:=fun w=>zl hE he w
 have R0:∀w:World,(zeroValue e).run P w= .ok (cq t (zf t)) w:=fun w=>xA hE he w
 simp only[Instr.makeSlice,Sem.run_bind,run_underlying hu,Result.andThen_ok,QV,RL,xa,l4]
 by_cases h0:m.toNat*t.cells=0
 ·simp [c1,c2,c3,c4,eA,h0,newRow]
  rw[show Array.range 0= #[] from rfl]
  simp
 ·simp [c1,c2,c3,c4,eA,h0,R0,fX,newRow]
theorem T6(hE:ah P E)(hr:Rel X s a){ops:List Oper}{T:TypeId}{l c:Operand}(ho:o.op= .makeSlice T l c){C:FuncId->bg Out}(h:act E C ops o s some=some u):ay P X s a o u:=by
 unfold act at h
 simp only[ho] at h
 unfold fE at h
 split at h
 case h_2=>cases h
 rename_i e t hT
 split at h
 ·cases h
 rename_i bV
 have jR:E.bytes e≠0:=fun e0=>bV (by rw[e0];rfl)
 have hk:t.cells≠0:=fun e0=>bV (by rw[e0];simp)
 obtain⟨n,h,hn⟩:=zi h
 obtain⟨m,h,hm⟩:=zi h
 obtain⟨_,rn,en⟩:=hn X _ _ (hr.ax l)
 rw[zv rn] at en
 obtain⟨_,rm,em⟩:=hm X _ _ (hr.ax c)
 rw[zv rm] at em
 cases hc:Qe l with
 |true=>
  rw[hc] at h
  simp only[cond_true] at h
  cases d1:decide (n=0)<;>rw[d1] at h<;>simp only[cond_true,cond_false] at h
  ·cases h
  cases d2:decide (0<=m)<;>rw[d2] at h<;>simp only[cond_true,cond_false] at h
  ·cases h
  cases d3:decide (m*E.bytes e<=140737488355328)<;>rw[d3] at h<;>simp only[cond_true,cond_false] at h
  ·cases h
  cases h
  have d1:=of_decide_eq_true d1
  have d2:=of_decide_eq_true d2
  have d3:=of_decide_eq_true d3
  subst d1
  obtain⟨rY,cur,g1,g2,aQ⟩:=PE (P:=P) hE hT hk jR (n:=0) (m:=m) (by omega) d2 d3 X.w
  have nE:cQ s X (X.fo (.cells cur e) (.row (.c (o.dst.getD 0) 0 []) 0) X.β):=O8 X _ _ _ _ rfl (fun _ _ _=>rfl)
  refine⟨X.fo (.cells cur e) (.row (.c (o.dst.getD 0) 0 []) 0) X.β,.slice (some ⟨X.w.heap.size,0,none⟩) 0 m.toNat,.inl ?_,nE.ext,(hr.cj nE).fin ⟨[.slice (some ⟨X.w.heap.size,0,none⟩) 0 m.toNat],⟨_,_,rfl,Nat.zero_le _,fun j x hj=>by simp at hj⟩,rfl,fun p hp=> ?_⟩ (fun id t p hm=>by simp at hm)⟩
  ·simp only[execOp,ho,Sem.run_bind,en,em,aQ,Result.andThen_ok,Sem.run_pure]
   rfl
  ·have hp:p=[]:=by simpa using hp
   subst hp
   refine⟨e,t,[],_,by simp [Ty.cS],rfl,rfl,.inr ⟨X.w.heap.size,m.toNat,cur,rfl,heap_alloc_new X.w _,Nat.zero_le _,rY,g1,?_⟩⟩
   simp [ak.fo]
 |false=>
  rw[hc] at h
  simp only[cond_false] at h
  cases d1:decide (n=m)<;>rw[d1] at h<;>simp only[cond_true,cond_false] at h
  ·cases h
  cases d2:decide (0<=n)<;>rw[d2] at h<;>simp only[cond_true,cond_false] at h
  ·cases h
  cases d3:decide (n*E.bytes e<=140737488355328)<;>rw[d3] at h<;>simp only[cond_true,cond_false] at h
  ·cases h
  have d1:=of_decide_eq_true d1
  have d2:=of_decide_eq_true d2
  have d3:=of_decide_eq_true d3
  have d1:m=n:=d1.symm
  subst d1
  obtain⟨rY,cur,g1,g2,aQ⟩:=PE (P:=P) hE hT hk jR (n:=m) (m:=m) d2 (Int.le_refl _) d3 X.w
  refine Hb hr (t:= .aP .row t .unit) (p:= .aP (.ey m.toNat) t .unit) (x:=(List.replicate m.toNat (El.bj t):List (El t))) (b:= .cells cur e) (v:= .slice (some ⟨X.w.heap.size,0,none⟩) m.toNat m.toNat) ?_ (fun Y _ hY pl=>⟨cur,e,hY,?_,fun j x hj=> ?_⟩) ⟨_,rfl,Nat.le_refl _⟩ h
  ·simp only[execOp,ho,Sem.run_bind,en,em,aQ,Result.andThen_ok,Sem.run_pure]
  ·rw[g1];show _=List.length (List.replicate _ _)*_;rw[List.length_replicate]
  ·have hj:(List.replicate m.toNat (El.bj t))[j]? =some x:=hj
   rw[List.getElem?_replicate] at hj
   split at hj
   ·rename_i aK
    cases hj
    rw[g2 j aK]
    exact lQ Y t
   ·cases hj
end Go.Ref

