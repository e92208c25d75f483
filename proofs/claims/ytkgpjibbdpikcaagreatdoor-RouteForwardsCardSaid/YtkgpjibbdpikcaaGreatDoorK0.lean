/- No condition. -/
import Derived.Orders
import Derived.Below
import Derived.Maps.AppendAt
import Derived.WalkKit
import Derived.Lib.AppendStr
import Derived.Shelf.Strings.BuilderF
import Derived.WideKeyRuns
import Derived.MapKept
set_option linter.unusedVariables false
set_option linter.unusedSimpArgs false
set_option maxRecDepth 100000
namespace Go.Ref
open Go
structure sU(T e:TypeId)(b:Nat)(v:Value)(bs:List Value)(w:World):Prop where
 mz:w.heap[b]? =some (.cells #[.pointer none,v] T (0,0))\/w.heap[b]? =some (.cells #[.pointer (some ⟨b,0,none⟩),v] T (0,0))
 own:w.ownsRow 0 e 1 v bs.length bs
 ne:v.ownBlock≠some b
theorem sU.lt{T e:TypeId}{b:Nat}{v:Value}{bs:List Value}{w:World}(h:sU T e b v bs w):b<w.heap.size:=by
 rcases Nat.lt_or_ge b w.heap.size with h'|h'
 ·exact h'
 ·rcases h.mz with h|h<;>simp [Array.getElem?_eq_none h'] at h
theorem sU.same{T e:TypeId}{b:Nat}{v:Value}{bs:List Value}{w w':World}(h:sU T e b v bs w)(hb:w'.heap[b]? =w.heap[b]?)(hg:∀g o,v.ownBlock=some g->w.heap[g]? =some o->w'.heap[g]? =some o):sU T e b v bs w':=by
 refine⟨by rw[hb];exact h.mz,⟨h.own.1,?_⟩,h.ne⟩
 rcases h.own.2 with hn|⟨g,cap,cur,hv,h0,Af,rest⟩
 ·exact .inl hn
 ·exact .inr ⟨g,cap,cur,hv,h0,hg g _ (by rw[hv];rfl) Af,rest⟩
inductive Sx where
 |iter
 |mp
 |row
 |fU (n:Nat)
 |fF (T e:Nat)
 |own
 |qc (f:Nat)
 deriving DecidableEq,Inhabited
@[reducible] def tY:Sx->Type->Type->Type
  | .iter,_,_=>ByteArray×Nat
  | .mp,a,b=>List (a×b)
  | .row,a,_=>List a
  | .fU _,_,_=>Unit
  | .fF _ _,_,_=>ByteArray
  | .own,a,_=>Option a
  | .qc _,_,_=>Unit
def tY.bM:(k:Sx)->(a b:Type)->tY k a b
 | .iter,_,_=>((⟨#[]⟩:ByteArray),(0:Nat))
 | .mp,_,_=>[]
 | .row,_,_=>[]
 | .fU _,_,_=>()
 | .fF _ _,_,_=>(⟨#[]⟩:ByteArray)
 | .own,_,_=>none
 | .qc _,_,_=>()
inductive Ty where
 |bool
 |int (k:IntKind)
 |str
 |sl (e:TypeId) (t:Ty)
 |arr (n:Nat) (t:Ty)
 |unit
 |pair (a b:Ty)
 |aV (k:Sx) (a b:Ty)
 deriving Inhabited
@[reducible] def El:Ty->Type
  | .bool=>Bool
  | .int _=>Int
  | .str=>ByteArray
  | .sl _ t=>List (El t)
  | .arr _ t=>List (El t)
  | .unit=>Unit
  | .pair a b=>El a×El b
  | .aV k a b=>tY k (El a) (El b)
def El.bM:(t:Ty)->El t
 | .bool=>false
 | .int _=>(0:Int)
 | .str=>(⟨#[]⟩:ByteArray)
 | .sl _ _=>[]
 | .arr n t=>List.replicate n (El.bM t)
 | .unit=>()
 | .pair a b=>(El.bM a,El.bM b)
 | .aV k a b=>tY.bM k (El a) (El b)
def Ty.ci:Ty->Ty->Bool
 | .bool,.bool=>true
 | .str,.str=>true
 | .unit,.unit=>true
 | .int j,.int k=>decide (j=k)
 | .sl e t,.sl f u=>Nat.beq e f&&Ty.ci t u
 | .arr n t,.arr m u=>Nat.beq n m&&Ty.ci t u
 | .pair a b,.pair c d=>Ty.ci a c&&Ty.ci b d
 | .aV k a b,.aV j c d=>decide (k=j)&&(Ty.ci a c&&Ty.ci b d)
 |_,_=>false
theorem Ty.aK:∀{t u:Ty},t.ci u=true->t=u:=by
 intro t
 induction t with
 |bool=>intro u h;cases u<;>simp_all [Ty.ci]
 |int k=>intro u h;cases u<;>simp_all [Ty.ci]
 |str=>intro u h;cases u<;>simp_all [Ty.ci]
 |unit=>intro u h;cases u<;>simp_all [Ty.ci]
 |sl e t ih=>
  intro u h
  cases u<;>simp [Ty.ci] at h
  obtain⟨h1,h2⟩:=h
  rw[ih h2,h1]
 |arr e t ih=>
  intro u h
  cases u<;>simp [Ty.ci] at h
  obtain⟨h1,h2⟩:=h
  rw[ih h2,h1]
 |pair a b kM kN=>
  intro u h
  cases u<;>simp [Ty.ci] at h
  rw[kM h.1,kN h.2]
 |aV k a b kM kN=>
  intro u h
  cases u<;>simp [Ty.ci] at h
  rw[h.1,kM h.2.1,kN h.2.2]
theorem Ty.bN:∀t:Ty,t.ci t=true
 | .bool=>rfl
 | .str=>rfl
 | .unit=>rfl
 | .int k=>by simp [Ty.ci]
 | .sl e t=>by simp [Ty.ci,Ty.bN t]
 | .arr e t=>by simp [Ty.ci,Ty.bN t]
 | .pair a b=>by simp [Ty.ci,Ty.bN a,Ty.bN b]
 | .aV k a b=>by simp [Ty.ci,Ty.bN a,Ty.bN b]
def Ty.cast{t u:Ty}(h:t.ci u=true)(x:El t):El u:=Ty.aK h▸x
def Ty.cells:Ty->Nat
 | .arr n t=>n*t.cells
 | .unit=>0
 | .pair a b=>a.cells+b.cells
 | .aV _ _ _=>0
 |_=>1
def Ty.agg:Ty->Bool
 | .arr .. | .unit| .pair .. | .aV .. =>true
 |_=>false
def Ty.at_:Ty->List Nat->Option Ty
 |t,[]=>some t
 | .arr _ t,_::p=>t.at_ p
 | .pair a _,0::p=>a.at_ p
 | .pair _ b,(j+1)::p=>b.at_ (j::p)
 |_,_=>none
def Ty.off:Ty->List Nat->Nat
 |_,[]=>0
 | .arr _ t,i::p=>i*t.cells+t.off p
 | .pair a _,0::p=>a.off p
 | .pair a b,(j+1)::p=>a.cells+b.off (j::p)
 |_,_=>0
def El.get:(t:Ty)->List Nat->El t->Option ((u:Ty)×El u)
 |t,[],x=>some ⟨t,x⟩
 | .arr _ t,i::p,xs=>El.get t p (xs.getD i (El.bM t))
 | .pair a _,0::p,x=>El.get a p x.1
 | .pair _ b,(j+1)::p,x=>El.get b (j::p) x.2
 |_,_::_,_=>none
def El.set:(t:Ty)->List Nat->El t->(u:Ty)->El u->Option (El t)
 |t,[],_,u,y=>if h:u.ci t=true then some (Ty.cast h y) else none
 | .arr _ t,i::p,xs,u,y=>(El.set t p (xs.getD i (El.bM t)) u y).map fun z=>List.set xs i z
 | .pair a _,0::p,x,u,y=>(El.set a p x.1 u y).map fun z=>(z,x.2)
 | .pair _ b,(j+1)::p,x,u,y=>(El.set b (j::p) x.2 u y).map fun z=>(x.1,z)
 |_,_::_,_,_,_=>none
def Ty.eS:Ty->List Nat->Prop
 |_,[]=>True
 | .arr n t,i::p=>i<n/\t.eS p
 | .pair a _,0::p=>a.eS p
 | .pair _ b,(j+1)::p=>b.eS (j::p)
 |_,_=>False
inductive Place where
 |c (i j:Nat) (p:List Nat)
 |b (id:Nat) (p:List Nat)
 |r (j:Nat) (p:List Nat)
inductive Ow where
 |all
 |ro (n:Nat)
 |box (id:Nat)
 |row (pl:Place) (n:Nat)
def Ow.used:Ow->Nat->Prop
 | .all,_=>True
 | .ro n,o=>o<n
 | .box _,_=>False
 | .row _ n,o=>o<n
def Ow.still:Ow->Prop
 | .all| .ro _=>True
 |_=>False
structure aq where
 w:World
 ow:Nat->Ow
 β:Nat->Option Nat
def aq.aw(X:aq)(a:Addr)(v:Value):Prop:=a.spot=none/\X.w.cell? a=some v/\(X.ow a.block).used a.off
structure Ext(X Y:aq):Prop where
 aw:∀a v,X.aw a v->Y.aw a v
 size:X.w.heap.size<=Y.w.heap.size
 os:Y.w.os=X.w.os
 tape:Y.w.tape=X.w.tape
 output:Y.w.output=X.w.output
 β0:Y.β 0=X.β 0
 still:∀g,g<X.w.heap.size->(X.ow g).still->Y.ow g=X.ow g/\Y.w.heap[g]? =X.w.heap[g]?
theorem Ext.refl(X:aq):Ext X X:=⟨fun _ _ h=>h,Nat.le_refl _,rfl,rfl,rfl,rfl,fun _ _ _=>⟨rfl,rfl⟩⟩
theorem Ext.trans{X Y Z:aq}(h:Ext X Y)(k:Ext Y Z):Ext X Z:=
 ⟨fun a v hs=>k.aw a v (h.aw a v hs),Nat.le_trans h.size k.size,k.os.trans h.os,k.tape.trans h.tape,k.output.trans h.output,k.β0.trans h.β0,
  fun g hg ct=>by
   obtain⟨h1,h2⟩:=h.still g hg ct
   obtain⟨k1,k2⟩:=k.still g (Nat.lt_of_lt_of_le hg h.size) (by rw[h1];exact ct)
   exact⟨k1.trans h1,k2.trans h2⟩⟩
theorem aq.gJ{X:aq}{a:Addr}{v:Value}(h:X.aw a v):a.block<X.w.heap.size:=World.block_lt_of_cell? X.w a h.2.1
def aR(X:aq):(t:Ty)->El t->List Value->Prop
 | .bool,b,cs=>cs=[.bool b]
 | .int k,n,cs=>cs=[.int k n]
 | .str,s,cs=>cs=[.string s]
 | .sl _ t,xs,cs=>∃A c,cs=[.slice A xs.length c]/\xs.length<=c/\
    ∀j x,xs[j]? =some x->∃ad dU,A=some ad/\ad.spot=none/\aR X t x dU/\∀i v,dU[i]? =some v->X.aw (ad.add (j*t.cells+i)) v
 | .arr n t,xs,cs=>xs.length=n/\cs.length=n*t.cells/\∀j x,xs[j]? =some x->aR X t x ((cs.drop (j*t.cells)).take t.cells)
 | .unit,_,cs=>cs=[]
 | .pair a b,x,cs=>∃c1 c2,cs=c1++c2/\aR X a x.1 c1/\aR X b x.2 c2
 | .aV _ _ _,_,cs=>cs=[]
theorem aR.al{X Y:aq}(h:∀a v,X.aw a v->Y.aw a v):∀{t:Ty} {x:El t} {cs:List Value},aR X t x cs->aR Y t x cs
 | .bool,_,_,hr=>hr
 | .int _,_,_,hr=>hr
 | .str,_,_,hr=>hr
 | .unit,_,_,hr=>hr
 | .sl _ t,xs,cs,⟨A,c,h1,h2,h3⟩=>⟨A,c,h1,h2,fun j x hj=>by
    obtain⟨ad,dU,h4,h5,h6,h7⟩:=h3 j x hj
    exact⟨ad,dU,h4,h5,aR.al h h6,fun i v hi=>h _ _ (h7 i v hi)⟩⟩
 | .arr n t,xs,cs,⟨h1,h2,h3⟩=>⟨h1,h2,fun j x hj=>aR.al h (h3 j x hj)⟩
 | .pair a b,x,cs,⟨c1,c2,h1,h2,h3⟩=>⟨c1,c2,h1,aR.al h h2,aR.al h h3⟩
 | .aV _ _ _,_,_,hr=>hr
theorem aR.mono{X Y:aq}(h:Ext X Y){t:Ty}{x:El t}{cs:List Value}(hr:aR X t x cs):aR Y t x cs:=aR.al h.aw hr
theorem aR.len{X:aq}:∀{t:Ty} {x:El t} {cs:List Value},aR X t x cs->cs.length=t.cells
 | .bool,_,_,hr=>by cases hr;rfl
 | .int _,_,_,hr=>by cases hr;rfl
 | .str,_,_,hr=>by cases hr;rfl
 | .unit,_,_,hr=>by cases hr;rfl
 | .sl _ t,xs,cs,⟨A,c,h1,_⟩=>by cases h1;rfl
 | .arr n t,xs,cs,⟨h1,h2,h3⟩=>h2
 | .pair a b,x,cs,⟨c1,c2,h1,h2,h3⟩=>by rw[h1,List.length_append,h2.len,h3.len];rfl
 | .aV _ _ _,_,_,hr=>by cases hr;rfl
theorem Vn{cs:List Value}{n k:Nat}{u:Value}(hu:u∈cs)(hk:cs.length=n*k):∃j,j<n/\u∈(cs.drop (j*k)).take k:=by
 obtain⟨q,hq,rfl⟩:=List.mem_iff_getElem.1 hu
 have Gg:0<k:=by
  rcases Nat.eq_zero_or_pos k with h|h
  ·subst h;simp at hk;subst hk;simp at hq
  ·exact h
 refine⟨q/k,by rw[Nat.div_lt_iff_lt_mul Gg,<-hk];exact hq,?_⟩
 rw[List.mem_iff_getElem?]
 refine⟨q % k,?_⟩
 rw[List.getElem?_take,if_pos (Nat.mod_lt _ Gg),List.getElem?_drop,Nat.mul_comm,Nat.div_add_mod,List.getElem?_eq_getElem hq]
theorem aR.one{X:aq}:∀{t:Ty} {x:El t} {cs:List Value},aR X t x cs->∀u∈cs,u.oneCell'=true
 | .bool,_,_,hr,u,hu=>by cases hr;simp at hu;subst hu;rfl
 | .int _,_,_,hr,u,hu=>by cases hr;simp at hu;subst hu;rfl
 | .str,_,_,hr,u,hu=>by cases hr;simp at hu;subst hu;rfl
 | .unit,_,_,hr,u,hu=>by cases hr;simp at hu
 | .sl _ t,xs,cs,⟨A,c,h1,_⟩,u,hu=>by cases h1;simp at hu;subst hu;rfl
 | .arr n t,xs,cs,⟨h1,h2,h3⟩,u,hu=>by
   obtain⟨j,hj,hm⟩:=Vn hu h2
   exact aR.one (h3 j _ (List.getElem?_eq_getElem (by omega))) u hm
 | .pair a b,x,cs,⟨c1,c2,h1,h2,h3⟩,u,hu=>by
   rw[h1] at hu
   rcases List.mem_append.1 hu with hu|hu
   ·exact h2.one u hu
   ·exact h3.one u hu
 | .aV _ _ _,_,_,hr,u,hu=>by cases hr;simp at hu
end Go.Ref

namespace Go.Ref
open Go Go.Shelf Go.RowKit Go.Proofs
variable {P:Program} {ρ:Ren}
structure fE(b:Nat)(g:Option Nat)(w w':World):Prop where
 os:w'.os=w.os
 tape:w'.tape=w.tape
 output:w'.output=w.output
 size:w.heap.size<=w'.heap.size
 block:∀k,k<w.heap.size->k≠b->some k≠g->w'.heap[k]? =w.heap[k]?
theorem fE.of{b:Nat}{g:Option Nat}{w w':World}(h:w.grownBy w' g):fE b g w w':=⟨h.os,h.tape,h.output,h.size,fun k hk _ hg=>h.block k hk hg⟩
theorem fE.trans{b:Nat}{g:Option Nat}{u v w:World}(h:fE b g u v)(k:fE b g v w):fE b g u w:=
 ⟨k.os.trans h.os,k.tape.trans h.tape,k.output.trans h.output,Nat.le_trans h.size k.size,fun i hi h1 h2=>(k.block i (Nat.lt_of_lt_of_le hi h.size) h1 h2).trans (h.block i hi h1 h2)⟩
theorem fE.refl{b:Nat}{g:Option Nat}(w:World):fE b g w w:=⟨rfl,rfl,rfl,Nat.le_refl _,fun _ _ _ _=>rfl⟩
theorem fE.setCell{b:Nat}{g:Option Nat}(w:World)(a:Addr)(ha:a.block=b)(u:Value):fE b g w (w.setCell a u):=
 ⟨rfl,rfl,rfl,by simp [World.setCell],fun k _ hk _=>Below.heap_setCell _ _ _ _ (by rw[ha];exact hk)⟩
theorem Yr{w:World}(t u ty e:TypeId)(i:TypeInfo)(ht:P.underlying t=some (.slice e))(hu:P.underlying u=some .string)(hi:P.info? e=some i)(hz:i.zero=some (.int .u8 0))(cj:i.size=1)(mA:i.bytes=1)
 (v:Value) (n:Nat) (xs:List Value) (bP:w.ownsRow 0 e 1 v n xs) (s:ByteArray) (xw:n+s.size<=maxLen) (fh:n+s.size<=140737488355328) {v':Value} {w':World}
 (h:(Builtin.append_ #[t,u] ty #[v,.string s]).run P w= .ok v' w'):∀g,v'.ownBlock=some g->v.ownBlock=some g\/g=w.heap.size:=by
 have xO:xs.length=n:=by simpa using bP.1
 have sd:n+s.size<=9223372036854775807:=by simp only[maxLen] at xw;omega
 intro g0 Ae
 rcases bP.2 with⟨rfl,rfl⟩|⟨g,cap,cur,rfl,SR,hg,Gn,qg,dw,lY⟩
 ·by_cases hm:s.size=0
  ·have hf:=Lib.run_firstCells_string (P:=P) w 1 s
   rw[hm] at hf
   simp [Builtin.append_,run_underlying ht,run_underlying hu,sizeOf,typeInfo,hi,cj,Builtin.lenOf,hm,hf] at h
   rw[<-h.1] at Ae
   simp [Value.ownBlock] at Ae
  ·have hr:=run_append_nil_string (P:=P) w t u ty e i (.int .u8 0) ht hu hi hz s (by omega) (by omega) (by rw[mA];omega)
   rw[hr] at h
   cases h
   simp [Value.ownBlock] at Ae
   exact .inr Ae.symm
 ·by_cases lW:n+s.size<=cap
  ·have ag8:cur.size=cap:=by simpa using dw
   have hr:=Lib.run_append_room_string (P:=P) w t u ty e i ht hu hi cj g n cap cur hg s lW (by omega)
   rw[hr] at h
   cases h
   exact .inl Ae
  ·have holds:∀j u,xs[j]? =some u->w.cell? ((⟨g,0,none⟩:Addr).add j)=some u:=bP.cells (g:=g) rfl
   have hr:=Lib.run_append_grow_string (P:=P) w t u ty e i (.int .u8 0) ht hu hi hz ⟨g,0,none⟩ n cap xs (by rw[cj];simpa using xO) holds s (by omega) (by omega) (by rw[mA];exact growslice_fits (by omega) (by omega))
   rw[hr] at h
   cases h
   simp [Value.ownBlock] at Ae
   exact .inr Ae.symm
theorem W4{ops:Array Oper}{rest:List Oper}{o:Oper}{a:Act}{w:World}{Q:Exit->Act->World->Prop}(CP:o.guard=none)(sl x:Operand)(t u:TypeId)
 (ho:o.op= .call {callee:= .builtin .append,args:= #[sl,x],argTypes:= #[t,u]})
 (e:TypeId) (i:TypeInfo) (ht:P.underlying t=some (.slice e)) (hu:P.underlying u=some .string) (hi:P.info? e=some i) (hz:i.zero=some (.int .u8 0))
 (cj:i.size=1) (mA:i.bytes=1)
 (v:Value) (n:Nat) (xs:List Value) (hs:a.eval sl=v) (bP:w.ownsRow 0 e 1 v n xs) (s:ByteArray) (hx:a.eval x= .string s)
 (xw:n+s.size<=maxLen) (fh:n+s.size<=140737488355328)
 (h:∀v' w',w'.ownsRow 0 e 1 v' (n+s.size) (xs++Lib.strCells s)->w.grownBy w' v.ownBlock->(∀g,v'.ownBlock=some g->v.ownBlock=some g\/g=w.heap.size)->wpList P ops Q rest (a.put o.dst v') w'):wpList P ops Q (o::rest) a w:=by
 refine wpList_plain CP fun K hK=> ?_
 obtain⟨v',w',hr,h2,h3,h4⟩:=Lib.run_append_own_string (P:=P) w 0 t u o.type e i ht hu hi hz cj mA v n xs bP s xw fh (Nat.zero_le _)
 unfold Oper.wp execOp
 simp only[ho,resolve,invoke,builtin,Sem.run_bind,Sem.run_pure,Result.andThen_ok,List.map_toArray,List.map_cons,List.map_nil,hs,hx,hr]
 exact hK _ _ (h v' w' h2 h3 (Yr t u o.type e i ht hu hi hz cj mA v n xs bP s xw fh hr))
theorem YB(L:Lays.n240 P ρ)(X:Builder.X72 P ρ)(b:Nat)(v:Value)(bs:List Value)(w:World)(h:sU (ρ.t 72) (ρ.t 5) b v bs w):
 Calls P (ρ.f 240) #[.pointer (some ⟨b,0,none⟩)] w fun e w'=>e= .returned (.tuple #[])/\(w'.heap[b]? =some (.cells #[.pointer (some ⟨b,0,none⟩),v] (ρ.t 72) (0,0))/\w'.ownsRow 0 (ρ.t 5) 1 v bs.length bs)/\(fE b none w w'/\w'.heap.size=w.heap.size):=by
 rcases h.mz with hb|hb
 ·have hA:Lib.BuilderAt (ρ.t 72) (ρ.t 5) 0 b (.pointer none) bs w:=⟨Nat.zero_le _,v,hb,h.own,h.ne⟩
  refine(Any.Builder_copyCheck_fresh L X b w hA.cell0 hA.shape hA.frozen0).mono ?_
  rintro e w' ⟨rfl,rfl⟩
  have hu:=hA.used (.pointer (some ⟨b,0,none⟩))
  obtain⟨_,v',zV,lT,_⟩:=hu
  have hv:v'=v:=by
   have:(w.setCell ⟨b,0,none⟩ (.pointer (some ⟨b,0,none⟩))).heap[b]? =some (.cells #[.pointer (some ⟨b,0,none⟩),v] (ρ.t 72) (0,0)):=heap_setCell_same w b 0 _ _ _ hb
   rw[zV] at this
   simp at this
   exact this
  subst hv
  exact⟨rfl,⟨zV,lT⟩,fE.setCell w ⟨b,0,none⟩ rfl _,by simp [World.setCell]⟩
 ·have hA:Lib.BuilderAt (ρ.t 72) (ρ.t 5) 0 b (.pointer (some ⟨b,0,none⟩)) bs w:=⟨Nat.zero_le _,v,hb,h.own,h.ne⟩
  refine(Any.Builder_copyCheck_used L X b w hA.cell0).mono ?_
  rintro e w' ⟨rfl,rfl⟩
  exact⟨rfl,⟨hb,h.own⟩,fE.refl _,rfl⟩
set_option maxHeartbeats 2000000 in
set_option maxRecDepth 100000 in
theorem YC(L:Lays.n166 P ρ)(X:Builder.Extra P ρ)(b:Nat)(v0:Value)(bs:List Value)(s:ByteArray)(w:World)(h:sU (ρ.t 72) (ρ.t 5) b v0 bs w)(hlen:bs.length+s.size<=140737488355328):
 Calls P (ρ.f 166) #[.pointer (some ⟨b,0,none⟩),.string s] w fun e w'=>e= .returned (.tuple #[.int .i64 s.size,.nilIface])/\∃v',sU (ρ.t 72) (ρ.t 5) b v' (bs++Lib.strCells s) w'/\fE b v0.ownBlock w w'/\∀g,v'.ownBlock=some g->v0.ownBlock=some g\/w.heap.size<=g:=by
 obtain⟨i0,hi,GM,Tx,Tz⟩:=info_parts X.infoByte
 have ap:=h.lt
 have mixed:=L.mixed
 have t72:=L.t72;have a72:=L.a72;have z72:=L.z72;have v72:=L.v72;have u72:=run_underlying L.t72
 have t70:=L.t70;have a70:=L.a70;have z70:=L.z70;have v70:=L.v70;have u70:=run_underlying L.t70
 have t37:=L.t37;have a37:=L.a37;have z37:=L.z37;have v37:=L.v37;have u37:=run_underlying L.t37
 have t3:=L.t3;have a3:=L.a3;have z3:=L.z3;have v3:=L.v3;have u3:=run_underlying L.t3
 have t9:=L.t9;have a9:=L.a9;have z9:=L.z9;have v9:=L.v9;have u9:=run_underlying L.t9
 have t4:=L.t4;have a4:=L.a4;have z4:=L.z4;have v4:=L.v4;have u4:=run_underlying L.t4
 have t164:=L.t164;have a164:=L.a164;have z164:=L.z164;have v164:=L.v164;have ahc:=run_underlying L.t164
 have t5:=X.t5;have a5:=X.a5;have z5:=X.z5;have v5:=X.v5;have u5:=run_underlying X.t5
 have ag6:∀args w,(callFunc (ρ.f 240) args).run P w= .ok (.enter (ρ.f 240) args) w:=enters_of L.f240 (by kernel_rfl) rfl
 go_enter L.f166,Body.n166_ntmps ρ
 go_wp2_with (go_at_fn (ρ.f 240);refine(YB {L with} X.toX72 b v0 bs _ h).mono ?_)
 rintro e w1 ⟨rfl,⟨uU,bP⟩,s4,GF⟩
 have cg:=h.ne
 have c0:w1.cell? ⟨b,0,none⟩=some (.pointer (some ⟨b,0,none⟩)):=by rw[Lib.cell_of_heap uU];rfl
 have c1:w1.cell? ⟨b,1,none⟩=some v0:=by rw[Lib.cell_of_heap uU];rfl
 go_wp2_with (at_builtin;refine W4 rfl _ _ (ρ.t 37) (ρ.t 9) rfl (ρ.t 5) i0 L.t37 L.t9 hi GM Tx Tz _ _ _ rfl bP s rfl ?c3 ?c4 ?_)
 case c3=>unfold maxLen;omega
 case c4=>omega
 intro v' w2 lT xF jP
 have m7:b<w1.heap.size:=by rw[GF];exact ap
 have qd:w2.heap[b]? =some (.cells #[.pointer (some ⟨b,0,none⟩),v0] (ρ.t 72) (0,0)):=by
  rw[xF.block b m7 (fun e=>cg e.symm)]
  exact uU
 have d0:w2.cell? ⟨b,0,none⟩=some (.pointer (some ⟨b,0,none⟩)):=by rw[Lib.cell_of_heap qd];rfl
 have d1:w2.cell? ⟨b,1,none⟩=some v0:=by rw[Lib.cell_of_heap qd];rfl
 have f1:w2.frozen? ⟨b,1,none⟩=false:=Lib.frozen_of_heap qd 1
 obtain⟨ao,n',cap,rfl⟩:∃ao n' cap,v'= .slice ao n' cap:=by
  rcases lT.2 with⟨hv,_⟩|⟨g,cap,cur,hv,_⟩
  ·exact⟨_,_,_,hv⟩
  ·exact⟨_,_,_,hv⟩
 go_wp2
 go_ret2
 have Gp:(Value.slice ao n' cap).ownBlock≠some b:=fun e=>by
  rcases jP b e with h1|h1
  ·exact cg h1
  ·omega
 have fk:(w2.setCell ⟨b,1,none⟩ (.slice ao n' cap)).heap[b]? =some (.cells #[.pointer (some ⟨b,0,none⟩),.slice ao n' cap] (ρ.t 72) (0,0)):=heap_setCell_same w2 b 1 _ _ _ qd
 refine⟨rfl,_,⟨.inr fk,?_,Gp⟩,?_,fun g hg=> ?_⟩
 ·have hl:(bs++Lib.strCells s).length=bs.length+s.size:=by rw[List.length_append,Lib.strCells_length]
  rw[hl]
  refine⟨lT.1,?_⟩
  rcases lT.2 with hn|⟨g,uM,cur,hv,SR,hg,rest⟩
  ·exact .inl hn
  ·refine .inr ⟨g,uM,cur,hv,SR,?_,rest⟩
   rw[Below.heap_setCell _ _ _ _ (fun e=>Gp (by rw[hv,Value.ownBlock];exact congrArg some e))]
   exact hg
 ·refine fE.trans ⟨s4.os,s4.tape,s4.output,s4.size,fun k hk h1 h2=>s4.block k hk h1 (by simp)⟩ (fE.trans (fE.of xF) (fE.setCell w2 ⟨b,1,none⟩ rfl _))
 ·rcases jP g hg with h1|h1
  ·exact .inl h1
  ·exact .inr (by omega)
theorem fE.freeze{b:Nat}{g:Nat}(w:World)(a:Addr)(ha:a.block=g)(n:Nat):fE b (some g) w (w.freeze a n):=by
 unfold World.freeze
 split
 ·exact fE.refl _
 ·refine⟨rfl,rfl,rfl,by simp,fun k hk h1 h2=> ?_⟩
  simp only[Array.getElem?_modify]
  rw[if_neg]
  intro e
  exact h2 (by rw[<-e,ha])
theorem fE.drew{b:Nat}{g:Option Nat}(w:World):fE b g w w.drew:=⟨rfl,rfl,rfl,Nat.le_refl _,fun _ _ _ _=>rfl⟩
theorem fE.alloc{b:Nat}{g:Option Nat}(w:World)(o:Obj):fE b g w (w.alloc o):=⟨rfl,rfl,rfl,by simp,fun k hk _ _=>Below.heap_alloc _ _ _ hk⟩
set_option maxHeartbeats 2000000 in
set_option maxRecDepth 100000 in
theorem abX(L:Lays.n169 P ρ)(X:Builder.Extra P ρ)(b:Nat)(v0:Value)(l:List UInt8)(w:World)(h:sU (ρ.t 72) (ρ.t 5) b v0 (Lib.byteCells l) w):
 Calls P (ρ.f 169) #[.pointer (some ⟨b,0,none⟩)] w fun e w'=>e= .returned (.string ⟨l.toArray⟩)/\fE b v0.ownBlock w w':=by
 obtain⟨p,uU⟩:∃p,w.heap[b]? =some (.cells #[p,v0] (ρ.t 72) (0,0)):=by
  rcases h.mz with h|h
  ·exact⟨_,h⟩
  ·exact⟨_,h⟩
 have bP:=h.own
 have ap:=h.lt
 rw[Lib.byteCells_length] at bP
 have mixed:=L.mixed
 have t72:=L.t72;have a72:=L.a72;have z72:=L.z72;have v72:=L.v72;have u72:=run_underlying L.t72
 have t70:=L.t70;have a70:=L.a70;have z70:=L.z70;have v70:=L.v70;have u70:=run_underlying L.t70
 have t37:=L.t37;have a37:=L.a37;have z37:=L.z37;have v37:=L.v37;have u37:=run_underlying L.t37
 have t127:=L.t127;have a127:=L.a127;have z127:=L.z127;have v127:=L.v127;have ahb:=run_underlying L.t127
 have t3:=L.t3;have a3:=L.a3;have z3:=L.z3;have v3:=L.v3;have u3:=run_underlying L.t3
 have t9:=L.t9;have a9:=L.a9;have z9:=L.z9;have v9:=L.v9;have u9:=run_underlying L.t9
 have t5:=X.t5;have a5:=X.a5;have z5:=X.z5;have v5:=X.v5;have u5:=run_underlying X.t5
 rcases bP.2 with⟨rfl,hz⟩|⟨g,cap,cur,rfl,SR,hg,Gn,qg,dw,lY⟩
 ·have hl:l=[]:=List.eq_nil_of_length_eq_zero hz
  subst hl
  have SP:=Any.unsafeString_none L X
  have c1:w.drew.cell? ⟨b,1,none⟩=some (.slice none 0 0):=by
   have:w.drew.heap[b]? =some (.cells #[p,.slice none 0 0] (ρ.t 72) (0,0)):=uU
   rw[Lib.cell_of_heap this];rfl
  have SO:(Builtin.unsafeSliceData_ #[(ρ.t 37)] (ρ.t 127) #[.slice none 0 0]).run P w.drew= .ok (.pointer none) w.drew:=rfl
  go_enter L.f169,Body.n169_ntmps ρ
  go_wp2
  go_region_o
  all_goals(go_wp2;go_ret;exact⟨rfl,fE.drew w⟩)
 ·by_cases Gh:l.length=0
  ·have hl:l=[]:=List.eq_nil_of_length_eq_zero Gh
   subst hl
   by_cases SS:cap=0
   ·subst SS
    have SP:=Any.unsafeString_none L X
    have c1:w.drew.cell? ⟨b,1,none⟩=some (.slice (some ⟨g,0,none⟩) 0 0):=by
     have:w.drew.heap[b]? =some (.cells #[p,.slice (some ⟨g,0,none⟩) 0 0] (ρ.t 72) (0,0)):=uU
     rw[Lib.cell_of_heap this];rfl
    have SO:(Builtin.unsafeSliceData_ #[(ρ.t 37)] (ρ.t 127) #[.slice (some ⟨g,0,none⟩) 0 0]).run P w.drew= .ok (.pointer (some ⟨w.drew.heap.size,0,none⟩)) (w.drew.alloc (.view ⟨g,0,none⟩ (ρ.t 5))):=
     Lib.run_unsafeSliceData_zero w.drew _ _ (ρ.t 5) L.t127 ⟨g,0,none⟩ 0 ((ρ.t 5),cur.size) (by have CO:w.drew.heap[g]? =some (.cells cur (ρ.t 5) (0,0)):=hg;simp [World.shape?,CO])
    have c2:(w.drew.alloc (.view ⟨g,0,none⟩ (ρ.t 5))).cell? ⟨b,1,none⟩=some (.slice (some ⟨g,0,none⟩) 0 0):=by
     have:(w.drew.alloc (.view ⟨g,0,none⟩ (ρ.t 5))).heap[b]? =_:=(Lib.alloc_old w.drew _ b ap).trans uU
     rw[Lib.cell_of_heap this];rfl
    have c3:(w.alloc (.view ⟨g,0,none⟩ (ρ.t 5))).drew.cell? ⟨b,1,none⟩=some (.slice (some ⟨g,0,none⟩) 0 0):=c2
    have c0:w.cell? ⟨b,1,none⟩=some (.slice (some ⟨g,0,none⟩) 0 0):=c1
    go_enter L.f169,Body.n169_ntmps ρ
    go_wp2
    go_region_o
    all_goals(go_wp2;go_ret;exact⟨rfl,(fE.drew w).trans (fE.alloc _ _)⟩)
   ·have SP:=Any.unsafeString_none L X
    have c1:w.drew.cell? ⟨b,1,none⟩=some (.slice (some ⟨g,0,none⟩) 0 cap):=by
     have:w.drew.heap[b]? =some (.cells #[p,.slice (some ⟨g,0,none⟩) 0 cap] (ρ.t 72) (0,0)):=uU
     rw[Lib.cell_of_heap this];rfl
    have SO:(Builtin.unsafeSliceData_ #[(ρ.t 37)] (ρ.t 127) #[.slice (some ⟨g,0,none⟩) 0 cap]).run P w.drew= .ok (.pointer (some ⟨g,0,none⟩)) w.drew:=
     Lib.run_unsafeSliceData_row _ _ _ _ _ _ SS
    clear SS
    go_enter L.f169,Body.n169_ntmps ρ
    go_wp2
    go_region_o
    all_goals(go_wp2;go_ret;exact⟨rfl,fE.drew w⟩)
  ·have h0:l≠ []:=fun e=>Gh (by rw[e];rfl)
   have c1:w.drew.cell? ⟨b,1,none⟩=some (.slice (some ⟨g,0,none⟩) l.length cap):=by
    have:w.drew.heap[b]? =some (.cells #[p,.slice (some ⟨g,0,none⟩) l.length cap] (ρ.t 72) (0,0)):=uU
    rw[Lib.cell_of_heap this];rfl
   have SO:(Builtin.unsafeSliceData_ #[(ρ.t 37)] (ρ.t 127) #[.slice (some ⟨g,0,none⟩) l.length cap]).run P w.drew= .ok (.pointer (some ⟨g,0,none⟩)) w.drew:=
    Lib.run_unsafeSliceData_row _ _ _ _ _ _ (by omega)
   have SP:(Builtin.unsafeString_ #[(ρ.t 127),(ρ.t 3)] (ρ.t 9) #[.pointer (some ⟨g,0,none⟩),.int .i64 l.length]).run P w.drew= .ok (.string ⟨l.toArray⟩) (w.drew.freeze ⟨g,0,none⟩ l.length):=by
    refine Lib.run_unsafeString_row w.drew (ρ.t 127) (ρ.t 3) (ρ.t 9) (ρ.t 5) L.t127 X.cellsByte g cur.size (by have CO:w.drew.heap[g]? =some (.cells cur (ρ.t 5) (0,0)):=hg;simp [World.shape?,CO]) l h0 (by omega) (by unfold maxLen at qg;omega) ?_
    intro j x hx
    have:=bP.cells (g:=g) rfl j (.int .u8 x.toNat) (by simp [Lib.byteCells,hx])
    exact this
   go_enter L.f169,Body.n169_ntmps ρ
   go_wp2
   go_region_o
   all_goals(go_wp2;go_ret;exact⟨rfl,(fE.drew w).trans (fE.freeze _ _ rfl _)⟩)
end Go.Ref

namespace Go.Ref
open Go
inductive SV where
 |undef
 |skip
 |cr
 |gF
 |ah (t:Ty) (x:El t) (own:List (List Nat))
 |ptr (id:Nat) (t:Ty) (p:List Nat)
 |view (t:Ty) (x:El t)
 |cap (f:Nat) (t:Ty) (x:El t) (u:Ty) (y:El u)
 |over
def Ty.oO:Ty->Bool
 | .aV (.fF _ _) _ _=>false
 | .aV _ _ _=>true
 |_=>false
def Ty.bH:Ty->Bool
 | .aV _ _ _=>true
 |_=>false
structure bm where
 t:Ty
 x:El t
 own:List (List Nat)
structure State where
 sl:List (List SV)
 bs:List (Option bm)
structure Env where
 ty:TypeId->Option Ty
 bytes:TypeId->Nat
 pt:TypeId->Bool
 di:Nat->List Nat
 kg:Nat->List Nat
 outs:List Nat
 ps:List Ty
 mp:TypeId->Option (TypeId×TypeId):=fun _=>none
 join:Nat->Option (List Nat):=fun _=>none
 fz:Nat->Option (Nat×TypeId):=fun _=>none
 dr:Nat->List Nat:=fun _=>[]
 sh:List Nat:=[]
 ro:Bool:=false
 mv:List Nat:=[]
 fr:Nat->List Nat:=fun _=>[]
 bl:TypeId->Option TypeId:=fun _=>none
 sp:Option (Nat×Nat×Nat×Nat):=none
def Ty.fZ:Ty->Bool
 | .unit=>true
 | .pair (.int _) b=>b.fZ
 |_=>false
def Ty.isKey:Ty->Bool
 | .bool| .int _| .str=>true
 | .pair a b=>(Ty.pair a b).fZ
 |_=>false
def sZ:(t:Ty)->El t->El t->Bool
 | .pair (.int _) b,x,y=>decide (x.1=y.1)&&sZ b x.2 y.2
 |_,_,_=>true
def ff:(t:Ty)->El t->El t->Bool
 | .bool,x,y=>decide (x=y)
 | .int _,x,y=>decide (x=y)
 | .str,x,y=>decide (x=y)
 | .pair a b,x,y=>sZ (.pair a b) x y
 |_,_,_=>false
def ea{K V:Type}(eq:K->K->Bool)(d:V):List (K×V)->K->V
 | [],_=>d
 |q::r,k=>bif eq k q.1 then q.2 else ea eq d r k
def eb{K V:Type}(eq:K->K->Bool):List (K×V)->K->Bool
 | [],_=>false
 |q::r,k=>bif eq k q.1 then true else eb eq r k
section
variable {R:Type}
abbrev bJ(R:Type):=List SV->Option bm->(List SV->Option bm->Option R)->Option R
def SV.el(s:SV)(u:Ty)(K:El u->Option R):Option R:=
 match s with
 | .ah t x _=>if h:t.ci u=true then K (Ty.cast h x) else none
 | .cr=>match u with
   | .sl _ _=>K []
   |_=>none
 |_=>none
def yp:Value->SV
 | .bool b=> .ah .bool b []
 | .int k n=> .ah (.int k) n []
 | .string s=> .ah .str s []
 | .slice none 0 0=> .cr
 | .pointer none=> .gF
 |_=> .undef
def State.slot(s:State)(t:Nat):List SV:=s.sl.getD t [.undef]
def State.vm(s:State):Operand->List SV
 | .tmp t=>s.slot t
 | .const v=>[yp v]
 |_=>[.undef]
def one:List SV->SV
 | [x]=>x
 |_=> .undef
def State.az(s:State)(x:Operand):SV:=one (s.vm x)
def State.box(s:State)(id:Nat):Option bm:=(s.bs.getD id none)
def SV.shut:SV->SV
 | .ah t x _=> .ah t x []
 |v=>v
def SV.own:SV->List (List Nat)
 | .ah _ _ o=>o
 | .cr=>[[]]
 |_=>[]
def bQ:List SV->Nat->List SV
 | [],_=>[]
 |v::r,0=>v.shut::r
 |v::r,j+1=>v::bQ r j
structure Out where
 v:List SV
 bx:Option (Nat×bm):=none
 cl:List (Nat×Nat):=[]
def State.close(s:State):List (Nat×Nat)->State
 | []=>s
 |(i,j)::r=>State.close {s with sl:=s.sl.set i (bQ (s.slot i) j)} r
def State.aC(s:State):Option (Nat×bm)->State
 |some (id,B)=>{s with bs:=s.bs.set id (some B)}
 |none=>s
def State.aJ(s:State):Option Nat->List SV->State
 |some d,v=>{s with sl:=s.sl.set d v}
 |none,_=>s
def State.apply(s:State)(dst:Option Nat)(o:Out):State:=((s.close o.cl).aC o.bx).aJ dst o.v
def sH:Operand->Option Nat
 | .tmp t=>some t
 |_=>none
def src:Operand->List (Nat×Nat)
 | .tmp t=>[(t,0)]
 |_=>[]
def aD(op:BinOp)(k:IntKind)(a b:Int):Int:=
 match op with
 | .and=>k.wrap ((BitVec.ofInt k.bits a&&&BitVec.ofInt k.bits b).toNat:Nat)
 | .or=>k.wrap ((BitVec.ofInt k.bits a|||BitVec.ofInt k.bits b).toNat:Nat)
 | .xor=>k.wrap ((BitVec.ofInt k.bits a^^^BitVec.ofInt k.bits b).toNat:Nat)
 |_=>k.wrap ((BitVec.ofInt k.bits a&&& ~~~ BitVec.ofInt k.bits b).toNat:Nat)
def cZ:(t:Ty)->El t->El t->Option Bool
 | .bool,x,y=>some (x==y)
 | .int _,x,y=>some (decide (x=y))
 | .str,x,y=>some (decide (x=y))
 | .unit,_,_=>some true
 | .arr _ (.int _),x,y=>some (decide ((x:List Int)=y))
 | .pair a b,x,y=>match cZ a x.1 y.1,cZ b x.2 y.2 with
   |some p,some q=>some (p&&q)
   |_,_=>none
 |_,_,_=>none
def i64(n:Int):List SV:=[.ah (.int .i64) n []]
def bl(b:Bool):List SV:=[.ah .bool b []]
def pH(op:BinOp)(k:IntKind)(a:Int)(k':IntKind)(b:Int)(K:List SV->Option R):Option R:=
 match op with
 | .shl=>bif decide (b<0) then none else K [.ah (.int k) (k.wrap (a*2^min b.toNat k.bits)) []]
 | .shr=>bif decide (b<0) then none else K [.ah (.int k) (a.fdiv (2^min b.toNat k.bits)) []]
 |_=>if k=k' then
  match op with
  | .add=>K [.ah (.int k) (k.wrap (a+b)) []]
  | .sub=>K [.ah (.int k) (k.wrap (a-b)) []]
  | .mul=>K [.ah (.int k) (k.wrap (a*b)) []]
  | .quo=>bif decide (b=0) then none else K [.ah (.int k) (k.wrap (a.tdiv b)) []]
  | .rem=>bif decide (b=0) then none else K [.ah (.int k) (a.tmod b) []]
  | .and| .or| .xor| .andNot=>K [.ah (.int k) (aD op k a b) []]
  | .eql=>K (bl (decide (a=b)))
  | .neq=>K (bl (!decide (a=b)))
  | .lss=>K (bl (decide (a<b)))
  | .leq=>K (bl (decide (a<=b)))
  | .gtr=>K (bl (decide (b<a)))
  | .geq=>K (bl (decide (b<=a)))
  |_=>none
  else none
def pI(op:BinOp)(a b:ByteArray)(K:List SV->Option R):Option R:=
 match op with
 | .add=>bif decide (a.size+b.size<=9223372036854775807) then K [.ah .str (a++b) []] else none
 | .eql=>K (bl (decide (a=b)))
 | .neq=>K (bl (!decide (a=b)))
 | .lss=>K (bl (Op.bytesLess a.toList b.toList))
 | .leq=>K (bl (Op.bytesLess a.toList b.toList||decide (a=b)))
 | .gtr=>K (bl (!(Op.bytesLess a.toList b.toList||decide (a=b))))
 | .geq=>K (bl (!(Op.bytesLess a.toList b.toList)))
 |_=>none
def Ty.depth:Ty->Nat
 | .arr _ t=>t.depth+1
 | .pair a b=>max (a.depth+1) b.depth
 |_=>1
def pG(E:Env)(op:BinOp)(T:TypeId)(x y:SV)(K:List SV->Option R):Option R:=
 match E.ty T with
 |some t=>if Nat.ble t.depth 1000=false then none else x.el t fun a=>y.el t fun b=>match cZ t a b with
  |some r=>match op with
   | .eql=>K (bl r)
   | .neq=>K (bl (!r))
   |_=>none
  |none=>none
 |none=>none
def bin(E:Env)(op:BinOp)(T:TypeId)(x y:SV)(K:List SV->Option R):Option R:=
 match x,y with
 | .ah (.int k) a _,.ah (.int k') b _=>pH op k a k' b K
 | .ah .str a _,.ah .str b _=>pI op a b K
 | .ptr _ t _,.gF=>if(t.bH|| !E.pt T)=true then none else match op with
   | .eql=>K (bl false)
   | .neq=>K (bl true)
   |_=>none
 | .gF,.gF=>if E.pt T=false then none else match op with
   | .eql=>K (bl true)
   | .neq=>K (bl false)
   |_=>none
 |x,y=>pG E op T x y K
def ze(s:ByteArray)(i:Nat):Int:=if h:i<s.size then((s[i]'h).toNat:Int) else 0
def strOf(xs:List Int):ByteArray:=⟨(xs.map fun x=>UInt8.ofNat x.toNat).toArray⟩
def zd(i:Int)(n:Nat)(K:Option R):Option R:=bif decide (0<=i) then bif decide (i<(n:Int)) then K else none else none
def vZ(lo:Option SV)(h:Nat)(K:Nat->Option R):Option R:=
 match lo with
 |none=>K 0
 |some v=>v.el (.int .i64) fun l=>bif decide (0<=l) then bif decide (l<=(h:Int)) then K l.toNat else none else none
def cutAt(lo hi:Option SV)(n:Nat)(K:Nat->Nat->Option R):Option R:=
 match hi with
 |none=>vZ lo n fun l=>K l n
 |some v=>v.el (.int .i64) fun h=>bif decide (0<=h) then bif decide (h<=(n:Int)) then vZ lo h.toNat (fun l=>K l h.toNat) else none else none
def Ty.jR:Ty->Nat->Bool
 | .arr n _,i=>Nat.ble (i+1) n
 |_,_=>true
def vS(own:List (List Nat))(p:List Nat):List (List Nat):=own.filter fun q=> !(p.isPrefixOf q)
def mG(own:List (List Nat))(p:List Nat):Bool:=own.any fun q=>q==p
def L9(own:List (List Nat))(p:List Nat):List (List Nat):=(own.filter fun q=>p.isPrefixOf q).map fun q=>q.drop p.length
def bump:List Nat->Option (List Nat)
 | []=>none
 |j::p=>some ((j+1)::p)
def vJ:Ty->List (List Nat)
 | .sl _ _=>[[]]
 | .pair a b=>(vJ a).map (fun p=>0::p)++(vJ b).filterMap bump
 |_=>[]
def p5(t:Ty):El t->List (List Nat)->List (Nat×SV×List (List Nat))->(El t->List (List Nat)->Option R)->Option R
 |x,own,[],K=>K x own
 |x,own,(i,v,ov)::r,K=>if t.jR i=false then none else match t.at_ [i] with
  |some u=>v.el u fun y=>match El.set t [i] x u y with
   |some z=>p5 t z (ov.map (fun p=>i::p)++vS own [i]) r K
   |none=>none
  |none=>none
def vR(o:List (List Nat))(x:Operand):List (Nat×Nat):=
 match o with
 | []=>[]
 |_::_=>src x
def ln:State->List (Nat×Operand)->List (Nat×SV×List (List Nat))×List (Nat×Nat)
 |_,[]=>([],[])
 |s,(i,x)::r=>((i,s.az x,(s.az x).own)::(ln (s.close (vR (s.az x).own x)) r).1,vR (s.az x).own x++(ln (s.close (vR (s.az x).own x)) r).2)
def yz(t:Ty):List (El t)->List (Nat×SV)->(List (El t)->Option R)->Option R
 |xs,[],K=>K xs
 |xs,(i,v)::r,K=>if Nat.ble (i+1) xs.length=false then none else v.el t fun y=>yz t (xs.set i y) r K
def Sk(ops:List Oper)(d:Option Nat):Bool:=
 match d with
 |some d=>ops.any fun o=>match o.op with
  | .call ⟨.builtin .append,args,_⟩=>match args.toList with
    | .tmp t::_=>Nat.beq t d
    |_=>false
  |_=>false
 |none=>false
def J5(ops:List Oper)(d:Option Nat):Bool:=
 match d with
 |some d=>ops.any fun o=>match o.op,o.dst with
  | .indexAddr _ (.tmp t) _,some a=>Nat.beq t d&&ops.any fun q=>match q.op with
    | .store _ (.tmp b) _=>Nat.beq a b
    |_=>false
  |_,_=>false
 |none=>false
def xR(E:Env)(ops:List Oper)(d:Option Nat):Bool:=
 match d with
 |some d=>ops.any fun o=>match o.op with
  | .store _ (.tmp r) (.tmp t)=>Nat.beq t d&&E.outs.any (Nat.beq r)
  |_=>false
 |none=>false
def Cg(u':Ty)(s:State)(id:Nat)(t:Ty)(p:List Nat)(K:Out->Option R):Option R:=
 match t,p with
 | .aV .row a b,[i]=>match s.box id with
   |some B=>if h:B.t.ci (.aV .row a b)=true then if u'.ci a=true then
     bif Nat.ble (i+1) (List.length (Ty.cast h B.x:List (El a))) then K {v:=[.ah a (List.getD (Ty.cast h B.x:List (El a)) i (El.bM a)) []]} else none
    else none else none
   |none=>none
 |_,_=>none
def BW(u:Ty)(s:State)(id:Nat)(t:Ty)(p:List Nat)(v:SV)(K:Out->Option R):Option R:=
 match t,p with
 | .aV .row a b,[i]=>match s.box id with
   |some B=>if h:B.t.ci (.aV .row a b)=true then if a.ci u=true then
     v.el a fun y=>bif Nat.ble (i+1) (List.length (Ty.cast h B.x:List (El a))) then K {v:=[.skip],bx:=some (id,⟨.aV .row a b,(List.set (Ty.cast h B.x:List (El a)) i y:List (El a)),[]⟩)} else none
    else none else none
   |none=>none
 |_,_=>none
def z91(t:Ty)(n:Int)(id:Nat)(r:Ty)(p:List Nat)(K:Out->Option R):Option R:=
 match r,p with
 | .aV (.fU m) a b,[]=>if a.ci t=true then zd n m (K {v:=[.ptr id (.aV .row a b) [n.toNat]]}) else none
 |_,_=>none
def Dw(u':Ty)(B:bm)(t:Ty)(p:List Nat)(K:Out->Option R):Option R:=
 match t,p with
 | .arr n e,[]=>if h:B.t.ci (.aV .row e .unit)=true then if u'.ci (.arr n e)=true then
    bif Nat.beq n (List.length (Ty.cast h B.x:List (El e))) then K {v:=[.ah (.arr n e) (Ty.cast h B.x:List (El e)) []]} else none
   else none else none
 |_,_=>none
def load(E:Env)(T:TypeId)(s:State)(la:Bool)(a:SV)(K:Out->Option R):Option R:=
 match E.ty T with
 |some u'=>match a with
  | .view t x=>if u'.ci t=true then K {v:=[.ah t x []]} else none
  | .ptr id t p=>if t.bH=true then Cg u' s id t p K else match s.box id with
    |some B=>if B.t.ci t=true then
      match El.get B.t p B.x with
      |some ⟨u,y⟩=>if u'.ci u=true then
        bif la then K {v:=[.ah u y (L9 B.own p)],bx:=some (id,{B with own:=vS B.own p})} else K {v:=[.ah u y []]}
       else none
      |none=>none
     else Dw u' B t p K
    |none=>none
  |_=>none
 |none=>none
def store(E:Env)(T:TypeId)(s:State)(a:SV)(vo:Operand)(K:Out->Option R):Option R:=
 match E.ty T with
 |some u=>match a with
  | .ptr id t p=>if t.bH=true then BW u s id t p (s.az vo) K else match s.box id with
    |some B=>if B.t.ci t=true then
      match t.at_ p with
      |some u'=>if u'.ci u=true then
        (s.az vo).el u fun y=>match El.set B.t p B.x u y with
        |some z=>K {v:=[.skip],bx:=some (id,{t:=B.t,x:=z,own:=(s.az vo).own.map (fun q=>p++q)++vS B.own p}),cl:=src vo}
        |none=>none
       else none
      |none=>none
     else none
    |none=>none
  |_=>none
 |none=>none
def Ty.cR:Ty->Bool
 | .pair .. =>true
 |_=>false
def L3(t?:Option Ty)(a:SV)(j:Nat)(K:Out->Option R):Option R:=
 match t?,a with
 |some u,.ptr id t p=>if t.bH=true then none else match t.at_ p with
  |some u'=>if(u.ci u'&&u.cR)=true then match u.at_ [j] with
    |some f=>if Nat.beq f.cells 0=true then none else K {v:=[.ptr id t (p++ [j])]}
    |none=>none
   else none
  |none=>none
 |some u,.view t x=>if(u.ci t&&u.cR)=true then match El.get t [j] x with
   |some ⟨f,y⟩=>if Nat.beq f.cells 0=true then none else K {v:=[.view f y]}
   |none=>none
  else none
 |_,_=>none
def SV.num(s:SV)(K:Int->Option R):Option R:=
 match s with
 | .ah (.int _) n _=>K n
 |_=>none
def L5(E:Env)(T:TypeId)(a i:SV)(K:Out->Option R):Option R:=
 i.num fun n=>match E.ty T,a with
  |some (.sl e t),.ah t' xs _=>(SV.ah t' xs []).el (.sl e t) fun ys=>zd n ys.length (K {v:=[.view t (List.getD ys n.toNat (El.bM t))]})
  |some (.arr m t),.ptr id r p=>if r.bH=true then none else match r.at_ p with
   |some u=>if u.ci (.arr m t)=true then zd n m (K {v:=[.ptr id r (p++ [n.toNat])]}) else none
   |none=>none
  |some (.arr m t),.view t' xs=>(SV.ah t' xs []).el (.arr m t) fun ys=>zd n m (K {v:=[.view t (List.getD ys n.toNat (El.bM t))]})
  |some (.sl _ t),.ptr id r p=>z91 t n id r p K
  |_,_=>none
def L6(E:Env)(T:TypeId)(a i:SV)(K:Out->Option R):Option R:=
 i.num fun n=>match E.ty T with
  |some .str=>a.el .str fun s=>zd n s.size (K {v:=[.ah (.int .u8) (ze s n.toNat) []]})
  |some (.arr m t)=>a.el (.arr m t) fun ys=>zd n m (K {v:=[.ah t (List.getD ys n.toNat (El.bM t)) []]})
  |_=>none
def pK(E:Env)(T:TypeId)(a:SV)(lo hi:Option SV)(K:Out->Option R):Option R:=
 match E.ty T with
 |some .str=>a.el .str fun s=>cutAt lo hi s.size fun l h=>K {v:=[.ah .str (s.extract l h) []]}
 |some (.sl e t)=>a.el (.sl e t) fun xs=>cutAt lo hi (List.length xs) fun l h=>K {v:=[.ah (.sl e t) ((List.take h xs).drop l) []]}
 |_=>none
def Lk(E:Env)(T U:TypeId)(bo:Operand)(b x:SV)(K:Out->Option R):Option R:=
 if Nat.beq T U=false then none else
 match E.ty T with
 |some (.sl e t)=>if(Nat.beq (E.bytes e) 0||Nat.beq t.cells 0)=true then none else match b with
  | .cr=>x.el (.sl e t) fun ys=>bif decide (List.length ys*E.bytes e<=140737488355328) then K {v:=[.ah (.sl e t) ys [[]]]} else none
  | .ah t' xs o=>if mG o []=false then none else(SV.ah t' xs o).el (.sl e t) fun xs=>x.el (.sl e t) fun ys=>
    bif decide ((List.length xs+List.length ys)*E.bytes e<=140737488355328) then K {v:=[.ah (.sl e t) (xs++ys:List (El t)) [[]]],cl:=src bo} else none
  |_=>none
 |_=>none
def sm(E:Env)(T:TypeId)(x:SV)(K:Out->Option R):Option R:=
 match E.ty T with
 |some .str=>x.el .str fun s=>K {v:=i64 (s.size:Int)}
 |some (.sl e t)=>match x with
  | .ptr _ (.aV (.fU n) _ _) []=>K {v:=i64 (n:Int)}
  |x=>x.el (.sl e t) fun xs=>K {v:=i64 (List.length xs:Int)}
 |some (.arr n _)=>K {v:=i64 (n:Int)}
 |_=>none
def kc(E:Env)(S T:TypeId)(x:SV)(K:Out->Option R):Option R:=
 match E.ty S,E.ty T with
 |some (.int k),some (.int k')=>x.el (.int k) fun n=>K {v:=[.ah (.int k') (k'.wrap n) []]}
 |some .str,some .str=>x.el .str fun s=>K {v:=[.ah .str s []]}
 |some (.sl e (.int .u8)),some .str=>x.el (.sl e (.int .u8)) fun xs=>K {v:=[.ah .str (strOf xs) []]}
 |_,_=>none
def jc(E:Env)(S T:TypeId)(s:State)(id n:Nat)(a b:Ty)(K:Out->Option R):Option R:=
 match E.ty S,E.ty T with
 |some (.sl _ (.int .u8)),some .str=>if a.ci (.int .u8)=true then match s.box id with
  |some B=>if h:B.t.ci (.aV .row (.int .u8) b)=true then bif Nat.beq n (List.length (Ty.cast h B.x:List Int)) then K {v:=[.ah .str (strOf (Ty.cast h B.x:List Int)) []]} else none else none
  |none=>none else none
 |_,_=>none
def l6(E:Env)(T:TypeId):Option (Ty×Ty):=
 match E.mp T with
 |some (k,e)=>match E.ty k,E.ty e with
  |some kt,some vt=>if kt.isKey=true then some (kt,vt) else none
  |_,_=>none
 |none=>none
def jr(s:State)(dst:Option Nat)(t:Ty)(x:El t)(p:Ty)(K:Out->Option R):Option R:=
 match dst with
 |some d=>match s.bs[d+1]? with
  |some none=>K {v:=[.ptr (d+1) p []],bx:=some (d+1,⟨t,x,[]⟩)}
  |_=>none
 |none=>none
def tD(s:State)(m:SV)(kt vt:Ty)(K:Nat->List (El kt×El vt)->Option R):Option R:=
 match m with
 | .ptr id (.aV .mp TF U7) []=>if((Ty.aV .mp TF U7).ci (.aV .mp kt vt))=true then match s.box id with
   |some B=>if h:B.t.ci (.aV .mp kt vt)=true then K id (Ty.cast h B.x) else none
   |none=>none else none
 |_=>none
def ki(E:Env)(T:TypeId)(s:State)(m i:SV)(K:Out->Option R):Option R:=
 match l6 E T with
 |some (kt,vt)=>tD s m kt vt fun _ xs=>i.el kt fun k=>K {v:=[.ah vt (ea (ff kt) (El.bM vt) xs k) []]}
 |none=>none
def kU(E:Env)(T:TypeId)(s:State)(m i v:SV)(K:Out->Option R):Option R:=
 match l6 E T with
 |some (kt,vt)=>tD s m kt vt fun id xs=>i.el kt fun k=>v.el vt fun y=>bif eb (ff kt) xs k then none else K {v:=[.skip],bx:=some (id,⟨.aV .mp kt vt,(xs++ [(k,y)]:List (El kt×El vt)),[]⟩)}
 |none=>none
def jl:Ty:= .aV .iter .unit .unit
def kl(s:State)(m:SV)(K:Out->Option R):Option R:=
 match m with
 | .ptr id (.aV .iter .unit .unit) []=>match s.box id with
   |some B=>if h:B.t.ci jl=true then
     bif decide ((Ty.cast h B.x:ByteArray×Nat).2<(Ty.cast h B.x:ByteArray×Nat).1.size) then
      K {v:=[.ah .bool true [],.ah (.int .i64) ((Ty.cast h B.x:ByteArray×Nat).2:Int) [],.ah (.int .i32) ((Utf8.decode (Ty.cast h B.x:ByteArray×Nat).1 (Ty.cast h B.x:ByteArray×Nat).2).1:Int) []],
         bx:=some (id,⟨jl,((Ty.cast h B.x:ByteArray×Nat).1,(Ty.cast h B.x:ByteArray×Nat).2+(Utf8.decode (Ty.cast h B.x:ByteArray×Nat).1 (Ty.cast h B.x:ByteArray×Nat).2).2),[]⟩)}
     else K {v:=[.over]}
    else none
   |none=>none
 |_=>none
def I8:Operand->Bool
 | .const _=>true
 |_=>false
def kj(E:Env)(T:TypeId)(s:State)(dst:Option Nat)(lo:Operand)(l c:SV)(K:Out->Option R):Option R:=
 match E.ty T with
 |some (.sl e t)=>if(Nat.beq (E.bytes e) 0||Nat.beq t.cells 0)=true then none else l.el (.int .i64) fun n=>c.el (.int .i64) fun m=>
  bif I8 lo then
   bif decide (n=0) then bif decide (0<=m) then bif decide (m*E.bytes e<=140737488355328) then K {v:=[.ah (.sl e t) ([]:List (El t)) [[]]]} else none else none else none
  else bif decide (n=m) then bif decide (0<=n) then bif decide (n*E.bytes e<=140737488355328) then jr s dst (.aV .row t .unit) (List.replicate n.toNat (El.bM t):List (El t)) (.aV (.fU n.toNat) t .unit) K else none else none else none
 |_=>none
def Hd(op:UnOp)(x:SV)(K:Out->Option R):Option R:=
 match op,x with
 | .not,.ah .bool b _=>K {v:=bl (!b)}
 | .neg,.ah (.int k) n _=>K {v:=[.ah (.int k) (k.wrap (0-n)) []]}
 |_,_=>none
def lN(f:FuncId)(x:SV)(K:Out->Option R):Option R:=
 match x with
 | .ptr id u []=>if u.oO=true then none else K {v:=[.ptr id (.aV (.qc f) u .unit) []]}
 |_=>none
def rC(n id:Nat)(a b:Ty)(lo hi:Option SV)(K:Out->Option R):Option R:=
 match hi with
 |some _=>none
 |none=>vZ lo n fun l=>K {v:=[.ptr id (.aV (.fU n) a b) [l]]}
def pJ(E:Env)(T:TypeId)(s:State)(id n:Nat)(t:Ty)(lo hi:Option SV)(K:Out->Option R):Option R:=
 match E.ty T,lo,hi with
 |some u,none,none=>if u.ci (.arr n t)=true then match s.box id with
  |some B=>if h:B.t.ci (.arr n t)=true then K {v:=[.ptr id (.aV (.fU n) t .unit) []],bx:=some (id,⟨.aV .row t .unit,(Ty.cast h B.x:List (El t)),[]⟩)} else none
  |none=>none else none
 |_,_,_=>none
def mF(s:ByteArray):List Int:=s.data.toList.map fun c=>(c.toNat:Int)
def bE{α:Type}(xs ys:List α)(lo:Nat):List α:=xs.take lo++(ys++xs.drop (lo+ys.length))
def gw(t:Ty)(s:State)(id n lo:Nat)(a b:Ty)(x:SV)(e:TypeId)(K:Out->Option R):Option R:=
 if a.ci t=true then x.el (.sl e t) fun(ys:List (El t))=>match s.box id with
  |some B=>if h:B.t.ci (.aV .row t b)=true then
    bif Nat.beq n (List.length (Ty.cast h B.x:List (El t))) then bif Nat.ble lo n then
     K {v:=i64 ((ys.take (n-lo)).length:Int),bx:=some (id,⟨.aV .row t b,(bE (Ty.cast h B.x:List (El t)) (ys.take (n-lo)) lo:List (El t)),[]⟩)}
    else none else none
   else none
  |none=>none else none
def jd(t:Ty)(s:State)(id n:Nat)(a b:Ty)(y:ByteArray)(K:Out->Option R):Option R:=
 if t.ci (.int .u8)=true then if a.ci (.int .u8)=true then match s.box id with
  |some B=>if h:B.t.ci (.aV .row (.int .u8) b)=true then
    bif Nat.beq n (List.length (Ty.cast h B.x:List Int)) then
     K {v:=i64 ((List.take n (mF y)).length:Int),bx:=some (id,⟨.aV .row (.int .u8) b,(bE (Ty.cast h B.x:List Int) (List.take n (mF y)) 0:List Int),[]⟩)}
    else none
   else none
  |none=>none else none else none
def copyV(E:Env)(T:TypeId)(s:State)(d x:SV)(K:Out->Option R):Option R:=
 match E.ty T,d with
 |some (.sl e t),.ptr id (.aV (.fU n) a b) []=>(match x with
  | .ah .str y _=>jd t s id n a b y K
  |x=>gw t s id n 0 a b x e K)
 |some (.sl e t),.ptr id (.aV (.fU n) a b) [l]=>gw t s id n l a b x e K
 |_,_=>none
def GV(t b:Ty):Bool:=
 b.ci t||(match t with
  | .aV (.qc _) u _=>b.ci u
  |_=>false)
def mu(s:State):List SV->Option (List SV×Option (Nat×bm))
 | []=>some ([],none)
 |v::r=>match mu s r with
  |none=>none
  |some (l,b)=>match v,b with
   | .ah t x _,b=>some (.ah t x []::l,b)
   | .cr,b=>some (.cr::l,b)
   | .view t x,b=>some (.view t x::l,b)
   | .ptr id t [],none=>match s.box id with
     |some B=>if GV t B.t=true then some (.ptr 0 t []::l,some (id,B)) else none
     |none=>none
   |_,_=>none
def SV.gH(id:Nat):SV->SV
 | .ptr _ t p=> .ptr id t p
 |v=>v
def fb(C:FuncId->bJ R)(s:State)(dst:Option Nat)(f:FuncId)(vs:List SV)(K:Out->Option R):Option R:=
 match mu s vs with
 |some (l,none)=>C f l none fun r B=>match B with
  |none=>K {v:=r}
  |some B=>match dst with
   |some d=>match s.bs[d+1]? with
    |some none=>K {v:=r.map (SV.gH (d+1)),bx:=some (d+1,B)}
    |_=>none
   |none=>none
 |some (l,some (id,B))=>C f l (some B) fun r B'=>match B' with
  |some B'=>if B'.t.ci B.t=true then K {v:=r,bx:=some (id,B')} else none
  |none=>none
 |none=>none
def jq(g:Bool)(x y:SV)(K:Out->Option R):Option R:=
 match x,y with
 | .ah (.int k) m _,.ah (.int _) n _=>K {v:=[.ah (.int k) (bif g then(if m<n then n else m) else(if n<m then n else m)) []]}
 |_,_=>none
def nh(E:Env)(T:TypeId)(K:Out->Option R):Option R:=
 match E.ty T with
 |some (.sl e t)=>K {v:=[.ah (.sl e t) ([]:List (El t)) [[]]]}
 |_=>K {v:=[.cr]}
def mf(s:State):Operand->Option (Nat×List SV)
 | .tmp t=>bif Nat.beq (s.slot t).length 1 then none else some (t,s.slot t)
 |_=>none
def jx(t:Nat):Nat->List (Nat×Nat)
 |0=>[]
 |n+1=>(t,n)::jx t n
def eM(E:Env)(d:Option Nat):Bool:=
 match d with
 |some d=>E.sh.any (Nat.beq d)
 |none=>false
def takes(E:Env)(d:Option Nat):Bool:=
 match d with
 |some d=>E.mv.any (Nat.beq d)
 |none=>false
def Out.shut(u:Out):Out:={u with v:=u.v.map SV.shut}
def rA(f:FuncId)(x y:SV)(K:Out->Option R):Option R:=
 match x,y with
 | .view t a,.view u b=>K {v:=[.cap f t a u b]}
 |_,_=>none
def act(E:Env)(C:FuncId->bJ R)(ops:List Oper)(o:Oper)(s:State)(K:Out->Option R):Option R:=
 match o.op with
 | .move x=>match mf s x with
   |some (t,l)=>bif eM E o.dst then K {v:=l.map SV.shut} else K {v:=l,cl:=bif l.all fun v=>v.own.isEmpty then [] else jx t l.length}
   |none=>match s.az x with
    | .ah t y w=>bif Sk ops o.dst||takes E o.dst then K {v:=[.ah t y w],cl:=vR w x} else K {v:=[.ah t y []]}
    | .undef=>none
    | .cr=>nh E o.type K
    |v=>K {v:=[v]}
 | .assign x=>match s.az x with
   | .ah t y w=>K {v:=[.ah t y w],cl:=vR w x}
   | .undef=>none
   | .cr=>nh E o.type K
   |v=>K {v:=[v]}
 | .pick c a b=>match s.az c with
   | .ah .bool p _=>bif p then K {v:=[(s.az a).shut]} else K {v:=[(s.az b).shut]}
   |_=>none
 | .binOp op T x y _=>bin E op T (s.az x) (s.az y) fun v=>K {v}
 | .unOp op _ x=>Hd op (s.az x) K
 | .convert S T x=>match s.az x with
   | .ptr id (.aV (.fU n) a b) []=>jc E S T s id n a b K
   |v=>kc E S T v K
 | .load T a=>load E T s (Sk ops o.dst||xR E ops o.dst||J5 ops o.dst) (s.az a) K
 | .store T a x=>store E T s (s.az a) x K
 | .nilCheck x=>match s.az x with
   | .ptr id t p=>if t.bH=true then none else K {v:=[.ptr id t p]}
   | .view t y=>K {v:=[.view t y]}
   |_=>none
 | .fieldAddr T x j=>L3 (E.ty T) (s.az x) j K
 | .indexAddr T x i=>L5 E T (s.az x) (s.az i) K
 | .index T x i=>L6 E T (s.az x) (s.az i) K
 | .field T x j=>match E.ty T with
   |some t=>if t.cR=false then none else(s.az x).el t fun y=>match El.get t [j] y with
    |some ⟨u,z⟩=>K {v:=[.ah u z []]}
    |none=>none
   |none=>none
 | .slice T x lo hi none=>match s.az x with
   | .ptr id (.aV (.fU n) a b) []=>(match E.ty T with
     |some (.sl _ t)=>if a.ci t=true then rC n id a b (lo.map s.az) (hi.map s.az) K else none
     |_=>none)
   | .ptr id (.arr n t) []=>pJ E T s id n t (lo.map s.az) (hi.map s.az) K
   |v=>pK E T v (lo.map s.az) (hi.map s.az) K
 | .makeFunc (.func f) first captured=>match first.toList,captured.toList with
   | [],[x]=>lN f (s.az x) K
   | [],[x,y]=>rA f (s.az x) (s.az y) K
   |_,_=>none
 | .alloc T=>match E.ty T,o.dst with
   |some t,some d=>match s.bs[d+1]? with
    |some none=>K {v:=[.ptr (d+1) t []],bx:=some (d+1,⟨t,El.bM t,vJ t⟩)}
    |_=>none
   |none,some d=>(match E.bl T with
    |some e=>match s.bs[d+1]? with
     |some none=>K {v:=[.ptr (d+1) (.aV (.fF T e) .unit .unit) []],bx:=some (d+1,⟨.aV (.fF T e) .unit .unit,(⟨#[]⟩:ByteArray),[[]]⟩)}
     |_=>none
    |none=>none)
   |_,_=>none
 | .box T x=>match E.ty T,o.dst with
   |some t,some d=>match s.bs[d+1]? with
    |some none=>(s.az x).el t fun y=>K {v:=[.ptr (d+1) t []],bx:=some (d+1,⟨t,y,(s.az x).own⟩),cl:=src x}
    |_=>none
   |_,_=>none
 | .build T parts=>match E.ty T with
   |some t=>if t.agg=false then none else p5 t (El.bM t) (vJ t) (ln s parts.toList).1 fun y own=>K {v:=[.ah t y own],cl:=(ln s parts.toList).2}
   |none=>none
 | .buildSlice T n parts=>match E.ty T with
   |some (.sl e t)=>if Nat.beq t.cells 0=true then none else bif Nat.ble (n*t.cells) 16777216 then yz t (List.replicate n (El.bM t)) (parts.toList.map fun p=>(p.1,s.az p.2)) fun y=>K {v:=[.ah (.sl e t) y [[]]]} else none
   |_=>none
 | .extract x j=>match x with
   | .tmp t=>if Nat.beq (s.slot t).length 1=true then(match one (s.slot t),j with
      | .over,0=>K {v:=bl false}
      |_,_=>none) else match(s.slot t)[j]? with
     |some (.ah u y w)=>K {v:=[.ah u y w],cl:=bif w.isEmpty then [] else [(t,j)]}
     |some .undef=>none
     |some v=>K {v:=[v]}
     |none=>none
   |_=>none
 | .makeMap T none=>match l6 E T with
   |some (kt,vt)=>jr s o.dst (.aV .mp kt vt) ([]:List (El kt×El vt)) (.aV .mp kt vt) K
   |none=>none
 | .lookup T x i false=>ki E T s (s.az x) (s.az i) K
 | .mapUpdate T m k x=>kU E T s (s.az m) (s.az k) (s.az x) K
 | .insert T m k x=>kU E T s (s.az m) (s.az k) (s.az x) K
 | .range T x=>match E.ty T with
   |some .str=>(s.az x).el .str fun y=>jr s o.dst jl ((y,0):ByteArray×Nat) jl K
   |_=>none
 | .next x true=>kl s (s.az x) K
 | .makeSlice T l c=>kj E T s o.dst l (s.az l) (s.az c) K
 | .call ⟨.value (.func f),args,_⟩=>fb C s o.dst f (args.toList.map s.az) fun u=>K (bif eM E o.dst then u.shut else u)
 | .call ⟨.value (.tmp y),args,_⟩=>match s.az (.tmp y) with
   | .ptr id (.aV (.qc f) u _) []=>if u.oO=true then none else fb C s o.dst f (args.toList.map s.az++ [.ptr id u []]) K
   | .cap f t x u y=>fb C s o.dst f (args.toList.map s.az++ [.view t x,.view u y]) K
   |_=>none
 | .call ⟨.builtin .copy,args,argTypes⟩=>match args.toList,argTypes.toList with
   | [d,x],T::_=>copyV E T s (s.az d) (s.az x) K
   |_,_=>none
 | .call ⟨.builtin .len,args,argTypes⟩=>match args.toList,argTypes.toList with
   | [x],[T]=>sm E T (s.az x) K
   |_,_=>none
 | .call ⟨.builtin .append,args,argTypes⟩=>match args.toList,argTypes.toList with
   | [b,x],[T,U]=>Lk E T U b (s.az b) (s.az x) K
   |_,_=>none
 | .call ⟨.builtin .max,args,_⟩=>match args.toList with
   | [x,y]=>jq true (s.az x) (s.az y) K
   |_=>none
 | .call ⟨.builtin .min,args,_⟩=>match args.toList with
   | [x,y]=>jq false (s.az x) (s.az y) K
   |_=>none
 |_=>none
def Lp(ops:List Oper)(g:Nat):Option Nat:=(ops[g]?).bind (·.dst)
def step(E:Env)(C:FuncId->bJ R)(ops:List Oper)(o:Oper)(s:State)(K:State->Option R):Option R:=
 let go (s:State):Option R:=act E C ops o s fun u=>K (s.apply o.dst u)
 let pass (s:State):Option R:=K (s.aJ o.dst [.skip])
 match o.guard with
 |none=>go s
 |some (g,want)=>match Lp ops g with
  |none=>none
  |some d=>match s.slot d with
   | [.ah .bool p []]=>bif p then(let s:=s.aJ (some d) (bl true);bif want then go s else pass s) else(let s:=s.aJ (some d) (bl false);bif want then pass s else go s)
   | [.skip]=>pass s
   |_=>none
def steps(E:Env)(C:FuncId->bJ R)(ops:List Oper):List Oper->State->(State->Option R)->Option R
 | [],s,K=>K s
 |o::r,s,K=>step E C ops o s fun s=>steps E C ops r s K
structure dy where
 i:Nat
 r:Nat
 w:Nat
 br:Nat
 bw:Nat
def bit(i:Nat):Nat:=1<<<i
def il:List Nat->Nat
 | []=>0
 |i::r=>bit i|||il r
def p7:List Operand->List Nat
 | []=>[]
 | .tmp t::r=>t::p7 r
 |_::r=>p7 r
def looks(ops:List Oper)(o:Oper):List Nat:=p7 o.op.operands.toList++(match o.guard with
 |some (g,_)=>(Lp ops g).toList
 |none=>[])
def bW:SV->List Nat
 | .ptr id _ _=>[id]
 |_=>[]
def zv(s:State)(o:Oper):List Nat:=
 match o.op with
 | .load _ a=>bW (s.az a)
 | .store _ a _=>bW (s.az a)
 | .alloc _| .box _ _| .makeMap _ _| .range _ _| .makeSlice _ _ _=>o.dst.toList.map fun d=>d+1
 | .convert _ _ x=>bW (s.az x)
 | .slice _ x _ _ _=>bW (s.az x)
 | .lookup _ x _ _=>bW (s.az x)
 | .mapUpdate _ m _ _=>bW (s.az m)
 | .insert _ m _ _=>bW (s.az m)
 | .next x _=>bW (s.az x)
 | .call ⟨.value y,args,_⟩=>(args.toList.flatMap fun x=>bW (s.az x))++(bW (s.az y)++o.dst.toList.map fun d=>d+1)
 | .call ⟨.builtin .copy,args,_⟩=>args.toList.flatMap fun x=>bW (s.az x)
 |_=>[]
def fD(ops:List Oper)(o:Oper)(i:Nat)(s:State)(u:Out):dy:=
 ⟨i,il (looks ops o),il (o.dst.toList++u.cl.map (·.1)),il (zv s o),il (u.bx.toList.map (·.1))⟩
def dy.apart(a b:dy):Bool:=
 Nat.beq (a.w&&&(b.r|||b.w)) 0&&(Nat.beq (b.w&&&a.r) 0&&(Nat.beq (a.bw&&&(b.br|||b.bw)) 0&&Nat.beq (b.bw&&&a.br) 0))
def ld:List Edge->Nat
 | []=>0
 |e::r=>bif Region.binds .any e then bit e.on|||ld r else ld r
def fits(m:Nat)(f:dy)(tr:List dy):Bool:=Nat.ble (m+1) (bit f.i)&&tr.all fun a=>m.testBit a.i||a.apart f
def ko(E:Env)(C:FuncId->bJ R)(ops:List Oper)(o:Oper)(i:Nat)(s:State)(tr:List dy)(K:State->List dy->Option R):Option R:=
 let go (s:State):Option R:=act E C ops o s fun u=>bif fits (ld o.after.toList) (fD ops o i s u) tr then K (s.apply o.dst u) (fD ops o i s u::tr) else none
 let pass (s:State):Option R:=bif fits (ld o.after.toList) (fD ops o i s {v:=[.skip]}) tr then K (s.apply o.dst {v:=[.skip]}) (fD ops o i s {v:=[.skip]}::tr) else none
 match o.guard with
 |none=>go s
 |some (g,want)=>match Lp ops g with
  |none=>none
  |some d=>match s.slot d with
   | [.ah .bool p []]=>bif p then(let s:=s.aJ (some d) (bl true);bif want then go s else pass s) else(let s:=s.aJ (some d) (bl false);bif want then pass s else go s)
   | [.skip]=>pass s
   |_=>none
def yC(E:Env)(C:FuncId->bJ R)(ops:List Oper):List Oper->Nat->State->List dy->(State->Option R)->Option R
 | [],_,s,_,K=>K s
 |o::r,i,s,tr,K=>ko E C ops o i s tr fun s tr=>yC E C ops r (i+1) s tr K
inductive Ex where
 |normal
 |exit (id:Nat)
 |ret
def sN:Code->Nat
 | .region id _ _=>id
 | .seq a _=>sN a
 | .cond _ a _=>sN a
 | .block _ b=>sN b
 | .loop b=>sN b
 |_=>0
def fm{α:Type}(z:α)(l:List Nat):Nat->List α->List α
 |_,[]=>[]
 |i,x::r=>(bif l.any (Nat.beq i) then x else z)::fm z l (i+1) r
def SV.roots(l:List Nat):SV->Bool
 | .ptr 0 _ _=>true
 | .ptr (id+1) _ _=>l.any (Nat.beq id)
 |_=>true
def TH:List Nat->List Nat->Bool
 | [],[]=>false
 | [],_::_=>true
 |_::_,[]=>false
 |a::p,b::q=>Nat.ble (a+1) b||(Nat.beq a b&&TH p q)
def sg(p:List Nat):List (List Nat)->List (List Nat)
 | []=>[p]
 |q::r=>bif TH q p then q::sg p r else p::q::r
def oP:List (List Nat)->List (List Nat)
 | []=>[]
 |p::r=>sg p (oP r)
def SV.norm:SV->SV
 | .ah t x own=> .ah t x (oP own)
 |v=>v
def bm.norm(B:bm):bm:={B with own:=oP B.own}
def State.norm(s:State):State:=⟨s.sl.map fun v=>v.map SV.norm,s.bs.map fun b=>b.map bm.norm⟩
def p6(l:List Nat)(s:State)(K:State->Option R):Option R:=
 let sl:=fm [.undef] l 0 s.sl
 bif sl.all (fun v=>v.all (SV.roots l)) then K (State.norm ⟨sl,s.bs.headD none::fm none l 0 s.bs.tail⟩) else none
def bT(k:Nat)(f:Unit->Option R):Option R:=
 match k with
 |0=>none
 |_+1=>f ()
def l7(E:Env)(k r:Nat)(s:State)(K:State->Option R):Option R:=
 match E.join r with
 |none=>K s
 |some l=>p6 l s fun s=>bT k fun _=>K s
def uN(id:Nat)(l:List SV):List SV:=l.map fun v=>match v with
 | .ptr j _ _=>bif Nat.beq j id then .undef else v
 |v=>v
def pS(E:Env)(r:Nat)(s:State)(K:State->Option R):Option R:=
 match E.fz r with
 |none=>K s
 |some (d,T)=>match s.slot d,E.ty T with
  | [.ptr id (.aV (.fU n) a b) []],some (.sl e t)=>if a.ci t=true then match s.box id with
    |some B=>if h:B.t.ci (.aV .row t b)=true then
      bif Nat.beq n (List.length (Ty.cast h B.x:List (El t))) then K {sl:=(s.sl.map (uN id)).set d [.ah (.sl e t) (Ty.cast h B.x:List (El t)) []],bs:=s.bs.set id none} else none
     else none
    |none=>none else none
  |_,_=>none
def wi(id:Nat)(B:bm)(v:SV):SV:=
 match v with
 | .ptr j t p=>bif Nat.beq j id then(if t.ci B.t=true then match El.get B.t p B.x with
    |some ⟨u,y⟩=> .view u y
    |none=> .undef else .undef) else .ptr j t p
 |v=>v
def P4(id:Nat)(s:State)(K:State->Option R):Option R:=
 match s.box id with
 |some B=>if B.t.bH=true then none else K {sl:=s.sl.map fun l=>l.map (wi id B),bs:=s.bs.set id none}
 |none=>none
def z85:List Nat->State->(State->Option R)->Option R
 | [],s,K=>K s
 |id::r,s,K=>P4 id s fun s=>z85 r s K
def ic(l:List Nat):Nat->List (Option bm)->List (Option bm)
 |_,[]=>[]
 |i,b::r=>(bif l.any (Nat.beq i) then b.map (fun B=>{B with own:=[]}) else b)::ic l (i+1) r
def State.drop(l:List Nat)(s:State):State:={s with bs:=ic l 0 s.bs}
def av(body:State->(Ex->State->Option R)->Option R)(l lx:List Nat):Nat->State->(Ex->State->Option R)->Option R
 |0,_,_=>none
 |k+1,s,K=>body s fun e s=>match e with
  | .normal=>p6 l s fun s=>av body l lx k s K
  |e=>p6 lx s fun s=>K e s
def Ty.flat:Ty->Bool
 | .sl _ _=>false
 | .aV _ _ _=>false
 | .arr _ t=>t.flat
 | .pair a b=>a.flat&&b.flat
 |_=>true
def SV.flat:SV->Bool
 | .ah t _ own=>t.flat&&own.isEmpty
 | .ptr _ _ _| .view _ _| .cap _ _ _ _ _=>false
 |_=>true
def ke(o:Nat):Nat->List (List SV)->Bool
 |_,[]=>true
 |i,l::r=>(Nat.beq i o||l.all SV.flat)&&ke o (i+1) r
def jn:Nat->Nat->List (List SV)->List (List SV)
 |0,_,sl=>sl
 |n+1,m,sl=>jn n (m+1) (sl.set m [.undef])
def isDst(o:Oper)(d:Nat):Bool:=
 match o.dst,o.guard with
 |some d',none=>Nat.beq d' d
 |_,_=>false
def eL(x:Operand)(i:Nat):Bool:=
 match x with
 | .tmp j=>Nat.beq j i
 |_=>false
def vh(E:Env)(T:TypeId):Bool:=
 match E.ty T with
 |some (.int .u8)=>true
 |_=>false
def P5(E:Env)(T:TypeId):Bool:=
 match E.ty T with
 |some (.sl _ (.int .u8))=>true
 |_=>false
def CE(o:Oper)(d x:Nat):Bool:=isDst o d&&(match o.op with
 | .move y=>eL y x
 |_=>false)
def isLen(E:Env)(o:Oper)(d x:Nat):Bool:=isDst o d&&(match o.op with
 | .call ⟨.builtin .len,dT,ts⟩=>match dT.toList,ts.toList with
   | [y],[T]=>eL y x&&P5 E T
   |_,_=>false
 |_=>false)
def Sl(o:Oper)(d x:Nat):Bool:=isDst o d&&(match o.op with
 | .binOp .sub _ y (.const (.int .i64 c)) _=>eL y x&&decide (c=1)
 |_=>false)
def vg(E:Env)(o:Oper)(d x i:Nat):Bool:=isDst o d&&(match o.op with
 | .indexAddr T y j=>eL y x&&(eL j i&&P5 E T)
 |_=>false)
def BI(E:Env)(o:Oper)(d x:Nat):Bool:=isDst o d&&(match o.op with
 | .load T y=>eL y x&&vh E T
 |_=>false)
def sj(o:Oper)(d x y:Nat):Bool:=isDst o d&&(match o.op with
 | .binOp .add _ u v _=>eL u x&&eL v y
 |_=>false)
def si(E:Env)(o:Oper)(x y:Nat):Bool:=(match o.dst,o.guard with
 |none,none=>true
 |_,_=>false)&&(match o.op with
 | .store T u v=>eL u x&&(eL v y&&vh E T)
 |_=>false)
def BL(E:Env)(o x m:Nat)(ops:List Oper):Bool:=
 match ops with
 | [a0,a1,a2,a3,a4,a5,a6,a7,a8,a9,yU,yV,a12,FQ]=>CE a0 m o&&(CE a1 (m+1) o&&(isLen E a2 (m+2) (m+1)&&(Sl a3 (m+3) (m+2)&&(CE a4 (m+4) o&&(CE a5 (m+5) o&&(isLen E a6 (m+6) (m+5)&&(Sl a7 (m+7) (m+6)&&(vg E a8 (m+8) (m+4) (m+7)&&(BI E a9 (m+9) (m+8)&&(CE yU (m+10) x&&(sj yV (m+11) (m+9) (m+10)&&(vg E a12 (m+12) m (m+3)&&si E FQ (m+12) (m+11)))))))))))))
 |_=>false
def x9(e:TypeId)(xs:List Int)(y:Int)(own:List (List Nat)):List SV:=[.ah (.sl e (.int .u8)) (xs.set (IntKind.i64.wrap ((xs.length:Int)-1)).toNat (IntKind.u8.wrap (xs.getD (IntKind.i64.wrap ((xs.length:Int)-1)).toNat 0+y)):List Int) own]
def kp(E:Env)(q:Nat×Nat×Nat)(ops:List Oper)(s:State)(K:State->Option R):Option R:=
 bif BL E q.1 q.2.1 q.2.2 ops then
  bif Nat.ble (q.1+1) q.2.2&&(Nat.ble (q.2.1+1) q.2.2&&(!(Nat.beq q.1 q.2.1)&&Nat.ble (q.2.2+13) s.sl.length)) then
   match s.slot q.1,s.slot q.2.1 with
   | [.ah (.sl e (.int .u8)) xs own],[.ah (.int .u8) y _]=>
     bif mG own [] then
      bif ke q.1 0 (jn 13 q.2.2 s.sl)&&s.bs.all Option.isNone then
       zd (IntKind.i64.wrap ((List.length (xs:List Int):Int)-1)) (List.length (xs:List Int)) (K ⟨(jn 13 q.2.2 s.sl).set q.1 (x9 e xs y own),s.bs⟩)
      else none
     else none
   |_,_=>none
  else none
 else none
def uO(own:List (List Nat)):List (List Nat):=own.filterMap fun p=>match p with
 |(j+1)::p=>some (j::p)
 |_=>none
def Ty.cp:Ty->List (List Nat)->Bool
 | .sl _ t,own=>t.flat&&mG own []
 | .pair a b,own=>a.cp (L9 own [0])&&b.cp (uO own)
 | .aV _ _ _,_=>false
 | .arr _ t,_=>t.flat
 |_,_=>true
def bm.cp(B:bm):Bool:= !B.t.bH&&B.t.cp B.own
def SV.cp(bs:List (Option bm)):SV->Bool
 | .ah t _ own=>t.cp own
 | .view _ _| .cap _ _ _ _ _=>false
 | .ptr id _ _=>match bs.getD id none with
   |some B=>B.cp
   |none=>false
 |_=>true
def hold(bs:List (Option bm))(l:List SV):List SV:=bif l.all (SV.cp bs) then l else [.undef]
def Sn:Option bm->Option bm
 |some B=>bif B.cp then some B else none
 |none=>none
def State.cp(x:Nat)(s:State):State:=⟨(s.sl.set x [.undef]).map (hold s.bs),s.bs.map Sn⟩
def sA(E:Env)(x d:Nat)(T T':TypeId)(i vo:Operand)(s:State)(K:State->Option R):Option R:=
 match s.slot x with
 | [.ah (.sl e t) xs own]=>bif mG own [] then
     match E.ty T,E.ty T' with
     |some u,some w=>bif u.ci (.sl e t)&&(w.ci t&&Nat.ble (d+1) s.sl.length) then
       (s.az i).num fun n=>((s.aJ (some d) [.undef]).az vo).el t fun _=>zd n (List.length (xs:List (El t))) (K ((s.aJ (some d) [.undef]).cp x))
      else none
     |_,_=>none
   else none
 |_=>none
def ss(o:Oper):Bool:=
 match o.dst,o.guard with
 |none,none=>true
 |_,_=>false
def iu(E:Env)(oA oS:Oper)(s:State)(K:State->Option R):Option R:=
 match oA.op,oS.op with
 | .indexAddr T (.tmp x) i,.store T' (.tmp d) vo=>bif isDst oA d&&(!(Nat.beq x d)&&ss oS) then sA E x d T T' i vo s K else none
 |_,_=>none
def P6{α:Type}:List α->Option (List α×α×α)
 | []=>none
 | [_]=>none
 | [a,b]=>some ([],a,b)
 |a::r=>match P6 r with
  |some (l,x,y)=>some (a::l,x,y)
  |none=>none
def kn(E:Env)(C:FuncId->bJ R)(ops:List Oper)(s:State)(K:State->Option R):Option R:=
 match P6 ops with
 |some (l,oA,oS)=>steps E C ops l s fun s=>iu E oA oS s K
 |none=>none
def Dx(E:Env)(C:FuncId->bJ R)(i:Nat)(ops:Array Oper)(d:Bool)(s:State)(K:State->Option R):Option R:=
 pS E i s fun s=>z85 (E.fr i) s fun s=>bif d then yC E C ops.toList ops.toList 0 s [] K else steps E C ops.toList ops.toList s K
def ev(E:Env)(C:FuncId->bJ R)(k:Nat):Code->State->(Ex->State->Option R)->Option R
 | .skip,s,K=>K .normal s
 | .region i ops d,s,K=>match E.sp with
   |some (j,q)=>bif Nat.beq i j then(match d with
    |true=>none
    |false=>bif Nat.beq q.2.2 0 then kn E C ops.toList s (K .normal) else kp E q ops.toList s (K .normal)) else Dx E C i ops d s (K .normal)
   |none=>Dx E C i ops d s (K .normal)
 | .seq a b,s,K=>ev E C k a s fun e s=>match e with
   | .normal=>l7 E k (sN b) s fun s=>ev E C k b s K
   |e=>K e s
 | .cond c a b,s,K=>match s.az c with
   | .ah .bool p _=>bif p then ev E C k a (s.aJ (sH c) (bl true)) K else ev E C k b (s.aJ (sH c) (bl false)) K
   |_=>none
 | .block id b,s,K=>ev E C k b s fun e s=>match e with
   | .exit j=>bif Nat.beq j id then K .normal s else K (.exit j) s
   |e=>K e s
 | .loop b,s,K=>p6 (E.di (sN b)) (s.drop (E.dr (sN b))) fun s=>av (ev E C k b) (E.di (sN b)) (E.kg (sN b)) k s K
 | .exit id,s,K=>K (.exit id) s
 | .ret,s,K=>K .ret s
 |_,_,_=>none
def fN(E:Env):State->List ResultVar->Option (List SV×State)
 |s,[]=>some ([],s)
 |s,.tmp t::r=>match fN E (s.close [(t,0)]) r with
  |some (l,s')=>some (one (s.slot t)::l,s')
  |none=>none
 |s,.cell p T::r=>match s.slot p,E.ty T with
  | [.ptr id u []],some t=>match s.box id with
    |some B=>if(t.ci B.t&& !u.bH)=true then match fN E (s.aC (some (id,{B with own:=[]}))) r with
      |some (l,s')=>some (.ah B.t B.x B.own::l,s')
      |none=>none
     else none
    |none=>none
  |_,_=>none
def yB:List SV->List Nat
 | []=>[]
 | .ptr id _ _::r=>id::yB r
 |_::r=>yB r
def DS(s:State)(bx:Option bm)(l:List SV)(K:List SV->Option bm->Option R):Option R:=
 match bx,yB l with
 |some _,[]=>match s.box 0 with
  |some B=>K l (some B)
  |none=>none
 |none,[]=>K l none
 |none,[id]=>match s.box id with
  |some B=>K (l.map (SV.gH 0)) (some B)
  |none=>none
 |_,_=>none
def io(E:Env)(l:List SV):List SV:=bif E.ro then l.map SV.shut else l
def aL:List Ty->List SV->List SV
 | .sl e t::r,.cr::q=> .ah (.sl e t) ([]:List (El t)) []::aL r q
 |_::r,v::q=>v.shut::aL r q
 | [],q=>q
 |_,[]=>[]
def iB(E:Env)(C:FuncId->bJ R)(k:Nat)(fn:Func)(code:Code)(vs:List SV)(bx:Option bm)(K:List SV->Option bm->Option R):Option R:=
 bif E.sp.isSome&&bx.isSome then none else
 let n:=fn.ntmps-vs.length
 let s:State:=⟨(aL E.ps vs).map (fun v=>[v])++List.replicate n [.undef],bx::List.replicate (vs.length+n) none⟩
 ev E C k code s fun e s=>match e with
  | .exit _=>none
  |_=>match fN E s fn.results.toList with
   |some (l,s')=>DS s' bx (io E l) K
   |none=>none
end
end Go.Ref

namespace Go.Ref
open Go
theorem zt{R S:Type}{sv:SV}{t:Ty}{F:El t->Option R}{G:El t->Option S}{K:S->Option R}(h:∀y,F y=(G y).bind K):sv.el t F=(sv.el t G).bind K:=by
 cases sv with
 |ah t' x own=>
  simp only[SV.el]
  split
  ·exact h _
  ·rfl
 |cr=>cases t<;>simp only[SV.el]<;>first|rfl|exact h _
 |_=>rfl
theorem zl{R S:Type}{b:Bool}{x y:Option R}{x' y':Option S}{K:S->Option R}(h:x=x'.bind K)(k:y=y'.bind K):(bif b then x else y)=(bif b then x' else y').bind K:=by
 cases b
 ·exact k
 ·exact h
theorem zo{R S:Type}{c:Prop}[Decidable c]{x y:Option R}{x' y':Option S}{K:S->Option R}(h:x=x'.bind K)(k:y=y'.bind K):(if c then x else y)=(if c then x' else y').bind K:=by
 split
 ·exact h
 ·exact k
section
variable {R:Type}
theorem zo4{op:BinOp}{k k':IntKind}{m n:Int}{K:List SV->Option R}:pH op k m k' n K=(pH op k m k' n some).bind K:=by
 unfold pH
 cases op<;>simp only<;>repeat(first|rfl|refine zl ?_ ?_|refine zo ?_ ?_)
theorem zo6{op:BinOp}{m n:ByteArray}{K:List SV->Option R}:pI op m n K=(pI op m n some).bind K:=by
 unfold pI
 cases op<;>simp only<;>repeat(first|rfl|refine zl ?_ ?_|refine zo ?_ ?_)
theorem zo3{E:Env}{op:BinOp}{T:TypeId}{x y:SV}{K:List SV->Option R}:pG E op T x y K=(pG E op T x y some).bind K:=by
 unfold pG
 split
 ·refine zo rfl (zt fun a=>zt fun b=> ?_)
  split
  ·cases op<;>rfl
  ·rfl
 ·rfl
theorem aeQ{E:Env}{op:BinOp}{T:TypeId}{x y:SV}{S:Type}{F:List SV->Option R}{G:List SV->Option S}{K:S->Option R}(h:∀l,F l=(G l).bind K):bin E op T x y F=(bin E op T x y G).bind K:=by
 unfold bin
 split
 ·rw[zo4,zo4 (K:=G),Option.bind_assoc];congr;funext l;exact h l
 ·rw[zo6,zo6 (K:=G),Option.bind_assoc];congr;funext l;exact h l
 ·refine zo rfl ?_;cases op<;>simp only<;>first|exact h _|rfl
 ·refine zo rfl ?_;cases op<;>simp only<;>first|exact h _|rfl
 ·rw[zo3,zo3 (K:=G),Option.bind_assoc];congr;funext l;exact h l
theorem C3{S:Type}{i:Int}{n:Nat}{x:Option R}{x':Option S}{K:S->Option R}(h:x=x'.bind K):zd i n x=(zd i n x').bind K:=by
 unfold zd
 exact zl (zl h rfl) rfl
theorem zci{S:Type}{lo:Option SV}{m:Nat}{F:Nat->Option R}{G:Nat->Option S}{K:S->Option R}(h:∀l,F l=(G l).bind K):vZ lo m F=(vZ lo m G).bind K:=by
 unfold vZ
 cases lo with
 |none=>exact h _
 |some v=>exact zt fun y=>zl (zl (h _) rfl) rfl
theorem zyp{S:Type}{lo hi:Option SV}{n:Nat}{F:Nat->Nat->Option R}{G:Nat->Nat->Option S}{K:S->Option R}(h:∀l h,F l h=(G l h).bind K):cutAt lo hi n F=(cutAt lo hi n G).bind K:=by
 unfold cutAt
 cases hi with
 |none=>exact zci fun l=>h _ _
 |some w=>exact zt fun y=>zl (zl (zci fun l=>h _ _) rfl) rfl
theorem zsm{S:Type}{t:Ty}{F:El t->List (List Nat)->Option R}{G:El t->List (List Nat)->Option S}{K:S->Option R}(h:∀y o,F y o=(G y o).bind K):∀(l:List (Nat×SV×List (List Nat))) (x:El t) (own:List (List Nat)),p5 t x own l F=(p5 t x own l G).bind K
 | [],x,own=>by simpa [p5] using h x own
 |(i,v,ov)::r,x,own=>by
  simp only[p5]
  refine zo rfl ?_
  split
  ·refine zt fun y=> ?_
   split
   ·exact zsm h r _ _
   ·rfl
  ·rfl
theorem zsn{S:Type}{t:Ty}{F:List (El t)->Option R}{G:List (El t)->Option S}{K:S->Option R}(h:∀y,F y=(G y).bind K):∀(l:List (Nat×SV)) (x:List (El t)),yz t x l F=(yz t x l G).bind K
 | [],x=>by simpa [yz] using h x
 |(i,v)::r,x=>by
  simp only[yz]
  exact zo rfl (zt fun y=>zsn h r _)
variable {S:Type} {F:Out->Option R} {G:Out->Option S} {K:S->Option R}
theorem z162{u:Ty}{s:State}{id:Nat}{t:Ty}{p:List Nat}(h:∀y,F y=(G y).bind K):Cg u s id t p F=(Cg u s id t p G).bind K:=by
 unfold Cg
 split
 ·split
  ·split
   ·exact zo (zl (h _) rfl) rfl
   ·rfl
  ·rfl
 ·rfl
theorem VL{u:Ty}{s:State}{id:Nat}{t:Ty}{p:List Nat}{v:SV}(h:∀y,F y=(G y).bind K):BW u s id t p v F=(BW u s id t p v G).bind K:=by
 unfold BW
 split
 ·split
  ·split
   ·exact zo (zt fun y=>zl (h _) rfl) rfl
   ·rfl
  ·rfl
 ·rfl
theorem VE{t:Ty}{n:Int}{id:Nat}{r:Ty}{p:List Nat}(h:∀y,F y=(G y).bind K):z91 t n id r p F=(z91 t n id r p G).bind K:=by
 unfold z91
 split
 ·exact zo (C3 (h _)) rfl
 ·rfl
theorem Wb{u:Ty}{B:bm}{t:Ty}{p:List Nat}(h:∀y,F y=(G y).bind K):Dw u B t p F=(Dw u B t p G).bind K:=by
 unfold Dw
 split
 ·split
  ·exact zo (zl (h _) rfl) rfl
  ·rfl
 ·rfl
theorem acA{E:Env}{T:TypeId}{s:State}{la:Bool}{v:SV}(h:∀y,F y=(G y).bind K):load E T s la v F=(load E T s la v G).bind K:=by
 unfold load
 split
 ·split
  ·exact zo (h _) rfl
  ·refine zo (z162 h) ?_
   split
   ·refine zo ?_ (Wb h)
    split
    ·exact zo (zl (h _) (h _)) rfl
    ·rfl
   ·rfl
  ·rfl
 ·rfl
theorem ZG{E:Env}{T:TypeId}{s:State}{v:SV}{x:Operand}(h:∀y,F y=(G y).bind K):store E T s v x F=(store E T s v x G).bind K:=by
 unfold store
 split
 ·split
  ·refine zo (VL h) ?_
   split
   ·refine zo ?_ rfl
    split
    ·refine zo (zt fun y=> ?_) rfl
     split
     ·exact h _
     ·rfl
    ·rfl
   ·rfl
  ·rfl
 ·rfl
theorem WE{t:Option Ty}{v:SV}{j:Nat}(h:∀y,F y=(G y).bind K):L3 t v j F=(L3 t v j G).bind K:=by
 unfold L3
 split
 ·refine zo rfl ?_
  split
  ·refine zo ?_ rfl
   split
   ·exact zo rfl (h _)
   ·rfl
  ·rfl
 ·refine zo ?_ rfl
  split
  ·exact zo rfl (h _)
  ·rfl
 ·rfl
theorem zxt{v:SV}{F':Int->Option R}{G':Int->Option S}{K:S->Option R}(h:∀n,F' n=(G' n).bind K):v.num F'=(v.num G').bind K:=by
 unfold SV.num
 split
 ·exact h _
 ·rfl
theorem WM{E:Env}{T:TypeId}{v i:SV}(h:∀y,F y=(G y).bind K):L5 E T v i F=(L5 E T v i G).bind K:=by
 unfold L5
 refine zxt fun n=> ?_
 split
 ·exact zt fun y=>C3 (h _)
 ·refine zo rfl ?_
  split
  ·exact zo (C3 (h _)) rfl
  ·rfl
 ·exact zt fun y=>C3 (h _)
 ·exact VE h
 ·rfl
theorem WN{E:Env}{T:TypeId}{v i:SV}(h:∀y,F y=(G y).bind K):L6 E T v i F=(L6 E T v i G).bind K:=by
 unfold L6
 refine zxt fun n=> ?_
 split
 ·exact zt fun y=>C3 (h _)
 ·exact zt fun y=>C3 (h _)
 ·rfl
theorem ab8{E:Env}{T:TypeId}{v:SV}{lo hi:Option SV}(h:∀y,F y=(G y).bind K):pK E T v lo hi F=(pK E T v lo hi G).bind K:=by
 unfold pK
 split
 ·exact zt fun y=>zyp fun _ _=>h _
 ·exact zt fun y=>zyp fun _ _=>h _
 ·rfl
theorem V0{E:Env}{T U:TypeId}{bo:Operand}{b x:SV}(h:∀y,F y=(G y).bind K):Lk E T U bo b x F=(Lk E T U bo b x G).bind K:=by
 unfold Lk
 refine zo rfl ?_
 split
 ·refine zo rfl ?_
  split
  ·exact zt fun y=>zl (h _) rfl
  ·exact zo rfl (zt fun y=>zt fun z=>zl (h _) rfl)
  ·rfl
 ·rfl
theorem acx{E:Env}{T:TypeId}{x:SV}(h:∀y,F y=(G y).bind K):sm E T x F=(sm E T x G).bind K:=by
 unfold sm
 split
 ·exact zt fun y=>h _
 ·split
  ·exact h _
  ·exact zt fun y=>h _
 ·exact h _
 ·rfl
theorem YM{E:Env}{S' T:TypeId}{x:SV}(h:∀y,F y=(G y).bind K):kc E S' T x F=(kc E S' T x G).bind K:=by
 unfold kc
 split
 ·exact zt fun y=>h _
 ·exact zt fun y=>h _
 ·exact zt fun y=>h _
 ·rfl
theorem YL{E:Env}{S' T:TypeId}{s:State}{id n:Nat}{a b:Ty}(h:∀y,F y=(G y).bind K):jc E S' T s id n a b F=(jc E S' T s id n a b G).bind K:=by
 unfold jc
 split
 ·refine zo ?_ rfl
  split
  ·split
   ·exact zl (h _) rfl
   ·rfl
  ·rfl
 ·rfl
theorem zoh{s:State}{dst:Option Nat}{t:Ty}{x:El t}{p:Ty}(h:∀y,F y=(G y).bind K):jr s dst t x p F=(jr s dst t x p G).bind K:=by
 unfold jr
 split
 ·split
  ·exact h _
  ·rfl
 ·rfl
theorem zt4{s:State}{m:SV}{kt vt:Ty}{F:Nat->List (El kt×El vt)->Option R}{G:Nat->List (El kt×El vt)->Option S}{K:S->Option R}(h:∀n y,F n y=(G n y).bind K):tD s m kt vt F=(tD s m kt vt G).bind K:=by
 unfold tD
 split
 ·refine zo ?_ rfl
  split
  ·split
   ·exact h _ _
   ·rfl
  ·rfl
 ·rfl
theorem Zc{E:Env}{T:TypeId}{s:State}{m i:SV}(h:∀y,F y=(G y).bind K):ki E T s m i F=(ki E T s m i G).bind K:=by
 unfold ki
 split
 ·exact zt4 fun _ _=>zt fun _=>h _
 ·rfl
theorem Is{E:Env}{T:TypeId}{s:State}{m i v:SV}(h:∀y,F y=(G y).bind K):kU E T s m i v F=(kU E T s m i v G).bind K:=by
 unfold kU
 split
 ·exact zt4 fun _ _=>zt fun _=>zt fun _=>zl rfl (h _)
 ·rfl
theorem Zh{s:State}{m:SV}(h:∀y,F y=(G y).bind K):kl s m F=(kl s m G).bind K:=by
 unfold kl
 split
 ·split
  ·split
   ·exact zl (h _) (h _)
   ·rfl
  ·rfl
 ·rfl
theorem Ze{E:Env}{T:TypeId}{s:State}{dst:Option Nat}{lo:Operand}{l c:SV}(h:∀y,F y=(G y).bind K):kj E T s dst lo l c F=(kj E T s dst lo l c G).bind K:=by
 unfold kj
 split
 ·exact zo rfl (zt fun n=>zt fun m=>zl (zl (zl (zl (h _) rfl) rfl) rfl) (zl (zl (zl (zoh h) rfl) rfl) rfl))
 ·rfl
theorem afo{op:UnOp}{x:SV}(h:∀y,F y=(G y).bind K):Hd op x F=(Hd op x G).bind K:=by
 unfold Hd
 split
 ·exact h _
 ·exact h _
 ·rfl
end
abbrev ag:=(R:Type)->FuncId->bJ R
def ag.Nat(C:ag):Prop:=∀(R S:Type) (f:FuncId) l b (F:List SV->Option bm->Option R) (G:List SV->Option bm->Option S) (K:S->Option R),(∀r b,F r b=(G r b).bind K)->C R f l b F=(C S f l b G).bind K
section
variable {R S:Type} {F:Out->Option R} {G:Out->Option S} {K:S->Option R} {C:ag}
theorem M9(hC:C.Nat){s:State}{dst:Option Nat}{f:FuncId}{vs:List SV}(h:∀y,F y=(G y).bind K):fb (C R) s dst f vs F=(fb (C S) s dst f vs G).bind K:=by
 unfold fb
 split
 ·refine hC R S f _ _ _ _ K fun r b=> ?_
  split
  ·exact h _
  ·split
   ·split
    ·exact h _
    ·rfl
   ·rfl
 ·refine hC R S f _ _ _ _ K fun r b=> ?_
  split
  ·exact zo (h _) rfl
  ·rfl
 ·rfl
theorem YJ{f:FuncId}{x:SV}(h:∀y,F y=(G y).bind K):lN f x F=(lN f x G).bind K:=by
 unfold lN
 split
 ·exact zo rfl (h _)
 ·rfl
theorem ab1{f:FuncId}{x y:SV}(h:∀y,F y=(G y).bind K):rA f x y F=(rA f x y G).bind K:=by
 unfold rA
 split
 ·exact h _
 ·rfl
theorem ab7{n id:Nat}{a b:Ty}{lo hi:Option SV}(h:∀y,F y=(G y).bind K):rC n id a b lo hi F=(rC n id a b lo hi G).bind K:=by
 unfold rC
 split
 ·rfl
 ·exact zci fun l=>h _
theorem zyo{t:Ty}{s:State}{id n lo:Nat}{a b:Ty}{x:SV}{e:TypeId}(h:∀y,F y=(G y).bind K):gw t s id n lo a b x e F=(gw t s id n lo a b x e G).bind K:=by
 unfold gw
 refine zo (zt fun ys=> ?_) rfl
 split
 ·split
  ·exact zl (zl (h _) rfl) rfl
  ·rfl
 ·rfl
theorem ab6{E:Env}{T:TypeId}{s:State}{id n:Nat}{t:Ty}{lo hi:Option SV}(h:∀y,F y=(G y).bind K):pJ E T s id n t lo hi F=(pJ E T s id n t lo hi G).bind K:=by
 unfold pJ
 split
 ·refine zo ?_ rfl
  split
  ·split
   ·exact h _
   ·rfl
  ·rfl
 ·rfl
theorem YN{t:Ty}{s:State}{id n:Nat}{a b:Ty}{y:ByteArray}(h:∀y,F y=(G y).bind K):jd t s id n a b y F=(jd t s id n a b y G).bind K:=by
 unfold jd
 refine zo (zo ?_ rfl) rfl
 split
 ·split
  ·exact zl (h _) rfl
  ·rfl
 ·rfl
theorem YO{E:Env}{T:TypeId}{s:State}{d x:SV}(h:∀y,F y=(G y).bind K):copyV E T s d x F=(copyV E T s d x G).bind K:=by
 unfold copyV
 split
 ·split
  ·exact YN h
  ·exact zyo h
 ·exact zyo h
 ·rfl
theorem zzl{g:Bool}{x y:SV}(h:∀y,F y=(G y).bind K):jq g x y F=(jq g x y G).bind K:=by
 unfold jq
 split
 ·exact h _
 ·rfl
theorem H8{E:Env}{T:TypeId}(h:∀y,F y=(G y).bind K):nh E T F=(nh E T G).bind K:=by
 unfold nh
 split
 ·exact h _
 ·exact h _
theorem vQ(hC:C.Nat){E:Env}{ops:List Oper}{o:Oper}{s:State}(h:∀y,F y=(G y).bind K):act E (C R) ops o s F=(act E (C S) ops o s G).bind K:=by
 unfold act
 split
 ·split
  ·exact zl (h _) (h _)
  ·split
   ·exact zl (h _) (h _)
   ·rfl
   ·exact H8 h
   ·exact h _
 ·split
  ·exact h _
  ·rfl
  ·exact H8 h
  ·exact h _
 ·split
  ·exact zl (h _) (h _)
  ·rfl
 ·exact aeQ fun l=>h _
 ·exact afo h
 ·split
  ·exact YL h
  ·exact YM h
 ·exact acA h
 ·exact ZG h
 ·split
  ·exact zo rfl (h _)
  ·exact h _
  ·rfl
 ·exact WE h
 ·exact WM h
 ·exact WN h
 ·split
  ·refine zo rfl (zt fun y=> ?_)
   split
   ·exact h _
   ·rfl
  ·rfl
 ·split
  ·split
   ·exact zo (ab7 h) rfl
   ·rfl
  ·exact ab6 h
  ·exact ab8 h
 ·split
  ·exact YJ h
  ·exact ab1 h
  ·rfl
 ·split
  ·split
   ·exact h _
   ·rfl
  ·split
   ·split
    ·exact h _
    ·rfl
   ·rfl
  ·rfl
 ·split
  ·split
   ·exact zt fun y=>h _
   ·rfl
  ·rfl
 ·split
  ·exact zo rfl (zsm (fun y o=>h _) _ _ _)
  ·rfl
 ·split
  ·exact zo rfl (zl (zsn (fun y=>h _) _ _) rfl)
  ·rfl
 ·split
  ·refine zo ?_ ?_
   ·split
    ·exact h _
    ·rfl
   split
   ·exact h _
   ·rfl
   ·exact h _
   ·rfl
  ·rfl
 ·split
  ·exact zoh h
  ·rfl
 ·exact Zc h
 ·exact Is h
 ·exact Is h
 ·split
  ·exact zt fun y=>zoh h
  ·rfl
 ·exact Zh h
 ·exact Ze h
 ·exact M9 hC fun u=>h _
 ·split
  ·exact zo rfl (M9 hC h)
  ·exact M9 hC h
  ·rfl
 ·split
  ·exact YO h
  ·rfl
 ·split
  ·exact acx h
  ·rfl
 ·split
  ·exact V0 h
  ·rfl
 ·split
  ·exact zzl h
  ·rfl
 ·split
  ·exact zzl h
  ·rfl
 ·rfl
end
section
variable {R S:Type} {F:State->Option R} {G:State->Option S} {K:S->Option R} {C:ag}
theorem zoo(hC:C.Nat){E:Env}{ops:List Oper}{o:Oper}{s:State}(h:∀y,F y=(G y).bind K):step E (C R) ops o s F=(step E (C S) ops o s G).bind K:=by
 unfold step
 simp only
 split
 ·exact vQ hC fun y=>h _
 ·split
  ·rfl
  ·split
   ·exact zl (zl (vQ hC fun y=>h _) (h _)) (zl (h _) (vQ hC fun y=>h _))
   ·exact h _
   ·rfl
theorem KC(hC:C.Nat){E:Env}{ops:List Oper}(h:∀y,F y=(G y).bind K):∀(l:List Oper) (s:State),steps E (C R) ops l s F=(steps E (C S) ops l s G).bind K
 | [],s=>h s
 |o::r,s=>by
  simp only[steps]
  exact zoo hC fun s=>KC hC h r s
theorem ZE(hC:C.Nat){E:Env}{ops:List Oper}{o:Oper}{i:Nat}{s:State}{tr:List dy}{F:State->List dy->Option R}{G:State->List dy->Option S}(h:∀y t,F y t=(G y t).bind K):ko E (C R) ops o i s tr F=(ko E (C S) ops o i s tr G).bind K:=by
 unfold ko
 simp only
 split
 ·exact vQ hC fun y=>zl (h _ _) rfl
 ·split
  ·rfl
  ·split
   ·exact zl (zl (vQ hC fun y=>zl (h _ _) rfl) (zl (h _ _) rfl)) (zl (zl (h _ _) rfl) (vQ hC fun y=>zl (h _ _) rfl))
   ·exact zl (h _ _) rfl
   ·rfl
theorem zcv(hC:C.Nat){E:Env}{ops:List Oper}(h:∀y,F y=(G y).bind K):∀(l:List Oper) (i:Nat) (s:State) (tr:List dy),yC E (C R) ops l i s tr F=(yC E (C S) ops l i s tr G).bind K
 | [],i,s,tr=>h s
 |o::r,i,s,tr=>by
  simp only[yC]
  exact ZE hC fun s tr=>zcv hC h r (i+1) s tr
theorem Kw{l:List Nat}{s:State}(h:∀y,F y=(G y).bind K):p6 l s F=(p6 l s G).bind K:=by
 unfold p6
 exact zl (h _) rfl
end
theorem Za{R S:Type}{k:Nat}{F:Unit->Option R}{G:Unit->Option S}{K:S->Option R}(h:F ()=(G ()).bind K):bT k F=(bT k G).bind K:=by
 unfold bT
 cases k
 ·rfl
 ·exact h
theorem acB{R S:Type}{F:State->Option R}{G:State->Option S}{K:S->Option R}{E:Env}{k r:Nat}{s:State}(h:∀y,F y=(G y).bind K):l7 E k r s F=(l7 E k r s G).bind K:=by
 unfold l7
 split
 ·exact h _
 ·exact Kw fun s=>Za (h _)
theorem ac2{R S:Type}{F:State->Option R}{G:State->Option S}{K:S->Option R}{E:Env}{r:Nat}{s:State}(h:∀y,F y=(G y).bind K):pS E r s F=(pS E r s G).bind K:=by
 unfold pS
 split
 ·exact h _
 ·split
  ·refine zo ?_ rfl
   split
   ·split
    ·exact zl (h _) rfl
    ·rfl
   ·rfl
  ·rfl
theorem zm7{R S:Type}{F:State->Option R}{G:State->Option S}{K:S->Option R}(h:∀y,F y=(G y).bind K):∀(l:List Nat) (s:State),z85 l s F=(z85 l s G).bind K
 | [],s=>h s
 |id::r,s=>by
  simp only[z85]
  unfold P4
  split
  ·exact zo rfl (zm7 h r _)
  ·rfl
section
variable {R S:Type} {F:Ex->State->Option R} {G:Ex->State->Option S} {K:S->Option R} {C:ag}
theorem zzk{body:State->(Ex->State->Option R)->Option R}{body':State->(Ex->State->Option S)->Option S}{l lx:List Nat}
 (hb:∀(F:Ex->State->Option R) (G:Ex->State->Option S),(∀e s,F e s=(G e s).bind K)->∀s,body s F=(body' s G).bind K) (h:∀e s,F e s=(G e s).bind K):
 ∀(k:Nat) (s:State),av body l lx k s F=(av body' l lx k s G).bind K
 |0,_=>rfl
 |k+1,s=>by
  simp only[av]
  refine hb _ _ (fun e s=> ?_) s
  cases e with
  |normal=>exact Kw fun s=>zzk hb h k s
  |exit id=>exact Kw fun s=>h _ _
  |ret=>exact Kw fun s=>h _ _
theorem Ip{E:Env}{q:Nat×Nat×Nat}{ops:List Oper}{s:State}{F:State->Option R}{G:State->Option S}{K:S->Option R}(h:∀s,F s=(G s).bind K):kp E q ops s F=(kp E q ops s G).bind K:=by
 unfold kp
 refine zl (zl ?_ rfl) rfl
 split
 ·refine zl (zl ?_ rfl) rfl
  unfold zd
  exact zl (zl (h _) rfl) rfl
 ·rfl
theorem Zp{E:Env}{oA oS:Oper}{s:State}{F:State->Option R}{G:State->Option S}{K:S->Option R}(h:∀s,F s=(G s).bind K):iu E oA oS s F=(iu E oA oS s G).bind K:=by
 unfold iu
 split
 ·refine zl ?_ rfl
  unfold sA
  split
  ·refine zl ?_ rfl
   split
   ·refine zl (zxt fun n=>zt fun y=> ?_) rfl
    unfold zd
    exact zl (zl (h _) rfl) rfl
   ·rfl
  ·rfl
 ·rfl
theorem Ig(hC:C.Nat){E:Env}{ops:List Oper}{s:State}{F:State->Option R}{G:State->Option S}(h:∀s,F s=(G s).bind K):kn E (C R) ops s F=(kn E (C S) ops s G).bind K:=by
 unfold kn
 split
 ·exact KC hC (fun s=>Zp h) _ _
 ·rfl
theorem tC(hC:C.Nat){E:Env}{k:Nat}:∀(c:Code) (F:Ex->State->Option R) (G:Ex->State->Option S),(∀e s,F e s=(G e s).bind K)->∀s,ev E (C R) k c s F=(ev E (C S) k c s G).bind K
 | .skip,F,G,h,s=>h _ _
 | .region i ops d,F,G,h,s=>by
   simp only[ev]
   have key:Dx E (C R) i ops d s (F .normal)=(Dx E (C S) i ops d s (G .normal)).bind K:=ac2 fun s=>zm7 (fun s=>zl (zcv hC (fun s=>h _ _) _ _ _ _) (KC hC (fun s=>h _ _) _ _)) _ _
   split
   ·refine zl ?_ key
    cases d with
    |true=>rfl
    |false=>exact zl (Ig hC fun s=>h _ _) (Ip fun s=>h _ _)
   ·exact key
 | .seq a b,F,G,h,s=>by
   simp only[ev]
   refine tC hC a _ _ (fun e s=> ?_) s
   cases e with
   |normal=>exact acB fun s=>tC hC b _ _ h s
   |exit id=>exact h _ _
   |ret=>exact h _ _
 | .cond c a b,F,G,h,s=>by
   simp only[ev]
   split
   ·exact zl (tC hC a _ _ h _) (tC hC b _ _ h _)
   ·rfl
 | .block id b,F,G,h,s=>by
   simp only[ev]
   refine tC hC b _ _ (fun e s=> ?_) s
   cases e with
   |normal=>exact h _ _
   |exit j=>exact zl (h _ _) (h _ _)
   |ret=>exact h _ _
 | .loop b,F,G,h,s=>by
   simp only[ev]
   exact Kw fun s=>zzk (fun F G h s=>tC hC b F G h s) h k s
 | .exit id,F,G,h,s=>h _ _
 | .ret,F,G,h,s=>h _ _
 | .rangeFunc ..,F,G,h,s=>rfl
 | .scope _,F,G,h,s=>rfl
 | .label _,F,G,h,s=>rfl
 | .goto _,F,G,h,s=>rfl
 | .refuse _,F,G,h,s=>rfl
end
theorem lg{R S:Type}{x:Option R}{y:Option S}{K:S->Option R}(h:x=y.bind K){z:R}(hz:x=some z):∃w,y=some w/\K w=some z:=by
 rw[h] at hz
 exact Option.bind_eq_some_iff.1 hz
end Go.Ref

namespace Go.Ref
open Go
def dx(t:Ty)(cs:List Value):Value:=if t.agg=true then .agg cs.toArray else cs.headD undef
def bj(X:aq)(pl:Place)(e:TypeId)(k n:Nat)(v:Value):Prop:=
 (v= .slice none 0 0/\n=0)\/∃g cap cur,v= .slice (some ⟨g,0,none⟩) n cap/\X.w.heap[g]? =some (.cells cur e (0,0))/\n<=cap/\cap<=maxLen/\cur.size=cap*k/\X.ow g= .row pl (n*k)
def bg(X:aq)(pl:List Nat->Place)(t:Ty)(x:El t)(cs:List Value)(own:List (List Nat)):Prop:=
 ∀p∈own,∃e t' xs v,t.eS p/\El.get t p x=some ⟨.sl e t',xs⟩/\cs[t.off p]? =some v/\bj X (pl p) e t'.cells (List.length xs) v
def nj(t:Ty)(p:List Nat)(r:Nat)(v:Value):Prop:=
 match t,p with
 | .aV .mp _ _,_=>v= .map (some r)
 | .aV (.fU n) _ _,[]=>∃cap,v= .slice (some ⟨r,0,none⟩) n cap/\n<=cap
 | .aV (.fU n) a _,[l]=>∃cap off,v= .slice (some ⟨r,off,none⟩) (n-l) cap/\n-l<=cap/\l<=n/\((n=l/\off=0)\/off=l*a.cells)
 | .aV (.qc f) _ _,[]=>v= .func (.func f) #[] #[.pointer (some ⟨r,0,none⟩)]
 | .aV .row a _,[i]=>v= .pointer (some ⟨r,i*a.cells,none⟩)
 |t,p=>v= .pointer (some ⟨r,t.off p,none⟩)/\t.eS p
theorem oU{t:Ty}{p:List Nat}{r:Nat}{v:Value}(h:t.bH=false):nj t p r v↔v= .pointer (some ⟨r,t.off p,none⟩)/\t.eS p:=by
 unfold nj
 split
 all_goals first
  |exact Iff.rfl
  |simp [Ty.bH] at h
theorem KH{t:Ty}{p:List Nat}{r:Nat}{v:Value}(h:t.oO=false):nj t p r v↔v= .pointer (some ⟨r,t.off p,none⟩)/\t.eS p:=by
 unfold nj
 split
 all_goals first
  |exact Iff.rfl
  |simp [Ty.oO] at h
def au(X:aq)(pl:List Nat->Place):SV->Value->Prop
 | .undef,_=>True
 | .skip,v=>v=Go.undef
 | .cr,v=>v= .slice none 0 0
 | .gF,v=>v= .pointer none
 | .ah t x own,v=>∃cs,aR X t x cs/\v=dx t cs/\bg X pl t x cs own
 | .ptr id t p,v=>∃r,X.β id=some r/\nj t p r v
 | .view t x,v=>∃ad cs,v= .pointer (some ad)/\ad.spot=none/\aR X t x cs/\∀i u,cs[i]? =some u->X.aw (ad.add i) u
 | .cap f t x u y,v=>∃ad oH cs dU,v= .func (.func f) #[] #[.pointer (some ad),.pointer (some oH)]/\(ad.spot=none/\aR X t x cs/\∀i w,cs[i]? =some w->X.aw (ad.add i) w)/\(oH.spot=none/\aR X u y dU/\∀i w,dU[i]? =some w->X.aw (oH.add i) w)
 | .over,v=>v= .tuple #[.bool false]
theorem ti{X Y:aq}{pl iG:List Nat->Place}(h:∀a v,X.aw a v->Y.aw a v){f:Nat}{t u:Ty}{x:El t}{y:El u}{v:Value}(hr:au X pl (.cap f t x u y) v):au Y iG (.cap f t x u y) v:=by
 obtain⟨ad,oH,cs,dU,h1,⟨h2,h3,h4⟩,h5,h6,h7⟩:=hr
 exact⟨ad,oH,cs,dU,h1,⟨h2,h3.al h,fun i w hi=>h _ _ (h4 i w hi)⟩,h5,h6.al h,fun i w hi=>h _ _ (h7 i w hi)⟩
def cB(X:aq)(pl:Nat->List Nat->Place)(l:List SV)(v:Value):Prop:=
 match l with
 | [s]=>au X (pl 0) s v
 |l=>∃vs:Array Value,v= .tuple vs/\vs.size=l.length/\∀(j:Nat) s u,l[j]? =some s->vs[j]? =some u->au X (pl j) s u
def dz(X:aq)(t:Ty)(x:El t)(v:Value):Prop:=∃cs,aR X t x cs/\v=dx t cs
def dg(X:aq)(r:Nat)(pl:List Nat->Place):(t:Ty)->El t->List (List Nat)->Prop
 | .aV .iter _ _,x,_=>X.w.heap[r]? =some (.stringIter x.1 x.2)
 | .aV .mp kt vt,x,_=>∃es clock,X.w.heap[r]? =some (.map es clock)/\es.size=List.length x/\∀(i:Nat) (q:El kt×El vt) (e:MapEntry),x[i]? =some q->es[i]? =some e->dz X kt q.1 e.key/\dz X vt q.2 e.val
 | .aV .row t _,xs,_=>∃cs T,X.w.heap[r]? =some (.cells cs T (0,0))/\cs.size=List.length xs*t.cells/\∀(j:Nat) (x:El t),xs[j]? =some x->aR X t x ((cs.toList.drop (j*t.cells)).take t.cells)
 | .aV (.fF T e) _ _,x,own=>(∃o,X.w.heap[r]? =some o)/\([]∈own->∃v,sU T e r v (Lib.strCells x) X.w/\∀g,v.ownBlock=some g->X.ow g= .row (pl []) 0)
 | .aV _ _ _,_,_=>False
 |t,x,own=>∃cs T,X.w.heap[r]? =some (.cells cs T (0,0))/\aR X t x cs.toList/\bg X pl t x cs.toList own
theorem dg.plain{X:aq}{r:Nat}{pl:List Nat->Place}{t:Ty}{x:El t}{own:List (List Nat)}(hs:t.bH=false):dg X r pl t x own↔∃cs T,X.w.heap[r]? =some (.cells cs T (0,0))/\aR X t x cs.toList/\bg X pl t x cs.toList own:=by
 cases t<;>first|exact Iff.rfl|simp [Ty.bH] at hs
theorem dg.of{X:aq}{r:Nat}{pl:List Nat->Place}{t:Ty}{x:El t}{own:List (List Nat)}{cs:Array Value}{T:TypeId}(hs:t.bH=false)(h1:X.w.heap[r]? =some (.cells cs T (0,0)))(h2:aR X t x cs.toList)(h3:bg X pl t x cs.toList own):dg X r pl t x own:=(dg.plain hs).2 ⟨cs,T,h1,h2,h3⟩
theorem dz.mono{X Y:aq}(h:∀a v,X.aw a v->Y.aw a v){t:Ty}{x:El t}{v:Value}(hr:dz X t x v):dz Y t x v:=by
 obtain⟨cs,h1,h2⟩:=hr
 exact⟨cs,h1.al h,h2⟩
theorem dg.lt{X:aq}{r:Nat}{pl:List Nat->Place}{t:Ty}{x:El t}{own:List (List Nat)}(h:dg X r pl t x own):r<X.w.heap.size:=by
 have key:∀o,X.w.heap[r]? =some o->r<X.w.heap.size:=fun o ho=>(Array.getElem?_eq_some_iff.1 ho).1
 unfold dg at h
 split at h
 ·exact key _ h
 ·obtain⟨es,c,h1,_⟩:=h;exact key _ h1
 ·obtain⟨cs,T,h1,_⟩:=h;exact key _ h1
 ·obtain⟨⟨o,ho⟩,_⟩:=h;exact key _ ho
 ·exact h.elim
 ·obtain⟨cs,T,h1,_⟩:=h;exact key _ h1
theorem dg.move{X Y:aq}{r:Nat}{pl iG:List Nat->Place}{t:Ty}{x:El t}{own:List (List Nat)}(hs:∀a v,X.aw a v->Y.aw a v)(hh:Y.w.heap[r]? =X.w.heap[r]?)
 (ho:∀cs,bg X pl t x cs own->bg Y iG t x cs own) (hg: []∈own->∀g o,X.w.heap[g]? =some o->X.ow g= .row (pl []) 0->Y.w.heap[g]? =some o/\Y.ow g= .row (iG []) 0) (h:dg X r pl t x own):dg Y r iG t x own:=by
 unfold dg at h⊢
 split at h
 ·exact hh.trans h
 ·obtain⟨es,c,h1,h2,h3⟩:=h
  exact⟨es,c,hh.trans h1,h2,fun i q e hq he=>⟨(h3 i q e hq he).1.mono hs,(h3 i q e hq he).2.mono hs⟩⟩
 ·obtain⟨cs,T,h1,h2,h3⟩:=h
  exact⟨cs,T,hh.trans h1,h2,fun j x hj=>(h3 j x hj).al hs⟩
 ·obtain⟨⟨o,h1⟩,h2⟩:=h
  refine⟨⟨o,hh.trans h1⟩,fun hm=> ?_⟩
  obtain⟨v,h3,h4⟩:=h2 hm
  refine⟨v,h3.same hh (fun g o hv ho=>(hg hm g o ho (h4 g hv)).1),fun g hv=> ?_⟩
  obtain⟨cap,cur,Af⟩:∃cap cur,X.w.heap[g]? =some (.cells cur cap (0,0)):=by
   rcases h3.own.2 with⟨hn,_⟩|⟨g',cap,cur,mB,_,Af,_⟩
   ·rw[hn] at hv;simp [Value.ownBlock] at hv
   ·rw[mB] at hv
    simp [Value.ownBlock] at hv
    subst hv
    exact⟨_,_,Af⟩
  exact(hg hm g _ Af (h4 g hv)).2
 ·exact h.elim
 ·obtain⟨cs,T,h1,h2,h3⟩:=h
  exact⟨cs,T,hh.trans h1,h2.al hs,ho _ h3⟩
def bC(X:aq)(id r:Nat)(B:bm):Prop:=X.ow r= .box id/\dg X r (.b id) B.t B.x B.own
theorem bC.cells{X:aq}{id r:Nat}{B:bm}(h:bC X id r B)(hs:B.t.bH=false):∃cs T,X.w.heap[r]? =some (.cells cs T (0,0))/\aR X B.t B.x cs.toList/\X.ow r= .box id/\bg X (.b id) B.t B.x cs.toList B.own:=by
 obtain⟨cs,T,h1,h2,h3⟩:=(dg.plain hs).1 h.2
 exact⟨cs,T,h1,h2,h.1,h3⟩
structure Rel(X:aq)(s:State)(a:Act):Prop where
 size:s.sl.length=a.tmps.size
 gM:s.bs.length=s.sl.length+1
 bL:∀(i:Nat) l v,s.sl[i]? =some l->a.tmps[i]? =some v->cB X (.c i) l v
 boxes:∀(id:Nat) B,s.bs[id]? =some (some B)->∃r,X.β id=some r/\bC X id r B
 live:∀(i:Nat) l id t p,s.sl[i]? =some l->SV.ptr id t p∈l->∃B,s.bs[id]? =some (some B)
 defers:a.defers=[]
theorem Dv{w:World}{g:Nat}{o:Obj}(h:w.heap[g]? =some o):g<w.heap.size:=(Array.getElem?_eq_some_iff.1 h).1
theorem cB.jQ{X Y:aq}{pl iG:Nat->List Nat->Place}{l:List SV}{v:Value}(hr:cB X pl l v)(h:∀(j:Nat) s u,l[j]? =some s->au X (pl j) s u->au Y (iG j) s u):cB Y iG l v:=by
 match l,hr with
 | [s],hr=>exact h 0 s v (by simp) hr
 | [],⟨vs,h1,h2,h3⟩=>exact⟨vs,h1,h2,fun j s u hs hu=>h j s u hs (h3 j s u hs hu)⟩
 |x::y::r,⟨vs,h1,h2,h3⟩=>exact⟨vs,h1,h2,fun j s u hs hu=>h j s u hs (h3 j s u hs hu)⟩
def cA(s:State):Place->Prop
 | .c i j p=>∃l t x own,s.sl[i]? =some l/\l[j]? =some (.ah t x own)/\p∈own
 | .b id p=>∃B,s.bs[id]? =some (some B)/\p∈B.own
 | .r _ _=>False
structure Mod(s:State)(X Y:aq):Prop where
 aw:∀a v,X.aw a v->Y.aw a v
 size:X.w.heap.size<=Y.w.heap.size
 os:Y.w.os=X.w.os
 tape:Y.w.tape=X.w.tape
 output:Y.w.output=X.w.output
 β0:Y.β 0=X.β 0
 β:∀(id:Nat) B,s.bs[id]? =some (some B)->Y.β id=X.β id
 mz:∀g,g<X.w.heap.size->(Y.ow g=X.ow g/\Y.w.heap[g]? =X.w.heap[g]?)\/∃pl n,X.ow g= .row pl n/\¬cA s pl
theorem Mod.ext{s:State}{X Y:aq}(h:Mod s X Y):Ext X Y:=
 ⟨h.aw,h.size,h.os,h.tape,h.output,h.β0,fun g hg ct=>by
   rcases h.mz g hg with e|⟨pl,n,h1,_⟩
   ·exact e
   ·rw[h1] at ct;exact ct.elim⟩
theorem Mod.refl(s:State)(X:aq):Mod s X X:=⟨fun _ _ h=>h,Nat.le_refl _,rfl,rfl,rfl,rfl,fun _ _ _=>rfl,fun _ _=> .inl ⟨rfl,rfl⟩⟩
theorem bj.mod{s:State}{X Y:aq}(h:Mod s X Y){pl:Place}{e:TypeId}{k n:Nat}{v:Value}(hf:cA s pl)(ho:bj X pl e k n v):bj Y pl e k n v:=by
 rcases ho with ho|⟨g,cap,cur,h1,h2,h3,h4,h5,h6⟩
 ·exact .inl ho
 ·rcases h.mz g (Dv h2) with⟨k1,k2⟩|⟨iG,n',k1,k2⟩
  ·exact .inr ⟨g,cap,cur,h1,k2.trans h2,h3,h4,h5,k1.trans h6⟩
  ·rw[h6] at k1;injection k1 with k1;rw[k1] at hf;exact absurd hf k2
theorem bg.mod{s:State}{X Y:aq}(h:Mod s X Y){pl:List Nat->Place}{t:Ty}{x:El t}{cs:List Value}{own:List (List Nat)}(hf:∀p∈own,cA s (pl p))(ho:bg X pl t x cs own):bg Y pl t x cs own:=fun p hp=>by
 obtain⟨e,t',xs,v,g0,g1,g2,g3⟩:=ho p hp
 exact⟨e,t',xs,v,g0,g1,g2,g3.mod h (hf p hp)⟩
theorem au.mod{s:State}{X Y:aq}(h:Mod s X Y){pl:List Nat->Place}{sv:SV}{v:Value}(hf:∀t x own,sv= .ah t x own->∀p∈own,cA s (pl p))(hl:∀id t p,sv= .ptr id t p->∃B,s.bs[id]? =some (some B))(hr:au X pl sv v):au Y pl sv v:=by
 cases sv with
 |undef=>trivial
 |skip=>exact hr
 |cr=>exact hr
 |gF=>exact hr
 |over=>exact hr
 |ah t x own=>
  obtain⟨cs,h1,h2,h3⟩:=hr
  exact⟨cs,h1.al h.aw,h2,h3.mod h (hf t x own rfl)⟩
 |ptr id t p=>
  obtain⟨r,h1,h2⟩:=hr
  obtain⟨B,hB⟩:=hl id t p rfl
  exact⟨r,(h.β id B hB).trans h1,h2⟩
 |view t x=>
  obtain⟨ad,cs,h1,h2,h3,h4⟩:=hr
  exact⟨ad,cs,h1,h2,h3.al h.aw,fun i u hi=>h.aw _ _ (h4 i u hi)⟩
 |cap f t x u y=>exact ti h.aw hr
theorem Rel.mod{s:State}{X Y:aq}{a:Act}(hr:Rel X s a)(h:Mod s X Y):Rel Y s a where
 size:=hr.size
 gM:=hr.gM
 bL:=fun i l v hl hv=>(hr.bL i l v hl hv).jQ fun j sv u hm jD=>jD.mod h (fun t x own e p hp=>⟨l,t,x,own,hl,e▸hm,hp⟩) (fun id t p e=>hr.live i l id t p hl (e▸List.mem_of_getElem? hm))
 boxes:=fun id B hB=>by
  obtain⟨r,h1,h4,h2⟩:=hr.boxes id B hB
  have hk:Y.ow r=X.ow r/\Y.w.heap[r]? =X.w.heap[r]? :=by
   rcases h.mz r h2.lt with hk|⟨iG,n',k1,k2⟩
   ·exact hk
   ·rw[h4] at k1;cases k1
  exact⟨r,(h.β id B hB).trans h1,hk.1.trans h4,h2.move h.aw hk.2 (fun cs h5=>h5.mod h fun p hp=>⟨B,hB,hp⟩) fun hm g o ho hw=>by
   rcases h.mz g (Dv ho) with e|⟨pl,n,e1,e2⟩
   ·exact⟨e.2.trans ho,e.1.trans hw⟩
   ·rw[hw] at e1;injection e1 with e1;exact absurd (e1▸(⟨B,hB,hm⟩:cA s (.b id []))) e2⟩
 live:=hr.live
 defers:=hr.defers
structure eN(s:State)(X Y:aq):Prop where
 size:X.w.heap.size<=Y.w.heap.size
 os:Y.w.os=X.w.os
 tape:Y.w.tape=X.w.tape
 output:Y.w.output=X.w.output
 mz:∀g,g<X.w.heap.size->Y.ow g=X.ow g/\Y.w.heap[g]? =X.w.heap[g]?
 β0:Y.β 0=X.β 0
 β:∀(id:Nat) B,s.bs[id]? =some (some B)->Y.β id=X.β id
theorem eN.aw{s:State}{X Y:aq}(h:eN s X Y){a:Addr}{v:Value}(hs:X.aw a v):Y.aw a v:=by
 have ap:=aq.gJ hs
 obtain⟨h1,h2⟩:=h.mz _ ap
 refine⟨hs.1,?_,?_⟩
 ·have:=hs.2.1
  simp only[World.cell?] at this⊢
  rw[h2];exact this
 ·rw[h1];exact hs.2.2
theorem eN.mod{s:State}{X Y:aq}(h:eN s X Y):Mod s X Y:=
 ⟨fun _ _=>h.aw,h.size,h.os,h.tape,h.output,h.β0,h.β,fun g hg=> .inl (h.mz g hg)⟩
theorem eN.ext{s:State}{X Y:aq}(h:eN s X Y):Ext X Y:=h.mod.ext
theorem bj.di{s:State}{X Y:aq}(h:eN s X Y){pl:Place}{e:TypeId}{k n:Nat}{v:Value}(ho:bj X pl e k n v):bj Y pl e k n v:=by
 rcases ho with ho|⟨g,cap,cur,h1,h2,h3,h4,h5,h6⟩
 ·exact .inl ho
 ·obtain⟨k1,k2⟩:=h.mz g (Dv h2)
  exact .inr ⟨g,cap,cur,h1,k2.trans h2,h3,h4,h5,k1.trans h6⟩
theorem bg.di{s:State}{X Y:aq}(h:eN s X Y){pl:List Nat->Place}{t:Ty}{x:El t}{cs:List Value}{own:List (List Nat)}(ho:bg X pl t x cs own):bg Y pl t x cs own:=fun p hp=>by
 obtain⟨e,t',xs,v,g0,g1,g2,g3⟩:=ho p hp
 exact⟨e,t',xs,v,g0,g1,g2,g3.di h⟩
theorem Rel.di{s:State}{X Y:aq}{a:Act}(hr:Rel X s a)(h:eN s X Y):Rel Y s a:=hr.mod h.mod
theorem Rel.put{X:aq}{s:State}{a:Act}(hr:Rel X s a){d:Option Nat}{l:List SV}{v:Value}(h:∀d',d=some d'->cB X (.c d') l v)(hl:∀id t p,SV.ptr id t p∈l->∃B,s.bs[id]? =some (some B)):Rel X (s.aJ d l) (a.put d v):=by
 cases d with
 |none=>exact hr
 |some d=>
  refine⟨by simpa [State.aJ,Act.put] using hr.size,by simpa [State.aJ] using hr.gM,fun i l' v' hi hv=> ?_,hr.boxes,fun i l' id t p hi hm=> ?_,hr.defers⟩
  ·simp only[State.aJ,List.getElem?_set] at hi
   simp only[Act.put,Array.getElem?_setIfInBounds] at hv
   by_cases e:d=i
   ·subst e
    simp only[if_true] at hi hv
    split at hi
    ·split at hv
     ·cases hi;cases hv;exact h d rfl
     ·cases hv
    ·cases hi
   ·rw[if_neg e] at hi hv
    exact hr.bL i l' v' hi hv
  ·simp only[State.aJ,List.getElem?_set] at hi
   split at hi
   ·split at hi
    ·cases hi;exact hl id t p hm
    ·cases hi
   ·exact hr.live i l' id t p hi hm
theorem Rel.skip{X:aq}{s:State}{a:Act}(hr:Rel X s a)(d:Option Nat):Rel X (s.aJ d [.skip]) (a.put d Go.undef):=
 hr.put (fun _ _=>rfl) (fun id t p h=>by simp at h)
structure dn(s:State)(X Y:aq):Prop where
 w:Y.w=X.w
 β:Y.β=X.β
 ow:∀g,Y.ow g=X.ow g\/∃pl n q,X.ow g= .row pl n/\¬cA s pl/\Y.ow g= .row q n
theorem dn.aw{s:State}{X Y:aq}(h:dn s X Y){a:Addr}{v:Value}:X.aw a v↔Y.aw a v:=by
 unfold aq.aw
 rw[h.w]
 rcases h.ow a.block with e|⟨pl,n,q,h1,_,h2⟩
 ·rw[e]
 ·rw[h1,h2];rfl
theorem dn.mod{s:State}{X Y:aq}(h:dn s X Y):Mod s X Y:=
 ⟨fun _ _=>h.aw.1,by rw[h.w];exact Nat.le_refl _,by rw[h.w],by rw[h.w],by rw[h.w],by rw[h.β],fun _ _ _=>by rw[h.β],fun g _=>by
   rcases h.ow g with e|⟨pl,n,q,h1,h2,_⟩
   ·exact .inl ⟨e,by rw[h.w]⟩
   ·exact .inr ⟨pl,n,h1,h2⟩⟩
theorem dn.ext{s:State}{X Y:aq}(h:dn s X Y):Ext X Y:=h.mod.ext
theorem dn.refl(s:State)(X:aq):dn s X X:=⟨rfl,rfl,fun _=> .inl rfl⟩
theorem Nu{v:SV}{id:Nat}{t:Ty}{p:List Nat}:v.shut= .ptr id t p->v= .ptr id t p:=by cases v<;>simp [SV.shut]
theorem au.shut{X:aq}{pl iG:List Nat->Place}{sv:SV}{v:Value}(hr:au X pl sv v):au X iG sv.shut v:=by
 cases sv with
 |ah t x own=>
  obtain⟨cs,h1,h2,_⟩:=hr
  exact⟨cs,h1,h2,fun p hp=>by cases hp⟩
 |_=>exact hr
theorem zd1:∀(l:List SV) (j:Nat),(bQ l j).length=l.length
 | [],_=>rfl
 |_::_,0=>rfl
 |_::r,j+1=>by simp [bQ,zd1 r j]
theorem M7:∀(l:List SV) (j i:Nat),(bQ l j)[i]? =if i=j then(l[i]?).map SV.shut else l[i]?
 | [],j,i=>by simp [bQ]
 |v::r,0,0=>by simp [bQ]
 |v::r,0,i+1=>by simp [bQ]
 |v::r,j+1,0=>by simp [bQ]
 |v::r,j+1,i+1=>by
  simp only[bQ,List.getElem?_cons_succ,M7 r j i]
  simp
theorem cB.bQ{X:aq}{pl:Nat->List Nat->Place}{l:List SV}{v:Value}(hr:cB X pl l v)(j:Nat):cB X pl (bQ l j) v:=by
 match l,hr with
 | [s],hr=>
   cases j with
   |zero=>exact hr.shut
   |succ j=>exact hr
 | [],hr=>exact hr
 |x::y::r,⟨vs,h1,h2,h3⟩=>
  have hlen:∃x' y' r',Ref.bQ (x::y::r) j=x'::y'::r':=by
   match j with
   |0=>exact⟨_,_,_,rfl⟩
   |1=>exact⟨_,_,_,rfl⟩
   |j+2=>exact⟨_,_,_,rfl⟩
  obtain⟨x',y',r',he⟩:=hlen
  have hl:=zd1 (x::y::r) j
  have hg:=M7 (x::y::r) j
  rw[he] at hl hg⊢
  refine⟨vs,h1,by rw[hl];exact h2,fun i s u hs hu=> ?_⟩
  rw[hg] at hs
  split at hs
  ·obtain⟨s0,fW,rfl⟩:=Option.map_eq_some_iff.1 hs
   exact(h3 i s0 u fW hu).shut
  ·exact h3 i s u hs hu
theorem z194{l:List SV}{j:Nat}{id:Nat}{t:Ty}{p:List Nat}(h:SV.ptr id t p∈bQ l j):SV.ptr id t p∈l:=by
 obtain⟨i,hi⟩:=List.mem_iff_getElem?.1 h
 rw[M7] at hi
 split at hi
 ·obtain⟨s0,fW,he⟩:=Option.map_eq_some_iff.1 hi
  rw[Nu he] at fW
  exact List.mem_of_getElem? fW
 ·exact List.mem_of_getElem? hi
theorem vT{s:State}{i:Nat}(h:i<s.sl.length):s.sl[i]? =some (s.slot i):=by
 simp [State.slot,List.getD_eq_getElem?_getD,List.getElem?_eq_getElem h]
def State.cC(s:State)(i j:Nat):State:={s with sl:=s.sl.set i (bQ (s.slot i) j)}
theorem C2{s:State}{i j:Nat}{r:List (Nat×Nat)}:s.close ((i,j)::r)=(s.cC i j).close r:=rfl
theorem zgb{r:List (Nat×Nat)}:∀(l:List (Nat×Nat)) (s:State),s.close (l++r)=(s.close l).close r
 | [],s=>rfl
 |(i,j)::l,s=>by
  rw[List.cons_append,C2,C2]
  exact zgb l _
theorem Rel.cC{X:aq}{s:State}{a:Act}(hr:Rel X s a)(i j:Nat):Rel X (s.cC i j) a:=by
 refine⟨by simpa [State.cC] using hr.size,by simpa [State.cC] using hr.gM,fun k l v hl hv=> ?_,hr.boxes,fun k l id t p hl hm=> ?_,hr.defers⟩
 ·simp only[State.cC,List.getElem?_set] at hl
  split at hl
  ·rename_i e
   subst e
   split at hl
   ·rename_i ap
    cases hl
    exact(hr.bL i _ v (vT ap) hv).bQ j
   ·cases hl
  ·exact hr.bL k l v hl hv
 ·simp only[State.cC,List.getElem?_set] at hl
  split at hl
  ·rename_i e
   subst e
   split at hl
   ·rename_i ap
    cases hl
    exact hr.live i _ id t p (vT ap) (z194 hm)
   ·cases hl
  ·exact hr.live k l id t p hl hm
theorem Rel.close{X:aq}{a:Act}:∀(c:List (Nat×Nat)) {s:State},Rel X s a->Rel X (s.close c) a
 | [],s,hr=>hr
 |(i,j)::r,s,hr=>Rel.close r (hr.cC i j)
theorem vH:∀{c:List (Nat×Nat)} {s:State},(s.close c).bs=s.bs
 | [],s=>rfl
 |(i,j)::r,s=>(vH (c:=r) (s:=s.cC i j))
theorem Kz:∀{c:List (Nat×Nat)} {s:State},(s.close c).sl.length=s.sl.length
 | [],s=>rfl
 |(i,j)::r,s=>by rw[C2,Kz (c:=r)];simp [State.cC]
theorem cA.pR{s:State}{i j:Nat}{pl:Place}(h:cA (s.cC i j) pl):cA s pl/\∀p,pl≠ .c i j p:=by
 cases pl with
 |r j p=>exact h.elim
 |b id p=>exact⟨h,fun p=>by simp⟩
 |c i' j' p=>
  obtain⟨l,t,x,own,hl,hx,hp⟩:=h
  simp only[State.cC,List.getElem?_set] at hl
  split at hl
  ·rename_i e
   subst e
   split at hl
   ·rename_i ap
    cases hl
    rw[M7] at hx
    split at hx
    ·obtain⟨s0,_,he⟩:=Option.map_eq_some_iff.1 hx
     cases s0<;>simp [SV.shut] at he
     obtain⟨rfl,_,rfl⟩:=he
     cases hp
    ·rename_i cg
     exact⟨⟨_,t,x,own,vT ap,hx,hp⟩,fun q e=>by cases e;exact cg rfl⟩
   ·cases hl
  ·rename_i cg
   exact⟨⟨l,t,x,own,hl,hx,hp⟩,fun q e=>by cases e;exact cg rfl⟩
theorem cA.js{pl:Place}:∀{c:List (Nat×Nat)} {s:State},cA (s.close c) pl->cA s pl/\∀i j,(i,j)∈c->∀p,pl≠ .c i j p
 | [],s,h=>⟨h,fun i j hm=>by cases hm⟩
 |(i,j)::r,s,h=>by
  obtain⟨h1,h2⟩:=cA.js (c:=r) (s:=s.cC i j) h
  obtain⟨h3,h4⟩:=cA.pR h1
  refine⟨h3,fun i' j' hm p=> ?_⟩
  rcases List.mem_cons.1 hm with e|hm
  ·cases e;exact h4 p
  ·exact h2 i' j' hm p
theorem cA.close{s:State}{i j:Nat}{p:List Nat}:¬cA (s.close [(i,j)]) (.c i j p):=fun h=>(cA.js h).2 i j (by simp) p rfl
def aq.turn(X:aq)(i j:Nat)(q:List Nat->Place):aq:=
 {X with ow:=fun g=>match X.ow g with
  | .row (.c i' j' p) n=>if i'=i/\j'=j then .row (q p) n else .row (.c i' j' p) n
  |w=>w}
theorem Hi{s:State}{X:aq}{i j:Nat}{q:List Nat->Place}(h:∀p,¬cA s (.c i j p)):dn s X (X.turn i j q):=by
 refine⟨rfl,rfl,fun g=> ?_⟩
 simp only[aq.turn]
 cases hg:X.ow g with
 |row pl n=>
  cases pl with
  |c i' j' p=>
   by_cases e:i'=i/\j'=j
   ·obtain⟨rfl,rfl⟩:=e
    exact .inr ⟨_,n,q p,rfl,h p,by simp⟩
   ·exact .inl (by simp [e])
  |_=>exact .inl rfl
 |_=>exact .inl rfl
theorem bj.kS{X:aq}{i j:Nat}{q:List Nat->Place}{p:List Nat}{e:TypeId}{k n:Nat}{v:Value}(h:bj X (.c i j p) e k n v):bj (X.turn i j q) (q p) e k n v:=by
 rcases h with h|⟨g,cap,cur,h1,h2,h3,h4,h5,h6⟩
 ·exact .inl h
 ·exact .inr ⟨g,cap,cur,h1,h2,h3,h4,h5,by simp [aq.turn,h6]⟩
theorem bg.kS{X:aq}{i j:Nat}{q:List Nat->Place}{t:Ty}{x:El t}{cs:List Value}{own:List (List Nat)}(h:bg X (.c i j) t x cs own):bg (X.turn i j q) q t x cs own:=fun p hp=>by
 obtain⟨e,t',xs,v,g0,g1,g2,g3⟩:=h p hp
 exact⟨e,t',xs,v,g0,g1,g2,g3.kS⟩
def kE(X Y:aq):Prop:=Y.w=X.w/\∀g pl n,X.ow g= .row pl n->(∀i j p,pl≠ .c i j p)->Y.ow g= .row pl n
theorem ZN{X:aq}{i j:Nat}{q:List Nat->Place}:kE X (X.turn i j q):=⟨rfl,fun g pl n h hp=>by
 simp only[aq.turn,h]
 cases pl with
 |c i' j' p=>exact absurd rfl (hp i' j' p)
 |_=>rfl⟩
theorem kE.refl(X:aq):kE X X:=⟨rfl,fun _ _ _ h _=>h⟩
theorem bg.stay{X Y:aq}(h:kE X Y){pl:List Nat->Place}(hp:∀r i j p,pl r≠ .c i j p){t:Ty}{x:El t}{cs:List Value}{own:List (List Nat)}(ho:bg X pl t x cs own):bg Y pl t x cs own:=fun p hm=>by
 obtain⟨e,t',xs,v,g0,g1,g2,g3⟩:=ho p hm
 refine⟨e,t',xs,v,g0,g1,g2,?_⟩
 rcases g3 with h0|⟨g,cap,cur,h1,h2,h3,h4,h5,h6⟩
 ·exact .inl h0
 ·exact .inr ⟨g,cap,cur,h1,by rw[h.1];exact h2,h3,h4,h5,h.2 g _ _ h6 (hp p)⟩
theorem Rel.take{X:aq}{s:State}{a:Act}(hr:Rel X s a){i j:Nat}{t:Ty}{x:El t}{w:List (List Nat)}{v:Value}(h:au X (.c i j) (.ah t x w) v)(q:List Nat->Place):
 ∃Y,Y.w=X.w/\Ext X Y/\Rel Y (s.close [(i,j)]) a/\au Y q (.ah t x w) v/\Y.β=X.β/\dn (s.close [(i,j)]) X Y/\kE X Y:=by
 obtain⟨cs,h1,h2,h3⟩:=h
 have hT:dn (s.close [(i,j)]) X (X.turn i j q):=Hi fun p=>cA.close
 exact⟨X.turn i j q,rfl,hT.ext,(hr.close _).mod hT.mod,⟨cs,h1.al (fun _ _=>hT.aw.1),h2,h3.kS⟩,rfl,hT,ZN⟩
def aq.dI(X:aq)(i d:Nat):aq:=
 {X with ow:=fun g=>match X.ow g with
  | .row (.c i' j' p) n=>if i'=i then .row (.c d j' p) n else .row (.c i' j' p) n
  |w=>w}
theorem Hh(t:Nat):∀(n j:Nat),j<n->(t,j)∈jx t n
 |0,j,h=>absurd h (Nat.not_lt_zero j)
 |n+1,j,h=>by
  rcases Nat.lt_or_ge j n with h1|h1
  ·exact List.mem_cons_of_mem _ (Hh t n j h1)
  ·have:j=n:=by omega
   subst this
   simp [jx]
theorem cA.closeAll{s:State}{t j:Nat}{p:List Nat}:¬cA (s.close (jx t (s.slot t).length)) (.c t j p):=fun h=>by
 obtain⟨h1,h2⟩:=cA.js h
 obtain⟨l,ty,x,own,g1,g2,g3⟩:=h1
 have hl:s.slot t=l:=by simp [State.slot,g1]
 have hj:j<l.length:=(List.getElem?_eq_some_iff.1 g2).1
 exact h2 t j (Hh t _ j (by rw[hl];exact hj)) p rfl
theorem VN{s:State}{X:aq}{i d:Nat}(h:∀j p,¬cA s (.c i j p)):dn s X (X.dI i d):=by
 refine⟨rfl,rfl,fun g=> ?_⟩
 simp only[aq.dI]
 cases hg:X.ow g with
 |row pl n=>
  cases pl with
  |c i' j' p=>
   by_cases e:i'=i
   ·subst e
    exact .inr ⟨_,n,.c d j' p,rfl,h j' p,by simp⟩
   ·exact .inl (by simp [e])
  |_=>exact .inl rfl
 |_=>exact .inl rfl
theorem bj.gW{X:aq}{i d j:Nat}{p:List Nat}{e:TypeId}{k n:Nat}{v:Value}(h:bj X (.c i j p) e k n v):bj (X.dI i d) (.c d j p) e k n v:=by
 rcases h with h|⟨g,cap,cur,h1,h2,h3,h4,h5,h6⟩
 ·exact .inl h
 ·exact .inr ⟨g,cap,cur,h1,h2,h3,h4,h5,by simp [aq.dI,h6]⟩
theorem au.gW{s:State}{X:aq}{i d j:Nat}{sv:SV}{v:Value}(hT:dn s X (X.dI i d))(h:au X (.c i j) sv v):au (X.dI i d) (.c d j) sv v:=by
 cases sv with
 |ah t x own=>
  obtain⟨cs,h1,h2,h3⟩:=h
  refine⟨cs,h1.al (fun _ _=>hT.aw.1),h2,fun p hp=> ?_⟩
  obtain⟨e,t',xs,v,g0,g1,g2,g3⟩:=h3 p hp
  exact⟨e,t',xs,v,g0,g1,g2,g3.gW⟩
 |view t x=>
  obtain⟨ad,cs,h1,h2,h3,h4⟩:=h
  exact⟨ad,cs,h1,h2,h3.al (fun _ _=>hT.aw.1),fun i u hi=>hT.aw.1 (h4 i u hi)⟩
 |cap f t x u y=>exact ti (fun _ _=>hT.aw.1) h
 |_=>exact h
theorem Rel.vz{X:aq}{s:State}{a:Act}(hr:Rel X s a){t:Nat}{v:Value}(h:cB X (.c t) (s.slot t) v)(d:Nat):
 ∃Y,Y.w=X.w/\Ext X Y/\Rel Y (s.close (jx t (s.slot t).length)) a/\cB Y (.c d) (s.slot t) v:=by
 have hT:dn (s.close (jx t (s.slot t).length)) X (X.dI t d):=VN fun j p=>cA.closeAll
 exact⟨X.dI t d,rfl,hT.ext,(hr.close _).mod hT.mod,h.jQ fun j sv u hj hu=>hu.gW hT⟩
def zp:Ty->List Value
 | .bool=>[.bool false]
 | .int k=>[.int k 0]
 | .str=>[.string ⟨#[]⟩]
 | .sl _ _=>[.slice none 0 0]
 | .arr n t=>(List.replicate n (zp t)).flatten
 | .unit=>[]
 | .pair a b=>zp a++zp b
 | .aV _ _ _=>[]
def iv(E:Env):List Field->Ty->Nat->Prop
 | [],.unit,_=>True
 |f::r,.pair a b,off=>f.offset=off/\E.ty f.type=some a/\f.name≠ "_" /\iv E r b (off+a.cells)
 |_,_,_=>False
def JV(P:Program)(E:Env)(T:TypeId):Ty->Prop
 | .bool=>P.underlying T=some .bool
 | .int k=>P.underlying T=some (.int k)
 | .str=>P.underlying T=some .string
 | .sl e t=>P.underlying T=some (.slice e)/\E.ty e=some t
 | .arr n t=>∃e,P.underlying T=some (.array n e)/\E.ty e=some t/\P.eqGuardType P.depth T=false
 | .aV _ _ _=>False
 |t=>∃fs,P.underlying T=some (.struct fs)/\iv E fs.toList t 0/\P.stoodInHeld T=false/\P.eqGuardType P.depth T=false
structure kF(P:Program)(E:Env)(T:TypeId)(t:Ty):Prop where
 info:∃i,P.info? T=some i/\i.size=t.cells/\i.bytes=E.bytes T/\i.zero=some (dx t (zp t))
 cS:JV P E T t
structure ak(P:Program)(E:Env):Prop where
 ty:∀T t,E.ty T=some t->kF P E T t
 pt:∀T,E.pt T=true->∃e,P.underlying T=some (.pointer e)
 mp:∀T k e,E.mp T=some (k,e)->P.underlying T=some (.map k e)
 bl:∀T e,E.bl T=some e->∃i,P.info? T=some i/\i.zero=some (.agg #[.pointer none,.slice none 0 0])
theorem ak.gT{P:Program}{E:Env}(hE:ak P E){T:TypeId}{t:Ty}(h:E.ty T=some t):t.bH=false:=by
 have:=(hE.ty T t h).cS
 cases t<;>first|rfl|exact this.elim
theorem td:∀t:Ty,(zp t).length=t.cells
 | .bool=>rfl
 | .int _=>rfl
 | .str=>rfl
 | .sl _ _=>rfl
 | .unit=>rfl
 | .arr n t=>by simp [zp,Ty.cells,td t]
 | .pair a b=>by simp [zp,Ty.cells,td a,td b]
 | .aV _ _ _=>rfl
theorem z90{l:List Value}{k:Nat}(hl:l.length=k):∀(n j:Nat),j<n->(((List.replicate n l).flatten).drop (j*k)).take k=l
 |0,j,h=>by omega
 |n+1,0,_=>by
  simp only[List.replicate_succ,List.flatten_cons,Nat.zero_mul,List.drop_zero]
  rw[<-hl];exact List.take_left
 |n+1,j+1,h=>by
  simp only[List.replicate_succ,List.flatten_cons]
  rw[Nat.add_mul,Nat.one_mul,Nat.add_comm,<-List.drop_drop]
  rw[show List.drop k (l++(List.replicate n l).flatten)=(List.replicate n l).flatten by rw[<-hl];exact List.drop_left]
  exact z90 hl n j (by omega)
theorem sR(X:aq):∀t:Ty,aR X t (El.bM t) (zp t)
 | .bool=>rfl
 | .int _=>rfl
 | .str=>rfl
 | .unit=>rfl
 | .sl _ t=>⟨none,0,rfl,Nat.le_refl _,fun j x h=>by simp [El.bM] at h⟩
 | .arr n t=>by
   refine⟨by simp [El.bM],by simp [zp,td],fun j x h=> ?_⟩
   have hj:j<n:=by
    have:=(List.getElem?_eq_some_iff.1 h).1
    simpa [El.bM] using this
   have hx:x=El.bM t:=by
    simp only[El.bM,List.getElem?_replicate] at h
    rw[if_pos hj] at h
    exact(Option.some.inj h).symm
   subst hx
   have:=z90 (td t) n j hj
   simp only[zp]
   rw[this]
   exact sR X t
 | .pair a b=>⟨zp a,zp b,rfl,sR X a,sR X b⟩
 | .aV _ _ _=>rfl
theorem Lr{t:Ty}{c:Value}(h:t.agg=false):dx t [c]=c:=by simp [dx,h]
theorem iI{t:Ty}{cs:List Value}(h:t.agg=true):dx t cs= .agg cs.toArray:=by simp [dx,h]
theorem vF{t:Ty}{X:aq}{x:El t}{cs:List Value}(h:aR X t x cs):(dx t cs).cells=cs.toArray:=by
 cases ht:t.agg with
 |true=>rw[iI ht];rfl
 |false=>
  have hl:=h.len
  have h1:=h.one
  have hc:t.cells=1:=by cases t<;>simp_all [Ty.agg,Ty.cells]
  rw[hc] at hl
  match cs,hl with
  | [c],_=>
    rw[Lr ht]
    have:=h1 c (by simp)
    cases c<;>simp_all [Value.oneCell',Value.cells]
theorem zz{R:Type}{s:SV}{u:Ty}{K:El u->Option R}{z:R}(h:s.el u K=some z):
 ∃y,K y=some z/\∀(X:aq) pl v,au X pl s v->∃cs,aR X u y cs/\v=dx u cs:=by
 cases s with
 |ah t x own=>
  simp only[SV.el] at h
  split at h
  ·rename_i he
   have e:=Ty.aK he
   subst e
   exact⟨x,h,fun X pl v hv=>by obtain⟨cs,h1,h2,_⟩:=hv;exact⟨cs,h1,h2⟩⟩
  ·cases h
 |cr=>
  cases u<;>simp only[SV.el] at h<;>first|cases h|skip
  rename_i e t
  refine⟨[],h,fun X pl v hv=>⟨[.slice none 0 0],⟨none,0,rfl,Nat.le_refl _,fun j x hj=>by simp at hj⟩,hv⟩⟩
 |_=>simp [SV.el] at h
theorem ku{X:aq}{k:IntKind}{n:Int}{cs:List Value}(h:aR X (.int k) n cs):dx (.int k) cs= .int k n:=by cases h;rfl
theorem tn{X:aq}{b:Bool}{cs:List Value}(h:aR X .bool b cs):dx .bool cs= .bool b:=by cases h;rfl
theorem z28{X:aq}{s:ByteArray}{cs:List Value}(h:aR X .str s cs):dx .str cs= .string s:=by cases h;rfl
theorem mo{X:aq}{pl:List Nat->Place}{t:Ty}{x:El t}{cs:List Value}:bg X pl t x cs []:=fun p hp=>by cases hp
theorem iH{X:aq}{pl:List Nat->Place}{k:IntKind}{n:Int}:au X pl (.ah (.int k) n []) (.int k n):=⟨[.int k n],rfl,rfl,mo⟩
theorem mm{X:aq}{pl:List Nat->Place}{b:Bool}:au X pl (.ah .bool b []) (.bool b):=⟨[.bool b],rfl,rfl,mo⟩
theorem yj{X:aq}{pl:List Nat->Place}{s:ByteArray}:au X pl (.ah .str s []) (.string s):=⟨[.string s],rfl,rfl,mo⟩
theorem yc{X:aq}{pl:List Nat->Place}{k:IntKind}{n:Int}{o:List (List Nat)}{v:Value}(h:au X pl (.ah (.int k) n o) v):v= .int k n:=by
 obtain⟨cs,h1,h2,_⟩:=h
 rw[h2,ku h1]
theorem Km{X:aq}{pl:List Nat->Place}{b:Bool}{o:List (List Nat)}{v:Value}(h:au X pl (.ah .bool b o) v):v= .bool b:=by
 obtain⟨cs,h1,h2,_⟩:=h
 rw[h2,tn h1]
theorem zha{X:aq}{pl:List Nat->Place}{s:ByteArray}{o:List (List Nat)}{v:Value}(h:au X pl (.ah .str s o) v):v= .string s:=by
 obtain⟨cs,h1,h2,_⟩:=h
 rw[h2,z28 h1]
def Av:Operand->List Nat->Place
 | .tmp t=> .c t 0
 |_=> .r 0
theorem V3(X:aq)(pl:List Nat->Place)(v:Value):au X pl (yp v) v:=by
 unfold yp
 split
 ·exact mm
 ·exact iH
 ·exact yj
 ·rfl
 ·rfl
 ·trivial
theorem Rel.slot{X:aq}{s:State}{a:Act}(hr:Rel X s a)(t:Nat):cB X (.c t) (s.slot t) (a.tmps.getD t Go.undef):=by
 by_cases h:t<s.sl.length
 ·refine hr.bL t _ _ (vT h) ?_
  have:=hr.size
  simp [Array.getElem?_eq_getElem (show t<a.tmps.size by omega)]
 ·have:s.slot t=[.undef]:=by simp [State.slot,List.getElem?_eq_none (show s.sl.length<=t by omega)]
  rw[this]
  trivial
theorem Rel.az{X:aq}{s:State}{a:Act}(hr:Rel X s a)(x:Operand):au X (Av x) (s.az x) (a.eval x):=by
 cases x with
 |tmp t=>
  have h:=hr.slot t
  unfold State.az State.vm
  simp only[Av,Act.eval]
  match hl:s.slot t with
  | []=>trivial
  | [sv]=>rw[hl] at h;exact h
  |_::_::_=>trivial
 |const v=>exact V3 X _ v
 |_=>trivial
theorem yr{X:aq}{s:State}{a:Act}(hr:Rel X s a){x:Operand}{id:Nat}{t:Ty}{p:List Nat}(h:s.az x= .ptr id t p):∃B,s.bs[id]? =some (some B):=by
 cases x with
 |tmp i=>
  unfold State.az State.vm at h
  simp only at h
  by_cases hi:i<s.sl.length
  ·refine hr.live i _ id t p (vT hi) ?_
   match hl:s.slot i,h with
   | [sv],h=>have:sv= .ptr id t p:=h;simp [this]
   | [],h=>simp [one] at h
   |_::_::_,h=>simp [one] at h
  ·have:s.slot i=[.undef]:=by simp [State.slot,List.getElem?_eq_none (Nat.le_of_not_lt hi)]
   rw[this] at h
   simp [one] at h
 |const v=>unfold State.az State.vm yp at h;simp only[one] at h;split at h<;>simp at h
 |_=>simp [State.az,State.vm,one] at h
theorem Rel.fin{Y:aq}{s:State}{a:Act}(hr:Rel Y s a){dst:Option Nat}{l:List SV}{v:Value}(h:cB Y (.c (dst.getD 0)) l v)(hl:∀id t p,SV.ptr id t p∈l->∃B,s.bs[id]? =some (some B)):Rel Y (s.aJ dst l) (a.put dst v):=
 hr.put (fun d' e=>by subst e;exact h) hl
def aA(P:Program)(X:aq)(s:State)(a:Act)(o:Oper)(u:Out):Prop:=
 ∃Y v,((execOp a.eval o).run P X.w= .ok (.value v) Y.w\/((execOp a.eval o).run P X.w= .ok .skip Y.w/\v=Go.undef))/\Ext X Y/\Rel Y (s.apply o.dst u) (a.put o.dst v)
theorem aA.plain{P:Program}{X:aq}{s:State}{a:Act}{o:Oper}(hr:Rel X s a){sv:SV}{v:Value}
 (h:(execOp a.eval o).run P X.w= .ok (.value v) X.w) (hv:au X (.c (o.dst.getD 0) 0) sv v) (hl:∀id t p,sv= .ptr id t p->∃B,s.bs[id]? =some (some B)):aA P X s a o {v:=[sv]}:=
 ⟨X,v,.inl h,Ext.refl X,hr.fin hv (fun id t p hm=>hl id t p (by have h':=hm;simp at h';exact h'.symm))⟩
theorem aA.xU{P:Program}{X:aq}{s:State}{a:Act}{o:Oper}(hr:Rel X s a){i j:Nat}{t:Ty}{x:El t}{w:List (List Nat)}{v:Value}
 (h:(execOp a.eval o).run P X.w= .ok (.value v) X.w) (hv:au X (.c i j) (.ah t x w) v):aA P X s a o {v:=[.ah t x w],cl:=[(i,j)]}:=by
 obtain⟨Y,h1,h2,h3,h4,_,_,_⟩:=hr.take hv (.c (o.dst.getD 0) 0)
 refine⟨Y,v,.inl (by rw[h1];exact h),h2,?_⟩
 exact h3.fin h4 (fun id t p hm=>by simp at hm)
variable {P:Program} {E:Env} {X:aq} {s:State} {a:Act} {o:Oper} {u:Out}
def Plain:SV->Prop
 | .ah _ _ (_::_)=>False
 |_=>True
theorem au.place{pl iG:List Nat->Place}{sv:SV}{v:Value}(h:au X pl sv v)(hp:Plain sv):au X iG sv v:=by
 cases sv with
 |ah t x w=>
  cases w with
  |nil=>
   obtain⟨cs,h1,h2,_⟩:=h
   exact⟨cs,h1,h2,mo⟩
  |cons p w=>exact hp.elim
 |_=>exact h
theorem au.bare{pl iG:List Nat->Place}{t:Ty}{x:El t}{w:List (List Nat)}{v:Value}(h:au X pl (.ah t x w) v):au X iG (.ah t x []) v:=by
 obtain⟨cs,h1,h2,_⟩:=h
 exact⟨cs,h1,h2,mo⟩
theorem zgf{v:Value}{t:Ty}{y:El t}{w:List (List Nat)}(h:yp v= .ah t y w):w=[]:=by
 unfold yp at h
 split at h<;>simp at h
 ·obtain⟨rfl,_,rfl⟩:=h;rfl
 ·obtain⟨rfl,_,rfl⟩:=h;rfl
 ·obtain⟨rfl,_,rfl⟩:=h;rfl
theorem aff{x:Operand}{t:Ty}{y:El t}{w:List (List Nat)}(h:s.az x= .ah t y w)(hw:w≠ []):∃i,x= .tmp i:=by
 cases x with
 |tmp i=>exact⟨i,rfl⟩
 |const v=>exact absurd (zgf h) hw
 |_=>simp [State.az,State.vm,one] at h
theorem zzr(hr:Rel X s a){x:Operand}(h:(execOp a.eval o).run P X.w= .ok (.value (a.eval x)) X.w)(hp:Plain (s.az x)):aA P X s a o {v:=[s.az x]}:=
 aA.plain hr h ((hr.az x).place hp) (fun id t p e=>yr hr e)
theorem zyq(hr:Rel X s a){x:Operand}{t:Ty}{y:El t}{w:List (List Nat)}(aW:(execOp a.eval o).run P X.w= .ok (.value (a.eval x)) X.w)(e:s.az x= .ah t y w):aA P X s a o {v:=[.ah t y w],cl:=vR w x}:=by
 have cc:=hr.az x
 rw[e] at cc
 cases hw:w with
 |nil=>
  subst hw
  exact aA.plain hr aW cc.bare (fun _ _ _ h=>by cases h)
 |cons p w'=>
 rw[<-hw]
 have lk:vR w x=src x:=by rw[hw];rfl
 rw[lk]
 clear hw
 cases x with
 |tmp i=>exact aA.xU hr aW cc
 |const v=>
  have hw:=zgf (show yp v= .ah t y w from e)
  subst hw
  exact aA.plain hr aW cc.bare (fun _ _ _ h=>by cases h)
 |_=>simp [State.az,State.vm,one] at e
theorem H9(hr:Rel X s a){T:TypeId}{v:Value}{pl:List Nat->Place}(aW:(execOp a.eval o).run P X.w= .ok (.value v) X.w)(hv:au X pl .cr v)(h:nh E T some=some u):aA P X s a o u:=by
 unfold nh at h
 split at h
 ·cases h
  refine aA.plain hr aW ⟨[.slice none 0 0],⟨none,0,rfl,Nat.le_refl _,fun j x hj=>by simp at hj⟩,hv,fun p hp=> ?_⟩ (fun _ _ _ e=>by cases e)
  rename_i e t _
  have hp:p=[]:=by simpa using hp
  subst hp
  exact⟨e,t,[],_,by simp [Ty.eS],rfl,rfl,.inl ⟨rfl,rfl⟩⟩
 ·cases h
  exact aA.plain hr aW hv (fun _ _ _ e=>by cases e)
theorem au.eM{pl iG:List Nat->Place}{sv:SV}{v:Value}(hr:au X pl sv v):au X iG sv.shut v:=by
 cases sv with
 |ah t x own=>
  obtain⟨cs,h1,h2,_⟩:=hr
  exact⟨cs,h1,h2,mo⟩
 |_=>exact hr
theorem cB.eM{pl iG:Nat->List Nat->Place}{l:List SV}{v:Value}(hr:cB X pl l v):cB X iG (l.map SV.shut) v:=by
 match l,hr with
 | [s],hr=>exact au.eM hr
 | [],⟨vs,h1,h2,h3⟩=>exact⟨vs,h1,h2,fun j s u hs=>by simp at hs⟩
 |x::y::r,⟨vs,h1,h2,h3⟩=>
  refine⟨vs,h1,by simpa using h2,fun j s u hs hu=> ?_⟩
  have hs:((x::y::r).map SV.shut)[j]? =some s:=hs
  rw[List.getElem?_map] at hs
  obtain⟨s0,fW,rfl⟩:=Option.map_eq_some_iff.1 hs
  exact au.eM (h3 j s0 u fW hu)
theorem YV(hr:Rel X s a){ops:List Oper}{x:Operand}(ho:o.op= .move x){C:FuncId->bJ Out}(h:act E C ops o s some=some u):aA P X s a o u:=by
 have aW:(execOp a.eval o).run P X.w= .ok (.value (a.eval x)) X.w:=by simp [execOp,ho]
 unfold act at h
 simp only[ho] at h
 have cc:=hr.az x
 cases ht:mf s x with
 |some tl=>
  obtain⟨t,l⟩:=tl
  rw[ht] at h
  cases x with
  |tmp i=>
   change(bif Nat.beq (s.slot i).length 1 then none else some (i,s.slot i))=some (t,l) at ht
   cases hb:Nat.beq (s.slot i).length 1 with
   |true=>rw[hb] at ht;cases ht
   |false=>
    rw[hb] at ht
    cases ht
    have Gl:∀id ty p,SV.ptr id ty p∈s.slot t->∃B,s.bs[id]? =some (some B):=fun id ty p hm=>by
     by_cases ap:t<s.sl.length
     ·exact hr.live t _ id _ p (vT ap) hm
     ·have:s.slot t=[.undef]:=by simp [State.slot,List.getElem?_eq_none (Nat.le_of_not_lt ap)]
      rw[this] at hm
      simp at hm
    cases ng:Go.Ref.eM E o.dst with
    |true=>
     rw[ng] at h
     cases h
     refine⟨X,_,.inl aW,Ext.refl X,?_⟩
     refine Rel.fin hr (cB.eM (hr.slot t)) (fun id ty p hm=> ?_)
     obtain⟨s0,fW,he⟩:=List.mem_map.1 hm
     rw[Nu he] at fW
     exact Gl id ty p fW
    |false=>
    rw[ng] at h
    cases h
    cases bP:(s.slot t).all fun v=>v.own.isEmpty with
    |true=>
     refine⟨X,_,.inl aW,Ext.refl X,?_⟩
     refine Rel.fin hr ((hr.slot t).jQ fun j sv u hj hu=> ?_) (fun id ty p hm=> ?_)
     ·have:=List.all_eq_true.1 bP sv (List.mem_of_getElem? hj)
      refine hu.place ?_
      cases sv with
      |ah ty y w=>
       cases w with
       |nil=>trivial
       |cons p w=>simp [SV.own] at this
      |_=>trivial
     ·by_cases ap:t<s.sl.length
      ·exact hr.live t _ id _ p (vT ap) hm
      ·have:s.slot t=[.undef]:=by simp [State.slot,List.getElem?_eq_none (Nat.le_of_not_lt ap)]
       rw[this] at hm
       simp at hm
    |false=>
    obtain⟨Y,h1,h2,h3,h4⟩:=hr.vz (hr.slot t) (o.dst.getD 0)
    refine⟨Y,_,.inl (by rw[h1];exact aW),h2,?_⟩
    refine h3.fin h4 (fun id ty p hm=> ?_)
    by_cases ap:t<s.sl.length
    ·obtain⟨B,hB⟩:=hr.live t _ id _ p (vT ap) hm
     exact⟨B,by rw[vH];exact hB⟩
    ·have:s.slot t=[.undef]:=by simp [State.slot,List.getElem?_eq_none (Nat.le_of_not_lt ap)]
     rw[this] at hm
     simp at hm
  |_=>cases ht
 |none=>
 rw[ht] at h
 simp only at h
 split at h
 ·rename_i t y w e
  rw[e] at cc
  cases hb:(Sk ops o.dst||takes E o.dst) with
  |true=>
   rw[hb] at h
   cases h
   exact zyq hr aW e
  |false=>
   rw[hb] at h
   cases h
   exact aA.plain hr aW cc.bare (fun _ _ _ h=>by cases h)
 ·cases h
 ·rename_i e
  rw[e] at cc
  exact H9 hr aW cc h
 ·rename_i h1 h2 h3
  cases h
  refine zzr hr aW ?_
  cases hx:s.az x with
  |ah t y w=>exact absurd hx (h1 t y w)
  |_=>trivial
theorem V7(hr:Rel X s a){ops:List Oper}{x:Operand}(ho:o.op= .assign x){C:FuncId->bJ Out}(h:act E C ops o s some=some u):aA P X s a o u:=by
 have aW:(execOp a.eval o).run P X.w= .ok (.value (a.eval x)) X.w:=by simp [execOp,ho]
 unfold act at h
 simp only[ho] at h
 have cc:=hr.az x
 split at h
 ·rename_i t y w e
  rw[e] at cc
  cases h
  exact zyq hr aW e
 ·cases h
 ·rename_i e
  rw[e] at cc
  exact H9 hr aW cc h
 ·rename_i h1 h2 h3
  cases h
  refine zzr hr aW ?_
  cases hx:s.az x with
  |ah t y w=>exact absurd hx (h1 t y w)
  |_=>trivial
theorem YX(hr:Rel X s a){ops:List Oper}{c x y:Operand}(ho:o.op= .pick c x y){C:FuncId->bJ Out}(h:act E C ops o s some=some u):aA P X s a o u:=by
 unfold act at h
 simp only[ho] at h
 have hc:=hr.az c
 split at h
 ·rename_i p w e
  rw[e] at hc
  have hv:=Km hc
  have key:∀z,aA P X s a o {v:=[(s.az z).shut]}\/(execOp a.eval o).run P X.w≠ .ok (.value (a.eval z)) X.w:=by
   intro z
   by_cases hz:(execOp a.eval o).run P X.w= .ok (.value (a.eval z)) X.w
   ·refine .inl (aA.plain hr hz (hr.az z).shut (fun id t p e=> ?_))
    exact yr hr (Nu e)
   ·exact .inr hz
  cases p with
  |true=>
   cases h
   exact(key x).resolve_right (by simp [execOp,ho,hv,asBool])
  |false=>
   cases h
   exact(key y).resolve_right (by simp [execOp,ho,hv,asBool])
 ·cases h
theorem MQ(op:BinOp)(T:TypeId)(x y:Operand)(k k':IntKind)(m n:Int)(w:World):(eqGuard op T x y (.int k m) (.int k' n)).run P w= .ok () w:=by
 cases op<;>simp [eqGuard]
theorem z9j(op:BinOp)(T:TypeId)(x y:Operand)(m n:ByteArray)(w:World):(eqGuard op T x y (.string m) (.string n)).run P w= .ok () w:=by
 cases op<;>simp [eqGuard]
theorem zon(op:BinOp)(T:TypeId)(x y:Operand)(m n:Bool)(w:World):(eqGuard op T x y (.bool m) (.bool n)).run P w= .ok () w:=by
 cases op<;>simp [eqGuard]
theorem zo5{op:BinOp}{T:TypeId}{k k':IntKind}{m n:Int}{l:List SV}(w:World)(h:pH op k m k' n some=some l):
 ∃sv v,l=[sv]/\(Go.binOp op T (.int k m) (.int k' n)).run P w= .ok v w/\Plain sv/\(∀X pl,au X pl sv v)/\∀id t p,sv≠ .ptr id t p:=by
 have done:∀{sv:SV} {v:Value},l=[sv]->(Go.binOp op T (.int k m) (.int k' n)).run P w= .ok v w->Plain sv->(∀X pl,au X pl sv v)->(∀id t p,sv≠ .ptr id t p)->∃sv v,l=[sv]/\(Go.binOp op T (.int k m) (.int k' n)).run P w= .ok v w/\Plain sv/\(∀X pl,au X pl sv v)/\∀id t p,sv≠ .ptr id t p:=fun h1 h2 h3 h4 h5=>⟨_,_,h1,h2,h3,h4,h5⟩
 have pi:∀{k:IntKind} {n:Int},Plain (.ah (.int k) n []):=trivial
 have pb:∀{b:Bool},Plain (.ah .bool b []):=trivial
 unfold pH at h
 cases op
 case shl=>
  simp only at h
  cases hd:decide (n<0) with
  |true=>rw[hd] at h;cases h
  |false=>
   rw[hd] at h;cases h
   have:¬n<0:=of_decide_eq_false hd
   exact done rfl (by simp [Go.binOp,Op.shift,this]) pi (fun _ _=>iH) (by simp)
 case shr=>
  simp only at h
  cases hd:decide (n<0) with
  |true=>rw[hd] at h;cases h
  |false=>
   rw[hd] at h;cases h
   have:¬n<0:=of_decide_eq_false hd
   exact done rfl (by simp [Go.binOp,Op.shift,this]) pi (fun _ _=>iH) (by simp)
 all_goals
  simp only at h
  split at h
  case isFalse=>cases h
  rename_i hk
  subst hk
 case quo=>
  cases hd:decide (n=0) with
  |true=>rw[hd] at h;cases h
  |false=>
   rw[hd] at h;cases h
   have:¬n=0:=of_decide_eq_false hd
   exact done rfl (by simp [Go.binOp,Op.intDiv,this]) pi (fun _ _=>iH) (by simp)
 case rem=>
  cases hd:decide (n=0) with
  |true=>rw[hd] at h;cases h
  |false=>
   rw[hd] at h;cases h
   have:¬n=0:=of_decide_eq_false hd
   exact done rfl (by simp [Go.binOp,Op.intDiv,this]) pi (fun _ _=>iH) (by simp)
 case add=>cases h;exact done rfl (by simp [Go.binOp,Op.intArith]) pi (fun _ _=>iH) (by simp)
 case sub=>cases h;exact done rfl (by simp [Go.binOp,Op.intArith]) pi (fun _ _=>iH) (by simp)
 case mul=>cases h;exact done rfl (by simp [Go.binOp,Op.intArith]) pi (fun _ _=>iH) (by simp)
 case and=>cases h;exact done rfl (by simp only[Go.binOp,ne_eq,not_true_eq_false,if_false];rfl) pi (fun _ _=>iH) (by simp)
 case or=>cases h;exact done rfl (by simp only[Go.binOp,ne_eq,not_true_eq_false,if_false];rfl) pi (fun _ _=>iH) (by simp)
 case xor=>cases h;exact done rfl (by simp only[Go.binOp,ne_eq,not_true_eq_false,if_false];rfl) pi (fun _ _=>iH) (by simp)
 case andNot=>cases h;exact done rfl (by simp only[Go.binOp,ne_eq,not_true_eq_false,if_false];rfl) pi (fun _ _=>iH) (by simp)
 case eql=>cases h;exact done rfl (by simp only[Go.binOp,ne_eq,not_true_eq_false,if_false];rfl) pb (fun _ _=>mm) (by simp)
 case neq=>cases h;exact done rfl (by simp only[Go.binOp,ne_eq,not_true_eq_false,if_false];rfl) pb (fun _ _=>mm) (by simp)
 case lss=>cases h;exact done rfl (by simp only[Go.binOp,ne_eq,not_true_eq_false,if_false];rfl) pb (fun _ _=>mm) (by simp)
 case leq=>cases h;exact done rfl (by simp only[Go.binOp,ne_eq,not_true_eq_false,if_false];rfl) pb (fun _ _=>mm) (by simp)
 case gtr=>cases h;exact done rfl (by simp only[Go.binOp,ne_eq,not_true_eq_false,if_false];rfl) pb (fun _ _=>mm) (by simp)
 case geq=>cases h;exact done rfl (by simp only[Go.binOp,ne_eq,not_true_eq_false,if_false];rfl) pb (fun _ _=>mm) (by simp)
end Go.Ref

namespace Go.Ref
open Go
variable {P:Program} {E:Env} {X:aq} {s:State} {a:Act} {o:Oper} {u:Out}
theorem Qa(x y:ByteArray):(x.toList==y.toList)=decide (x=y):=by
 rw[ByteArray.toList_eq,ByteArray.toList_eq]
 by_cases h:x=y
 ·subst h;simp
 ·have:¬x.data.toList=y.data.toList:=fun e=>h (by
   cases x;cases y
   congr
   exact Array.toList_inj.1 e)
  rw[beq_eq_false_iff_ne.2 this,decide_eq_false h]
theorem abW{op:BinOp}{T:TypeId}{m n:ByteArray}{l:List SV}(w:World)(h:pI op m n some=some l):
 ∃sv v,l=[sv]/\(Go.binOp op T (.string m) (.string n)).run P w= .ok v w/\Plain sv/\(∀X pl,au X pl sv v)/\∀id t p,sv≠ .ptr id t p:=by
 have pb:∀{b:Bool},Plain (.ah .bool b []):=trivial
 unfold pI at h
 cases op<;>simp only at h<;>first|(cases h;done)|skip
 case add=>
  cases hd:decide (m.size+n.size<=9223372036854775807) with
  |false=>rw[hd] at h;cases h
  |true=>
   rw[hd] at h;cases h
   have h1:=of_decide_eq_true hd
   have h2:¬((((m.size+n.size:Nat)):Int)>IntKind.i64.max):=by
    show¬((((m.size+n.size:Nat)):Int)>9223372036854775807)
    omega
   refine⟨_,_,rfl,?_,trivial,fun _ _=>yj,by simp⟩
   simp only[Go.binOp,Op.stringOp]
   rw[if_neg h2]
   rfl
 all_goals
  cases h
  refine⟨_,_,rfl,?_,pb,fun _ _=>mm,by simp⟩
  simp only[Go.binOp,Op.stringOp,Qa]
  rfl
theorem zzg(hE:ak P E){T:TypeId}{t:Ty}(ht:E.ty T=some t)(w:World):(isAgg T).run P w= .ok t.agg w:=by
 have hu:=(hE.ty T t ht).cS
 cases t
 case bool=>simp [isAgg,run_underlying hu,Ty.agg]
 case int=>simp [isAgg,run_underlying hu,Ty.agg]
 case str=>simp [isAgg,run_underlying hu,Ty.agg]
 case sl=>simp [isAgg,run_underlying hu.1,Ty.agg]
 case arr=>obtain⟨e,h1,_⟩:=hu;simp [isAgg,run_underlying h1,Ty.agg]
 case unit=>obtain⟨fs,h1,_⟩:=hu;simp [isAgg,run_underlying h1,Ty.agg]
 case pair=>obtain⟨fs,h1,_⟩:=hu;simp [isAgg,run_underlying h1,Ty.agg]
 case aV=>exact hu.elim
theorem kY(hE:ak P E){T:TypeId}{t:Ty}(ht:E.ty T=some t)(w:World):(sizeOf T).run P w= .ok t.cells w:=by
 obtain⟨i,h1,h2,_⟩:=(hE.ty T t ht).info
 simp [sizeOf,typeInfo,h1,h2]
theorem BV(hE:ak P E){T:TypeId}{t:Ty}(ht:E.ty T=some t){x:El t}{cs:List Value}(hr:aR X t x cs){all:Array Value}{off:Nat}(ha:(all.toList.drop off).take t.cells=cs)(w:World):
 (part T all off).run P w= .ok (dx t cs) w:=by
 have hl:=hr.len
 unfold part
 simp only[Sem.run_bind,zzg hE ht,Result.andThen_ok]
 cases hg:t.agg with
 |true=>
  simp only[if_true,Sem.run_bind,kY hE ht,Result.andThen_ok,Sem.run_pure,iI hg]
  congr 2
  apply Array.ext'
  rw[<-ha,Array.toList_extract,List.extract_eq_take_drop]
  simp
 |false=>
  simp only[Bool.false_eq_true,if_false]
  have hc:t.cells=1:=by cases t<;>simp_all [Ty.agg,Ty.cells]
  rw[hc] at hl ha
  match cs,hl with
  | [c],_=>
    rw[Lr hg]
    have cu:all[off]? =some c:=by
     have h1:(all.toList.drop off)[0]? =some c:=by
      have:=congrArg (fun l=>l[0]?) ha
      simpa [List.getElem?_take] using this
     simpa using h1
    simp [cu]
def L2(d:Nat)(xs ys:Array Value)(f:Field)(_:Option Bool×Unit):Sem (ForInStep (Option Bool×Unit)):=
 if f.name≠ "_" then do
  let __do_lift<-part f.type xs f.offset
  let __do_lift_1<-part f.type ys f.offset
  let __do_lift<-Op.equalIn d f.type __do_lift __do_lift_1
  if(!__do_lift)=true then pure (ForInStep.done (some false,()))
   else pure (ForInStep.yield (none,()))
 else pure (ForInStep.yield (none,()))
theorem zsl(hE:ak P E){d:Nat}{xs ys:Array Value}(w:World)
 (ih:∀(t:Ty) (T:TypeId),E.ty T=some t->t.depth<=d->∀(x y:El t) (c1 c2:List Value) (r:Bool),aR X t x c1->aR X t y c2->cZ t x y=some r->(Op.equalIn d T (dx t c1) (dx t c2)).run P w= .ok r w):
 ∀(fl:List Field) (t:Ty) (off:Nat),iv E fl t off->t.depth<=d+1->∀(x y:El t) (c1 c2:List Value) (r:Bool),aR X t x c1->aR X t y c2->(xs.toList.drop off).take t.cells=c1->(ys.toList.drop off).take t.cells=c2->cZ t x y=some r->
  (forIn fl (none,()) (L2 d xs ys)).run P w= .ok (if r=true then(none,()) else(some false,())) w:=by
 intro fl
 induction fl with
 |nil=>
  intro t off hf hd x y c1 c2 r h1 h2 h3 h4 he
  cases t<;>simp only[iv] at hf<;>try exact hf.elim
  simp only[cZ,Option.some.injEq] at he
  subst he
  simp [List.forIn_nil]
 |cons f fl TE=>
  intro t off hf hd x y c1 c2 r h1 h2 h3 h4 he
  cases t<;>simp only[iv] at hf<;>try exact hf.elim
  rename_i ta tb
  obtain⟨ho,CS,hn,eK⟩:=hf
  obtain⟨ca,cb,e1,ra,rb⟩:=h1
  obtain⟨da,db,e2,sa,sb⟩:=h2
  simp only[cZ] at he
  split at he
  case h_2=>cases he
  rename_i p q hp hq
  cases he
  simp only[Ty.depth] at hd
  have la:=ra.len
  have lb:=rb.len
  have ma:=sa.len
  have mb:=sb.len
  have t1:(xs.toList.drop off).take ta.cells=ca:=by
   have:=congrArg (fun l=>l.take ta.cells) (h3.trans e1)
   simp only[List.take_take,Ty.cells] at this
   rw[Nat.min_eq_left (Nat.le_add_right _ _),<-la,List.take_left] at this
   rw[<-la];exact this
  have t2:(ys.toList.drop off).take ta.cells=da:=by
   have:=congrArg (fun l=>l.take ta.cells) (h4.trans e2)
   simp only[List.take_take,Ty.cells] at this
   rw[Nat.min_eq_left (Nat.le_add_right _ _),<-ma,List.take_left] at this
   rw[<-ma];exact this
  have u1:(xs.toList.drop (off+ta.cells)).take tb.cells=cb:=by
   have:=congrArg (fun l=>l.drop ta.cells) (h3.trans e1)
   simp only[Ty.cells] at this
   rw[List.drop_take,Nat.add_sub_cancel_left,List.drop_drop,<-la,List.drop_left] at this
   rw[<-la];exact this
  have u2:(ys.toList.drop (off+ta.cells)).take tb.cells=db:=by
   have:=congrArg (fun l=>l.drop ta.cells) (h4.trans e2)
   simp only[Ty.cells] at this
   rw[List.drop_take,Nat.add_sub_cancel_left,List.drop_drop,<-ma,List.drop_left] at this
   rw[<-ma];exact this
  have nb:=BV hE CS ra (all:=xs) (off:=f.offset) (by rw[ho];exact t1) w
  have Al:=BV hE CS sa (all:=ys) (off:=f.offset) (by rw[ho];exact t2) w
  have heq:=ih ta f.type CS (by omega) x.1 y.1 ca da p ra sa hp
  have GG:(L2 d xs ys f (none,())).run P w= .ok (if p=true then ForInStep.yield (none,()) else ForInStep.done (some false,())) w:=by
   unfold L2
   rw[if_pos hn]
   simp only[Sem.run_bind,nb,Al,heq,Result.andThen_ok]
   cases p<;>rfl
  rw[List.forIn_cons]
  simp only[Sem.run_bind,GG,Result.andThen_ok]
  cases p with
  |false=>rfl
  |true=>
   simp only[if_true,Bool.true_and]
   exact TE tb (off+ta.cells) eK (by omega) x.2 y.2 cb db q rb sb u1 u2 hq
theorem Y2(hE:ak P E)(w:World){d n:Nat}{k:IntKind}{T e:TypeId}(ht:P.underlying T=some (.array n e))(he:E.ty e=some (.int k)){x y:List Int}{c1 c2:List Value}(r1:aR X (.arr n (.int k)) x c1)(r2:aR X (.arr n (.int k)) y c2):
 (Op.equalIn (d+2) T (.agg c1.toArray) (.agg c2.toArray)).run P w= .ok (decide (x=y)) w:=by
 obtain⟨l1,m1,e1⟩:=r1
 obtain⟨l2,m2,e2⟩:=r2
 have l1:x.length=n:=l1
 have l2:y.length=n:=l2
 have key:decide (x=y)=(List.range n).all fun i=>decide (x.getD i 0=y.getD i 0):=by
  by_cases xP:x=y
  ·rw[decide_eq_true xP]
   exact(List.all_eq_true.2 fun i _=>by rw[xP];simp).symm
  ·rw[decide_eq_false xP]
   cases ha:(List.range n).all fun i=>decide (x.getD i 0=y.getD i 0) with
   |false=>rfl
   |true=>
    refine absurd (List.ext_getElem (l1.trans l2.symm) fun i h1 h2=> ?_) xP
    have:=of_decide_eq_true (List.all_eq_true.1 ha i (List.mem_range.2 (by omega)))
    simpa [List.getD_eq_getElem?_getD,List.getElem?_eq_getElem h1,List.getElem?_eq_getElem h2] using this
 rw[key,List.range_eq_range',Op.equalIn]
 simp only[Sem.run_bind,run_underlying ht,Result.andThen_ok,kY hE he,Std.Legacy.Range.forIn_eq_forIn_range',Std.Legacy.Range.size,Nat.sub_zero,Nat.add_sub_cancel,Nat.div_one]
 have hl:∀i∈List.range' 0 n 1,i<n:=fun i hi=>by simpa using(List.mem_range'_1.1 hi).2
 generalize List.range' 0 n 1=l at hl⊢
 induction l with
 |nil=>simp
 |cons i l ih=>
  have hi:i<n:=hl i (by simp)
  have g1:x[i]? =some (x.getD i 0):=by rw[List.getD_eq_getElem?_getD,List.getElem?_eq_getElem (by omega)];rfl
  have g2:y[i]? =some (y.getD i 0):=by rw[List.getD_eq_getElem?_getD,List.getElem?_eq_getElem (by omega)];rfl
  have p1:=e1 i (x.getD i 0) g1
  have p2:=e2 i (y.getD i 0) g2
  have px:=BV hE he p1 (all:=c1.toArray) (off:=i*(Ty.int k).cells) rfl w
  have py:=BV hE he p2 (all:=c2.toArray) (off:=i*(Ty.int k).cells) rfl w
  rw[ku p1] at px
  rw[ku p2] at py
  have pe:(Op.equalIn (d+1) e (.int k (x.getD i 0)) (.int k (y.getD i 0))).run P w= .ok (decide (x.getD i 0=y.getD i 0)) w:=by
   have hu:P.underlying e=some (.int k):=(hE.ty e _ he).cS
   unfold Op.equalIn
   simp only[Sem.run_bind,run_underlying hu,Result.andThen_ok,if_true,Sem.run_pure]
   rfl
  simp only[List.forIn_cons,Sem.run_bind,px,py,pe,Result.andThen_ok,List.all_cons]
  cases hb:decide (x.getD i 0=y.getD i 0)
  ·simp
  ·simp only[Bool.not_true,Bool.false_eq_true,if_false,Sem.run_pure,Result.andThen_ok,Bool.true_and]
   exact ih fun j hj=>hl j (by simp [hj])
theorem zz2(hE:ak P E)(w:World):∀(d:Nat) (t:Ty) (T:TypeId),E.ty T=some t->t.depth<=d->∀(x y:El t) (c1 c2:List Value) (r:Bool),aR X t x c1->aR X t y c2->cZ t x y=some r->(Op.equalIn d T (dx t c1) (dx t c2)).run P w= .ok r w:=by
 intro d
 induction d with
 |zero=>intro t T ht hd;cases t<;>simp only[Ty.depth] at hd<;>omega
 |succ d ih=>
  intro t T ht hd x y c1 c2 r h1 h2 he
  have hu:=(hE.ty T t ht).cS
  cases t with
  |bool=>
   rw[tn h1,tn h2]
   simp only[cZ,Option.some.injEq] at he
   subst he
   unfold Op.equalIn
   simp only[Sem.run_bind,run_underlying hu,Result.andThen_ok,Sem.run_pure]
  |int k=>
   rw[ku h1,ku h2]
   simp only[cZ,Option.some.injEq] at he
   subst he
   unfold Op.equalIn
   simp only[Sem.run_bind,run_underlying hu,Result.andThen_ok,if_true,Sem.run_pure]
   rfl
  |str=>
   rw[z28 h1,z28 h2]
   simp only[cZ,Option.some.injEq] at he
   subst he
   unfold Op.equalIn
   simp only[Sem.run_bind,run_underlying hu,Result.andThen_ok,Sem.run_pure]
   rw[beq_toListBytes,Qa]
  |sl e t=>simp [cZ] at he
  |arr n t=>
   cases t<;>simp only[cZ,Option.some.injEq,reduceCtorEq] at he
   rename_i k
   subst he
   obtain⟨e,iE,jk,_⟩:=hu
   obtain⟨d,rfl⟩:∃d',d=d'+1:=⟨d-1,by simp only[Ty.depth] at hd;omega⟩
   rw[iI rfl,iI rfl]
   exact Y2 hE w iE jk h1 h2
  |aV _ _ _=>exact hu.elim
  |unit=>
   obtain⟨fs,iE,jk,MB,_⟩:=hu
   rw[iI rfl,iI rfl]
   unfold Op.equalIn
   simp only[Sem.run_bind,run_underlying iE,Result.andThen_ok,run_program,MB,Bool.false_eq_true,if_false]
   rw[<-Array.forIn_toList]
   have:=zsl (X:=X) hE (d:=d) (xs:=c1.toArray) (ys:=c2.toArray) w ih fs.toList .unit 0 jk hd x y c1 c2 r h1 h2 (by have:=h1.len;simp [Ty.cells] at this⊢;subst this;rfl) (by have:=h2.len;simp [Ty.cells] at this⊢;subst this;rfl) he
   unfold L2 at this
   rw[this]
   simp only[Result.andThen_ok]
   cases r<;>rfl
  |pair ta tb=>
   obtain⟨fs,iE,jk,MB,_⟩:=hu
   rw[iI rfl,iI rfl]
   unfold Op.equalIn
   simp only[Sem.run_bind,run_underlying iE,Result.andThen_ok,run_program,MB,Bool.false_eq_true,if_false]
   rw[<-Array.forIn_toList]
   have:=zsl (X:=X) hE (d:=d) (xs:=c1.toArray) (ys:=c2.toArray) w ih fs.toList (.pair ta tb) 0 jk hd x y c1 c2 r h1 h2 (by have:=h1.len;simp only[List.drop_zero];rw[<-this];exact List.take_length) (by have:=h2.len;simp only[List.drop_zero];rw[<-this];exact List.take_length) he
   unfold L2 at this
   rw[this]
   simp only[Result.andThen_ok]
   cases r<;>rfl
end Go.Ref

namespace Go.Ref
open Go
variable {P:Program} {E:Env} {X:aq} {s:State} {a:Act} {o:Oper} {u:Out}
theorem abV(hE:ak P E){op:BinOp}{T:TypeId}{x y:SV}{vx vy:Value}{px py:List Nat->Place}{l:List SV}(w:World)(xo yo:Operand)(hx:au X px x vx)(hy:au X py y vy)(h:pG E op T x y some=some l):
 ∃b:Bool,l=bl b/\(eqGuard op T xo yo vx vy).run P w= .ok () w/\(Go.binOp op T vx vy).run P w= .ok (.bool b) w:=by
 unfold pG at h
 split at h
 case h_2=>cases h
 rename_i t ht
 split at h
 ·cases h
 rename_i SX
 obtain⟨m,h,hm⟩:=zz h
 obtain⟨n,h,hn⟩:=zz h
 split at h
 case h_2=>cases h
 rename_i r hr
 obtain⟨c1,r1,e1⟩:=hm X px vx hx
 obtain⟨c2,r2,e2⟩:=hn X py vy hy
 have hd:t.depth<=10000:=by
  have:Nat.ble t.depth 1000=true:=by simpa using SX
  have:=Nat.le_of_ble_eq_true this
  omega
 have heq:=zz2 hE w 10000 t T ht hd m n c1 c2 r r1 r2 hr
 have hu:=(hE.ty T t ht).cS
 have hg:(eqGuard op T xo yo vx vy).run P w= .ok () w:=by
  cases t
  case bool=>rw[e1,e2,tn r1,tn r2];exact zon ..
  case int=>rw[e1,e2,ku r1,ku r2];exact MQ ..
  case str=>rw[e1,e2,z28 r1,z28 r2];exact z9j ..
  case sl=>simp [cZ] at hr
  case arr=>
   obtain⟨fs,_,_,hq⟩:=hu
   rw[e1,e2,iI rfl,iI rfl]
   cases op<;>simp [eqGuard,hq]
  case aV=>simp [cZ] at hr
  all_goals
   obtain⟨fs,_,_,_,hq⟩:=hu
   rw[e1,e2,iI rfl,iI rfl]
   cases op<;>simp [eqGuard,hq]
 split at h
 ·cases h
  refine⟨r,rfl,hg,?_⟩
  rw[e1,e2]
  cases t
  case int=>rw[ku r1,ku r2];simp only[cZ,Option.some.injEq] at hr;subst hr;simp only[Go.binOp,ne_eq,not_true_eq_false,if_false];rfl
  case str=>rw[z28 r1,z28 r2];simp only[cZ,Option.some.injEq] at hr;subst hr;simp only[Go.binOp,Op.stringOp,Qa];rfl
  case bool=>rw[tn r1,tn r2] at heq⊢;simp only[Go.binOp,Sem.run_bind,Op.equal,Op.maxDepth,heq,Result.andThen_ok,Sem.run_pure]
  case sl=>simp [cZ] at hr
  case aV=>simp [cZ] at hr
  all_goals
   rw[iI rfl,iI rfl] at heq⊢
   simp only[Go.binOp,Sem.run_bind,Op.equal,Op.maxDepth,heq,Result.andThen_ok,Sem.run_pure]
 ·cases h
  refine⟨!r,rfl,hg,?_⟩
  rw[e1,e2]
  cases t
  case int=>rw[ku r1,ku r2];simp only[cZ,Option.some.injEq] at hr;subst hr;simp only[Go.binOp,ne_eq,not_true_eq_false,if_false];rfl
  case str=>rw[z28 r1,z28 r2];simp only[cZ,Option.some.injEq] at hr;subst hr;simp only[Go.binOp,Op.stringOp,Qa];rfl
  case bool=>rw[tn r1,tn r2] at heq⊢;simp only[Go.binOp,Sem.run_bind,Op.equal,Op.maxDepth,heq,Result.andThen_ok,Sem.run_pure]
  case sl=>simp [cZ] at hr
  case aV=>simp [cZ] at hr
  all_goals
   rw[iI rfl,iI rfl] at heq⊢
   simp only[Go.binOp,Sem.run_bind,Op.equal,Op.maxDepth,heq,Result.andThen_ok,Sem.run_pure]
 ·cases h
theorem MR(op:BinOp)(T:TypeId)(x y:Operand)(p q:Option Addr)(w:World):(eqGuard op T x y (.pointer p) (.pointer q)).run P w= .ok () w:=by
 cases op<;>simp [eqGuard]
theorem acm(d:Nat){T e:TypeId}(hu:P.underlying T=some (.pointer e))(w:World)(ad:Addr):(Op.equalIn (d+1) T (.pointer (some ad)) (.pointer none)).run P w= .ok false w:=by
 unfold Op.equalIn
 simp only[Sem.run_bind,run_underlying hu,Result.andThen_ok,Sem.run_pure]
theorem ack(d:Nat){T e:TypeId}(hu:P.underlying T=some (.pointer e))(w:World):(Op.equalIn (d+1) T (.pointer none) (.pointer none)).run P w= .ok true w:=by
 unfold Op.equalIn
 simp only[Sem.run_bind,run_underlying hu,Result.andThen_ok,Sem.run_pure]
 rfl
theorem aeR(hE:ak P E){op:BinOp}{T:TypeId}{x y:SV}{vx vy:Value}{px py:List Nat->Place}{u:Out}(w:World)(xo yo:Operand)(hx:au X px x vx)(hy:au X py y vy)(h:bin E op T x y (fun v=>some ({v:=v}:Out))=some u):
 ∃sv v,u={v:=[sv]}/\(eqGuard op T xo yo vx vy).run P w= .ok () w/\(Go.binOp op T vx vy).run P w= .ok v w/\(∀X pl,au X pl sv v)/\∀id t p,sv≠ .ptr id t p:=by
 unfold bin at h
 split at h
 ·rename_i k m o1 k' n o2
  rw[yc hx,yc hy]
  obtain⟨l,h1,h2⟩:=lg zo4 h
  obtain⟨sv,v,rfl,hv,_,hr,hp⟩:=zo5 (T:=T) w h1
  cases h2
  exact⟨sv,v,rfl,MQ ..,hv,hr,hp⟩
 ·rename_i m o1 n o2
  rw[zha hx,zha hy]
  obtain⟨l,h1,h2⟩:=lg zo6 h
  obtain⟨sv,v,rfl,hv,_,hr,hp⟩:=abW (T:=T) w h1
  cases h2
  exact⟨sv,v,rfl,z9j ..,hv,hr,hp⟩
 ·obtain⟨r,_,hpv⟩:=hx
  have Tv:vy= .pointer none:=hy
  subst Tv
  split at h
  ·cases h
  rename_i rW
  simp only[Bool.or_eq_true,Bool.not_eq_true',not_or,Bool.not_eq_true,Bool.not_eq_false] at rW
  obtain⟨rfl,_⟩:=(oU rW.1).1 hpv
  obtain⟨e,hu⟩:=hE.pt T rW.2
  have heq:∀ad,(Op.equal T (.pointer (some ad)) (.pointer none)).run P w= .ok false w:=fun ad=>acm 9999 hu w ad
  split at h
  ·cases h
   exact⟨_,_,rfl,MR ..,by(simp only[Go.binOp,Sem.run_bind,heq,Result.andThen_ok,Sem.run_pure];try rfl),fun _ _=>mm,by simp⟩
  ·cases h
   exact⟨_,_,rfl,MR ..,by(simp only[Go.binOp,Sem.run_bind,heq,Result.andThen_ok,Sem.run_pure];try rfl),fun _ _=>mm,by simp⟩
  ·cases h
 ·have GJ:vx= .pointer none:=hx
  have Tv:vy= .pointer none:=hy
  subst GJ Tv
  split at h
  ·cases h
  rename_i rW
  obtain⟨e,hu⟩:=hE.pt T (by simpa using rW)
  have heq:(Op.equal T (.pointer none) (.pointer none)).run P w= .ok true w:=ack 9999 hu w
  split at h
  ·cases h
   exact⟨_,_,rfl,MR ..,by(simp only[Go.binOp,Sem.run_bind,heq,Result.andThen_ok,Sem.run_pure];try rfl),fun _ _=>mm,by simp⟩
  ·cases h
   exact⟨_,_,rfl,MR ..,by(simp only[Go.binOp,Sem.run_bind,heq,Result.andThen_ok,Sem.run_pure];try rfl),fun _ _=>mm,by simp⟩
  ·cases h
 ·obtain⟨l,h1,h2⟩:=lg zo3 h
  obtain⟨b,rfl,hg,hv⟩:=abV hE w xo yo hx hy h1
  cases h2
  exact⟨_,_,rfl,hg,hv,fun _ _=>mm,by simp⟩
theorem acd(hE:ak P E)(hr:Rel X s a){ops:List Oper}{op:BinOp}{T T':TypeId}{x y:Operand}(ho:o.op= .binOp op T x y T'){C:FuncId->bJ Out}(h:act E C ops o s some=some u):aA P X s a o u:=by
 unfold act at h
 simp only[ho] at h
 obtain⟨sv,v,rfl,hg,hv,aM,hp⟩:=aeR hE X.w x y (hr.az x) (hr.az y) h
 exact aA.plain hr (by simp only[execOp,ho,Sem.run_bind,hg,hv,Result.andThen_ok,Sem.run_pure]) (aM _ _) (fun id t p e=>absurd e (hp id t p))
end Go.Ref

namespace Go.Ref
open Go
variable {P:Program} {E:Env} {X:aq} {s:State} {a:Act} {o:Oper} {u:Out}
theorem Lj(ad:Addr)(h:ad.spot=none)(m n:Nat):(ad.add m).add n=ad.add (m+n):=by
 unfold Addr.add
 by_cases h1:m=0<;>by_cases h2:n=0<;>simp [h1,h2,Nat.add_assoc]
theorem yi{ad:Addr}(h:ad.spot=none)(m:Nat):(ad.add m).spot=none:=by
 unfold Addr.add
 split
 ·exact h
 ·rfl
theorem jH(g i j:Nat):(⟨g,i,none⟩:Addr).add j=⟨g,i+j,none⟩:=by
 unfold Addr.add
 split<;>simp_all
theorem M5:∀(t:Ty) (p q:List Nat) (u:Ty),t.at_ p=some u->t.off (p++q)=t.off p+u.off q:=by
 intro t
 induction t with
 |arr n t ih=>
  intro p q u h
  cases p with
  |nil=>simp only[Ty.at_,Option.some.injEq] at h;subst h;simp [Ty.off]
  |cons i p=>
   simp only[Ty.at_] at h
   simp only[List.cons_append,Ty.off,ih p q u h]
   omega
 |pair x y GN GO=>
  intro p q u h
  cases p with
  |nil=>simp only[Ty.at_,Option.some.injEq] at h;subst h;simp [Ty.off]
  |cons i p=>
   cases i with
   |zero=>simp only[Ty.at_] at h;simp only[List.cons_append,Ty.off,GN p q u h]
   |succ i=>
    simp only[Ty.at_] at h
    have:=GO (i::p) q u h
    simp only[List.cons_append,Ty.off] at this⊢
    omega
 |_=>
  intro p q u h
  cases p with
  |nil=>simp only[Ty.at_,Option.some.injEq] at h;subst h;simp [Ty.off]
  |cons i p=>simp [Ty.at_] at h
theorem zco:∀(t:Ty) (p q:List Nat) (u:Ty),t.at_ p=some u->t.eS p->u.eS q->t.eS (p++q):=by
 intro t
 induction t with
 |arr n t ih=>
  intro p q u h hp hq
  cases p with
  |nil=>simp only[Ty.at_,Option.some.injEq] at h;subst h;exact hq
  |cons i p=>exact⟨hp.1,ih p q u h hp.2 hq⟩
 |pair x y GN GO=>
  intro p q u h hp hq
  cases p with
  |nil=>simp only[Ty.at_,Option.some.injEq] at h;subst h;exact hq
  |cons i p=>
   cases i with
   |zero=>exact GN p q u h hp hq
   |succ i=>exact GO (i::p) q u h hp hq
 |_=>
  intro p q u h hp hq
  cases p with
  |nil=>simp only[Ty.at_,Option.some.injEq] at h;subst h;exact hq
  |cons i p=>simp [Ty.at_] at h
theorem getD_some{α:Type}{xs:List α}{i:Nat}(d:α)(h:i<xs.length):xs[i]? =some (xs.getD i d):=by
 simp [List.getD_eq_getElem?_getD,List.getElem?_eq_getElem h]
theorem Lo{X:aq}:∀{t:Ty} {p:List Nat} {x:El t} {cs:List Value} {u:Ty} {y:El u},aR X t x cs->t.eS p->El.get t p x=some ⟨u,y⟩->
 t.at_ p=some u/\t.off p+u.cells<=t.cells/\aR X u y ((cs.drop (t.off p)).take u.cells):=by
 intro t
 induction t with
 |arr n t ih=>
  intro p x cs u y hr hp h
  cases p with
  |nil=>
   simp only[El.get,Option.some.injEq,Sigma.mk.injEq] at h
   obtain⟨rfl,h⟩:=h
   cases h
   refine⟨rfl,by simp [Ty.off],?_⟩
   have:=hr.len
   simp only[Ty.off,List.drop_zero]
   rw[<-this,List.take_length]
   exact hr
  |cons i p=>
   obtain⟨hi,hp⟩:=hp
   obtain⟨h1,h2,h3⟩:=hr
   simp only[El.get] at h
   obtain⟨k1,k2,k3⟩:=ih (h3 i _ (getD_some (El.bM t) (by omega))) hp h
   have hn:(i+1)*t.cells<=n*t.cells:=Nat.mul_le_mul_right _ hi
   rw[Nat.add_mul,Nat.one_mul] at hn
   refine⟨k1,by simp only[Ty.off,Ty.cells];omega,?_⟩
   simp only[Ty.off]
   rw[List.drop_take,List.take_take,List.drop_drop,Nat.min_eq_left (by omega)] at k3
   exact k3
 |pair ta tb kM kN=>
  intro p x cs u y hr hp h
  cases p with
  |nil=>
   simp only[El.get,Option.some.injEq,Sigma.mk.injEq] at h
   obtain⟨rfl,h⟩:=h
   cases h
   refine⟨rfl,by simp [Ty.off],?_⟩
   have:=hr.len
   simp only[Ty.off,List.drop_zero]
   rw[<-this,List.take_length]
   exact hr
  |cons i p=>
   obtain⟨c1,c2,rfl,r1,r2⟩:=hr
   have l1:=r1.len
   have l2:=r2.len
   cases i with
   |zero=>
    obtain⟨k1,k2,k3⟩:=kM r1 hp h
    refine⟨k1,by simp only[Ty.off,Ty.cells];omega,?_⟩
    simp only[Ty.off]
    rw[List.drop_append_of_le_length (by omega),List.take_append_of_le_length (by rw[List.length_drop];omega)]
    exact k3
   |succ i=>
    obtain⟨k1,k2,k3⟩:=kN r2 hp h
    refine⟨k1,by simp only[Ty.off,Ty.cells];omega,?_⟩
    simp only[Ty.off]
    rw[<-List.drop_drop,<-l1,List.drop_left]
    exact k3
 |_=>
  intro p x cs u y hr hp h
  cases p with
  |nil=>
   simp only[El.get,Option.some.injEq,Sigma.mk.injEq] at h
   obtain⟨rfl,h⟩:=h
   cases h
   refine⟨rfl,by simp [Ty.off],?_⟩
   have:=hr.len
   simp only[Ty.off,List.drop_zero]
   rw[<-this,List.take_length]
   exact hr
  |cons i p=>simp [El.get] at h
theorem P3:∀(fl:List Field) (t:Ty) (off j:Nat) (ft:Ty),iv E fl t off->t.cR=true->t.at_ [j]=some ft->∃f,fl[j]? =some f/\f.offset=off+t.off [j]/\E.ty f.type=some ft/\t.eS [j]:=by
 intro fl
 induction fl with
 |nil=>intro t off j ft hf hp h;cases t<;>simp [iv,Ty.cR] at hf hp
 |cons f fl ih=>
  intro t off j ft hf hp h
  cases t<;>simp only[iv] at hf<;>try exact hf.elim
  rename_i ta tb
  obtain⟨h1,h2,h3,h4⟩:=hf
  cases j with
  |zero=>
   simp only[Ty.at_,Option.some.injEq] at h
   subst h
   exact⟨f,rfl,by simp [Ty.off,h1],h2,by simp [Ty.eS]⟩
  |succ j=>
   simp only[Ty.at_] at h
   cases htb:tb.cR with
   |true=>
    obtain⟨g,g1,g2,g3,g4⟩:=ih tb (off+ta.cells) j ft h4 htb h
    exact⟨g,g1,by simp only[Ty.off];omega,g3,g4⟩
   |false=>
    cases fl with
    |nil=>cases tb<;>simp [iv,Ty.at_] at h4 h
    |cons g fl=>cases tb<;>simp [iv,Ty.cR] at h4 htb
theorem zcx(hE:ak P E){T:TypeId}{t:Ty}(ht:E.ty T=some t)(hp:t.cR=true):∃fs,P.underlying T=some (.struct fs)/\iv E fs.toList t 0:=by
 have hu:=(hE.ty T t ht).cS
 cases t<;>simp [Ty.cR] at hp
 obtain⟨fs,h1,h2,_⟩:=hu
 exact⟨fs,h1,h2⟩
theorem zbn(hE:ak P E){f:Field}{ft:Ty}(hf:E.ty f.type=some ft)(hc:ft.cells≠0)(ad:Addr)(w:World):(fieldPlace ad f).run P w= .ok (ad.add f.offset) w:=by
 simp [fieldPlace,kY hE hf,hc]
theorem L4:∀(t:Ty) (p:List Nat) (x:El t) (u:Ty) (y:El u),El.get t p x=some ⟨u,y⟩->t.at_ p=some u:=by
 intro t
 induction t with
 |arr n t ih=>
  intro p x u y h
  cases p with
  |nil=>simp only[El.get,Option.some.injEq,Sigma.mk.injEq] at h;rw[Ty.at_,h.1]
  |cons i p=>exact ih p _ u y h
 |pair a b kM kN=>
  intro p x u y h
  cases p with
  |nil=>simp only[El.get,Option.some.injEq,Sigma.mk.injEq] at h;rw[Ty.at_,h.1]
  |cons i p=>
   cases i with
   |zero=>exact kM p _ u y h
   |succ i=>exact kN (i::p) _ u y h
 |_=>
  intro p x u y h
  cases p with
  |nil=>simp only[El.get,Option.some.injEq,Sigma.mk.injEq] at h;rw[Ty.at_,h.1]
  |cons i p=>simp [El.get] at h
theorem zxn(hE:ak P E)(hr:Rel X s a){ops:List Oper}{T:TypeId}{x:Operand}{j:Nat}(ho:o.op= .fieldAddr T x j){C:FuncId->bJ Out}(h:act E C ops o s some=some u):aA P X s a o u:=by
 unfold act at h
 simp only[ho] at h
 have hx:=hr.az x
 unfold L3 at h
 split at h
 ·rename_i t u' id root p hT e
  rw[e] at hx
  obtain⟨r,hb,hx⟩:=hx
  split at h
  ·cases h
  rename_i eX
  have eX:root.bH=false:=by simpa using eX
  obtain⟨hv,fV⟩:=(oU eX).1 hx
  split at h
  case h_2=>cases h
  rename_i u'' bV
  split at h
  case isFalse=>cases h
  rename_i lS
  rw[Bool.and_eq_true] at lS
  obtain⟨heq,fM⟩:=lS
  have:=Ty.aK heq
  subst this
  split at h
  case h_2=>cases h
  rename_i ft Mr
  split at h
  ·cases h
  rename_i gy
  cases h
  have hc:ft.cells≠0:=fun e=>gy (by rw[e];rfl)
  obtain⟨fs,iE,jk⟩:=zcx hE hT fM
  obtain⟨f,g1,g2,g3,g4⟩:=P3 fs.toList u' 0 j ft jk fM Mr
  refine aA.plain hr (v:= .pointer (some ⟨r,root.off (p++ [j]),none⟩)) ?_ ⟨r,hb,(oU eX).2 ⟨rfl,zco root p [j] u' bV fV g4⟩⟩ (fun bY t' p' e'=> ?_)
  ·have jf:fs[j]? =some f:=by rw[<-Array.getElem?_toList];exact g1
   simp only[execOp,ho,Sem.run_bind,Instr.fieldAt,run_underlying iE,Result.andThen_ok,jf,hv,Instr.sureAddr,Sem.run_pure,zbn hE g3 hc]
   rw[jH,M5 root p [j] u' bV,g2,Nat.zero_add]
  ·injection e' with e1 e2 e3
   subst e1
   exact yr hr e
 ·rename_i t u' root y hT e
  rw[e] at hx
  obtain⟨ad,cs,hv,ll,aM,dq⟩:=hx
  split at h
  case isFalse=>cases h
  rename_i lS
  rw[Bool.and_eq_true] at lS
  obtain⟨heq,fM⟩:=lS
  have:=Ty.aK heq
  subst this
  split at h
  case h_2=>cases h
  rename_i ft z Mr
  split at h
  ·cases h
  rename_i gy
  cases h
  have hc:ft.cells≠0:=fun e=>gy (by rw[e];rfl)
  obtain⟨fs,iE,jk⟩:=zcx hE hT fM
  have bV:u'.at_ [j]=some ft:=L4 u' [j] y ft z Mr
  obtain⟨f,g1,g2,g3,g4⟩:=P3 fs.toList u' 0 j ft jk fM bV
  obtain⟨k1,k2,k3⟩:=Lo aM g4 Mr
  refine aA.plain hr (v:= .pointer (some (ad.add (u'.off [j])))) ?_ ⟨ad.add (u'.off [j]),_,rfl,yi ll _,k3,fun i v hi=> ?_⟩ (fun bY t' p' e'=>by cases e')
  ·have jf:fs[j]? =some f:=by rw[<-Array.getElem?_toList];exact g1
   simp only[execOp,ho,Sem.run_bind,Instr.fieldAt,run_underlying iE,Result.andThen_ok,jf,hv,Instr.sureAddr,Sem.run_pure,zbn hE g3 hc]
   rw[g2,Nat.zero_add]
  ·rw[Lj _ ll]
   refine dq _ v ?_
   rw[List.getElem?_take] at hi
   split at hi
   ·rw[List.getElem?_drop] at hi;exact hi
   ·cases hi
 ·cases h
end Go.Ref

namespace Go.Ref
open Go
variable {P:Program} {E:Env} {X:aq} {s:State} {a:Act} {o:Oper} {u:Out}
theorem ye{R:Type}{i:Int}{n:Nat}{x:Option R}{z:R}(h:zd i n x=some z):0<=i/\i<(n:Int)/\x=some z:=by
 unfold zd at h
 cases h1:decide (0<=i)<;>rw[h1] at h
 ·cases h
 ·cases h2:decide (i<(n:Int))<;>rw[h2] at h
  ·cases h
  ·exact⟨of_decide_eq_true h1,of_decide_eq_true h2,h⟩
theorem Sm{e:TypeId}{t:Ty}{xs:List (El t)}{cs:List Value}(h:aR X (.sl e t) xs cs):∃A c,dx (.sl e t) cs= .slice A xs.length c/\xs.length<=c/\
 ∀(j:Nat) x,xs[j]? =some x->∃ad dU,A=some ad/\ad.spot=none/\aR X t x dU/\∀(i:Nat) v,dU[i]? =some v->X.aw (ad.add (j*t.cells+i)) v:=by
 obtain⟨A,c,rfl,h1,h2⟩:=h
 exact⟨A,c,rfl,h1,h2⟩
theorem aR.vu{e:TypeId}{t:Ty}{xs:List (El t)}{A:Option Addr}{n c:Nat}(hn:xs.length=n)(h1:n<=c)(h2:∀(j:Nat) x,xs[j]? =some x->∃ad dU,A=some ad/\ad.spot=none/\aR X t x dU/\∀(i:Nat) v,dU[i]? =some v->X.aw (ad.add (j*t.cells+i)) v):aR X (.sl e t) xs [.slice A n c]:=by
 subst hn
 exact⟨A,c,rfl,h1,h2⟩
theorem zoi{R:Type}{s:SV}{K:Int->Option R}{z:R}(h:s.num K=some z):∃n k,K n=some z/\∀(X:aq) pl v,au X pl s v->v= .int k n:=by
 unfold SV.num at h
 split at h
 ·rename_i k n w
  refine⟨n,k,h,fun X pl v hv=> ?_⟩
  obtain⟨cs,h1,h2,_⟩:=hv
  rw[h2,ku h1]
 ·cases h
theorem zxo(hE:ak P E)(hr:Rel X s a){ops:List Oper}{T:TypeId}{x i:Operand}(ho:o.op= .indexAddr T x i){C:FuncId->bJ Out}(h:act E C ops o s some=some u):aA P X s a o u:=by
 unfold act at h
 simp only[ho] at h
 have hx:=hr.az x
 have hi:=hr.az i
 unfold L5 at h
 obtain⟨n,ik,h,hn⟩:=zoi h
 have ei:=hn X _ _ hi
 split at h
 ·rename_i e t t' xs w hT dE
  rw[dE] at hx
  obtain⟨ys,h,qj⟩:=zz h
  obtain⟨h0,h1,h⟩:=ye h
  cases h
  obtain⟨cs,mc,ev⟩:=qj X (Av x) _ hx.bare
  obtain⟨A,c,hm,hle,dN⟩:=Sm mc
  rw[hm] at ev
  have ap:n.toNat<List.length ys:=by omega
  obtain⟨ad,dU,rfl,ll,aM,dq⟩:=dN n.toNat _ (getD_some (El.bM t) ap)
  have hu:=(hE.ty T _ hT).cS
  refine aA.plain hr (v:= .pointer (some (ad.add (n.toNat*t.cells)))) ?_ ⟨ad.add (n.toNat*t.cells),dU,rfl,yi ll _,aM,fun j v hj=> ?_⟩ (fun _ _ _ e'=>by cases e')
  ·simp only[execOp,ho,Sem.run_bind,Instr.indexAt,ei,ev,asIntOf,Sem.run_pure,Result.andThen_ok,run_underlying hu.1,Sem.run_ite,h0,h1,and_self,if_true,kY hE hu.2]
  ·rw[Lj _ ll];exact dq j v hj
 ·rename_i m t id root p hT dE
  rw[dE] at hx
  obtain⟨r,hb,hx⟩:=hx
  split at h
  ·cases h
  rename_i eX
  have eX:root.bH=false:=by simpa using eX
  obtain⟨hv,fV⟩:=(oU eX).1 hx
  split at h
  case h_2=>cases h
  rename_i u'' bV
  split at h
  case isFalse=>cases h
  rename_i heq
  have:=Ty.aK heq
  subst this
  obtain⟨h0,h1,h⟩:=ye h
  cases h
  obtain⟨e,iE,jk,_⟩:=(hE.ty T _ hT).cS
  have ap:n.toNat<m:=by omega
  refine aA.plain hr (v:= .pointer (some ⟨r,root.off (p++ [n.toNat]),none⟩)) ?_ ⟨r,hb,(oU eX).2 ⟨rfl,zco root p [n.toNat] _ bV fV ⟨ap,by simp [Ty.eS]⟩⟩⟩ (fun bY t' p' e'=> ?_)
  ·simp only[execOp,ho,Sem.run_bind,Instr.indexAt,ei,hv,asIntOf,Sem.run_pure,Result.andThen_ok,run_underlying iE,Instr.sureAddr,Sem.run_ite,h0,h1,and_self,if_true,kY hE jk]
   rw[jH,M5 root p [n.toNat] _ bV]
   simp [Ty.off]
  ·injection e' with e1 e2 e3
   subst e1
   exact yr hr dE
 ·rename_i m t t' xs hT dE
  rw[dE] at hx
  obtain⟨ad,cs,hv,ll,aM,dq⟩:=hx
  simp only[SV.el] at h
  split at h
  case isFalse=>cases h
  rename_i heq
  have:=Ty.aK heq
  subst this
  obtain⟨h0,h1,h⟩:=ye h
  cases h
  obtain⟨e,iE,jk,_⟩:=(hE.ty T _ hT).cS
  obtain⟨l1,l2,l3⟩:=aM
  have ap:n.toNat<m:=by omega
  have CP:=l3 n.toNat _ (getD_some (El.bM t) (by omega))
  refine aA.plain hr (v:= .pointer (some (ad.add (n.toNat*t.cells)))) ?_ ⟨ad.add (n.toNat*t.cells),_,rfl,yi ll _,CP,fun j v hj=> ?_⟩ (fun _ _ _ e'=>by cases e')
  ·simp only[execOp,ho,Sem.run_bind,Instr.indexAt,ei,hv,asIntOf,Sem.run_pure,Result.andThen_ok,run_underlying iE,Instr.sureAddr,Sem.run_ite,h0,h1,and_self,if_true,kY hE jk]
  ·rw[Lj _ ll]
   refine dq _ v ?_
   rw[List.getElem?_take] at hj
   split at hj
   ·rw[List.getElem?_drop] at hj;exact hj
   ·cases hj
 ·rename_i e0 t id r p hT dE
  rw[dE] at hx
  unfold z91 at h
  split at h
  case h_2=>cases h
  rename_i m ta tb
  split at h
  case isFalse=>cases h
  rename_i heq
  have:=Ty.aK heq
  subst this
  obtain⟨h0,h1,h⟩:=ye h
  cases h
  obtain⟨r0,hb,cap,hv,lR⟩:=hx
  have hu:=(hE.ty T _ hT).cS
  refine aA.plain hr (v:= .pointer (some ⟨r0,n.toNat*ta.cells,none⟩)) ?_ ⟨r0,hb,rfl⟩ (fun bY t' p' e'=> ?_)
  ·simp only[execOp,ho,Sem.run_bind,Instr.indexAt,ei,hv,asIntOf,Sem.run_pure,Result.andThen_ok,run_underlying hu.1,Sem.run_ite,h0,h1,and_self,if_true,kY hE hu.2]
   rw[jH,Nat.zero_add]
  ·injection e' with e1 e2 e3
   subst e1
   exact yr hr dE
 ·cases h
theorem Ch{pl:List Nat->Place}{t:Ty}{x:El t}{cs:List Value}(h:aR X t x cs):au X pl (.ah t x []) (dx t cs):=⟨cs,h,rfl,mo⟩
theorem WB(hE:ak P E)(hr:Rel X s a){ops:List Oper}{T:TypeId}{x i:Operand}(ho:o.op= .index T x i){C:FuncId->bJ Out}(h:act E C ops o s some=some u):aA P X s a o u:=by
 unfold act at h
 simp only[ho] at h
 have hx:=hr.az x
 have hi:=hr.az i
 unfold L6 at h
 obtain⟨n,ik,h,hn⟩:=zoi h
 have ei:=hn X _ _ hi
 split at h
 ·rename_i hT
  obtain⟨st,h,ct⟩:=zz h
  obtain⟨h0,h1,h⟩:=ye h
  cases h
  obtain⟨cs,G4,ev⟩:=ct X _ _ hx
  rw[z28 G4] at ev
  have hu:=(hE.ty T _ hT).cS
  have ap:n.toNat<st.size:=by omega
  refine aA.plain hr (v:= .int .u8 (ze st n.toNat)) ?_ iH (fun _ _ _ e'=>by cases e')
  have cu:st[n.toNat]? =some (st[n.toNat]'ap):=getElem?_pos st n.toNat ap
  simp only[execOp,ho,Sem.run_bind,Instr.index,ei,ev,asIntOf,Sem.run_pure,Result.andThen_ok,run_underlying hu,h0,if_true,cu]
  simp [ze,ap]
 ·rename_i m t hT
  obtain⟨ys,h,qj⟩:=zz h
  obtain⟨h0,h1,h⟩:=ye h
  cases h
  obtain⟨cs,mc,ev⟩:=qj X _ _ hx
  rw[iI rfl] at ev
  obtain⟨e,iE,jk,_⟩:=(hE.ty T _ hT).cS
  obtain⟨l1,l2,l3⟩:=mc
  have ap:n.toNat<m:=by omega
  have CP:=l3 n.toNat _ (getD_some (El.bM t) (by omega))
  refine aA.plain hr ?_ (Ch CP) (fun _ _ _ e'=>by cases e')
  have hp:=BV hE jk CP (all:=cs.toArray) (off:=n.toNat*t.cells) rfl X.w
  simp only[execOp,ho,Sem.run_bind,Instr.index,ei,ev,asIntOf,Sem.run_pure,Result.andThen_ok,run_underlying iE,h0,h1,and_self,if_true,kY hE jk,hp]
 ·cases h
theorem WA(hE:ak P E)(hr:Rel X s a){ops:List Oper}{T:TypeId}{x:Operand}{j:Nat}(ho:o.op= .field T x j){C:FuncId->bJ Out}(h:act E C ops o s some=some u):aA P X s a o u:=by
 unfold act at h
 simp only[ho] at h
 have hx:=hr.az x
 split at h
 case h_2=>cases h
 rename_i t hT
 split at h
 ·cases h
 rename_i fM
 have fM:t.cR=true:=by simpa using fM
 obtain⟨y,h,hy⟩:=zz h
 split at h
 case h_2=>cases h
 rename_i ft z hg
 cases h
 obtain⟨cs,rep,ev⟩:=hy X _ _ hx
 have pN:t.agg=true:=by cases t<;>simp_all [Ty.cR,Ty.agg]
 rw[iI pN] at ev
 obtain⟨fs,iE,jk⟩:=zcx hE hT fM
 obtain⟨f,g1,g2,g3,fV⟩:=P3 fs.toList t 0 j ft jk fM (L4 t [j] y ft z hg)
 obtain⟨k1,k2,k3⟩:=Lo rep fV hg
 have jf:fs[j]? =some f:=by rw[<-Array.getElem?_toList];exact g1
 refine aA.plain hr ?_ (Ch k3) (fun _ _ _ e'=>by cases e')
 have hp:=BV hE g3 k3 (all:=cs.toArray) (off:=f.offset) (by rw[g2,Nat.zero_add]) X.w
 simp only[execOp,ho,Sem.run_bind,Instr.field,run_underlying iE,Result.andThen_ok,jf,ev,asAgg,Sem.run_pure,hp]
theorem acg(hE:ak P E)(hr:Rel X s a){ops:List Oper}{x:Operand}{T:TypeId}{dT:Array Operand}{ts:Array TypeId}(ho:o.op= .call ⟨.builtin .len,dT,ts⟩){C:FuncId->bJ Out}(h:act E C ops o s some=some u):aA P X s a o u:=by
 unfold act at h
 simp only[ho] at h
 split at h
 case h_2=>cases h
 rename_i x T pP zR
 have has:dT= #[x]:=by rw[<-Array.toArray_toList (xs:=dT),pP]
 have gB:ts= #[T]:=by rw[<-Array.toArray_toList (xs:=ts),zR]
 subst has gB
 have hx:=hr.az x
 unfold sm at h
 split at h
 ·rename_i hT
  obtain⟨st,h,ct⟩:=zz h
  cases h
  obtain⟨cs,G4,ev⟩:=ct X _ _ hx
  rw[z28 G4] at ev
  have hu:=(hE.ty T _ hT).cS
  refine aA.plain hr (v:= .int .i64 st.size) ?_ iH (fun _ _ _ e'=>by cases e')
  simp [execOp,ho,resolve,invoke,builtin,Builtin.len_,ev,run_underlying hu,goInt]
 ·rename_i e t hT
  have hu:=(hE.ty T _ hT).cS
  split at h
  ·rename_i id n ta tb dE
   cases h
   rw[dE] at hx
   obtain⟨r0,hb,cap,ev,lR⟩:=hx
   refine aA.plain hr (v:= .int .i64 n) ?_ iH (fun _ _ _ e'=>by cases e')
   simp [execOp,ho,resolve,invoke,builtin,Builtin.len_,ev,run_underlying hu.1,goInt]
  ·obtain⟨xs,h,Tu⟩:=zz h
   cases h
   obtain⟨cs,AD,ev⟩:=Tu X _ _ hx
   obtain⟨A,c,hm,_,_⟩:=Sm AD
   rw[hm] at ev
   refine aA.plain hr (v:= .int .i64 (List.length xs)) ?_ iH (fun _ _ _ e'=>by cases e')
   simp [execOp,ho,resolve,invoke,builtin,Builtin.len_,ev,run_underlying hu.1,goInt]
 ·rename_i n t hT
  cases h
  obtain⟨e,iE,jk,_⟩:=(hE.ty T _ hT).cS
  refine aA.plain hr (v:= .int .i64 n) ?_ iH (fun _ _ _ e'=>by cases e')
  simp [execOp,ho,resolve,invoke,builtin,Builtin.len_,run_underlying iE,goInt]
 ·cases h
theorem zyu(hr:Rel X s a){ops:List Oper}{g:Bool}{dT:Array Operand}{ts:Array TypeId}(ho:o.op= .call ⟨.builtin (if g then .max else .min),dT,ts⟩){C:FuncId->bJ Out}(h:act E C ops o s some=some u):aA P X s a o u:=by
 have key:∀x y,dT= #[x,y]->jq g (s.az x) (s.az y) some=some u->aA P X s a o u:=by
  intro x y has h
  subst has
  have hx:=hr.az x
  have hy:=hr.az y
  unfold jq at h
  split at h
  case h_2=>cases h
  rename_i k m _ k' n _ e1 e2
  rw[e1] at hx
  rw[e2] at hy
  have vx:=yc hx
  have vy:=yc hy
  cases h
  refine aA.plain hr (v:= .int k (bif g then(if(m:Int)<n then n else m) else(if(n:Int)<m then n else m))) ?_ iH (fun _ _ _ e'=>by cases e')
  cases g
  ·simp [execOp,ho,resolve,invoke,builtin,Builtin.min_,Builtin.min2,vx,vy]
  ·simp [execOp,ho,resolve,invoke,builtin,Builtin.max_,Builtin.max2,vx,vy]
 unfold act at h
 cases g with
 |true=>
  simp only[ho,if_true] at h
  split at h
  ·rename_i x y e
   exact key x y (by rw[<-Array.toArray_toList (xs:=dT),e]) h
  ·cases h
 |false=>
  simp only[ho,Bool.false_eq_true,if_false] at h
  split at h
  ·rename_i x y e
   exact key x y (by rw[<-Array.toArray_toList (xs:=dT),e]) h
  ·cases h
theorem ae1(hr:Rel X s a){ops:List Oper}{op:UnOp}{T:TypeId}{x:Operand}(ho:o.op= .unOp op T x){C:FuncId->bJ Out}(h:act E C ops o s some=some u):aA P X s a o u:=by
 unfold act at h
 simp only[ho] at h
 have hx:=hr.az x
 unfold Hd at h
 split at h
 ·rename_i b w e
  rw[e] at hx
  cases h
  refine aA.plain hr (v:= .bool (!b)) ?_ mm (fun _ _ _ e'=>by cases e')
  simp [execOp,ho,Km hx,Op.unary]
 ·rename_i k n w e
  rw[e] at hx
  cases h
  refine aA.plain hr (v:= .int k (k.wrap (0-n))) ?_ iH (fun _ _ _ e'=>by cases e')
  simp [execOp,ho,yc hx,Op.unary,Op.intArith]
 ·cases h
theorem Vg(hr:Rel X s a){ops:List Oper}{x:Operand}(ho:o.op= .nilCheck x){C:FuncId->bJ Out}(h:act E C ops o s some=some u):aA P X s a o u:=by
 unfold act at h
 simp only[ho] at h
 have hx:=hr.az x
 split at h
 ·rename_i id t p e
  rw[e] at hx
  split at h
  ·cases h
  rename_i eX
  have eX:t.bH=false:=by simpa using eX
  cases h
  obtain⟨r,h1,hx⟩:=hx
  obtain⟨h2,h3⟩:=(oU eX).1 hx
  refine aA.plain hr (v:= .pointer (some ⟨r,t.off p,none⟩)) ?_ ⟨r,h1,(oU eX).2 ⟨rfl,h3⟩⟩ (fun bY t' p' e'=> ?_)
  ·simp [execOp,ho,h2]
  ·injection e' with e1 e2 e3
   subst e1
   exact yr hr e
 ·rename_i t y e
  rw[e] at hx
  cases h
  obtain⟨ad,cs,h1,h2⟩:=hx
  refine aA.plain hr (v:= .pointer (some ad)) ?_ ⟨ad,cs,rfl,h2⟩ (fun _ _ _ e'=>by cases e')
  simp [execOp,ho,h1]
 ·cases h
theorem z139(hr:Rel X s a){ops:List Oper}{x:Operand}{j:Nat}(ho:o.op= .extract x j){C:FuncId->bJ Out}(h:act E C ops o s some=some u):aA P X s a o u:=by
 unfold act at h
 simp only[ho] at h
 split at h
 case h_2=>cases h
 rename_i t
 have hs:=hr.slot t
 split at h
 ·rename_i hlen
  split at h
  case h_2=>cases h
  rename_i rT
  cases h
  have Mx:=hr.az (.tmp t)
  rw[show s.az (.tmp t)=SV.over from rT] at Mx
  have Mx:a.eval (.tmp t)= .tuple #[.bool false]:=Mx
  refine aA.plain hr (v:= .bool false) ?_ mm (fun _ _ _ e'=>by cases e')
  simp [execOp,ho,Mx,Instr.extract]
 rename_i hlen
 have m5:(s.slot t).length≠1:=fun e=>hlen (by rw[e];rfl)
 have Tr:∃vs:Array Value,a.tmps.getD t Go.undef= .tuple vs/\vs.size=(s.slot t).length/\∀(j:Nat) sv v,(s.slot t)[j]? =some sv->vs[j]? =some v->au X (.c t j) sv v:=by
  match hm:s.slot t with
  | [sv]=>rw[hm] at m5;exact absurd rfl m5
  | []=>rw[hm] at hs;exact hs
  |_::_::_=>rw[hm] at hs;exact hs
 obtain⟨vs,h1,h2,h3⟩:=Tr
 have aW:∀v,vs[j]? =some v->(execOp a.eval o).run P X.w= .ok (.value v) X.w:=by
  intro v hv
  simp only[execOp,ho,Act.eval,h1,Sem.run_bind,Instr.extract,hv,Sem.run_pure,Result.andThen_ok]
 have hv:∀sv,(s.slot t)[j]? =some sv->∃v,vs[j]? =some v:=by
  intro sv jD
  have:=(List.getElem?_eq_some_iff.1 jD).1
  exact⟨_,Array.getElem?_eq_getElem (by omega)⟩
 split at h
 ·rename_i ut y w e
  cases h
  obtain⟨v,hv⟩:=hv _ e
  cases w with
  |nil=>exact aA.plain hr (aW v hv) (h3 j _ v e hv).bare (fun _ _ _ h=>by cases h)
  |cons p w=>exact aA.xU hr (aW v hv) (h3 j _ v e hv)
 ·cases h
 ·rename_i sv h4 h5 e
  cases h
  obtain⟨v,hv⟩:=hv _ e
  refine aA.plain hr (aW v hv) ((h3 j _ v e hv).place ?_) (fun id ty p e'=> ?_)
  ·cases sv with
   |ah ut y w=>exact(h4 ut y w rfl).elim
   |_=>trivial
  ·by_cases ap:t<s.sl.length
   ·refine hr.live t _ id ty p (vT ap) ?_
    rw[<-e'];exact List.mem_of_getElem? e
   ·have:s.slot t=[.undef]:=by simp [State.slot,List.getElem?_eq_none (Nat.le_of_not_lt ap)]
    rw[this] at m5
    exact absurd rfl m5
 ·cases h
end Go.Ref

namespace Go.Ref
open Go
variable {P:Program} {E:Env} {X:aq} {s:State} {a:Act} {o:Oper} {u:Out}
def mI(v:Option SV)(n:Nat)(d:Nat):Prop:=match v with
 |none=>n=d
 |some v=>∀(X:aq) pl val,au X pl v val->val= .int .i64 (n:Int)
theorem Ir{l:Int}{m:Nat}(h1:0<=l)(h2:l<=(m:Int)):l.toNat<=m:=by omega
theorem ztk{l:Int}(h1:0<=l):((l.toNat:Nat):Int)=l:=by omega
theorem z9r{R:Type}{lo:Option SV}{m:Nat}{G:Nat->Option R}{z:R}(h:vZ lo m G=some z):∃l,G l=some z/\l<=m/\mI lo l 0:=by
 unfold vZ at h
 cases lo with
 |none=>exact⟨0,h,Nat.zero_le _,rfl⟩
 |some v=>
  obtain⟨l,h,hl⟩:=zz h
  cases h1:decide (0<=l)<;>rw[h1] at h
  ·cases h
  ·cases h2:decide (l<=(m:Int))<;>rw[h2] at h
   ·cases h
   ·have h1:=of_decide_eq_true h1
    have h2:=of_decide_eq_true h2
    refine⟨l.toNat,h,Ir h1 h2,fun X pl val hv=> ?_⟩
    obtain⟨cs,r,e⟩:=hl X pl val hv
    rw[e,ku r,ztk h1]
theorem zsg{R:Type}{lo hi:Option SV}{n:Nat}{F:Nat->Nat->Option R}{z:R}(h:cutAt lo hi n F=some z):∃l m,F l m=some z/\l<=m/\m<=n/\mI lo l 0/\mI hi m n:=by
 unfold cutAt at h
 cases hi with
 |none=>
  obtain⟨l,h1,h2,h3⟩:=z9r h
  exact⟨l,n,h1,h2,Nat.le_refl _,h3,rfl⟩
 |some v=>
  obtain⟨m,h,hm⟩:=zz h
  cases h1:decide (0<=m)<;>rw[h1] at h
  ·cases h
  ·cases h2:decide (m<=(n:Int))<;>rw[h2] at h
   ·cases h
   ·have h1:=of_decide_eq_true h1
    have h2:=of_decide_eq_true h2
    have h:vZ lo (Int.toNat m) (fun l=>F l (Int.toNat m))=some z:=h
    obtain⟨l,g1,g2,g3⟩:=z9r h
    refine⟨l,m.toNat,g1,g2,Ir h1 h2,g3,fun X pl val hv=> ?_⟩
    obtain⟨cs,r,e⟩:=hm X pl val hv
    rw[e,ku r,ztk h1]
theorem mI.val(hr:Rel X s a){x:Option Operand}{n d:Nat}(h:mI (x.map s.az) n d):(x=none/\n=d)\/x.map a.eval=some (.int .i64 (n:Int)):=by
 cases x with
 |none=>exact .inl ⟨rfl,h⟩
 |some x=>exact .inr (by rw[Option.map_some,h X _ _ (hr.az x)])
theorem zca(hr:Rel X s a){isS:Bool}{lo hi:Option Operand}{l m n c:Nat}(hl:mI (lo.map s.az) l 0)(hm:mI (hi.map s.az) m n)(h1:l<=m)(h2:m<=n)(h3:n<=c)(w:World):
 (Instr.sliceBounds isS n c (lo.map a.eval) (hi.map a.eval) none).run P w= .ok (l,m,c) w:=by
 have sb:∀(i y:Nat) (code:BoundsCode),i<=y->(Instr.sliceBound (.int .i64 (i:Int)) y code).run P w= .ok i w:=by
  intro i y code h
  rw[run_sliceBound (P:=P) (w:=w) .i64 (i:Int) y code (by omega) (by omega)]
  simp
 rcases hl.val hr with⟨rfl,rfl⟩|hl<;>rcases hm.val hr with⟨rfl,rfl⟩|hm
 ·simp [Instr.sliceBounds]
 ·simp [Instr.sliceBounds,hm,sb m c _ (by omega)]
 ·simp [Instr.sliceBounds,hl,sb l m _ h1]
 ·simp [Instr.sliceBounds,hl,hm,sb l m _ h1,sb m c _ (by omega)]
theorem YT(hE:ak P E)(hr:Rel X s a){T:TypeId}{x:Operand}{lo hi:Option Operand}(ho:o.op= .slice T x lo hi none)(h:pK E T (s.az x) (lo.map s.az) (hi.map s.az) some=some u):aA P X s a o u:=by
 have hx:=hr.az x
 unfold pK at h
 split at h
 ·rename_i hT
  obtain⟨st,h,ct⟩:=zz h
  obtain⟨l,m,h,h1,h2,hl,hm⟩:=zsg h
  cases h
  obtain⟨cs,G4,ev⟩:=ct X _ _ hx
  rw[z28 G4] at ev
  have hu:=(hE.ty T _ hT).cS
  refine aA.plain hr (v:= .string (st.extract l m)) ?_ yj (fun _ _ _ e'=>by cases e')
  simp only[execOp,ho,Sem.run_bind,Instr.sliceAt,run_underlying hu,Result.andThen_ok,Instr.slice,ev,Option.map_none,Option.isSome_none,Bool.false_eq_true,if_false,zca hr hl hm h1 h2 (Nat.le_refl _),Sem.run_pure]
 ·rename_i e t hT
  obtain⟨xs,h,pP⟩:=zz h
  obtain⟨l,m,h,h1,h2,hl,hm⟩:=zsg h
  cases h
  obtain⟨cs,AD,ev⟩:=pP X _ _ hx
  obtain⟨A,c,Gm,hle,dN⟩:=Sm AD
  rw[Gm] at ev
  have hu:=(hE.ty T _ hT).cS
  have hlen:((List.take m xs).drop l).length=m-l:=by rw[List.length_drop,List.length_take,Nat.min_eq_left h2]
  refine aA.plain hr (v:= .slice (if c=l then A else A.map (·.add (l*t.cells))) (m-l) (c-l)) ?_ ⟨_,aR.vu (A:=if c=l then A else A.map (·.add (l*t.cells))) (n:=m-l) (c:=c-l) hlen (by omega) (fun j y hj=> ?_),rfl,mo⟩ (fun _ _ _ e'=>by cases e')
  ·simp only[execOp,ho,Sem.run_bind,Instr.sliceAt,run_underlying hu.1,Result.andThen_ok,Instr.slice,ev,Option.map_none,zca hr hl hm h1 h2 hle,Sem.run_pure,kY hE hu.2]
  ·have uY:=(List.getElem?_eq_some_iff.1 hj).1
   rw[hlen] at uY
   have Ge:xs[l+j]? =some y:=by
    rw[List.getElem?_drop,List.getElem?_take,if_pos (by omega)] at hj
    exact hj
   obtain⟨ad,dU,rfl,ll,aM,dq⟩:=dN (l+j) y Ge
   rw[if_neg (by omega)]
   refine⟨ad.add (l*t.cells),dU,rfl,yi ll _,aM,fun i v hi=> ?_⟩
   rw[Lj _ ll,<-Nat.add_assoc,<-Nat.add_mul]
   exact dq i v hi
 ·cases h
theorem Wy(hE:ak P E)(hr:Rel X s a){S T:TypeId}{x:Operand}(ho:o.op= .convert S T x)(h:kc E S T (s.az x) some=some u):aA P X s a o u:=by
 have hx:=hr.az x
 unfold kc at h
 split at h
 ·rename_i k k' hS hT
  obtain⟨n,h,hn⟩:=zz h
  cases h
  obtain⟨cs,rn,ev⟩:=hn X _ _ hx
  rw[ku rn] at ev
  have hu:=(hE.ty S _ hS).cS
  have hv:=(hE.ty T _ hT).cS
  refine aA.plain hr (v:= .int k' (k'.wrap n)) ?_ iH (fun _ _ _ e'=>by cases e')
  simp [execOp,ho,ev,convert,run_underlying hu,run_underlying hv,Conv.intToInt]
 ·rename_i hS hT
  obtain⟨st,h,ct⟩:=zz h
  cases h
  obtain⟨cs,rn,ev⟩:=ct X _ _ hx
  rw[z28 rn] at ev
  have hu:=(hE.ty S _ hS).cS
  have hv:=(hE.ty T _ hT).cS
  refine aA.plain hr (v:= .string st) ?_ yj (fun _ _ _ e'=>by cases e')
  simp [execOp,ho,ev,convert,run_underlying hu,run_underlying hv]
 ·rename_i e hS hT
  obtain⟨xs,h,pP⟩:=zz h
  cases h
  obtain⟨cs,AD,ev⟩:=pP X _ _ hx
  obtain⟨A,c,Gm,hle,dN⟩:=Sm AD
  rw[Gm] at ev
  have hu:=(hE.ty S _ hS).cS
  have he:=(hE.ty e _ hu.2).cS
  have hv:=(hE.ty T _ hT).cS
  refine aA.plain hr (v:= .string (strOf xs)) ?_ yj (fun _ _ _ e'=>by cases e')
  have key:(convert S T (.slice A (List.length xs) c)).run P X.w= .ok (.string (strOf xs)) X.w:=by
   cases A with
   |none=>
    have rR:xs=[]:=by
     cases xs with
     |nil=>rfl
     |cons y ys=>obtain⟨ad,_,h,_⟩:=dN 0 y rfl;cases h
    rw[run_convert_bytes_nil X.w S e hu.1 he _ _ T hv,rR]
    rfl
   |some ad=>
    rw[run_convert_bytes_string X.w S T e _ _ c hu.1 he hv]
    have jg:(loadCells ad (List.length xs)).run P X.w= .ok (List.map (Value.int .u8) xs).toArray X.w:=by
     have:=run_loadCells_list (P:=P) X.w ad (List.map (Value.int .u8) xs) (fun j v hj=>by
      obtain⟨y,hy,rfl⟩:=List.getElem?_map .. ▸hj|>Option.map_eq_some_iff.1
      obtain⟨oH,dU,h1,ll,aM,dq⟩:=dN j y hy
      cases h1
      have hc:dU=[.int .u8 y]:=aM
      have:=dq 0 (.int .u8 y) (by rw[hc];rfl)
      have h2:=this.2.1
      simpa [Ty.cells] using h2)
     rw[List.length_map] at this
     exact this
    rw[run_bytesToString X.w ad _ c xs jg,foldl_push_bytes]
    simp [strOf,ByteArray.empty,ByteArray.emptyWithCapacity]
    rfl
  simp only[execOp,ho,Sem.run_bind,ev,key,Result.andThen_ok,Sem.run_pure]
 ·cases h
def aq.new(X:aq)(cs:Array Value)(T:TypeId)(w:Ow)(β:Nat->Option Nat):aq:={w:=X.w.alloc (.cells cs T),ow:=fun g=>if g=X.w.heap.size then w else X.ow g,β}
theorem zof(X:aq)(s:State)(cs:Array Value)(T:TypeId)(w:Ow)(β:Nat->Option Nat)(hβ0:β 0=X.β 0)(hβ:∀(id:Nat) B,s.bs[id]? =some (some B)->β id=X.β id):eN s X (X.new cs T w β) where
 size:=by simp [aq.new]
 os:=rfl
 tape:=rfl
 output:=rfl
 mz:=fun g hg=>⟨by simp only[aq.new];rw[if_neg (by omega)],RowKit.Below.heap_alloc _ _ _ hg⟩
 β0:=hβ0
 β:=hβ
theorem zh1(X:aq)(cs:Array Value)(T:TypeId)(w:Ow)(β:Nat->Option Nat):(X.new cs T w β).w.heap[X.w.heap.size]? =some (.cells cs T (0,0))/\(X.new cs T w β).ow X.w.heap.size=w:=⟨heap_alloc_new X.w _,by simp [aq.new]⟩
theorem zcs(T:TypeId)(v:Value)(w:World):(newVar T v).run P w= .ok ⟨w.heap.size,0,none⟩ (w.alloc (.cells v.cells T)):=by
 simp [newVar,newRow]
theorem Rel.ga{Y:aq}(hr:Rel Y s a){d r:Nat}{B:bm}(hd:d<s.bs.length)(hb:s.bs[d]? =some none)(hβ:Y.β d=some r)(h:bC Y d r B):Rel Y (s.aC (some (d,B))) a where
 size:=hr.size
 gM:=by simpa [State.aC] using hr.gM
 bL:=hr.bL
 boxes:=fun id B' fA=>by
  simp only[State.aC,List.getElem?_set] at fA
  by_cases e:d=id
  ·subst e
   rw[if_pos rfl,if_pos hd] at fA
   cases fA;exact⟨r,hβ,h⟩
  ·rw[if_neg e] at fA
   exact hr.boxes id B' fA
 live:=fun i l id t p hi hm=>by
  obtain⟨B',fA⟩:=hr.live i l id t p hi hm
  simp only[State.aC,List.getElem?_set]
  by_cases e:d=id
  ·subst e;rw[hb] at fA;cases fA
  ·rw[if_neg e];exact⟨B',fA⟩
 defers:=hr.defers
theorem ql{d:Nat}{B:bm}(h:s.box d=some B):s.bs[d]? =some (some B):=by
 unfold State.box at h
 rw[List.getD_eq_getElem?_getD] at h
 cases hg:s.bs[d]? with
 |none=>rw[hg] at h;cases h
 |some x=>rw[hg] at h;simp at h;rw[h]
theorem zy2(hr:Rel X s a){x:Operand}{t:Ty}{R:Type}{K:El t->Option R}{z:R}(h:(s.az x).el t K=some z){c:List (Nat×Nat)}(hc:c=src x\/((s.az x).own=[]/\c=[])):
 ∃y,K y=some z/\∀q:List Nat->Place,∃Y cs,Y.w=X.w/\Ext X Y/\Rel Y (s.close c) a/\aR Y t y cs/\a.eval x=dx t cs/\bg Y q t y cs (s.az x).own/\Y.β=X.β/\dn (s.close c) X Y/\kE X Y:=by
 have hx:=hr.az x
 cases hs:s.az x with
 |ah t' y' w=>
  rw[hs] at hx h hc
  simp only[SV.el] at h
  split at h
  case isFalse=>cases h
  rename_i heq
  have:=Ty.aK heq
  subst this
  refine⟨y',h,fun q=> ?_⟩
  have plain:w=[]->∃Y cs,Y.w=X.w/\Ext X Y/\Rel Y (s.close c) a/\aR Y t' y' cs/\a.eval x=dx t' cs/\bg Y q t' y' cs (SV.ah t' y' w).own/\Y.β=X.β/\dn (s.close c) X Y/\kE X Y:=by
   intro hw
   subst hw
   obtain⟨cs,h1,h2,_⟩:=hx
   exact⟨X,cs,rfl,Ext.refl X,hr.close _,h1,h2,mo,rfl,dn.refl _ _,kE.refl X⟩
  rcases hc with hc|⟨hw,_⟩
  ·cases x with
   |tmp i=>
    obtain⟨Y,h1,h2,h3,⟨cs,h4,h5,h6⟩,h7,h8,h9⟩:=hr.take hx q
    subst hc
    exact⟨Y,cs,h1,h2,h3,h4,h5,h6,h7,h8,h9⟩
   |const v=>exact plain (zgf (show yp v= .ah t' y' w from hs))
   |_=>simp [State.az,State.vm,one] at hs
  ·exact plain hw
 |cr=>
  rw[hs] at hx h
  cases t<;>simp only[SV.el] at h<;>try(cases h;done)
  rename_i e t
  refine⟨[],h,fun q=>⟨X,[.slice none 0 0],rfl,Ext.refl X,hr.close _,⟨none,0,rfl,Nat.le_refl _,fun j x hj=>by simp at hj⟩,hx,fun p hp=> ?_,rfl,dn.refl _ _,kE.refl X⟩⟩
  have hp:p=[]:=by simpa [SV.own] using hp
  subst hp
  exact⟨e,t,[],_,by simp [Ty.eS],rfl,rfl,.inl ⟨rfl,rfl⟩⟩
 |_=>rw[hs] at h;simp [SV.el] at h
theorem aA.ga{P:Program}(hr:Rel X s a){d:Nat}{T:TypeId}{t:Ty}{y:El t}{cs:List Value}{own:List (List Nat)}{c:List (Nat×Nat)}{W:aq}
 (eX:t.bH=false) (hd:o.dst=some d) (hb:s.bs[d+1]? =some none) (hW:W.w=X.w) (hX:Ext X W) (Mz:Rel W (s.close c) a) (aM:aR W t y cs)
 (bP:bg W (.b (d+1)) t y cs own)
 (aW:(execOp a.eval o).run P X.w= .ok (.value (.pointer (some ⟨X.w.heap.size,0,none⟩))) (X.w.alloc (.cells cs.toArray T))):aA P X s a o {v:=[.ptr (d+1) t []],bx:=some (d+1,⟨t,y,own⟩),cl:=c}:=by
 let β:Nat->Option Nat:=fun id=>if id=d+1 then some W.w.heap.size else W.β id
 have ap:d+1<s.bs.length:=(List.getElem?_eq_some_iff.1 hb).1
 have jB:(s.close c).bs[d+1]? =some none:=by rw[vH];exact hb
 have hk:eN (s.close c) W (W.new cs.toArray T (.box (d+1)) β):=zof W _ _ _ _ _ (by show(if _ then _ else _)=_;rw[if_neg (by omega)]) (fun id B hB=>by
  show(if id=d+1 then _ else _)=_
  rw[if_neg (fun e=>by rw[e,jB] at hB;cases hB)])
 obtain⟨n1,n2⟩:=zh1 W cs.toArray T (.box (d+1)) β
 have b6:bC (W.new cs.toArray T (.box (d+1)) β) (d+1) W.w.heap.size ⟨t,y,own⟩:=
  ⟨n2,dg.of eX n1 (by simpa using aM.al (fun _ _=>hk.aw)) (by simpa using bP.di hk)⟩
 have hβd:β (d+1)=some W.w.heap.size:=by show(if d+1=d+1 then _ else _)=_;rw[if_pos rfl]
 have dZ:=(Mz.di hk).ga (by rw[vH];exact ap) jB hβd b6
 refine⟨W.new cs.toArray T (.box (d+1)) β,.pointer (some ⟨X.w.heap.size,0,none⟩),.inl ?_,hX.trans hk.ext,?_⟩
 ·rw[aW];simp [aq.new,hW]
 ·rw[hd]
  refine dZ.put (fun d' e=> ?_) (fun id t' p hm=> ?_)
  ·cases e
   refine⟨W.w.heap.size,hβd,(oU eX).2 ⟨?_,by simp [Ty.eS]⟩⟩
   rw[hW]
   simp [Ty.off]
  ·have:id=d+1:=by have:=hm;simp at this;exact this.1
   subst this
   exact⟨⟨t,y,own⟩,by simp [State.aC,List.getElem?_set,vH,ap]⟩
theorem Nw(hE:ak P E){T:TypeId}{t:Ty}(ht:E.ty T=some t)(w:World):(zeroValue T).run P w= .ok (dx t (zp t)) w:=by
 obtain⟨i,h1,_,_,h2⟩:=(hE.ty T t ht).info
 simp [zeroValue,typeInfo,h1,h2]
theorem zzm(X:aq)(pl:List Nat->Place):∀t:Ty,bg X pl t (El.bM t) (zp t) (vJ t):=by
 intro t
 induction t generalizing pl with
 |sl e t=>
  intro p hp
  have hp:p=[]:=by simpa [vJ] using hp
  subst hp
  exact⟨e,t,[],.slice none 0 0,by simp [Ty.eS],rfl,rfl,.inl ⟨rfl,rfl⟩⟩
 |pair ta tb kM kN=>
  intro p hp
  simp only[vJ,List.mem_append,List.mem_map,List.mem_filterMap] at hp
  rcases hp with⟨q,hq,rfl⟩|⟨q,hq,he⟩
  ·obtain⟨e,t',xs,v,g0,g1,g2,g3⟩:=kM (fun q=>pl (0::q)) q hq
   refine⟨e,t',xs,v,g0,g1,?_,g3⟩
   have hl:=(List.getElem?_eq_some_iff.1 g2).1
   simp only[Ty.off,zp]
   rw[List.getElem?_append_left hl]
   exact g2
  ·cases q with
   |nil=>simp [bump] at he
   |cons j q=>
    simp only[bump,Option.some.injEq] at he
    subst he
    obtain⟨e,t',xs,v,g0,g1,g2,g3⟩:=kN (fun q=>match q with| []=>pl []|j::q=>pl ((j+1)::q)) (j::q) hq
    refine⟨e,t',xs,v,g0,g1,?_,g3⟩
    simp only[Ty.off,zp]
    rw[List.getElem?_append_right (by rw[td];omega),td,Nat.add_sub_cancel_left]
    exact g2
 |_=>intro p hp;simp [vJ] at hp
theorem aA.Aq{P:Program}(hr:Rel X s a){d:Nat}{T e:TypeId}(hd:o.dst=some d)(hb:s.bs[d+1]? =some none)
 (aW:(execOp a.eval o).run P X.w= .ok (.value (.pointer (some ⟨X.w.heap.size,0,none⟩))) (X.w.alloc (.cells #[.pointer none,.slice none 0 0] T))):
 aA P X s a o {v:=[.ptr (d+1) (.aV (.fF T e) .unit .unit) []],bx:=some (d+1,⟨.aV (.fF T e) .unit .unit,(⟨#[]⟩:ByteArray),[[]]⟩)}:=by
 let β:Nat->Option Nat:=fun id=>if id=d+1 then some X.w.heap.size else X.β id
 have ap:d+1<s.bs.length:=(List.getElem?_eq_some_iff.1 hb).1
 have hk:eN s X (X.new #[.pointer none,.slice none 0 0] T (.box (d+1)) β):=zof X _ _ _ _ _ (by show(if _ then _ else _)=_;rw[if_neg (by omega)]) (fun id B hB=>by
  show(if id=d+1 then _ else _)=_
  rw[if_neg (fun e=>by rw[e,hb] at hB;cases hB)])
 obtain⟨n1,n2⟩:=zh1 X #[.pointer none,.slice none 0 0] T (.box (d+1)) β
 have b6:bC (X.new #[.pointer none,.slice none 0 0] T (.box (d+1)) β) (d+1) X.w.heap.size ⟨.aV (.fF T e) .unit .unit,(⟨#[]⟩:ByteArray),[[]]⟩:=
  ⟨n2,⟨_,n1⟩,fun _=>⟨.slice none 0 0,⟨.inl n1,⟨rfl,.inl ⟨rfl,rfl⟩⟩,by simp [Value.ownBlock]⟩,fun g hg=>by simp [Value.ownBlock] at hg⟩⟩
 have hβd:β (d+1)=some X.w.heap.size:=by show(if d+1=d+1 then _ else _)=_;rw[if_pos rfl]
 have dZ:=(hr.di hk).ga ap hb hβd b6
 refine⟨X.new #[.pointer none,.slice none 0 0] T (.box (d+1)) β,.pointer (some ⟨X.w.heap.size,0,none⟩),.inl aW,hk.ext,?_⟩
 rw[hd]
 refine dZ.put (fun d' e=> ?_) (fun id t' p hm=> ?_)
 ·cases e
  exact⟨X.w.heap.size,hβd,(KH rfl).2 ⟨by simp [Ty.off],by simp [Ty.eS]⟩⟩
 ·have:id=d+1:=by have:=hm;simp at this;exact this.1
  subst this
  exact⟨_,by simp [State.aC,List.getElem?_set,ap];rfl⟩
theorem Wu(hE:ak P E)(hr:Rel X s a){ops:List Oper}{T:TypeId}(ho:o.op= .alloc T){C:FuncId->bJ Out}(h:act E C ops o s some=some u):aA P X s a o u:=by
 unfold act at h
 simp only[ho] at h
 split at h
 case h_3=>cases h
 case h_2=>
  rename_i d hT hd
  split at h
  case h_2=>cases h
  rename_i e Mo
  split at h
  case h_2=>cases h
  rename_i hb
  cases h
  obtain⟨i,h1,h2⟩:=hE.bl T e Mo
  refine aA.Aq hr hd hb ?_
  have hz:(zeroValue T).run P X.w= .ok (.agg #[.pointer none,.slice none 0 0]) X.w:=by simp [zeroValue,typeInfo,h1,h2]
  simp only[execOp,ho,Sem.run_bind,Instr.alloc,hz,Result.andThen_ok,zcs,Sem.run_pure]
  rfl
 rename_i t d hT hd
 split at h
 case h_2=>cases h
 rename_i hb
 cases h
 have aM:=sR X t
 refine aA.ga (T:=T) (cs:=zp t) (W:=X) (c:=[]) hr (hE.gT hT) hd hb rfl (Ext.refl X) hr aM (zzm X _ t) ?_
 simp only[execOp,ho,Sem.run_bind,Instr.alloc,Nw hE hT,Result.andThen_ok,zcs,vF aM,Sem.run_pure]
theorem ace(hE:ak P E)(hr:Rel X s a){ops:List Oper}{T:TypeId}{x:Operand}(ho:o.op= .box T x){C:FuncId->bJ Out}(h:act E C ops o s some=some u):aA P X s a o u:=by
 unfold act at h
 simp only[ho] at h
 split at h
 case h_2=>cases h
 rename_i t d hT hd
 split at h
 case h_2=>cases h
 rename_i hb
 obtain⟨y,h,hy⟩:=zy2 hr h (.inl rfl)
 cases h
 obtain⟨W,cs,h1,h2,h3,h4,h5,h6,_,_,_⟩:=hy (.b (d+1))
 refine aA.ga (T:=T) (cs:=cs) (W:=W) hr (hE.gT hT) hd hb h1 h2 h3 h4 h6 ?_
 simp only[execOp,ho,Sem.run_bind,Instr.box,zcs,Result.andThen_ok,Sem.run_pure,h5,vF h4]
end Go.Ref

namespace Go.Ref
open Go
variable {P:Program} {E:Env} {X:aq} {s:State} {a:Act} {o:Oper} {u:Out}
theorem CY(hE:ak P E){T:TypeId}{t:Ty}(ht:E.ty T=some t){x:El t}{cs:List Value}(hr:aR X t x cs){ad:Addr}{w:World}(hc:∀(i:Nat) v,cs[i]? =some v->w.cell? (ad.add i)=some v):(loadVar T ad).run P w= .ok (dx t cs) w:=by
 have hl:=hr.len
 unfold loadVar
 simp only[Sem.run_bind,zzg hE ht,Result.andThen_ok]
 cases hg:t.agg with
 |true=>
  have:=run_loadCells_list (P:=P) w ad cs hc
  rw[hl] at this
  simp only[if_true,Sem.run_bind,kY hE ht,Result.andThen_ok,this,Sem.run_pure,iI hg]
 |false=>
  have h1:t.cells=1:=by cases t<;>simp_all [Ty.agg,Ty.cells]
  rw[h1] at hl
  match cs,hl with
  | [c],_=>
    rw[Lr hg]
    have:=hc 0 c rfl
    have h0:ad.add 0=ad:=by simp [Addr.add]
    rw[h0] at this
    simp only[Bool.false_eq_true,if_false,run_load,this]
theorem WK{own:List (List Nat)}{p:List Nat}(h:mG own p=true):p∈own:=by
 unfold mG at h
 obtain⟨q,hq,he⟩:=List.any_eq_true.1 h
 rw[<-eq_of_beq he]
 exact hq
theorem z9s{own:List (List Nat)}{p q:List Nat}(h:q∈vS own p):q∈own/\p.isPrefixOf q=false:=by
 unfold vS at h
 rw[List.mem_filter] at h
 exact⟨h.1,by simpa using h.2⟩
theorem Rel.nk{Y:aq}(hr:Rel Y s a){id r:Nat}{B B':bm}(hb:s.bs[id]? =some (some B))(hβ:Y.β id=some r)(h:bC Y id r B'):Rel Y (s.aC (some (id,B'))) a where
 size:=hr.size
 gM:=by simpa [State.aC] using hr.gM
 bL:=hr.bL
 boxes:=fun bY B2 cT=>by
  have ap:id<s.bs.length:=(List.getElem?_eq_some_iff.1 hb).1
  simp only[State.aC,List.getElem?_set] at cT
  by_cases e:id=bY
  ·subst e
   rw[if_pos rfl,if_pos ap] at cT
   cases cT;exact⟨r,hβ,h⟩
  ·rw[if_neg e] at cT
   exact hr.boxes bY B2 cT
 live:=fun i l bY t p hi hm=>by
  have ap:id<s.bs.length:=(List.getElem?_eq_some_iff.1 hb).1
  obtain⟨B2,cT⟩:=hr.live i l bY t p hi hm
  simp only[State.aC,List.getElem?_set]
  by_cases e:id=bY
  ·subst e;exact⟨B',by rw[if_pos rfl,if_pos ap]⟩
  ·rw[if_neg e];exact⟨B2,cT⟩
 defers:=hr.defers
theorem zcr{id:Nat}{B B':bm}(hb:s.bs[id]? =some (some B)):(s.aC (some (id,B'))).bs[id]? =some (some B'):=by
 have ap:id<s.bs.length:=(List.getElem?_eq_some_iff.1 hb).1
 simp [State.aC,List.getElem?_set,ap]
theorem Np{r off i:Nat}{cs:Array Value}{T:TypeId}{w:World}(h:w.heap[r]? =some (.cells cs T (0,0))){k:Nat}{v:Value}(hv:((cs.toList.drop off).take k)[i]? =some v):w.cell? ((⟨r,off,none⟩:Addr).add i)=some v:=by
 rw[jH]
 rw[List.getElem?_take] at hv
 split at hv
 ·rw[List.getElem?_drop] at hv
  simpa [World.cell?,h] using hv
 ·cases hv
theorem eF:∀(t:Ty) (p:List Nat) (u:Ty),t.at_ p=some u->t.eS p->t.off p+u.cells<=t.cells:=by
 intro t
 induction t with
 |arr n t ih=>
  intro p u h hp
  cases p with
  |nil=>simp only[Ty.at_,Option.some.injEq] at h;subst h;simp [Ty.off]
  |cons i p=>
   have:=ih p u h hp.2
   have hn:(i+1)*t.cells<=n*t.cells:=Nat.mul_le_mul_right _ hp.1
   rw[Nat.add_mul,Nat.one_mul] at hn
   simp only[Ty.off,Ty.cells]
   omega
 |pair x y GN GO=>
  intro p u h hp
  cases p with
  |nil=>simp only[Ty.at_,Option.some.injEq] at h;subst h;simp [Ty.off]
  |cons i p=>
   cases i with
   |zero=>have:=GN p u h hp;simp only[Ty.off,Ty.cells];omega
   |succ i=>have:=GO (i::p) u h hp;simp only[Ty.off,Ty.cells];omega
 |_=>
  intro p u h hp
  cases p with
  |nil=>simp only[Ty.at_,Option.some.injEq] at h;subst h;simp [Ty.off]
  |cons i p=>simp [Ty.at_] at h
theorem agN{t:Ty}{p:List Nat}{e:TypeId}{t':Ty}(h:t.eS p)(bV:t.at_ p=some (.sl e t')):t.off p<t.cells:=by
 have:=eF t p _ bV h
 simp only[Ty.cells] at this
 omega
theorem WI:∀{t:Ty} {p q:List Nat} {x:El t} {u:Ty} {y:El u} {r:(u:Ty)×El u},El.get t p x=some ⟨u,y⟩->t.eS (p++q)->El.get t (p++q) x=some r->u.eS q/\El.get u q y=some r:=by
 intro t
 induction t with
 |arr n t ih=>
  intro p q x u y r h1 h2 h3
  cases p with
  |nil=>simp only[El.get,Option.some.injEq,Sigma.mk.injEq] at h1;obtain⟨rfl,h1⟩:=h1;cases h1;exact⟨h2,h3⟩
  |cons i p=>exact ih h1 h2.2 h3
 |pair ta tb kM kN=>
  intro p q x u y r h1 h2 h3
  cases p with
  |nil=>simp only[El.get,Option.some.injEq,Sigma.mk.injEq] at h1;obtain⟨rfl,h1⟩:=h1;cases h1;exact⟨h2,h3⟩
  |cons i p=>
   cases i with
   |zero=>exact kM h1 h2 h3
   |succ i=>exact kN (p:=i::p) h1 h2 h3
 |_=>
  intro p q x u y r h1 h2 h3
  cases p with
  |nil=>simp only[El.get,Option.some.injEq,Sigma.mk.injEq] at h1;obtain⟨rfl,h1⟩:=h1;cases h1;exact⟨h2,h3⟩
  |cons i p=>simp [El.get] at h1
def aq.fO(X:aq)(id:Nat)(p:List Nat)(q:List Nat->Place):aq:=
 {X with ow:=fun g=>match X.ow g with
  | .row (.b bY p') n=>if bY=id/\p.isPrefixOf p'=true then .row (q (p'.drop p.length)) n else .row (.b bY p') n
  |w=>w}
theorem ztn{s:State}{X:aq}{id:Nat}{p:List Nat}{q:List Nat->Place}(h:∀p',¬cA s (.b id (p++p'))):dn s X (X.fO id p q):=by
 refine⟨rfl,rfl,fun g=> ?_⟩
 simp only[aq.fO]
 cases hg:X.ow g with
 |row pl n=>
  cases pl with
  |b bY p'=>
   by_cases e:bY=id/\p.isPrefixOf p'=true
   ·obtain⟨rfl,hp⟩:=e
    obtain⟨r,rfl⟩:=List.isPrefixOf_iff_prefix.1 hp
    exact .inr ⟨_,n,q r,rfl,h r,by simp⟩
   ·exact .inl (if_neg e)
  |_=>exact .inl rfl
 |_=>exact .inl rfl
theorem bj.oR{X:aq}{id:Nat}{p r:List Nat}{q:List Nat->Place}{e:TypeId}{k n:Nat}{v:Value}(h:bj X (.b id (p++r)) e k n v):bj (X.fO id p q) (q r) e k n v:=by
 rcases h with h|⟨g,cap,cur,h1,h2,h3,h4,h5,h6⟩
 ·exact .inl h
 ·exact .inr ⟨g,cap,cur,h1,h2,h3,h4,h5,by simp [aq.fO,h6]⟩
theorem Ci(hr:Rel X s a){id:Nat}{t b:Ty}{B:bm}(hB:s.box id=some B)(h:B.t.ci (.aV .row t b)=true):s.bs[id]? =some (some B)/\∃r,X.β id=some r/\X.ow r= .box id/\∃cs T,X.w.heap[r]? =some (.cells cs T (0,0))/\cs.size=List.length (Ty.cast h B.x:List (El t))*t.cells/\
 ∀(j:Nat) (x:El t),(Ty.cast h B.x:List (El t))[j]? =some x->aR X t x ((cs.toList.drop (j*t.cells)).take t.cells):=by
 have hb:=ql hB
 obtain⟨r,h1,h2,h3⟩:=hr.boxes id B hb
 refine⟨hb,r,h1,h2,?_⟩
 obtain⟨bt,bx,bo⟩:=B
 have e:=Ty.aK h
 simp only at e
 subst e
 obtain⟨cs,T,g1,g2,g3⟩:=h3
 exact⟨cs,T,g1,g2,g3⟩
theorem Wx(hE:ak P E)(hr:Rel X s a){S T:TypeId}{x:Operand}(ho:o.op= .convert S T x){id n:Nat}{ta tb:Ty}(dE:s.az x= .ptr id (.aV (.fU n) ta tb) [])(h:jc E S T s id n ta tb some=some u):aA P X s a o u:=by
 have hx:=hr.az x
 rw[dE] at hx
 obtain⟨r0,hβ,cap,hv,lR⟩:=hx
 unfold jc at h
 split at h
 case h_2=>cases h
 rename_i e hS hT
 split at h
 case isFalse=>cases h
 rename_i heq
 have:=Ty.aK heq
 subst this
 split at h
 case h_2=>cases h
 rename_i B hB
 split at h
 case isFalse=>cases h
 rename_i dD
 obtain⟨hb,r,h1,h2,cs,T',aG,dh,dN⟩:=Ci hr hB dD
 rw[hβ] at h1
 cases h1
 generalize(Ty.cast dD B.x:List Int)=xs at*
 cases hn:Nat.beq n (List.length xs) with
 |false=>rw[hn] at h;cases h
 |true=>
  rw[hn] at h
  cases h
  have hn:=Nat.eq_of_beq_eq_true hn
  subst hn
  have hu:=(hE.ty S _ hS).cS
  have he:=(hE.ty e _ hu.2).cS
  have hT:=(hE.ty T _ hT).cS
  refine aA.plain hr (v:= .string (strOf xs)) ?_ yj (fun _ _ _ e'=>by cases e')
  have key:(convert S T (.slice (some ⟨r0,0,none⟩) (List.length xs) cap)).run P X.w= .ok (.string (strOf xs)) X.w:=by
   rw[run_convert_bytes_string X.w S T e _ _ cap hu.1 he hT]
   have jg:(loadCells ⟨r0,0,none⟩ (List.length xs)).run P X.w= .ok (List.map (Value.int .u8) xs).toArray X.w:=by
    have:=run_loadCells_list (P:=P) X.w ⟨r0,0,none⟩ (List.map (Value.int .u8) xs) (fun j v hj=>by
     obtain⟨y,hy,rfl⟩:=List.getElem?_map .. ▸hj|>Option.map_eq_some_iff.1
     have hc:(cs.toList.drop (j*1)).take 1=[.int .u8 y]:=dN j y hy
     have h0:=congrArg (fun l=>l[0]?) hc
     simp only[List.getElem?_take,List.getElem?_drop] at h0
     simp only[Nat.zero_lt_one,if_true,Nat.mul_one,Nat.add_zero,List.getElem?_cons_zero] at h0
     rw[jH,Nat.zero_add]
     simpa [World.cell?,aG] using h0)
    rw[List.length_map] at this
    exact this
   rw[run_bytesToString X.w _ _ cap xs jg,foldl_push_bytes]
   simp [strOf,ByteArray.empty,ByteArray.emptyWithCapacity]
   rfl
  simp only[execOp,ho,Sem.run_bind,hv,key,Result.andThen_ok,Sem.run_pure]
theorem YR(hE:ak P E)(hr:Rel X s a){ops:List Oper}{S T:TypeId}{x:Operand}(ho:o.op= .convert S T x){C:FuncId->bJ Out}(h:act E C ops o s some=some u):aA P X s a o u:=by
 unfold act at h
 simp only[ho] at h
 split at h
 ·rename_i id n ta tb dE
  exact Wx hE hr ho dE h
 ·exact Wy hE hr ho h
theorem VA(hE:ak P E)(hr:Rel X s a){T:TypeId}{u':Ty}{x:Operand}(ho:o.op= .load T x)(hT:E.ty T=some u'){id:Nat}{t:Ty}{p:List Nat}(dE:s.az x= .ptr id t p)(h:Cg u' s id t p some=some u):aA P X s a o u:=by
 have hx:=hr.az x
 rw[dE] at hx
 obtain⟨r0,hβ,hv⟩:=hx
 unfold Cg at h
 split at h
 case h_2=>cases h
 rename_i ta tb i
 split at h
 case h_2=>cases h
 rename_i B hB
 split at h
 case isFalse=>cases h
 rename_i dD
 split at h
 case isFalse=>cases h
 rename_i heq
 have:=Ty.aK heq
 subst this
 obtain⟨hb,r,h1,h2,cs,T',aG,dh,dN⟩:=Ci hr hB dD
 rw[hβ] at h1
 cases h1
 generalize(Ty.cast dD B.x:List (El u'))=xs at*
 cases hn:Nat.ble (i+1) (List.length xs) with
 |false=>rw[hn] at h;cases h
 |true=>
  rw[hn] at h
  cases h
  have ap:i<List.length xs:=Nat.le_of_ble_eq_true hn
  have aM:=dN i _ (getD_some (El.bM u') ap)
  have hv:a.eval x= .pointer (some ⟨r0,i*u'.cells,none⟩):=hv
  refine aA.plain hr ?_ (Ch aM) (fun _ _ _ e'=>by cases e')
  have hl:=CY hE hT aM (ad:=⟨r0,i*u'.cells,none⟩) (w:=X.w) (fun j v hj=>Np aG hj)
  simp only[execOp,ho,Sem.run_bind,Instr.loadAt,hv,Instr.sureAddr,Sem.run_pure,Result.andThen_ok,hl]
theorem Vz(hE:ak P E)(hr:Rel X s a){T:TypeId}{u':Ty}{x:Operand}(ho:o.op= .load T x)(hT:E.ty T=some u'){id:Nat}{t:Ty}{p:List Nat}(dE:s.az x= .ptr id t p){B:bm}(hB:s.box id=some B)(h:Dw u' B t p some=some u):aA P X s a o u:=by
 have hx:=hr.az x
 rw[dE] at hx
 obtain⟨r0,hβ,hv⟩:=hx
 unfold Dw at h
 split at h
 case h_2=>cases h
 rename_i n e
 split at h
 case isFalse=>cases h
 rename_i dD
 split at h
 case isFalse=>cases h
 rename_i heq
 have:=Ty.aK heq
 subst this
 obtain⟨hb,r,h1,h2,cs,T',aG,dh,dN⟩:=Ci hr hB dD
 rw[hβ] at h1
 cases h1
 generalize(Ty.cast dD B.x:List (El e))=xs at*
 cases hn:Nat.beq n (List.length xs) with
 |false=>rw[hn] at h;cases h
 |true=>
  rw[hn] at h
  cases h
  have hn:=Nat.eq_of_beq_eq_true hn
  have aM:aR X (.arr n e) xs cs.toList:=⟨hn.symm,by rw[hn];simpa using dh,dN⟩
  have hv:=((oU rfl).1 hv).1
  have hv:a.eval x= .pointer (some ⟨r0,0,none⟩):=by rw[hv];rfl
  refine aA.plain hr ?_ (Ch aM) (fun _ _ _ e'=>by cases e')
  have hl:=CY hE hT aM (ad:=⟨r0,0,none⟩) (w:=X.w) (fun j v hj=>Np (off:=0) (k:=cs.toList.length) aG (by rw[List.drop_zero,List.take_length];exact hj))
  simp only[execOp,ho,Sem.run_bind,Instr.loadAt,hv,Instr.sureAddr,Sem.run_pure,Result.andThen_ok,hl]
theorem YU(hE:ak P E)(hr:Rel X s a){ops:List Oper}{T:TypeId}{x:Operand}(ho:o.op= .load T x){C:FuncId->bJ Out}(h:act E C ops o s some=some u):aA P X s a o u:=by
 unfold act at h
 simp only[ho] at h
 have hx:=hr.az x
 unfold load at h
 split at h
 case h_2=>cases h
 rename_i u' hT
 split at h
 ·rename_i t y e
  rw[e] at hx
  obtain⟨ad,cs,hv,ll,aM,dq⟩:=hx
  split at h
  case isFalse=>cases h
  rename_i heq
  have:=Ty.aK heq
  subst this
  cases h
  refine aA.plain hr ?_ (Ch aM) (fun _ _ _ e'=>by cases e')
  have hl:=CY hE hT aM (ad:=ad) (w:=X.w) (fun i v hi=>(dq i v hi).2.1)
  simp only[execOp,ho,Sem.run_bind,Instr.loadAt,hv,Instr.sureAddr,Sem.run_pure,Result.andThen_ok,hl]
 ·rename_i id t p e
  rw[e] at hx
  obtain⟨r,hβ,hx⟩:=hx
  split at h
  ·exact VA hE hr ho hT e h
  rename_i eX
  have eX:t.bH=false:=by simpa using eX
  obtain⟨hv,fV⟩:=(oU eX).1 hx
  split at h
  case h_2=>cases h
  rename_i B hB
  split at h
  case isFalse=>exact Vz hE hr ho hT e hB h
  rename_i heq
  have dD:=Ty.aK heq
  split at h
  case h_2=>cases h
  rename_i ut y cu
  split at h
  case isFalse=>cases h
  rename_i Ac
  have:=Ty.aK Ac
  subst this
  have hb:=ql hB
  obtain⟨r',hβ',uQ⟩:=hr.boxes id B hb
  rw[hβ] at hβ'
  cases hβ'
  subst dD
  obtain⟨cs,T',aG,aM,how,bP⟩:=uQ.cells eX
  obtain⟨k1,k2,k3⟩:=Lo aM fV cu
  have hl:=CY hE hT k3 (ad:=⟨r,B.t.off p,none⟩) (w:=X.w) (fun i v hi=>Np aG hi)
  have aW:(execOp a.eval o).run P X.w= .ok (.value (dx u' ((cs.toList.drop (B.t.off p)).take u'.cells))) X.w:=by
   simp only[execOp,ho,Sem.run_bind,Instr.loadAt,hv,Instr.sureAddr,Sem.run_pure,Result.andThen_ok,hl]
  cases hc:Sk ops o.dst||xR E ops o.dst||J5 ops o.dst with
  |false=>
   rw[hc] at h
   cases h
   exact aA.plain hr aW (Ch k3) (fun _ _ _ e'=>by cases e')
  |true=>
   rw[hc] at h
   cases h
   have eA:Rel X (s.aC (some (id,{B with own:=vS B.own p}))) a:=hr.nk hb hβ ⟨how,dg.of eX aG aM fun q hq=>bP q (z9s hq).1⟩
   have CR:∀q,¬cA (s.aC (some (id,{B with own:=vS B.own p}))) (.b id (p++q)):=by
    rintro q ⟨B2,cT,hp⟩
    rw[zcr hb] at cT
    cases cT
    have:=(z9s hp).2
    rw[List.isPrefixOf_iff_prefix.2 (List.prefix_append p q)] at this
    cases this
   have lj:=ztn (X:=X) (q:= .c (o.dst.getD 0) 0) CR
   refine⟨X.fO id p (.c (o.dst.getD 0) 0),_,.inl aW,lj.ext,(eA.mod lj.mod).fin ⟨_,k3.al (fun _ _=>lj.aw.1),rfl,?_⟩ (fun id t p hm=>by simp at hm)⟩
   intro q hq
   obtain⟨q0,hq0,rfl⟩:=List.mem_map.1 hq
   obtain⟨hq1,Tj⟩:=List.mem_filter.1 hq0
   obtain⟨q,rfl⟩:=List.isPrefixOf_iff_prefix.1 Tj
   rw[List.drop_left]
   obtain⟨e',t',xs,v,h0,h1,h2,h3⟩:=bP _ hq1
   obtain⟨j1,j2⟩:=WI cu h0 h1
   have hle:=agN j1 (L4 _ _ _ _ _ j2)
   refine⟨e',t',xs,v,j1,j2,?_,h3.oR⟩
   rw[M5 _ _ _ _ k1] at h2
   rw[List.getElem?_take,if_pos hle,List.getElem?_drop]
   exact h2
 ·cases h
theorem zhc{cs c:List Value}{off:Nat}(h:off+c.length<=cs.length)(j k:Nat):(∀h1:j+k<=off\/off+c.length<=j,((cs.take off++c++cs.drop (off+c.length)).drop j).take k=(cs.drop j).take k):=by
 intro h1
 apply List.ext_getElem?
 intro q
 simp only[List.getElem?_take,List.getElem?_drop]
 split
 ·rename_i hq
  rw[List.append_assoc]
  rcases h1 with h1|h1
  ·rw[List.getElem?_append_left (by rw[List.length_take];omega),List.getElem?_take,if_pos (by omega)]
  ·rw[List.getElem?_append_right (by rw[List.length_take];omega),List.length_take,Nat.min_eq_left (by omega),List.getElem?_append_right (by omega),List.getElem?_drop]
   congr 1
   omega
 ·rfl
theorem fB{X:aq}:∀{t:Ty} {p:List Nat} {x:El t} {cs:List Value} {u:Ty} {y:El u} {z:El t} {c:List Value},aR X t x cs->t.eS p->t.at_ p=some u->El.set t p x u y=some z->aR X u y c->
 aR X t z (cs.take (t.off p)++c++cs.drop (t.off p+c.length)):=by
 intro t
 induction t with
 |arr n t ih=>
  intro p x cs u y z c hr hp bV h hc
  have lk:=hc.len
  cases p with
  |nil=>
   simp only[Ty.at_,Option.some.injEq] at bV
   subst bV
   simp only[El.set,Ty.bN,dite_true,Option.some.injEq] at h
   subst h
   have hl:=hr.len
   simp only[Ty.off,Nat.zero_add,List.take_zero,List.nil_append]
   rw[lk,<-hl,List.drop_length,List.append_nil]
   exact hc
  |cons i p=>
   obtain⟨hi,hp⟩:=hp
   obtain⟨h1,h2,h3⟩:=hr
   simp only[El.set] at h
   obtain⟨z',l4,rfl⟩:=Option.map_eq_some_iff.1 h
   have lQ:t.at_ p=some u:=bV
   have hle:=eF t p u lQ hp
   have hn:(i+1)*t.cells<=n*t.cells:=Nat.mul_le_mul_right _ hi
   rw[Nat.add_mul,Nat.one_mul] at hn
   have S1:=ih (h3 i _ (getD_some (El.bM t) (by omega))) hp lQ l4 hc
   have cQ:i*t.cells+t.off p+c.length<=cs.length:=by rw[lk,h2];omega
   refine⟨by simpa using h1,?_,fun j w hj=> ?_⟩
   ·simp only[Ty.off,List.length_append,List.length_take,List.length_drop];omega
   ·simp only[Ty.off]
    by_cases e:j=i
    ·subst e
     rw[List.getElem?_set_self (by omega)] at hj
     cases hj
     have hL:((cs.take (j*t.cells+t.off p)++c++cs.drop (j*t.cells+t.off p+c.length)).drop (j*t.cells)).take t.cells=
      ((cs.drop (j*t.cells)).take t.cells).take (t.off p)++c++((cs.drop (j*t.cells)).take t.cells).drop (t.off p+c.length):=by
      apply List.ext_getElem?
      intro q
      rw[List.append_assoc,List.append_assoc]
      simp only[List.getElem?_take,List.getElem?_drop,List.getElem?_append,List.length_take,List.length_drop]
      rw[Nat.min_eq_left (show j*t.cells+t.off p<=cs.length by omega),Nat.min_eq_left (show t.cells<=cs.length-j*t.cells by omega),Nat.min_eq_left (show t.off p<=t.cells by omega)]
      by_cases q1:q<t.cells
      ·by_cases q2:q<t.off p
       ·rw[if_pos q1,if_pos (by omega),if_pos (by omega),if_pos q2,if_pos q2,if_pos q1]
       ·by_cases q3:q-t.off p<c.length
        ·rw[if_pos q1,if_neg (by omega),if_pos (by omega),if_neg q2,if_pos q3]
         congr 1
         omega
        ·rw[if_pos q1,if_neg (by omega),if_neg (by omega),if_neg q2,if_neg q3,if_pos (by omega)]
         congr 1
         omega
      ·rw[if_neg q1,if_neg (by omega),if_neg (by omega),if_neg (by omega)]
     rw[hL]
     exact S1
    ·rw[List.getElem?_set_ne (Ne.symm e)] at hj
     have uY:=(List.getElem?_eq_some_iff.1 hj).1
     rw[zhc cQ (j*t.cells) t.cells ?_]
     ·exact h3 j w hj
     ·rcases Nat.lt_or_gt_of_ne e with ap|hgt
      ·have:(j+1)*t.cells<=i*t.cells:=Nat.mul_le_mul_right _ ap
       rw[Nat.add_mul,Nat.one_mul] at this
       exact .inl (by omega)
      ·have:(i+1)*t.cells<=j*t.cells:=Nat.mul_le_mul_right _ hgt
       rw[Nat.add_mul,Nat.one_mul] at this
       exact .inr (by omega)
 |pair ta tb kM kN=>
  intro p x cs u y z c hr hp bV h hc
  have lk:=hc.len
  cases p with
  |nil=>
   simp only[Ty.at_,Option.some.injEq] at bV
   subst bV
   simp only[El.set,Ty.bN,dite_true,Option.some.injEq] at h
   subst h
   have hl:=hr.len
   simp only[Ty.off,Nat.zero_add,List.take_zero,List.nil_append]
   rw[lk,<-hl,List.drop_length,List.append_nil]
   exact hc
  |cons i p=>
   obtain⟨c1,c2,rfl,r1,r2⟩:=hr
   have l1:=r1.len
   have l2:=r2.len
   cases i with
   |zero=>
    simp only[El.set] at h
    obtain⟨z',l4,rfl⟩:=Option.map_eq_some_iff.1 h
    have lQ:ta.at_ p=some u:=bV
    have hle:=eF ta p u lQ hp
    have:=kM r1 hp lQ l4 hc
    refine⟨_,c2,?_,this,r2⟩
    simp only[Ty.off]
    rw[List.take_append_of_le_length (by omega),List.drop_append_of_le_length (by omega)]
    simp [List.append_assoc]
   |succ i=>
    simp only[El.set] at h
    obtain⟨z',l4,rfl⟩:=Option.map_eq_some_iff.1 h
    have lQ:tb.at_ (i::p)=some u:=bV
    have hle:=eF tb (i::p) u lQ hp
    have:=kN r2 hp lQ l4 hc
    refine⟨c1,_,?_,r1,this⟩
    simp only[Ty.off]
    rw[<-l1,List.take_length_add_append,Nat.add_assoc,List.drop_length_add_append]
    simp [List.append_assoc]
 |_=>
  intro p x cs u y z c hr hp bV h hc
  have lk:=hc.len
  cases p with
  |nil=>
   simp only[Ty.at_,Option.some.injEq] at bV
   subst bV
   simp only[El.set,Ty.bN,dite_true,Option.some.injEq] at h
   first|subst h|skip
   have hl:=hr.len
   simp only[Ty.off,Nat.zero_add,List.take_zero,List.nil_append]
   rw[lk,<-hl,List.drop_length,List.append_nil]
   exact hc
  |cons i p=>simp [Ty.at_] at bV
end Go.Ref

namespace Go.Ref
open Go
variable {P:Program} {E:Env} {X:aq} {s:State} {a:Act} {o:Oper} {u:Out}
theorem Vj:∀{t:Ty} {p q:List Nat} {x:El t} {u:Ty} {y:El u} {z:El t} {e:TypeId} {t':Ty} {xs:El (.sl e t')},El.set t p x u y=some z->t.at_ p=some u->t.eS p->t.eS q->p.isPrefixOf q=false->El.get t q x=some ⟨.sl e t',xs⟩->
 El.get t q z=some ⟨.sl e t',xs⟩/\(t.off q+1<=t.off p\/t.off p+u.cells<=t.off q):=by
 intro t
 induction t with
 |arr n t ih=>
  intro p q x u y z e t' xs hs bV hp hq fj hg
  cases p with
  |nil=>simp at fj
  |cons i p=>
   cases q with
   |nil=>simp [El.get] at hg
   |cons j q=>
    simp only[El.set] at hs
    obtain⟨z',l4,rfl⟩:=Option.map_eq_some_iff.1 hs
    by_cases SG:i=j
    ·subst SG
     have lU:p.isPrefixOf q=false:=by simpa [List.isPrefixOf] using fj
     obtain⟨h1,h2⟩:=ih l4 bV hp.2 hq.2 lU hg
     refine⟨?_,by simp only[Ty.off];omega⟩
     simp only[El.get]
     by_cases hl:i<List.length x
     ·rw[List.getD_eq_getElem?_getD,List.getElem?_set_self hl]
      exact h1
     ·have fk:List.set x i z'=x:=by rw[List.set_eq_of_length_le (Nat.le_of_not_lt hl)]
      rw[fk];exact hg
    ·refine⟨?_,?_⟩
     ·simp only[El.get] at hg⊢
      rw[List.getD_eq_getElem?_getD,List.getElem?_set_ne SG,<-List.getD_eq_getElem?_getD]
      exact hg
     ·have a1:=eF t p u bV hp.2
      have a2:t.off q+1<=t.cells:=by
       have:=eF t q _ (L4 t q _ _ _ hg) hq.2
       simpa [Ty.cells] using this
      simp only[Ty.off]
      rcases Nat.lt_or_gt_of_ne SG with h|h
      ·have:(i+1)*t.cells<=j*t.cells:=Nat.mul_le_mul_right _ h
       rw[Nat.add_mul,Nat.one_mul] at this
       omega
      ·have:(j+1)*t.cells<=i*t.cells:=Nat.mul_le_mul_right _ h
       rw[Nat.add_mul,Nat.one_mul] at this
       omega
 |pair ta tb kM kN=>
  intro p q x u y z e t' xs hs bV hp hq fj hg
  cases p with
  |nil=>simp at fj
  |cons i p=>
   cases q with
   |nil=>simp [El.get] at hg
   |cons j q=>
    cases i with
    |zero=>
     simp only[El.set] at hs
     obtain⟨z',l4,rfl⟩:=Option.map_eq_some_iff.1 hs
     cases j with
     |zero=>
      have lU:p.isPrefixOf q=false:=by simpa [List.isPrefixOf] using fj
      obtain⟨h1,h2⟩:=kM l4 bV hp hq lU hg
      exact⟨h1,by simp only[Ty.off];omega⟩
     |succ j=>
      have a1:=eF ta p u bV hp
      exact⟨hg,by simp only[Ty.off];omega⟩
    |succ i=>
     simp only[El.set] at hs
     obtain⟨z',l4,rfl⟩:=Option.map_eq_some_iff.1 hs
     cases j with
     |zero=>
      have a2:ta.off q+1<=ta.cells:=by
       have:=eF ta q _ (L4 ta q _ _ _ hg) hq
       simpa [Ty.cells] using this
      exact⟨hg,by simp only[Ty.off];omega⟩
     |succ j=>
      have lU:(i::p).isPrefixOf (j::q)=false:=by
       simp [List.isPrefixOf] at fj⊢
       exact fj
      obtain⟨h1,h2⟩:=kN l4 bV hp hq lU hg
      exact⟨h1,by simp only[Ty.off];omega⟩
 |_=>
  intro p q x u y z e t' xs hs bV hp hq fj hg
  cases p with
  |nil=>simp at fj
  |cons i p=>simp [Ty.at_] at bV
def aq.row(X:aq)(r:Nat)(cs:Array Value):aq:={X with w:=X.w.setRow r cs}
theorem tu{r id:Nat}{cs:Array Value}(h:X.ow r= .box id){ad:Addr}{v:Value}(hs:X.aw ad v):(X.row r cs).aw ad v:=by
 have cg:ad.block≠r:=fun e=>by
  have:=hs.2.2
  rw[e,h] at this
  exact this
 refine⟨hs.1,?_,hs.2.2⟩
 have:=hs.2.1
 simp only[World.cell?,aq.row] at this⊢
 rw[setRow_other X.w r ad.block cs cg]
 exact this
theorem P8{r id:Nat}{cs:Array Value}(h:X.ow r= .box id):Ext X (X.row r cs) where
 aw:=fun _ _=>tu h
 size:=by simp [aq.row]
 os:=rfl
 tape:=rfl
 output:=rfl
 β0:=rfl
 still:=fun g _ ct=>by
  have cg:g≠r:=fun e=>by rw[e,h] at ct;exact ct
  exact⟨rfl,setRow_other X.w r g cs cg⟩
theorem bj.row{r id:Nat}{cs:Array Value}(h:X.ow r= .box id){pl:Place}{e:TypeId}{k n:Nat}{v:Value}(ho:bj X pl e k n v):bj (X.row r cs) pl e k n v:=by
 rcases ho with ho|⟨g,cap,cur,h1,h2,h3,h4,h5,h6⟩
 ·exact .inl ho
 ·have cg:g≠r:=fun e=>by rw[e,h] at h6;cases h6
  exact .inr ⟨g,cap,cur,h1,(setRow_other X.w r g cs cg).trans h2,h3,h4,h5,h6⟩
theorem bg.row{r id:Nat}{cs:Array Value}(h:X.ow r= .box id){pl:List Nat->Place}{t:Ty}{x:El t}{c:List Value}{own:List (List Nat)}(ho:bg X pl t x c own):bg (X.row r cs) pl t x c own:=fun p hp=>by
 obtain⟨e,t',xs,v,g0,g1,g2,g3⟩:=ho p hp
 exact⟨e,t',xs,v,g0,g1,g2,g3.row h⟩
theorem au.row{r id:Nat}{cs:Array Value}(h:X.ow r= .box id){pl:List Nat->Place}{sv:SV}{v:Value}(hr:au X pl sv v):au (X.row r cs) pl sv v:=by
 cases sv with
 |undef=>trivial
 |skip=>exact hr
 |cr=>exact hr
 |gF=>exact hr
 |over=>exact hr
 |ah t x own=>
  obtain⟨c,h1,h2,h3⟩:=hr
  exact⟨c,h1.al (fun _ _=>tu h),h2,h3.row h⟩
 |ptr id t p=>exact hr
 |view t x=>
  obtain⟨ad,c,h1,h2,h3,h4⟩:=hr
  exact⟨ad,c,h1,h2,h3.al (fun _ _=>tu h),fun i u hi=>tu h (h4 i u hi)⟩
 |cap f t x u y=>exact ti (fun _ _=>tu h) hr
theorem Rel.row{r id:Nat}{B B':bm}{cs:Array Value}(hr:Rel X s a)(hb:s.bs[id]? =some (some B))(hβ:X.β id=some r)(h:X.ow r= .box id)(hB:bC (X.row r cs) id r B'):Rel (X.row r cs) (s.aC (some (id,B'))) a where
 size:=hr.size
 gM:=by simpa [State.aC] using hr.gM
 bL:=fun i l v hl hv=>(hr.bL i l v hl hv).jQ fun j sv u hm jD=>jD.row h
 boxes:=fun bY B2 cT=>by
  have ap:id<s.bs.length:=(List.getElem?_eq_some_iff.1 hb).1
  simp only[State.aC,List.getElem?_set] at cT
  by_cases e:id=bY
  ·subst e
   rw[if_pos rfl,if_pos ap] at cT
   cases cT;exact⟨r,hβ,hB⟩
  ·rw[if_neg e] at cT
   obtain⟨r',h1,h4,h2⟩:=hr.boxes bY B2 cT
   have cg:r'≠r:=fun e2=>by rw[e2,h] at h4;cases h4;exact e rfl
   exact⟨r',h1,h4,h2.move (fun _ _=>tu h) (setRow_other X.w r r' cs cg) (fun cs h5=>h5.row h) fun _ g o ho hw=>⟨(setRow_other X.w r g cs (fun e3=>by rw[e3,h] at hw;cases hw)).trans ho,hw⟩⟩
 live:=fun i l bY t p hi hm=>by
  have ap:id<s.bs.length:=(List.getElem?_eq_some_iff.1 hb).1
  obtain⟨B2,cT⟩:=hr.live i l bY t p hi hm
  simp only[State.aC,List.getElem?_set]
  by_cases e:id=bY
  ·subst e;exact⟨B',by rw[if_pos rfl,if_pos ap]⟩
  ·rw[if_neg e];exact⟨B2,cT⟩
 defers:=hr.defers
theorem MT(hE:ak P E){T:TypeId}{t:Ty}(ht:E.ty T=some t){x:El t}{cs:List Value}(hr:aR X t x cs){r off:Nat}{cur:Array Value}{T':TypeId}{w:World}(hg:w.heap[r]? =some (.cells cur T' (0,0)))(hf:off+t.cells<=cur.size):
 (storeVar T ⟨r,off,none⟩ (dx t cs)).run P w= .ok () (w.setRow r (cur.toList.take off++cs++cur.toList.drop (off+cs.length)).toArray):=by
 have hl:=hr.len
 have ct:=run_storeCells_at P r off T' cs 0 cur w hg (by omega) hr.one
 simp only[Nat.add_zero] at ct
 unfold storeVar
 simp only[Sem.run_bind,kY hE ht,Result.andThen_ok,vF hr]
 rw[if_neg (by simp [hl])]
 exact ct
theorem z160:∀{t:Ty} {p q:List Nat} {x:El t} {u:Ty} {y:El u} {z:El t} {r:(u:Ty)×El u} {X:aq} {cs:List Value},aR X t x cs->El.set t p x u y=some z->t.at_ p=some u->t.eS p->El.get u q y=some r->El.get t (p++q) z=some r:=by
 intro t
 induction t with
 |arr n t ih=>
  intro p q x u y z r X cs hr hs bV hp hg
  cases p with
  |nil=>
   simp only[Ty.at_,Option.some.injEq] at bV
   subst bV
   simp only[El.set,Ty.bN,dite_true,Option.some.injEq] at hs
   subst hs
   exact hg
  |cons i p=>
   simp only[El.set] at hs
   obtain⟨z',l4,rfl⟩:=Option.map_eq_some_iff.1 hs
   obtain⟨h1,h2,h3⟩:=hr
   have hi:i<List.length x:=by rw[h1];exact hp.1
   simp only[El.get,List.cons_append]
   rw[List.getD_eq_getElem?_getD,List.getElem?_set_self hi]
   exact ih (h3 i _ (getD_some _ hi)) l4 bV hp.2 hg
 |pair ta tb kM kN=>
  intro p q x u y z r X cs hr hs bV hp hg
  cases p with
  |nil=>
   simp only[Ty.at_,Option.some.injEq] at bV
   subst bV
   simp only[El.set,Ty.bN,dite_true,Option.some.injEq] at hs
   subst hs
   exact hg
  |cons i p=>
   obtain⟨c1,c2,_,r1,r2⟩:=hr
   cases i with
   |zero=>
    simp only[El.set] at hs
    obtain⟨z',l4,rfl⟩:=Option.map_eq_some_iff.1 hs
    exact kM r1 l4 bV hp hg
   |succ i=>
    simp only[El.set] at hs
    obtain⟨z',l4,rfl⟩:=Option.map_eq_some_iff.1 hs
    exact kN (p:=i::p) r2 l4 bV hp hg
 |_=>
  intro p q x u y z r X cs hr hs bV hp hg
  cases p with
  |nil=>
   simp only[Ty.at_,Option.some.injEq] at bV
   subst bV
   simp only[El.set,Ty.bN,dite_true,Option.some.injEq] at hs
   first|subst hs|skip
   exact hg
  |cons i p=>simp [Ty.at_] at bV
theorem Jf{t u:Ty}{p:List Nat}{x z:El t}{y:El u}{cs cv:List Value}{own oy:List (List Nat)}{pl:List Nat->Place}(hr:aR X t x cs)(fV:t.eS p)(bV:t.at_ p=some u)(fk:El.set t p x u y=some z)(rep:aR X u y cv)
 (ho:bg X pl t x cs own) (hy:bg X (fun q=>pl (p++q)) u y cv oy):bg X pl t z (cs.take (t.off p)++cv++cs.drop (t.off p+cv.length)) (oy.map (fun q=>p++q)++vS own p):=by
 have lk:=rep.len
 have hle:=eF t p u bV fV
 have dw:=hr.len
 intro q hq
 rcases List.mem_append.1 hq with hq|hq
 ·obtain⟨q,Tj,rfl⟩:=List.mem_map.1 hq
  obtain⟨e,t',xs,v,g0,g1,g2,g3⟩:=hy q Tj
  have ap:=(List.getElem?_eq_some_iff.1 g2).1
  refine⟨e,t',xs,v,zco t p q u bV fV g0,z160 hr fk bV fV g1,?_,g3⟩
  rw[M5 t p q u bV,List.append_assoc,List.getElem?_append_right (by rw[List.length_take];omega),List.length_take,Nat.min_eq_left (by omega),Nat.add_sub_cancel_left,List.getElem?_append_left ap]
  exact g2
 ·obtain⟨hqm,fj⟩:=z9s hq
  obtain⟨e,t',xs,v,g0,g1,g2,g3⟩:=ho q hqm
  obtain⟨k1,k2⟩:=Vj fk bV fV g0 fj g1
  refine⟨e,t',xs,v,g0,k1,?_,g3⟩
  have ll:=zhc (cs:=cs) (c:=cv) (off:=t.off p) (by omega) (t.off q) 1 (by rw[lk];omega)
  have h0:=congrArg (fun l=>l[0]?) ll
  simp only[List.getElem?_take,List.getElem?_drop] at h0
  simp only[Nat.zero_lt_one,if_true,Nat.add_zero] at h0
  rw[h0];exact g2
theorem Vh(hE:ak P E)(hr:Rel X s a){T:TypeId}{u0:Ty}{x y:Operand}(ho:o.op= .store T x y)(hT:E.ty T=some u0){id:Nat}{t:Ty}{p:List Nat}(dE:s.az x= .ptr id t p)(h:BW u0 s id t p (s.az y) some=some u):aA P X s a o u:=by
 have hx:=hr.az x
 rw[dE] at hx
 obtain⟨r0,hβ,hv⟩:=hx
 unfold BW at h
 split at h
 case h_2=>cases h
 rename_i ta tb i
 split at h
 case h_2=>cases h
 rename_i B hB
 split at h
 case isFalse=>cases h
 rename_i dD
 split at h
 case isFalse=>cases h
 rename_i heq
 have:=Ty.aK heq
 subst this
 obtain⟨hb,r,h1,how,cs,T',aG,dh,dN⟩:=Ci hr hB dD
 rw[hβ] at h1
 cases h1
 obtain⟨yv,h,hy⟩:=zz h
 obtain⟨cv,rep,ev⟩:=hy X _ _ (hr.az y)
 generalize(Ty.cast dD B.x:List (El ta))=xs at*
 cases hn:Nat.ble (i+1) (List.length xs) with
 |false=>rw[hn] at h;cases h
 |true=>
  rw[hn] at h
  cases h
  have ap:i<List.length xs:=Nat.le_of_ble_eq_true hn
  have hv:a.eval x= .pointer (some ⟨r0,i*ta.cells,none⟩):=hv
  have lk:=rep.len
  have hmul:(i+1)*ta.cells<=List.length xs*ta.cells:=Nat.mul_le_mul_right _ ap
  rw[Nat.add_mul,Nat.one_mul] at hmul
  have cQ:i*ta.cells+ta.cells<=cs.size:=by omega
  have s6:i*ta.cells+cv.length<=cs.toList.length:=by simp;omega
  let new:=(cs.toList.take (i*ta.cells)++cv++cs.toList.drop (i*ta.cells+cv.length)).toArray
  have jP:new.toList=cs.toList.take (i*ta.cells)++cv++cs.toList.drop (i*ta.cells+cv.length):=rfl
  have aW:(execOp a.eval o).run P X.w= .ok .skip ((X.row r0 new).w):=by
   have ct:=MT (P:=P) hE hT rep (off:=i*ta.cells) (w:=X.w) (r:=r0) (cur:=cs) (T':=T') aG cQ
   simp only[execOp,ho,Sem.run_bind,Instr.storeAt,hv,Instr.sureAddr,Sem.run_pure,Result.andThen_ok,ev,ct]
   rfl
  have cj:new.size=cs.size:=by
   have:new.toList.length=cs.toList.length:=by rw[jP];simp;omega
   simpa using this
  have b6:bC (X.row r0 new) id r0 ⟨.aV .row ta tb,(List.set xs i yv:List (El ta)),[]⟩:=by
   refine⟨how,new,T',setRow_heap X.w r0 cs new T' (0,0) aG,?_,fun j z hj=> ?_⟩
   ·rw[cj,dh]
    show _=List.length (List.set xs i yv)*_
    rw[List.length_set]
   ·refine aR.al (fun _ _=>tu (cs:=new) how) ?_
    have hj:(List.set xs i yv)[j]? =some z:=hj
    rw[jP]
    by_cases e:i=j
    ·subst e
     rw[List.getElem?_set_self ap] at hj
     cases hj
     have:((cs.toList.take (i*ta.cells)++cv++cs.toList.drop (i*ta.cells+cv.length)).drop (i*ta.cells)).take ta.cells=cv:=by
      rw[List.append_assoc,List.drop_append_of_le_length (by rw[List.length_take];omega),List.drop_eq_nil_of_le (by rw[List.length_take];omega),List.nil_append,<-lk,List.take_left]
     rw[this]
     exact rep
    ·rw[List.getElem?_set_ne e] at hj
     rw[zhc (cs:=cs.toList) (c:=cv) (off:=i*ta.cells) s6 (j*ta.cells) ta.cells ?_]
     ·exact dN j z hj
     ·rcases Nat.lt_or_gt_of_ne e with h|h
      ·have:(i+1)*ta.cells<=j*ta.cells:=Nat.mul_le_mul_right _ h
       rw[Nat.add_mul,Nat.one_mul] at this
       right;omega
      ·have:(j+1)*ta.cells<=i*ta.cells:=Nat.mul_le_mul_right _ h
       rw[Nat.add_mul,Nat.one_mul] at this
       left;omega
  exact⟨X.row r0 new,Go.undef,.inr ⟨aW,rfl⟩,P8 how,(hr.row (cs:=new) hb hβ how b6).skip o.dst⟩
theorem WD(hE:ak P E)(hr:Rel X s a){ops:List Oper}{T:TypeId}{x y:Operand}(ho:o.op= .store T x y){C:FuncId->bJ Out}(h:act E C ops o s some=some u):aA P X s a o u:=by
 unfold act at h
 simp only[ho] at h
 have hx:=hr.az x
 unfold store at h
 split at h
 case h_2=>cases h
 rename_i u0 hT
 split at h
 case h_2=>cases h
 rename_i id t p e
 rw[e] at hx
 obtain⟨r,hβ,hx⟩:=hx
 split at h
 ·exact Vh hE hr ho hT e h
 rename_i eX
 have eX:t.bH=false:=by simpa using eX
 obtain⟨hv,fV⟩:=(oU eX).1 hx
 split at h
 case h_2=>cases h
 rename_i B hB
 split at h
 case isFalse=>cases h
 rename_i heq
 have dD:=Ty.aK heq
 subst dD
 split at h
 case h_2=>cases h
 rename_i u' bV
 split at h
 case isFalse=>cases h
 rename_i Ac
 have:=Ty.aK Ac
 subst this
 have hb:=ql hB
 obtain⟨yv,h,hy⟩:=zy2 hr h (.inl rfl)
 split at h
 case h_2=>cases h
 rename_i z fk
 cases h
 obtain⟨W,cv,hW,hX,Mz,rep,ev,hO,hβ2,lj,_⟩:=hy (fun q=> .b id (p++q))
 obtain⟨r',hβW,uQ⟩:=Mz.boxes id B (by rw[vH];exact hb)
 obtain⟨cs,T2,aG,aM,how,bP⟩:=uQ.cells eX
 have hrr:r'=r:=by
  rw[hβ2,hβ] at hβW
  exact(Option.some.inj hβW).symm
 subst hrr
 have cQ:B.t.off p+u'.cells<=cs.size:=by
  have:=eF B.t p u' bV fV
  have hl:=aM.len
  simp at hl
  omega
 let new:=(cs.toList.take (B.t.off p)++cv++cs.toList.drop (B.t.off p+cv.length)).toArray
 have aW:(execOp a.eval o).run P X.w= .ok .skip ((W.row r' new).w):=by
  have ct:=MT (P:=P) hE hT rep (off:=B.t.off p) (w:=X.w) (r:=r') (cur:=cs) (T':=T2) (by rw[<-hW];exact aG) cQ
  simp only[execOp,ho,Sem.run_bind,Instr.storeAt,hv,Instr.sureAddr,Sem.run_pure,Result.andThen_ok,ev,ct]
  rw[<-hW];rfl
 have rV:=Jf aM fV bV fk rep bP hO
 have b6:bC (W.row r' new) id r' {t:=B.t,x:=z,own:=(s.az y).own.map (fun q=>p++q)++vS B.own p}:=by
  refine⟨how,dg.of eX (setRow_heap W.w r' cs new T2 (0,0) aG) ?_ ?_⟩
  ·have:=(fB aM fV bV fk rep).al (fun _ _=>tu (cs:=new) how)
   simpa [new] using this
  ·have:=rV.row (cs:=new) how
   simpa [new] using this
 have dZ:=Mz.row (cs:=new) (by rw[vH];exact hb) hβW how b6
 exact⟨W.row r' new,Go.undef,.inr ⟨aW,rfl⟩,hX.trans (P8 how),dZ.skip o.dst⟩
end Go.Ref

namespace Go.Ref
open Go
variable {P:Program} {E:Env} {X:aq} {s:State} {a:Act} {o:Oper} {u:Out}
theorem HR(off:Nat):∀(l:List Value) (k:Nat) (cs:Array Value),off+k+l.length<=cs.size->
 ((l.zipIdx k).foldl (fun cs p=>cs.setIfInBounds (off+p.2) p.1) cs).toList=cs.toList.take (off+k)++l++cs.toList.drop (off+k+l.length)
 | [],k,cs,h=>by simp
 |v::r,k,cs,h=>by
  simp only[List.length_cons] at h
  simp only[List.zipIdx_cons,List.foldl_cons]
  rw[HR off r (k+1) _ (by simp;omega)]
  simp only[Array.toList_setIfInBounds,List.length_cons]
  apply List.ext_getElem?
  intro q
  simp only[List.getElem?_append,List.getElem?_take,List.getElem?_drop,List.length_append,List.length_take,List.length_set,Array.length_toList,List.getElem?_set,List.length_cons,List.getElem?_cons]
  rw[Nat.min_eq_left (show off+(k+1)<=cs.size by omega),Nat.min_eq_left (show off+k<=cs.size by omega)]
  by_cases h1:q<off+k
  ·rw[if_pos (by omega),if_pos (by omega),if_pos (by omega),if_neg (by omega),if_pos (by omega),if_pos (by omega),if_pos (by omega)]
  ·by_cases h2:q=off+k
   ·subst h2
    rw[if_pos (by omega),if_pos (by omega),if_pos (by omega),if_pos rfl,if_pos (by omega),if_pos (by omega),if_neg (by omega),if_pos (by omega)]
   ·by_cases h3:q<off+(k+1)+r.length
    ·rw[if_pos (by omega),if_neg (by omega),if_pos (by omega),if_neg (by omega),if_neg (by omega)]
     try(congr 1<;>omega)
    ·rw[if_neg (by omega),if_neg (by omega),if_neg (by omega)]
     first|done|(congr 1;omega)
theorem HQ(off:Nat)(l:List Value)(cs:Array Value)(h:off+l.length<=cs.size):
 ((l.toArray.zipIdx).foldl (fun cs (p:Value×Nat)=>cs.setIfInBounds (off+p.2) p.1) cs).toList=cs.toList.take off++l++cs.toList.drop (off+l.length):=by
 have:=HR off l 0 cs (by omega)
 rw[<-Array.foldl_toList,Array.toList_zipIdx]
 simpa using this
theorem HN(hr:Rel X s a){t:Ty}{pl:Nat->Option (Nat×Nat)}(iK:∀i ft,t.at_ [i]=some ft->t.jR i=true->t.eS [i]/\pl i=some (t.off [i],ft.cells)){R:Type}{K:El t->List (List Nat)->Option R}{z:R}:
 ∀(parts:List (Nat×Operand)) (x:El t) (own:List (List Nat)) (cs:Array Value),aR X t x cs.toList->p5 t x own (parts.map fun p=>(p.1,s.az p.2,[])) K=some z->
  ∃y l9 cells,K y l9=some z/\Instr.fill pl cs (parts.map fun p=>(p.1,a.eval p.2))=some cells/\aR X t y cells.toList
 | [],x,own,cs,rep,h=>⟨x,own,cs,h,rfl,rep⟩
 |(i,p)::r,x,own,cs,rep,h=>by
  simp only[List.map_cons,p5] at h
  split at h
  case isTrue=>cases h
  rename_i hb
  have hb:t.jR i=true:=by cases zV:t.jR i<;>simp_all
  split at h
  case h_2=>cases h
  rename_i ft bV
  obtain⟨y,h,hy⟩:=zz h
  split at h
  case h_2=>cases h
  rename_i x' fk
  obtain⟨c,rc,ec⟩:=hy X _ _ (hr.az p)
  obtain⟨fV,hp⟩:=iK i ft bV hb
  have lk:=rc.len
  have dw:=rep.len
  have hle:=eF t [i] ft bV fV
  have sc:=fB rep fV bV fk rc
  have cQ:t.off [i]+c.length<=cs.size:=by rw[lk];simp at dw;omega
  have oK:=HQ (t.off [i]) c cs cQ
  obtain⟨y2,sw,cells,h1,h2,h3⟩:=HN hr iK r x' _ _ (by rw[oK];exact sc) h
  refine⟨y2,sw,cells,h1,?_,h3⟩
  simp only[List.map_cons,Instr.fill,hp,ec,vF rc]
  rw[if_neg (by simp only[List.size_toArray,lk];simp;simp at dw;omega)]
  exact h2
theorem Na{t:Ty}{pl:Nat->Option (Nat×Nat)}(iK:∀i ft,t.at_ [i]=some ft->t.jR i=true->t.eS [i]/\pl i=some (t.off [i],ft.cells)){R:Type}{K:El t->List (List Nat)->Option R}{z:R}:
 ∀(parts:List (Nat×Operand)) (X:aq) (s:State) (x:El t) (own:List (List Nat)) (cs:Array Value),Rel X s a->aR X t x cs.toList->bg X (.r 0) t x cs.toList own->p5 t x own (ln s parts).1 K=some z->
  ∃y l9 cells Y,K y l9=some z/\Y.w=X.w/\Ext X Y/\Rel Y (s.close (ln s parts).2) a/\Instr.fill pl cs (parts.map fun p=>(p.1,a.eval p.2))=some cells/\aR Y t y cells.toList/\bg Y (.r 0) t y cells.toList l9
 | [],X,s,x,own,cs,hr,rep,ho,h=>⟨x,own,cs,X,h,rfl,Ext.refl X,hr,rfl,rep,ho⟩
 |(i,p)::r,X,s,x,own,cs,hr,rep,ho,h=>by
  simp only[ln,p5] at h
  split at h
  case isTrue=>cases h
  rename_i hb
  have hb:t.jR i=true:=by cases zV:t.jR i<;>simp_all
  split at h
  case h_2=>cases h
  rename_i ft bV
  have hc:vR (s.az p).own p=src p\/((s.az p).own=[]/\vR (s.az p).own p=[]):=by
   cases bP:(s.az p).own with
   |nil=>exact .inr ⟨rfl,rfl⟩
   |cons _ _=>exact .inl rfl
  obtain⟨y,h,hy⟩:=zy2 hr h hc
  split at h
  case h_2=>cases h
  rename_i x' fk
  obtain⟨Y,c,hw,bd,bq,rc,ec,hO,hβ,hT,ct⟩:=hy (fun q=> .r 0 ([i]++q))
  obtain⟨fV,hp⟩:=iK i ft bV hb
  have lk:=rc.len
  have dw:=rep.len
  have hle:=eF t [i] ft bV fV
  have G2:=rep.mono bd
  have hoY:=ho.stay ct (by simp)
  have sc:=fB G2 fV bV fk rc
  have rV:=Jf G2 fV bV fk rc hoY hO
  have cQ:t.off [i]+c.length<=cs.size:=by rw[lk];simp at dw;omega
  have oK:=HQ (t.off [i]) c cs cQ
  obtain⟨y2,sw,cells,Z,h1,s8,bR,dc,h2,h3,h4⟩:=Na iK r Y _ x' _ _ bq (by rw[oK];exact sc) (by rw[oK];exact rV) h
  refine⟨y2,sw,cells,Z,h1,s8.trans hw,bd.trans bR,?_,?_,h3,h4⟩
  ·simp only[ln,zgb]
   exact dc
  ·simp only[List.map_cons,Instr.fill,hp,ec,vF rc]
   rw[if_neg (by simp only[List.size_toArray,lk];simp;simp at dw;omega)]
   exact h2
theorem zxw(hE:ak P E):∀(fl:List Field) (t:Ty) (off:Nat),iv E fl t off->∃places,fl.mapM (fun(f:Field)=>(P.info? f.type).map fun i=>(f.offset,i.size))=some places/\
 ∀(j:Nat) (f:Field) (ft:Ty),fl[j]? =some f->E.ty f.type=some ft->places[j]? =some (f.offset,ft.cells)
 | [],t,off,h=>⟨[],rfl,fun j f ft hj=>by simp at hj⟩
 |f::r,t,off,h=>by
  cases t<;>simp only[iv] at h<;>try exact h.elim
  rename_i ta tb
  obtain⟨h1,h2,h3,h4⟩:=h
  obtain⟨places,g1,g2⟩:=zxw hE r tb _ h4
  obtain⟨i,i1,i2,_⟩:=(hE.ty _ _ h2).info
  refine⟨(f.offset,i.size)::places,?_,fun j g gt hj hg=> ?_⟩
  ·simp [List.mapM_cons,i1,g1]
  ·cases j with
   |zero=>
    simp only[List.getElem?_cons_zero,Option.some.injEq] at hj
    subst hj
    rw[h2] at hg
    cases hg
    simp [i2]
   |succ j=>
    simp only[List.getElem?_cons_succ] at hj⊢
    exact g2 j g gt hj hg
theorem YE(hE:ak P E)(hr:Rel X s a){T:TypeId}{t:Ty}(hT:E.ty T=some t)(pN:t.agg=true){R:Type}{K:El t->List (List Nat)->Option R}{z:R}(parts:Array (Nat×Operand))
 (h:p5 t (El.bM t) (vJ t) (ln s parts.toList).1 K=some z):
 ∃y own cs Y,K y own=some z/\Y.w=X.w/\Ext X Y/\Rel Y (s.close (ln s parts.toList).2) a/\aR Y t y cs/\bg Y (.r 0) t y cs own/\(Instr.build T (parts.map fun(i,x)=>(i,a.eval x))).run P X.w= .ok (dx t cs) X.w:=by
 have hf:=hE.ty T t hT
 obtain⟨i,i1,i2,i3,i4⟩:=hf.info
 have hz:=sR X t
 have hn:=zzm X (.r 0) t
 have TA:(dx t (zp t)).cells=(zp t).toArray:=vF hz
 have pO:(parts.map fun(i,x)=>(i,a.eval x)).toList=parts.toList.map fun p=>(p.1,a.eval p.2):=by simp
 cases t with
 |arr n t=>
  obtain⟨e,hu,he,_⟩:=hf.cS
  obtain⟨ie,j1,j2,_⟩:=(hE.ty e t he).info
  obtain⟨y,own,cells,Y,k1,hw,bd,bq,k2,k3,k4⟩:=Na (pl:=fun i=>some (i*ie.size,ie.size)) (fun i ft bV hb=>by
   simp only[Ty.at_,Option.some.injEq] at bV
   subst bV
   have hb:i+1<=n:=by simpa [Ty.jR] using hb
   exact⟨⟨hb,by simp [Ty.eS]⟩,by simp [Ty.off,j2]⟩) parts.toList X s (El.bM (.arr n t)) _ (zp (.arr n t)).toArray hr (by simpa using hz) (by simpa using hn) h
  refine⟨y,own,cells.toList,Y,k1,hw,bd,bq,k3,k4,?_⟩
  rw[iI rfl]
  refine run_build X.w T _ cells.toList.toArray ?_
  unfold Program.built
  simp only[i1,hu,i4,j1,TA,pO]
  simpa using k2
 |pair ta tb=>
  obtain⟨fs,hu,cQ,_⟩:=hf.cS
  obtain⟨places,p1,p2⟩:=zxw hE fs.toList _ 0 cQ
  obtain⟨y,own,cells,Y,k1,hw,bd,bq,k2,k3,k4⟩:=Na (pl:=(places.toArray[·]?)) (fun i ft bV hb=>by
   obtain⟨f,g1,g2,g3,g4⟩:=P3 fs.toList _ 0 i ft cQ rfl bV
   refine⟨g4,?_⟩
   have:=p2 i f ft g1 g3
   simp only[List.getElem?_toArray,this,g2,Nat.zero_add]) parts.toList X s (El.bM (.pair ta tb)) _ (zp (.pair ta tb)).toArray hr (by simpa using hz) (by simpa using hn) h
  refine⟨y,own,cells.toList,Y,k1,hw,bd,bq,k3,k4,?_⟩
  rw[iI rfl]
  refine run_build X.w T _ cells.toList.toArray ?_
  unfold Program.built
  simp only[i1,hu,i4,p1,TA,pO]
  simpa using k2
 |unit=>
  obtain⟨fs,hu,cQ,_⟩:=hf.cS
  obtain⟨places,p1,p2⟩:=zxw hE fs.toList _ 0 cQ
  obtain⟨y,own,cells,Y,k1,hw,bd,bq,k2,k3,k4⟩:=Na (pl:=(places.toArray[·]?)) (fun i ft bV hb=>by simp [Ty.at_] at bV) parts.toList X s (El.bM .unit) _ (zp .unit).toArray hr (by simpa using hz) (by simpa using hn) h
  refine⟨y,own,cells.toList,Y,k1,hw,bd,bq,k3,k4,?_⟩
  rw[iI rfl]
  refine run_build X.w T _ cells.toList.toArray ?_
  unfold Program.built
  simp only[i1,hu,i4,p1,TA,pO]
  simpa using k2
 |aV k a b=>exact absurd (hE.gT hT) (by simp [Ty.bH])
 |_=>simp [Ty.agg] at pN
def aq.mg(X:aq)(j:Nat)(q:List Nat->Place):aq:=
 {X with ow:=fun g=>match X.ow g with
  | .row (.r j' p) n=>if j'=j then .row (q p) n else .row (.r j' p) n
  |w=>w}
theorem WZ{s:State}{X:aq}{j:Nat}{q:List Nat->Place}:dn s X (X.mg j q):=by
 refine⟨rfl,rfl,fun g=> ?_⟩
 simp only[aq.mg]
 cases hg:X.ow g with
 |row pl n=>
  cases pl with
  |r j' p=>
   by_cases e:j'=j
   ·subst e
    exact .inr ⟨_,n,q p,rfl,fun h=>h,by simp⟩
   ·exact .inl (if_neg e)
  |_=>exact .inl rfl
 |_=>exact .inl rfl
theorem bg.vA{X:aq}{j:Nat}{q:List Nat->Place}{t:Ty}{x:El t}{cs:List Value}{own:List (List Nat)}(h:bg X (.r j) t x cs own):bg (X.mg j q) q t x cs own:=fun p hp=>by
 obtain⟨e,t',xs,v,g0,g1,g2,g3⟩:=h p hp
 refine⟨e,t',xs,v,g0,g1,g2,?_⟩
 rcases g3 with h|⟨g,cap,cur,h1,h2,h3,h4,h5,h6⟩
 ·exact .inl h
 ·exact .inr ⟨g,cap,cur,h1,h2,h3,h4,h5,by simp [aq.mg,h6]⟩
theorem Wv(hE:ak P E)(hr:Rel X s a){ops:List Oper}{T:TypeId}{parts:Array (Nat×Operand)}(ho:o.op= .build T parts){C:FuncId->bJ Out}(h:act E C ops o s some=some u):aA P X s a o u:=by
 unfold act at h
 simp only[ho] at h
 split at h
 case h_2=>cases h
 rename_i t hT
 split at h
 case isTrue=>cases h
 rename_i pN
 have pN:t.agg=true:=by cases zV:t.agg<;>simp_all
 obtain⟨y,own,cs,Y,h,hw,bd,bq,rep,hO,aW⟩:=YE hE hr hT pN parts h
 cases h
 have lj:=WZ (s:=s.close (ln s parts.toList).2) (X:=Y) (j:=0) (q:= .c (o.dst.getD 0) 0)
 refine⟨Y.mg 0 (.c (o.dst.getD 0) 0),dx t cs,.inl ?_,bd.trans lj.ext,(bq.mod lj.mod).fin ⟨cs,rep.al (fun _ _=>lj.aw.1),rfl,hO.vA⟩ (fun id t p hm=>by simp at hm)⟩
 rw[lj.w,hw]
 simp only[execOp,ho,Sem.run_bind,aW,Result.andThen_ok,Sem.run_pure]
end Go.Ref

namespace Go.Ref
open Go
variable {P:Program} {E:Env} {X:aq} {s:State} {a:Act} {o:Oper} {u:Out}
theorem abT{t:Ty}{x:El t}{xs:List (El t)}{n:Nat}{c cs:List Value}(h1:aR X t x c)(h2:aR X (.arr n t) xs cs):aR X (.arr (n+1) t) (x::xs:List (El t)) (c++cs):=by
 obtain⟨k1,k2,k3⟩:=h2
 have hl:=h1.len
 refine⟨by simp;exact k1,by simp [k2,hl,Nat.add_mul];omega,fun j y hj=> ?_⟩
 cases j with
 |zero=>
  simp only[List.getElem?_cons_zero,Option.some.injEq] at hj
  subst hj
  rw[Nat.zero_mul,List.drop_zero,<-hl,List.take_left]
  exact h1
 |succ j=>
  simp only[List.getElem?_cons_succ] at hj
  have hd:(c++cs).drop ((j+1)*t.cells)=cs.drop (j*t.cells):=by
   rw[Nat.add_mul,Nat.one_mul,Nat.add_comm,<-List.drop_drop,<-hl,List.drop_left]
  rw[hd]
  exact k3 j y hj
theorem CZ{t:Ty}{xs ys:List (El t)}{n m:Nat}{c d:List Value}(h1:aR X (.arr n t) xs c)(h2:aR X (.arr m t) ys d):aR X (.arr (n+m) t) (xs++ys:List (El t)) (c++d):=by
 obtain⟨j1,j2,j3⟩:=h1
 obtain⟨k1,k2,k3⟩:=h2
 refine⟨by rw[List.length_append,j1,k1],by rw[List.length_append,j2,k2,Nat.add_mul],fun j y hj=> ?_⟩
 by_cases ap:j<n
 ·rw[List.getElem?_append_left (by rw[j1];exact ap)] at hj
  have hle:(j+1)*t.cells<=n*t.cells:=Nat.mul_le_mul_right _ ap
  rw[Nat.add_mul,Nat.one_mul] at hle
  rw[List.drop_append_of_le_length (by omega),List.take_append_of_le_length (by rw[List.length_drop];omega)]
  exact j3 j y hj
 ·rw[List.getElem?_append_right (by rw[j1];omega),j1] at hj
  have hd:(c++d).drop (j*t.cells)=d.drop ((j-n)*t.cells):=by
   have hm:j*t.cells=c.length+(j-n)*t.cells:=by
    rw[j2,<-Nat.add_mul]
    congr 1
    omega
   rw[hm,List.drop_length_add_append]
  rw[hd]
  exact k3 _ y hj
theorem ztg{t:Ty}{ad:Addr}(hs:ad.spot=none):∀(xs:List (El t)) (p:Nat),(∀(j:Nat) x,xs[j]? =some x->∃dU,aR X t x dU/\∀(i:Nat) v,dU[i]? =some v->X.aw (ad.add (p+(j*t.cells+i))) v)->
 ∃cs,aR X (.arr xs.length t) xs cs/\∀(i:Nat) v,cs[i]? =some v->X.aw (ad.add (p+i)) v
 | [],p,h=>⟨[],⟨rfl,by simp,fun j x hj=>by simp at hj⟩,fun i v hi=>by simp at hi⟩
 |x::xs,p,h=>by
  obtain⟨c,r1,s1⟩:=h 0 x rfl
  obtain⟨cs,r2,s2⟩:=ztg hs xs (p+t.cells) (fun j y hj=>by
   obtain⟨c',r',s'⟩:=h (j+1) y hj
   refine⟨c',r',fun i v hi=> ?_⟩
   have:=s' i v hi
   rw[show p+((j+1)*t.cells+i)=p+t.cells+(j*t.cells+i) by rw[Nat.add_mul];omega] at this
   exact this)
  have hl:=r1.len
  refine⟨c++cs,abT r1 r2,fun i v hi=> ?_⟩
  rw[List.getElem?_append] at hi
  split at hi
  ·have:=s1 i v hi
   rwa [show p+(0*t.cells+i)=p+i by omega] at this
  ·have:=s2 _ v hi
   rwa [show p+t.cells+(i-c.length)=p+i by omega] at this
theorem z9x{e:TypeId}{t:Ty}{xs:List (El t)}{A:Option Addr}{n c:Nat}(h:aR X (.sl e t) xs [.slice A n c]):n=xs.length/\xs.length<=c/\
 ∃cs,aR X (.arr xs.length t) xs cs/\(A=none->xs=[])/\∀ad,A=some ad->∀(i:Nat) v,cs[i]? =some v->X.aw (ad.add i) v:=by
 obtain⟨A',c',h1,h2,h3⟩:=h
 simp only[List.cons.injEq,Value.slice.injEq,and_true] at h1
 obtain⟨rfl,rfl,rfl⟩:=h1
 refine⟨rfl,h2,?_⟩
 cases xs with
 |nil=>exact⟨[],⟨rfl,by simp,fun j x hj=>by simp at hj⟩,fun _=>rfl,fun ad _ i v hi=>by simp at hi⟩
 |cons x r=>
  obtain⟨ad,_,hA,hs,_⟩:=h3 0 x rfl
  subst hA
  obtain⟨cs,k1,k2⟩:=ztg (X:=X) hs (x::r) 0 (fun j y hj=>by
   obtain⟨oH,c',e1,_,g1,g2⟩:=h3 j y hj
   cases e1
   exact⟨c',g1,fun i v hi=>by rw[Nat.zero_add];exact g2 i v hi⟩)
  refine⟨cs,k1,(fun e=>by cases e),fun oH e i v hi=> ?_⟩
  cases e
  have:=k2 i v hi
  rwa [Nat.zero_add] at this
theorem zhd{e:TypeId}{t:Ty}{xs:List (El t)}{g cap:Nat}{pl:Place}{cur:Array Value}{cs:List Value}(hg:X.w.heap[g]? =some (.cells cur e (0,0)))(how:X.ow g= .row pl (xs.length*t.cells))
 (lY:cur.toList.take (xs.length*t.cells)=cs) (aM:aR X (.arr xs.length t) xs cs) (lR:xs.length<=cap):aR X (.sl e t) xs [.slice (some ⟨g,0,none⟩) xs.length cap]:=by
 refine⟨_,cap,rfl,lR,fun j x hj=>⟨_,_,rfl,rfl,aM.2.2 j x hj,fun i v hi=> ?_⟩⟩
 have uY:=(List.getElem?_eq_some_iff.1 hj).1
 have hle:(j+1)*t.cells<=xs.length*t.cells:=Nat.mul_le_mul_right _ uY
 rw[Nat.add_mul,Nat.one_mul] at hle
 rw[List.getElem?_take] at hi
 split at hi
 case isFalse=>cases hi
 rename_i Mu
 rw[List.getElem?_drop,<-lY,List.getElem?_take,if_pos (by omega)] at hi
 refine⟨yi rfl _,?_,?_⟩
 ·rw[jH,Nat.zero_add]
  simp only[World.cell?,hg]
  simpa using hi
 ·rw[jH,Nat.zero_add]
  show Ow.used (X.ow g) _
  rw[how]
  show j*t.cells+i<_
  omega
end Go.Ref

namespace Go.Ref
open Go
variable {P:Program} {E:Env} {X:aq} {s:State} {a:Act} {o:Oper} {u:Out}
theorem zz4{R:Type}{t:Ty}{n:Nat}{K:List (El t)->Option R}:∀(parts:List (Nat×SV)) (xs:List (El t)) (own:List (List Nat)),xs.length=n->yz t xs parts K=p5 (.arr n t) xs own (parts.map fun p=>(p.1,p.2,[])) (fun y _=>K y)
 | [],xs,own,h=>rfl
 |(i,v)::r,xs,own,h=>by
  subst h
  simp only[yz,List.map_cons,p5,Ty.jR,Ty.at_,El.set,Ty.bN,dite_true,Option.map_some]
  congr 1
  refine congrArg (v.el t) (funext fun y=> ?_)
  exact zz4 r (xs.set i y) _ (by simp)
theorem ZZ{t:Ty}(n:Nat)(hk:0<t.cells):((Array.range (n*t.cells)).map fun i=>(zp t).toArray[i % (zp t).toArray.size]!).toList=(List.replicate n (zp t)).flatten:=by
 have hz:=td t
 apply List.ext_getElem?
 intro q
 have hlen:((List.replicate n (zp t)).flatten).length=n*t.cells:=by simp [hz]
 by_cases hq:q<n*t.cells
 ·have h1:q/t.cells<n:=(Nat.div_lt_iff_lt_mul hk).2 hq
  have h2:=z90 hz n (q/t.cells) h1
  have h3:=congrArg (fun l=>l[q % t.cells]?) h2
  simp only[List.getElem?_take,List.getElem?_drop,if_pos (Nat.mod_lt q hk)] at h3
  rw[Nat.mul_comm,Nat.div_add_mod] at h3
  rw[h3]
  have hm:q % t.cells<(zp t).length:=by rw[hz];exact Nat.mod_lt q hk
  rw[List.getElem?_eq_getElem hm]
  simp [hq,hz,hm]
  rw[List.getElem?_eq_getElem hm]
  rfl
 ·rw[List.getElem?_eq_none (by simp;omega),List.getElem?_eq_none (by omega)]
theorem Je{X:aq}{pl:List Nat->Place}{e:TypeId}{t:Ty}{xs:List (El t)}{v:Value}(h:bj X (pl []) e t.cells xs.length v):bg X pl (.sl e t) xs [v] [[]]:=fun p hp=>by
 have hp:p=[]:=by simpa using hp
 subst hp
 exact⟨e,t,xs,v,by simp [Ty.eS],rfl,rfl,h⟩
theorem zsi(hE:ak P E)(hr:Rel X s a){ops:List Oper}{T:TypeId}{n:Nat}{parts:Array (Nat×Operand)}(ho:o.op= .buildSlice T n parts){C:FuncId->bJ Out}(h:act E C ops o s some=some u):aA P X s a o u:=by
 unfold act at h
 simp only[ho] at h
 split at h
 case h_2=>cases h
 rename_i e t hT
 split at h
 case isTrue=>cases h
 rename_i Gg
 have hk:0<t.cells:=by rcases Nat.eq_zero_or_pos t.cells with h0|h0<;>simp_all
 cases hb:Nat.ble (n*t.cells) 16777216 with
 |false=>rw[hb] at h;cases h
 |true=>
  rw[hb] at h
  simp only[cond_true] at h
  have sd:n*t.cells<=16777216:=Nat.le_of_ble_eq_true hb
  rw[zz4 (n:=n) _ _ [] (by simp),List.map_map] at h
  obtain⟨hu,he⟩:=(hE.ty T _ hT).cS
  have dh:=kY (P:=P) hE he X.w
  have hzr:=Nw (P:=P) hE he X.w
  have GM:=sR X (.arr n t)
  obtain⟨y,l9,cells,k1,k2,k3⟩:=HN (pl:=fun i=>some (i*t.cells,t.cells)) hr (fun i ft bV hb=>by
   simp only[Ty.at_,Option.some.injEq] at bV
   subst bV
   have hb:i+1<=n:=by simpa [Ty.jR] using hb
   exact⟨⟨hb,by simp [Ty.eS]⟩,by simp [Ty.off]⟩) parts.toList (El.bM (.arr n t)) [] (zp (.arr n t)).toArray (by simpa using GM) h
  cases k1
  have hy:List.length y=n:=k3.1
  have dw:cells.size=n*t.cells:=by have:=k3.2.1;simpa using this
  have hn:n<=n*t.cells:=Nat.le_mul_of_pos_right n hk
  let Y:=X.new cells e (.row (.c (o.dst.getD 0) 0 []) (n*t.cells)) X.β
  have uZ:eN s X Y:=zof X s cells e _ _ rfl (fun _ _ _=>rfl)
  obtain⟨n1,n2⟩:=zh1 X cells e (.row (.c (o.dst.getD 0) 0 []) (n*t.cells)) X.β
  refine⟨Y,.slice (some ⟨X.w.heap.size,0,none⟩) n n,.inl ?_,uZ.ext,?_⟩
  ·have hcz:(Array.map (fun x=>(dx t (zp t)).cells[x % (dx t (zp t)).cells.size]!) (Array.range (n*t.cells)))=(zp (.arr n t)).toArray:=by
    apply Array.ext'
    rw[vF (sR X t),ZZ n hk]
    rfl
   have pO:(parts.map fun(i,x)=>(i,a.eval x)).toList=parts.toList.map fun p=>(p.1,a.eval p.2):=by simp
   by_cases hn0:n*t.cells=0
   ·have S9:n=0:=by
     rcases Nat.mul_eq_zero.1 hn0 with h0|h0
     ·exact h0
     ·omega
    subst S9
    have k2':Instr.fill (fun i=>some (i*t.cells,t.cells)) #[] (parts.toList.map fun p=>(p.1,a.eval p.2))=some cells:=k2
    have ag5:(parts.map fun x=>(x.1,a.eval x.2)).toList=parts.toList.map fun p=>(p.1,a.eval p.2):=by simp
    simp [execOp,ho,Instr.buildSlice,run_underlying hu,dh,newRow,Y,aq.new]
    rw[show(Array.map (fun x=>default) (Array.range 0):Array Value)= #[] by simp,k2']
    simp
   ·have hc:=hcz
    simp [execOp,ho,Instr.buildSlice,run_underlying hu,dh,hzr,hn0,newRow,Y,aq.new,Nat.not_lt.2 sd]
    rw[hcz,k2]
    simp
  ·refine(hr.di uZ).fin ?_ (fun id t p hm=>by simp at hm)
   refine⟨[.slice (some ⟨X.w.heap.size,0,none⟩) n n],?_,rfl,Je ?_⟩
   ·rw[<-hy]
    refine zhd (pl:= .c (o.dst.getD 0) 0 []) (cur:=cells) (cs:=cells.toList) n1 (by rw[hy];exact n2) ?_ ?_ (Nat.le_refl _)
    ·rw[hy,List.take_of_length_le (by simp [dw])]
    ·rw[hy];exact k3.al (fun _ _=>uZ.aw)
   ·refine .inr ⟨X.w.heap.size,n,cells,by rw[hy],n1,by rw[hy];exact Nat.le_refl _,?_,dw,by rw[hy];exact n2⟩
    simp only[maxLen]
    omega
end Go.Ref

namespace Go.Ref
open Go
variable {P:Program} {E:Env} {X:aq} {s:State} {a:Act} {o:Oper} {u:Out}
inductive Grown(w w':World)(e:TypeId)(k:Nat)(vb v':Value)(cx cy:List Value)(n:Nat):Prop where
 |same (h:w'=w) (hv:v'=vb) (hy:cy=[])
 |room (g cap:Nat) (cur fe:Array Value) (hb:∃m,vb= .slice (some ⟨g,0,none⟩) m cap) (hg:w.heap[g]? =some (.cells cur e (0,0))) (hv:v'= .slice (some ⟨g,0,none⟩) n cap) (hn:n<=cap) (hm:cap<=maxLen)
   (hw:w'=w.setRow g fe) (hs:fe.size=cap*k) (ht:fe.toList.take (n*k)=cx++cy)
 |new (cap:Nat) (fe:Array Value) (hv:v'= .slice (some ⟨w.heap.size,0,none⟩) n cap) (hn:n<=cap) (hm:cap<=maxLen) (hw:w'=w.drew.alloc (.cells fe e)) (hs:fe.size=cap*k) (ht:fe.toList.take (n*k)=cx++cy)
theorem Wn(hE:ak P E){T ty e:TypeId}{t:Ty}(hT:E.ty T=some (.sl e t))(hk:0<t.cells)(mA:E.bytes e≠0){xs ys:List (El t)}{vb vx:Value}{pl:Place}
 (bP:bj X pl e t.cells xs.length vb) {cx cy:List Value} (rx:aR X (.arr xs.length t) xs cx) (sx:∀g m c,vb= .slice (some ⟨g,0,none⟩) m c->∀(i:Nat) v,cx[i]? =some v->X.aw ((⟨g,0,none⟩:Addr).add i) v)
 (ry:aR X (.arr ys.length t) ys cy) (hvx:∃A c,vx= .slice A ys.length c/\(A=none->ys=[])/\∀ad,A=some ad->∀(i:Nat) v,cy[i]? =some v->X.aw (ad.add i) v)
 (hbound:(xs.length+ys.length)*E.bytes e<=140737488355328):
 ∃v' w',(Builtin.append_ #[T,T] ty #[vb,vx]).run P X.w= .ok v' w'/\Grown X.w w' e t.cells vb v' cx cy (xs.length+ys.length)/\(v'= .slice none 0 0->xs.length+ys.length=0):=by
 obtain⟨hu,he⟩:=(hE.ty T _ hT).cS
 obtain⟨i,hi,cj,fh,hz⟩:=(hE.ty e t he).info
 have hzs:(dx t (zp t)).cells.size=t.cells:=by rw[vF (sR X t)];simp [td]
 have u7:cx.length=xs.length*t.cells:=rx.2.1
 have rP:cy.length=ys.length*t.cells:=ry.2.1
 have h1:∀u∈cy,u.oneCell'=true:=ry.one
 have hle:xs.length+ys.length<=140737488355328:=Nat.le_trans (Nat.le_mul_of_pos_right _ (Nat.pos_of_ne_zero mA)) hbound
 have xw:xs.length+ys.length<=maxLen:=by simp only[maxLen];omega
 obtain⟨A,c,rfl,hA,hsy⟩:=hvx
 cases A with
 |none=>
  have qj:=hA rfl
  subst qj
  have SW:cy=[]:=List.eq_nil_of_length_eq_zero (by simpa using rP)
  subst SW
  rcases bP with⟨rfl,hn⟩|⟨g,cap,cur,rfl,hg,Gn,qg,dw,how⟩
  ·refine⟨.slice none 0 0,X.w,?_,.same rfl rfl rfl,fun _=>by simp [hn]⟩
   simp [Builtin.append_,run_underlying hu,sizeOf,typeInfo,hi,Builtin.lenOf,Builtin.firstCells]
  ·refine⟨_,X.w,?_,.same rfl rfl rfl,fun e=>by cases e⟩
   simp [Builtin.append_,run_underlying hu,sizeOf,typeInfo,hi,Builtin.lenOf,Builtin.firstCells,Gn,storeCells]
 |some ad=>
  have Tc:∀j u,cy[j]? =some u->X.w.cell? (ad.add j)=some u:=fun j u hj=>(hsy ad rfl j u hj).2.1
  have kJ:∀(old:Nat),(cx.toArray++cy.toArray++Builtin.zeroCells (dx t (zp t)).cells (grownCap X.w (xs.length+ys.length) old e-(xs.length+ys.length))).size=grownCap X.w (xs.length+ys.length) old e*t.cells/\
   (cx.toArray++cy.toArray++Builtin.zeroCells (dx t (zp t)).cells (grownCap X.w (xs.length+ys.length) old e-(xs.length+ys.length))).toList.take ((xs.length+ys.length)*t.cells)=cx++cy:=by
   intro old
   have Ms:=grownCap_ge X.w (xs.length+ys.length) old e
   refine⟨?_,?_⟩
   ·simp only[Array.size_append,List.size_toArray,size_zeroCells,hzs,u7,rP,<-Nat.add_mul]
    congr 1
    omega
   ·have hl:(cx++cy).length=(xs.length+ys.length)*t.cells:=by rw[List.length_append,u7,rP,Nat.add_mul]
    rw[<-hl]
    simp only[Array.toList_append]
    exact List.take_left
  rcases bP with⟨rfl,hn⟩|⟨g,cap,cur,rfl,hg,Gn,qg,dw,how⟩
  ·have uV:cx=[]:=List.eq_nil_of_length_eq_zero (by rw[u7,hn,Nat.zero_mul])
   subst uV
   by_cases hm:ys.length=0
   ·have SW:cy=[]:=List.eq_nil_of_length_eq_zero (by rw[rP,hm,Nat.zero_mul])
    subst SW
    refine⟨.slice none 0 0,X.w,?_,.same rfl rfl rfl,fun _=>by omega⟩
    simp [Builtin.append_,run_underlying hu,sizeOf,typeInfo,hi,Builtin.lenOf,Builtin.firstCells,hm,loadCells,loadCellsFrom]
   ·have xO:xs.length=0:=hn
    rw[xO,Nat.zero_add] at hbound hle xw
    have hr:=run_append_nil (P:=P) X.w T ty e i (dx t (zp t)) hu hi hz ad ys.length c cy (by rw[cj];exact rP) Tc (by omega) (by omega) (by rw[fh];omega)
    obtain⟨c1,c2⟩:=kJ 0
    have Ms:=grownCap_ge X.w (xs.length+ys.length) 0 e
    have qg:=grownCap_le_maxLen X.w (xs.length+ys.length) 0 e (by rw[xO,Nat.zero_add];exact xw)
    refine⟨_,_,hr,.new (grownCap X.w (xs.length+ys.length) 0 e) _ (by rw[xO,Nat.zero_add]) Ms qg ?_ c1 c2,fun e=>by cases e⟩
    rw[xO,Nat.zero_add]
    simp
  ·by_cases lW:xs.length+ys.length<=cap
   ·have cQ:xs.length*i.size+cy.length<=cur.size:=by rw[cj,rP,dw,<-Nat.add_mul];exact Nat.mul_le_mul_right _ lW
    have hr:=run_append_room (P:=P) X.w T ty e i hu hi g xs.length cap cur hg ad ys.length c cy (by rw[cj];exact rP) Tc h1 lW cQ
    refine⟨_,_,hr,.room g cap cur _ ⟨_,rfl⟩ hg rfl lW qg rfl ?_ ?_,fun e=>by cases e⟩
    ·simp only[List.size_toArray,List.length_append,List.length_take,List.length_drop,Array.length_toList]
     omega
    ·have lY:cur.toList.take (xs.length*i.size)=cx:=by
      rw[cj]
      apply List.ext_getElem?
      intro q
      by_cases hq:q<xs.length*t.cells
      ·rw[List.getElem?_take,if_pos hq]
       have GK:=List.getElem?_eq_getElem (l:=cx) (i:=q) (by rw[u7];exact hq)
       have:=(sx g _ _ rfl q _ GK).2.1
       rw[jH,Nat.zero_add] at this
       simp only[World.cell?,hg] at this
       rw[GK]
       simpa using this
      ·rw[List.getElem?_eq_none (by rw[List.length_take];omega),List.getElem?_eq_none (by omega)]
     have hl:(cx++cy).length=(xs.length+ys.length)*t.cells:=by rw[List.length_append,u7,rP,Nat.add_mul]
     rw[lY,<-hl]
     simp only[List.take_left]
   ·have holds:∀j u,cx[j]? =some u->X.w.cell? ((⟨g,0,none⟩:Addr).add j)=some u:=fun j u hj=>(sx g _ _ rfl j u hj).2.1
    have hr:=run_append_grow (P:=P) X.w T ty e i (dx t (zp t)) hu hi hz ⟨g,0,none⟩ xs.length cap cx (by rw[cj];exact u7) holds ad ys.length c cy (by rw[cj];exact rP) Tc (by omega) (by omega) (growslice_fits (by omega) (by rw[fh];exact hbound))
    obtain⟨c1,c2⟩:=kJ cap
    exact⟨_,_,hr,.new _ _ rfl (grownCap_ge _ _ _ _) (grownCap_le_maxLen _ _ _ _ xw) rfl c1 c2,fun e=>by cases e⟩
theorem bj.SK{X:aq}{s:State}{pl:Place}{e:TypeId}{k n:Nat}{v:Value}(h:bj X pl e k n v)(hf:¬cA s pl)(q:Place):∃Y,dn s X Y/\bj Y q e k n v:=by
 rcases h with h|⟨g,cap,cur,h1,h2,h3,h4,h5,h6⟩
 ·exact⟨X,dn.refl s X,.inl h⟩
 ·refine⟨{X with ow:=fun g'=>if g'=g then .row q (n*k) else X.ow g'},⟨rfl,rfl,fun g'=> ?_⟩,.inr ⟨g,cap,cur,h1,h2,h3,h4,h5,by simp⟩⟩
  by_cases e:g'=g
  ·subst e;exact .inr ⟨pl,_,q,h6,hf,by simp⟩
  ·exact .inl (by simp [e])
theorem agR{R:Type}{t t':Ty}{x:El t'}{w:List (List Nat)}{K:El t->Option R}{z:R}(h:(SV.ah t' x w).el t K=some z):∃he:t'.ci t=true,K (Ty.cast he x)=some z:=by
 simp only[SV.el] at h
 split at h
 ·rename_i he;exact⟨he,h⟩
 ·cases h
theorem V6(hE:ak P E)(hr:Rel X s a){ops:List Oper}{dT:Array Operand}{ts:Array TypeId}(ho:o.op= .call ⟨.builtin .append,dT,ts⟩){C:FuncId->bJ Out}(h:act E C ops o s some=some u):aA P X s a o u:=by
 unfold act at h
 simp only[ho] at h
 split at h
 case h_2=>cases h
 rename_i b x T U pP zR
 have has:dT= #[b,x]:=by rw[<-Array.toArray_toList (xs:=dT),pP]
 have gB:ts= #[T,U]:=by rw[<-Array.toArray_toList (xs:=ts),zR]
 subst has gB
 have hb:=hr.az b
 have hx:=hr.az x
 unfold Lk at h
 split at h
 case isTrue=>cases h
 rename_i hTU
 have hTU:T=U:=by
  have:T.beq U=true:=by cases zV:Nat.beq T U<;>simp_all
  exact Nat.eq_of_beq_eq_true this
 subst hTU
 split at h
 case h_2=>cases h
 rename_i e t hT
 split at h
 case isTrue=>cases h
 rename_i h0
 have h0:Nat.beq (E.bytes e) 0=false/\Nat.beq t.cells 0=false:=by
  cases h1:Nat.beq (E.bytes e) 0<;>cases h2:Nat.beq t.cells 0<;>simp_all
 have mA:E.bytes e≠0:=fun e0=>by rw[e0] at h0;simp at h0
 have hk:0<t.cells:=by
  rcases Nat.eq_zero_or_pos t.cells with e0|e0
  ·rw[e0] at h0;simp at h0
  ·exact e0
 have key:∀(xs ys:List (El t)) (cl:List (Nat×Nat)) (pl:Place),¬cA (s.close cl) pl->bj X pl e t.cells xs.length (a.eval b)->aR X (.sl e t) xs [a.eval b]->aR X (.sl e t) ys [a.eval x]->
  (xs.length+ys.length)*E.bytes e<=140737488355328->aA P X s a o {v:=[.ah (.sl e t) (xs++ys:List (El t)) [[]]],cl:=cl}:=by
  intro xs ys cl pl CR bP AD mc hbound
  obtain⟨A1,c1,xM,x5⟩:=AD
  have e1:a.eval b= .slice A1 xs.length c1:=by simpa using xM
  obtain⟨A2,c2,GI,G3⟩:=mc
  have e2:a.eval x= .slice A2 ys.length c2:=by simpa using GI
  obtain⟨_,_,cx,rx,_,sx⟩:=z9x (X:=X) (e:=e) (show aR X (.sl e t) xs [.slice A1 xs.length c1] from⟨A1,c1,rfl,x5⟩)
  obtain⟨_,_,cy,ry,ny,sy⟩:=z9x (X:=X) (e:=e) (show aR X (.sl e t) ys [.slice A2 ys.length c2] from⟨A2,c2,rfl,G3⟩)
  have sx':∀g m c,a.eval b= .slice (some ⟨g,0,none⟩) m c->∀(i:Nat) v,cx[i]? =some v->X.aw ((⟨g,0,none⟩:Addr).add i) v:=by
   intro g m c hv
   rw[e1] at hv
   injection hv with hA
   exact sx _ hA
  obtain⟨v',w',aW,hgr,rR⟩:=Wn (ty:=o.type) hE hT hk mA bP rx sx' ry ⟨A2,c2,e2,ny,sy⟩ hbound
  have u7:cx.length=xs.length*t.cells:=rx.2.1
  have rP:cy.length=ys.length*t.cells:=ry.2.1
  have GC:(execOp a.eval o).run P X.w= .ok (.value v') w':=by
   simp only[execOp,ho,resolve,invoke,builtin,Sem.run_bind,Sem.run_pure,Result.andThen_ok,List.map_toArray,List.map_cons,List.map_nil,aW]
  have fin:∀(Y:aq),Y.w=w'->Mod (s.close cl) X Y->aR Y (.arr (xs.length+ys.length) t) (xs++ys:List (El t)) (cx++cy)->bj Y (.c (o.dst.getD 0) 0 []) e t.cells (xs.length+ys.length) v'->
   aR Y (.sl e t) (xs++ys:List (El t)) [v']->aA P X s a o {v:=[.ah (.sl e t) (xs++ys:List (El t)) [[]]],cl:=cl}:=by
   intro Y hY hm dZ ho2 Am
   refine⟨Y,v',.inl (by rw[hY];exact GC),hm.ext,((hr.close cl).mod hm).fin ⟨[v'],Am,rfl,Je ?_⟩ (fun id t p Aj=>by simp at Aj)⟩
   rw[List.length_append]
   exact ho2
  cases hgr with
  |same h1 h2 h3=>
   subst h2
   have hy0:ys=[]:=by
    have:ys.length=0:=by
     rcases Nat.mul_eq_zero.1 (show ys.length*t.cells=0 by rw[<-rP,h3];rfl) with h|h
     ·exact h
     ·omega
    exact List.eq_nil_of_length_eq_zero this
   subst hy0
   obtain⟨Y,lj,hO2⟩:=bj.SK (s:=s.close cl) bP CR (.c (o.dst.getD 0) 0 [])
   refine fin Y (by rw[lj.w,h1]) lj.mod ?_ (by simpa using hO2) ?_
   ·have:=(CZ rx ry)
    exact this.al (fun _ _=>lj.aw.1)
   ·rw[List.append_nil]
    exact aR.al (fun _ _=>lj.aw.1) (show aR X (.sl e t) xs [a.eval b] from⟨A1,c1,xM,x5⟩)
  |new cap fe hv hn hm hw hs ht=>
   let Y:aq:=⟨w',fun g=>if g=X.w.heap.size then .row (.c (o.dst.getD 0) 0 []) ((xs.length+ys.length)*t.cells) else X.ow g,X.β⟩
   have uZ:eN (s.close cl) X Y:=⟨by simp [Y,hw],by simp only[Y,hw];rfl,by simp only[Y,hw];rfl,by simp only[Y,hw];rfl,fun g hg=>⟨by simp only[Y];rw[if_neg (by omega)],by simp only[Y,hw];exact RowKit.Below.heap_alloc _ _ _ hg⟩,rfl,fun _ _ _=>rfl⟩
   have aG:Y.w.heap[X.w.heap.size]? =some (.cells fe e (0,0)):=by simp only[Y,hw];exact heap_alloc_new X.w.drew _
   have how:Y.ow X.w.heap.size= .row (.c (o.dst.getD 0) 0 []) ((xs.length+ys.length)*t.cells):=by simp [Y]
   have aM:=(CZ rx ry).al (fun _ _=>uZ.aw)
   refine fin Y rfl uZ.mod aM (.inr ⟨_,cap,fe,hv,aG,hn,hm,hs,how⟩) ?_
   rw[hv,<-List.length_append]
   exact zhd (cs:=cx++cy) aG (by rw[List.length_append];exact how) (by rw[List.length_append];exact ht) (by rw[List.length_append];exact aM) (by rw[List.length_append];exact hn)
  |room g cap cur fe qd hg hv hn hm hw hs ht=>
   obtain⟨m,zY⟩:=qd
   rcases bP with⟨hz,_⟩|⟨g',uM,FV,mB,CO,Gn,qg,dw,how⟩
   ·rw[hz] at zY;cases zY
   have Af:g'=g:=by rw[zY] at mB;injection mB with h1;injection h1 with h1;injection h1 with h1;exact h1.symm
   subst Af
   have SU:FV=cur:=by rw[hg] at CO;cases CO;rfl
   subst SU
   have ap:=Dv hg
   let Y:aq:=⟨w',fun k=>if k=g' then .row (.c (o.dst.getD 0) 0 []) ((xs.length+ys.length)*t.cells) else X.ow k,X.β⟩
   have aG:Y.w.heap[g']? =some (.cells fe e (0,0)):=by simp only[Y,hw];exact setRow_heap X.w g' FV fe e (0,0) hg
   have na:Y.ow g'= .row (.c (o.dst.getD 0) 0 []) ((xs.length+ys.length)*t.cells):=by simp [Y]
   have xK:∀ad v,X.aw ad v->Y.aw ad v:=by
    intro ad v jD
    by_cases heq:ad.block=g'
    ·obtain⟨k1,k2,k3⟩:=jD
     rw[heq,how] at k3
     have k3:ad.off<xs.length*t.cells:=k3
     have had:ad=(⟨g',0,none⟩:Addr).add ad.off:=by rw[jH,Nat.zero_add];cases ad;simp_all
     have GK:=List.getElem?_eq_getElem (l:=cx) (i:=ad.off) (by rw[u7];exact k3)
     have uV:=(sx' g' _ _ zY ad.off _ GK).2.1
     rw[<-had,k2] at uV
     refine⟨k1,?_,?_⟩
     ·have hq:fe.toList[ad.off]? =some v:=by
       have:=congrArg (fun l=>l[ad.off]?) ht
       simp only[List.getElem?_take] at this
       have hle:xs.length*t.cells<=(xs.length+ys.length)*t.cells:=Nat.mul_le_mul_right _ (Nat.le_add_right _ _)
       rw[if_pos (by omega),List.getElem?_append_left (by rw[u7];exact k3),GK] at this
       rw[this];exact uV.symm
      simp only[World.cell?,heq,aG,k1]
      simpa using hq
     ·rw[heq,na]
      have hle:xs.length*t.cells<=(xs.length+ys.length)*t.cells:=Nat.mul_le_mul_right _ (Nat.le_add_right _ _)
      show ad.off<_
      omega
    ·refine⟨jD.1,?_,?_⟩
     ·have:=jD.2.1
      simp only[World.cell?,Y,hw] at this⊢
      rw[setRow_other X.w g' ad.block fe heq]
      exact this
     ·simp only[Y]
      rw[if_neg heq]
      exact jD.2.2
   have Ak:Mod (s.close cl) X Y:=⟨xK,by simp [Y,hw],by simp only[Y,hw];rfl,by simp only[Y,hw];rfl,by simp only[Y,hw];rfl,rfl,fun _ _ _=>rfl,fun k hk=>by
    by_cases heq:k=g'
    ·subst heq;exact .inr ⟨pl,_,how,CR⟩
    ·refine .inl ⟨by simp only[Y];rw[if_neg heq],?_⟩
     simp only[Y,hw]
     exact setRow_other X.w g' k fe heq⟩
   have aM:=(CZ rx ry).al xK
   refine fin Y rfl Ak aM (.inr ⟨_,cap,fe,hv,aG,hn,hm,hs,na⟩) ?_
   rw[hv,<-List.length_append]
   exact zhd (cs:=cx++cy) aG (by rw[List.length_append];exact na) (by rw[List.length_append];exact ht) (by rw[List.length_append];exact aM) (by rw[List.length_append];exact hn)
 split at h
 ·rename_i jB
  rw[jB] at hb
  obtain⟨ys,h,qj⟩:=zz h
  cases hd:decide (List.length ys*E.bytes e<=140737488355328) with
  |false=>rw[hd] at h;cases h
  |true=>
   rw[hd] at h
   cases h
   obtain⟨cs,mc,ev⟩:=qj X _ _ hx
   have zY:a.eval b= .slice none 0 0:=hb
   have rT:cs=[a.eval x]:=by
    obtain⟨A,c,dw,_⟩:=mc
    rw[ev,dw];rfl
   have:=key [] ys [] (.r 0 []) (fun hf=>hf) (.inl ⟨zY,rfl⟩) (by rw[zY];exact⟨none,0,rfl,Nat.le_refl _,fun j x hj=>by simp at hj⟩) (by rw[<-rT];exact mc) (by simpa using of_decide_eq_true hd)
   simpa using this
 ·rename_i t' xs0 vp jB
  rw[jB] at hb
  split at h
  case isTrue=>cases h
  rename_i Gb
  have Gb:mG vp []=true:=by cases zV:mG vp []<;>simp_all
  obtain⟨heq,h⟩:=agR h
  have:=Ty.aK heq
  subst this
  obtain⟨ys,h,qj⟩:=zz h
  cases hd:decide ((List.length (Ty.cast heq xs0)+List.length ys)*E.bytes e<=140737488355328) with
  |false=>rw[hd] at h;cases h
  |true=>
   rw[hd] at h
   cases h
   obtain⟨cs,mc,ev⟩:=qj X _ _ hx
   have fG:=WK Gb
   obtain⟨i,rfl⟩:=aff jB (fun e=>by rw[e] at fG;cases fG)
   obtain⟨cs1,r1,ev1,hO⟩:=hb
   have rT:cs=[a.eval x]:=by
    obtain⟨A,c,dw,_⟩:=mc
    rw[ev,dw];rfl
   have xH:cs1=[a.eval (.tmp i)]:=by
    obtain⟨A,c,dw,_⟩:=r1
    rw[ev1,dw];rfl
   obtain⟨e',t'',xs',v',_,g1,g2,g3⟩:=hO [] fG
   simp only[El.get,Option.some.injEq,Sigma.mk.injEq,Ty.sl.injEq] at g1
   obtain⟨⟨rfl,rfl⟩,g1⟩:=g1
   cases g1
   have mB:v'=a.eval (.tmp i):=by
    rw[xH] at g2
    simpa [Ty.off] using g2.symm
   rw[mB] at g3
   exact key xs0 ys [(i,0)] (.c i 0 []) cA.close g3 (by rw[<-xH];exact r1) (by rw[<-rT];exact mc) (of_decide_eq_true hd)
 ·cases h
end Go.Ref

namespace Go.Ref
open Go
variable {P:Program} {E:Env} {X:aq} {s:State} {a:Act} {o:Oper} {u:Out}
def aq.obj(X:aq)(r:Nat)(b:Obj):aq:={X with w:={X.w with heap:=X.w.heap.setIfInBounds r b}}
theorem KB{r g:Nat}{b:Obj}(h:g≠r):(X.obj r b).w.heap[g]? =X.w.heap[g]? :=by
 simp [aq.obj,Ne.symm h]
theorem Ia{r:Nat}{b b':Obj}(h:X.w.heap[r]? =some b'):(X.obj r b).w.heap[r]? =some b:=(MapKept.heap_set h).1
theorem BU{r id:Nat}{b:Obj}(h:X.ow r= .box id){ad:Addr}{v:Value}(hs:X.aw ad v):(X.obj r b).aw ad v:=by
 have cg:ad.block≠r:=fun e=>by
  have:=hs.2.2
  rw[e,h] at this
  exact this
 refine⟨hs.1,?_,hs.2.2⟩
 have:=hs.2.1
 simp only[World.cell?] at this⊢
 rw[KB cg]
 exact this
theorem Jd{r id:Nat}{b:Obj}(h:X.ow r= .box id):Ext X (X.obj r b) where
 aw:=fun _ _=>BU h
 size:=by simp [aq.obj]
 os:=rfl
 tape:=rfl
 output:=rfl
 β0:=rfl
 still:=fun g _ ct=>by
  have cg:g≠r:=fun e=>by rw[e,h] at ct;exact ct
  exact⟨rfl,KB cg⟩
theorem bj.obj{r id:Nat}{b:Obj}(h:X.ow r= .box id){pl:Place}{e:TypeId}{k n:Nat}{v:Value}(ho:bj X pl e k n v):bj (X.obj r b) pl e k n v:=by
 rcases ho with ho|⟨g,cap,cur,h1,h2,h3,h4,h5,h6⟩
 ·exact .inl ho
 ·have cg:g≠r:=fun e=>by rw[e,h] at h6;cases h6
  exact .inr ⟨g,cap,cur,h1,(KB cg).trans h2,h3,h4,h5,h6⟩
theorem bg.obj{r id:Nat}{b:Obj}(h:X.ow r= .box id){pl:List Nat->Place}{t:Ty}{x:El t}{c:List Value}{own:List (List Nat)}(ho:bg X pl t x c own):bg (X.obj r b) pl t x c own:=fun p hp=>by
 obtain⟨e,t',xs,v,g0,g1,g2,g3⟩:=ho p hp
 exact⟨e,t',xs,v,g0,g1,g2,g3.obj h⟩
theorem au.obj{r id:Nat}{b:Obj}(h:X.ow r= .box id){pl:List Nat->Place}{sv:SV}{v:Value}(hr:au X pl sv v):au (X.obj r b) pl sv v:=by
 cases sv with
 |ah t x own=>
  obtain⟨c,h1,h2,h3⟩:=hr
  exact⟨c,h1.al (fun _ _=>BU h),h2,h3.obj h⟩
 |view t x=>
  obtain⟨ad,c,h1,h2,h3,h4⟩:=hr
  exact⟨ad,c,h1,h2,h3.al (fun _ _=>BU h),fun i u hi=>BU h (h4 i u hi)⟩
 |cap f t x u y=>exact ti (fun _ _=>BU h) hr
 |_=>exact hr
theorem Rel.obj{r id:Nat}{B B':bm}{b:Obj}(hr:Rel X s a)(hb:s.bs[id]? =some (some B))(hβ:X.β id=some r)(h:X.ow r= .box id)(hB:bC (X.obj r b) id r B'):Rel (X.obj r b) (s.aC (some (id,B'))) a where
 size:=hr.size
 gM:=by simpa [State.aC] using hr.gM
 bL:=fun i l v hl hv=>(hr.bL i l v hl hv).jQ fun j sv u hm jD=>jD.obj h
 boxes:=fun bY B2 cT=>by
  have ap:id<s.bs.length:=(List.getElem?_eq_some_iff.1 hb).1
  simp only[State.aC,List.getElem?_set] at cT
  by_cases e:id=bY
  ·subst e
   rw[if_pos rfl,if_pos ap] at cT
   cases cT;exact⟨r,hβ,hB⟩
  ·rw[if_neg e] at cT
   obtain⟨r',h1,h4,h2⟩:=hr.boxes bY B2 cT
   have cg:r'≠r:=fun e2=>by rw[e2,h] at h4;cases h4;exact e rfl
   exact⟨r',h1,h4,h2.move (fun _ _=>BU h) (KB cg) (fun cs h5=>h5.obj h) fun _ g o ho hw=>⟨(KB (fun e3=>by rw[e3,h] at hw;cases hw)).trans ho,hw⟩⟩
 live:=fun i l bY t p hi hm=>by
  have ap:id<s.bs.length:=(List.getElem?_eq_some_iff.1 hb).1
  obtain⟨B2,cT⟩:=hr.live i l bY t p hi hm
  simp only[State.aC,List.getElem?_set]
  by_cases e:id=bY
  ·subst e;exact⟨B',by rw[if_pos rfl,if_pos ap]⟩
  ·rw[if_neg e];exact⟨B2,cT⟩
 defers:=hr.defers
def aq.jS(X:aq)(b:Obj)(w:Ow)(β:Nat->Option Nat):aq:={w:=X.w.alloc b,ow:=fun g=>if g=X.w.heap.size then w else X.ow g,β}
theorem zzh(X:aq)(s:State)(b:Obj)(w:Ow)(β:Nat->Option Nat)(hβ0:β 0=X.β 0)(hβ:∀(id:Nat) B,s.bs[id]? =some (some B)->β id=X.β id):eN s X (X.jS b w β) where
 size:=by simp [aq.jS]
 os:=rfl
 tape:=rfl
 output:=rfl
 mz:=fun g hg=>⟨by simp only[aq.jS];rw[if_neg (by omega)],RowKit.Below.heap_alloc _ _ _ hg⟩
 β0:=hβ0
 β:=hβ
theorem zgg(hr:Rel X s a){t p:Ty}{x:El t}{b:Obj}{v:Value}(aW:(execOp a.eval o).run P X.w= .ok (.value v) (X.w.alloc b))
 (Gc:∀Y:aq,(∀ad v,X.aw ad v->Y.aw ad v)->Y.w.heap[X.w.heap.size]? =some b->∀pl,dg Y X.w.heap.size pl t x []) (rX:nj p [] X.w.heap.size v) (h:jr s o.dst t x p some=some u):aA P X s a o u:=by
 unfold jr at h
 split at h
 case h_2=>cases h
 rename_i d hd
 split at h
 case h_2=>cases h
 rename_i hb
 cases h
 let β:Nat->Option Nat:=fun id=>if id=d+1 then some X.w.heap.size else X.β id
 have ap:d+1<s.bs.length:=(List.getElem?_eq_some_iff.1 hb).1
 have hk:eN s X (X.jS b (.box (d+1)) β):=zzh X _ _ _ _ (by show(if _ then _ else _)=_;rw[if_neg (by omega)]) (fun id B hB=>by
  show(if id=d+1 then _ else _)=_
  rw[if_neg (fun e=>by rw[e,hb] at hB;cases hB)])
 have b6:bC (X.jS b (.box (d+1)) β) (d+1) X.w.heap.size ⟨t,x,[]⟩:=⟨by simp [aq.jS],Gc _ (fun _ _=>hk.aw) (heap_alloc_new X.w _) _⟩
 have hβd:β (d+1)=some X.w.heap.size:=by show(if d+1=d+1 then _ else _)=_;rw[if_pos rfl]
 have dZ:=(hr.di hk).ga ap hb hβd b6
 refine⟨X.jS b (.box (d+1)) β,v,.inl aW,hk.ext,?_⟩
 rw[hd]
 refine dZ.put (fun d' e=> ?_) (fun id t' q hm=> ?_)
 ·cases e
  exact⟨X.w.heap.size,hβd,rX⟩
 ·have:id=d+1:=by have:=hm;simp at this;exact this.1
  subst this
  exact⟨⟨t,x,[]⟩,by simp [State.aC,List.getElem?_set,ap]⟩
def jm:(t:Ty)->El t->Value
 | .bool,b=> .bool b
 | .int k,n=> .int k n
 | .str,x=> .string x
 |_,_=>Go.undef
def Ty.gD:Ty->Bool
 | .bool| .int _| .str=>true
 |_=>false
theorem zol{t:Ty}(hk:t.gD=true){x:El t}{v:Value}(h:dz X t x v):v=jm t x:=by
 obtain⟨cs,h1,h2⟩:=h
 cases t<;>simp [Ty.gD] at hk
 ·rw[h2,tn h1];rfl
 ·rw[h2,ku h1];rfl
 ·rw[h2,z28 h1];rfl
theorem J6{T:TypeId}{t:Ty}(hE:ak P E)(hT:E.ty T=some t)(hk:t.gD=true)(x:El t):∃d,P.underlying T=some d/\MapKept.IsKey d (jm t x)/\∀y,Instr.sameNow d (jm t x) (jm t y)=some (ff t x y):=by
 have hu:=(hE.ty T t hT).cS
 cases t<;>simp [Ty.gD] at hk
 ·have hu:P.underlying T=some .bool:=hu
  exact⟨_,hu,trivial,fun y=>by cases x<;>cases y<;>rfl⟩
 ·have hu:P.underlying T=some (.int _):=hu
  refine⟨_,hu,by simp [MapKept.IsKey,jm],fun y=> ?_⟩
  simp only[Instr.sameNow,jm,if_true,ff]
  congr 1
 ·have hu:P.underlying T=some .string:=hu
  refine⟨_,hu,trivial,fun y=> ?_⟩
  simp only[Instr.sameNow,jm,ff]
  congr 1
  by_cases e:x=y
  ·rw[decide_eq_true e];exact(MapKept.bytes_beq _ _).2 e
  ·rw[decide_eq_false e]
   cases hb:(x==y) with
   |false=>rfl
   |true=>exact absurd ((MapKept.bytes_beq _ _).1 hb) e
theorem HO{kt vt:Ty}{d:TypeDesc}{k:El kt}(hk:kt.gD=true)(hs:∀y,Instr.sameNow d (jm kt k) (jm kt y)=some (ff kt k y)):∀(es:List MapEntry) (xs:List (El kt×El vt)) (i:Nat),es.length=xs.length->
 (∀(i:Nat) q e,xs[i]? =some q->es[i]? =some e->dz X kt q.1 e.key/\dz X vt q.2 e.val)->
 (eb (ff kt) xs k=false/\ea (ff kt) (El.bM vt) xs k=El.bM vt/\Instr.findNow d (jm kt k) es i=some none)\/(eb (ff kt) xs k=true/\∃j v,Instr.findNow d (jm kt k) es i=some (some (j,v))/\dz X vt (ea (ff kt) (El.bM vt) xs k) v)
 | [],[],i,_,_=> .inl ⟨rfl,rfl,rfl⟩
 |e::es,q::xs,i,hl,hp=>by
  obtain⟨h1,h2⟩:=hp 0 q e rfl rfl
  have hke:=zol hk h1
  have oL:=hs q.1
  rw[<-hke] at oL
  simp only[Instr.findNow,oL,eb,ea]
  cases heq:ff kt k q.1 with
  |true=>exact .inr ⟨rfl,i,e.val,rfl,h2⟩
  |false=>exact HO hk hs es xs (i+1) (by simpa using hl) (fun i q e hq he=>hp (i+1) q e (by simpa using hq) (by simpa using he))
 | [],_::_,_,hl,_=>by simp at hl
 |_::_,[],_,hl,_=>by simp at hl
theorem zsz:∀{t:Ty},t.fZ=true->t.depth<=2
 | .unit,_=>by decide
 | .pair (.int _) b,h=>by
   have:=zsz (t:=b) h
   simp only[Ty.depth];omega
theorem I7:∀{t:Ty},t.fZ=true->∀x y:El t,cZ t x y=some (sZ t x y)
 | .unit,_,_,_=>rfl
 | .pair (.int _) b,h,x,y=>by
   have:=I7 (t:=b) h x.2 y.2
   simp only[cZ,this,sZ]
theorem fR(hE:ak P E){xs:Array Value}(w:World)(em:Bool)(n:Nat):
 ∀(fl:List Field) (t:Ty) (off:Nat),iv E fl t off->t.fZ=true->∀(x:El t) (c1:List Value),aR X t x c1->(xs.toList.drop off).take t.cells=c1->
  (forIn fl () fun(f:Field) (_:Unit)=>(if f.name≠ "_" then do
    let __do_lift<-part f.type xs f.offset
    Instr.checkKey em (n+1) f.type __do_lift
    pure (ForInStep.yield ()) else pure (ForInStep.yield ()):Sem (ForInStep Unit))).run P w= .ok () w:=by
 intro fl
 induction fl with
 |nil=>intro t off hf hi x c1 h1 h3;simp [List.forIn_nil]
 |cons f fl TE=>
  intro t off hf hi x c1 h1 h3
  cases t<;>simp only[iv] at hf<;>try exact hf.elim
  rename_i ta tb
  obtain⟨ho,CS,hn,eK⟩:=hf
  obtain⟨ca,cb,e1,ra,rb⟩:=h1
  have la:=ra.len
  have t1:(xs.toList.drop off).take ta.cells=ca:=by
   have:=congrArg (fun l=>l.take ta.cells) (h3.trans e1)
   simp only[List.take_take,Ty.cells] at this
   rw[Nat.min_eq_left (Nat.le_add_right _ _),<-la,List.take_left] at this
   rw[<-la];exact this
  have u1:(xs.toList.drop (off+ta.cells)).take tb.cells=cb:=by
   have:=congrArg (fun l=>l.drop ta.cells) (h3.trans e1)
   simp only[Ty.cells] at this
   rw[List.drop_take,Nat.add_sub_cancel_left,List.drop_drop,<-la,List.drop_left] at this
   rw[<-la];exact this
  have nb:=BV hE CS ra (all:=xs) (off:=f.offset) (by rw[ho];exact t1) w
  cases ta<;>simp [Ty.fZ] at hi
  rename_i k
  have hu:P.underlying f.type=some (.int k):=(hE.ty f.type _ CS).cS
  have CL:(Instr.checkKey em (n+1) f.type (dx (.int k) ca)).run P w= .ok () w:=by
   rw[ku ra]
   exact MapKept.run_checkKey hu (by simp [MapKept.IsKey]) em n
  rw[List.forIn_cons]
  simp only[hn,ne_eq,not_false_eq_true,if_true,Sem.run_bind,nb,CL,Result.andThen_ok,Sem.run_pure]
  exact TE tb _ eK hi x.2 cb rb u1
theorem zzi{T:TypeId}{t:Ty}(hE:ak P E)(hT:E.ty T=some t)(hk:t.isKey=true){x:El t}{v:Value}(h:dz X t x v)(em:Bool)(w:World):(Instr.checkKey em 10000 T v).run P w= .ok () w:=by
 cases h1:t.gD with
 |true=>
  obtain⟨d,hd,Mu,_⟩:=J6 hE hT h1 x
  rw[zol h1 h]
  exact MapKept.run_checkKey hd Mu em 9999
 |false=>
  have hu:=(hE.ty T t hT).cS
  cases t<;>simp [Ty.isKey,Ty.gD] at hk h1
  rename_i ta tb
  obtain⟨fs,iE,jk,MB,_⟩:=hu
  obtain⟨cs,hr,rfl⟩:=h
  rw[iI rfl]
  unfold Instr.checkKey
  simp only[Sem.run_bind,run_underlying iE,Result.andThen_ok]
  rw[<-Array.forIn_toList]
  have:=fR (X:=X) hE (xs:=cs.toArray) w em 9998 fs.toList (.pair ta tb) 0 jk hk x cs hr (by have:=hr.len;simp only[List.drop_zero];rw[<-this];exact List.take_length)
  exact(congrArg (fun r=>Result.andThen r (fun a w'=>Sem.run P (pure ()) w')) this).trans (by simp)
theorem zm5(hE:ak P E){T:TypeId}{kt vt:Ty}(hT:E.ty T=some kt)(hk:kt.fZ=true){k:El kt}{v:Value}(h:dz X kt k v)(w:World):∀(es:List MapEntry) (xs:List (El kt×El vt)) (i:Nat),es.length=xs.length->
 (∀(i:Nat) q e,xs[i]? =some q->es[i]? =some e->dz X kt q.1 e.key/\dz X vt q.2 e.val)->
 (eb (sZ kt) xs k=false/\ea (sZ kt) (El.bM vt) xs k=El.bM vt/\(Instr.findAsking T v es i).run P w= .ok none w)\/(eb (sZ kt) xs k=true/\∃j u,(Instr.findAsking T v es i).run P w= .ok (some (j,u)) w/\dz X vt (ea (sZ kt) (El.bM vt) xs k) u)
 | [],[],i,_,_=> .inl ⟨rfl,rfl,by simp [Instr.findAsking]⟩
 |e::es,q::xs,i,hl,hp=>by
  obtain⟨h1,h2⟩:=hp 0 q e rfl rfl
  obtain⟨c1,r1,rfl⟩:=h
  obtain⟨c2,r2,e2⟩:=h1
  have heq:(Op.equal T (dx kt c1) e.key).run P w= .ok (sZ kt k q.1) w:=by
   rw[e2]
   exact zz2 (X:=X) hE w 10000 kt T hT (Nat.le_trans (zsz hk) (by decide)) k q.1 c1 c2 _ r1 r2 (I7 hk k q.1)
  unfold Instr.findAsking
  simp only[Sem.run_bind,heq,Result.andThen_ok,eb,ea]
  cases heq:sZ kt k q.1 with
  |true=>exact .inr ⟨rfl,i,e.val,by simp,h2⟩
  |false=>exact zm5 hE hT hk ⟨c1,r1,rfl⟩ w es xs (i+1) (by simpa using hl) (fun i q e hq he=>hp (i+1) q e (by simpa using hq) (by simpa using he))
 | [],_::_,_,hl,_=>by simp at hl
 |_::_,[],_,hl,_=>by simp at hl
theorem z143(hE:ak P E){T:TypeId}{kt vt:Ty}(hT:E.ty T=some kt)(hk:kt.isKey=true){k:El kt}{v:Value}(h:dz X kt k v)(w:World)(es:List MapEntry)(xs:List (El kt×El vt))(hl:es.length=xs.length)
 (hp:∀(i:Nat) q e,xs[i]? =some q->es[i]? =some e->dz X kt q.1 e.key/\dz X vt q.2 e.val):
 (eb (ff kt) xs k=false/\ea (ff kt) (El.bM vt) xs k=El.bM vt/\(Instr.findKey T v es).run P w= .ok none w)\/(eb (ff kt) xs k=true/\∃j u,(Instr.findKey T v es).run P w= .ok (some (j,u)) w/\dz X vt (ea (ff kt) (El.bM vt) xs k) u):=by
 cases h1:kt.gD with
 |true=>
  obtain⟨d,hd,Mu,oL⟩:=J6 hE hT h1 k
  rw[zol h1 h]
  rcases HO (X:=X) h1 oL es xs 0 hl hp with⟨g1,g2,g3⟩|⟨g1,j,u,g3,g4⟩
  ·exact .inl ⟨g1,g2,MapKept.run_findKey hd g3⟩
  ·exact .inr ⟨g1,j,u,MapKept.run_findKey hd g3,g4⟩
 |false=>
  have hu:=(hE.ty T kt hT).cS
  cases kt<;>simp [Ty.isKey,Ty.gD] at hk h1
  rename_i ta tb
  obtain⟨fs,iE,_⟩:=hu
  have e:=run_findKey_eq (P:=P) w (k:=T) (by rw[iE]) v es
  have:=zm5 (X:=X) hE hT hk h w es xs 0 hl hp
  rw[e]
  exact this
theorem zt5{T:TypeId}{kt vt:Ty}(hE:ak P E)(h:l6 E T=some (kt,vt)):∃k e,P.underlying T=some (.map k e)/\E.ty k=some kt/\E.ty e=some vt/\kt.isKey=true:=by
 unfold l6 at h
 split at h
 case h_2=>cases h
 rename_i k e hm
 split at h
 case h_2=>cases h
 rename_i TF U7 h1 h2
 split at h
 case isFalse=>cases h
 rename_i hk
 cases h
 exact⟨k,e,hE.mp T k e hm,h1,h2,hk⟩
theorem zme{m:Operand}{kt vt:Ty}{R:Type}{K:Nat->List (El kt×El vt)->Option R}{z:R}(hr:Rel X s a)(h:tD s (s.az m) kt vt K=some z):
 ∃id B r xs,K id xs=some z/\s.bs[id]? =some (some B)/\X.β id=some r/\X.ow r= .box id/\a.eval m= .map (some r)/\∃es clock,X.w.heap[r]? =some (.map es clock)/\es.size=xs.length/\
  ∀(i:Nat) (q:El kt×El vt) (e:MapEntry),xs[i]? =some q->es[i]? =some e->dz X kt q.1 e.key/\dz X vt q.2 e.val:=by
 have hx:=hr.az m
 unfold tD at h
 split at h
 case h_2=>cases h
 rename_i id TF U7 hm
 rw[hm] at hx
 obtain⟨r,hβ,hv⟩:=hx
 split at h
 case isFalse=>cases h
 split at h
 case h_2=>cases h
 rename_i B hB
 split at h
 case isFalse=>cases h
 rename_i dD
 have hb:=ql hB
 obtain⟨r',h1,h2,h3⟩:=hr.boxes id B hb
 rw[hβ] at h1
 cases h1
 refine⟨id,B,r,_,h,hb,hβ,h2,hv,?_⟩
 obtain⟨bt,bx,bo⟩:=B
 have e:=Ty.aK dD
 simp only at e
 subst e
 exact h3
theorem VB(hE:ak P E)(hr:Rel X s a){ops:List Oper}{T:TypeId}{rs:Option Operand}(ho:o.op= .makeMap T rs){C:FuncId->bJ Out}(h:act E C ops o s some=some u):aA P X s a o u:=by
 unfold act at h
 cases rs with
 |some r=>simp only[ho] at h;cases h
 |none=>
  simp only[ho] at h
  split at h
  case h_2=>cases h
  rename_i kt vt hm
  refine zgg hr (t:= .aV .mp kt vt) (p:= .aV .mp kt vt) (x:=([]:List (El kt×El vt))) (b:= .map #[] 0) (v:= .map (some X.w.heap.size)) ?_ (fun Y _ hY pl=>⟨#[],0,hY,rfl,fun i q e hq=>by simp at hq⟩) rfl h
  simp [execOp,ho,Instr.makeMap]
theorem V8(hE:ak P E)(hr:Rel X s a){ops:List Oper}{T:TypeId}{x i:Operand}{ok:Bool}(ho:o.op= .lookup T x i ok){C:FuncId->bJ Out}(h:act E C ops o s some=some u):aA P X s a o u:=by
 unfold act at h
 cases ok with
 |true=>simp only[ho] at h;cases h
 |false=>
  simp only[ho] at h
  unfold ki at h
  split at h
  case h_2=>cases h
  rename_i kt vt hm
  obtain⟨k,e,hu,hk,he,rK⟩:=zt5 hE hm
  obtain⟨id,B,r,xs,h,hb,hβ,how,hv,es,clock,aG,dh,dN⟩:=zme hr h
  obtain⟨key,h,S5⟩:=zz h
  cases h
  obtain⟨ck,rk,evk⟩:=S5 X _ _ (hr.az i)
  have CL:=zzi hE hk rK (X:=X) (x:=key) ⟨ck,rk,evk⟩ es.isEmpty X.w
  rcases z143 (X:=X) hE hk rK (k:=key) ⟨ck,rk,evk⟩ X.w es.toList xs (by simpa using dh) (fun i q e hq he=>dN i q e hq (by simpa using he)) with⟨g1,g2,hf⟩|⟨g1,j,v,hf,g4⟩
  ·rw[g2]
   have hz:=Nw (P:=P) hE he X.w
   refine aA.plain hr (v:=dx vt (zp vt)) ?_ (Ch (sR X vt)) (fun _ _ _ e'=>by cases e')
   simp only[execOp,ho,Sem.run_bind,Instr.lookup,run_underlying hu,Result.andThen_ok,hv,MapKept.run_getObj_map aG,Sem.run_pure,CL,hf,hz,Bool.false_eq_true,if_false]
  ·obtain⟨cv,rv,ev⟩:=g4
   refine aA.plain hr (v:=v) ?_ ⟨cv,rv,ev,mo⟩ (fun _ _ _ e'=>by cases e')
   simp only[execOp,ho,Sem.run_bind,Instr.lookup,run_underlying hu,Result.andThen_ok,hv,MapKept.run_getObj_map aG,Sem.run_pure,CL,hf,Bool.false_eq_true,if_false]
theorem HJ(hE:ak P E)(hr:Rel X s a){T:TypeId}{m k x:Operand}(ho:(execOp a.eval o).run P X.w=((Instr.mapUpdate T (a.eval m) (a.eval k) (a.eval x)).run P X.w).andThen fun _ w=> .ok .skip w)(h:kU E T s (s.az m) (s.az k) (s.az x) some=some u):aA P X s a o u:=by
 unfold kU at h
 split at h
 case h_2=>cases h
 rename_i kt vt hm
 obtain⟨kT,eT,hu,hk,he,rK⟩:=zt5 hE hm
 obtain⟨id,B,r,xs,h,hb,hβ,how,hv,es,clock,aG,dh,dN⟩:=zme hr h
 obtain⟨key,h,S5⟩:=zz h
 obtain⟨y,h,hyv⟩:=zz h
 obtain⟨ck,rk,zO⟩:=S5 X _ _ (hr.az k)
 obtain⟨cy,ry,SH⟩:=hyv X _ _ (hr.az x)
 have CL:=zzi hE hk rK (X:=X) (x:=key) ⟨ck,rk,zO⟩ false X.w
 rcases z143 (X:=X) hE hk rK (k:=key) ⟨ck,rk,zO⟩ X.w es.toList xs (by simpa using dh) (fun i q e hq he=>dN i q e hq (by simpa using he)) with⟨g1,g2,hf⟩|⟨g1,j,v,hf,g4⟩
 ·rw[g1] at h
  cases h
  let new:Obj:= .map (es.push {key:=a.eval k,val:=a.eval x,born:=clock}) (clock+1)
  have aW:(execOp a.eval o).run P X.w= .ok .skip (X.obj r new).w:=by
   rw[ho]
   simp only[Instr.mapUpdate,Sem.run_bind,run_underlying hu,Result.andThen_ok,hv,MapKept.run_getObj_map aG,CL,hf,MapKept.run_setObj_map _ aG]
   simp only[new]
   rfl
  have b6:bC (X.obj r new) id r ⟨.aV .mp kt vt,(xs++ [(key,y)]:List (El kt×El vt)),[]⟩:=by
   refine⟨how,es.push {key:=a.eval k,val:=a.eval x,born:=clock},clock+1,Ia aG,by simp [dh],fun i q e hq he=> ?_⟩
   have hs:∀ad v,X.aw ad v->(X.obj r new).aw ad v:=fun _ _=>BU how
   have hq:(xs++ [(key,y)])[i]? =some q:=hq
   rw[List.getElem?_append] at hq
   rw[Array.getElem?_push] at he
   split at hq
   ·rename_i ap
    rw[if_neg (by omega)] at he
    obtain⟨j1,j2⟩:=dN i q e hq he
    exact⟨j1.mono hs,j2.mono hs⟩
   ·rename_i ap
    have hi:i-xs.length=0:=by
     have:=(List.getElem?_eq_some_iff.1 hq).1
     simp at this
     omega
    rw[hi] at hq
    cases hq
    rw[if_pos (by omega)] at he
    cases he
    exact⟨dz.mono hs ⟨ck,rk,zO⟩,dz.mono hs ⟨cy,ry,SH⟩⟩
  exact⟨X.obj r new,Go.undef,.inr ⟨aW,rfl⟩,Jd how,(hr.obj hb hβ how b6).skip o.dst⟩
 ·rw[g1] at h
  cases h
theorem zbl(hE:ak P E)(hr:Rel X s a){ops:List Oper}{T:TypeId}{m k x:Operand}(ho:o.op= .mapUpdate T m k x\/o.op= .insert T m k x){C:FuncId->bJ Out}(h:act E C ops o s some=some u):aA P X s a o u:=by
 unfold act at h
 rcases ho with ho|ho
 ·simp only[ho] at h
  exact HJ hE hr (by simp [execOp,ho]) h
 ·simp only[ho] at h
  exact HJ hE hr (by simp [execOp,ho]) h
theorem WC(hE:ak P E)(hr:Rel X s a){ops:List Oper}{T:TypeId}{x:Operand}(ho:o.op= .range T x){C:FuncId->bJ Out}(h:act E C ops o s some=some u):aA P X s a o u:=by
 unfold act at h
 simp only[ho] at h
 split at h
 case h_2=>cases h
 rename_i hT
 obtain⟨y,h,hy⟩:=zz h
 obtain⟨cs,ry,ev⟩:=hy X _ _ (hr.az x)
 rw[z28 ry] at ev
 have hu:=(hE.ty T _ hT).cS
 refine zgg hr (t:=jl) (p:=jl) (x:=((y,0):ByteArray×Nat)) (b:= .stringIter y 0) (v:= .pointer (some ⟨X.w.heap.size,0,none⟩)) ?_ (fun Y _ hY pl=>hY) ⟨rfl,trivial⟩ h
 simp [execOp,ho,Instr.range,run_underlying hu,ev]
theorem YW(hr:Rel X s a){ops:List Oper}{x:Operand}{str:Bool}(ho:o.op= .next x str){C:FuncId->bJ Out}(h:act E C ops o s some=some u):aA P X s a o u:=by
 unfold act at h
 cases str with
 |false=>simp only[ho] at h;cases h
 |true=>
  simp only[ho] at h
  unfold kl at h
  have hx:=hr.az x
  split at h
  case h_2=>cases h
  rename_i id hm
  rw[hm] at hx
  obtain⟨r,hβ,hv,_⟩:=hx
  split at h
  case h_2=>cases h
  rename_i B hB
  split at h
  case isFalse=>cases h
  rename_i dD
  have hb:=ql hB
  obtain⟨r',h1,how,h3⟩:=hr.boxes id B hb
  rw[hβ] at h1
  cases h1
  have aG:X.w.heap[r]? =some (.stringIter (Ty.cast dD B.x:ByteArray×Nat).1 (Ty.cast dD B.x:ByteArray×Nat).2):=by
   obtain⟨bt,bx,bo⟩:=B
   have e:=Ty.aK dD
   simp only at e
   subst e
   exact h3
  generalize(Ty.cast dD B.x:ByteArray×Nat)=q at*
  obtain⟨st,pos⟩:=q
  simp only at h aG
  have hv:a.eval x= .pointer (some ⟨r,0,none⟩):=by simpa [Ty.off] using hv
  have cu:(getObj r).run P X.w= .ok (.stringIter st pos) X.w:=by simp [getObj,Sem.run,aG]
  cases ap:decide (pos<st.size) with
  |false=>
   rw[ap] at h
   cases h
   have ap:=of_decide_eq_false ap
   refine aA.plain hr (sv:= .over) (v:= .tuple #[.bool false]) ?_ rfl (fun _ _ _ e'=>by cases e')
   simp only[execOp,ho,Sem.run_bind,Instr.next,hv,cu,Result.andThen_ok,if_neg ap,Sem.run_pure]
  |true=>
   rw[ap] at h
   cases h
   have ap:=of_decide_eq_true ap
   let new:Obj:= .stringIter st (pos+(Utf8.decode st pos).2)
   have fk:(setObj r new).run P X.w= .ok () (X.obj r new).w:=by simp [setObj,Sem.run,aG,aq.obj]
   have b6:bC (X.obj r new) id r ⟨jl,((st,pos+(Utf8.decode st pos).2):ByteArray×Nat),[]⟩:=⟨how,Ia aG⟩
   have dZ:=hr.obj hb hβ how b6
   refine⟨X.obj r new,.tuple #[.bool true,.int .i64 pos,.int .i32 (Utf8.decode st pos).1],.inl ?_,Jd how,?_⟩
   ·simp only[execOp,ho,Sem.run_bind,Instr.next,hv,cu,Result.andThen_ok,if_pos ap,Sem.run_pure]
    simp only[new] at fk
    rw[fk]
    rfl
   ·refine dZ.put (fun d' e=>⟨_,rfl,rfl,fun j sv v hj hv=> ?_⟩) (fun id t' q hm=>by simp at hm)
    match j with
    |0=>cases hj;cases hv;exact mm
    |1=>cases hj;cases hv;exact iH
    |2=>cases hj;cases hv;exact iH
    |j+3=>simp at hj
theorem adf{t:Ty}{k:Nat}(hk:(zp t).length=k)(n:Nat):((Array.range (n*k)).map fun i=>(zp t).toArray[i % (zp t).toArray.size]!).size=n*k/\
 ∀j,j<n->((((Array.range (n*k)).map fun i=>(zp t).toArray[i % (zp t).toArray.size]!).toList.drop (j*k)).take k)=zp t:=by
 refine⟨by simp,fun j hj=> ?_⟩
 apply List.ext_getElem?
 intro i
 rw[List.getElem?_take]
 split
 ·rename_i hi
  have ap:j*k+i<n*k:=by
   have:(j+1)*k<=n*k:=Nat.mul_le_mul_right _ hj
   rw[Nat.add_mul,Nat.one_mul] at this
   omega
  have Ak:(j*k+i)% k=i:=by rw[Nat.mul_comm,Nat.mul_add_mod,Nat.mod_eq_of_lt hi]
  rw[List.getElem?_drop,Array.getElem?_toList,Array.getElem?_map,Array.getElem?_range,if_pos ap]
  simp only[Option.map_some,List.size_toArray,hk,Ak]
  rw[List.getElem?_eq_getElem (by omega)]
  simp [getElem!_def,List.getElem?_eq_getElem (show i<(zp t).length by omega)]
 ·rename_i hi
  rw[List.getElem?_eq_none (by omega)]
theorem H5(hE:ak P E){T e:TypeId}{t:Ty}(hT:E.ty T=some (.sl e t))(hk:t.cells≠0)(mA:E.bytes e≠0){n m:Int}(hn:0<=n)(hnm:n<=m)(hb:m*E.bytes e<=140737488355328)(w:World):
 m.toNat<=maxLen/\∃cur,cur.size=m.toNat*t.cells/\(∀j,j<m.toNat->(cur.toList.drop (j*t.cells)).take t.cells=zp t)/\
  (Instr.makeSlice T (.int .i64 n) (.int .i64 m)).run P w= .ok (.slice (some ⟨w.heap.size,0,none⟩) n.toNat m.toNat) (w.alloc (.cells cur e)):=by
 obtain⟨hu,he⟩:=(hE.ty T _ hT).cS
 obtain⟨i,hi,cj,fh,hz⟩:=(hE.ty e t he).info
 have hle:m<=m*E.bytes e:=by
  have h1:(1:Int)<=E.bytes e:=by omega
  have:=Int.mul_le_mul_of_nonneg_left h1 (show 0<=m by omega)
  simpa using this
 have qi:m.toNat<=maxLen:=by simp only[maxLen];omega
 have kJ:(dx t (zp t)).cells=(zp t).toArray:=vF (X:=⟨w,fun _=> .all,fun _=>none⟩) (sR _ t)
 obtain⟨z1,z2⟩:=adf (td t) m.toNat
 refine⟨qi,(Array.range (m.toNat*t.cells)).map (fun i=>(zp t).toArray[i % (zp t).toArray.size]!),z1,z2,?_⟩
 have MD:IntKind.i64.wrap n=n:=by simp [IntKind.wrap,IntKind.signed,IntKind.bits];omega
 have s8:IntKind.i64.wrap m=m:=by simp [IntKind.wrap,IntKind.signed,IntKind.bits];omega
 have hmul:(i.bytes:Int)*m<=2^48:=by rw[fh,Int.mul_comm];omega
 have c1:¬m<0:=by omega
 have c2:¬(281474976710656:Int)<(i.bytes:Int)*m:=by omega
 have c3:¬n<0:=by omega
 have c4:¬m<n:=by omega
 have hai:∀(n:Int) (w:World),(asInt (.int .i64 n)).run P w= .ok n w:=fun n w=>by simp [asInt,asIntOf]
 have hti:∀w:World,(typeInfo e).run P w= .ok i w:=fun w=>by simp [typeInfo,hi]
 have iD:∀w:World,(sizeOf e).run P w= .ok t.cells w:=fun w=>kY hE he w
 have hzv:∀w:World,(zeroValue e).run P w= .ok (dx t (zp t)) w:=fun w=>Nw hE he w
 simp only[Instr.makeSlice,Sem.run_bind,run_underlying hu,Result.andThen_ok,hai,hti,MD,s8]
 by_cases h0:m.toNat*t.cells=0
 ·simp [c1,c2,c3,c4,iD,h0,newRow]
  rw[show Array.range 0= #[] from rfl]
  simp
 ·simp [c1,c2,c3,c4,iD,h0,hzv,kJ,newRow]
theorem zxp(hE:ak P E)(hr:Rel X s a){ops:List Oper}{T:TypeId}{l c:Operand}(ho:o.op= .makeSlice T l c){C:FuncId->bJ Out}(h:act E C ops o s some=some u):aA P X s a o u:=by
 unfold act at h
 simp only[ho] at h
 unfold kj at h
 split at h
 case h_2=>cases h
 rename_i e t hT
 split at h
 ·cases h
 rename_i cg
 have mA:E.bytes e≠0:=fun e0=>cg (by rw[e0];rfl)
 have hk:t.cells≠0:=fun e0=>cg (by rw[e0];simp)
 obtain⟨n,h,hn⟩:=zz h
 obtain⟨m,h,hm⟩:=zz h
 obtain⟨_,rn,en⟩:=hn X _ _ (hr.az l)
 rw[ku rn] at en
 obtain⟨_,rm,em⟩:=hm X _ _ (hr.az c)
 rw[ku rm] at em
 cases hc:I8 l with
 |true=>
  rw[hc] at h
  simp only[cond_true] at h
  cases d1:decide (n=0)<;>rw[d1] at h<;>simp only[cond_true,cond_false] at h
  ·cases h
  cases d2:decide (0<=m)<;>rw[d2] at h<;>simp only[cond_true,cond_false] at h
  ·cases h
  cases d3:decide (m*E.bytes e<=140737488355328)<;>rw[d3] at h<;>simp only[cond_true,cond_false] at h
  ·cases h
  cases h
  have d1:=of_decide_eq_true d1
  have d2:=of_decide_eq_true d2
  have d3:=of_decide_eq_true d3
  subst d1
  obtain⟨qi,cur,g1,g2,aW⟩:=H5 (P:=P) hE hT hk mA (n:=0) (m:=m) (by omega) d2 d3 X.w
  have uZ:eN s X (X.jS (.cells cur e) (.row (.c (o.dst.getD 0) 0 []) 0) X.β):=zzh X _ _ _ _ rfl (fun _ _ _=>rfl)
  refine⟨X.jS (.cells cur e) (.row (.c (o.dst.getD 0) 0 []) 0) X.β,.slice (some ⟨X.w.heap.size,0,none⟩) 0 m.toNat,.inl ?_,uZ.ext,(hr.di uZ).fin ⟨[.slice (some ⟨X.w.heap.size,0,none⟩) 0 m.toNat],⟨_,_,rfl,Nat.zero_le _,fun j x hj=>by simp at hj⟩,rfl,fun p hp=> ?_⟩ (fun id t p hm=>by simp at hm)⟩
  ·simp only[execOp,ho,Sem.run_bind,en,em,aW,Result.andThen_ok,Sem.run_pure]
   rfl
  ·have hp:p=[]:=by simpa using hp
   subst hp
   refine⟨e,t,[],_,by simp [Ty.eS],rfl,rfl,.inr ⟨X.w.heap.size,m.toNat,cur,rfl,heap_alloc_new X.w _,Nat.zero_le _,qi,g1,?_⟩⟩
   simp [aq.jS]
 |false=>
  rw[hc] at h
  simp only[cond_false] at h
  cases d1:decide (n=m)<;>rw[d1] at h<;>simp only[cond_true,cond_false] at h
  ·cases h
  cases d2:decide (0<=n)<;>rw[d2] at h<;>simp only[cond_true,cond_false] at h
  ·cases h
  cases d3:decide (n*E.bytes e<=140737488355328)<;>rw[d3] at h<;>simp only[cond_true,cond_false] at h
  ·cases h
  have d1:=of_decide_eq_true d1
  have d2:=of_decide_eq_true d2
  have d3:=of_decide_eq_true d3
  have d1:m=n:=d1.symm
  subst d1
  obtain⟨qi,cur,g1,g2,aW⟩:=H5 (P:=P) hE hT hk mA (n:=m) (m:=m) d2 (Int.le_refl _) d3 X.w
  refine zgg hr (t:= .aV .row t .unit) (p:= .aV (.fU m.toNat) t .unit) (x:=(List.replicate m.toNat (El.bM t):List (El t))) (b:= .cells cur e) (v:= .slice (some ⟨X.w.heap.size,0,none⟩) m.toNat m.toNat) ?_ (fun Y _ hY pl=>⟨cur,e,hY,?_,fun j x hj=> ?_⟩) ⟨_,rfl,Nat.le_refl _⟩ h
  ·simp only[execOp,ho,Sem.run_bind,en,em,aW,Result.andThen_ok,Sem.run_pure]
  ·rw[g1];show _=List.length (List.replicate _ _)*_;rw[List.length_replicate]
  ·have hj:(List.replicate m.toNat (El.bM t))[j]? =some x:=hj
   rw[List.getElem?_replicate] at hj
   split at hj
   ·rename_i ap
    cases hj
    rw[g2 j ap]
    exact sR Y t
   ·cases hj
end Go.Ref

