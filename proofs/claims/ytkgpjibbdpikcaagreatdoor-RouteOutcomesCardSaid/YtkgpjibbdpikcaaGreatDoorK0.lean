/- No condition. -/
import Derived.Orders
import Derived.Below
import Derived.Maps.AppendAt
import Derived.WalkKit
import Derived.Lib.AppendStr
import Derived.Shelf.Strings.BuilderF
import Derived.WideKeyRuns
import Derived.MapKept
set_option linter.unusedVariables false
set_option linter.unusedSimpArgs false
set_option maxRecDepth 100000
namespace Go.Ref
open Go
structure uz(T e:TypeId)(b:Nat)(v:Value)(bs:List Value)(w:World):Prop where
 mT:w.heap[b]? =some (.cells #[.pointer none,v] T (0,0))\/w.heap[b]? =some (.cells #[.pointer (some ⟨b,0,none⟩),v] T (0,0))
 own:w.ownsRow 0 e 1 v bs.length bs
 ne:v.ownBlock≠some b
theorem uz.lt{T e:TypeId}{b:Nat}{v:Value}{bs:List Value}{w:World}(h:uz T e b v bs w):b<w.heap.size:=by
 rcases Nat.lt_or_ge b w.heap.size with h'|h'
 ·exact h'
 ·rcases h.mT with h|h<;>simp [Array.getElem?_eq_none h'] at h
theorem uz.same{T e:TypeId}{b:Nat}{v:Value}{bs:List Value}{w w':World}(h:uz T e b v bs w)(hb:w'.heap[b]? =w.heap[b]?)(hg:∀g o,v.ownBlock=some g->w.heap[g]? =some o->w'.heap[g]? =some o):uz T e b v bs w':=by
 refine⟨by rw[hb];exact h.mT,⟨h.own.1,?_⟩,h.ne⟩
 rcases h.own.2 with hn|⟨g,cap,cur,hv,h0,BX,rest⟩
 ·exact .inl hn
 ·exact .inr ⟨g,cap,cur,hv,h0,hg g _ (by rw[hv];rfl) BX,rest⟩
inductive Spc where
 |iter
 |mp
 |row
 |fR (n:Nat)
 |fQ (T e:Nat)
 |own
 |ru (f:Nat)
 deriving DecidableEq,Inhabited
@[reducible] def vG:Spc->Type->Type->Type
  | .iter,_,_=>ByteArray×Nat
  | .mp,a,b=>List (a×b)
  | .row,a,_=>List a
  | .fR _,_,_=>Unit
  | .fQ _ _,_,_=>ByteArray
  | .own,a,_=>Option a
  | .ru _,_,_=>Unit
def vG.bR:(k:Spc)->(a b:Type)->vG k a b
 | .iter,_,_=>((⟨#[]⟩:ByteArray),(0:Nat))
 | .mp,_,_=>[]
 | .row,_,_=>[]
 | .fR _,_,_=>()
 | .fQ _ _,_,_=>(⟨#[]⟩:ByteArray)
 | .own,_,_=>none
 | .ru _,_,_=>()
inductive Ty where
 |bool
 |int (k:IntKind)
 |str
 |sl (e:TypeId) (t:Ty)
 |arr (n:Nat) (t:Ty)
 |unit
 |pair (a b:Ty)
 |aZ (k:Spc) (a b:Ty)
 deriving Inhabited
@[reducible] def El:Ty->Type
  | .bool=>Bool
  | .int _=>Int
  | .str=>ByteArray
  | .sl _ t=>List (El t)
  | .arr _ t=>List (El t)
  | .unit=>Unit
  | .pair a b=>El a×El b
  | .aZ k a b=>vG k (El a) (El b)
def El.bR:(t:Ty)->El t
 | .bool=>false
 | .int _=>(0:Int)
 | .str=>(⟨#[]⟩:ByteArray)
 | .sl _ _=>[]
 | .arr n t=>List.replicate n (El.bR t)
 | .unit=>()
 | .pair a b=>(El.bR a,El.bR b)
 | .aZ k a b=>vG.bR k (El a) (El b)
def Ty.cu:Ty->Ty->Bool
 | .bool,.bool=>true
 | .str,.str=>true
 | .unit,.unit=>true
 | .int j,.int k=>decide (j=k)
 | .sl e t,.sl f u=>Nat.beq e f&&Ty.cu t u
 | .arr n t,.arr m u=>Nat.beq n m&&Ty.cu t u
 | .pair a b,.pair c d=>Ty.cu a c&&Ty.cu b d
 | .aZ k a b,.aZ j c d=>decide (k=j)&&(Ty.cu a c&&Ty.cu b d)
 |_,_=>false
theorem Ty.aR:∀{t u:Ty},t.cu u=true->t=u:=by
 intro t
 induction t with
 |bool=>intro u h;cases u<;>simp_all [Ty.cu]
 |int k=>intro u h;cases u<;>simp_all [Ty.cu]
 |str=>intro u h;cases u<;>simp_all [Ty.cu]
 |unit=>intro u h;cases u<;>simp_all [Ty.cu]
 |sl e t ih=>
  intro u h
  cases u<;>simp [Ty.cu] at h
  obtain⟨h1,h2⟩:=h
  rw[ih h2,h1]
 |arr e t ih=>
  intro u h
  cases u<;>simp [Ty.cu] at h
  obtain⟨h1,h2⟩:=h
  rw[ih h2,h1]
 |pair a b lp lq=>
  intro u h
  cases u<;>simp [Ty.cu] at h
  rw[lp h.1,lq h.2]
 |aZ k a b lp lq=>
  intro u h
  cases u<;>simp [Ty.cu] at h
  rw[h.1,lp h.2.1,lq h.2.2]
theorem Ty.bS:∀t:Ty,t.cu t=true
 | .bool=>rfl
 | .str=>rfl
 | .unit=>rfl
 | .int k=>by simp [Ty.cu]
 | .sl e t=>by simp [Ty.cu,Ty.bS t]
 | .arr e t=>by simp [Ty.cu,Ty.bS t]
 | .pair a b=>by simp [Ty.cu,Ty.bS a,Ty.bS b]
 | .aZ k a b=>by simp [Ty.cu,Ty.bS a,Ty.bS b]
def Ty.cast{t u:Ty}(h:t.cu u=true)(x:El t):El u:=Ty.aR h▸x
def Ty.cells:Ty->Nat
 | .arr n t=>n*t.cells
 | .unit=>0
 | .pair a b=>a.cells+b.cells
 | .aZ _ _ _=>0
 |_=>1
def Ty.agg:Ty->Bool
 | .arr .. | .unit| .pair .. | .aZ .. =>true
 |_=>false
def Ty.at_:Ty->List Nat->Option Ty
 |t,[]=>some t
 | .arr _ t,_::p=>t.at_ p
 | .pair a _,0::p=>a.at_ p
 | .pair _ b,(j+1)::p=>b.at_ (j::p)
 |_,_=>none
def Ty.off:Ty->List Nat->Nat
 |_,[]=>0
 | .arr _ t,i::p=>i*t.cells+t.off p
 | .pair a _,0::p=>a.off p
 | .pair a b,(j+1)::p=>a.cells+b.off (j::p)
 |_,_=>0
def El.get:(t:Ty)->List Nat->El t->Option ((u:Ty)×El u)
 |t,[],x=>some ⟨t,x⟩
 | .arr _ t,i::p,xs=>El.get t p (xs.getD i (El.bR t))
 | .pair a _,0::p,x=>El.get a p x.1
 | .pair _ b,(j+1)::p,x=>El.get b (j::p) x.2
 |_,_::_,_=>none
def El.set:(t:Ty)->List Nat->El t->(u:Ty)->El u->Option (El t)
 |t,[],_,u,y=>if h:u.cu t=true then some (Ty.cast h y) else none
 | .arr _ t,i::p,xs,u,y=>(El.set t p (xs.getD i (El.bR t)) u y).map fun z=>List.set xs i z
 | .pair a _,0::p,x,u,y=>(El.set a p x.1 u y).map fun z=>(z,x.2)
 | .pair _ b,(j+1)::p,x,u,y=>(El.set b (j::p) x.2 u y).map fun z=>(x.1,z)
 |_,_::_,_,_,_=>none
def Ty.ff:Ty->List Nat->Prop
 |_,[]=>True
 | .arr n t,i::p=>i<n/\t.ff p
 | .pair a _,0::p=>a.ff p
 | .pair _ b,(j+1)::p=>b.ff (j::p)
 |_,_=>False
inductive Place where
 |c (i j:Nat) (p:List Nat)
 |b (id:Nat) (p:List Nat)
 |r (j:Nat) (p:List Nat)
inductive Ow where
 |all
 |ro (n:Nat)
 |box (id:Nat)
 |row (pl:Place) (n:Nat)
def Ow.used:Ow->Nat->Prop
 | .all,_=>True
 | .ro n,o=>o<n
 | .box _,_=>False
 | .row _ n,o=>o<n
def Ow.still:Ow->Prop
 | .all| .ro _=>True
 |_=>False
structure az where
 w:World
 ow:Nat->Ow
 β:Nat->Option Nat
def az.aE(X:az)(a:Addr)(v:Value):Prop:=a.spot=none/\X.w.cell? a=some v/\(X.ow a.block).used a.off
structure Ext(X Y:az):Prop where
 aE:∀a v,X.aE a v->Y.aE a v
 size:X.w.heap.size<=Y.w.heap.size
 os:Y.w.os=X.w.os
 tape:Y.w.tape=X.w.tape
 output:Y.w.output=X.w.output
 β0:Y.β 0=X.β 0
 still:∀g,g<X.w.heap.size->(X.ow g).still->Y.ow g=X.ow g/\Y.w.heap[g]? =X.w.heap[g]?
theorem Ext.refl(X:az):Ext X X:=⟨fun _ _ h=>h,Nat.le_refl _,rfl,rfl,rfl,rfl,fun _ _ _=>⟨rfl,rfl⟩⟩
theorem Ext.trans{X Y Z:az}(h:Ext X Y)(k:Ext Y Z):Ext X Z:=
 ⟨fun a v hs=>k.aE a v (h.aE a v hs),Nat.le_trans h.size k.size,k.os.trans h.os,k.tape.trans h.tape,k.output.trans h.output,k.β0.trans h.β0,
  fun g hg cH=>by
   obtain⟨h1,h2⟩:=h.still g hg cH
   obtain⟨k1,k2⟩:=k.still g (Nat.lt_of_lt_of_le hg h.size) (by rw[h1];exact cH)
   exact⟨k1.trans h1,k2.trans h2⟩⟩
theorem az.gZ{X:az}{a:Addr}{v:Value}(h:X.aE a v):a.block<X.w.heap.size:=World.block_lt_of_cell? X.w a h.2.1
def aW(X:az):(t:Ty)->El t->List Value->Prop
 | .bool,b,cs=>cs=[.bool b]
 | .int k,n,cs=>cs=[.int k n]
 | .str,s,cs=>cs=[.string s]
 | .sl _ t,xs,cs=>∃A c,cs=[.slice A xs.length c]/\xs.length<=c/\
    ∀j x,xs[j]? =some x->∃ad eA,A=some ad/\ad.spot=none/\aW X t x eA/\∀i v,eA[i]? =some v->X.aE (ad.add (j*t.cells+i)) v
 | .arr n t,xs,cs=>xs.length=n/\cs.length=n*t.cells/\∀j x,xs[j]? =some x->aW X t x ((cs.drop (j*t.cells)).take t.cells)
 | .unit,_,cs=>cs=[]
 | .pair a b,x,cs=>∃c1 c2,cs=c1++c2/\aW X a x.1 c1/\aW X b x.2 c2
 | .aZ _ _ _,_,cs=>cs=[]
theorem aW.av{X Y:az}(h:∀a v,X.aE a v->Y.aE a v):∀{t:Ty} {x:El t} {cs:List Value},aW X t x cs->aW Y t x cs
 | .bool,_,_,hr=>hr
 | .int _,_,_,hr=>hr
 | .str,_,_,hr=>hr
 | .unit,_,_,hr=>hr
 | .sl _ t,xs,cs,⟨A,c,h1,h2,h3⟩=>⟨A,c,h1,h2,fun j x hj=>by
    obtain⟨ad,eA,h4,h5,h6,h7⟩:=h3 j x hj
    exact⟨ad,eA,h4,h5,aW.av h h6,fun i v hi=>h _ _ (h7 i v hi)⟩⟩
 | .arr n t,xs,cs,⟨h1,h2,h3⟩=>⟨h1,h2,fun j x hj=>aW.av h (h3 j x hj)⟩
 | .pair a b,x,cs,⟨c1,c2,h1,h2,h3⟩=>⟨c1,c2,h1,aW.av h h2,aW.av h h3⟩
 | .aZ _ _ _,_,_,hr=>hr
theorem aW.mono{X Y:az}(h:Ext X Y){t:Ty}{x:El t}{cs:List Value}(hr:aW X t x cs):aW Y t x cs:=aW.av h.aE hr
theorem aW.len{X:az}:∀{t:Ty} {x:El t} {cs:List Value},aW X t x cs->cs.length=t.cells
 | .bool,_,_,hr=>by cases hr;rfl
 | .int _,_,_,hr=>by cases hr;rfl
 | .str,_,_,hr=>by cases hr;rfl
 | .unit,_,_,hr=>by cases hr;rfl
 | .sl _ t,xs,cs,⟨A,c,h1,_⟩=>by cases h1;rfl
 | .arr n t,xs,cs,⟨h1,h2,h3⟩=>h2
 | .pair a b,x,cs,⟨c1,c2,h1,h2,h3⟩=>by rw[h1,List.length_append,h2.len,h3.len];rfl
 | .aZ _ _ _,_,_,hr=>by cases hr;rfl
theorem acG{cs:List Value}{n k:Nat}{u:Value}(hu:u∈cs)(hk:cs.length=n*k):∃j,j<n/\u∈(cs.drop (j*k)).take k:=by
 obtain⟨q,hq,rfl⟩:=List.mem_iff_getElem.1 hu
 have B3:0<k:=by
  rcases Nat.eq_zero_or_pos k with h|h
  ·subst h;simp at hk;subst hk;simp at hq
  ·exact h
 refine⟨q/k,by rw[Nat.div_lt_iff_lt_mul B3,<-hk];exact hq,?_⟩
 rw[List.mem_iff_getElem?]
 refine⟨q % k,?_⟩
 rw[List.getElem?_take,if_pos (Nat.mod_lt _ B3),List.getElem?_drop,Nat.mul_comm,Nat.div_add_mod,List.getElem?_eq_getElem hq]
theorem aW.one{X:az}:∀{t:Ty} {x:El t} {cs:List Value},aW X t x cs->∀u∈cs,u.oneCell'=true
 | .bool,_,_,hr,u,hu=>by cases hr;simp at hu;subst hu;rfl
 | .int _,_,_,hr,u,hu=>by cases hr;simp at hu;subst hu;rfl
 | .str,_,_,hr,u,hu=>by cases hr;simp at hu;subst hu;rfl
 | .unit,_,_,hr,u,hu=>by cases hr;simp at hu
 | .sl _ t,xs,cs,⟨A,c,h1,_⟩,u,hu=>by cases h1;simp at hu;subst hu;rfl
 | .arr n t,xs,cs,⟨h1,h2,h3⟩,u,hu=>by
   obtain⟨j,hj,hm⟩:=acG hu h2
   exact aW.one (h3 j _ (List.getElem?_eq_getElem (by omega))) u hm
 | .pair a b,x,cs,⟨c1,c2,h1,h2,h3⟩,u,hu=>by
   rw[h1] at hu
   rcases List.mem_append.1 hu with hu|hu
   ·exact h2.one u hu
   ·exact h3.one u hu
 | .aZ _ _ _,_,_,hr,u,hu=>by cases hr;simp at hu
end Go.Ref

namespace Go.Ref
open Go Go.Shelf Go.RowKit Go.Proofs
variable {P:Program} {ρ:Ren}
structure fP(b:Nat)(g:Option Nat)(w w':World):Prop where
 os:w'.os=w.os
 tape:w'.tape=w.tape
 output:w'.output=w.output
 size:w.heap.size<=w'.heap.size
 block:∀k,k<w.heap.size->k≠b->some k≠g->w'.heap[k]? =w.heap[k]?
theorem fP.of{b:Nat}{g:Option Nat}{w w':World}(h:w.grownBy w' g):fP b g w w':=⟨h.os,h.tape,h.output,h.size,fun k hk _ hg=>h.block k hk hg⟩
theorem fP.trans{b:Nat}{g:Option Nat}{u v w:World}(h:fP b g u v)(k:fP b g v w):fP b g u w:=
 ⟨k.os.trans h.os,k.tape.trans h.tape,k.output.trans h.output,Nat.le_trans h.size k.size,fun i hi h1 h2=>(k.block i (Nat.lt_of_lt_of_le hi h.size) h1 h2).trans (h.block i hi h1 h2)⟩
theorem fP.refl{b:Nat}{g:Option Nat}(w:World):fP b g w w:=⟨rfl,rfl,rfl,Nat.le_refl _,fun _ _ _ _=>rfl⟩
theorem fP.setCell{b:Nat}{g:Option Nat}(w:World)(a:Addr)(ha:a.block=b)(u:Value):fP b g w (w.setCell a u):=
 ⟨rfl,rfl,rfl,by simp [World.setCell],fun k _ hk _=>Below.heap_setCell _ _ _ _ (by rw[ha];exact hk)⟩
theorem agP{w:World}(t u ty e:TypeId)(i:TypeInfo)(ht:P.underlying t=some (.slice e))(hu:P.underlying u=some .string)(hi:P.info? e=some i)(hz:i.zero=some (.int .u8 0))(cw:i.size=1)(mU:i.bytes=1)
 (v:Value) (n:Nat) (xs:List Value) (bU:w.ownsRow 0 e 1 v n xs) (s:ByteArray) (zV:n+s.size<=maxLen) (fB:n+s.size<=140737488355328) {v':Value} {w':World}
 (h:(Builtin.append_ #[t,u] ty #[v,.string s]).run P w= .ok v' w'):∀g,v'.ownBlock=some g->v.ownBlock=some g\/g=w.heap.size:=by
 have Am:xs.length=n:=by simpa using bU.1
 have tN:n+s.size<=9223372036854775807:=by simp only[maxLen] at zV;omega
 intro g0 BW
 rcases bU.2 with⟨rfl,rfl⟩|⟨g,cap,cur,rfl,hbg,hg,Lw,rB,dR,mw⟩
 ·by_cases hm:s.size=0
  ·have hf:=Lib.run_firstCells_string (P:=P) w 1 s
   rw[hm] at hf
   simp [Builtin.append_,run_underlying ht,run_underlying hu,sizeOf,typeInfo,hi,cw,Builtin.lenOf,hm,hf] at h
   rw[<-h.1] at BW
   simp [Value.ownBlock] at BW
  ·have hr:=run_append_nil_string (P:=P) w t u ty e i (.int .u8 0) ht hu hi hz s (by omega) (by omega) (by rw[mU];omega)
   rw[hr] at h
   cases h
   simp [Value.ownBlock] at BW
   exact .inr BW.symm
 ·by_cases mr:n+s.size<=cap
  ·have aqh:cur.size=cap:=by simpa using dR
   have hr:=Lib.run_append_room_string (P:=P) w t u ty e i ht hu hi cw g n cap cur hg s mr (by omega)
   rw[hr] at h
   cases h
   exact .inl BW
  ·have holds:∀j u,xs[j]? =some u->w.cell? ((⟨g,0,none⟩:Addr).add j)=some u:=bU.cells (g:=g) rfl
   have hr:=Lib.run_append_grow_string (P:=P) w t u ty e i (.int .u8 0) ht hu hi hz ⟨g,0,none⟩ n cap xs (by rw[cw];simpa using Am) holds s (by omega) (by omega) (by rw[mU];exact growslice_fits (by omega) (by omega))
   rw[hr] at h
   cases h
   simp [Value.ownBlock] at BW
   exact .inr BW.symm
theorem aeL{ops:Array Oper}{rest:List Oper}{o:Oper}{a:Act}{w:World}{Q:Exit->Act->World->Prop}(HL:o.guard=none)(sl x:Operand)(t u:TypeId)
 (ho:o.op= .call {callee:= .builtin .append,args:= #[sl,x],argTypes:= #[t,u]})
 (e:TypeId) (i:TypeInfo) (ht:P.underlying t=some (.slice e)) (hu:P.underlying u=some .string) (hi:P.info? e=some i) (hz:i.zero=some (.int .u8 0))
 (cw:i.size=1) (mU:i.bytes=1)
 (v:Value) (n:Nat) (xs:List Value) (hs:a.eval sl=v) (bU:w.ownsRow 0 e 1 v n xs) (s:ByteArray) (hx:a.eval x= .string s)
 (zV:n+s.size<=maxLen) (fB:n+s.size<=140737488355328)
 (h:∀v' w',w'.ownsRow 0 e 1 v' (n+s.size) (xs++Lib.strCells s)->w.grownBy w' v.ownBlock->(∀g,v'.ownBlock=some g->v.ownBlock=some g\/g=w.heap.size)->wpList P ops Q rest (a.put o.dst v') w'):wpList P ops Q (o::rest) a w:=by
 refine wpList_plain HL fun K hK=> ?_
 obtain⟨v',w',hr,h2,h3,h4⟩:=Lib.run_append_own_string (P:=P) w 0 t u o.type e i ht hu hi hz cw mU v n xs bU s zV fB (Nat.zero_le _)
 unfold Oper.wp execOp
 simp only[ho,resolve,invoke,builtin,Sem.run_bind,Sem.run_pure,Result.andThen_ok,List.map_toArray,List.map_cons,List.map_nil,hs,hx,hr]
 exact hK _ _ (h v' w' h2 h3 (agP t u o.type e i ht hu hi hz cw mU v n xs bU s zV fB hr))
theorem ag0(L:Lays.n240 P ρ)(X:Builder.X72 P ρ)(b:Nat)(v:Value)(bs:List Value)(w:World)(h:uz (ρ.t 72) (ρ.t 5) b v bs w):
 Calls P (ρ.f 240) #[.pointer (some ⟨b,0,none⟩)] w fun e w'=>e= .returned (.tuple #[])/\(w'.heap[b]? =some (.cells #[.pointer (some ⟨b,0,none⟩),v] (ρ.t 72) (0,0))/\w'.ownsRow 0 (ρ.t 5) 1 v bs.length bs)/\(fP b none w w'/\w'.heap.size=w.heap.size):=by
 rcases h.mT with hb|hb
 ·have hA:Lib.BuilderAt (ρ.t 72) (ρ.t 5) 0 b (.pointer none) bs w:=⟨Nat.zero_le _,v,hb,h.own,h.ne⟩
  refine(Any.Builder_copyCheck_fresh L X b w hA.cell0 hA.shape hA.frozen0).mono ?_
  rintro e w' ⟨rfl,rfl⟩
  have hu:=hA.used (.pointer (some ⟨b,0,none⟩))
  obtain⟨_,v',BN,mj,_⟩:=hu
  have hv:v'=v:=by
   have:(w.setCell ⟨b,0,none⟩ (.pointer (some ⟨b,0,none⟩))).heap[b]? =some (.cells #[.pointer (some ⟨b,0,none⟩),v] (ρ.t 72) (0,0)):=heap_setCell_same w b 0 _ _ _ hb
   rw[BN] at this
   simp at this
   exact this
  subst hv
  exact⟨rfl,⟨BN,mj⟩,fP.setCell w ⟨b,0,none⟩ rfl _,by simp [World.setCell]⟩
 ·have hA:Lib.BuilderAt (ρ.t 72) (ρ.t 5) 0 b (.pointer (some ⟨b,0,none⟩)) bs w:=⟨Nat.zero_le _,v,hb,h.own,h.ne⟩
  refine(Any.Builder_copyCheck_used L X b w hA.cell0).mono ?_
  rintro e w' ⟨rfl,rfl⟩
  exact⟨rfl,⟨hb,h.own⟩,fP.refl _,rfl⟩
set_option maxHeartbeats 2000000 in
set_option maxRecDepth 100000 in
theorem ag3(L:Lays.n166 P ρ)(X:Builder.Extra P ρ)(b:Nat)(v0:Value)(bs:List Value)(s:ByteArray)(w:World)(h:uz (ρ.t 72) (ρ.t 5) b v0 bs w)(hlen:bs.length+s.size<=140737488355328):
 Calls P (ρ.f 166) #[.pointer (some ⟨b,0,none⟩),.string s] w fun e w'=>e= .returned (.tuple #[.int .i64 s.size,.nilIface])/\∃v',uz (ρ.t 72) (ρ.t 5) b v' (bs++Lib.strCells s) w'/\fP b v0.ownBlock w w'/\∀g,v'.ownBlock=some g->v0.ownBlock=some g\/w.heap.size<=g:=by
 obtain⟨i0,hi,LR,hz1,hz2⟩:=info_parts X.infoByte
 have aq:=h.lt
 have mixed:=L.mixed
 have t72:=L.t72;have a72:=L.a72;have z72:=L.z72;have v72:=L.v72;have u72:=run_underlying L.t72
 have t70:=L.t70;have a70:=L.a70;have z70:=L.z70;have v70:=L.v70;have u70:=run_underlying L.t70
 have t37:=L.t37;have a37:=L.a37;have z37:=L.z37;have v37:=L.v37;have u37:=run_underlying L.t37
 have t3:=L.t3;have a3:=L.a3;have z3:=L.z3;have v3:=L.v3;have u3:=run_underlying L.t3
 have t9:=L.t9;have a9:=L.a9;have z9:=L.z9;have v9:=L.v9;have u9:=run_underlying L.t9
 have t4:=L.t4;have a4:=L.a4;have z4:=L.z4;have v4:=L.v4;have u4:=run_underlying L.t4
 have t164:=L.t164;have a164:=L.a164;have z164:=L.z164;have v164:=L.v164;have aql:=run_underlying L.t164
 have t5:=X.t5;have a5:=X.a5;have z5:=X.z5;have v5:=X.v5;have u5:=run_underlying X.t5
 have aqf:∀args w,(callFunc (ρ.f 240) args).run P w= .ok (.enter (ρ.f 240) args) w:=enters_of L.f240 (by kernel_rfl) rfl
 go_enter L.f166,Body.n166_ntmps ρ
 go_wp2_with (go_at_fn (ρ.f 240);refine(ag0 {L with} X.toX72 b v0 bs _ h).mono ?_)
 rintro e w1 ⟨rfl,⟨wN,bU⟩,uH,LM⟩
 have ct:=h.ne
 have c0:w1.cell? ⟨b,0,none⟩=some (.pointer (some ⟨b,0,none⟩)):=by rw[Lib.cell_of_heap wN];rfl
 have c1:w1.cell? ⟨b,1,none⟩=some v0:=by rw[Lib.cell_of_heap wN];rfl
 go_wp2_with (at_builtin;refine aeL rfl _ _ (ρ.t 37) (ρ.t 9) rfl (ρ.t 5) i0 L.t37 L.t9 hi LR hz1 hz2 _ _ _ rfl bU s rfl ?c3 ?c4 ?_)
 case c3=>unfold maxLen;omega
 case c4=>omega
 intro v' w2 mj Ad kf
 have nF:b<w1.heap.size:=by rw[LM];exact aq
 have rA:w2.heap[b]? =some (.cells #[.pointer (some ⟨b,0,none⟩),v0] (ρ.t 72) (0,0)):=by
  rw[Ad.block b nF (fun e=>ct e.symm)]
  exact wN
 have d0:w2.cell? ⟨b,0,none⟩=some (.pointer (some ⟨b,0,none⟩)):=by rw[Lib.cell_of_heap rA];rfl
 have d1:w2.cell? ⟨b,1,none⟩=some v0:=by rw[Lib.cell_of_heap rA];rfl
 have f1:w2.frozen? ⟨b,1,none⟩=false:=Lib.frozen_of_heap rA 1
 obtain⟨ao,n',cap,rfl⟩:∃ao n' cap,v'= .slice ao n' cap:=by
  rcases mj.2 with⟨hv,_⟩|⟨g,cap,cur,hv,_⟩
  ·exact⟨_,_,_,hv⟩
  ·exact⟨_,_,_,hv⟩
 go_wp2
 go_ret2
 have Lx:(Value.slice ao n' cap).ownBlock≠some b:=fun e=>by
  rcases kf b e with h1|h1
  ·exact ct h1
  ·omega
 have fD:(w2.setCell ⟨b,1,none⟩ (.slice ao n' cap)).heap[b]? =some (.cells #[.pointer (some ⟨b,0,none⟩),.slice ao n' cap] (ρ.t 72) (0,0)):=heap_setCell_same w2 b 1 _ _ _ rA
 refine⟨rfl,_,⟨.inr fD,?_,Lx⟩,?_,fun g hg=> ?_⟩
 ·have hl:(bs++Lib.strCells s).length=bs.length+s.size:=by rw[List.length_append,Lib.strCells_length]
  rw[hl]
  refine⟨mj.1,?_⟩
  rcases mj.2 with hn|⟨g,wG,cur,hv,hbg,hg,rest⟩
  ·exact .inl hn
  ·refine .inr ⟨g,wG,cur,hv,hbg,?_,rest⟩
   rw[Below.heap_setCell _ _ _ _ (fun e=>Lx (by rw[hv,Value.ownBlock];exact congrArg some e))]
   exact hg
 ·refine fP.trans ⟨uH.os,uH.tape,uH.output,uH.size,fun k hk h1 h2=>uH.block k hk h1 (by simp)⟩ (fP.trans (fP.of Ad) (fP.setCell w2 ⟨b,1,none⟩ rfl _))
 ·rcases kf g hg with h1|h1
  ·exact .inl h1
  ·exact .inr (by omega)
theorem fP.freeze{b:Nat}{g:Nat}(w:World)(a:Addr)(ha:a.block=g)(n:Nat):fP b (some g) w (w.freeze a n):=by
 unfold World.freeze
 split
 ·exact fP.refl _
 ·refine⟨rfl,rfl,rfl,by simp,fun k hk h1 h2=> ?_⟩
  simp only[Array.getElem?_modify]
  rw[if_neg]
  intro e
  exact h2 (by rw[<-e,ha])
theorem fP.drew{b:Nat}{g:Option Nat}(w:World):fP b g w w.drew:=⟨rfl,rfl,rfl,Nat.le_refl _,fun _ _ _ _=>rfl⟩
theorem fP.alloc{b:Nat}{g:Option Nat}(w:World)(o:Obj):fP b g w (w.alloc o):=⟨rfl,rfl,rfl,by simp,fun k hk _ _=>Below.heap_alloc _ _ _ hk⟩
set_option maxHeartbeats 2000000 in
set_option maxRecDepth 100000 in
theorem akS(L:Lays.n169 P ρ)(X:Builder.Extra P ρ)(b:Nat)(v0:Value)(l:List UInt8)(w:World)(h:uz (ρ.t 72) (ρ.t 5) b v0 (Lib.byteCells l) w):
 Calls P (ρ.f 169) #[.pointer (some ⟨b,0,none⟩)] w fun e w'=>e= .returned (.string ⟨l.toArray⟩)/\fP b v0.ownBlock w w':=by
 obtain⟨p,wN⟩:∃p,w.heap[b]? =some (.cells #[p,v0] (ρ.t 72) (0,0)):=by
  rcases h.mT with h|h
  ·exact⟨_,h⟩
  ·exact⟨_,h⟩
 have bU:=h.own
 have aq:=h.lt
 rw[Lib.byteCells_length] at bU
 have mixed:=L.mixed
 have t72:=L.t72;have a72:=L.a72;have z72:=L.z72;have v72:=L.v72;have u72:=run_underlying L.t72
 have t70:=L.t70;have a70:=L.a70;have z70:=L.z70;have v70:=L.v70;have u70:=run_underlying L.t70
 have t37:=L.t37;have a37:=L.a37;have z37:=L.z37;have v37:=L.v37;have u37:=run_underlying L.t37
 have t127:=L.t127;have a127:=L.a127;have z127:=L.z127;have v127:=L.v127;have aqk:=run_underlying L.t127
 have t3:=L.t3;have a3:=L.a3;have z3:=L.z3;have v3:=L.v3;have u3:=run_underlying L.t3
 have t9:=L.t9;have a9:=L.a9;have z9:=L.z9;have v9:=L.v9;have u9:=run_underlying L.t9
 have t5:=X.t5;have a5:=X.a5;have z5:=X.z5;have v5:=X.v5;have u5:=run_underlying X.t5
 rcases bU.2 with⟨rfl,hz⟩|⟨g,cap,cur,rfl,hbg,hg,Lw,rB,dR,mw⟩
 ·have hl:l=[]:=List.eq_nil_of_length_eq_zero hz
  subst hl
  have hUS:=Any.unsafeString_none L X
  have c1:w.drew.cell? ⟨b,1,none⟩=some (.slice none 0 0):=by
   have:w.drew.heap[b]? =some (.cells #[p,.slice none 0 0] (ρ.t 72) (0,0)):=wN
   rw[Lib.cell_of_heap this];rfl
  have hSD:(Builtin.unsafeSliceData_ #[(ρ.t 37)] (ρ.t 127) #[.slice none 0 0]).run P w.drew= .ok (.pointer none) w.drew:=rfl
  go_enter L.f169,Body.n169_ntmps ρ
  go_wp2
  go_region_o
  all_goals(go_wp2;go_ret;exact⟨rfl,fP.drew w⟩)
 ·by_cases Lp:l.length=0
  ·have hl:l=[]:=List.eq_nil_of_length_eq_zero Lp
   subst hl
   by_cases hc0:cap=0
   ·subst hc0
    have hUS:=Any.unsafeString_none L X
    have c1:w.drew.cell? ⟨b,1,none⟩=some (.slice (some ⟨g,0,none⟩) 0 0):=by
     have:w.drew.heap[b]? =some (.cells #[p,.slice (some ⟨g,0,none⟩) 0 0] (ρ.t 72) (0,0)):=wN
     rw[Lib.cell_of_heap this];rfl
    have hSD:(Builtin.unsafeSliceData_ #[(ρ.t 37)] (ρ.t 127) #[.slice (some ⟨g,0,none⟩) 0 0]).run P w.drew= .ok (.pointer (some ⟨w.drew.heap.size,0,none⟩)) (w.drew.alloc (.view ⟨g,0,none⟩ (ρ.t 5))):=
     Lib.run_unsafeSliceData_zero w.drew _ _ (ρ.t 5) L.t127 ⟨g,0,none⟩ 0 ((ρ.t 5),cur.size) (by have HK:w.drew.heap[g]? =some (.cells cur (ρ.t 5) (0,0)):=hg;simp [World.shape?,HK])
    have c2:(w.drew.alloc (.view ⟨g,0,none⟩ (ρ.t 5))).cell? ⟨b,1,none⟩=some (.slice (some ⟨g,0,none⟩) 0 0):=by
     have:(w.drew.alloc (.view ⟨g,0,none⟩ (ρ.t 5))).heap[b]? =_:=(Lib.alloc_old w.drew _ b aq).trans wN
     rw[Lib.cell_of_heap this];rfl
    have c3:(w.alloc (.view ⟨g,0,none⟩ (ρ.t 5))).drew.cell? ⟨b,1,none⟩=some (.slice (some ⟨g,0,none⟩) 0 0):=c2
    have c0:w.cell? ⟨b,1,none⟩=some (.slice (some ⟨g,0,none⟩) 0 0):=c1
    go_enter L.f169,Body.n169_ntmps ρ
    go_wp2
    go_region_o
    all_goals(go_wp2;go_ret;exact⟨rfl,(fP.drew w).trans (fP.alloc _ _)⟩)
   ·have hUS:=Any.unsafeString_none L X
    have c1:w.drew.cell? ⟨b,1,none⟩=some (.slice (some ⟨g,0,none⟩) 0 cap):=by
     have:w.drew.heap[b]? =some (.cells #[p,.slice (some ⟨g,0,none⟩) 0 cap] (ρ.t 72) (0,0)):=wN
     rw[Lib.cell_of_heap this];rfl
    have hSD:(Builtin.unsafeSliceData_ #[(ρ.t 37)] (ρ.t 127) #[.slice (some ⟨g,0,none⟩) 0 cap]).run P w.drew= .ok (.pointer (some ⟨g,0,none⟩)) w.drew:=
     Lib.run_unsafeSliceData_row _ _ _ _ _ _ hc0
    clear hc0
    go_enter L.f169,Body.n169_ntmps ρ
    go_wp2
    go_region_o
    all_goals(go_wp2;go_ret;exact⟨rfl,fP.drew w⟩)
  ·have h0:l≠ []:=fun e=>Lp (by rw[e];rfl)
   have c1:w.drew.cell? ⟨b,1,none⟩=some (.slice (some ⟨g,0,none⟩) l.length cap):=by
    have:w.drew.heap[b]? =some (.cells #[p,.slice (some ⟨g,0,none⟩) l.length cap] (ρ.t 72) (0,0)):=wN
    rw[Lib.cell_of_heap this];rfl
   have hSD:(Builtin.unsafeSliceData_ #[(ρ.t 37)] (ρ.t 127) #[.slice (some ⟨g,0,none⟩) l.length cap]).run P w.drew= .ok (.pointer (some ⟨g,0,none⟩)) w.drew:=
    Lib.run_unsafeSliceData_row _ _ _ _ _ _ (by omega)
   have hUS:(Builtin.unsafeString_ #[(ρ.t 127),(ρ.t 3)] (ρ.t 9) #[.pointer (some ⟨g,0,none⟩),.int .i64 l.length]).run P w.drew= .ok (.string ⟨l.toArray⟩) (w.drew.freeze ⟨g,0,none⟩ l.length):=by
    refine Lib.run_unsafeString_row w.drew (ρ.t 127) (ρ.t 3) (ρ.t 9) (ρ.t 5) L.t127 X.cellsByte g cur.size (by have HK:w.drew.heap[g]? =some (.cells cur (ρ.t 5) (0,0)):=hg;simp [World.shape?,HK]) l h0 (by omega) (by unfold maxLen at rB;omega) ?_
    intro j x hx
    have:=bU.cells (g:=g) rfl j (.int .u8 x.toNat) (by simp [Lib.byteCells,hx])
    exact this
   go_enter L.f169,Body.n169_ntmps ρ
   go_wp2
   go_region_o
   all_goals(go_wp2;go_ret;exact⟨rfl,(fP.drew w).trans (fP.freeze _ _ rfl _)⟩)
end Go.Ref

namespace Go.Ref
open Go
inductive SV where
 |undef
 |skip
 |cG
 |gW
 |aj (t:Ty) (x:El t) (own:List (List Nat))
 |ptr (id:Nat) (t:Ty) (p:List Nat)
 |view (t:Ty) (x:El t)
 |cap (f:Nat) (t:Ty) (x:El t) (u:Ty) (y:El u)
 |over
def Ty.pX:Ty->Bool
 | .aZ (.fQ _ _) _ _=>false
 | .aZ _ _ _=>true
 |_=>false
def Ty.bM:Ty->Bool
 | .aZ _ _ _=>true
 |_=>false
structure bB where
 t:Ty
 x:El t
 own:List (List Nat)
structure State where
 sl:List (List SV)
 bs:List (Option bB)
structure Env where
 ty:TypeId->Option Ty
 bytes:TypeId->Nat
 pt:TypeId->Bool
 dB:Nat->List Nat
 kG:Nat->List Nat
 outs:List Nat
 ps:List Ty
 mp:TypeId->Option (TypeId×TypeId):=fun _=>none
 join:Nat->Option (List Nat):=fun _=>none
 fz:Nat->Option (Nat×TypeId):=fun _=>none
 dr:Nat->List Nat:=fun _=>[]
 sh:List Nat:=[]
 ro:Bool:=false
 mv:List Nat:=[]
 fr:Nat->List Nat:=fun _=>[]
 bl:TypeId->Option TypeId:=fun _=>none
 sp:Option (Nat×Nat×Nat×Nat):=none
def Ty.gm:Ty->Bool
 | .unit=>true
 | .pair (.int _) b=>b.gm
 |_=>false
def Ty.isKey:Ty->Bool
 | .bool| .int _| .str=>true
 | .pair a b=>(Ty.pair a b).gm
 |_=>false
def uG:(t:Ty)->El t->El t->Bool
 | .pair (.int _) b,x,y=>decide (x.1=y.1)&&uG b x.2 y.2
 |_,_,_=>true
def fy:(t:Ty)->El t->El t->Bool
 | .bool,x,y=>decide (x=y)
 | .int _,x,y=>decide (x=y)
 | .str,x,y=>decide (x=y)
 | .pair a b,x,y=>uG (.pair a b) x y
 |_,_,_=>false
def eF{K V:Type}(eq:K->K->Bool)(d:V):List (K×V)->K->V
 | [],_=>d
 |q::r,k=>bif eq k q.1 then q.2 else eF eq d r k
def eG{K V:Type}(eq:K->K->Bool):List (K×V)->K->Bool
 | [],_=>false
 |q::r,k=>bif eq k q.1 then true else eG eq r k
section
variable {R:Type}
abbrev bO(R:Type):=List SV->Option bB->(List SV->Option bB->Option R)->Option R
def SV.el(s:SV)(u:Ty)(K:El u->Option R):Option R:=
 match s with
 | .aj t x _=>if h:t.cu u=true then K (Ty.cast h x) else none
 | .cG=>match u with
   | .sl _ _=>K []
   |_=>none
 |_=>none
def A0:Value->SV
 | .bool b=> .aj .bool b []
 | .int k n=> .aj (.int k) n []
 | .string s=> .aj .str s []
 | .slice none 0 0=> .cG
 | .pointer none=> .gW
 |_=> .undef
def State.slot(s:State)(t:Nat):List SV:=s.sl.getD t [.undef]
def State.xc(s:State):Operand->List SV
 | .tmp t=>s.slot t
 | .const v=>[A0 v]
 |_=>[.undef]
def one:List SV->SV
 | [x]=>x
 |_=> .undef
def State.aG(s:State)(x:Operand):SV:=one (s.xc x)
def State.box(s:State)(id:Nat):Option bB:=(s.bs.getD id none)
def SV.shut:SV->SV
 | .aj t x _=> .aj t x []
 |v=>v
def SV.own:SV->List (List Nat)
 | .aj _ _ o=>o
 | .cG=>[[]]
 |_=>[]
def bV:List SV->Nat->List SV
 | [],_=>[]
 |v::r,0=>v.shut::r
 |v::r,j+1=>v::bV r j
structure Out where
 v:List SV
 bx:Option (Nat×bB):=none
 cl:List (Nat×Nat):=[]
def State.close(s:State):List (Nat×Nat)->State
 | []=>s
 |(i,j)::r=>State.close {s with sl:=s.sl.set i (bV (s.slot i) j)} r
def State.aL(s:State):Option (Nat×bB)->State
 |some (id,B)=>{s with bs:=s.bs.set id (some B)}
 |none=>s
def State.aQ(s:State):Option Nat->List SV->State
 |some d,v=>{s with sl:=s.sl.set d v}
 |none,_=>s
def State.apply(s:State)(dst:Option Nat)(o:Out):State:=((s.close o.cl).aL o.bx).aQ dst o.v
def uf:Operand->Option Nat
 | .tmp t=>some t
 |_=>none
def src:Operand->List (Nat×Nat)
 | .tmp t=>[(t,0)]
 |_=>[]
def aM(op:BinOp)(k:IntKind)(a b:Int):Int:=
 match op with
 | .and=>k.wrap ((BitVec.ofInt k.bits a&&&BitVec.ofInt k.bits b).toNat:Nat)
 | .or=>k.wrap ((BitVec.ofInt k.bits a|||BitVec.ofInt k.bits b).toNat:Nat)
 | .xor=>k.wrap ((BitVec.ofInt k.bits a^^^BitVec.ofInt k.bits b).toNat:Nat)
 |_=>k.wrap ((BitVec.ofInt k.bits a&&& ~~~ BitVec.ofInt k.bits b).toNat:Nat)
def du:(t:Ty)->El t->El t->Option Bool
 | .bool,x,y=>some (x==y)
 | .int _,x,y=>some (decide (x=y))
 | .str,x,y=>some (decide (x=y))
 | .unit,_,_=>some true
 | .arr _ (.int _),x,y=>some (decide ((x:List Int)=y))
 | .pair a b,x,y=>match du a x.1 y.1,du b x.2 y.2 with
   |some p,some q=>some (p&&q)
   |_,_=>none
 |_,_,_=>none
def i64(n:Int):List SV:=[.aj (.int .i64) n []]
def bl(b:Bool):List SV:=[.aj .bool b []]
def qE(op:BinOp)(k:IntKind)(a:Int)(k':IntKind)(b:Int)(K:List SV->Option R):Option R:=
 match op with
 | .shl=>bif decide (b<0) then none else K [.aj (.int k) (k.wrap (a*2^min b.toNat k.bits)) []]
 | .shr=>bif decide (b<0) then none else K [.aj (.int k) (a.fdiv (2^min b.toNat k.bits)) []]
 |_=>if k=k' then
  match op with
  | .add=>K [.aj (.int k) (k.wrap (a+b)) []]
  | .sub=>K [.aj (.int k) (k.wrap (a-b)) []]
  | .mul=>K [.aj (.int k) (k.wrap (a*b)) []]
  | .quo=>bif decide (b=0) then none else K [.aj (.int k) (k.wrap (a.tdiv b)) []]
  | .rem=>bif decide (b=0) then none else K [.aj (.int k) (a.tmod b) []]
  | .and| .or| .xor| .andNot=>K [.aj (.int k) (aM op k a b) []]
  | .eql=>K (bl (decide (a=b)))
  | .neq=>K (bl (!decide (a=b)))
  | .lss=>K (bl (decide (a<b)))
  | .leq=>K (bl (decide (a<=b)))
  | .gtr=>K (bl (decide (b<a)))
  | .geq=>K (bl (decide (b<=a)))
  |_=>none
  else none
def qF(op:BinOp)(a b:ByteArray)(K:List SV->Option R):Option R:=
 match op with
 | .add=>bif decide (a.size+b.size<=9223372036854775807) then K [.aj .str (a++b) []] else none
 | .eql=>K (bl (decide (a=b)))
 | .neq=>K (bl (!decide (a=b)))
 | .lss=>K (bl (Op.bytesLess a.toList b.toList))
 | .leq=>K (bl (Op.bytesLess a.toList b.toList||decide (a=b)))
 | .gtr=>K (bl (!(Op.bytesLess a.toList b.toList||decide (a=b))))
 | .geq=>K (bl (!(Op.bytesLess a.toList b.toList)))
 |_=>none
def Ty.depth:Ty->Nat
 | .arr _ t=>t.depth+1
 | .pair a b=>max (a.depth+1) b.depth
 |_=>1
def qD(E:Env)(op:BinOp)(T:TypeId)(x y:SV)(K:List SV->Option R):Option R:=
 match E.ty T with
 |some t=>if Nat.ble t.depth 1000=false then none else x.el t fun a=>y.el t fun b=>match du t a b with
  |some r=>match op with
   | .eql=>K (bl r)
   | .neq=>K (bl (!r))
   |_=>none
  |none=>none
 |none=>none
def bin(E:Env)(op:BinOp)(T:TypeId)(x y:SV)(K:List SV->Option R):Option R:=
 match x,y with
 | .aj (.int k) a _,.aj (.int k') b _=>qE op k a k' b K
 | .aj .str a _,.aj .str b _=>qF op a b K
 | .ptr _ t _,.gW=>if(t.bM|| !E.pt T)=true then none else match op with
   | .eql=>K (bl false)
   | .neq=>K (bl true)
   |_=>none
 | .gW,.gW=>if E.pt T=false then none else match op with
   | .eql=>K (bl true)
   | .neq=>K (bl false)
   |_=>none
 |x,y=>qD E op T x y K
def ze(s:ByteArray)(i:Nat):Int:=if h:i<s.size then((s[i]'h).toNat:Int) else 0
def strOf(xs:List Int):ByteArray:=⟨(xs.map fun x=>UInt8.ofNat x.toNat).toArray⟩
def zd(i:Int)(n:Nat)(K:Option R):Option R:=bif decide (0<=i) then bif decide (i<(n:Int)) then K else none else none
def xT(lo:Option SV)(h:Nat)(K:Nat->Option R):Option R:=
 match lo with
 |none=>K 0
 |some v=>v.el (.int .i64) fun l=>bif decide (0<=l) then bif decide (l<=(h:Int)) then K l.toNat else none else none
def cutAt(lo hi:Option SV)(n:Nat)(K:Nat->Nat->Option R):Option R:=
 match hi with
 |none=>xT lo n fun l=>K l n
 |some v=>v.el (.int .i64) fun h=>bif decide (0<=h) then bif decide (h<=(n:Int)) then xT lo h.toNat (fun l=>K l h.toNat) else none else none
def Ty.kh:Ty->Nat->Bool
 | .arr n _,i=>Nat.ble (i+1) n
 |_,_=>true
def xM(own:List (List Nat))(p:List Nat):List (List Nat):=own.filter fun q=> !(p.isPrefixOf q)
def mZ(own:List (List Nat))(p:List Nat):Bool:=own.any fun q=>q==p
def Tt(own:List (List Nat))(p:List Nat):List (List Nat):=(own.filter fun q=>p.isPrefixOf q).map fun q=>q.drop p.length
def bump:List Nat->Option (List Nat)
 | []=>none
 |j::p=>some ((j+1)::p)
def xy:Ty->List (List Nat)
 | .sl _ _=>[[]]
 | .pair a b=>(xy a).map (fun p=>0::p)++(xy b).filterMap bump
 |_=>[]
def q9(t:Ty):El t->List (List Nat)->List (Nat×SV×List (List Nat))->(El t->List (List Nat)->Option R)->Option R
 |x,own,[],K=>K x own
 |x,own,(i,v,ov)::r,K=>if t.kh i=false then none else match t.at_ [i] with
  |some u=>v.el u fun y=>match El.set t [i] x u y with
   |some z=>q9 t z (ov.map (fun p=>i::p)++xM own [i]) r K
   |none=>none
  |none=>none
def xL(o:List (List Nat))(x:Operand):List (Nat×Nat):=
 match o with
 | []=>[]
 |_::_=>src x
def lN:State->List (Nat×Operand)->List (Nat×SV×List (List Nat))×List (Nat×Nat)
 |_,[]=>([],[])
 |s,(i,x)::r=>((i,s.aG x,(s.aG x).own)::(lN (s.close (xL (s.aG x).own x)) r).1,xL (s.aG x).own x++(lN (s.close (xL (s.aG x).own x)) r).2)
def Ba(t:Ty):List (El t)->List (Nat×SV)->(List (El t)->Option R)->Option R
 |xs,[],K=>K xs
 |xs,(i,v)::r,K=>if Nat.ble (i+1) xs.length=false then none else v.el t fun y=>Ba t (xs.set i y) r K
def zyn(ops:List Oper)(d:Option Nat):Bool:=
 match d with
 |some d=>ops.any fun o=>match o.op with
  | .call ⟨.builtin .append,args,_⟩=>match args.toList with
    | .tmp t::_=>Nat.beq t d
    |_=>false
  |_=>false
 |none=>false
def QT(ops:List Oper)(d:Option Nat):Bool:=
 match d with
 |some d=>ops.any fun o=>match o.op,o.dst with
  | .indexAddr _ (.tmp t) _,some a=>Nat.beq t d&&ops.any fun q=>match q.op with
    | .store _ (.tmp b) _=>Nat.beq a b
    |_=>false
  |_,_=>false
 |none=>false
def Ap(E:Env)(ops:List Oper)(d:Option Nat):Bool:=
 match d with
 |some d=>ops.any fun o=>match o.op with
  | .store _ (.tmp r) (.tmp t)=>Nat.beq t d&&E.outs.any (Nat.beq r)
  |_=>false
 |none=>false
def G6(u':Ty)(s:State)(id:Nat)(t:Ty)(p:List Nat)(K:Out->Option R):Option R:=
 match t,p with
 | .aZ .row a b,[i]=>match s.box id with
   |some B=>if h:B.t.cu (.aZ .row a b)=true then if u'.cu a=true then
     bif Nat.ble (i+1) (List.length (Ty.cast h B.x:List (El a))) then K {v:=[.aj a (List.getD (Ty.cast h B.x:List (El a)) i (El.bR a)) []]} else none
    else none else none
   |none=>none
 |_,_=>none
def Gv(u:Ty)(s:State)(id:Nat)(t:Ty)(p:List Nat)(v:SV)(K:Out->Option R):Option R:=
 match t,p with
 | .aZ .row a b,[i]=>match s.box id with
   |some B=>if h:B.t.cu (.aZ .row a b)=true then if a.cu u=true then
     v.el a fun y=>bif Nat.ble (i+1) (List.length (Ty.cast h B.x:List (El a))) then K {v:=[.skip],bx:=some (id,⟨.aZ .row a b,(List.set (Ty.cast h B.x:List (El a)) i y:List (El a)),[]⟩)} else none
    else none else none
   |none=>none
 |_,_=>none
def RG(t:Ty)(n:Int)(id:Nat)(r:Ty)(p:List Nat)(K:Out->Option R):Option R:=
 match r,p with
 | .aZ (.fR m) a b,[]=>if a.cu t=true then zd n m (K {v:=[.ptr id (.aZ .row a b) [n.toNat]]}) else none
 |_,_=>none
def IA(u':Ty)(B:bB)(t:Ty)(p:List Nat)(K:Out->Option R):Option R:=
 match t,p with
 | .arr n e,[]=>if h:B.t.cu (.aZ .row e .unit)=true then if u'.cu (.arr n e)=true then
    bif Nat.beq n (List.length (Ty.cast h B.x:List (El e))) then K {v:=[.aj (.arr n e) (Ty.cast h B.x:List (El e)) []]} else none
   else none else none
 |_,_=>none
def load(E:Env)(T:TypeId)(s:State)(la:Bool)(a:SV)(K:Out->Option R):Option R:=
 match E.ty T with
 |some u'=>match a with
  | .view t x=>if u'.cu t=true then K {v:=[.aj t x []]} else none
  | .ptr id t p=>if t.bM=true then G6 u' s id t p K else match s.box id with
    |some B=>if B.t.cu t=true then
      match El.get B.t p B.x with
      |some ⟨u,y⟩=>if u'.cu u=true then
        bif la then K {v:=[.aj u y (Tt B.own p)],bx:=some (id,{B with own:=xM B.own p})} else K {v:=[.aj u y []]}
       else none
      |none=>none
     else IA u' B t p K
    |none=>none
  |_=>none
 |none=>none
def store(E:Env)(T:TypeId)(s:State)(a:SV)(vo:Operand)(K:Out->Option R):Option R:=
 match E.ty T with
 |some u=>match a with
  | .ptr id t p=>if t.bM=true then Gv u s id t p (s.aG vo) K else match s.box id with
    |some B=>if B.t.cu t=true then
      match t.at_ p with
      |some u'=>if u'.cu u=true then
        (s.aG vo).el u fun y=>match El.set B.t p B.x u y with
        |some z=>K {v:=[.skip],bx:=some (id,{t:=B.t,x:=z,own:=(s.aG vo).own.map (fun q=>p++q)++xM B.own p}),cl:=src vo}
        |none=>none
       else none
      |none=>none
     else none
    |none=>none
  |_=>none
 |none=>none
def Ty.di:Ty->Bool
 | .pair .. =>true
 |_=>false
def Tl(t?:Option Ty)(a:SV)(j:Nat)(K:Out->Option R):Option R:=
 match t?,a with
 |some u,.ptr id t p=>if t.bM=true then none else match t.at_ p with
  |some u'=>if(u.cu u'&&u.di)=true then match u.at_ [j] with
    |some f=>if Nat.beq f.cells 0=true then none else K {v:=[.ptr id t (p++ [j])]}
    |none=>none
   else none
  |none=>none
 |some u,.view t x=>if(u.cu t&&u.di)=true then match El.get t [j] x with
   |some ⟨f,y⟩=>if Nat.beq f.cells 0=true then none else K {v:=[.view f y]}
   |none=>none
  else none
 |_,_=>none
def SV.num(s:SV)(K:Int->Option R):Option R:=
 match s with
 | .aj (.int _) n _=>K n
 |_=>none
def Tp(E:Env)(T:TypeId)(a i:SV)(K:Out->Option R):Option R:=
 i.num fun n=>match E.ty T,a with
  |some (.sl e t),.aj t' xs _=>(SV.aj t' xs []).el (.sl e t) fun ys=>zd n ys.length (K {v:=[.view t (List.getD ys n.toNat (El.bR t))]})
  |some (.arr m t),.ptr id r p=>if r.bM=true then none else match r.at_ p with
   |some u=>if u.cu (.arr m t)=true then zd n m (K {v:=[.ptr id r (p++ [n.toNat])]}) else none
   |none=>none
  |some (.arr m t),.view t' xs=>(SV.aj t' xs []).el (.arr m t) fun ys=>zd n m (K {v:=[.view t (List.getD ys n.toNat (El.bR t))]})
  |some (.sl _ t),.ptr id r p=>RG t n id r p K
  |_,_=>none
def Tq(E:Env)(T:TypeId)(a i:SV)(K:Out->Option R):Option R:=
 i.num fun n=>match E.ty T with
  |some .str=>a.el .str fun s=>zd n s.size (K {v:=[.aj (.int .u8) (ze s n.toNat) []]})
  |some (.arr m t)=>a.el (.arr m t) fun ys=>zd n m (K {v:=[.aj t (List.getD ys n.toNat (El.bR t)) []]})
  |_=>none
def qH(E:Env)(T:TypeId)(a:SV)(lo hi:Option SV)(K:Out->Option R):Option R:=
 match E.ty T with
 |some .str=>a.el .str fun s=>cutAt lo hi s.size fun l h=>K {v:=[.aj .str (s.extract l h) []]}
 |some (.sl e t)=>a.el (.sl e t) fun xs=>cutAt lo hi (List.length xs) fun l h=>K {v:=[.aj (.sl e t) ((List.take h xs).drop l) []]}
 |_=>none
def SF(E:Env)(T U:TypeId)(bo:Operand)(b x:SV)(K:Out->Option R):Option R:=
 if Nat.beq T U=false then none else
 match E.ty T with
 |some (.sl e t)=>if(Nat.beq (E.bytes e) 0||Nat.beq t.cells 0)=true then none else match b with
  | .cG=>x.el (.sl e t) fun ys=>bif decide (List.length ys*E.bytes e<=140737488355328) then K {v:=[.aj (.sl e t) ys [[]]]} else none
  | .aj t' xs o=>if mZ o []=false then none else(SV.aj t' xs o).el (.sl e t) fun xs=>x.el (.sl e t) fun ys=>
    bif decide ((List.length xs+List.length ys)*E.bytes e<=140737488355328) then K {v:=[.aj (.sl e t) (xs++ys:List (El t)) [[]]],cl:=src bo} else none
  |_=>none
 |_=>none
def tT(E:Env)(T:TypeId)(x:SV)(K:Out->Option R):Option R:=
 match E.ty T with
 |some .str=>x.el .str fun s=>K {v:=i64 (s.size:Int)}
 |some (.sl e t)=>match x with
  | .ptr _ (.aZ (.fR n) _ _) []=>K {v:=i64 (n:Int)}
  |x=>x.el (.sl e t) fun xs=>K {v:=i64 (List.length xs:Int)}
 |some (.arr n _)=>K {v:=i64 (n:Int)}
 |_=>none
def kD(E:Env)(S T:TypeId)(x:SV)(K:Out->Option R):Option R:=
 match E.ty S,E.ty T with
 |some (.int k),some (.int k')=>x.el (.int k) fun n=>K {v:=[.aj (.int k') (k'.wrap n) []]}
 |some .str,some .str=>x.el .str fun s=>K {v:=[.aj .str s []]}
 |some (.sl e (.int .u8)),some .str=>x.el (.sl e (.int .u8)) fun xs=>K {v:=[.aj .str (strOf xs) []]}
 |_,_=>none
def jD(E:Env)(S T:TypeId)(s:State)(id n:Nat)(a b:Ty)(K:Out->Option R):Option R:=
 match E.ty S,E.ty T with
 |some (.sl _ (.int .u8)),some .str=>if a.cu (.int .u8)=true then match s.box id with
  |some B=>if h:B.t.cu (.aZ .row (.int .u8) b)=true then bif Nat.beq n (List.length (Ty.cast h B.x:List Int)) then K {v:=[.aj .str (strOf (Ty.cast h B.x:List Int)) []]} else none else none
  |none=>none else none
 |_,_=>none
def mA(E:Env)(T:TypeId):Option (Ty×Ty):=
 match E.mp T with
 |some (k,e)=>match E.ty k,E.ty e with
  |some kt,some vt=>if kt.isKey=true then some (kt,vt) else none
  |_,_=>none
 |none=>none
def jS(s:State)(dst:Option Nat)(t:Ty)(x:El t)(p:Ty)(K:Out->Option R):Option R:=
 match dst with
 |some d=>match s.bs[d+1]? with
  |some none=>K {v:=[.ptr (d+1) p []],bx:=some (d+1,⟨t,x,[]⟩)}
  |_=>none
 |none=>none
def vk(s:State)(m:SV)(kt vt:Ty)(K:Nat->List (El kt×El vt)->Option R):Option R:=
 match m with
 | .ptr id (.aZ .mp kt' vt') []=>if((Ty.aZ .mp kt' vt').cu (.aZ .mp kt vt))=true then match s.box id with
   |some B=>if h:B.t.cu (.aZ .mp kt vt)=true then K id (Ty.cast h B.x) else none
   |none=>none else none
 |_=>none
def kH(E:Env)(T:TypeId)(s:State)(m i:SV)(K:Out->Option R):Option R:=
 match mA E T with
 |some (kt,vt)=>vk s m kt vt fun _ xs=>i.el kt fun k=>K {v:=[.aj vt (eF (fy kt) (El.bR vt) xs k) []]}
 |none=>none
def lz(E:Env)(T:TypeId)(s:State)(m i v:SV)(K:Out->Option R):Option R:=
 match mA E T with
 |some (kt,vt)=>vk s m kt vt fun id xs=>i.el kt fun k=>v.el vt fun y=>bif eG (fy kt) xs k then none else K {v:=[.skip],bx:=some (id,⟨.aZ .mp kt vt,(xs++ [(k,y)]:List (El kt×El vt)),[]⟩)}
 |none=>none
def jN:Ty:= .aZ .iter .unit .unit
def kJ(s:State)(m:SV)(K:Out->Option R):Option R:=
 match m with
 | .ptr id (.aZ .iter .unit .unit) []=>match s.box id with
   |some B=>if h:B.t.cu jN=true then
     bif decide ((Ty.cast h B.x:ByteArray×Nat).2<(Ty.cast h B.x:ByteArray×Nat).1.size) then
      K {v:=[.aj .bool true [],.aj (.int .i64) ((Ty.cast h B.x:ByteArray×Nat).2:Int) [],.aj (.int .i32) ((Utf8.decode (Ty.cast h B.x:ByteArray×Nat).1 (Ty.cast h B.x:ByteArray×Nat).2).1:Int) []],
         bx:=some (id,⟨jN,((Ty.cast h B.x:ByteArray×Nat).1,(Ty.cast h B.x:ByteArray×Nat).2+(Utf8.decode (Ty.cast h B.x:ByteArray×Nat).1 (Ty.cast h B.x:ByteArray×Nat).2).2),[]⟩)}
     else K {v:=[.over]}
    else none
   |none=>none
 |_=>none
def PZ:Operand->Bool
 | .const _=>true
 |_=>false
def kI(E:Env)(T:TypeId)(s:State)(dst:Option Nat)(lo:Operand)(l c:SV)(K:Out->Option R):Option R:=
 match E.ty T with
 |some (.sl e t)=>if(Nat.beq (E.bytes e) 0||Nat.beq t.cells 0)=true then none else l.el (.int .i64) fun n=>c.el (.int .i64) fun m=>
  bif PZ lo then
   bif decide (n=0) then bif decide (0<=m) then bif decide (m*E.bytes e<=140737488355328) then K {v:=[.aj (.sl e t) ([]:List (El t)) [[]]]} else none else none else none
  else bif decide (n=m) then bif decide (0<=n) then bif decide (n*E.bytes e<=140737488355328) then jS s dst (.aZ .row t .unit) (List.replicate n.toNat (El.bR t):List (El t)) (.aZ (.fR n.toNat) t .unit) K else none else none else none
 |_=>none
def Mi(op:UnOp)(x:SV)(K:Out->Option R):Option R:=
 match op,x with
 | .not,.aj .bool b _=>K {v:=bl (!b)}
 | .neg,.aj (.int k) n _=>K {v:=[.aj (.int k) (k.wrap (0-n)) []]}
 |_,_=>none
def l9(f:FuncId)(x:SV)(K:Out->Option R):Option R:=
 match x with
 | .ptr id u []=>if u.pX=true then none else K {v:=[.ptr id (.aZ (.ru f) u .unit) []]}
 |_=>none
def te(n id:Nat)(a b:Ty)(lo hi:Option SV)(K:Out->Option R):Option R:=
 match hi with
 |some _=>none
 |none=>xT lo n fun l=>K {v:=[.ptr id (.aZ (.fR n) a b) [l]]}
def qG(E:Env)(T:TypeId)(s:State)(id n:Nat)(t:Ty)(lo hi:Option SV)(K:Out->Option R):Option R:=
 match E.ty T,lo,hi with
 |some u,none,none=>if u.cu (.arr n t)=true then match s.box id with
  |some B=>if h:B.t.cu (.arr n t)=true then K {v:=[.ptr id (.aZ (.fR n) t .unit) []],bx:=some (id,⟨.aZ .row t .unit,(Ty.cast h B.x:List (El t)),[]⟩)} else none
  |none=>none else none
 |_,_,_=>none
def mY(s:ByteArray):List Int:=s.data.toList.map fun c=>(c.toNat:Int)
def bJ{α:Type}(xs ys:List α)(lo:Nat):List α:=xs.take lo++(ys++xs.drop (lo+ys.length))
def gL(t:Ty)(s:State)(id n lo:Nat)(a b:Ty)(x:SV)(e:TypeId)(K:Out->Option R):Option R:=
 if a.cu t=true then x.el (.sl e t) fun(ys:List (El t))=>match s.box id with
  |some B=>if h:B.t.cu (.aZ .row t b)=true then
    bif Nat.beq n (List.length (Ty.cast h B.x:List (El t))) then bif Nat.ble lo n then
     K {v:=i64 ((ys.take (n-lo)).length:Int),bx:=some (id,⟨.aZ .row t b,(bJ (Ty.cast h B.x:List (El t)) (ys.take (n-lo)) lo:List (El t)),[]⟩)}
    else none else none
   else none
  |none=>none else none
def jE(t:Ty)(s:State)(id n:Nat)(a b:Ty)(y:ByteArray)(K:Out->Option R):Option R:=
 if t.cu (.int .u8)=true then if a.cu (.int .u8)=true then match s.box id with
  |some B=>if h:B.t.cu (.aZ .row (.int .u8) b)=true then
    bif Nat.beq n (List.length (Ty.cast h B.x:List Int)) then
     K {v:=i64 ((List.take n (mY y)).length:Int),bx:=some (id,⟨.aZ .row (.int .u8) b,(bJ (Ty.cast h B.x:List Int) (List.take n (mY y)) 0:List Int),[]⟩)}
    else none
   else none
  |none=>none else none else none
def copyV(E:Env)(T:TypeId)(s:State)(d x:SV)(K:Out->Option R):Option R:=
 match E.ty T,d with
 |some (.sl e t),.ptr id (.aZ (.fR n) a b) []=>(match x with
  | .aj .str y _=>jE t s id n a b y K
  |x=>gL t s id n 0 a b x e K)
 |some (.sl e t),.ptr id (.aZ (.fR n) a b) [l]=>gL t s id n l a b x e K
 |_,_=>none
def LZ(t b:Ty):Bool:=
 b.cu t||(match t with
  | .aZ (.ru _) u _=>b.cu u
  |_=>false)
def mR(s:State):List SV->Option (List SV×Option (Nat×bB))
 | []=>some ([],none)
 |v::r=>match mR s r with
  |none=>none
  |some (l,b)=>match v,b with
   | .aj t x _,b=>some (.aj t x []::l,b)
   | .cG,b=>some (.cG::l,b)
   | .view t x,b=>some (.view t x::l,b)
   | .ptr id t [],none=>match s.box id with
     |some B=>if LZ t B.t=true then some (.ptr 0 t []::l,some (id,B)) else none
     |none=>none
   |_,_=>none
def SV.gY(id:Nat):SV->SV
 | .ptr _ t p=> .ptr id t p
 |v=>v
def fp(C:FuncId->bO R)(s:State)(dst:Option Nat)(f:FuncId)(vs:List SV)(K:Out->Option R):Option R:=
 match mR s vs with
 |some (l,none)=>C f l none fun r B=>match B with
  |none=>K {v:=r}
  |some B=>match dst with
   |some d=>match s.bs[d+1]? with
    |some none=>K {v:=r.map (SV.gY (d+1)),bx:=some (d+1,B)}
    |_=>none
   |none=>none
 |some (l,some (id,B))=>C f l (some B) fun r B'=>match B' with
  |some B'=>if B'.t.cu B.t=true then K {v:=r,bx:=some (id,B')} else none
  |none=>none
 |none=>none
def jR(g:Bool)(x y:SV)(K:Out->Option R):Option R:=
 match x,y with
 | .aj (.int k) m _,.aj (.int _) n _=>K {v:=[.aj (.int k) (bif g then(if m<n then n else m) else(if n<m then n else m)) []]}
 |_,_=>none
def nM(E:Env)(T:TypeId)(K:Out->Option R):Option R:=
 match E.ty T with
 |some (.sl e t)=>K {v:=[.aj (.sl e t) ([]:List (El t)) [[]]]}
 |_=>K {v:=[.cG]}
def mH(s:State):Operand->Option (Nat×List SV)
 | .tmp t=>bif Nat.beq (s.slot t).length 1 then none else some (t,s.slot t)
 |_=>none
def jX(t:Nat):Nat->List (Nat×Nat)
 |0=>[]
 |n+1=>(t,n)::jX t n
def eY(E:Env)(d:Option Nat):Bool:=
 match d with
 |some d=>E.sh.any (Nat.beq d)
 |none=>false
def takes(E:Env)(d:Option Nat):Bool:=
 match d with
 |some d=>E.mv.any (Nat.beq d)
 |none=>false
def Out.shut(u:Out):Out:={u with v:=u.v.map SV.shut}
def td(f:FuncId)(x y:SV)(K:Out->Option R):Option R:=
 match x,y with
 | .view t a,.view u b=>K {v:=[.cap f t a u b]}
 |_,_=>none
def act(E:Env)(C:FuncId->bO R)(ops:List Oper)(o:Oper)(s:State)(K:Out->Option R):Option R:=
 match o.op with
 | .move x=>match mH s x with
   |some (t,l)=>bif eY E o.dst then K {v:=l.map SV.shut} else K {v:=l,cl:=bif l.all fun v=>v.own.isEmpty then [] else jX t l.length}
   |none=>match s.aG x with
    | .aj t y w=>bif zyn ops o.dst||takes E o.dst then K {v:=[.aj t y w],cl:=xL w x} else K {v:=[.aj t y []]}
    | .undef=>none
    | .cG=>nM E o.type K
    |v=>K {v:=[v]}
 | .assign x=>match s.aG x with
   | .aj t y w=>K {v:=[.aj t y w],cl:=xL w x}
   | .undef=>none
   | .cG=>nM E o.type K
   |v=>K {v:=[v]}
 | .pick c a b=>match s.aG c with
   | .aj .bool p _=>bif p then K {v:=[(s.aG a).shut]} else K {v:=[(s.aG b).shut]}
   |_=>none
 | .binOp op T x y _=>bin E op T (s.aG x) (s.aG y) fun v=>K {v}
 | .unOp op _ x=>Mi op (s.aG x) K
 | .convert S T x=>match s.aG x with
   | .ptr id (.aZ (.fR n) a b) []=>jD E S T s id n a b K
   |v=>kD E S T v K
 | .load T a=>load E T s (zyn ops o.dst||Ap E ops o.dst||QT ops o.dst) (s.aG a) K
 | .store T a x=>store E T s (s.aG a) x K
 | .nilCheck x=>match s.aG x with
   | .ptr id t p=>if t.bM=true then none else K {v:=[.ptr id t p]}
   | .view t y=>K {v:=[.view t y]}
   |_=>none
 | .fieldAddr T x j=>Tl (E.ty T) (s.aG x) j K
 | .indexAddr T x i=>Tp E T (s.aG x) (s.aG i) K
 | .index T x i=>Tq E T (s.aG x) (s.aG i) K
 | .field T x j=>match E.ty T with
   |some t=>if t.di=false then none else(s.aG x).el t fun y=>match El.get t [j] y with
    |some ⟨u,z⟩=>K {v:=[.aj u z []]}
    |none=>none
   |none=>none
 | .slice T x lo hi none=>match s.aG x with
   | .ptr id (.aZ (.fR n) a b) []=>(match E.ty T with
     |some (.sl _ t)=>if a.cu t=true then te n id a b (lo.map s.aG) (hi.map s.aG) K else none
     |_=>none)
   | .ptr id (.arr n t) []=>qG E T s id n t (lo.map s.aG) (hi.map s.aG) K
   |v=>qH E T v (lo.map s.aG) (hi.map s.aG) K
 | .makeFunc (.func f) first captured=>match first.toList,captured.toList with
   | [],[x]=>l9 f (s.aG x) K
   | [],[x,y]=>td f (s.aG x) (s.aG y) K
   |_,_=>none
 | .alloc T=>match E.ty T,o.dst with
   |some t,some d=>match s.bs[d+1]? with
    |some none=>K {v:=[.ptr (d+1) t []],bx:=some (d+1,⟨t,El.bR t,xy t⟩)}
    |_=>none
   |none,some d=>(match E.bl T with
    |some e=>match s.bs[d+1]? with
     |some none=>K {v:=[.ptr (d+1) (.aZ (.fQ T e) .unit .unit) []],bx:=some (d+1,⟨.aZ (.fQ T e) .unit .unit,(⟨#[]⟩:ByteArray),[[]]⟩)}
     |_=>none
    |none=>none)
   |_,_=>none
 | .box T x=>match E.ty T,o.dst with
   |some t,some d=>match s.bs[d+1]? with
    |some none=>(s.aG x).el t fun y=>K {v:=[.ptr (d+1) t []],bx:=some (d+1,⟨t,y,(s.aG x).own⟩),cl:=src x}
    |_=>none
   |_,_=>none
 | .build T parts=>match E.ty T with
   |some t=>if t.agg=false then none else q9 t (El.bR t) (xy t) (lN s parts.toList).1 fun y own=>K {v:=[.aj t y own],cl:=(lN s parts.toList).2}
   |none=>none
 | .buildSlice T n parts=>match E.ty T with
   |some (.sl e t)=>if Nat.beq t.cells 0=true then none else bif Nat.ble (n*t.cells) 16777216 then Ba t (List.replicate n (El.bR t)) (parts.toList.map fun p=>(p.1,s.aG p.2)) fun y=>K {v:=[.aj (.sl e t) y [[]]]} else none
   |_=>none
 | .extract x j=>match x with
   | .tmp t=>if Nat.beq (s.slot t).length 1=true then(match one (s.slot t),j with
      | .over,0=>K {v:=bl false}
      |_,_=>none) else match(s.slot t)[j]? with
     |some (.aj u y w)=>K {v:=[.aj u y w],cl:=bif w.isEmpty then [] else [(t,j)]}
     |some .undef=>none
     |some v=>K {v:=[v]}
     |none=>none
   |_=>none
 | .makeMap T none=>match mA E T with
   |some (kt,vt)=>jS s o.dst (.aZ .mp kt vt) ([]:List (El kt×El vt)) (.aZ .mp kt vt) K
   |none=>none
 | .lookup T x i false=>kH E T s (s.aG x) (s.aG i) K
 | .mapUpdate T m k x=>lz E T s (s.aG m) (s.aG k) (s.aG x) K
 | .insert T m k x=>lz E T s (s.aG m) (s.aG k) (s.aG x) K
 | .range T x=>match E.ty T with
   |some .str=>(s.aG x).el .str fun y=>jS s o.dst jN ((y,0):ByteArray×Nat) jN K
   |_=>none
 | .next x true=>kJ s (s.aG x) K
 | .makeSlice T l c=>kI E T s o.dst l (s.aG l) (s.aG c) K
 | .call ⟨.value (.func f),args,_⟩=>fp C s o.dst f (args.toList.map s.aG) fun u=>K (bif eY E o.dst then u.shut else u)
 | .call ⟨.value (.tmp y),args,_⟩=>match s.aG (.tmp y) with
   | .ptr id (.aZ (.ru f) u _) []=>if u.pX=true then none else fp C s o.dst f (args.toList.map s.aG++ [.ptr id u []]) K
   | .cap f t x u y=>fp C s o.dst f (args.toList.map s.aG++ [.view t x,.view u y]) K
   |_=>none
 | .call ⟨.builtin .copy,args,argTypes⟩=>match args.toList,argTypes.toList with
   | [d,x],T::_=>copyV E T s (s.aG d) (s.aG x) K
   |_,_=>none
 | .call ⟨.builtin .len,args,argTypes⟩=>match args.toList,argTypes.toList with
   | [x],[T]=>tT E T (s.aG x) K
   |_,_=>none
 | .call ⟨.builtin .append,args,argTypes⟩=>match args.toList,argTypes.toList with
   | [b,x],[T,U]=>SF E T U b (s.aG b) (s.aG x) K
   |_,_=>none
 | .call ⟨.builtin .max,args,_⟩=>match args.toList with
   | [x,y]=>jR true (s.aG x) (s.aG y) K
   |_=>none
 | .call ⟨.builtin .min,args,_⟩=>match args.toList with
   | [x,y]=>jR false (s.aG x) (s.aG y) K
   |_=>none
 |_=>none
def SI(ops:List Oper)(g:Nat):Option Nat:=(ops[g]?).bind (·.dst)
def step(E:Env)(C:FuncId->bO R)(ops:List Oper)(o:Oper)(s:State)(K:State->Option R):Option R:=
 let go (s:State):Option R:=act E C ops o s fun u=>K (s.apply o.dst u)
 let pass (s:State):Option R:=K (s.aQ o.dst [.skip])
 match o.guard with
 |none=>go s
 |some (g,want)=>match SI ops g with
  |none=>none
  |some d=>match s.slot d with
   | [.aj .bool p []]=>bif p then(let s:=s.aQ (some d) (bl true);bif want then go s else pass s) else(let s:=s.aQ (some d) (bl false);bif want then pass s else go s)
   | [.skip]=>pass s
   |_=>none
def steps(E:Env)(C:FuncId->bO R)(ops:List Oper):List Oper->State->(State->Option R)->Option R
 | [],s,K=>K s
 |o::r,s,K=>step E C ops o s fun s=>steps E C ops r s K
structure dL where
 i:Nat
 r:Nat
 w:Nat
 br:Nat
 bw:Nat
def bit(i:Nat):Nat:=1<<<i
def iE:List Nat->Nat
 | []=>0
 |i::r=>bit i|||iE r
def rh:List Operand->List Nat
 | []=>[]
 | .tmp t::r=>t::rh r
 |_::r=>rh r
def looks(ops:List Oper)(o:Oper):List Nat:=rh o.op.operands.toList++(match o.guard with
 |some (g,_)=>(SI ops g).toList
 |none=>[])
def b8:SV->List Nat
 | .ptr id _ _=>[id]
 |_=>[]
def zz(s:State)(o:Oper):List Nat:=
 match o.op with
 | .load _ a=>b8 (s.aG a)
 | .store _ a _=>b8 (s.aG a)
 | .alloc _| .box _ _| .makeMap _ _| .range _ _| .makeSlice _ _ _=>o.dst.toList.map fun d=>d+1
 | .convert _ _ x=>b8 (s.aG x)
 | .slice _ x _ _ _=>b8 (s.aG x)
 | .lookup _ x _ _=>b8 (s.aG x)
 | .mapUpdate _ m _ _=>b8 (s.aG m)
 | .insert _ m _ _=>b8 (s.aG m)
 | .next x _=>b8 (s.aG x)
 | .call ⟨.value y,args,_⟩=>(args.toList.flatMap fun x=>b8 (s.aG x))++(b8 (s.aG y)++o.dst.toList.map fun d=>d+1)
 | .call ⟨.builtin .copy,args,_⟩=>args.toList.flatMap fun x=>b8 (s.aG x)
 |_=>[]
def fO(ops:List Oper)(o:Oper)(i:Nat)(s:State)(u:Out):dL:=
 ⟨i,iE (looks ops o),iE (o.dst.toList++u.cl.map (·.1)),iE (zz s o),iE (u.bx.toList.map (·.1))⟩
def dL.apart(a b:dL):Bool:=
 Nat.beq (a.w&&&(b.r|||b.w)) 0&&(Nat.beq (b.w&&&a.r) 0&&(Nat.beq (a.bw&&&(b.br|||b.bw)) 0&&Nat.beq (b.bw&&&a.br) 0))
def lD:List Edge->Nat
 | []=>0
 |e::r=>bif Region.binds .any e then bit e.on|||lD r else lD r
def fits(m:Nat)(f:dL)(tr:List dL):Bool:=Nat.ble (m+1) (bit f.i)&&tr.all fun a=>m.testBit a.i||a.apart f
def kM(E:Env)(C:FuncId->bO R)(ops:List Oper)(o:Oper)(i:Nat)(s:State)(tr:List dL)(K:State->List dL->Option R):Option R:=
 let go (s:State):Option R:=act E C ops o s fun u=>bif fits (lD o.after.toList) (fO ops o i s u) tr then K (s.apply o.dst u) (fO ops o i s u::tr) else none
 let pass (s:State):Option R:=bif fits (lD o.after.toList) (fO ops o i s {v:=[.skip]}) tr then K (s.apply o.dst {v:=[.skip]}) (fO ops o i s {v:=[.skip]}::tr) else none
 match o.guard with
 |none=>go s
 |some (g,want)=>match SI ops g with
  |none=>none
  |some d=>match s.slot d with
   | [.aj .bool p []]=>bif p then(let s:=s.aQ (some d) (bl true);bif want then go s else pass s) else(let s:=s.aQ (some d) (bl false);bif want then pass s else go s)
   | [.skip]=>pass s
   |_=>none
def Bd(E:Env)(C:FuncId->bO R)(ops:List Oper):List Oper->Nat->State->List dL->(State->Option R)->Option R
 | [],_,s,_,K=>K s
 |o::r,i,s,tr,K=>kM E C ops o i s tr fun s tr=>Bd E C ops r (i+1) s tr K
inductive Ex where
 |normal
 |exit (id:Nat)
 |ret
def uq:Code->Nat
 | .region id _ _=>id
 | .seq a _=>uq a
 | .cond _ a _=>uq a
 | .block _ b=>uq b
 | .loop b=>uq b
 |_=>0
def fE{α:Type}(z:α)(l:List Nat):Nat->List α->List α
 |_,[]=>[]
 |i,x::r=>(bif l.any (Nat.beq i) then x else z)::fE z l (i+1) r
def SV.roots(l:List Nat):SV->Bool
 | .ptr 0 _ _=>true
 | .ptr (id+1) _ _=>l.any (Nat.beq id)
 |_=>true
def ltL:List Nat->List Nat->Bool
 | [],[]=>false
 | [],_::_=>true
 |_::_,[]=>false
 |a::p,b::q=>Nat.ble (a+1) b||(Nat.beq a b&&ltL p q)
def tP(p:List Nat):List (List Nat)->List (List Nat)
 | []=>[p]
 |q::r=>bif ltL q p then q::tP p r else p::q::r
def pY:List (List Nat)->List (List Nat)
 | []=>[]
 |p::r=>tP p (pY r)
def SV.norm:SV->SV
 | .aj t x own=> .aj t x (pY own)
 |v=>v
def bB.norm(B:bB):bB:={B with own:=pY B.own}
def State.norm(s:State):State:=⟨s.sl.map fun v=>v.map SV.norm,s.bs.map fun b=>b.map bB.norm⟩
def re(l:List Nat)(s:State)(K:State->Option R):Option R:=
 let sl:=fE [.undef] l 0 s.sl
 bif sl.all (fun v=>v.all (SV.roots l)) then K (State.norm ⟨sl,s.bs.headD none::fE none l 0 s.bs.tail⟩) else none
def aY(k:Nat)(f:Unit->Option R):Option R:=
 match k with
 |0=>none
 |_+1=>f ()
def mB(E:Env)(k r:Nat)(s:State)(K:State->Option R):Option R:=
 match E.join r with
 |none=>K s
 |some l=>re l s fun s=>aY k fun _=>K s
def wH(id:Nat)(l:List SV):List SV:=l.map fun v=>match v with
 | .ptr j _ _=>bif Nat.beq j id then .undef else v
 |v=>v
def qT(E:Env)(r:Nat)(s:State)(K:State->Option R):Option R:=
 match E.fz r with
 |none=>K s
 |some (d,T)=>match s.slot d,E.ty T with
  | [.ptr id (.aZ (.fR n) a b) []],some (.sl e t)=>if a.cu t=true then match s.box id with
    |some B=>if h:B.t.cu (.aZ .row t b)=true then
      bif Nat.beq n (List.length (Ty.cast h B.x:List (El t))) then K {sl:=(s.sl.map (wH id)).set d [.aj (.sl e t) (Ty.cast h B.x:List (El t)) []],bs:=s.bs.set id none} else none
     else none
    |none=>none else none
  |_,_=>none
def xX(id:Nat)(B:bB)(v:SV):SV:=
 match v with
 | .ptr j t p=>bif Nat.beq j id then(if t.cu B.t=true then match El.get B.t p B.x with
    |some ⟨u,y⟩=> .view u y
    |none=> .undef else .undef) else .ptr j t p
 |v=>v
def Yd(id:Nat)(s:State)(K:State->Option R):Option R:=
 match s.box id with
 |some B=>if B.t.bM=true then none else K {sl:=s.sl.map fun l=>l.map (xX id B),bs:=s.bs.set id none}
 |none=>none
def Iy:List Nat->State->(State->Option R)->Option R
 | [],s,K=>K s
 |id::r,s,K=>Yd id s fun s=>Iy r s K
def iz(l:List Nat):Nat->List (Option bB)->List (Option bB)
 |_,[]=>[]
 |i,b::r=>(bif l.any (Nat.beq i) then b.map (fun B=>{B with own:=[]}) else b)::iz l (i+1) r
def State.drop(l:List Nat)(s:State):State:={s with bs:=iz l 0 s.bs}
def aw(body:State->(Ex->State->Option R)->Option R)(l lx:List Nat):Nat->State->(Ex->State->Option R)->Option R
 |0,_,_=>none
 |k+1,s,K=>body s fun e s=>match e with
  | .normal=>re l s fun s=>aw body l lx k s K
  |e=>re lx s fun s=>K e s
def Ty.flat:Ty->Bool
 | .sl _ _=>false
 | .aZ _ _ _=>false
 | .arr _ t=>t.flat
 | .pair a b=>a.flat&&b.flat
 |_=>true
def SV.flat:SV->Bool
 | .aj t _ own=>t.flat&&own.isEmpty
 | .ptr _ _ _| .view _ _| .cap _ _ _ _ _=>false
 |_=>true
def kE(o:Nat):Nat->List (List SV)->Bool
 |_,[]=>true
 |i,l::r=>(Nat.beq i o||l.all SV.flat)&&kE o (i+1) r
def jP:Nat->Nat->List (List SV)->List (List SV)
 |0,_,sl=>sl
 |n+1,m,sl=>jP n (m+1) (sl.set m [.undef])
def isDst(o:Oper)(d:Nat):Bool:=
 match o.dst,o.guard with
 |some d',none=>Nat.beq d' d
 |_,_=>false
def eX(x:Operand)(i:Nat):Bool:=
 match x with
 | .tmp j=>Nat.beq j i
 |_=>false
def wY(E:Env)(T:TypeId):Bool:=
 match E.ty T with
 |some (.int .u8)=>true
 |_=>false
def Yf(E:Env)(T:TypeId):Bool:=
 match E.ty T with
 |some (.sl _ (.int .u8))=>true
 |_=>false
def Hu(o:Oper)(d x:Nat):Bool:=isDst o d&&(match o.op with
 | .move y=>eX y x
 |_=>false)
def isLen(E:Env)(o:Oper)(d x:Nat):Bool:=isDst o d&&(match o.op with
 | .call ⟨.builtin .len,er,ts⟩=>match er.toList,ts.toList with
   | [y],[T]=>eX y x&&Yf E T
   |_,_=>false
 |_=>false)
def zyp(o:Oper)(d x:Nat):Bool:=isDst o d&&(match o.op with
 | .binOp .sub _ y (.const (.int .i64 c)) _=>eX y x&&decide (c=1)
 |_=>false)
def wX(E:Env)(o:Oper)(d x i:Nat):Bool:=isDst o d&&(match o.op with
 | .indexAddr T y j=>eX y x&&(eX j i&&Yf E T)
 |_=>false)
def Gd(E:Env)(o:Oper)(d x:Nat):Bool:=isDst o d&&(match o.op with
 | .load T y=>eX y x&&wY E T
 |_=>false)
def tR(o:Oper)(d x y:Nat):Bool:=isDst o d&&(match o.op with
 | .binOp .add _ u v _=>eX u x&&eX v y
 |_=>false)
def tQ(E:Env)(o:Oper)(x y:Nat):Bool:=(match o.dst,o.guard with
 |none,none=>true
 |_,_=>false)&&(match o.op with
 | .store T u v=>eX u x&&(eX v y&&wY E T)
 |_=>false)
def Gi(E:Env)(o x m:Nat)(ops:List Oper):Bool:=
 match ops with
 | [a0,a1,a2,a3,a4,a5,a6,a7,a8,a9,Bw,Bz,a12,K0]=>Hu a0 m o&&(Hu a1 (m+1) o&&(isLen E a2 (m+2) (m+1)&&(zyp a3 (m+3) (m+2)&&(Hu a4 (m+4) o&&(Hu a5 (m+5) o&&(isLen E a6 (m+6) (m+5)&&(zyp a7 (m+7) (m+6)&&(wX E a8 (m+8) (m+4) (m+7)&&(Gd E a9 (m+9) (m+8)&&(Hu Bw (m+10) x&&(tR Bz (m+11) (m+9) (m+10)&&(wX E a12 (m+12) m (m+3)&&tQ E K0 (m+12) (m+11)))))))))))))
 |_=>false
def AG(e:TypeId)(xs:List Int)(y:Int)(own:List (List Nat)):List SV:=[.aj (.sl e (.int .u8)) (xs.set (IntKind.i64.wrap ((xs.length:Int)-1)).toNat (IntKind.u8.wrap (xs.getD (IntKind.i64.wrap ((xs.length:Int)-1)).toNat 0+y)):List Int) own]
def kN(E:Env)(q:Nat×Nat×Nat)(ops:List Oper)(s:State)(K:State->Option R):Option R:=
 bif Gi E q.1 q.2.1 q.2.2 ops then
  bif Nat.ble (q.1+1) q.2.2&&(Nat.ble (q.2.1+1) q.2.2&&(!(Nat.beq q.1 q.2.1)&&Nat.ble (q.2.2+13) s.sl.length)) then
   match s.slot q.1,s.slot q.2.1 with
   | [.aj (.sl e (.int .u8)) xs own],[.aj (.int .u8) y _]=>
     bif mZ own [] then
      bif kE q.1 0 (jP 13 q.2.2 s.sl)&&s.bs.all Option.isNone then
       zd (IntKind.i64.wrap ((List.length (xs:List Int):Int)-1)) (List.length (xs:List Int)) (K ⟨(jP 13 q.2.2 s.sl).set q.1 (AG e xs y own),s.bs⟩)
      else none
     else none
   |_,_=>none
  else none
 else none
def wI(own:List (List Nat)):List (List Nat):=own.filterMap fun p=>match p with
 |(j+1)::p=>some (j::p)
 |_=>none
def Ty.cE:Ty->List (List Nat)->Bool
 | .sl _ t,own=>t.flat&&mZ own []
 | .pair a b,own=>a.cE (Tt own [0])&&b.cE (wI own)
 | .aZ _ _ _,_=>false
 | .arr _ t,_=>t.flat
 |_,_=>true
def bB.cE(B:bB):Bool:= !B.t.bM&&B.t.cE B.own
def SV.cE(bs:List (Option bB)):SV->Bool
 | .aj t _ own=>t.cE own
 | .view _ _| .cap _ _ _ _ _=>false
 | .ptr id _ _=>match bs.getD id none with
   |some B=>B.cE
   |none=>false
 |_=>true
def hold(bs:List (Option bB))(l:List SV):List SV:=bif l.all (SV.cE bs) then l else [.undef]
def zz5:Option bB->Option bB
 |some B=>bif B.cE then some B else none
 |none=>none
def State.cE(x:Nat)(s:State):State:=⟨(s.sl.set x [.undef]).map (hold s.bs),s.bs.map zz5⟩
def tY(E:Env)(x d:Nat)(T T':TypeId)(i vo:Operand)(s:State)(K:State->Option R):Option R:=
 match s.slot x with
 | [.aj (.sl e t) xs own]=>bif mZ own [] then
     match E.ty T,E.ty T' with
     |some u,some w=>bif u.cu (.sl e t)&&(w.cu t&&Nat.ble (d+1) s.sl.length) then
       (s.aG i).num fun n=>((s.aQ (some d) [.undef]).aG vo).el t fun _=>zd n (List.length (xs:List (El t))) (K ((s.aQ (some d) [.undef]).cE x))
      else none
     |_,_=>none
   else none
 |_=>none
def tV(o:Oper):Bool:=
 match o.dst,o.guard with
 |none,none=>true
 |_,_=>false
def iI(E:Env)(oA oS:Oper)(s:State)(K:State->Option R):Option R:=
 match oA.op,oS.op with
 | .indexAddr T (.tmp x) i,.store T' (.tmp d) vo=>bif isDst oA d&&(!(Nat.beq x d)&&tV oS) then tY E x d T T' i vo s K else none
 |_,_=>none
def Yg{α:Type}:List α->Option (List α×α×α)
 | []=>none
 | [_]=>none
 | [a,b]=>some ([],a,b)
 |a::r=>match Yg r with
  |some (l,x,y)=>some (a::l,x,y)
  |none=>none
def kL(E:Env)(C:FuncId->bO R)(ops:List Oper)(s:State)(K:State->Option R):Option R:=
 match Yg ops with
 |some (l,oA,oS)=>steps E C ops l s fun s=>iI E oA oS s K
 |none=>none
def IB(E:Env)(C:FuncId->bO R)(i:Nat)(ops:Array Oper)(d:Bool)(s:State)(K:State->Option R):Option R:=
 qT E i s fun s=>Iy (E.fr i) s fun s=>bif d then Bd E C ops.toList ops.toList 0 s [] K else steps E C ops.toList ops.toList s K
def ev(E:Env)(C:FuncId->bO R)(k:Nat):Code->State->(Ex->State->Option R)->Option R
 | .skip,s,K=>K .normal s
 | .region i ops d,s,K=>match E.sp with
   |some (j,q)=>bif Nat.beq i j then(match d with
    |true=>none
    |false=>bif Nat.beq q.2.2 0 then kL E C ops.toList s (K .normal) else kN E q ops.toList s (K .normal)) else IB E C i ops d s (K .normal)
   |none=>IB E C i ops d s (K .normal)
 | .seq a b,s,K=>ev E C k a s fun e s=>match e with
   | .normal=>mB E k (uq b) s fun s=>ev E C k b s K
   |e=>K e s
 | .cond c a b,s,K=>match s.aG c with
   | .aj .bool p _=>bif p then ev E C k a (s.aQ (uf c) (bl true)) K else ev E C k b (s.aQ (uf c) (bl false)) K
   |_=>none
 | .block id b,s,K=>ev E C k b s fun e s=>match e with
   | .exit j=>bif Nat.beq j id then K .normal s else K (.exit j) s
   |e=>K e s
 | .loop b,s,K=>re (E.dB (uq b)) (s.drop (E.dr (uq b))) fun s=>aw (ev E C k b) (E.dB (uq b)) (E.kG (uq b)) k s K
 | .exit id,s,K=>K (.exit id) s
 | .ret,s,K=>K .ret s
 |_,_,_=>none
def fW(E:Env):State->List ResultVar->Option (List SV×State)
 |s,[]=>some ([],s)
 |s,.tmp t::r=>match fW E (s.close [(t,0)]) r with
  |some (l,s')=>some (one (s.slot t)::l,s')
  |none=>none
 |s,.cell p T::r=>match s.slot p,E.ty T with
  | [.ptr id u []],some t=>match s.box id with
    |some B=>if(t.cu B.t&& !u.bM)=true then match fW E (s.aL (some (id,{B with own:=[]}))) r with
      |some (l,s')=>some (.aj B.t B.x B.own::l,s')
      |none=>none
     else none
    |none=>none
  |_,_=>none
def Bc:List SV->List Nat
 | []=>[]
 | .ptr id _ _::r=>id::Bc r
 |_::r=>Bc r
def I5(s:State)(bx:Option bB)(l:List SV)(K:List SV->Option bB->Option R):Option R:=
 match bx,Bc l with
 |some _,[]=>match s.box 0 with
  |some B=>K l (some B)
  |none=>none
 |none,[]=>K l none
 |none,[id]=>match s.box id with
  |some B=>K (l.map (SV.gY 0)) (some B)
  |none=>none
 |_,_=>none
def iG(E:Env)(l:List SV):List SV:=bif E.ro then l.map SV.shut else l
def aS:List Ty->List SV->List SV
 | .sl e t::r,.cG::q=> .aj (.sl e t) ([]:List (El t)) []::aS r q
 |_::r,v::q=>v.shut::aS r q
 | [],q=>q
 |_,[]=>[]
def iW(E:Env)(C:FuncId->bO R)(k:Nat)(fn:Func)(code:Code)(vs:List SV)(bx:Option bB)(K:List SV->Option bB->Option R):Option R:=
 bif E.sp.isSome&&bx.isSome then none else
 let n:=fn.ntmps-vs.length
 let s:State:=⟨(aS E.ps vs).map (fun v=>[v])++List.replicate n [.undef],bx::List.replicate (vs.length+n) none⟩
 ev E C k code s fun e s=>match e with
  | .exit _=>none
  |_=>match fW E s fn.results.toList with
   |some (l,s')=>I5 s' bx (iG E l) K
   |none=>none
end
end Go.Ref

namespace Go.Ref
open Go
theorem zv{R S:Type}{sv:SV}{t:Ty}{F:El t->Option R}{G:El t->Option S}{K:S->Option R}(h:∀y,F y=(G y).bind K):sv.el t F=(sv.el t G).bind K:=by
 cases sv with
 |aj t' x own=>
  simp only[SV.el]
  split
  ·exact h _
  ·rfl
 |cG=>cases t<;>simp only[SV.el]<;>first|rfl|exact h _
 |_=>rfl
theorem zm{R S:Type}{b:Bool}{x y:Option R}{x' y':Option S}{K:S->Option R}(h:x=x'.bind K)(k:y=y'.bind K):(bif b then x else y)=(bif b then x' else y').bind K:=by
 cases b
 ·exact k
 ·exact h
theorem zr{R S:Type}{c:Prop}[Decidable c]{x y:Option R}{x' y':Option S}{K:S->Option R}(h:x=x'.bind K)(k:y=y'.bind K):(if c then x else y)=(if c then x' else y').bind K:=by
 split
 ·exact h
 ·exact k
section
variable {R:Type}
theorem zt6{op:BinOp}{k k':IntKind}{m n:Int}{K:List SV->Option R}:qE op k m k' n K=(qE op k m k' n some).bind K:=by
 unfold qE
 cases op<;>simp only<;>repeat(first|rfl|refine zm ?_ ?_|refine zr ?_ ?_)
theorem zt8{op:BinOp}{m n:ByteArray}{K:List SV->Option R}:qF op m n K=(qF op m n some).bind K:=by
 unfold qF
 cases op<;>simp only<;>repeat(first|rfl|refine zm ?_ ?_|refine zr ?_ ?_)
theorem zt5{E:Env}{op:BinOp}{T:TypeId}{x y:SV}{K:List SV->Option R}:qD E op T x y K=(qD E op T x y some).bind K:=by
 unfold qD
 split
 ·refine zr rfl (zv fun a=>zv fun b=> ?_)
  split
  ·cases op<;>rfl
  ·rfl
 ·rfl
theorem an1{E:Env}{op:BinOp}{T:TypeId}{x y:SV}{S:Type}{F:List SV->Option R}{G:List SV->Option S}{K:S->Option R}(h:∀l,F l=(G l).bind K):bin E op T x y F=(bin E op T x y G).bind K:=by
 unfold bin
 split
 ·rw[zt6,zt6 (K:=G),Option.bind_assoc];congr;funext l;exact h l
 ·rw[zt8,zt8 (K:=G),Option.bind_assoc];congr;funext l;exact h l
 ·refine zr rfl ?_;cases op<;>simp only<;>first|exact h _|rfl
 ·refine zr rfl ?_;cases op<;>simp only<;>first|exact h _|rfl
 ·rw[zt5,zt5 (K:=G),Option.bind_assoc];congr;funext l;exact h l
theorem HY{S:Type}{i:Int}{n:Nat}{x:Option R}{x':Option S}{K:S->Option R}(h:x=x'.bind K):zd i n x=(zd i n x').bind K:=by
 unfold zd
 exact zm (zm h rfl) rfl
theorem zeh{S:Type}{lo:Option SV}{m:Nat}{F:Nat->Option R}{G:Nat->Option S}{K:S->Option R}(h:∀l,F l=(G l).bind K):xT lo m F=(xT lo m G).bind K:=by
 unfold xT
 cases lo with
 |none=>exact h _
 |some v=>exact zv fun y=>zm (zm (h _) rfl) rfl
theorem z160{S:Type}{lo hi:Option SV}{n:Nat}{F:Nat->Nat->Option R}{G:Nat->Nat->Option S}{K:S->Option R}(h:∀l h,F l h=(G l h).bind K):cutAt lo hi n F=(cutAt lo hi n G).bind K:=by
 unfold cutAt
 cases hi with
 |none=>exact zeh fun l=>h _ _
 |some w=>exact zv fun y=>zm (zm (zeh fun l=>h _ _) rfl) rfl
theorem zy7{S:Type}{t:Ty}{F:El t->List (List Nat)->Option R}{G:El t->List (List Nat)->Option S}{K:S->Option R}(h:∀y o,F y o=(G y o).bind K):∀(l:List (Nat×SV×List (List Nat))) (x:El t) (own:List (List Nat)),q9 t x own l F=(q9 t x own l G).bind K
 | [],x,own=>by simpa [q9] using h x own
 |(i,v,ov)::r,x,own=>by
  simp only[q9]
  refine zr rfl ?_
  split
  ·refine zv fun y=> ?_
   split
   ·exact zy7 h r _ _
   ·rfl
  ·rfl
theorem zy8{S:Type}{t:Ty}{F:List (El t)->Option R}{G:List (El t)->Option S}{K:S->Option R}(h:∀y,F y=(G y).bind K):∀(l:List (Nat×SV)) (x:List (El t)),Ba t x l F=(Ba t x l G).bind K
 | [],x=>by simpa [Ba] using h x
 |(i,v)::r,x=>by
  simp only[Ba]
  exact zr rfl (zv fun y=>zy8 h r _)
variable {S:Type} {F:Out->Option R} {G:Out->Option S} {K:S->Option R}
theorem adH{u:Ty}{s:State}{id:Nat}{t:Ty}{p:List Nat}(h:∀y,F y=(G y).bind K):G6 u s id t p F=(G6 u s id t p G).bind K:=by
 unfold G6
 split
 ·split
  ·split
   ·exact zr (zm (h _) rfl) rfl
   ·rfl
  ·rfl
 ·rfl
theorem ade{u:Ty}{s:State}{id:Nat}{t:Ty}{p:List Nat}{v:SV}(h:∀y,F y=(G y).bind K):Gv u s id t p v F=(Gv u s id t p v G).bind K:=by
 unfold Gv
 split
 ·split
  ·split
   ·exact zr (zv fun y=>zm (h _) rfl) rfl
   ·rfl
  ·rfl
 ·rfl
theorem ac5{t:Ty}{n:Int}{id:Nat}{r:Ty}{p:List Nat}(h:∀y,F y=(G y).bind K):RG t n id r p F=(RG t n id r p G).bind K:=by
 unfold RG
 split
 ·exact zr (HY (h _)) rfl
 ·rfl
theorem adG{u:Ty}{B:bB}{t:Ty}{p:List Nat}(h:∀y,F y=(G y).bind K):IA u B t p F=(IA u B t p G).bind K:=by
 unfold IA
 split
 ·split
  ·exact zr (zm (h _) rfl) rfl
  ·rfl
 ·rfl
theorem alq{E:Env}{T:TypeId}{s:State}{la:Bool}{v:SV}(h:∀y,F y=(G y).bind K):load E T s la v F=(load E T s la v G).bind K:=by
 unfold load
 split
 ·split
  ·exact zr (h _) rfl
  ·refine zr (adH h) ?_
   split
   ·refine zr ?_ (adG h)
    split
    ·exact zr (zm (h _) (h _)) rfl
    ·rfl
   ·rfl
  ·rfl
 ·rfl
theorem ah5{E:Env}{T:TypeId}{s:State}{v:SV}{x:Operand}(h:∀y,F y=(G y).bind K):store E T s v x F=(store E T s v x G).bind K:=by
 unfold store
 split
 ·split
  ·refine zr (ade h) ?_
   split
   ·refine zr ?_ rfl
    split
    ·refine zr (zv fun y=> ?_) rfl
     split
     ·exact h _
     ·rfl
    ·rfl
   ·rfl
  ·rfl
 ·rfl
theorem aem{t:Option Ty}{v:SV}{j:Nat}(h:∀y,F y=(G y).bind K):Tl t v j F=(Tl t v j G).bind K:=by
 unfold Tl
 split
 ·refine zr rfl ?_
  split
  ·refine zr ?_ rfl
   split
   ·exact zr rfl (h _)
   ·rfl
  ·rfl
 ·refine zr ?_ rfl
  split
  ·exact zr rfl (h _)
  ·rfl
 ·rfl
theorem E5{v:SV}{F':Int->Option R}{G':Int->Option S}{K:S->Option R}(h:∀n,F' n=(G' n).bind K):v.num F'=(v.num G').bind K:=by
 unfold SV.num
 split
 ·exact h _
 ·rfl
theorem aet{E:Env}{T:TypeId}{v i:SV}(h:∀y,F y=(G y).bind K):Tp E T v i F=(Tp E T v i G).bind K:=by
 unfold Tp
 refine E5 fun n=> ?_
 split
 ·exact zv fun y=>HY (h _)
 ·refine zr rfl ?_
  split
  ·exact zr (HY (h _)) rfl
  ·rfl
 ·exact zv fun y=>HY (h _)
 ·exact ac5 h
 ·rfl
theorem aeu{E:Env}{T:TypeId}{v i:SV}(h:∀y,F y=(G y).bind K):Tq E T v i F=(Tq E T v i G).bind K:=by
 unfold Tq
 refine E5 fun n=> ?_
 split
 ·exact zv fun y=>HY (h _)
 ·exact zv fun y=>HY (h _)
 ·rfl
theorem ak2{E:Env}{T:TypeId}{v:SV}{lo hi:Option SV}(h:∀y,F y=(G y).bind K):qH E T v lo hi F=(qH E T v lo hi G).bind K:=by
 unfold qH
 split
 ·exact zv fun y=>z160 fun _ _=>h _
 ·exact zv fun y=>z160 fun _ _=>h _
 ·rfl
theorem adu{E:Env}{T U:TypeId}{bo:Operand}{b x:SV}(h:∀y,F y=(G y).bind K):SF E T U bo b x F=(SF E T U bo b x G).bind K:=by
 unfold SF
 refine zr rfl ?_
 split
 ·refine zr rfl ?_
  split
  ·exact zv fun y=>zm (h _) rfl
  ·exact zr rfl (zv fun y=>zv fun z=>zm (h _) rfl)
  ·rfl
 ·rfl
theorem aln{E:Env}{T:TypeId}{x:SV}(h:∀y,F y=(G y).bind K):tT E T x F=(tT E T x G).bind K:=by
 unfold tT
 split
 ·exact zv fun y=>h _
 ·split
  ·exact h _
  ·exact zv fun y=>h _
 ·exact h _
 ·rfl
theorem ahc{E:Env}{S' T:TypeId}{x:SV}(h:∀y,F y=(G y).bind K):kD E S' T x F=(kD E S' T x G).bind K:=by
 unfold kD
 split
 ·exact zv fun y=>h _
 ·exact zv fun y=>h _
 ·exact zv fun y=>h _
 ·rfl
theorem ahb{E:Env}{S' T:TypeId}{s:State}{id n:Nat}{a b:Ty}(h:∀y,F y=(G y).bind K):jD E S' T s id n a b F=(jD E S' T s id n a b G).bind K:=by
 unfold jD
 split
 ·refine zr ?_ rfl
  split
  ·split
   ·exact zm (h _) rfl
   ·rfl
  ·rfl
 ·rfl
theorem zti{s:State}{dst:Option Nat}{t:Ty}{x:El t}{p:Ty}(h:∀y,F y=(G y).bind K):jS s dst t x p F=(jS s dst t x p G).bind K:=by
 unfold jS
 split
 ·split
  ·exact h _
  ·rfl
 ·rfl
theorem zyr{s:State}{m:SV}{kt vt:Ty}{F:Nat->List (El kt×El vt)->Option R}{G:Nat->List (El kt×El vt)->Option S}{K:S->Option R}(h:∀n y,F n y=(G n y).bind K):vk s m kt vt F=(vk s m kt vt G).bind K:=by
 unfold vk
 split
 ·refine zr ?_ rfl
  split
  ·split
   ·exact h _ _
   ·rfl
  ·rfl
 ·rfl
theorem ahB{E:Env}{T:TypeId}{s:State}{m i:SV}(h:∀y,F y=(G y).bind K):kH E T s m i F=(kH E T s m i G).bind K:=by
 unfold kH
 split
 ·exact zyr fun _ _=>zv fun _=>h _
 ·rfl
theorem OZ{E:Env}{T:TypeId}{s:State}{m i v:SV}(h:∀y,F y=(G y).bind K):lz E T s m i v F=(lz E T s m i v G).bind K:=by
 unfold lz
 split
 ·exact zyr fun _ _=>zv fun _=>zv fun _=>zm rfl (h _)
 ·rfl
theorem ahG{s:State}{m:SV}(h:∀y,F y=(G y).bind K):kJ s m F=(kJ s m G).bind K:=by
 unfold kJ
 split
 ·split
  ·split
   ·exact zm (h _) (h _)
   ·rfl
  ·rfl
 ·rfl
theorem ahD{E:Env}{T:TypeId}{s:State}{dst:Option Nat}{lo:Operand}{l c:SV}(h:∀y,F y=(G y).bind K):kI E T s dst lo l c F=(kI E T s dst lo l c G).bind K:=by
 unfold kI
 split
 ·exact zr rfl (zv fun n=>zv fun m=>zm (zm (zm (zm (h _) rfl) rfl) rfl) (zm (zm (zm (zti h) rfl) rfl) rfl))
 ·rfl
theorem aoA{op:UnOp}{x:SV}(h:∀y,F y=(G y).bind K):Mi op x F=(Mi op x G).bind K:=by
 unfold Mi
 split
 ·exact h _
 ·exact h _
 ·rfl
end
abbrev ai:=(R:Type)->FuncId->bO R
def ai.Nat(C:ai):Prop:=∀(R S:Type) (f:FuncId) l b (F:List SV->Option bB->Option R) (G:List SV->Option bB->Option S) (K:S->Option R),(∀r b,F r b=(G r b).bind K)->C R f l b F=(C S f l b G).bind K
section
variable {R S:Type} {F:Out->Option R} {G:Out->Option S} {K:S->Option R} {C:ai}
theorem Uj(hC:C.Nat){s:State}{dst:Option Nat}{f:FuncId}{vs:List SV}(h:∀y,F y=(G y).bind K):fp (C R) s dst f vs F=(fp (C S) s dst f vs G).bind K:=by
 unfold fp
 split
 ·refine hC R S f _ _ _ _ K fun r b=> ?_
  split
  ·exact h _
  ·split
   ·split
    ·exact h _
    ·rfl
   ·rfl
 ·refine hC R S f _ _ _ _ K fun r b=> ?_
  split
  ·exact zr (h _) rfl
  ·rfl
 ·rfl
theorem ag9{f:FuncId}{x:SV}(h:∀y,F y=(G y).bind K):l9 f x F=(l9 f x G).bind K:=by
 unfold l9
 split
 ·exact zr rfl (h _)
 ·rfl
theorem akW{f:FuncId}{x y:SV}(h:∀y,F y=(G y).bind K):td f x y F=(td f x y G).bind K:=by
 unfold td
 split
 ·exact h _
 ·rfl
theorem ak1{n id:Nat}{a b:Ty}{lo hi:Option SV}(h:∀y,F y=(G y).bind K):te n id a b lo hi F=(te n id a b lo hi G).bind K:=by
 unfold te
 split
 ·rfl
 ·exact zeh fun l=>h _
theorem MI{t:Ty}{s:State}{id n lo:Nat}{a b:Ty}{x:SV}{e:TypeId}(h:∀y,F y=(G y).bind K):gL t s id n lo a b x e F=(gL t s id n lo a b x e G).bind K:=by
 unfold gL
 refine zr (zv fun ys=> ?_) rfl
 split
 ·split
  ·exact zm (zm (h _) rfl) rfl
  ·rfl
 ·rfl
theorem ak0{E:Env}{T:TypeId}{s:State}{id n:Nat}{t:Ty}{lo hi:Option SV}(h:∀y,F y=(G y).bind K):qG E T s id n t lo hi F=(qG E T s id n t lo hi G).bind K:=by
 unfold qG
 split
 ·refine zr ?_ rfl
  split
  ·split
   ·exact h _
   ·rfl
  ·rfl
 ·rfl
theorem ahd{t:Ty}{s:State}{id n:Nat}{a b:Ty}{y:ByteArray}(h:∀y,F y=(G y).bind K):jE t s id n a b y F=(jE t s id n a b y G).bind K:=by
 unfold jE
 refine zr (zr ?_ rfl) rfl
 split
 ·split
  ·exact zm (h _) rfl
  ·rfl
 ·rfl
theorem ahe{E:Env}{T:TypeId}{s:State}{d x:SV}(h:∀y,F y=(G y).bind K):copyV E T s d x F=(copyV E T s d x G).bind K:=by
 unfold copyV
 split
 ·split
  ·exact ahd h
  ·exact MI h
 ·exact MI h
 ·rfl
theorem Nd{g:Bool}{x y:SV}(h:∀y,F y=(G y).bind K):jR g x y F=(jR g x y G).bind K:=by
 unfold jR
 split
 ·exact h _
 ·rfl
theorem OE{E:Env}{T:TypeId}(h:∀y,F y=(G y).bind K):nM E T F=(nM E T G).bind K:=by
 unfold nM
 split
 ·exact h _
 ·exact h _
theorem xK(hC:C.Nat){E:Env}{ops:List Oper}{o:Oper}{s:State}(h:∀y,F y=(G y).bind K):act E (C R) ops o s F=(act E (C S) ops o s G).bind K:=by
 unfold act
 split
 ·split
  ·exact zm (h _) (h _)
  ·split
   ·exact zm (h _) (h _)
   ·rfl
   ·exact OE h
   ·exact h _
 ·split
  ·exact h _
  ·rfl
  ·exact OE h
  ·exact h _
 ·split
  ·exact zm (h _) (h _)
  ·rfl
 ·exact an1 fun l=>h _
 ·exact aoA h
 ·split
  ·exact ahb h
  ·exact ahc h
 ·exact alq h
 ·exact ah5 h
 ·split
  ·exact zr rfl (h _)
  ·exact h _
  ·rfl
 ·exact aem h
 ·exact aet h
 ·exact aeu h
 ·split
  ·refine zr rfl (zv fun y=> ?_)
   split
   ·exact h _
   ·rfl
  ·rfl
 ·split
  ·split
   ·exact zr (ak1 h) rfl
   ·rfl
  ·exact ak0 h
  ·exact ak2 h
 ·split
  ·exact ag9 h
  ·exact akW h
  ·rfl
 ·split
  ·split
   ·exact h _
   ·rfl
  ·split
   ·split
    ·exact h _
    ·rfl
   ·rfl
  ·rfl
 ·split
  ·split
   ·exact zv fun y=>h _
   ·rfl
  ·rfl
 ·split
  ·exact zr rfl (zy7 (fun y o=>h _) _ _ _)
  ·rfl
 ·split
  ·exact zr rfl (zm (zy8 (fun y=>h _) _ _) rfl)
  ·rfl
 ·split
  ·refine zr ?_ ?_
   ·split
    ·exact h _
    ·rfl
   split
   ·exact h _
   ·rfl
   ·exact h _
   ·rfl
  ·rfl
 ·split
  ·exact zti h
  ·rfl
 ·exact ahB h
 ·exact OZ h
 ·exact OZ h
 ·split
  ·exact zv fun y=>zti h
  ·rfl
 ·exact ahG h
 ·exact ahD h
 ·exact Uj hC fun u=>h _
 ·split
  ·exact zr rfl (Uj hC h)
  ·exact Uj hC h
  ·rfl
 ·split
  ·exact ahe h
  ·rfl
 ·split
  ·exact aln h
  ·rfl
 ·split
  ·exact adu h
  ·rfl
 ·split
  ·exact Nd h
  ·rfl
 ·split
  ·exact Nd h
  ·rfl
 ·rfl
end
section
variable {R S:Type} {F:State->Option R} {G:State->Option S} {K:S->Option R} {C:ai}
theorem ztp(hC:C.Nat){E:Env}{ops:List Oper}{o:Oper}{s:State}(h:∀y,F y=(G y).bind K):step E (C R) ops o s F=(step E (C S) ops o s G).bind K:=by
 unfold step
 simp only
 split
 ·exact xK hC fun y=>h _
 ·split
  ·rfl
  ·split
   ·exact zm (zm (xK hC fun y=>h _) (h _)) (zm (h _) (xK hC fun y=>h _))
   ·exact h _
   ·rfl
theorem Rz(hC:C.Nat){E:Env}{ops:List Oper}(h:∀y,F y=(G y).bind K):∀(l:List Oper) (s:State),steps E (C R) ops l s F=(steps E (C S) ops l s G).bind K
 | [],s=>h s
 |o::r,s=>by
  simp only[steps]
  exact ztp hC fun s=>Rz hC h r s
theorem ah3(hC:C.Nat){E:Env}{ops:List Oper}{o:Oper}{i:Nat}{s:State}{tr:List dL}{F:State->List dL->Option R}{G:State->List dL->Option S}(h:∀y t,F y t=(G y t).bind K):kM E (C R) ops o i s tr F=(kM E (C S) ops o i s tr G).bind K:=by
 unfold kM
 simp only
 split
 ·exact xK hC fun y=>zm (h _ _) rfl
 ·split
  ·rfl
  ·split
   ·exact zm (zm (xK hC fun y=>zm (h _ _) rfl) (zm (h _ _) rfl)) (zm (zm (h _ _) rfl) (xK hC fun y=>zm (h _ _) rfl))
   ·exact zm (h _ _) rfl
   ·rfl
theorem zew(hC:C.Nat){E:Env}{ops:List Oper}(h:∀y,F y=(G y).bind K):∀(l:List Oper) (i:Nat) (s:State) (tr:List dL),Bd E (C R) ops l i s tr F=(Bd E (C S) ops l i s tr G).bind K
 | [],i,s,tr=>h s
 |o::r,i,s,tr=>by
  simp only[Bd]
  exact ah3 hC fun s tr=>zew hC h r (i+1) s tr
theorem Rq{l:List Nat}{s:State}(h:∀y,F y=(G y).bind K):re l s F=(re l s G).bind K:=by
 unfold re
 exact zm (h _) rfl
end
theorem ahz{R S:Type}{k:Nat}{F:Unit->Option R}{G:Unit->Option S}{K:S->Option R}(h:F ()=(G ()).bind K):aY k F=(aY k G).bind K:=by
 unfold aY
 cases k
 ·rfl
 ·exact h
theorem alr{R S:Type}{F:State->Option R}{G:State->Option S}{K:S->Option R}{E:Env}{k r:Nat}{s:State}(h:∀y,F y=(G y).bind K):mB E k r s F=(mB E k r s G).bind K:=by
 unfold mB
 split
 ·exact h _
 ·exact Rq fun s=>ahz (h _)
theorem alP{R S:Type}{F:State->Option R}{G:State->Option S}{K:S->Option R}{E:Env}{r:Nat}{s:State}(h:∀y,F y=(G y).bind K):qT E r s F=(qT E r s G).bind K:=by
 unfold qT
 split
 ·exact h _
 ·split
  ·refine zr ?_ rfl
   split
   ·split
    ·exact zm (h _) rfl
    ·rfl
   ·rfl
  ·rfl
theorem zr2{R S:Type}{F:State->Option R}{G:State->Option S}{K:S->Option R}(h:∀y,F y=(G y).bind K):∀(l:List Nat) (s:State),Iy l s F=(Iy l s G).bind K
 | [],s=>h s
 |id::r,s=>by
  simp only[Iy]
  unfold Yd
  split
  ·exact zr rfl (zr2 h r _)
  ·rfl
section
variable {R S:Type} {F:Ex->State->Option R} {G:Ex->State->Option S} {K:S->Option R} {C:ai}
theorem Nc{body:State->(Ex->State->Option R)->Option R}{body':State->(Ex->State->Option S)->Option S}{l lx:List Nat}
 (hb:∀(F:Ex->State->Option R) (G:Ex->State->Option S),(∀e s,F e s=(G e s).bind K)->∀s,body s F=(body' s G).bind K) (h:∀e s,F e s=(G e s).bind K):
 ∀(k:Nat) (s:State),aw body l lx k s F=(aw body' l lx k s G).bind K
 |0,_=>rfl
 |k+1,s=>by
  simp only[aw]
  refine hb _ _ (fun e s=> ?_) s
  cases e with
  |normal=>exact Rq fun s=>Nc hb h k s
  |exit id=>exact Rq fun s=>h _ _
  |ret=>exact Rq fun s=>h _ _
theorem OV{E:Env}{q:Nat×Nat×Nat}{ops:List Oper}{s:State}{F:State->Option R}{G:State->Option S}{K:S->Option R}(h:∀s,F s=(G s).bind K):kN E q ops s F=(kN E q ops s G).bind K:=by
 unfold kN
 refine zm (zm ?_ rfl) rfl
 split
 ·refine zm (zm ?_ rfl) rfl
  unfold zd
  exact zm (zm (h _) rfl) rfl
 ·rfl
theorem ahO{E:Env}{oA oS:Oper}{s:State}{F:State->Option R}{G:State->Option S}{K:S->Option R}(h:∀s,F s=(G s).bind K):iI E oA oS s F=(iI E oA oS s G).bind K:=by
 unfold iI
 split
 ·refine zm ?_ rfl
  unfold tY
  split
  ·refine zm ?_ rfl
   split
   ·refine zm (E5 fun n=>zv fun y=> ?_) rfl
    unfold zd
    exact zm (zm (h _) rfl) rfl
   ·rfl
  ·rfl
 ·rfl
theorem ON(hC:C.Nat){E:Env}{ops:List Oper}{s:State}{F:State->Option R}{G:State->Option S}(h:∀s,F s=(G s).bind K):kL E (C R) ops s F=(kL E (C S) ops s G).bind K:=by
 unfold kL
 split
 ·exact Rz hC (fun s=>ahO h) _ _
 ·rfl
theorem vj(hC:C.Nat){E:Env}{k:Nat}:∀(c:Code) (F:Ex->State->Option R) (G:Ex->State->Option S),(∀e s,F e s=(G e s).bind K)->∀s,ev E (C R) k c s F=(ev E (C S) k c s G).bind K
 | .skip,F,G,h,s=>h _ _
 | .region i ops d,F,G,h,s=>by
   simp only[ev]
   have key:IB E (C R) i ops d s (F .normal)=(IB E (C S) i ops d s (G .normal)).bind K:=alP fun s=>zr2 (fun s=>zm (zew hC (fun s=>h _ _) _ _ _ _) (Rz hC (fun s=>h _ _) _ _)) _ _
   split
   ·refine zm ?_ key
    cases d with
    |true=>rfl
    |false=>exact zm (ON hC fun s=>h _ _) (OV fun s=>h _ _)
   ·exact key
 | .seq a b,F,G,h,s=>by
   simp only[ev]
   refine vj hC a _ _ (fun e s=> ?_) s
   cases e with
   |normal=>exact alr fun s=>vj hC b _ _ h s
   |exit id=>exact h _ _
   |ret=>exact h _ _
 | .cond c a b,F,G,h,s=>by
   simp only[ev]
   split
   ·exact zm (vj hC a _ _ h _) (vj hC b _ _ h _)
   ·rfl
 | .block id b,F,G,h,s=>by
   simp only[ev]
   refine vj hC b _ _ (fun e s=> ?_) s
   cases e with
   |normal=>exact h _ _
   |exit j=>exact zm (h _ _) (h _ _)
   |ret=>exact h _ _
 | .loop b,F,G,h,s=>by
   simp only[ev]
   exact Rq fun s=>Nc (fun F G h s=>vj hC b F G h s) h k s
 | .exit id,F,G,h,s=>h _ _
 | .ret,F,G,h,s=>h _ _
 | .rangeFunc ..,F,G,h,s=>rfl
 | .scope _,F,G,h,s=>rfl
 | .label _,F,G,h,s=>rfl
 | .goto _,F,G,h,s=>rfl
 | .refuse _,F,G,h,s=>rfl
end
theorem lF{R S:Type}{x:Option R}{y:Option S}{K:S->Option R}(h:x=y.bind K){z:R}(hz:x=some z):∃w,y=some w/\K w=some z:=by
 rw[h] at hz
 exact Option.bind_eq_some_iff.1 hz
end Go.Ref

namespace Go.Ref
open Go
def dJ(t:Ty)(cs:List Value):Value:=if t.agg=true then .agg cs.toArray else cs.headD undef
def bz(X:az)(pl:Place)(e:TypeId)(k n:Nat)(v:Value):Prop:=
 (v= .slice none 0 0/\n=0)\/∃g cap cur,v= .slice (some ⟨g,0,none⟩) n cap/\X.w.heap[g]? =some (.cells cur e (0,0))/\n<=cap/\cap<=maxLen/\cur.size=cap*k/\X.ow g= .row pl (n*k)
def bq(X:az)(pl:List Nat->Place)(t:Ty)(x:El t)(cs:List Value)(own:List (List Nat)):Prop:=
 ∀p∈own,∃e t' xs v,t.ff p/\El.get t p x=some ⟨.sl e t',xs⟩/\cs[t.off p]? =some v/\bz X (pl p) e t'.cells (List.length xs) v
def nP(t:Ty)(p:List Nat)(r:Nat)(v:Value):Prop:=
 match t,p with
 | .aZ .mp _ _,_=>v= .map (some r)
 | .aZ (.fR n) _ _,[]=>∃cap,v= .slice (some ⟨r,0,none⟩) n cap/\n<=cap
 | .aZ (.fR n) a _,[l]=>∃cap off,v= .slice (some ⟨r,off,none⟩) (n-l) cap/\n-l<=cap/\l<=n/\((n=l/\off=0)\/off=l*a.cells)
 | .aZ (.ru f) _ _,[]=>v= .func (.func f) #[] #[.pointer (some ⟨r,0,none⟩)]
 | .aZ .row a _,[i]=>v= .pointer (some ⟨r,i*a.cells,none⟩)
 |t,p=>v= .pointer (some ⟨r,t.off p,none⟩)/\t.ff p
theorem p8{t:Ty}{p:List Nat}{r:Nat}{v:Value}(h:t.bM=false):nP t p r v↔v= .pointer (some ⟨r,t.off p,none⟩)/\t.ff p:=by
 unfold nP
 split
 all_goals first
  |exact Iff.rfl
  |simp [Ty.bM] at h
theorem RI{t:Ty}{p:List Nat}{r:Nat}{v:Value}(h:t.pX=false):nP t p r v↔v= .pointer (some ⟨r,t.off p,none⟩)/\t.ff p:=by
 unfold nP
 split
 all_goals first
  |exact Iff.rfl
  |simp [Ty.pX] at h
def aA(X:az)(pl:List Nat->Place):SV->Value->Prop
 | .undef,_=>True
 | .skip,v=>v=Go.undef
 | .cG,v=>v= .slice none 0 0
 | .gW,v=>v= .pointer none
 | .aj t x own,v=>∃cs,aW X t x cs/\v=dJ t cs/\bq X pl t x cs own
 | .ptr id t p,v=>∃r,X.β id=some r/\nP t p r v
 | .view t x,v=>∃ad cs,v= .pointer (some ad)/\ad.spot=none/\aW X t x cs/\∀i u,cs[i]? =some u->X.aE (ad.add i) u
 | .cap f t x u y,v=>∃ad pQ cs eA,v= .func (.func f) #[] #[.pointer (some ad),.pointer (some pQ)]/\(ad.spot=none/\aW X t x cs/\∀i w,cs[i]? =some w->X.aE (ad.add i) w)/\(pQ.spot=none/\aW X u y eA/\∀i w,eA[i]? =some w->X.aE (pQ.add i) w)
 | .over,v=>v= .tuple #[.bool false]
theorem uV{X Y:az}{pl jb:List Nat->Place}(h:∀a v,X.aE a v->Y.aE a v){f:Nat}{t u:Ty}{x:El t}{y:El u}{v:Value}(hr:aA X pl (.cap f t x u y) v):aA Y jb (.cap f t x u y) v:=by
 obtain⟨ad,pQ,cs,eA,h1,⟨h2,h3,h4⟩,h5,h6,h7⟩:=hr
 exact⟨ad,pQ,cs,eA,h1,⟨h2,h3.av h,fun i w hi=>h _ _ (h4 i w hi)⟩,h5,h6.av h,fun i w hi=>h _ _ (h7 i w hi)⟩
def cM(X:az)(pl:Nat->List Nat->Place)(l:List SV)(v:Value):Prop:=
 match l with
 | [s]=>aA X (pl 0) s v
 |l=>∃vs:Array Value,v= .tuple vs/\vs.size=l.length/\∀(j:Nat) s u,l[j]? =some s->vs[j]? =some u->aA X (pl j) s u
def dM(X:az)(t:Ty)(x:El t)(v:Value):Prop:=∃cs,aW X t x cs/\v=dJ t cs
def dA(X:az)(r:Nat)(pl:List Nat->Place):(t:Ty)->El t->List (List Nat)->Prop
 | .aZ .iter _ _,x,_=>X.w.heap[r]? =some (.stringIter x.1 x.2)
 | .aZ .mp kt vt,x,_=>∃es clock,X.w.heap[r]? =some (.map es clock)/\es.size=List.length x/\∀(i:Nat) (q:El kt×El vt) (e:MapEntry),x[i]? =some q->es[i]? =some e->dM X kt q.1 e.key/\dM X vt q.2 e.val
 | .aZ .row t _,xs,_=>∃cs T,X.w.heap[r]? =some (.cells cs T (0,0))/\cs.size=List.length xs*t.cells/\∀(j:Nat) (x:El t),xs[j]? =some x->aW X t x ((cs.toList.drop (j*t.cells)).take t.cells)
 | .aZ (.fQ T e) _ _,x,own=>(∃o,X.w.heap[r]? =some o)/\([]∈own->∃v,uz T e r v (Lib.strCells x) X.w/\∀g,v.ownBlock=some g->X.ow g= .row (pl []) 0)
 | .aZ _ _ _,_,_=>False
 |t,x,own=>∃cs T,X.w.heap[r]? =some (.cells cs T (0,0))/\aW X t x cs.toList/\bq X pl t x cs.toList own
theorem dA.plain{X:az}{r:Nat}{pl:List Nat->Place}{t:Ty}{x:El t}{own:List (List Nat)}(hs:t.bM=false):dA X r pl t x own↔∃cs T,X.w.heap[r]? =some (.cells cs T (0,0))/\aW X t x cs.toList/\bq X pl t x cs.toList own:=by
 cases t<;>first|exact Iff.rfl|simp [Ty.bM] at hs
theorem dA.of{X:az}{r:Nat}{pl:List Nat->Place}{t:Ty}{x:El t}{own:List (List Nat)}{cs:Array Value}{T:TypeId}(hs:t.bM=false)(h1:X.w.heap[r]? =some (.cells cs T (0,0)))(h2:aW X t x cs.toList)(h3:bq X pl t x cs.toList own):dA X r pl t x own:=(dA.plain hs).2 ⟨cs,T,h1,h2,h3⟩
theorem dM.mono{X Y:az}(h:∀a v,X.aE a v->Y.aE a v){t:Ty}{x:El t}{v:Value}(hr:dM X t x v):dM Y t x v:=by
 obtain⟨cs,h1,h2⟩:=hr
 exact⟨cs,h1.av h,h2⟩
theorem dA.lt{X:az}{r:Nat}{pl:List Nat->Place}{t:Ty}{x:El t}{own:List (List Nat)}(h:dA X r pl t x own):r<X.w.heap.size:=by
 have key:∀o,X.w.heap[r]? =some o->r<X.w.heap.size:=fun o ho=>(Array.getElem?_eq_some_iff.1 ho).1
 unfold dA at h
 split at h
 ·exact key _ h
 ·obtain⟨es,c,h1,_⟩:=h;exact key _ h1
 ·obtain⟨cs,T,h1,_⟩:=h;exact key _ h1
 ·obtain⟨⟨o,ho⟩,_⟩:=h;exact key _ ho
 ·exact h.elim
 ·obtain⟨cs,T,h1,_⟩:=h;exact key _ h1
theorem dA.move{X Y:az}{r:Nat}{pl jb:List Nat->Place}{t:Ty}{x:El t}{own:List (List Nat)}(hs:∀a v,X.aE a v->Y.aE a v)(hh:Y.w.heap[r]? =X.w.heap[r]?)
 (ho:∀cs,bq X pl t x cs own->bq Y jb t x cs own) (hg: []∈own->∀g o,X.w.heap[g]? =some o->X.ow g= .row (pl []) 0->Y.w.heap[g]? =some o/\Y.ow g= .row (jb []) 0) (h:dA X r pl t x own):dA Y r jb t x own:=by
 unfold dA at h⊢
 split at h
 ·exact hh.trans h
 ·obtain⟨es,c,h1,h2,h3⟩:=h
  exact⟨es,c,hh.trans h1,h2,fun i q e hq he=>⟨(h3 i q e hq he).1.mono hs,(h3 i q e hq he).2.mono hs⟩⟩
 ·obtain⟨cs,T,h1,h2,h3⟩:=h
  exact⟨cs,T,hh.trans h1,h2,fun j x hj=>(h3 j x hj).av hs⟩
 ·obtain⟨⟨o,h1⟩,h2⟩:=h
  refine⟨⟨o,hh.trans h1⟩,fun hm=> ?_⟩
  obtain⟨v,h3,h4⟩:=h2 hm
  refine⟨v,h3.same hh (fun g o hv ho=>(hg hm g o ho (h4 g hv)).1),fun g hv=> ?_⟩
  obtain⟨cap,cur,BX⟩:∃cap cur,X.w.heap[g]? =some (.cells cur cap (0,0)):=by
   rcases h3.own.2 with⟨hn,_⟩|⟨g',cap,cur,mV,_,BX,_⟩
   ·rw[hn] at hv;simp [Value.ownBlock] at hv
   ·rw[mV] at hv
    simp [Value.ownBlock] at hv
    subst hv
    exact⟨_,_,BX⟩
  exact(hg hm g _ BX (h4 g hv)).2
 ·exact h.elim
 ·obtain⟨cs,T,h1,h2,h3⟩:=h
  exact⟨cs,T,hh.trans h1,h2.av hs,ho _ h3⟩
def bI(X:az)(id r:Nat)(B:bB):Prop:=X.ow r= .box id/\dA X r (.b id) B.t B.x B.own
theorem bI.cells{X:az}{id r:Nat}{B:bB}(h:bI X id r B)(hs:B.t.bM=false):∃cs T,X.w.heap[r]? =some (.cells cs T (0,0))/\aW X B.t B.x cs.toList/\X.ow r= .box id/\bq X (.b id) B.t B.x cs.toList B.own:=by
 obtain⟨cs,T,h1,h2,h3⟩:=(dA.plain hs).1 h.2
 exact⟨cs,T,h1,h2,h.1,h3⟩
structure Rel(X:az)(s:State)(a:Act):Prop where
 size:s.sl.length=a.tmps.size
 hN:s.bs.length=s.sl.length+1
 bP:∀(i:Nat) l v,s.sl[i]? =some l->a.tmps[i]? =some v->cM X (.c i) l v
 boxes:∀(id:Nat) B,s.bs[id]? =some (some B)->∃r,X.β id=some r/\bI X id r B
 live:∀(i:Nat) l id t p,s.sl[i]? =some l->SV.ptr id t p∈l->∃B,s.bs[id]? =some (some B)
 defers:a.defers=[]
theorem Iz{w:World}{g:Nat}{o:Obj}(h:w.heap[g]? =some o):g<w.heap.size:=(Array.getElem?_eq_some_iff.1 h).1
theorem cM.kg{X Y:az}{pl jb:Nat->List Nat->Place}{l:List SV}{v:Value}(hr:cM X pl l v)(h:∀(j:Nat) s u,l[j]? =some s->aA X (pl j) s u->aA Y (jb j) s u):cM Y jb l v:=by
 match l,hr with
 | [s],hr=>exact h 0 s v (by simp) hr
 | [],⟨vs,h1,h2,h3⟩=>exact⟨vs,h1,h2,fun j s u hs hu=>h j s u hs (h3 j s u hs hu)⟩
 |x::y::r,⟨vs,h1,h2,h3⟩=>exact⟨vs,h1,h2,fun j s u hs hu=>h j s u hs (h3 j s u hs hu)⟩
def cL(s:State):Place->Prop
 | .c i j p=>∃l t x own,s.sl[i]? =some l/\l[j]? =some (.aj t x own)/\p∈own
 | .b id p=>∃B,s.bs[id]? =some (some B)/\p∈B.own
 | .r _ _=>False
structure Mod(s:State)(X Y:az):Prop where
 aE:∀a v,X.aE a v->Y.aE a v
 size:X.w.heap.size<=Y.w.heap.size
 os:Y.w.os=X.w.os
 tape:Y.w.tape=X.w.tape
 output:Y.w.output=X.w.output
 β0:Y.β 0=X.β 0
 β:∀(id:Nat) B,s.bs[id]? =some (some B)->Y.β id=X.β id
 mT:∀g,g<X.w.heap.size->(Y.ow g=X.ow g/\Y.w.heap[g]? =X.w.heap[g]?)\/∃pl n,X.ow g= .row pl n/\¬cL s pl
theorem Mod.ext{s:State}{X Y:az}(h:Mod s X Y):Ext X Y:=
 ⟨h.aE,h.size,h.os,h.tape,h.output,h.β0,fun g hg cH=>by
   rcases h.mT g hg with e|⟨pl,n,h1,_⟩
   ·exact e
   ·rw[h1] at cH;exact cH.elim⟩
theorem Mod.refl(s:State)(X:az):Mod s X X:=⟨fun _ _ h=>h,Nat.le_refl _,rfl,rfl,rfl,rfl,fun _ _ _=>rfl,fun _ _=> .inl ⟨rfl,rfl⟩⟩
theorem bz.mod{s:State}{X Y:az}(h:Mod s X Y){pl:Place}{e:TypeId}{k n:Nat}{v:Value}(hf:cL s pl)(ho:bz X pl e k n v):bz Y pl e k n v:=by
 rcases ho with ho|⟨g,cap,cur,h1,h2,h3,h4,h5,h6⟩
 ·exact .inl ho
 ·rcases h.mT g (Iz h2) with⟨k1,k2⟩|⟨jb,n',k1,k2⟩
  ·exact .inr ⟨g,cap,cur,h1,k2.trans h2,h3,h4,h5,k1.trans h6⟩
  ·rw[h6] at k1;injection k1 with k1;rw[k1] at hf;exact absurd hf k2
theorem bq.mod{s:State}{X Y:az}(h:Mod s X Y){pl:List Nat->Place}{t:Ty}{x:El t}{cs:List Value}{own:List (List Nat)}(hf:∀p∈own,cL s (pl p))(ho:bq X pl t x cs own):bq Y pl t x cs own:=fun p hp=>by
 obtain⟨e,t',xs,v,g0,g1,g2,g3⟩:=ho p hp
 exact⟨e,t',xs,v,g0,g1,g2,g3.mod h (hf p hp)⟩
theorem aA.mod{s:State}{X Y:az}(h:Mod s X Y){pl:List Nat->Place}{sv:SV}{v:Value}(hf:∀t x own,sv= .aj t x own->∀p∈own,cL s (pl p))(hl:∀id t p,sv= .ptr id t p->∃B,s.bs[id]? =some (some B))(hr:aA X pl sv v):aA Y pl sv v:=by
 cases sv with
 |undef=>trivial
 |skip=>exact hr
 |cG=>exact hr
 |gW=>exact hr
 |over=>exact hr
 |aj t x own=>
  obtain⟨cs,h1,h2,h3⟩:=hr
  exact⟨cs,h1.av h.aE,h2,h3.mod h (hf t x own rfl)⟩
 |ptr id t p=>
  obtain⟨r,h1,h2⟩:=hr
  obtain⟨B,hB⟩:=hl id t p rfl
  exact⟨r,(h.β id B hB).trans h1,h2⟩
 |view t x=>
  obtain⟨ad,cs,h1,h2,h3,h4⟩:=hr
  exact⟨ad,cs,h1,h2,h3.av h.aE,fun i u hi=>h.aE _ _ (h4 i u hi)⟩
 |cap f t x u y=>exact uV h.aE hr
theorem Rel.mod{s:State}{X Y:az}{a:Act}(hr:Rel X s a)(h:Mod s X Y):Rel Y s a where
 size:=hr.size
 hN:=hr.hN
 bP:=fun i l v hl hv=>(hr.bP i l v hl hv).kg fun j sv u hm j5=>j5.mod h (fun t x own e p hp=>⟨l,t,x,own,hl,e▸hm,hp⟩) (fun id t p e=>hr.live i l id t p hl (e▸List.mem_of_getElem? hm))
 boxes:=fun id B hB=>by
  obtain⟨r,h1,h4,h2⟩:=hr.boxes id B hB
  have hk:Y.ow r=X.ow r/\Y.w.heap[r]? =X.w.heap[r]? :=by
   rcases h.mT r h2.lt with hk|⟨jb,n',k1,k2⟩
   ·exact hk
   ·rw[h4] at k1;cases k1
  exact⟨r,(h.β id B hB).trans h1,hk.1.trans h4,h2.move h.aE hk.2 (fun cs h5=>h5.mod h fun p hp=>⟨B,hB,hp⟩) fun hm g o ho hw=>by
   rcases h.mT g (Iz ho) with e|⟨pl,n,e1,e2⟩
   ·exact⟨e.2.trans ho,e.1.trans hw⟩
   ·rw[hw] at e1;injection e1 with e1;exact absurd (e1▸(⟨B,hB,hm⟩:cL s (.b id []))) e2⟩
 live:=hr.live
 defers:=hr.defers
structure fa(s:State)(X Y:az):Prop where
 size:X.w.heap.size<=Y.w.heap.size
 os:Y.w.os=X.w.os
 tape:Y.w.tape=X.w.tape
 output:Y.w.output=X.w.output
 mT:∀g,g<X.w.heap.size->Y.ow g=X.ow g/\Y.w.heap[g]? =X.w.heap[g]?
 β0:Y.β 0=X.β 0
 β:∀(id:Nat) B,s.bs[id]? =some (some B)->Y.β id=X.β id
theorem fa.aE{s:State}{X Y:az}(h:fa s X Y){a:Addr}{v:Value}(hs:X.aE a v):Y.aE a v:=by
 have aq:=az.gZ hs
 obtain⟨h1,h2⟩:=h.mT _ aq
 refine⟨hs.1,?_,?_⟩
 ·have:=hs.2.1
  simp only[World.cell?] at this⊢
  rw[h2];exact this
 ·rw[h1];exact hs.2.2
theorem fa.mod{s:State}{X Y:az}(h:fa s X Y):Mod s X Y:=
 ⟨fun _ _=>h.aE,h.size,h.os,h.tape,h.output,h.β0,h.β,fun g hg=> .inl (h.mT g hg)⟩
theorem fa.ext{s:State}{X Y:az}(h:fa s X Y):Ext X Y:=h.mod.ext
theorem bz.dB{s:State}{X Y:az}(h:fa s X Y){pl:Place}{e:TypeId}{k n:Nat}{v:Value}(ho:bz X pl e k n v):bz Y pl e k n v:=by
 rcases ho with ho|⟨g,cap,cur,h1,h2,h3,h4,h5,h6⟩
 ·exact .inl ho
 ·obtain⟨k1,k2⟩:=h.mT g (Iz h2)
  exact .inr ⟨g,cap,cur,h1,k2.trans h2,h3,h4,h5,k1.trans h6⟩
theorem bq.dB{s:State}{X Y:az}(h:fa s X Y){pl:List Nat->Place}{t:Ty}{x:El t}{cs:List Value}{own:List (List Nat)}(ho:bq X pl t x cs own):bq Y pl t x cs own:=fun p hp=>by
 obtain⟨e,t',xs,v,g0,g1,g2,g3⟩:=ho p hp
 exact⟨e,t',xs,v,g0,g1,g2,g3.dB h⟩
theorem Rel.dB{s:State}{X Y:az}{a:Act}(hr:Rel X s a)(h:fa s X Y):Rel Y s a:=hr.mod h.mod
theorem Rel.put{X:az}{s:State}{a:Act}(hr:Rel X s a){d:Option Nat}{l:List SV}{v:Value}(h:∀d',d=some d'->cM X (.c d') l v)(hl:∀id t p,SV.ptr id t p∈l->∃B,s.bs[id]? =some (some B)):Rel X (s.aQ d l) (a.put d v):=by
 cases d with
 |none=>exact hr
 |some d=>
  refine⟨by simpa [State.aQ,Act.put] using hr.size,by simpa [State.aQ] using hr.hN,fun i l' v' hi hv=> ?_,hr.boxes,fun i l' id t p hi hm=> ?_,hr.defers⟩
  ·simp only[State.aQ,List.getElem?_set] at hi
   simp only[Act.put,Array.getElem?_setIfInBounds] at hv
   by_cases e:d=i
   ·subst e
    simp only[if_true] at hi hv
    split at hi
    ·split at hv
     ·cases hi;cases hv;exact h d rfl
     ·cases hv
    ·cases hi
   ·rw[if_neg e] at hi hv
    exact hr.bP i l' v' hi hv
  ·simp only[State.aQ,List.getElem?_set] at hi
   split at hi
   ·split at hi
    ·cases hi;exact hl id t p hm
    ·cases hi
   ·exact hr.live i l' id t p hi hm
theorem Rel.skip{X:az}{s:State}{a:Act}(hr:Rel X s a)(d:Option Nat):Rel X (s.aQ d [.skip]) (a.put d Go.undef):=
 hr.put (fun _ _=>rfl) (fun id t p h=>by simp at h)
structure dE(s:State)(X Y:az):Prop where
 w:Y.w=X.w
 β:Y.β=X.β
 ow:∀g,Y.ow g=X.ow g\/∃pl n q,X.ow g= .row pl n/\¬cL s pl/\Y.ow g= .row q n
theorem dE.aE{s:State}{X Y:az}(h:dE s X Y){a:Addr}{v:Value}:X.aE a v↔Y.aE a v:=by
 unfold az.aE
 rw[h.w]
 rcases h.ow a.block with e|⟨pl,n,q,h1,_,h2⟩
 ·rw[e]
 ·rw[h1,h2];rfl
theorem dE.mod{s:State}{X Y:az}(h:dE s X Y):Mod s X Y:=
 ⟨fun _ _=>h.aE.1,by rw[h.w];exact Nat.le_refl _,by rw[h.w],by rw[h.w],by rw[h.w],by rw[h.β],fun _ _ _=>by rw[h.β],fun g _=>by
   rcases h.ow g with e|⟨pl,n,q,h1,h2,_⟩
   ·exact .inl ⟨e,by rw[h.w]⟩
   ·exact .inr ⟨pl,n,h1,h2⟩⟩
theorem dE.ext{s:State}{X Y:az}(h:dE s X Y):Ext X Y:=h.mod.ext
theorem dE.refl(s:State)(X:az):dE s X X:=⟨rfl,rfl,fun _=> .inl rfl⟩
theorem UG{v:SV}{id:Nat}{t:Ty}{p:List Nat}:v.shut= .ptr id t p->v= .ptr id t p:=by cases v<;>simp [SV.shut]
theorem aA.shut{X:az}{pl jb:List Nat->Place}{sv:SV}{v:Value}(hr:aA X pl sv v):aA X jb sv.shut v:=by
 cases sv with
 |aj t x own=>
  obtain⟨cs,h1,h2,_⟩:=hr
  exact⟨cs,h1,h2,fun p hp=>by cases hp⟩
 |_=>exact hr
theorem zf4:∀(l:List SV) (j:Nat),(bV l j).length=l.length
 | [],_=>rfl
 |_::_,0=>rfl
 |_::r,j+1=>by simp [bV,zf4 r j]
theorem Uf:∀(l:List SV) (j i:Nat),(bV l j)[i]? =if i=j then(l[i]?).map SV.shut else l[i]?
 | [],j,i=>by simp [bV]
 |v::r,0,0=>by simp [bV]
 |v::r,0,i+1=>by simp [bV]
 |v::r,j+1,0=>by simp [bV]
 |v::r,j+1,i+1=>by
  simp only[bV,List.getElem?_cons_succ,Uf r j i]
  simp
theorem cM.bV{X:az}{pl:Nat->List Nat->Place}{l:List SV}{v:Value}(hr:cM X pl l v)(j:Nat):cM X pl (bV l j) v:=by
 match l,hr with
 | [s],hr=>
   cases j with
   |zero=>exact hr.shut
   |succ j=>exact hr
 | [],hr=>exact hr
 |x::y::r,⟨vs,h1,h2,h3⟩=>
  have hlen:∃x' y' r',Ref.bV (x::y::r) j=x'::y'::r':=by
   match j with
   |0=>exact⟨_,_,_,rfl⟩
   |1=>exact⟨_,_,_,rfl⟩
   |j+2=>exact⟨_,_,_,rfl⟩
  obtain⟨x',y',r',he⟩:=hlen
  have hl:=zf4 (x::y::r) j
  have hg:=Uf (x::y::r) j
  rw[he] at hl hg⊢
  refine⟨vs,h1,by rw[hl];exact h2,fun i s u hs hu=> ?_⟩
  rw[hg] at hs
  split at hs
  ·obtain⟨s0,gj,rfl⟩:=Option.map_eq_some_iff.1 hs
   exact(h3 i s0 u gj hu).shut
  ·exact h3 i s u hs hu
theorem aeD{l:List SV}{j:Nat}{id:Nat}{t:Ty}{p:List Nat}(h:SV.ptr id t p∈bV l j):SV.ptr id t p∈l:=by
 obtain⟨i,hi⟩:=List.mem_iff_getElem?.1 h
 rw[Uf] at hi
 split at hi
 ·obtain⟨s0,gj,he⟩:=Option.map_eq_some_iff.1 hi
  rw[UG he] at gj
  exact List.mem_of_getElem? gj
 ·exact List.mem_of_getElem? hi
theorem xN{s:State}{i:Nat}(h:i<s.sl.length):s.sl[i]? =some (s.slot i):=by
 simp [State.slot,List.getD_eq_getElem?_getD,List.getElem?_eq_getElem h]
def State.cO(s:State)(i j:Nat):State:={s with sl:=s.sl.set i (bV (s.slot i) j)}
theorem HW{s:State}{i j:Nat}{r:List (Nat×Nat)}:s.close ((i,j)::r)=(s.cO i j).close r:=rfl
theorem zja{r:List (Nat×Nat)}:∀(l:List (Nat×Nat)) (s:State),s.close (l++r)=(s.close l).close r
 | [],s=>rfl
 |(i,j)::l,s=>by
  rw[List.cons_append,HW,HW]
  exact zja l _
theorem Rel.cO{X:az}{s:State}{a:Act}(hr:Rel X s a)(i j:Nat):Rel X (s.cO i j) a:=by
 refine⟨by simpa [State.cO] using hr.size,by simpa [State.cO] using hr.hN,fun k l v hl hv=> ?_,hr.boxes,fun k l id t p hl hm=> ?_,hr.defers⟩
 ·simp only[State.cO,List.getElem?_set] at hl
  split at hl
  ·rename_i e
   subst e
   split at hl
   ·rename_i aq
    cases hl
    exact(hr.bP i _ v (xN aq) hv).bV j
   ·cases hl
  ·exact hr.bP k l v hl hv
 ·simp only[State.cO,List.getElem?_set] at hl
  split at hl
  ·rename_i e
   subst e
   split at hl
   ·rename_i aq
    cases hl
    exact hr.live i _ id t p (xN aq) (aeD hm)
   ·cases hl
  ·exact hr.live k l id t p hl hm
theorem Rel.close{X:az}{a:Act}:∀(c:List (Nat×Nat)) {s:State},Rel X s a->Rel X (s.close c) a
 | [],s,hr=>hr
 |(i,j)::r,s,hr=>Rel.close r (hr.cO i j)
theorem xw:∀{c:List (Nat×Nat)} {s:State},(s.close c).bs=s.bs
 | [],s=>rfl
 |(i,j)::r,s=>(xw (c:=r) (s:=s.cO i j))
theorem Ru:∀{c:List (Nat×Nat)} {s:State},(s.close c).sl.length=s.sl.length
 | [],s=>rfl
 |(i,j)::r,s=>by rw[HW,Ru (c:=r)];simp [State.cO]
theorem cL.qR{s:State}{i j:Nat}{pl:Place}(h:cL (s.cO i j) pl):cL s pl/\∀p,pl≠ .c i j p:=by
 cases pl with
 |r j p=>exact h.elim
 |b id p=>exact⟨h,fun p=>by simp⟩
 |c i' j' p=>
  obtain⟨l,t,x,own,hl,hx,hp⟩:=h
  simp only[State.cO,List.getElem?_set] at hl
  split at hl
  ·rename_i e
   subst e
   split at hl
   ·rename_i aq
    cases hl
    rw[Uf] at hx
    split at hx
    ·obtain⟨s0,_,he⟩:=Option.map_eq_some_iff.1 hx
     cases s0<;>simp [SV.shut] at he
     obtain⟨rfl,_,rfl⟩:=he
     cases hp
    ·rename_i ct
     exact⟨⟨_,t,x,own,xN aq,hx,hp⟩,fun q e=>by cases e;exact ct rfl⟩
   ·cases hl
  ·rename_i ct
   exact⟨⟨l,t,x,own,hl,hx,hp⟩,fun q e=>by cases e;exact ct rfl⟩
theorem cL.jT{pl:Place}:∀{c:List (Nat×Nat)} {s:State},cL (s.close c) pl->cL s pl/\∀i j,(i,j)∈c->∀p,pl≠ .c i j p
 | [],s,h=>⟨h,fun i j hm=>by cases hm⟩
 |(i,j)::r,s,h=>by
  obtain⟨h1,h2⟩:=cL.jT (c:=r) (s:=s.cO i j) h
  obtain⟨h3,h4⟩:=cL.qR h1
  refine⟨h3,fun i' j' hm p=> ?_⟩
  rcases List.mem_cons.1 hm with e|hm
  ·cases e;exact h4 p
  ·exact h2 i' j' hm p
theorem cL.close{s:State}{i j:Nat}{p:List Nat}:¬cL (s.close [(i,j)]) (.c i j p):=fun h=>(cL.jT h).2 i j (by simp) p rfl
def az.turn(X:az)(i j:Nat)(q:List Nat->Place):az:=
 {X with ow:=fun g=>match X.ow g with
  | .row (.c i' j' p) n=>if i'=i/\j'=j then .row (q p) n else .row (.c i' j' p) n
  |w=>w}
theorem Nv{s:State}{X:az}{i j:Nat}{q:List Nat->Place}(h:∀p,¬cL s (.c i j p)):dE s X (X.turn i j q):=by
 refine⟨rfl,rfl,fun g=> ?_⟩
 simp only[az.turn]
 cases hg:X.ow g with
 |row pl n=>
  cases pl with
  |c i' j' p=>
   by_cases e:i'=i/\j'=j
   ·obtain⟨rfl,rfl⟩:=e
    exact .inr ⟨_,n,q p,rfl,h p,by simp⟩
   ·exact .inl (by simp [e])
  |_=>exact .inl rfl
 |_=>exact .inl rfl
theorem bz.ly{X:az}{i j:Nat}{q:List Nat->Place}{p:List Nat}{e:TypeId}{k n:Nat}{v:Value}(h:bz X (.c i j p) e k n v):bz (X.turn i j q) (q p) e k n v:=by
 rcases h with h|⟨g,cap,cur,h1,h2,h3,h4,h5,h6⟩
 ·exact .inl h
 ·exact .inr ⟨g,cap,cur,h1,h2,h3,h4,h5,by simp [az.turn,h6]⟩
theorem bq.ly{X:az}{i j:Nat}{q:List Nat->Place}{t:Ty}{x:El t}{cs:List Value}{own:List (List Nat)}(h:bq X (.c i j) t x cs own):bq (X.turn i j q) q t x cs own:=fun p hp=>by
 obtain⟨e,t',xs,v,g0,g1,g2,g3⟩:=h p hp
 exact⟨e,t',xs,v,g0,g1,g2,g3.ly⟩
def kZ(X Y:az):Prop:=Y.w=X.w/\∀g pl n,X.ow g= .row pl n->(∀i j p,pl≠ .c i j p)->Y.ow g= .row pl n
theorem aic{X:az}{i j:Nat}{q:List Nat->Place}:kZ X (X.turn i j q):=⟨rfl,fun g pl n h hp=>by
 simp only[az.turn,h]
 cases pl with
 |c i' j' p=>exact absurd rfl (hp i' j' p)
 |_=>rfl⟩
theorem kZ.refl(X:az):kZ X X:=⟨rfl,fun _ _ _ h _=>h⟩
theorem bq.stay{X Y:az}(h:kZ X Y){pl:List Nat->Place}(hp:∀r i j p,pl r≠ .c i j p){t:Ty}{x:El t}{cs:List Value}{own:List (List Nat)}(ho:bq X pl t x cs own):bq Y pl t x cs own:=fun p hm=>by
 obtain⟨e,t',xs,v,g0,g1,g2,g3⟩:=ho p hm
 refine⟨e,t',xs,v,g0,g1,g2,?_⟩
 rcases g3 with h0|⟨g,cap,cur,h1,h2,h3,h4,h5,h6⟩
 ·exact .inl h0
 ·exact .inr ⟨g,cap,cur,h1,by rw[h.1];exact h2,h3,h4,h5,h.2 g _ _ h6 (hp p)⟩
theorem Rel.take{X:az}{s:State}{a:Act}(hr:Rel X s a){i j:Nat}{t:Ty}{x:El t}{w:List (List Nat)}{v:Value}(h:aA X (.c i j) (.aj t x w) v)(q:List Nat->Place):
 ∃Y,Y.w=X.w/\Ext X Y/\Rel Y (s.close [(i,j)]) a/\aA Y q (.aj t x w) v/\Y.β=X.β/\dE (s.close [(i,j)]) X Y/\kZ X Y:=by
 obtain⟨cs,h1,h2,h3⟩:=h
 have hT:dE (s.close [(i,j)]) X (X.turn i j q):=Nv fun p=>cL.close
 exact⟨X.turn i j q,rfl,hT.ext,(hr.close _).mod hT.mod,⟨cs,h1.av (fun _ _=>hT.aE.1),h2,h3.ly⟩,rfl,hT,aic⟩
def az.dW(X:az)(i d:Nat):az:=
 {X with ow:=fun g=>match X.ow g with
  | .row (.c i' j' p) n=>if i'=i then .row (.c d j' p) n else .row (.c i' j' p) n
  |w=>w}
theorem Nu(t:Nat):∀(n j:Nat),j<n->(t,j)∈jX t n
 |0,j,h=>absurd h (Nat.not_lt_zero j)
 |n+1,j,h=>by
  rcases Nat.lt_or_ge j n with h1|h1
  ·exact List.mem_cons_of_mem _ (Nu t n j h1)
  ·have:j=n:=by omega
   subst this
   simp [jX]
theorem cL.closeAll{s:State}{t j:Nat}{p:List Nat}:¬cL (s.close (jX t (s.slot t).length)) (.c t j p):=fun h=>by
 obtain⟨h1,h2⟩:=cL.jT h
 obtain⟨l,ty,x,own,g1,g2,g3⟩:=h1
 have hl:s.slot t=l:=by simp [State.slot,g1]
 have hj:j<l.length:=(List.getElem?_eq_some_iff.1 g2).1
 exact h2 t j (Nu t _ j (by rw[hl];exact hj)) p rfl
theorem adg{s:State}{X:az}{i d:Nat}(h:∀j p,¬cL s (.c i j p)):dE s X (X.dW i d):=by
 refine⟨rfl,rfl,fun g=> ?_⟩
 simp only[az.dW]
 cases hg:X.ow g with
 |row pl n=>
  cases pl with
  |c i' j' p=>
   by_cases e:i'=i
   ·subst e
    exact .inr ⟨_,n,.c d j' p,rfl,h j' p,by simp⟩
   ·exact .inl (by simp [e])
  |_=>exact .inl rfl
 |_=>exact .inl rfl
theorem bz.il{X:az}{i d j:Nat}{p:List Nat}{e:TypeId}{k n:Nat}{v:Value}(h:bz X (.c i j p) e k n v):bz (X.dW i d) (.c d j p) e k n v:=by
 rcases h with h|⟨g,cap,cur,h1,h2,h3,h4,h5,h6⟩
 ·exact .inl h
 ·exact .inr ⟨g,cap,cur,h1,h2,h3,h4,h5,by simp [az.dW,h6]⟩
theorem aA.il{s:State}{X:az}{i d j:Nat}{sv:SV}{v:Value}(hT:dE s X (X.dW i d))(h:aA X (.c i j) sv v):aA (X.dW i d) (.c d j) sv v:=by
 cases sv with
 |aj t x own=>
  obtain⟨cs,h1,h2,h3⟩:=h
  refine⟨cs,h1.av (fun _ _=>hT.aE.1),h2,fun p hp=> ?_⟩
  obtain⟨e,t',xs,v,g0,g1,g2,g3⟩:=h3 p hp
  exact⟨e,t',xs,v,g0,g1,g2,g3.il⟩
 |view t x=>
  obtain⟨ad,cs,h1,h2,h3,h4⟩:=h
  exact⟨ad,cs,h1,h2,h3.av (fun _ _=>hT.aE.1),fun i u hi=>hT.aE.1 (h4 i u hi)⟩
 |cap f t x u y=>exact uV (fun _ _=>hT.aE.1) h
 |_=>exact h
theorem Rel.xl{X:az}{s:State}{a:Act}(hr:Rel X s a){t:Nat}{v:Value}(h:cM X (.c t) (s.slot t) v)(d:Nat):
 ∃Y,Y.w=X.w/\Ext X Y/\Rel Y (s.close (jX t (s.slot t).length)) a/\cM Y (.c d) (s.slot t) v:=by
 have hT:dE (s.close (jX t (s.slot t).length)) X (X.dW t d):=adg fun j p=>cL.closeAll
 exact⟨X.dW t d,rfl,hT.ext,(hr.close _).mod hT.mod,h.kg fun j sv u hj hu=>hu.il hT⟩
def zt:Ty->List Value
 | .bool=>[.bool false]
 | .int k=>[.int k 0]
 | .str=>[.string ⟨#[]⟩]
 | .sl _ _=>[.slice none 0 0]
 | .arr n t=>(List.replicate n (zt t)).flatten
 | .unit=>[]
 | .pair a b=>zt a++zt b
 | .aZ _ _ _=>[]
def iK(E:Env):List Field->Ty->Nat->Prop
 | [],.unit,_=>True
 |f::r,.pair a b,off=>f.offset=off/\E.ty f.type=some a/\f.name≠ "_" /\iK E r b (off+a.cells)
 |_,_,_=>False
def QL(P:Program)(E:Env)(T:TypeId):Ty->Prop
 | .bool=>P.underlying T=some .bool
 | .int k=>P.underlying T=some (.int k)
 | .str=>P.underlying T=some .string
 | .sl e t=>P.underlying T=some (.slice e)/\E.ty e=some t
 | .arr n t=>∃e,P.underlying T=some (.array n e)/\E.ty e=some t/\P.eqGuardType P.depth T=false
 | .aZ _ _ _=>False
 |t=>∃fs,P.underlying T=some (.struct fs)/\iK E fs.toList t 0/\P.stoodInHeld T=false/\P.eqGuardType P.depth T=false
structure ld(P:Program)(E:Env)(T:TypeId)(t:Ty):Prop where
 info:∃i,P.info? T=some i/\i.size=t.cells/\i.bytes=E.bytes T/\i.zero=some (dJ t (zt t))
 dj:QL P E T t
structure ar(P:Program)(E:Env):Prop where
 ty:∀T t,E.ty T=some t->ld P E T t
 pt:∀T,E.pt T=true->∃e,P.underlying T=some (.pointer e)
 mp:∀T k e,E.mp T=some (k,e)->P.underlying T=some (.map k e)
 bl:∀T e,E.bl T=some e->∃i,P.info? T=some i/\i.zero=some (.agg #[.pointer none,.slice none 0 0])
theorem ar.ij{P:Program}{E:Env}(hE:ar P E){T:TypeId}{t:Ty}(h:E.ty T=some t):t.bM=false:=by
 have:=(hE.ty T t h).dj
 cases t<;>first|rfl|exact this.elim
theorem uQ:∀t:Ty,(zt t).length=t.cells
 | .bool=>rfl
 | .int _=>rfl
 | .str=>rfl
 | .sl _ _=>rfl
 | .unit=>rfl
 | .arr n t=>by simp [zt,Ty.cells,uQ t]
 | .pair a b=>by simp [zt,Ty.cells,uQ a,uQ b]
 | .aZ _ _ _=>rfl
theorem za7{l:List Value}{k:Nat}(hl:l.length=k):∀(n j:Nat),j<n->(((List.replicate n l).flatten).drop (j*k)).take k=l
 |0,j,h=>by omega
 |n+1,0,_=>by
  simp only[List.replicate_succ,List.flatten_cons,Nat.zero_mul,List.drop_zero]
  rw[<-hl];exact List.take_left
 |n+1,j+1,h=>by
  simp only[List.replicate_succ,List.flatten_cons]
  rw[Nat.add_mul,Nat.one_mul,Nat.add_comm,<-List.drop_drop]
  rw[show List.drop k (l++(List.replicate n l).flatten)=(List.replicate n l).flatten by rw[<-hl];exact List.drop_left]
  exact za7 hl n j (by omega)
theorem uv(X:az):∀t:Ty,aW X t (El.bR t) (zt t)
 | .bool=>rfl
 | .int _=>rfl
 | .str=>rfl
 | .unit=>rfl
 | .sl _ t=>⟨none,0,rfl,Nat.le_refl _,fun j x h=>by simp [El.bR] at h⟩
 | .arr n t=>by
   refine⟨by simp [El.bR],by simp [zt,uQ],fun j x h=> ?_⟩
   have hj:j<n:=by
    have:=(List.getElem?_eq_some_iff.1 h).1
    simpa [El.bR] using this
   have hx:x=El.bR t:=by
    simp only[El.bR,List.getElem?_replicate] at h
    rw[if_pos hj] at h
    exact(Option.some.inj h).symm
   subst hx
   have:=za7 (uQ t) n j hj
   simp only[zt]
   rw[this]
   exact uv X t
 | .pair a b=>⟨zt a,zt b,rfl,uv X a,uv X b⟩
 | .aZ _ _ _=>rfl
theorem SK{t:Ty}{c:Value}(h:t.agg=false):dJ t [c]=c:=by simp [dJ,h]
theorem je{t:Ty}{cs:List Value}(h:t.agg=true):dJ t cs= .agg cs.toArray:=by simp [dJ,h]
theorem xu{t:Ty}{X:az}{x:El t}{cs:List Value}(h:aW X t x cs):(dJ t cs).cells=cs.toArray:=by
 cases ht:t.agg with
 |true=>rw[je ht];rfl
 |false=>
  have hl:=h.len
  have h1:=h.one
  have hc:t.cells=1:=by cases t<;>simp_all [Ty.agg,Ty.cells]
  rw[hc] at hl
  match cs,hl with
  | [c],_=>
    rw[SK ht]
    have:=h1 c (by simp)
    cases c<;>simp_all [Value.oneCell',Value.cells]
theorem gy{R:Type}{s:SV}{u:Ty}{K:El u->Option R}{z:R}(h:s.el u K=some z):
 ∃y,K y=some z/\∀(X:az) pl v,aA X pl s v->∃cs,aW X u y cs/\v=dJ u cs:=by
 cases s with
 |aj t x own=>
  simp only[SV.el] at h
  split at h
  ·rename_i he
   have e:=Ty.aR he
   subst e
   exact⟨x,h,fun X pl v hv=>by obtain⟨cs,h1,h2,_⟩:=hv;exact⟨cs,h1,h2⟩⟩
  ·cases h
 |cG=>
  cases u<;>simp only[SV.el] at h<;>first|cases h|skip
  rename_i e t
  refine⟨[],h,fun X pl v hv=>⟨[.slice none 0 0],⟨none,0,rfl,Nat.le_refl _,fun j x hj=>by simp at hj⟩,hv⟩⟩
 |_=>simp [SV.el] at h
theorem kP{X:az}{k:IntKind}{n:Int}{cs:List Value}(h:aW X (.int k) n cs):dJ (.int k) cs= .int k n:=by cases h;rfl
theorem uZ{X:az}{b:Bool}{cs:List Value}(h:aW X .bool b cs):dJ .bool cs= .bool b:=by cases h;rfl
theorem z24{X:az}{s:ByteArray}{cs:List Value}(h:aW X .str s cs):dJ .str cs= .string s:=by cases h;rfl
theorem mO{X:az}{pl:List Nat->Place}{t:Ty}{x:El t}{cs:List Value}:bq X pl t x cs []:=fun p hp=>by cases hp
theorem jd{X:az}{pl:List Nat->Place}{k:IntKind}{n:Int}:aA X pl (.aj (.int k) n []) (.int k n):=⟨[.int k n],rfl,rfl,mO⟩
theorem mN{X:az}{pl:List Nat->Place}{b:Bool}:aA X pl (.aj .bool b []) (.bool b):=⟨[.bool b],rfl,rfl,mO⟩
theorem AV{X:az}{pl:List Nat->Place}{s:ByteArray}:aA X pl (.aj .str s []) (.string s):=⟨[.string s],rfl,rfl,mO⟩
theorem AM{X:az}{pl:List Nat->Place}{k:IntKind}{n:Int}{o:List (List Nat)}{v:Value}(h:aA X pl (.aj (.int k) n o) v):v= .int k n:=by
 obtain⟨cs,h1,h2,_⟩:=h
 rw[h2,kP h1]
theorem Ri{X:az}{pl:List Nat->Place}{b:Bool}{o:List (List Nat)}{v:Value}(h:aA X pl (.aj .bool b o) v):v= .bool b:=by
 obtain⟨cs,h1,h2,_⟩:=h
 rw[h2,uZ h1]
theorem zkb{X:az}{pl:List Nat->Place}{s:ByteArray}{o:List (List Nat)}{v:Value}(h:aA X pl (.aj .str s o) v):v= .string s:=by
 obtain⟨cs,h1,h2,_⟩:=h
 rw[h2,z24 h1]
def Ci:Operand->List Nat->Place
 | .tmp t=> .c t 0
 |_=> .r 0
theorem adx(X:az)(pl:List Nat->Place)(v:Value):aA X pl (A0 v) v:=by
 unfold A0
 split
 ·exact mN
 ·exact jd
 ·exact AV
 ·rfl
 ·rfl
 ·trivial
theorem Rel.slot{X:az}{s:State}{a:Act}(hr:Rel X s a)(t:Nat):cM X (.c t) (s.slot t) (a.tmps.getD t Go.undef):=by
 by_cases h:t<s.sl.length
 ·refine hr.bP t _ _ (xN h) ?_
  have:=hr.size
  simp [Array.getElem?_eq_getElem (show t<a.tmps.size by omega)]
 ·have:s.slot t=[.undef]:=by simp [State.slot,List.getElem?_eq_none (show s.sl.length<=t by omega)]
  rw[this]
  trivial
theorem Rel.aG{X:az}{s:State}{a:Act}(hr:Rel X s a)(x:Operand):aA X (Ci x) (s.aG x) (a.eval x):=by
 cases x with
 |tmp t=>
  have h:=hr.slot t
  unfold State.aG State.xc
  simp only[Ci,Act.eval]
  match hl:s.slot t with
  | []=>trivial
  | [sv]=>rw[hl] at h;exact h
  |_::_::_=>trivial
 |const v=>exact adx X _ v
 |_=>trivial
theorem A5{X:az}{s:State}{a:Act}(hr:Rel X s a){x:Operand}{id:Nat}{t:Ty}{p:List Nat}(h:s.aG x= .ptr id t p):∃B,s.bs[id]? =some (some B):=by
 cases x with
 |tmp i=>
  unfold State.aG State.xc at h
  simp only at h
  by_cases hi:i<s.sl.length
  ·refine hr.live i _ id t p (xN hi) ?_
   match hl:s.slot i,h with
   | [sv],h=>have:sv= .ptr id t p:=h;simp [this]
   | [],h=>simp [one] at h
   |_::_::_,h=>simp [one] at h
  ·have:s.slot i=[.undef]:=by simp [State.slot,List.getElem?_eq_none (Nat.le_of_not_lt hi)]
   rw[this] at h
   simp [one] at h
 |const v=>unfold State.aG State.xc A0 at h;simp only[one] at h;split at h<;>simp at h
 |_=>simp [State.aG,State.xc,one] at h
theorem Rel.fin{Y:az}{s:State}{a:Act}(hr:Rel Y s a){dst:Option Nat}{l:List SV}{v:Value}(h:cM Y (.c (dst.getD 0)) l v)(hl:∀id t p,SV.ptr id t p∈l->∃B,s.bs[id]? =some (some B)):Rel Y (s.aQ dst l) (a.put dst v):=
 hr.put (fun d' e=>by subst e;exact h) hl
def aH(P:Program)(X:az)(s:State)(a:Act)(o:Oper)(u:Out):Prop:=
 ∃Y v,((execOp a.eval o).run P X.w= .ok (.value v) Y.w\/((execOp a.eval o).run P X.w= .ok .skip Y.w/\v=Go.undef))/\Ext X Y/\Rel Y (s.apply o.dst u) (a.put o.dst v)
theorem aH.plain{P:Program}{X:az}{s:State}{a:Act}{o:Oper}(hr:Rel X s a){sv:SV}{v:Value}
 (h:(execOp a.eval o).run P X.w= .ok (.value v) X.w) (hv:aA X (.c (o.dst.getD 0) 0) sv v) (hl:∀id t p,sv= .ptr id t p->∃B,s.bs[id]? =some (some B)):aH P X s a o {v:=[sv]}:=
 ⟨X,v,.inl h,Ext.refl X,hr.fin hv (fun id t p hm=>hl id t p (by have h':=hm;simp at h';exact h'.symm))⟩
theorem aH.As{P:Program}{X:az}{s:State}{a:Act}{o:Oper}(hr:Rel X s a){i j:Nat}{t:Ty}{x:El t}{w:List (List Nat)}{v:Value}
 (h:(execOp a.eval o).run P X.w= .ok (.value v) X.w) (hv:aA X (.c i j) (.aj t x w) v):aH P X s a o {v:=[.aj t x w],cl:=[(i,j)]}:=by
 obtain⟨Y,h1,h2,h3,h4,_,_,_⟩:=hr.take hv (.c (o.dst.getD 0) 0)
 refine⟨Y,v,.inl (by rw[h1];exact h),h2,?_⟩
 exact h3.fin h4 (fun id t p hm=>by simp at hm)
variable {P:Program} {E:Env} {X:az} {s:State} {a:Act} {o:Oper} {u:Out}
def Plain:SV->Prop
 | .aj _ _ (_::_)=>False
 |_=>True
theorem aA.place{pl jb:List Nat->Place}{sv:SV}{v:Value}(h:aA X pl sv v)(hp:Plain sv):aA X jb sv v:=by
 cases sv with
 |aj t x w=>
  cases w with
  |nil=>
   obtain⟨cs,h1,h2,_⟩:=h
   exact⟨cs,h1,h2,mO⟩
  |cons p w=>exact hp.elim
 |_=>exact h
theorem aA.bare{pl jb:List Nat->Place}{t:Ty}{x:El t}{w:List (List Nat)}{v:Value}(h:aA X pl (.aj t x w) v):aA X jb (.aj t x []) v:=by
 obtain⟨cs,h1,h2,_⟩:=h
 exact⟨cs,h1,h2,mO⟩
theorem zje{v:Value}{t:Ty}{y:El t}{w:List (List Nat)}(h:A0 v= .aj t y w):w=[]:=by
 unfold A0 at h
 split at h<;>simp at h
 ·obtain⟨rfl,_,rfl⟩:=h;rfl
 ·obtain⟨rfl,_,rfl⟩:=h;rfl
 ·obtain⟨rfl,_,rfl⟩:=h;rfl
theorem aor{x:Operand}{t:Ty}{y:El t}{w:List (List Nat)}(h:s.aG x= .aj t y w)(hw:w≠ []):∃i,x= .tmp i:=by
 cases x with
 |tmp i=>exact⟨i,rfl⟩
 |const v=>exact absurd (zje h) hw
 |_=>simp [State.aG,State.xc,one] at h
theorem Nj(hr:Rel X s a){x:Operand}(h:(execOp a.eval o).run P X.w= .ok (.value (a.eval x)) X.w)(hp:Plain (s.aG x)):aH P X s a o {v:=[s.aG x]}:=
 aH.plain hr h ((hr.aG x).place hp) (fun id t p e=>A5 hr e)
theorem MK(hr:Rel X s a){x:Operand}{t:Ty}{y:El t}{w:List (List Nat)}(bd:(execOp a.eval o).run P X.w= .ok (.value (a.eval x)) X.w)(e:s.aG x= .aj t y w):aH P X s a o {v:=[.aj t y w],cl:=xL w x}:=by
 have cr:=hr.aG x
 rw[e] at cr
 cases hw:w with
 |nil=>
  subst hw
  exact aH.plain hr bd cr.bare (fun _ _ _ h=>by cases h)
 |cons p w'=>
 rw[<-hw]
 have lJ:xL w x=src x:=by rw[hw];rfl
 rw[lJ]
 clear hw
 cases x with
 |tmp i=>exact aH.As hr bd cr
 |const v=>
  have hw:=zje (show A0 v= .aj t y w from e)
  subst hw
  exact aH.plain hr bd cr.bare (fun _ _ _ h=>by cases h)
 |_=>simp [State.aG,State.xc,one] at e
theorem OG(hr:Rel X s a){T:TypeId}{v:Value}{pl:List Nat->Place}(bd:(execOp a.eval o).run P X.w= .ok (.value v) X.w)(hv:aA X pl .cG v)(h:nM E T some=some u):aH P X s a o u:=by
 unfold nM at h
 split at h
 ·cases h
  refine aH.plain hr bd ⟨[.slice none 0 0],⟨none,0,rfl,Nat.le_refl _,fun j x hj=>by simp at hj⟩,hv,fun p hp=> ?_⟩ (fun _ _ _ e=>by cases e)
  rename_i e t _
  have hp:p=[]:=by simpa using hp
  subst hp
  exact⟨e,t,[],_,by simp [Ty.ff],rfl,rfl,.inl ⟨rfl,rfl⟩⟩
 ·cases h
  exact aH.plain hr bd hv (fun _ _ _ e=>by cases e)
theorem aA.eY{pl jb:List Nat->Place}{sv:SV}{v:Value}(hr:aA X pl sv v):aA X jb sv.shut v:=by
 cases sv with
 |aj t x own=>
  obtain⟨cs,h1,h2,_⟩:=hr
  exact⟨cs,h1,h2,mO⟩
 |_=>exact hr
theorem cM.eY{pl jb:Nat->List Nat->Place}{l:List SV}{v:Value}(hr:cM X pl l v):cM X jb (l.map SV.shut) v:=by
 match l,hr with
 | [s],hr=>exact aA.eY hr
 | [],⟨vs,h1,h2,h3⟩=>exact⟨vs,h1,h2,fun j s u hs=>by simp at hs⟩
 |x::y::r,⟨vs,h1,h2,h3⟩=>
  refine⟨vs,h1,by simpa using h2,fun j s u hs hu=> ?_⟩
  have hs:((x::y::r).map SV.shut)[j]? =some s:=hs
  rw[List.getElem?_map] at hs
  obtain⟨s0,gj,rfl⟩:=Option.map_eq_some_iff.1 hs
  exact aA.eY (h3 j s0 u gj hu)
theorem ahk(hr:Rel X s a){ops:List Oper}{x:Operand}(ho:o.op= .move x){C:FuncId->bO Out}(h:act E C ops o s some=some u):aH P X s a o u:=by
 have bd:(execOp a.eval o).run P X.w= .ok (.value (a.eval x)) X.w:=by simp [execOp,ho]
 unfold act at h
 simp only[ho] at h
 have cr:=hr.aG x
 cases ht:mH s x with
 |some tl=>
  obtain⟨t,l⟩:=tl
  rw[ht] at h
  cases x with
  |tmp i=>
   change(bif Nat.beq (s.slot i).length 1 then none else some (i,s.slot i))=some (t,l) at ht
   cases hb:Nat.beq (s.slot i).length 1 with
   |true=>rw[hb] at ht;cases ht
   |false=>
    rw[hb] at ht
    cases ht
    have Lt:∀id ty p,SV.ptr id ty p∈s.slot t->∃B,s.bs[id]? =some (some B):=fun id ty p hm=>by
     by_cases aq:t<s.sl.length
     ·exact hr.live t _ id _ p (xN aq) hm
     ·have:s.slot t=[.undef]:=by simp [State.slot,List.getElem?_eq_none (Nat.le_of_not_lt aq)]
      rw[this] at hm
      simp at hm
    cases qN:Go.Ref.eY E o.dst with
    |true=>
     rw[qN] at h
     cases h
     refine⟨X,_,.inl bd,Ext.refl X,?_⟩
     refine Rel.fin hr (cM.eY (hr.slot t)) (fun id ty p hm=> ?_)
     obtain⟨s0,gj,he⟩:=List.mem_map.1 hm
     rw[UG he] at gj
     exact Lt id ty p gj
    |false=>
    rw[qN] at h
    cases h
    cases bU:(s.slot t).all fun v=>v.own.isEmpty with
    |true=>
     refine⟨X,_,.inl bd,Ext.refl X,?_⟩
     refine Rel.fin hr ((hr.slot t).kg fun j sv u hj hu=> ?_) (fun id ty p hm=> ?_)
     ·have:=List.all_eq_true.1 bU sv (List.mem_of_getElem? hj)
      refine hu.place ?_
      cases sv with
      |aj ty y w=>
       cases w with
       |nil=>trivial
       |cons p w=>simp [SV.own] at this
      |_=>trivial
     ·by_cases aq:t<s.sl.length
      ·exact hr.live t _ id _ p (xN aq) hm
      ·have:s.slot t=[.undef]:=by simp [State.slot,List.getElem?_eq_none (Nat.le_of_not_lt aq)]
       rw[this] at hm
       simp at hm
    |false=>
    obtain⟨Y,h1,h2,h3,h4⟩:=hr.xl (hr.slot t) (o.dst.getD 0)
    refine⟨Y,_,.inl (by rw[h1];exact bd),h2,?_⟩
    refine h3.fin h4 (fun id ty p hm=> ?_)
    by_cases aq:t<s.sl.length
    ·obtain⟨B,hB⟩:=hr.live t _ id _ p (xN aq) hm
     exact⟨B,by rw[xw];exact hB⟩
    ·have:s.slot t=[.undef]:=by simp [State.slot,List.getElem?_eq_none (Nat.le_of_not_lt aq)]
     rw[this] at hm
     simp at hm
  |_=>cases ht
 |none=>
 rw[ht] at h
 simp only at h
 split at h
 ·rename_i t y w e
  rw[e] at cr
  cases hb:(zyn ops o.dst||takes E o.dst) with
  |true=>
   rw[hb] at h
   cases h
   exact MK hr bd e
  |false=>
   rw[hb] at h
   cases h
   exact aH.plain hr bd cr.bare (fun _ _ _ h=>by cases h)
 ·cases h
 ·rename_i e
  rw[e] at cr
  exact OG hr bd cr h
 ·rename_i h1 h2 h3
  cases h
  refine Nj hr bd ?_
  cases hx:s.aG x with
  |aj t y w=>exact absurd hx (h1 t y w)
  |_=>trivial
theorem adB(hr:Rel X s a){ops:List Oper}{x:Operand}(ho:o.op= .assign x){C:FuncId->bO Out}(h:act E C ops o s some=some u):aH P X s a o u:=by
 have bd:(execOp a.eval o).run P X.w= .ok (.value (a.eval x)) X.w:=by simp [execOp,ho]
 unfold act at h
 simp only[ho] at h
 have cr:=hr.aG x
 split at h
 ·rename_i t y w e
  rw[e] at cr
  cases h
  exact MK hr bd e
 ·cases h
 ·rename_i e
  rw[e] at cr
  exact OG hr bd cr h
 ·rename_i h1 h2 h3
  cases h
  refine Nj hr bd ?_
  cases hx:s.aG x with
  |aj t y w=>exact absurd hx (h1 t y w)
  |_=>trivial
theorem ahm(hr:Rel X s a){ops:List Oper}{c x y:Operand}(ho:o.op= .pick c x y){C:FuncId->bO Out}(h:act E C ops o s some=some u):aH P X s a o u:=by
 unfold act at h
 simp only[ho] at h
 have hc:=hr.aG c
 split at h
 ·rename_i p w e
  rw[e] at hc
  have hv:=Ri hc
  have key:∀z,aH P X s a o {v:=[(s.aG z).shut]}\/(execOp a.eval o).run P X.w≠ .ok (.value (a.eval z)) X.w:=by
   intro z
   by_cases hz:(execOp a.eval o).run P X.w= .ok (.value (a.eval z)) X.w
   ·refine .inl (aH.plain hr hz (hr.aG z).shut (fun id t p e=> ?_))
    exact A5 hr (UG e)
   ·exact .inr hz
  cases p with
  |true=>
   cases h
   exact(key x).resolve_right (by simp [execOp,ho,hv,asBool])
  |false=>
   cases h
   exact(key y).resolve_right (by simp [execOp,ho,hv,asBool])
 ·cases h
theorem TZ(op:BinOp)(T:TypeId)(x y:Operand)(k k':IntKind)(m n:Int)(w:World):(eqGuard op T x y (.int k m) (.int k' n)).run P w= .ok () w:=by
 cases op<;>simp [eqGuard]
theorem zar(op:BinOp)(T:TypeId)(x y:Operand)(m n:ByteArray)(w:World):(eqGuard op T x y (.string m) (.string n)).run P w= .ok () w:=by
 cases op<;>simp [eqGuard]
theorem zto(op:BinOp)(T:TypeId)(x y:Operand)(m n:Bool)(w:World):(eqGuard op T x y (.bool m) (.bool n)).run P w= .ok () w:=by
 cases op<;>simp [eqGuard]
theorem zt7{op:BinOp}{T:TypeId}{k k':IntKind}{m n:Int}{l:List SV}(w:World)(h:qE op k m k' n some=some l):
 ∃sv v,l=[sv]/\(Go.binOp op T (.int k m) (.int k' n)).run P w= .ok v w/\Plain sv/\(∀X pl,aA X pl sv v)/\∀id t p,sv≠ .ptr id t p:=by
 have done:∀{sv:SV} {v:Value},l=[sv]->(Go.binOp op T (.int k m) (.int k' n)).run P w= .ok v w->Plain sv->(∀X pl,aA X pl sv v)->(∀id t p,sv≠ .ptr id t p)->∃sv v,l=[sv]/\(Go.binOp op T (.int k m) (.int k' n)).run P w= .ok v w/\Plain sv/\(∀X pl,aA X pl sv v)/\∀id t p,sv≠ .ptr id t p:=fun h1 h2 h3 h4 h5=>⟨_,_,h1,h2,h3,h4,h5⟩
 have pi:∀{k:IntKind} {n:Int},Plain (.aj (.int k) n []):=trivial
 have pb:∀{b:Bool},Plain (.aj .bool b []):=trivial
 unfold qE at h
 cases op
 case shl=>
  simp only at h
  cases hd:decide (n<0) with
  |true=>rw[hd] at h;cases h
  |false=>
   rw[hd] at h;cases h
   have:¬n<0:=of_decide_eq_false hd
   exact done rfl (by simp [Go.binOp,Op.shift,this]) pi (fun _ _=>jd) (by simp)
 case shr=>
  simp only at h
  cases hd:decide (n<0) with
  |true=>rw[hd] at h;cases h
  |false=>
   rw[hd] at h;cases h
   have:¬n<0:=of_decide_eq_false hd
   exact done rfl (by simp [Go.binOp,Op.shift,this]) pi (fun _ _=>jd) (by simp)
 all_goals
  simp only at h
  split at h
  case isFalse=>cases h
  rename_i hk
  subst hk
 case quo=>
  cases hd:decide (n=0) with
  |true=>rw[hd] at h;cases h
  |false=>
   rw[hd] at h;cases h
   have:¬n=0:=of_decide_eq_false hd
   exact done rfl (by simp [Go.binOp,Op.intDiv,this]) pi (fun _ _=>jd) (by simp)
 case rem=>
  cases hd:decide (n=0) with
  |true=>rw[hd] at h;cases h
  |false=>
   rw[hd] at h;cases h
   have:¬n=0:=of_decide_eq_false hd
   exact done rfl (by simp [Go.binOp,Op.intDiv,this]) pi (fun _ _=>jd) (by simp)
 case add=>cases h;exact done rfl (by simp [Go.binOp,Op.intArith]) pi (fun _ _=>jd) (by simp)
 case sub=>cases h;exact done rfl (by simp [Go.binOp,Op.intArith]) pi (fun _ _=>jd) (by simp)
 case mul=>cases h;exact done rfl (by simp [Go.binOp,Op.intArith]) pi (fun _ _=>jd) (by simp)
 case and=>cases h;exact done rfl (by simp only[Go.binOp,ne_eq,not_true_eq_false,if_false];rfl) pi (fun _ _=>jd) (by simp)
 case or=>cases h;exact done rfl (by simp only[Go.binOp,ne_eq,not_true_eq_false,if_false];rfl) pi (fun _ _=>jd) (by simp)
 case xor=>cases h;exact done rfl (by simp only[Go.binOp,ne_eq,not_true_eq_false,if_false];rfl) pi (fun _ _=>jd) (by simp)
 case andNot=>cases h;exact done rfl (by simp only[Go.binOp,ne_eq,not_true_eq_false,if_false];rfl) pi (fun _ _=>jd) (by simp)
 case eql=>cases h;exact done rfl (by simp only[Go.binOp,ne_eq,not_true_eq_false,if_false];rfl) pb (fun _ _=>mN) (by simp)
 case neq=>cases h;exact done rfl (by simp only[Go.binOp,ne_eq,not_true_eq_false,if_false];rfl) pb (fun _ _=>mN) (by simp)
 case lss=>cases h;exact done rfl (by simp only[Go.binOp,ne_eq,not_true_eq_false,if_false];rfl) pb (fun _ _=>mN) (by simp)
 case leq=>cases h;exact done rfl (by simp only[Go.binOp,ne_eq,not_true_eq_false,if_false];rfl) pb (fun _ _=>mN) (by simp)
 case gtr=>cases h;exact done rfl (by simp only[Go.binOp,ne_eq,not_true_eq_false,if_false];rfl) pb (fun _ _=>mN) (by simp)
 case geq=>cases h;exact done rfl (by simp only[Go.binOp,ne_eq,not_true_eq_false,if_false];rfl) pb (fun _ _=>mN) (by simp)
end Go.Ref

namespace Go.Ref
open Go
variable {P:Program} {E:Env} {X:az} {s:State} {a:Act} {o:Oper} {u:Out}
theorem Yl(x y:ByteArray):(x.toList==y.toList)=decide (x=y):=by
 rw[ByteArray.toList_eq,ByteArray.toList_eq]
 by_cases h:x=y
 ·subst h;simp
 ·have:¬x.data.toList=y.data.toList:=fun e=>h (by
   cases x;cases y
   congr
   exact Array.toList_inj.1 e)
  rw[beq_eq_false_iff_ne.2 this,decide_eq_false h]
theorem akR{op:BinOp}{T:TypeId}{m n:ByteArray}{l:List SV}(w:World)(h:qF op m n some=some l):
 ∃sv v,l=[sv]/\(Go.binOp op T (.string m) (.string n)).run P w= .ok v w/\Plain sv/\(∀X pl,aA X pl sv v)/\∀id t p,sv≠ .ptr id t p:=by
 have pb:∀{b:Bool},Plain (.aj .bool b []):=trivial
 unfold qF at h
 cases op<;>simp only at h<;>first|(cases h;done)|skip
 case add=>
  cases hd:decide (m.size+n.size<=9223372036854775807) with
  |false=>rw[hd] at h;cases h
  |true=>
   rw[hd] at h;cases h
   have h1:=of_decide_eq_true hd
   have h2:¬((((m.size+n.size:Nat)):Int)>IntKind.i64.max):=by
    show¬((((m.size+n.size:Nat)):Int)>9223372036854775807)
    omega
   refine⟨_,_,rfl,?_,trivial,fun _ _=>AV,by simp⟩
   simp only[Go.binOp,Op.stringOp]
   rw[if_neg h2]
   rfl
 all_goals
  cases h
  refine⟨_,_,rfl,?_,pb,fun _ _=>mN,by simp⟩
  simp only[Go.binOp,Op.stringOp,Yl]
  rfl
theorem M8(hE:ar P E){T:TypeId}{t:Ty}(ht:E.ty T=some t)(w:World):(isAgg T).run P w= .ok t.agg w:=by
 have hu:=(hE.ty T t ht).dj
 cases t
 case bool=>simp [isAgg,run_underlying hu,Ty.agg]
 case int=>simp [isAgg,run_underlying hu,Ty.agg]
 case str=>simp [isAgg,run_underlying hu,Ty.agg]
 case sl=>simp [isAgg,run_underlying hu.1,Ty.agg]
 case arr=>obtain⟨e,h1,_⟩:=hu;simp [isAgg,run_underlying h1,Ty.agg]
 case unit=>obtain⟨fs,h1,_⟩:=hu;simp [isAgg,run_underlying h1,Ty.agg]
 case pair=>obtain⟨fs,h1,_⟩:=hu;simp [isAgg,run_underlying h1,Ty.agg]
 case aZ=>exact hu.elim
theorem lC(hE:ar P E){T:TypeId}{t:Ty}(ht:E.ty T=some t)(w:World):(sizeOf T).run P w= .ok t.cells w:=by
 obtain⟨i,h1,h2,_⟩:=(hE.ty T t ht).info
 simp [sizeOf,typeInfo,h1,h2]
theorem Gu(hE:ar P E){T:TypeId}{t:Ty}(ht:E.ty T=some t){x:El t}{cs:List Value}(hr:aW X t x cs){all:Array Value}{off:Nat}(ha:(all.toList.drop off).take t.cells=cs)(w:World):
 (part T all off).run P w= .ok (dJ t cs) w:=by
 have hl:=hr.len
 unfold part
 simp only[Sem.run_bind,M8 hE ht,Result.andThen_ok]
 cases hg:t.agg with
 |true=>
  simp only[if_true,Sem.run_bind,lC hE ht,Result.andThen_ok,Sem.run_pure,je hg]
  congr 2
  apply Array.ext'
  rw[<-ha,Array.toList_extract,List.extract_eq_take_drop]
  simp
 |false=>
  simp only[Bool.false_eq_true,if_false]
  have hc:t.cells=1:=by cases t<;>simp_all [Ty.agg,Ty.cells]
  rw[hc] at hl ha
  match cs,hl with
  | [c],_=>
    rw[SK hg]
    have cI:all[off]? =some c:=by
     have h1:(all.toList.drop off)[0]? =some c:=by
      have:=congrArg (fun l=>l[0]?) ha
      simpa [List.getElem?_take] using this
     simpa using h1
    simp [cI]
def Tk(d:Nat)(xs ys:Array Value)(f:Field)(_:Option Bool×Unit):Sem (ForInStep (Option Bool×Unit)):=
 if f.name≠ "_" then do
  let __do_lift<-part f.type xs f.offset
  let __do_lift_1<-part f.type ys f.offset
  let __do_lift<-Op.equalIn d f.type __do_lift __do_lift_1
  if(!__do_lift)=true then pure (ForInStep.done (some false,()))
   else pure (ForInStep.yield (none,()))
 else pure (ForInStep.yield (none,()))
theorem zy6(hE:ar P E){d:Nat}{xs ys:Array Value}(w:World)
 (ih:∀(t:Ty) (T:TypeId),E.ty T=some t->t.depth<=d->∀(x y:El t) (c1 c2:List Value) (r:Bool),aW X t x c1->aW X t y c2->du t x y=some r->(Op.equalIn d T (dJ t c1) (dJ t c2)).run P w= .ok r w):
 ∀(fl:List Field) (t:Ty) (off:Nat),iK E fl t off->t.depth<=d+1->∀(x y:El t) (c1 c2:List Value) (r:Bool),aW X t x c1->aW X t y c2->(xs.toList.drop off).take t.cells=c1->(ys.toList.drop off).take t.cells=c2->du t x y=some r->
  (forIn fl (none,()) (Tk d xs ys)).run P w= .ok (if r=true then(none,()) else(some false,())) w:=by
 intro fl
 induction fl with
 |nil=>
  intro t off hf hd x y c1 c2 r h1 h2 h3 h4 he
  cases t<;>simp only[iK] at hf<;>try exact hf.elim
  simp only[du,Option.some.injEq] at he
  subst he
  simp [List.forIn_nil]
 |cons f fl ihl=>
  intro t off hf hd x y c1 c2 r h1 h2 h3 h4 he
  cases t<;>simp only[iK] at hf<;>try exact hf.elim
  rename_i ta tb
  obtain⟨ho,HO,hn,eW⟩:=hf
  obtain⟨ca,cb,e1,ra,rb⟩:=h1
  obtain⟨da,db,e2,sa,sb⟩:=h2
  simp only[du] at he
  split at he
  case h_2=>cases he
  rename_i p q hp hq
  cases he
  simp only[Ty.depth] at hd
  have la:=ra.len
  have lb:=rb.len
  have ma:=sa.len
  have mb:=sb.len
  have t1:(xs.toList.drop off).take ta.cells=ca:=by
   have:=congrArg (fun l=>l.take ta.cells) (h3.trans e1)
   simp only[List.take_take,Ty.cells] at this
   rw[Nat.min_eq_left (Nat.le_add_right _ _),<-la,List.take_left] at this
   rw[<-la];exact this
  have t2:(ys.toList.drop off).take ta.cells=da:=by
   have:=congrArg (fun l=>l.take ta.cells) (h4.trans e2)
   simp only[List.take_take,Ty.cells] at this
   rw[Nat.min_eq_left (Nat.le_add_right _ _),<-ma,List.take_left] at this
   rw[<-ma];exact this
  have u1:(xs.toList.drop (off+ta.cells)).take tb.cells=cb:=by
   have:=congrArg (fun l=>l.drop ta.cells) (h3.trans e1)
   simp only[Ty.cells] at this
   rw[List.drop_take,Nat.add_sub_cancel_left,List.drop_drop,<-la,List.drop_left] at this
   rw[<-la];exact this
  have u2:(ys.toList.drop (off+ta.cells)).take tb.cells=db:=by
   have:=congrArg (fun l=>l.drop ta.cells) (h4.trans e2)
   simp only[Ty.cells] at this
   rw[List.drop_take,Nat.add_sub_cancel_left,List.drop_drop,<-ma,List.drop_left] at this
   rw[<-ma];exact this
  have nK:=Gu hE HO ra (all:=xs) (off:=f.offset) (by rw[ho];exact t1) w
  have B8:=Gu hE HO sa (all:=ys) (off:=f.offset) (by rw[ho];exact t2) w
  have heq:=ih ta f.type HO (by omega) x.1 y.1 ca da p ra sa hp
  have LN:(Tk d xs ys f (none,())).run P w= .ok (if p=true then ForInStep.yield (none,()) else ForInStep.done (some false,())) w:=by
   unfold Tk
   rw[if_pos hn]
   simp only[Sem.run_bind,nK,B8,heq,Result.andThen_ok]
   cases p<;>rfl
  rw[List.forIn_cons]
  simp only[Sem.run_bind,LN,Result.andThen_ok]
  cases p with
  |false=>rfl
  |true=>
   simp only[if_true,Bool.true_and]
   exact ihl tb (off+ta.cells) eW (by omega) x.2 y.2 cb db q rb sb u1 u2 hq
theorem ahq(hE:ar P E)(w:World){d n:Nat}{k:IntKind}{T e:TypeId}(ht:P.underlying T=some (.array n e))(he:E.ty e=some (.int k)){x y:List Int}{c1 c2:List Value}(r1:aW X (.arr n (.int k)) x c1)(r2:aW X (.arr n (.int k)) y c2):
 (Op.equalIn (d+2) T (.agg c1.toArray) (.agg c2.toArray)).run P w= .ok (decide (x=y)) w:=by
 obtain⟨l1,m1,e1⟩:=r1
 obtain⟨l2,m2,e2⟩:=r2
 have l1:x.length=n:=l1
 have l2:y.length=n:=l2
 have key:decide (x=y)=(List.range n).all fun i=>decide (x.getD i 0=y.getD i 0):=by
  by_cases An:x=y
  ·rw[decide_eq_true An]
   exact(List.all_eq_true.2 fun i _=>by rw[An];simp).symm
  ·rw[decide_eq_false An]
   cases ha:(List.range n).all fun i=>decide (x.getD i 0=y.getD i 0) with
   |false=>rfl
   |true=>
    refine absurd (List.ext_getElem (l1.trans l2.symm) fun i h1 h2=> ?_) An
    have:=of_decide_eq_true (List.all_eq_true.1 ha i (List.mem_range.2 (by omega)))
    simpa [List.getD_eq_getElem?_getD,List.getElem?_eq_getElem h1,List.getElem?_eq_getElem h2] using this
 rw[key,List.range_eq_range',Op.equalIn]
 simp only[Sem.run_bind,run_underlying ht,Result.andThen_ok,lC hE he,Std.Legacy.Range.forIn_eq_forIn_range',Std.Legacy.Range.size,Nat.sub_zero,Nat.add_sub_cancel,Nat.div_one]
 have hl:∀i∈List.range' 0 n 1,i<n:=fun i hi=>by simpa using(List.mem_range'_1.1 hi).2
 generalize List.range' 0 n 1=l at hl⊢
 induction l with
 |nil=>simp
 |cons i l ih=>
  have hi:i<n:=hl i (by simp)
  have g1:x[i]? =some (x.getD i 0):=by rw[List.getD_eq_getElem?_getD,List.getElem?_eq_getElem (by omega)];rfl
  have g2:y[i]? =some (y.getD i 0):=by rw[List.getD_eq_getElem?_getD,List.getElem?_eq_getElem (by omega)];rfl
  have p1:=e1 i (x.getD i 0) g1
  have p2:=e2 i (y.getD i 0) g2
  have px:=Gu hE he p1 (all:=c1.toArray) (off:=i*(Ty.int k).cells) rfl w
  have py:=Gu hE he p2 (all:=c2.toArray) (off:=i*(Ty.int k).cells) rfl w
  rw[kP p1] at px
  rw[kP p2] at py
  have pe:(Op.equalIn (d+1) e (.int k (x.getD i 0)) (.int k (y.getD i 0))).run P w= .ok (decide (x.getD i 0=y.getD i 0)) w:=by
   have hu:P.underlying e=some (.int k):=(hE.ty e _ he).dj
   unfold Op.equalIn
   simp only[Sem.run_bind,run_underlying hu,Result.andThen_ok,if_true,Sem.run_pure]
   rfl
  simp only[List.forIn_cons,Sem.run_bind,px,py,pe,Result.andThen_ok,List.all_cons]
  cases hb:decide (x.getD i 0=y.getD i 0)
  ·simp
  ·simp only[Bool.not_true,Bool.false_eq_true,if_false,Sem.run_pure,Result.andThen_ok,Bool.true_and]
   exact ih fun j hj=>hl j (by simp [hj])
theorem MR(hE:ar P E)(w:World):∀(d:Nat) (t:Ty) (T:TypeId),E.ty T=some t->t.depth<=d->∀(x y:El t) (c1 c2:List Value) (r:Bool),aW X t x c1->aW X t y c2->du t x y=some r->(Op.equalIn d T (dJ t c1) (dJ t c2)).run P w= .ok r w:=by
 intro d
 induction d with
 |zero=>intro t T ht hd;cases t<;>simp only[Ty.depth] at hd<;>omega
 |succ d ih=>
  intro t T ht hd x y c1 c2 r h1 h2 he
  have hu:=(hE.ty T t ht).dj
  cases t with
  |bool=>
   rw[uZ h1,uZ h2]
   simp only[du,Option.some.injEq] at he
   subst he
   unfold Op.equalIn
   simp only[Sem.run_bind,run_underlying hu,Result.andThen_ok,Sem.run_pure]
  |int k=>
   rw[kP h1,kP h2]
   simp only[du,Option.some.injEq] at he
   subst he
   unfold Op.equalIn
   simp only[Sem.run_bind,run_underlying hu,Result.andThen_ok,if_true,Sem.run_pure]
   rfl
  |str=>
   rw[z24 h1,z24 h2]
   simp only[du,Option.some.injEq] at he
   subst he
   unfold Op.equalIn
   simp only[Sem.run_bind,run_underlying hu,Result.andThen_ok,Sem.run_pure]
   rw[beq_toListBytes,Yl]
  |sl e t=>simp [du] at he
  |arr n t=>
   cases t<;>simp only[du,Option.some.injEq,reduceCtorEq] at he
   rename_i k
   subst he
   obtain⟨e,iY,jM,_⟩:=hu
   obtain⟨d,rfl⟩:∃d',d=d'+1:=⟨d-1,by simp only[Ty.depth] at hd;omega⟩
   rw[je rfl,je rfl]
   exact ahq hE w iY jM h1 h2
  |aZ _ _ _=>exact hu.elim
  |unit=>
   obtain⟨fs,iY,jM,TO,_⟩:=hu
   rw[je rfl,je rfl]
   unfold Op.equalIn
   simp only[Sem.run_bind,run_underlying iY,Result.andThen_ok,run_program,TO,Bool.false_eq_true,if_false]
   rw[<-Array.forIn_toList]
   have:=zy6 (X:=X) hE (d:=d) (xs:=c1.toArray) (ys:=c2.toArray) w ih fs.toList .unit 0 jM hd x y c1 c2 r h1 h2 (by have:=h1.len;simp [Ty.cells] at this⊢;subst this;rfl) (by have:=h2.len;simp [Ty.cells] at this⊢;subst this;rfl) he
   unfold Tk at this
   rw[this]
   simp only[Result.andThen_ok]
   cases r<;>rfl
  |pair ta tb=>
   obtain⟨fs,iY,jM,TO,_⟩:=hu
   rw[je rfl,je rfl]
   unfold Op.equalIn
   simp only[Sem.run_bind,run_underlying iY,Result.andThen_ok,run_program,TO,Bool.false_eq_true,if_false]
   rw[<-Array.forIn_toList]
   have:=zy6 (X:=X) hE (d:=d) (xs:=c1.toArray) (ys:=c2.toArray) w ih fs.toList (.pair ta tb) 0 jM hd x y c1 c2 r h1 h2 (by have:=h1.len;simp only[List.drop_zero];rw[<-this];exact List.take_length) (by have:=h2.len;simp only[List.drop_zero];rw[<-this];exact List.take_length) he
   unfold Tk at this
   rw[this]
   simp only[Result.andThen_ok]
   cases r<;>rfl
end Go.Ref

namespace Go.Ref
open Go
variable {P:Program} {E:Env} {X:az} {s:State} {a:Act} {o:Oper} {u:Out}
theorem akQ(hE:ar P E){op:BinOp}{T:TypeId}{x y:SV}{vx vy:Value}{px py:List Nat->Place}{l:List SV}(w:World)(xo yo:Operand)(hx:aA X px x vx)(hy:aA X py y vy)(h:qD E op T x y some=some l):
 ∃b:Bool,l=bl b/\(eqGuard op T xo yo vx vy).run P w= .ok () w/\(Go.binOp op T vx vy).run P w= .ok (.bool b) w:=by
 unfold qD at h
 split at h
 case h_2=>cases h
 rename_i t ht
 split at h
 ·cases h
 rename_i aap
 obtain⟨m,h,hm⟩:=gy h
 obtain⟨n,h,hn⟩:=gy h
 split at h
 case h_2=>cases h
 rename_i r hr
 obtain⟨c1,r1,e1⟩:=hm X px vx hx
 obtain⟨c2,r2,e2⟩:=hn X py vy hy
 have hd:t.depth<=10000:=by
  have:Nat.ble t.depth 1000=true:=by simpa using aap
  have:=Nat.le_of_ble_eq_true this
  omega
 have heq:=MR hE w 10000 t T ht hd m n c1 c2 r r1 r2 hr
 have hu:=(hE.ty T t ht).dj
 have hg:(eqGuard op T xo yo vx vy).run P w= .ok () w:=by
  cases t
  case bool=>rw[e1,e2,uZ r1,uZ r2];exact zto ..
  case int=>rw[e1,e2,kP r1,kP r2];exact TZ ..
  case str=>rw[e1,e2,z24 r1,z24 r2];exact zar ..
  case sl=>simp [du] at hr
  case arr=>
   obtain⟨fs,_,_,hq⟩:=hu
   rw[e1,e2,je rfl,je rfl]
   cases op<;>simp [eqGuard,hq]
  case aZ=>simp [du] at hr
  all_goals
   obtain⟨fs,_,_,_,hq⟩:=hu
   rw[e1,e2,je rfl,je rfl]
   cases op<;>simp [eqGuard,hq]
 split at h
 ·cases h
  refine⟨r,rfl,hg,?_⟩
  rw[e1,e2]
  cases t
  case int=>rw[kP r1,kP r2];simp only[du,Option.some.injEq] at hr;subst hr;simp only[Go.binOp,ne_eq,not_true_eq_false,if_false];rfl
  case str=>rw[z24 r1,z24 r2];simp only[du,Option.some.injEq] at hr;subst hr;simp only[Go.binOp,Op.stringOp,Yl];rfl
  case bool=>rw[uZ r1,uZ r2] at heq⊢;simp only[Go.binOp,Sem.run_bind,Op.equal,Op.maxDepth,heq,Result.andThen_ok,Sem.run_pure]
  case sl=>simp [du] at hr
  case aZ=>simp [du] at hr
  all_goals
   rw[je rfl,je rfl] at heq⊢
   simp only[Go.binOp,Sem.run_bind,Op.equal,Op.maxDepth,heq,Result.andThen_ok,Sem.run_pure]
 ·cases h
  refine⟨!r,rfl,hg,?_⟩
  rw[e1,e2]
  cases t
  case int=>rw[kP r1,kP r2];simp only[du,Option.some.injEq] at hr;subst hr;simp only[Go.binOp,ne_eq,not_true_eq_false,if_false];rfl
  case str=>rw[z24 r1,z24 r2];simp only[du,Option.some.injEq] at hr;subst hr;simp only[Go.binOp,Op.stringOp,Yl];rfl
  case bool=>rw[uZ r1,uZ r2] at heq⊢;simp only[Go.binOp,Sem.run_bind,Op.equal,Op.maxDepth,heq,Result.andThen_ok,Sem.run_pure]
  case sl=>simp [du] at hr
  case aZ=>simp [du] at hr
  all_goals
   rw[je rfl,je rfl] at heq⊢
   simp only[Go.binOp,Sem.run_bind,Op.equal,Op.maxDepth,heq,Result.andThen_ok,Sem.run_pure]
 ·cases h
theorem T0(op:BinOp)(T:TypeId)(x y:Operand)(p q:Option Addr)(w:World):(eqGuard op T x y (.pointer p) (.pointer q)).run P w= .ok () w:=by
 cases op<;>simp [eqGuard]
theorem alc(d:Nat){T e:TypeId}(hu:P.underlying T=some (.pointer e))(w:World)(ad:Addr):(Op.equalIn (d+1) T (.pointer (some ad)) (.pointer none)).run P w= .ok false w:=by
 unfold Op.equalIn
 simp only[Sem.run_bind,run_underlying hu,Result.andThen_ok,Sem.run_pure]
theorem alb(d:Nat){T e:TypeId}(hu:P.underlying T=some (.pointer e))(w:World):(Op.equalIn (d+1) T (.pointer none) (.pointer none)).run P w= .ok true w:=by
 unfold Op.equalIn
 simp only[Sem.run_bind,run_underlying hu,Result.andThen_ok,Sem.run_pure]
 rfl
theorem an2(hE:ar P E){op:BinOp}{T:TypeId}{x y:SV}{vx vy:Value}{px py:List Nat->Place}{u:Out}(w:World)(xo yo:Operand)(hx:aA X px x vx)(hy:aA X py y vy)(h:bin E op T x y (fun v=>some ({v:=v}:Out))=some u):
 ∃sv v,u={v:=[sv]}/\(eqGuard op T xo yo vx vy).run P w= .ok () w/\(Go.binOp op T vx vy).run P w= .ok v w/\(∀X pl,aA X pl sv v)/\∀id t p,sv≠ .ptr id t p:=by
 unfold bin at h
 split at h
 ·rename_i k m o1 k' n o2
  rw[AM hx,AM hy]
  obtain⟨l,h1,h2⟩:=lF zt6 h
  obtain⟨sv,v,rfl,hv,_,hr,hp⟩:=zt7 (T:=T) w h1
  cases h2
  exact⟨sv,v,rfl,TZ ..,hv,hr,hp⟩
 ·rename_i m o1 n o2
  rw[zkb hx,zkb hy]
  obtain⟨l,h1,h2⟩:=lF zt8 h
  obtain⟨sv,v,rfl,hv,_,hr,hp⟩:=akR (T:=T) w h1
  cases h2
  exact⟨sv,v,rfl,zar ..,hv,hr,hp⟩
 ·obtain⟨r,_,hpv⟩:=hx
  have hy':vy= .pointer none:=hy
  subst hy'
  split at h
  ·cases h
  rename_i mm
  simp only[Bool.or_eq_true,Bool.not_eq_true',not_or,Bool.not_eq_true,Bool.not_eq_false] at mm
  obtain⟨rfl,_⟩:=(p8 mm.1).1 hpv
  obtain⟨e,hu⟩:=hE.pt T mm.2
  have heq:∀ad,(Op.equal T (.pointer (some ad)) (.pointer none)).run P w= .ok false w:=fun ad=>alc 9999 hu w ad
  split at h
  ·cases h
   exact⟨_,_,rfl,T0 ..,by(simp only[Go.binOp,Sem.run_bind,heq,Result.andThen_ok,Sem.run_pure];try rfl),fun _ _=>mN,by simp⟩
  ·cases h
   exact⟨_,_,rfl,T0 ..,by(simp only[Go.binOp,Sem.run_bind,heq,Result.andThen_ok,Sem.run_pure];try rfl),fun _ _=>mN,by simp⟩
  ·cases h
 ·have LO:vx= .pointer none:=hx
  have hy':vy= .pointer none:=hy
  subst LO hy'
  split at h
  ·cases h
  rename_i mm
  obtain⟨e,hu⟩:=hE.pt T (by simpa using mm)
  have heq:(Op.equal T (.pointer none) (.pointer none)).run P w= .ok true w:=alb 9999 hu w
  split at h
  ·cases h
   exact⟨_,_,rfl,T0 ..,by(simp only[Go.binOp,Sem.run_bind,heq,Result.andThen_ok,Sem.run_pure];try rfl),fun _ _=>mN,by simp⟩
  ·cases h
   exact⟨_,_,rfl,T0 ..,by(simp only[Go.binOp,Sem.run_bind,heq,Result.andThen_ok,Sem.run_pure];try rfl),fun _ _=>mN,by simp⟩
  ·cases h
 ·obtain⟨l,h1,h2⟩:=lF zt5 h
  obtain⟨b,rfl,hg,hv⟩:=akQ hE w xo yo hx hy h1
  cases h2
  exact⟨_,_,rfl,hg,hv,fun _ _=>mN,by simp⟩
theorem ak4(hE:ar P E)(hr:Rel X s a){ops:List Oper}{op:BinOp}{T T':TypeId}{x y:Operand}(ho:o.op= .binOp op T x y T'){C:FuncId->bO Out}(h:act E C ops o s some=some u):aH P X s a o u:=by
 unfold act at h
 simp only[ho] at h
 obtain⟨sv,v,rfl,hg,hv,aT,hp⟩:=an2 hE X.w x y (hr.aG x) (hr.aG y) h
 exact aH.plain hr (by simp only[execOp,ho,Sem.run_bind,hg,hv,Result.andThen_ok,Sem.run_pure]) (aT _ _) (fun id t p e=>absurd e (hp id t p))
end Go.Ref

namespace Go.Ref
open Go
variable {P:Program} {E:Env} {X:az} {s:State} {a:Act} {o:Oper} {u:Out}
theorem SE(ad:Addr)(h:ad.spot=none)(m n:Nat):(ad.add m).add n=ad.add (m+n):=by
 unfold Addr.add
 by_cases h1:m=0<;>by_cases h2:n=0<;>simp [h1,h2,Nat.add_assoc]
theorem AU{ad:Addr}(h:ad.spot=none)(m:Nat):(ad.add m).spot=none:=by
 unfold Addr.add
 split
 ·exact h
 ·rfl
theorem j8(g i j:Nat):(⟨g,i,none⟩:Addr).add j=⟨g,i+j,none⟩:=by
 unfold Addr.add
 split<;>simp_all
theorem Ud:∀(t:Ty) (p q:List Nat) (u:Ty),t.at_ p=some u->t.off (p++q)=t.off p+u.off q:=by
 intro t
 induction t with
 |arr n t ih=>
  intro p q u h
  cases p with
  |nil=>simp only[Ty.at_,Option.some.injEq] at h;subst h;simp [Ty.off]
  |cons i p=>
   simp only[Ty.at_] at h
   simp only[List.cons_append,Ty.off,ih p q u h]
   omega
 |pair x y LS LU=>
  intro p q u h
  cases p with
  |nil=>simp only[Ty.at_,Option.some.injEq] at h;subst h;simp [Ty.off]
  |cons i p=>
   cases i with
   |zero=>simp only[Ty.at_] at h;simp only[List.cons_append,Ty.off,LS p q u h]
   |succ i=>
    simp only[Ty.at_] at h
    have:=LU (i::p) q u h
    simp only[List.cons_append,Ty.off] at this⊢
    omega
 |_=>
  intro p q u h
  cases p with
  |nil=>simp only[Ty.at_,Option.some.injEq] at h;subst h;simp [Ty.off]
  |cons i p=>simp [Ty.at_] at h
theorem zep:∀(t:Ty) (p q:List Nat) (u:Ty),t.at_ p=some u->t.ff p->u.ff q->t.ff (p++q):=by
 intro t
 induction t with
 |arr n t ih=>
  intro p q u h hp hq
  cases p with
  |nil=>simp only[Ty.at_,Option.some.injEq] at h;subst h;exact hq
  |cons i p=>exact⟨hp.1,ih p q u h hp.2 hq⟩
 |pair x y LS LU=>
  intro p q u h hp hq
  cases p with
  |nil=>simp only[Ty.at_,Option.some.injEq] at h;subst h;exact hq
  |cons i p=>
   cases i with
   |zero=>exact LS p q u h hp hq
   |succ i=>exact LU (i::p) q u h hp hq
 |_=>
  intro p q u h hp hq
  cases p with
  |nil=>simp only[Ty.at_,Option.some.injEq] at h;subst h;exact hq
  |cons i p=>simp [Ty.at_] at h
theorem getD_some{α:Type}{xs:List α}{i:Nat}(d:α)(h:i<xs.length):xs[i]? =some (xs.getD i d):=by
 simp [List.getD_eq_getElem?_getD,List.getElem?_eq_getElem h]
theorem SH{X:az}:∀{t:Ty} {p:List Nat} {x:El t} {cs:List Value} {u:Ty} {y:El u},aW X t x cs->t.ff p->El.get t p x=some ⟨u,y⟩->
 t.at_ p=some u/\t.off p+u.cells<=t.cells/\aW X u y ((cs.drop (t.off p)).take u.cells):=by
 intro t
 induction t with
 |arr n t ih=>
  intro p x cs u y hr hp h
  cases p with
  |nil=>
   simp only[El.get,Option.some.injEq,Sigma.mk.injEq] at h
   obtain⟨rfl,h⟩:=h
   cases h
   refine⟨rfl,by simp [Ty.off],?_⟩
   have:=hr.len
   simp only[Ty.off,List.drop_zero]
   rw[<-this,List.take_length]
   exact hr
  |cons i p=>
   obtain⟨hi,hp⟩:=hp
   obtain⟨h1,h2,h3⟩:=hr
   simp only[El.get] at h
   obtain⟨k1,k2,k3⟩:=ih (h3 i _ (getD_some (El.bR t) (by omega))) hp h
   have hn:(i+1)*t.cells<=n*t.cells:=Nat.mul_le_mul_right _ hi
   rw[Nat.add_mul,Nat.one_mul] at hn
   refine⟨k1,by simp only[Ty.off,Ty.cells];omega,?_⟩
   simp only[Ty.off]
   rw[List.drop_take,List.take_take,List.drop_drop,Nat.min_eq_left (by omega)] at k3
   exact k3
 |pair ta tb lp lq=>
  intro p x cs u y hr hp h
  cases p with
  |nil=>
   simp only[El.get,Option.some.injEq,Sigma.mk.injEq] at h
   obtain⟨rfl,h⟩:=h
   cases h
   refine⟨rfl,by simp [Ty.off],?_⟩
   have:=hr.len
   simp only[Ty.off,List.drop_zero]
   rw[<-this,List.take_length]
   exact hr
  |cons i p=>
   obtain⟨c1,c2,rfl,r1,r2⟩:=hr
   have l1:=r1.len
   have l2:=r2.len
   cases i with
   |zero=>
    obtain⟨k1,k2,k3⟩:=lp r1 hp h
    refine⟨k1,by simp only[Ty.off,Ty.cells];omega,?_⟩
    simp only[Ty.off]
    rw[List.drop_append_of_le_length (by omega),List.take_append_of_le_length (by rw[List.length_drop];omega)]
    exact k3
   |succ i=>
    obtain⟨k1,k2,k3⟩:=lq r2 hp h
    refine⟨k1,by simp only[Ty.off,Ty.cells];omega,?_⟩
    simp only[Ty.off]
    rw[<-List.drop_drop,<-l1,List.drop_left]
    exact k3
 |_=>
  intro p x cs u y hr hp h
  cases p with
  |nil=>
   simp only[El.get,Option.some.injEq,Sigma.mk.injEq] at h
   obtain⟨rfl,h⟩:=h
   cases h
   refine⟨rfl,by simp [Ty.off],?_⟩
   have:=hr.len
   simp only[Ty.off,List.drop_zero]
   rw[<-this,List.take_length]
   exact hr
  |cons i p=>simp [El.get] at h
theorem Yc:∀(fl:List Field) (t:Ty) (off j:Nat) (ft:Ty),iK E fl t off->t.di=true->t.at_ [j]=some ft->∃f,fl[j]? =some f/\f.offset=off+t.off [j]/\E.ty f.type=some ft/\t.ff [j]:=by
 intro fl
 induction fl with
 |nil=>intro t off j ft hf hp h;cases t<;>simp [iK,Ty.di] at hf hp
 |cons f fl ih=>
  intro t off j ft hf hp h
  cases t<;>simp only[iK] at hf<;>try exact hf.elim
  rename_i ta tb
  obtain⟨h1,h2,h3,h4⟩:=hf
  cases j with
  |zero=>
   simp only[Ty.at_,Option.some.injEq] at h
   subst h
   exact⟨f,rfl,by simp [Ty.off,h1],h2,by simp [Ty.ff]⟩
  |succ j=>
   simp only[Ty.at_] at h
   cases htb:tb.di with
   |true=>
    obtain⟨g,g1,g2,g3,g4⟩:=ih tb (off+ta.cells) j ft h4 htb h
    exact⟨g,g1,by simp only[Ty.off];omega,g3,g4⟩
   |false=>
    cases fl with
    |nil=>cases tb<;>simp [iK,Ty.at_] at h4 h
    |cons g fl=>cases tb<;>simp [iK,Ty.di] at h4 htb
theorem zey(hE:ar P E){T:TypeId}{t:Ty}(ht:E.ty T=some t)(hp:t.di=true):∃fs,P.underlying T=some (.struct fs)/\iK E fs.toList t 0:=by
 have hu:=(hE.ty T t ht).dj
 cases t<;>simp [Ty.di] at hp
 obtain⟨fs,h1,h2,_⟩:=hu
 exact⟨fs,h1,h2⟩
theorem zdh(hE:ar P E){f:Field}{ft:Ty}(hf:E.ty f.type=some ft)(hc:ft.cells≠0)(ad:Addr)(w:World):(fieldPlace ad f).run P w= .ok (ad.add f.offset) w:=by
 simp [fieldPlace,lC hE hf,hc]
theorem Tm:∀(t:Ty) (p:List Nat) (x:El t) (u:Ty) (y:El u),El.get t p x=some ⟨u,y⟩->t.at_ p=some u:=by
 intro t
 induction t with
 |arr n t ih=>
  intro p x u y h
  cases p with
  |nil=>simp only[El.get,Option.some.injEq,Sigma.mk.injEq] at h;rw[Ty.at_,h.1]
  |cons i p=>exact ih p _ u y h
 |pair a b lp lq=>
  intro p x u y h
  cases p with
  |nil=>simp only[El.get,Option.some.injEq,Sigma.mk.injEq] at h;rw[Ty.at_,h.1]
  |cons i p=>
   cases i with
   |zero=>exact lp p _ u y h
   |succ i=>exact lq (i::p) _ u y h
 |_=>
  intro p x u y h
  cases p with
  |nil=>simp only[El.get,Option.some.injEq,Sigma.mk.injEq] at h;rw[Ty.at_,h.1]
  |cons i p=>simp [El.get] at h
theorem acq(hE:ar P E)(hr:Rel X s a){ops:List Oper}{T:TypeId}{x:Operand}{j:Nat}(ho:o.op= .fieldAddr T x j){C:FuncId->bO Out}(h:act E C ops o s some=some u):aH P X s a o u:=by
 unfold act at h
 simp only[ho] at h
 have hx:=hr.aG x
 unfold Tl at h
 split at h
 ·rename_i t u' id root p hT e
  rw[e] at hx
  obtain⟨r,hb,hx⟩:=hx
  split at h
  ·cases h
  rename_i fk
  have fk:root.bM=false:=by simpa using fk
  obtain⟨hv,eE⟩:=(p8 fk).1 hx
  split at h
  case h_2=>cases h
  rename_i u'' b6
  split at h
  case isFalse=>cases h
  rename_i mi
  rw[Bool.and_eq_true] at mi
  obtain⟨heq,fV⟩:=mi
  have:=Ty.aR heq
  subst this
  split at h
  case h_2=>cases h
  rename_i ft TF
  split at h
  ·cases h
  rename_i gN
  cases h
  have hc:ft.cells≠0:=fun e=>gN (by rw[e];rfl)
  obtain⟨fs,iY,jM⟩:=zey hE hT fV
  obtain⟨f,g1,g2,g3,g4⟩:=Yc fs.toList u' 0 j ft jM fV TF
  refine aH.plain hr (v:= .pointer (some ⟨r,root.off (p++ [j]),none⟩)) ?_ ⟨r,hb,(p8 fk).2 ⟨rfl,zep root p [j] u' b6 eE g4⟩⟩ (fun cc t' p' e'=> ?_)
  ·have jH:fs[j]? =some f:=by rw[<-Array.getElem?_toList];exact g1
   simp only[execOp,ho,Sem.run_bind,Instr.fieldAt,run_underlying iY,Result.andThen_ok,jH,hv,Instr.sureAddr,Sem.run_pure,zdh hE g3 hc]
   rw[j8,Ud root p [j] u' b6,g2,Nat.zero_add]
  ·injection e' with e1 e2 e3
   subst e1
   exact A5 hr e
 ·rename_i t u' root y hT e
  rw[e] at hx
  obtain⟨ad,cs,hv,lK,aT,dH⟩:=hx
  split at h
  case isFalse=>cases h
  rename_i mi
  rw[Bool.and_eq_true] at mi
  obtain⟨heq,fV⟩:=mi
  have:=Ty.aR heq
  subst this
  split at h
  case h_2=>cases h
  rename_i ft z TF
  split at h
  ·cases h
  rename_i gN
  cases h
  have hc:ft.cells≠0:=fun e=>gN (by rw[e];rfl)
  obtain⟨fs,iY,jM⟩:=zey hE hT fV
  have b6:u'.at_ [j]=some ft:=Tm u' [j] y ft z TF
  obtain⟨f,g1,g2,g3,g4⟩:=Yc fs.toList u' 0 j ft jM fV b6
  obtain⟨k1,k2,k3⟩:=SH aT g4 TF
  refine aH.plain hr (v:= .pointer (some (ad.add (u'.off [j])))) ?_ ⟨ad.add (u'.off [j]),_,rfl,AU lK _,k3,fun i v hi=> ?_⟩ (fun cc t' p' e'=>by cases e')
  ·have jH:fs[j]? =some f:=by rw[<-Array.getElem?_toList];exact g1
   simp only[execOp,ho,Sem.run_bind,Instr.fieldAt,run_underlying iY,Result.andThen_ok,jH,hv,Instr.sureAddr,Sem.run_pure,zdh hE g3 hc]
   rw[g2,Nat.zero_add]
  ·rw[SE _ lK]
   refine dH _ v ?_
   rw[List.getElem?_take] at hi
   split at hi
   ·rw[List.getElem?_drop] at hi;exact hi
   ·cases hi
 ·cases h
end Go.Ref

namespace Go.Ref
open Go
variable {P:Program} {E:Env} {X:az} {s:State} {a:Act} {o:Oper} {u:Out}
theorem AO{R:Type}{i:Int}{n:Nat}{x:Option R}{z:R}(h:zd i n x=some z):0<=i/\i<(n:Int)/\x=some z:=by
 unfold zd at h
 cases h1:decide (0<=i)<;>rw[h1] at h
 ·cases h
 ·cases h2:decide (i<(n:Int))<;>rw[h2] at h
  ·cases h
  ·exact⟨of_decide_eq_true h1,of_decide_eq_true h2,h⟩
theorem zz1{e:TypeId}{t:Ty}{xs:List (El t)}{cs:List Value}(h:aW X (.sl e t) xs cs):∃A c,dJ (.sl e t) cs= .slice A xs.length c/\xs.length<=c/\
 ∀(j:Nat) x,xs[j]? =some x->∃ad eA,A=some ad/\ad.spot=none/\aW X t x eA/\∀(i:Nat) v,eA[i]? =some v->X.aE (ad.add (j*t.cells+i)) v:=by
 obtain⟨A,c,rfl,h1,h2⟩:=h
 exact⟨A,c,rfl,h1,h2⟩
theorem aW.xi{e:TypeId}{t:Ty}{xs:List (El t)}{A:Option Addr}{n c:Nat}(hn:xs.length=n)(h1:n<=c)(h2:∀(j:Nat) x,xs[j]? =some x->∃ad eA,A=some ad/\ad.spot=none/\aW X t x eA/\∀(i:Nat) v,eA[i]? =some v->X.aE (ad.add (j*t.cells+i)) v):aW X (.sl e t) xs [.slice A n c]:=by
 subst hn
 exact⟨A,c,rfl,h1,h2⟩
theorem ztj{R:Type}{s:SV}{K:Int->Option R}{z:R}(h:s.num K=some z):∃n k,K n=some z/\∀(X:az) pl v,aA X pl s v->v= .int k n:=by
 unfold SV.num at h
 split at h
 ·rename_i k n w
  refine⟨n,k,h,fun X pl v hv=> ?_⟩
  obtain⟨cs,h1,h2,_⟩:=hv
  rw[h2,kP h1]
 ·cases h
theorem acr(hE:ar P E)(hr:Rel X s a){ops:List Oper}{T:TypeId}{x i:Operand}(ho:o.op= .indexAddr T x i){C:FuncId->bO Out}(h:act E C ops o s some=some u):aH P X s a o u:=by
 unfold act at h
 simp only[ho] at h
 have hx:=hr.aG x
 have hi:=hr.aG i
 unfold Tp at h
 obtain⟨n,ik,h,hn⟩:=ztj h
 have ei:=hn X _ _ hi
 split at h
 ·rename_i e t t' xs w hT dS
  rw[dS] at hx
  obtain⟨ys,h,qP⟩:=gy h
  obtain⟨h0,h1,h⟩:=AO h
  cases h
  obtain⟨cs,mG,ev⟩:=qP X (Ci x) _ hx.bare
  obtain⟨A,c,hm,hle,eC⟩:=zz1 mG
  rw[hm] at ev
  have aq:n.toNat<List.length ys:=by omega
  obtain⟨ad,eA,rfl,lK,aT,dH⟩:=eC n.toNat _ (getD_some (El.bR t) aq)
  have hu:=(hE.ty T _ hT).dj
  refine aH.plain hr (v:= .pointer (some (ad.add (n.toNat*t.cells)))) ?_ ⟨ad.add (n.toNat*t.cells),eA,rfl,AU lK _,aT,fun j v hj=> ?_⟩ (fun _ _ _ e'=>by cases e')
  ·simp only[execOp,ho,Sem.run_bind,Instr.indexAt,ei,ev,asIntOf,Sem.run_pure,Result.andThen_ok,run_underlying hu.1,Sem.run_ite,h0,h1,and_self,if_true,lC hE hu.2]
  ·rw[SE _ lK];exact dH j v hj
 ·rename_i m t id root p hT dS
  rw[dS] at hx
  obtain⟨r,hb,hx⟩:=hx
  split at h
  ·cases h
  rename_i fk
  have fk:root.bM=false:=by simpa using fk
  obtain⟨hv,eE⟩:=(p8 fk).1 hx
  split at h
  case h_2=>cases h
  rename_i u'' b6
  split at h
  case isFalse=>cases h
  rename_i heq
  have:=Ty.aR heq
  subst this
  obtain⟨h0,h1,h⟩:=AO h
  cases h
  obtain⟨e,iY,jM,_⟩:=(hE.ty T _ hT).dj
  have aq:n.toNat<m:=by omega
  refine aH.plain hr (v:= .pointer (some ⟨r,root.off (p++ [n.toNat]),none⟩)) ?_ ⟨r,hb,(p8 fk).2 ⟨rfl,zep root p [n.toNat] _ b6 eE ⟨aq,by simp [Ty.ff]⟩⟩⟩ (fun cc t' p' e'=> ?_)
  ·simp only[execOp,ho,Sem.run_bind,Instr.indexAt,ei,hv,asIntOf,Sem.run_pure,Result.andThen_ok,run_underlying iY,Instr.sureAddr,Sem.run_ite,h0,h1,and_self,if_true,lC hE jM]
   rw[j8,Ud root p [n.toNat] _ b6]
   simp [Ty.off]
  ·injection e' with e1 e2 e3
   subst e1
   exact A5 hr dS
 ·rename_i m t t' xs hT dS
  rw[dS] at hx
  obtain⟨ad,cs,hv,lK,aT,dH⟩:=hx
  simp only[SV.el] at h
  split at h
  case isFalse=>cases h
  rename_i heq
  have:=Ty.aR heq
  subst this
  obtain⟨h0,h1,h⟩:=AO h
  cases h
  obtain⟨e,iY,jM,_⟩:=(hE.ty T _ hT).dj
  obtain⟨l1,l2,l3⟩:=aT
  have aq:n.toNat<m:=by omega
  have HL:=l3 n.toNat _ (getD_some (El.bR t) (by omega))
  refine aH.plain hr (v:= .pointer (some (ad.add (n.toNat*t.cells)))) ?_ ⟨ad.add (n.toNat*t.cells),_,rfl,AU lK _,HL,fun j v hj=> ?_⟩ (fun _ _ _ e'=>by cases e')
  ·simp only[execOp,ho,Sem.run_bind,Instr.indexAt,ei,hv,asIntOf,Sem.run_pure,Result.andThen_ok,run_underlying iY,Instr.sureAddr,Sem.run_ite,h0,h1,and_self,if_true,lC hE jM]
  ·rw[SE _ lK]
   refine dH _ v ?_
   rw[List.getElem?_take] at hj
   split at hj
   ·rw[List.getElem?_drop] at hj;exact hj
   ·cases hj
 ·rename_i e0 t id r p hT dS
  rw[dS] at hx
  unfold RG at h
  split at h
  case h_2=>cases h
  rename_i m ta tb
  split at h
  case isFalse=>cases h
  rename_i heq
  have:=Ty.aR heq
  subst this
  obtain⟨h0,h1,h⟩:=AO h
  cases h
  obtain⟨r0,hb,cap,hv,mh⟩:=hx
  have hu:=(hE.ty T _ hT).dj
  refine aH.plain hr (v:= .pointer (some ⟨r0,n.toNat*ta.cells,none⟩)) ?_ ⟨r0,hb,rfl⟩ (fun cc t' p' e'=> ?_)
  ·simp only[execOp,ho,Sem.run_bind,Instr.indexAt,ei,hv,asIntOf,Sem.run_pure,Result.andThen_ok,run_underlying hu.1,Sem.run_ite,h0,h1,and_self,if_true,lC hE hu.2]
   rw[j8,Nat.zero_add]
  ·injection e' with e1 e2 e3
   subst e1
   exact A5 hr dS
 ·cases h
theorem G7{pl:List Nat->Place}{t:Ty}{x:El t}{cs:List Value}(h:aW X t x cs):aA X pl (.aj t x []) (dJ t cs):=⟨cs,h,rfl,mO⟩
theorem aej(hE:ar P E)(hr:Rel X s a){ops:List Oper}{T:TypeId}{x i:Operand}(ho:o.op= .index T x i){C:FuncId->bO Out}(h:act E C ops o s some=some u):aH P X s a o u:=by
 unfold act at h
 simp only[ho] at h
 have hx:=hr.aG x
 have hi:=hr.aG i
 unfold Tq at h
 obtain⟨n,ik,h,hn⟩:=ztj h
 have ei:=hn X _ _ hi
 split at h
 ·rename_i hT
  obtain⟨st,h,cH⟩:=gy h
  obtain⟨h0,h1,h⟩:=AO h
  cases h
  obtain⟨cs,L9,ev⟩:=cH X _ _ hx
  rw[z24 L9] at ev
  have hu:=(hE.ty T _ hT).dj
  have aq:n.toNat<st.size:=by omega
  refine aH.plain hr (v:= .int .u8 (ze st n.toNat)) ?_ jd (fun _ _ _ e'=>by cases e')
  have cI:st[n.toNat]? =some (st[n.toNat]'aq):=getElem?_pos st n.toNat aq
  simp only[execOp,ho,Sem.run_bind,Instr.index,ei,ev,asIntOf,Sem.run_pure,Result.andThen_ok,run_underlying hu,h0,if_true,cI]
  simp [ze,aq]
 ·rename_i m t hT
  obtain⟨ys,h,qP⟩:=gy h
  obtain⟨h0,h1,h⟩:=AO h
  cases h
  obtain⟨cs,mG,ev⟩:=qP X _ _ hx
  rw[je rfl] at ev
  obtain⟨e,iY,jM,_⟩:=(hE.ty T _ hT).dj
  obtain⟨l1,l2,l3⟩:=mG
  have aq:n.toNat<m:=by omega
  have HL:=l3 n.toNat _ (getD_some (El.bR t) (by omega))
  refine aH.plain hr ?_ (G7 HL) (fun _ _ _ e'=>by cases e')
  have hp:=Gu hE jM HL (all:=cs.toArray) (off:=n.toNat*t.cells) rfl X.w
  simp only[execOp,ho,Sem.run_bind,Instr.index,ei,ev,asIntOf,Sem.run_pure,Result.andThen_ok,run_underlying iY,h0,h1,and_self,if_true,lC hE jM,hp]
 ·cases h
theorem aei(hE:ar P E)(hr:Rel X s a){ops:List Oper}{T:TypeId}{x:Operand}{j:Nat}(ho:o.op= .field T x j){C:FuncId->bO Out}(h:act E C ops o s some=some u):aH P X s a o u:=by
 unfold act at h
 simp only[ho] at h
 have hx:=hr.aG x
 split at h
 case h_2=>cases h
 rename_i t hT
 split at h
 ·cases h
 rename_i fV
 have fV:t.di=true:=by simpa using fV
 obtain⟨y,h,hy⟩:=gy h
 split at h
 case h_2=>cases h
 rename_i ft z hg
 cases h
 obtain⟨cs,rep,ev⟩:=hy X _ _ hx
 have qK:t.agg=true:=by cases t<;>simp_all [Ty.di,Ty.agg]
 rw[je qK] at ev
 obtain⟨fs,iY,jM⟩:=zey hE hT fV
 obtain⟨f,g1,g2,g3,eE⟩:=Yc fs.toList t 0 j ft jM fV (Tm t [j] y ft z hg)
 obtain⟨k1,k2,k3⟩:=SH rep eE hg
 have jH:fs[j]? =some f:=by rw[<-Array.getElem?_toList];exact g1
 refine aH.plain hr ?_ (G7 k3) (fun _ _ _ e'=>by cases e')
 have hp:=Gu hE g3 k3 (all:=cs.toArray) (off:=f.offset) (by rw[g2,Nat.zero_add]) X.w
 simp only[execOp,ho,Sem.run_bind,Instr.field,run_underlying iY,Result.andThen_ok,jH,ev,asAgg,Sem.run_pure,hp]
theorem ak7(hE:ar P E)(hr:Rel X s a){ops:List Oper}{x:Operand}{T:TypeId}{er:Array Operand}{ts:Array TypeId}(ho:o.op= .call ⟨.builtin .len,er,ts⟩){C:FuncId->bO Out}(h:act E C ops o s some=some u):aH P X s a o u:=by
 unfold act at h
 simp only[ho] at h
 split at h
 case h_2=>cases h
 rename_i x T qO BM
 have has:er= #[x]:=by rw[<-Array.toArray_toList (xs:=er),qO]
 have gP:ts= #[T]:=by rw[<-Array.toArray_toList (xs:=ts),BM]
 subst has gP
 have hx:=hr.aG x
 unfold tT at h
 split at h
 ·rename_i hT
  obtain⟨st,h,cH⟩:=gy h
  cases h
  obtain⟨cs,L9,ev⟩:=cH X _ _ hx
  rw[z24 L9] at ev
  have hu:=(hE.ty T _ hT).dj
  refine aH.plain hr (v:= .int .i64 st.size) ?_ jd (fun _ _ _ e'=>by cases e')
  simp [execOp,ho,resolve,invoke,builtin,Builtin.len_,ev,run_underlying hu,goInt]
 ·rename_i e t hT
  have hu:=(hE.ty T _ hT).dj
  split at h
  ·rename_i id n ta tb dS
   cases h
   rw[dS] at hx
   obtain⟨r0,hb,cap,ev,mh⟩:=hx
   refine aH.plain hr (v:= .int .i64 n) ?_ jd (fun _ _ _ e'=>by cases e')
   simp [execOp,ho,resolve,invoke,builtin,Builtin.len_,ev,run_underlying hu.1,goInt]
  ·obtain⟨xs,h,aaG⟩:=gy h
   cases h
   obtain⟨cs,Co,ev⟩:=aaG X _ _ hx
   obtain⟨A,c,hm,_,_⟩:=zz1 Co
   rw[hm] at ev
   refine aH.plain hr (v:= .int .i64 (List.length xs)) ?_ jd (fun _ _ _ e'=>by cases e')
   simp [execOp,ho,resolve,invoke,builtin,Builtin.len_,ev,run_underlying hu.1,goInt]
 ·rename_i n t hT
  cases h
  obtain⟨e,iY,jM,_⟩:=(hE.ty T _ hT).dj
  refine aH.plain hr (v:= .int .i64 n) ?_ jd (fun _ _ _ e'=>by cases e')
  simp [execOp,ho,resolve,invoke,builtin,Builtin.len_,run_underlying iY,goInt]
 ·cases h
theorem MN(hr:Rel X s a){ops:List Oper}{g:Bool}{er:Array Operand}{ts:Array TypeId}(ho:o.op= .call ⟨.builtin (if g then .max else .min),er,ts⟩){C:FuncId->bO Out}(h:act E C ops o s some=some u):aH P X s a o u:=by
 have key:∀x y,er= #[x,y]->jR g (s.aG x) (s.aG y) some=some u->aH P X s a o u:=by
  intro x y has h
  subst has
  have hx:=hr.aG x
  have hy:=hr.aG y
  unfold jR at h
  split at h
  case h_2=>cases h
  rename_i k m _ k' n _ e1 e2
  rw[e1] at hx
  rw[e2] at hy
  have vx:=AM hx
  have vy:=AM hy
  cases h
  refine aH.plain hr (v:= .int k (bif g then(if(m:Int)<n then n else m) else(if(n:Int)<m then n else m))) ?_ jd (fun _ _ _ e'=>by cases e')
  cases g
  ·simp [execOp,ho,resolve,invoke,builtin,Builtin.min_,Builtin.min2,vx,vy]
  ·simp [execOp,ho,resolve,invoke,builtin,Builtin.max_,Builtin.max2,vx,vy]
 unfold act at h
 cases g with
 |true=>
  simp only[ho,if_true] at h
  split at h
  ·rename_i x y e
   exact key x y (by rw[<-Array.toArray_toList (xs:=er),e]) h
  ·cases h
 |false=>
  simp only[ho,Bool.false_eq_true,if_false] at h
  split at h
  ·rename_i x y e
   exact key x y (by rw[<-Array.toArray_toList (xs:=er),e]) h
  ·cases h
theorem aob(hr:Rel X s a){ops:List Oper}{op:UnOp}{T:TypeId}{x:Operand}(ho:o.op= .unOp op T x){C:FuncId->bO Out}(h:act E C ops o s some=some u):aH P X s a o u:=by
 unfold act at h
 simp only[ho] at h
 have hx:=hr.aG x
 unfold Mi at h
 split at h
 ·rename_i b w e
  rw[e] at hx
  cases h
  refine aH.plain hr (v:= .bool (!b)) ?_ mN (fun _ _ _ e'=>by cases e')
  simp [execOp,ho,Ri hx,Op.unary]
 ·rename_i k n w e
  rw[e] at hx
  cases h
  refine aH.plain hr (v:= .int k (k.wrap (0-n))) ?_ jd (fun _ _ _ e'=>by cases e')
  simp [execOp,ho,AM hx,Op.unary,Op.intArith]
 ·cases h
theorem acz(hr:Rel X s a){ops:List Oper}{x:Operand}(ho:o.op= .nilCheck x){C:FuncId->bO Out}(h:act E C ops o s some=some u):aH P X s a o u:=by
 unfold act at h
 simp only[ho] at h
 have hx:=hr.aG x
 split at h
 ·rename_i id t p e
  rw[e] at hx
  split at h
  ·cases h
  rename_i fk
  have fk:t.bM=false:=by simpa using fk
  cases h
  obtain⟨r,h1,hx⟩:=hx
  obtain⟨h2,h3⟩:=(p8 fk).1 hx
  refine aH.plain hr (v:= .pointer (some ⟨r,t.off p,none⟩)) ?_ ⟨r,h1,(p8 fk).2 ⟨rfl,h3⟩⟩ (fun cc t' p' e'=> ?_)
  ·simp [execOp,ho,h2]
  ·injection e' with e1 e2 e3
   subst e1
   exact A5 hr e
 ·rename_i t y e
  rw[e] at hx
  cases h
  obtain⟨ad,cs,h1,h2⟩:=hx
  refine aH.plain hr (v:= .pointer (some ad)) ?_ ⟨ad,cs,rfl,h2⟩ (fun _ _ _ e'=>by cases e')
  simp [execOp,ho,h1]
 ·cases h
theorem acZ(hr:Rel X s a){ops:List Oper}{x:Operand}{j:Nat}(ho:o.op= .extract x j){C:FuncId->bO Out}(h:act E C ops o s some=some u):aH P X s a o u:=by
 unfold act at h
 simp only[ho] at h
 split at h
 case h_2=>cases h
 rename_i t
 have hs:=hr.slot t
 split at h
 ·rename_i hlen
  split at h
  case h_2=>cases h
  rename_i tG
  cases h
  have TK:=hr.aG (.tmp t)
  rw[show s.aG (.tmp t)=SV.over from tG] at TK
  have TK:a.eval (.tmp t)= .tuple #[.bool false]:=TK
  refine aH.plain hr (v:= .bool false) ?_ mN (fun _ _ _ e'=>by cases e')
  simp [execOp,ho,TK,Instr.extract]
 rename_i hlen
 have nD:(s.slot t).length≠1:=fun e=>hlen (by rw[e];rfl)
 have aaF:∃vs:Array Value,a.tmps.getD t Go.undef= .tuple vs/\vs.size=(s.slot t).length/\∀(j:Nat) sv v,(s.slot t)[j]? =some sv->vs[j]? =some v->aA X (.c t j) sv v:=by
  match hm:s.slot t with
  | [sv]=>rw[hm] at nD;exact absurd rfl nD
  | []=>rw[hm] at hs;exact hs
  |_::_::_=>rw[hm] at hs;exact hs
 obtain⟨vs,h1,h2,h3⟩:=aaF
 have bd:∀v,vs[j]? =some v->(execOp a.eval o).run P X.w= .ok (.value v) X.w:=by
  intro v hv
  simp only[execOp,ho,Act.eval,h1,Sem.run_bind,Instr.extract,hv,Sem.run_pure,Result.andThen_ok]
 have hv:∀sv,(s.slot t)[j]? =some sv->∃v,vs[j]? =some v:=by
  intro sv j5
  have:=(List.getElem?_eq_some_iff.1 j5).1
  exact⟨_,Array.getElem?_eq_getElem (by omega)⟩
 split at h
 ·rename_i ut y w e
  cases h
  obtain⟨v,hv⟩:=hv _ e
  cases w with
  |nil=>exact aH.plain hr (bd v hv) (h3 j _ v e hv).bare (fun _ _ _ h=>by cases h)
  |cons p w=>exact aH.As hr (bd v hv) (h3 j _ v e hv)
 ·cases h
 ·rename_i sv h4 h5 e
  cases h
  obtain⟨v,hv⟩:=hv _ e
  refine aH.plain hr (bd v hv) ((h3 j _ v e hv).place ?_) (fun id ty p e'=> ?_)
  ·cases sv with
   |aj ut y w=>exact(h4 ut y w rfl).elim
   |_=>trivial
  ·by_cases aq:t<s.sl.length
   ·refine hr.live t _ id ty p (xN aq) ?_
    rw[<-e'];exact List.mem_of_getElem? e
   ·have:s.slot t=[.undef]:=by simp [State.slot,List.getElem?_eq_none (Nat.le_of_not_lt aq)]
    rw[this] at nD
    exact absurd rfl nD
 ·cases h
end Go.Ref

namespace Go.Ref
open Go
variable {P:Program} {E:Env} {X:az} {s:State} {a:Act} {o:Oper} {u:Out}
def m4(v:Option SV)(n:Nat)(d:Nat):Prop:=match v with
 |none=>n=d
 |some v=>∀(X:az) pl val,aA X pl v val->val= .int .i64 (n:Int)
theorem OX{l:Int}{m:Nat}(h1:0<=l)(h2:l<=(m:Int)):l.toNat<=m:=by omega
theorem zz7{l:Int}(h1:0<=l):((l.toNat:Nat):Int)=l:=by omega
theorem zb1{R:Type}{lo:Option SV}{m:Nat}{G:Nat->Option R}{z:R}(h:xT lo m G=some z):∃l,G l=some z/\l<=m/\m4 lo l 0:=by
 unfold xT at h
 cases lo with
 |none=>exact⟨0,h,Nat.zero_le _,rfl⟩
 |some v=>
  obtain⟨l,h,hl⟩:=gy h
  cases h1:decide (0<=l)<;>rw[h1] at h
  ·cases h
  ·cases h2:decide (l<=(m:Int))<;>rw[h2] at h
   ·cases h
   ·have h1:=of_decide_eq_true h1
    have h2:=of_decide_eq_true h2
    refine⟨l.toNat,h,OX h1 h2,fun X pl val hv=> ?_⟩
    obtain⟨cs,r,e⟩:=hl X pl val hv
    rw[e,kP r,zz7 h1]
theorem zy2{R:Type}{lo hi:Option SV}{n:Nat}{F:Nat->Nat->Option R}{z:R}(h:cutAt lo hi n F=some z):∃l m,F l m=some z/\l<=m/\m<=n/\m4 lo l 0/\m4 hi m n:=by
 unfold cutAt at h
 cases hi with
 |none=>
  obtain⟨l,h1,h2,h3⟩:=zb1 h
  exact⟨l,n,h1,h2,Nat.le_refl _,h3,rfl⟩
 |some v=>
  obtain⟨m,h,hm⟩:=gy h
  cases h1:decide (0<=m)<;>rw[h1] at h
  ·cases h
  ·cases h2:decide (m<=(n:Int))<;>rw[h2] at h
   ·cases h
   ·have h1:=of_decide_eq_true h1
    have h2:=of_decide_eq_true h2
    have h:xT lo (Int.toNat m) (fun l=>F l (Int.toNat m))=some z:=h
    obtain⟨l,g1,g2,g3⟩:=zb1 h
    refine⟨l,m.toNat,g1,g2,OX h1 h2,g3,fun X pl val hv=> ?_⟩
    obtain⟨cs,r,e⟩:=hm X pl val hv
    rw[e,kP r,zz7 h1]
theorem m4.val(hr:Rel X s a){x:Option Operand}{n d:Nat}(h:m4 (x.map s.aG) n d):(x=none/\n=d)\/x.map a.eval=some (.int .i64 (n:Int)):=by
 cases x with
 |none=>exact .inl ⟨rfl,h⟩
 |some x=>exact .inr (by rw[Option.map_some,h X _ _ (hr.aG x)])
theorem zea(hr:Rel X s a){isS:Bool}{lo hi:Option Operand}{l m n c:Nat}(hl:m4 (lo.map s.aG) l 0)(hm:m4 (hi.map s.aG) m n)(h1:l<=m)(h2:m<=n)(h3:n<=c)(w:World):
 (Instr.sliceBounds isS n c (lo.map a.eval) (hi.map a.eval) none).run P w= .ok (l,m,c) w:=by
 have sb:∀(i y:Nat) (code:BoundsCode),i<=y->(Instr.sliceBound (.int .i64 (i:Int)) y code).run P w= .ok i w:=by
  intro i y code h
  rw[run_sliceBound (P:=P) (w:=w) .i64 (i:Int) y code (by omega) (by omega)]
  simp
 rcases hl.val hr with⟨rfl,rfl⟩|hl<;>rcases hm.val hr with⟨rfl,rfl⟩|hm
 ·simp [Instr.sliceBounds]
 ·simp [Instr.sliceBounds,hm,sb m c _ (by omega)]
 ·simp [Instr.sliceBounds,hl,sb l m _ h1]
 ·simp [Instr.sliceBounds,hl,hm,sb l m _ h1,sb m c _ (by omega)]
theorem ahi(hE:ar P E)(hr:Rel X s a){T:TypeId}{x:Operand}{lo hi:Option Operand}(ho:o.op= .slice T x lo hi none)(h:qH E T (s.aG x) (lo.map s.aG) (hi.map s.aG) some=some u):aH P X s a o u:=by
 have hx:=hr.aG x
 unfold qH at h
 split at h
 ·rename_i hT
  obtain⟨st,h,cH⟩:=gy h
  obtain⟨l,m,h,h1,h2,hl,hm⟩:=zy2 h
  cases h
  obtain⟨cs,L9,ev⟩:=cH X _ _ hx
  rw[z24 L9] at ev
  have hu:=(hE.ty T _ hT).dj
  refine aH.plain hr (v:= .string (st.extract l m)) ?_ AV (fun _ _ _ e'=>by cases e')
  simp only[execOp,ho,Sem.run_bind,Instr.sliceAt,run_underlying hu,Result.andThen_ok,Instr.slice,ev,Option.map_none,Option.isSome_none,Bool.false_eq_true,if_false,zea hr hl hm h1 h2 (Nat.le_refl _),Sem.run_pure]
 ·rename_i e t hT
  obtain⟨xs,h,qO⟩:=gy h
  obtain⟨l,m,h,h1,h2,hl,hm⟩:=zy2 h
  cases h
  obtain⟨cs,Co,ev⟩:=qO X _ _ hx
  obtain⟨A,c,Lu,hle,eC⟩:=zz1 Co
  rw[Lu] at ev
  have hu:=(hE.ty T _ hT).dj
  have hlen:((List.take m xs).drop l).length=m-l:=by rw[List.length_drop,List.length_take,Nat.min_eq_left h2]
  refine aH.plain hr (v:= .slice (if c=l then A else A.map (·.add (l*t.cells))) (m-l) (c-l)) ?_ ⟨_,aW.xi (A:=if c=l then A else A.map (·.add (l*t.cells))) (n:=m-l) (c:=c-l) hlen (by omega) (fun j y hj=> ?_),rfl,mO⟩ (fun _ _ _ e'=>by cases e')
  ·simp only[execOp,ho,Sem.run_bind,Instr.sliceAt,run_underlying hu.1,Result.andThen_ok,Instr.slice,ev,Option.map_none,zea hr hl hm h1 h2 hle,Sem.run_pure,lC hE hu.2]
  ·have wR:=(List.getElem?_eq_some_iff.1 hj).1
   rw[hlen] at wR
   have Ln:xs[l+j]? =some y:=by
    rw[List.getElem?_drop,List.getElem?_take,if_pos (by omega)] at hj
    exact hj
   obtain⟨ad,eA,rfl,lK,aT,dH⟩:=eC (l+j) y Ln
   rw[if_neg (by omega)]
   refine⟨ad.add (l*t.cells),eA,rfl,AU lK _,aT,fun i v hi=> ?_⟩
   rw[SE _ lK,<-Nat.add_assoc,<-Nat.add_mul]
   exact dH i v hi
 ·cases h
theorem aeg(hE:ar P E)(hr:Rel X s a){S T:TypeId}{x:Operand}(ho:o.op= .convert S T x)(h:kD E S T (s.aG x) some=some u):aH P X s a o u:=by
 have hx:=hr.aG x
 unfold kD at h
 split at h
 ·rename_i k k' hS hT
  obtain⟨n,h,hn⟩:=gy h
  cases h
  obtain⟨cs,rn,ev⟩:=hn X _ _ hx
  rw[kP rn] at ev
  have hu:=(hE.ty S _ hS).dj
  have hv:=(hE.ty T _ hT).dj
  refine aH.plain hr (v:= .int k' (k'.wrap n)) ?_ jd (fun _ _ _ e'=>by cases e')
  simp [execOp,ho,ev,convert,run_underlying hu,run_underlying hv,Conv.intToInt]
 ·rename_i hS hT
  obtain⟨st,h,cH⟩:=gy h
  cases h
  obtain⟨cs,rn,ev⟩:=cH X _ _ hx
  rw[z24 rn] at ev
  have hu:=(hE.ty S _ hS).dj
  have hv:=(hE.ty T _ hT).dj
  refine aH.plain hr (v:= .string st) ?_ AV (fun _ _ _ e'=>by cases e')
  simp [execOp,ho,ev,convert,run_underlying hu,run_underlying hv]
 ·rename_i e hS hT
  obtain⟨xs,h,qO⟩:=gy h
  cases h
  obtain⟨cs,Co,ev⟩:=qO X _ _ hx
  obtain⟨A,c,Lu,hle,eC⟩:=zz1 Co
  rw[Lu] at ev
  have hu:=(hE.ty S _ hS).dj
  have he:=(hE.ty e _ hu.2).dj
  have hv:=(hE.ty T _ hT).dj
  refine aH.plain hr (v:= .string (strOf xs)) ?_ AV (fun _ _ _ e'=>by cases e')
  have key:(convert S T (.slice A (List.length xs) c)).run P X.w= .ok (.string (strOf xs)) X.w:=by
   cases A with
   |none=>
    have tE:xs=[]:=by
     cases xs with
     |nil=>rfl
     |cons y ys=>obtain⟨ad,_,h,_⟩:=eC 0 y rfl;cases h
    rw[run_convert_bytes_nil X.w S e hu.1 he _ _ T hv,tE]
    rfl
   |some ad=>
    rw[run_convert_bytes_string X.w S T e _ _ c hu.1 he hv]
    have jI:(loadCells ad (List.length xs)).run P X.w= .ok (List.map (Value.int .u8) xs).toArray X.w:=by
     have:=run_loadCells_list (P:=P) X.w ad (List.map (Value.int .u8) xs) (fun j v hj=>by
      obtain⟨y,hy,rfl⟩:=List.getElem?_map .. ▸hj|>Option.map_eq_some_iff.1
      obtain⟨pQ,eA,h1,lK,aT,dH⟩:=eC j y hy
      cases h1
      have hc:eA=[.int .u8 y]:=aT
      have:=dH 0 (.int .u8 y) (by rw[hc];rfl)
      have h2:=this.2.1
      simpa [Ty.cells] using h2)
     rw[List.length_map] at this
     exact this
    rw[run_bytesToString X.w ad _ c xs jI,foldl_push_bytes]
    simp [strOf,ByteArray.empty,ByteArray.emptyWithCapacity]
    rfl
  simp only[execOp,ho,Sem.run_bind,ev,key,Result.andThen_ok,Sem.run_pure]
 ·cases h
def az.new(X:az)(cs:Array Value)(T:TypeId)(w:Ow)(β:Nat->Option Nat):az:={w:=X.w.alloc (.cells cs T),ow:=fun g=>if g=X.w.heap.size then w else X.ow g,β}
theorem ztg(X:az)(s:State)(cs:Array Value)(T:TypeId)(w:Ow)(β:Nat->Option Nat)(hβ0:β 0=X.β 0)(hβ:∀(id:Nat) B,s.bs[id]? =some (some B)->β id=X.β id):fa s X (X.new cs T w β) where
 size:=by simp [az.new]
 os:=rfl
 tape:=rfl
 output:=rfl
 mT:=fun g hg=>⟨by simp only[az.new];rw[if_neg (by omega)],RowKit.Below.heap_alloc _ _ _ hg⟩
 β0:=hβ0
 β:=hβ
theorem zk3(X:az)(cs:Array Value)(T:TypeId)(w:Ow)(β:Nat->Option Nat):(X.new cs T w β).w.heap[X.w.heap.size]? =some (.cells cs T (0,0))/\(X.new cs T w β).ow X.w.heap.size=w:=⟨heap_alloc_new X.w _,by simp [az.new]⟩
theorem zet(T:TypeId)(v:Value)(w:World):(newVar T v).run P w= .ok ⟨w.heap.size,0,none⟩ (w.alloc (.cells v.cells T)):=by
 simp [newVar,newRow]
theorem Rel.gn{Y:az}(hr:Rel Y s a){d r:Nat}{B:bB}(hd:d<s.bs.length)(hb:s.bs[d]? =some none)(hβ:Y.β d=some r)(h:bI Y d r B):Rel Y (s.aL (some (d,B))) a where
 size:=hr.size
 hN:=by simpa [State.aL] using hr.hN
 bP:=hr.bP
 boxes:=fun id B' fM=>by
  simp only[State.aL,List.getElem?_set] at fM
  by_cases e:d=id
  ·subst e
   rw[if_pos rfl,if_pos hd] at fM
   cases fM;exact⟨r,hβ,h⟩
  ·rw[if_neg e] at fM
   exact hr.boxes id B' fM
 live:=fun i l id t p hi hm=>by
  obtain⟨B',fM⟩:=hr.live i l id t p hi hm
  simp only[State.aL,List.getElem?_set]
  by_cases e:d=id
  ·subst e;rw[hb] at fM;cases fM
  ·rw[if_neg e];exact⟨B',fM⟩
 defers:=hr.defers
theorem rG{d:Nat}{B:bB}(h:s.box d=some B):s.bs[d]? =some (some B):=by
 unfold State.box at h
 rw[List.getD_eq_getElem?_getD] at h
 cases hg:s.bs[d]? with
 |none=>rw[hg] at h;cases h
 |some x=>rw[hg] at h;simp at h;rw[h]
theorem z157(hr:Rel X s a){x:Operand}{t:Ty}{R:Type}{K:El t->Option R}{z:R}(h:(s.aG x).el t K=some z){c:List (Nat×Nat)}(hc:c=src x\/((s.aG x).own=[]/\c=[])):
 ∃y,K y=some z/\∀q:List Nat->Place,∃Y cs,Y.w=X.w/\Ext X Y/\Rel Y (s.close c) a/\aW Y t y cs/\a.eval x=dJ t cs/\bq Y q t y cs (s.aG x).own/\Y.β=X.β/\dE (s.close c) X Y/\kZ X Y:=by
 have hx:=hr.aG x
 cases hs:s.aG x with
 |aj t' y' w=>
  rw[hs] at hx h hc
  simp only[SV.el] at h
  split at h
  case isFalse=>cases h
  rename_i heq
  have:=Ty.aR heq
  subst this
  refine⟨y',h,fun q=> ?_⟩
  have plain:w=[]->∃Y cs,Y.w=X.w/\Ext X Y/\Rel Y (s.close c) a/\aW Y t' y' cs/\a.eval x=dJ t' cs/\bq Y q t' y' cs (SV.aj t' y' w).own/\Y.β=X.β/\dE (s.close c) X Y/\kZ X Y:=by
   intro hw
   subst hw
   obtain⟨cs,h1,h2,_⟩:=hx
   exact⟨X,cs,rfl,Ext.refl X,hr.close _,h1,h2,mO,rfl,dE.refl _ _,kZ.refl X⟩
  rcases hc with hc|⟨hw,_⟩
  ·cases x with
   |tmp i=>
    obtain⟨Y,h1,h2,h3,⟨cs,h4,h5,h6⟩,h7,h8,h9⟩:=hr.take hx q
    subst hc
    exact⟨Y,cs,h1,h2,h3,h4,h5,h6,h7,h8,h9⟩
   |const v=>exact plain (zje (show A0 v= .aj t' y' w from hs))
   |_=>simp [State.aG,State.xc,one] at hs
  ·exact plain hw
 |cG=>
  rw[hs] at hx h
  cases t<;>simp only[SV.el] at h<;>try(cases h;done)
  rename_i e t
  refine⟨[],h,fun q=>⟨X,[.slice none 0 0],rfl,Ext.refl X,hr.close _,⟨none,0,rfl,Nat.le_refl _,fun j x hj=>by simp at hj⟩,hx,fun p hp=> ?_,rfl,dE.refl _ _,kZ.refl X⟩⟩
  have hp:p=[]:=by simpa [SV.own] using hp
  subst hp
  exact⟨e,t,[],_,by simp [Ty.ff],rfl,rfl,.inl ⟨rfl,rfl⟩⟩
 |_=>rw[hs] at h;simp [SV.el] at h
theorem aH.gn{P:Program}(hr:Rel X s a){d:Nat}{T:TypeId}{t:Ty}{y:El t}{cs:List Value}{own:List (List Nat)}{c:List (Nat×Nat)}{W:az}
 (fk:t.bM=false) (hd:o.dst=some d) (hb:s.bs[d+1]? =some none) (hW:W.w=X.w) (hX:Ext X W) (TM:Rel W (s.close c) a) (aT:aW W t y cs)
 (bU:bq W (.b (d+1)) t y cs own)
 (bd:(execOp a.eval o).run P X.w= .ok (.value (.pointer (some ⟨X.w.heap.size,0,none⟩))) (X.w.alloc (.cells cs.toArray T))):aH P X s a o {v:=[.ptr (d+1) t []],bx:=some (d+1,⟨t,y,own⟩),cl:=c}:=by
 let β:Nat->Option Nat:=fun id=>if id=d+1 then some W.w.heap.size else W.β id
 have aq:d+1<s.bs.length:=(List.getElem?_eq_some_iff.1 hb).1
 have jZ:(s.close c).bs[d+1]? =some none:=by rw[xw];exact hb
 have hk:fa (s.close c) W (W.new cs.toArray T (.box (d+1)) β):=ztg W _ _ _ _ _ (by show(if _ then _ else _)=_;rw[if_neg (by omega)]) (fun id B hB=>by
  show(if id=d+1 then _ else _)=_
  rw[if_neg (fun e=>by rw[e,jZ] at hB;cases hB)])
 obtain⟨n1,n2⟩:=zk3 W cs.toArray T (.box (d+1)) β
 have ci:bI (W.new cs.toArray T (.box (d+1)) β) (d+1) W.w.heap.size ⟨t,y,own⟩:=
  ⟨n2,dA.of fk n1 (by simpa using aT.av (fun _ _=>hk.aE)) (by simpa using bU.dB hk)⟩
 have hβd:β (d+1)=some W.w.heap.size:=by show(if d+1=d+1 then _ else _)=_;rw[if_pos rfl]
 have eN:=(TM.dB hk).gn (by rw[xw];exact aq) jZ hβd ci
 refine⟨W.new cs.toArray T (.box (d+1)) β,.pointer (some ⟨X.w.heap.size,0,none⟩),.inl ?_,hX.trans hk.ext,?_⟩
 ·rw[bd];simp [az.new,hW]
 ·rw[hd]
  refine eN.put (fun d' e=> ?_) (fun id t' p hm=> ?_)
  ·cases e
   refine⟨W.w.heap.size,hβd,(p8 fk).2 ⟨?_,by simp [Ty.ff]⟩⟩
   rw[hW]
   simp [Ty.off]
  ·have:id=d+1:=by have:=hm;simp at this;exact this.1
   subst this
   exact⟨⟨t,y,own⟩,by simp [State.aL,List.getElem?_set,xw,aq]⟩
theorem UJ(hE:ar P E){T:TypeId}{t:Ty}(ht:E.ty T=some t)(w:World):(zeroValue T).run P w= .ok (dJ t (zt t)) w:=by
 obtain⟨i,h1,_,_,h2⟩:=(hE.ty T t ht).info
 simp [zeroValue,typeInfo,h1,h2]
theorem Nf(X:az)(pl:List Nat->Place):∀t:Ty,bq X pl t (El.bR t) (zt t) (xy t):=by
 intro t
 induction t generalizing pl with
 |sl e t=>
  intro p hp
  have hp:p=[]:=by simpa [xy] using hp
  subst hp
  exact⟨e,t,[],.slice none 0 0,by simp [Ty.ff],rfl,rfl,.inl ⟨rfl,rfl⟩⟩
 |pair ta tb lp lq=>
  intro p hp
  simp only[xy,List.mem_append,List.mem_map,List.mem_filterMap] at hp
  rcases hp with⟨q,hq,rfl⟩|⟨q,hq,he⟩
  ·obtain⟨e,t',xs,v,g0,g1,g2,g3⟩:=lp (fun q=>pl (0::q)) q hq
   refine⟨e,t',xs,v,g0,g1,?_,g3⟩
   have hl:=(List.getElem?_eq_some_iff.1 g2).1
   simp only[Ty.off,zt]
   rw[List.getElem?_append_left hl]
   exact g2
  ·cases q with
   |nil=>simp [bump] at he
   |cons j q=>
    simp only[bump,Option.some.injEq] at he
    subst he
    obtain⟨e,t',xs,v,g0,g1,g2,g3⟩:=lq (fun q=>match q with| []=>pl []|j::q=>pl ((j+1)::q)) (j::q) hq
    refine⟨e,t',xs,v,g0,g1,?_,g3⟩
    simp only[Ty.off,zt]
    rw[List.getElem?_append_right (by rw[uQ];omega),uQ,Nat.add_sub_cancel_left]
    exact g2
 |_=>intro p hp;simp [xy] at hp
theorem aH.Cd{P:Program}(hr:Rel X s a){d:Nat}{T e:TypeId}(hd:o.dst=some d)(hb:s.bs[d+1]? =some none)
 (bd:(execOp a.eval o).run P X.w= .ok (.value (.pointer (some ⟨X.w.heap.size,0,none⟩))) (X.w.alloc (.cells #[.pointer none,.slice none 0 0] T))):
 aH P X s a o {v:=[.ptr (d+1) (.aZ (.fQ T e) .unit .unit) []],bx:=some (d+1,⟨.aZ (.fQ T e) .unit .unit,(⟨#[]⟩:ByteArray),[[]]⟩)}:=by
 let β:Nat->Option Nat:=fun id=>if id=d+1 then some X.w.heap.size else X.β id
 have aq:d+1<s.bs.length:=(List.getElem?_eq_some_iff.1 hb).1
 have hk:fa s X (X.new #[.pointer none,.slice none 0 0] T (.box (d+1)) β):=ztg X _ _ _ _ _ (by show(if _ then _ else _)=_;rw[if_neg (by omega)]) (fun id B hB=>by
  show(if id=d+1 then _ else _)=_
  rw[if_neg (fun e=>by rw[e,hb] at hB;cases hB)])
 obtain⟨n1,n2⟩:=zk3 X #[.pointer none,.slice none 0 0] T (.box (d+1)) β
 have ci:bI (X.new #[.pointer none,.slice none 0 0] T (.box (d+1)) β) (d+1) X.w.heap.size ⟨.aZ (.fQ T e) .unit .unit,(⟨#[]⟩:ByteArray),[[]]⟩:=
  ⟨n2,⟨_,n1⟩,fun _=>⟨.slice none 0 0,⟨.inl n1,⟨rfl,.inl ⟨rfl,rfl⟩⟩,by simp [Value.ownBlock]⟩,fun g hg=>by simp [Value.ownBlock] at hg⟩⟩
 have hβd:β (d+1)=some X.w.heap.size:=by show(if d+1=d+1 then _ else _)=_;rw[if_pos rfl]
 have eN:=(hr.dB hk).gn aq hb hβd ci
 refine⟨X.new #[.pointer none,.slice none 0 0] T (.box (d+1)) β,.pointer (some ⟨X.w.heap.size,0,none⟩),.inl bd,hk.ext,?_⟩
 rw[hd]
 refine eN.put (fun d' e=> ?_) (fun id t' p hm=> ?_)
 ·cases e
  exact⟨X.w.heap.size,hβd,(RI rfl).2 ⟨by simp [Ty.off],by simp [Ty.ff]⟩⟩
 ·have:id=d+1:=by have:=hm;simp at this;exact this.1
  subst this
  exact⟨_,by simp [State.aL,List.getElem?_set,aq];rfl⟩
theorem aec(hE:ar P E)(hr:Rel X s a){ops:List Oper}{T:TypeId}(ho:o.op= .alloc T){C:FuncId->bO Out}(h:act E C ops o s some=some u):aH P X s a o u:=by
 unfold act at h
 simp only[ho] at h
 split at h
 case h_3=>cases h
 case h_2=>
  rename_i d hT hd
  split at h
  case h_2=>cases h
  rename_i e BP
  split at h
  case h_2=>cases h
  rename_i hb
  cases h
  obtain⟨i,h1,h2⟩:=hE.bl T e BP
  refine aH.Cd hr hd hb ?_
  have hz:(zeroValue T).run P X.w= .ok (.agg #[.pointer none,.slice none 0 0]) X.w:=by simp [zeroValue,typeInfo,h1,h2]
  simp only[execOp,ho,Sem.run_bind,Instr.alloc,hz,Result.andThen_ok,zet,Sem.run_pure]
  rfl
 rename_i t d hT hd
 split at h
 case h_2=>cases h
 rename_i hb
 cases h
 have aT:=uv X t
 refine aH.gn (T:=T) (cs:=zt t) (W:=X) (c:=[]) hr (hE.ij hT) hd hb rfl (Ext.refl X) hr aT (Nf X _ t) ?_
 simp only[execOp,ho,Sem.run_bind,Instr.alloc,UJ hE hT,Result.andThen_ok,zet,xu aT,Sem.run_pure]
theorem ak5(hE:ar P E)(hr:Rel X s a){ops:List Oper}{T:TypeId}{x:Operand}(ho:o.op= .box T x){C:FuncId->bO Out}(h:act E C ops o s some=some u):aH P X s a o u:=by
 unfold act at h
 simp only[ho] at h
 split at h
 case h_2=>cases h
 rename_i t d hT hd
 split at h
 case h_2=>cases h
 rename_i hb
 obtain⟨y,h,hy⟩:=z157 hr h (.inl rfl)
 cases h
 obtain⟨W,cs,h1,h2,h3,h4,h5,h6,_,_,_⟩:=hy (.b (d+1))
 refine aH.gn (T:=T) (cs:=cs) (W:=W) hr (hE.ij hT) hd hb h1 h2 h3 h4 h6 ?_
 simp only[execOp,ho,Sem.run_bind,Instr.box,zet,Result.andThen_ok,Sem.run_pure,h5,xu h4]
end Go.Ref

namespace Go.Ref
open Go
variable {P:Program} {E:Env} {X:az} {s:State} {a:Act} {o:Oper} {u:Out}
theorem HT(hE:ar P E){T:TypeId}{t:Ty}(ht:E.ty T=some t){x:El t}{cs:List Value}(hr:aW X t x cs){ad:Addr}{w:World}(hc:∀(i:Nat) v,cs[i]? =some v->w.cell? (ad.add i)=some v):(loadVar T ad).run P w= .ok (dJ t cs) w:=by
 have hl:=hr.len
 unfold loadVar
 simp only[Sem.run_bind,M8 hE ht,Result.andThen_ok]
 cases hg:t.agg with
 |true=>
  have:=run_loadCells_list (P:=P) w ad cs hc
  rw[hl] at this
  simp only[if_true,Sem.run_bind,lC hE ht,Result.andThen_ok,this,Sem.run_pure,je hg]
 |false=>
  have h1:t.cells=1:=by cases t<;>simp_all [Ty.agg,Ty.cells]
  rw[h1] at hl
  match cs,hl with
  | [c],_=>
    rw[SK hg]
    have:=hc 0 c rfl
    have h0:ad.add 0=ad:=by simp [Addr.add]
    rw[h0] at this
    simp only[Bool.false_eq_true,if_false,run_load,this]
theorem aer{own:List (List Nat)}{p:List Nat}(h:mZ own p=true):p∈own:=by
 unfold mZ at h
 obtain⟨q,hq,he⟩:=List.any_eq_true.1 h
 rw[<-eq_of_beq he]
 exact hq
theorem zb2{own:List (List Nat)}{p q:List Nat}(h:q∈xM own p):q∈own/\p.isPrefixOf q=false:=by
 unfold xM at h
 rw[List.mem_filter] at h
 exact⟨h.1,by simpa using h.2⟩
theorem Rel.nQ{Y:az}(hr:Rel Y s a){id r:Nat}{B B':bB}(hb:s.bs[id]? =some (some B))(hβ:Y.β id=some r)(h:bI Y id r B'):Rel Y (s.aL (some (id,B'))) a where
 size:=hr.size
 hN:=by simpa [State.aL] using hr.hN
 bP:=hr.bP
 boxes:=fun cc B2 dk=>by
  have aq:id<s.bs.length:=(List.getElem?_eq_some_iff.1 hb).1
  simp only[State.aL,List.getElem?_set] at dk
  by_cases e:id=cc
  ·subst e
   rw[if_pos rfl,if_pos aq] at dk
   cases dk;exact⟨r,hβ,h⟩
  ·rw[if_neg e] at dk
   exact hr.boxes cc B2 dk
 live:=fun i l cc t p hi hm=>by
  have aq:id<s.bs.length:=(List.getElem?_eq_some_iff.1 hb).1
  obtain⟨B2,dk⟩:=hr.live i l cc t p hi hm
  simp only[State.aL,List.getElem?_set]
  by_cases e:id=cc
  ·subst e;exact⟨B',by rw[if_pos rfl,if_pos aq]⟩
  ·rw[if_neg e];exact⟨B2,dk⟩
 defers:=hr.defers
theorem zes{id:Nat}{B B':bB}(hb:s.bs[id]? =some (some B)):(s.aL (some (id,B'))).bs[id]? =some (some B'):=by
 have aq:id<s.bs.length:=(List.getElem?_eq_some_iff.1 hb).1
 simp [State.aL,List.getElem?_set,aq]
theorem UB{r off i:Nat}{cs:Array Value}{T:TypeId}{w:World}(h:w.heap[r]? =some (.cells cs T (0,0))){k:Nat}{v:Value}(hv:((cs.toList.drop off).take k)[i]? =some v):w.cell? ((⟨r,off,none⟩:Addr).add i)=some v:=by
 rw[j8]
 rw[List.getElem?_take] at hv
 split at hv
 ·rw[List.getElem?_drop] at hv
  simpa [World.cell?,h] using hv
 ·cases hv
theorem eR:∀(t:Ty) (p:List Nat) (u:Ty),t.at_ p=some u->t.ff p->t.off p+u.cells<=t.cells:=by
 intro t
 induction t with
 |arr n t ih=>
  intro p u h hp
  cases p with
  |nil=>simp only[Ty.at_,Option.some.injEq] at h;subst h;simp [Ty.off]
  |cons i p=>
   have:=ih p u h hp.2
   have hn:(i+1)*t.cells<=n*t.cells:=Nat.mul_le_mul_right _ hp.1
   rw[Nat.add_mul,Nat.one_mul] at hn
   simp only[Ty.off,Ty.cells]
   omega
 |pair x y LS LU=>
  intro p u h hp
  cases p with
  |nil=>simp only[Ty.at_,Option.some.injEq] at h;subst h;simp [Ty.off]
  |cons i p=>
   cases i with
   |zero=>have:=LS p u h hp;simp only[Ty.off,Ty.cells];omega
   |succ i=>have:=LU (i::p) u h hp;simp only[Ty.off,Ty.cells];omega
 |_=>
  intro p u h hp
  cases p with
  |nil=>simp only[Ty.at_,Option.some.injEq] at h;subst h;simp [Ty.off]
  |cons i p=>simp [Ty.at_] at h
theorem apZ{t:Ty}{p:List Nat}{e:TypeId}{t':Ty}(h:t.ff p)(b6:t.at_ p=some (.sl e t')):t.off p<t.cells:=by
 have:=eR t p _ b6 h
 simp only[Ty.cells] at this
 omega
theorem aep:∀{t:Ty} {p q:List Nat} {x:El t} {u:Ty} {y:El u} {r:(u:Ty)×El u},El.get t p x=some ⟨u,y⟩->t.ff (p++q)->El.get t (p++q) x=some r->u.ff q/\El.get u q y=some r:=by
 intro t
 induction t with
 |arr n t ih=>
  intro p q x u y r h1 h2 h3
  cases p with
  |nil=>simp only[El.get,Option.some.injEq,Sigma.mk.injEq] at h1;obtain⟨rfl,h1⟩:=h1;cases h1;exact⟨h2,h3⟩
  |cons i p=>exact ih h1 h2.2 h3
 |pair ta tb lp lq=>
  intro p q x u y r h1 h2 h3
  cases p with
  |nil=>simp only[El.get,Option.some.injEq,Sigma.mk.injEq] at h1;obtain⟨rfl,h1⟩:=h1;cases h1;exact⟨h2,h3⟩
  |cons i p=>
   cases i with
   |zero=>exact lp h1 h2 h3
   |succ i=>exact lq (p:=i::p) h1 h2 h3
 |_=>
  intro p q x u y r h1 h2 h3
  cases p with
  |nil=>simp only[El.get,Option.some.injEq,Sigma.mk.injEq] at h1;obtain⟨rfl,h1⟩:=h1;cases h1;exact⟨h2,h3⟩
  |cons i p=>simp [El.get] at h1
def az.fX(X:az)(id:Nat)(p:List Nat)(q:List Nat->Place):az:=
 {X with ow:=fun g=>match X.ow g with
  | .row (.b cc p') n=>if cc=id/\p.isPrefixOf p'=true then .row (q (p'.drop p.length)) n else .row (.b cc p') n
  |w=>w}
theorem zz8{s:State}{X:az}{id:Nat}{p:List Nat}{q:List Nat->Place}(h:∀p',¬cL s (.b id (p++p'))):dE s X (X.fX id p q):=by
 refine⟨rfl,rfl,fun g=> ?_⟩
 simp only[az.fX]
 cases hg:X.ow g with
 |row pl n=>
  cases pl with
  |b cc p'=>
   by_cases e:cc=id/\p.isPrefixOf p'=true
   ·obtain⟨rfl,hp⟩:=e
    obtain⟨r,rfl⟩:=List.isPrefixOf_iff_prefix.1 hp
    exact .inr ⟨_,n,q r,rfl,h r,by simp⟩
   ·exact .inl (if_neg e)
  |_=>exact .inl rfl
 |_=>exact .inl rfl
theorem bz.p6{X:az}{id:Nat}{p r:List Nat}{q:List Nat->Place}{e:TypeId}{k n:Nat}{v:Value}(h:bz X (.b id (p++r)) e k n v):bz (X.fX id p q) (q r) e k n v:=by
 rcases h with h|⟨g,cap,cur,h1,h2,h3,h4,h5,h6⟩
 ·exact .inl h
 ·exact .inr ⟨g,cap,cur,h1,h2,h3,h4,h5,by simp [az.fX,h6]⟩
theorem G8(hr:Rel X s a){id:Nat}{t b:Ty}{B:bB}(hB:s.box id=some B)(h:B.t.cu (.aZ .row t b)=true):s.bs[id]? =some (some B)/\∃r,X.β id=some r/\X.ow r= .box id/\∃cs T,X.w.heap[r]? =some (.cells cs T (0,0))/\cs.size=List.length (Ty.cast h B.x:List (El t))*t.cells/\
 ∀(j:Nat) (x:El t),(Ty.cast h B.x:List (El t))[j]? =some x->aW X t x ((cs.toList.drop (j*t.cells)).take t.cells):=by
 have hb:=rG hB
 obtain⟨r,h1,h2,h3⟩:=hr.boxes id B hb
 refine⟨hb,r,h1,h2,?_⟩
 obtain⟨bt,bx,bo⟩:=B
 have e:=Ty.aR h
 simp only at e
 subst e
 obtain⟨cs,T,g1,g2,g3⟩:=h3
 exact⟨cs,T,g1,g2,g3⟩
theorem aef(hE:ar P E)(hr:Rel X s a){S T:TypeId}{x:Operand}(ho:o.op= .convert S T x){id n:Nat}{ta tb:Ty}(dS:s.aG x= .ptr id (.aZ (.fR n) ta tb) [])(h:jD E S T s id n ta tb some=some u):aH P X s a o u:=by
 have hx:=hr.aG x
 rw[dS] at hx
 obtain⟨r0,hβ,cap,hv,mh⟩:=hx
 unfold jD at h
 split at h
 case h_2=>cases h
 rename_i e hS hT
 split at h
 case isFalse=>cases h
 rename_i heq
 have:=Ty.aR heq
 subst this
 split at h
 case h_2=>cases h
 rename_i B hB
 split at h
 case isFalse=>cases h
 rename_i dQ
 obtain⟨hb,r,h1,h2,cs,T',aP,dt,eC⟩:=G8 hr hB dQ
 rw[hβ] at h1
 cases h1
 generalize(Ty.cast dQ B.x:List Int)=xs at*
 cases hn:Nat.beq n (List.length xs) with
 |false=>rw[hn] at h;cases h
 |true=>
  rw[hn] at h
  cases h
  have hn:=Nat.eq_of_beq_eq_true hn
  subst hn
  have hu:=(hE.ty S _ hS).dj
  have he:=(hE.ty e _ hu.2).dj
  have hT:=(hE.ty T _ hT).dj
  refine aH.plain hr (v:= .string (strOf xs)) ?_ AV (fun _ _ _ e'=>by cases e')
  have key:(convert S T (.slice (some ⟨r0,0,none⟩) (List.length xs) cap)).run P X.w= .ok (.string (strOf xs)) X.w:=by
   rw[run_convert_bytes_string X.w S T e _ _ cap hu.1 he hT]
   have jI:(loadCells ⟨r0,0,none⟩ (List.length xs)).run P X.w= .ok (List.map (Value.int .u8) xs).toArray X.w:=by
    have:=run_loadCells_list (P:=P) X.w ⟨r0,0,none⟩ (List.map (Value.int .u8) xs) (fun j v hj=>by
     obtain⟨y,hy,rfl⟩:=List.getElem?_map .. ▸hj|>Option.map_eq_some_iff.1
     have hc:(cs.toList.drop (j*1)).take 1=[.int .u8 y]:=eC j y hy
     have h0:=congrArg (fun l=>l[0]?) hc
     simp only[List.getElem?_take,List.getElem?_drop] at h0
     simp only[Nat.zero_lt_one,if_true,Nat.mul_one,Nat.add_zero,List.getElem?_cons_zero] at h0
     rw[j8,Nat.zero_add]
     simpa [World.cell?,aP] using h0)
    rw[List.length_map] at this
    exact this
   rw[run_bytesToString X.w _ _ cap xs jI,foldl_push_bytes]
   simp [strOf,ByteArray.empty,ByteArray.emptyWithCapacity]
   rfl
  simp only[execOp,ho,Sem.run_bind,hv,key,Result.andThen_ok,Sem.run_pure]
theorem ahg(hE:ar P E)(hr:Rel X s a){ops:List Oper}{S T:TypeId}{x:Operand}(ho:o.op= .convert S T x){C:FuncId->bO Out}(h:act E C ops o s some=some u):aH P X s a o u:=by
 unfold act at h
 simp only[ho] at h
 split at h
 ·rename_i id n ta tb dS
  exact aef hE hr ho dS h
 ·exact aeg hE hr ho h
theorem ac1(hE:ar P E)(hr:Rel X s a){T:TypeId}{u':Ty}{x:Operand}(ho:o.op= .load T x)(hT:E.ty T=some u'){id:Nat}{t:Ty}{p:List Nat}(dS:s.aG x= .ptr id t p)(h:G6 u' s id t p some=some u):aH P X s a o u:=by
 have hx:=hr.aG x
 rw[dS] at hx
 obtain⟨r0,hβ,hv⟩:=hx
 unfold G6 at h
 split at h
 case h_2=>cases h
 rename_i ta tb i
 split at h
 case h_2=>cases h
 rename_i B hB
 split at h
 case isFalse=>cases h
 rename_i dQ
 split at h
 case isFalse=>cases h
 rename_i heq
 have:=Ty.aR heq
 subst this
 obtain⟨hb,r,h1,h2,cs,T',aP,dt,eC⟩:=G8 hr hB dQ
 rw[hβ] at h1
 cases h1
 generalize(Ty.cast dQ B.x:List (El u'))=xs at*
 cases hn:Nat.ble (i+1) (List.length xs) with
 |false=>rw[hn] at h;cases h
 |true=>
  rw[hn] at h
  cases h
  have aq:i<List.length xs:=Nat.le_of_ble_eq_true hn
  have aT:=eC i _ (getD_some (El.bR u') aq)
  have hv:a.eval x= .pointer (some ⟨r0,i*u'.cells,none⟩):=hv
  refine aH.plain hr ?_ (G7 aT) (fun _ _ _ e'=>by cases e')
  have hl:=HT hE hT aT (ad:=⟨r0,i*u'.cells,none⟩) (w:=X.w) (fun j v hj=>UB aP hj)
  simp only[execOp,ho,Sem.run_bind,Instr.loadAt,hv,Instr.sureAddr,Sem.run_pure,Result.andThen_ok,hl]
theorem ac0(hE:ar P E)(hr:Rel X s a){T:TypeId}{u':Ty}{x:Operand}(ho:o.op= .load T x)(hT:E.ty T=some u'){id:Nat}{t:Ty}{p:List Nat}(dS:s.aG x= .ptr id t p){B:bB}(hB:s.box id=some B)(h:IA u' B t p some=some u):aH P X s a o u:=by
 have hx:=hr.aG x
 rw[dS] at hx
 obtain⟨r0,hβ,hv⟩:=hx
 unfold IA at h
 split at h
 case h_2=>cases h
 rename_i n e
 split at h
 case isFalse=>cases h
 rename_i dQ
 split at h
 case isFalse=>cases h
 rename_i heq
 have:=Ty.aR heq
 subst this
 obtain⟨hb,r,h1,h2,cs,T',aP,dt,eC⟩:=G8 hr hB dQ
 rw[hβ] at h1
 cases h1
 generalize(Ty.cast dQ B.x:List (El e))=xs at*
 cases hn:Nat.beq n (List.length xs) with
 |false=>rw[hn] at h;cases h
 |true=>
  rw[hn] at h
  cases h
  have hn:=Nat.eq_of_beq_eq_true hn
  have aT:aW X (.arr n e) xs cs.toList:=⟨hn.symm,by rw[hn];simpa using dt,eC⟩
  have hv:=((p8 rfl).1 hv).1
  have hv:a.eval x= .pointer (some ⟨r0,0,none⟩):=by rw[hv];rfl
  refine aH.plain hr ?_ (G7 aT) (fun _ _ _ e'=>by cases e')
  have hl:=HT hE hT aT (ad:=⟨r0,0,none⟩) (w:=X.w) (fun j v hj=>UB (off:=0) (k:=cs.toList.length) aP (by rw[List.drop_zero,List.take_length];exact hj))
  simp only[execOp,ho,Sem.run_bind,Instr.loadAt,hv,Instr.sureAddr,Sem.run_pure,Result.andThen_ok,hl]
theorem ahj(hE:ar P E)(hr:Rel X s a){ops:List Oper}{T:TypeId}{x:Operand}(ho:o.op= .load T x){C:FuncId->bO Out}(h:act E C ops o s some=some u):aH P X s a o u:=by
 unfold act at h
 simp only[ho] at h
 have hx:=hr.aG x
 unfold load at h
 split at h
 case h_2=>cases h
 rename_i u' hT
 split at h
 ·rename_i t y e
  rw[e] at hx
  obtain⟨ad,cs,hv,lK,aT,dH⟩:=hx
  split at h
  case isFalse=>cases h
  rename_i heq
  have:=Ty.aR heq
  subst this
  cases h
  refine aH.plain hr ?_ (G7 aT) (fun _ _ _ e'=>by cases e')
  have hl:=HT hE hT aT (ad:=ad) (w:=X.w) (fun i v hi=>(dH i v hi).2.1)
  simp only[execOp,ho,Sem.run_bind,Instr.loadAt,hv,Instr.sureAddr,Sem.run_pure,Result.andThen_ok,hl]
 ·rename_i id t p e
  rw[e] at hx
  obtain⟨r,hβ,hx⟩:=hx
  split at h
  ·exact ac1 hE hr ho hT e h
  rename_i fk
  have fk:t.bM=false:=by simpa using fk
  obtain⟨hv,eE⟩:=(p8 fk).1 hx
  split at h
  case h_2=>cases h
  rename_i B hB
  split at h
  case isFalse=>exact ac0 hE hr ho hT e hB h
  rename_i heq
  have dQ:=Ty.aR heq
  split at h
  case h_2=>cases h
  rename_i ut y cI
  split at h
  case isFalse=>cases h
  rename_i BU
  have:=Ty.aR BU
  subst this
  have hb:=rG hB
  obtain⟨r',hβ',wL⟩:=hr.boxes id B hb
  rw[hβ] at hβ'
  cases hβ'
  subst dQ
  obtain⟨cs,T',aP,aT,how,bU⟩:=wL.cells fk
  obtain⟨k1,k2,k3⟩:=SH aT eE cI
  have hl:=HT hE hT k3 (ad:=⟨r,B.t.off p,none⟩) (w:=X.w) (fun i v hi=>UB aP hi)
  have bd:(execOp a.eval o).run P X.w= .ok (.value (dJ u' ((cs.toList.drop (B.t.off p)).take u'.cells))) X.w:=by
   simp only[execOp,ho,Sem.run_bind,Instr.loadAt,hv,Instr.sureAddr,Sem.run_pure,Result.andThen_ok,hl]
  cases hc:zyn ops o.dst||Ap E ops o.dst||QT ops o.dst with
  |false=>
   rw[hc] at h
   cases h
   exact aH.plain hr bd (G7 k3) (fun _ _ _ e'=>by cases e')
  |true=>
   rw[hc] at h
   cases h
   have eV:Rel X (s.aL (some (id,{B with own:=xM B.own p}))) a:=hr.nQ hb hβ ⟨how,dA.of fk aP aT fun q hq=>bU q (zb2 hq).1⟩
   have HN:∀q,¬cL (s.aL (some (id,{B with own:=xM B.own p}))) (.b id (p++q)):=by
    rintro q ⟨B2,dk,hp⟩
    rw[zes hb] at dk
    cases dk
    have:=(zb2 hp).2
    rw[List.isPrefixOf_iff_prefix.2 (List.prefix_append p q)] at this
    cases this
   have lI:=zz8 (X:=X) (q:= .c (o.dst.getD 0) 0) HN
   refine⟨X.fX id p (.c (o.dst.getD 0) 0),_,.inl bd,lI.ext,(eV.mod lI.mod).fin ⟨_,k3.av (fun _ _=>lI.aE.1),rfl,?_⟩ (fun id t p hm=>by simp at hm)⟩
   intro q hq
   obtain⟨q0,hq0,rfl⟩:=List.mem_map.1 hq
   obtain⟨hq1,hq2⟩:=List.mem_filter.1 hq0
   obtain⟨q,rfl⟩:=List.isPrefixOf_iff_prefix.1 hq2
   rw[List.drop_left]
   obtain⟨e',t',xs,v,h0,h1,h2,h3⟩:=bU _ hq1
   obtain⟨j1,j2⟩:=aep cI h0 h1
   have hle:=apZ j1 (Tm _ _ _ _ _ j2)
   refine⟨e',t',xs,v,j1,j2,?_,h3.p6⟩
   rw[Ud _ _ _ _ k1] at h2
   rw[List.getElem?_take,if_pos hle,List.getElem?_drop]
   exact h2
 ·cases h
theorem zke{cs c:List Value}{off:Nat}(h:off+c.length<=cs.length)(j k:Nat):(∀h1:j+k<=off\/off+c.length<=j,((cs.take off++c++cs.drop (off+c.length)).drop j).take k=(cs.drop j).take k):=by
 intro h1
 apply List.ext_getElem?
 intro q
 simp only[List.getElem?_take,List.getElem?_drop]
 split
 ·rename_i hq
  rw[List.append_assoc]
  rcases h1 with h1|h1
  ·rw[List.getElem?_append_left (by rw[List.length_take];omega),List.getElem?_take,if_pos (by omega)]
  ·rw[List.getElem?_append_right (by rw[List.length_take];omega),List.length_take,Nat.min_eq_left (by omega),List.getElem?_append_right (by omega),List.getElem?_drop]
   congr 1
   omega
 ·rfl
theorem fN{X:az}:∀{t:Ty} {p:List Nat} {x:El t} {cs:List Value} {u:Ty} {y:El u} {z:El t} {c:List Value},aW X t x cs->t.ff p->t.at_ p=some u->El.set t p x u y=some z->aW X u y c->
 aW X t z (cs.take (t.off p)++c++cs.drop (t.off p+c.length)):=by
 intro t
 induction t with
 |arr n t ih=>
  intro p x cs u y z c hr hp b6 h hc
  have lJ:=hc.len
  cases p with
  |nil=>
   simp only[Ty.at_,Option.some.injEq] at b6
   subst b6
   simp only[El.set,Ty.bS,dite_true,Option.some.injEq] at h
   subst h
   have hl:=hr.len
   simp only[Ty.off,Nat.zero_add,List.take_zero,List.nil_append]
   rw[lJ,<-hl,List.drop_length,List.append_nil]
   exact hc
  |cons i p=>
   obtain⟨hi,hp⟩:=hp
   obtain⟨h1,h2,h3⟩:=hr
   simp only[El.set] at h
   obtain⟨z',mz,rfl⟩:=Option.map_eq_some_iff.1 h
   have mg:t.at_ p=some u:=b6
   have hle:=eR t p u mg hp
   have hn:(i+1)*t.cells<=n*t.cells:=Nat.mul_le_mul_right _ hi
   rw[Nat.add_mul,Nat.one_mul] at hn
   have hi':=ih (h3 i _ (getD_some (El.bR t) (by omega))) hp mg mz hc
   have dh:i*t.cells+t.off p+c.length<=cs.length:=by rw[lJ,h2];omega
   refine⟨by simpa using h1,?_,fun j w hj=> ?_⟩
   ·simp only[Ty.off,List.length_append,List.length_take,List.length_drop];omega
   ·simp only[Ty.off]
    by_cases e:j=i
    ·subst e
     rw[List.getElem?_set_self (by omega)] at hj
     cases hj
     have hL:((cs.take (j*t.cells+t.off p)++c++cs.drop (j*t.cells+t.off p+c.length)).drop (j*t.cells)).take t.cells=
      ((cs.drop (j*t.cells)).take t.cells).take (t.off p)++c++((cs.drop (j*t.cells)).take t.cells).drop (t.off p+c.length):=by
      apply List.ext_getElem?
      intro q
      rw[List.append_assoc,List.append_assoc]
      simp only[List.getElem?_take,List.getElem?_drop,List.getElem?_append,List.length_take,List.length_drop]
      rw[Nat.min_eq_left (show j*t.cells+t.off p<=cs.length by omega),Nat.min_eq_left (show t.cells<=cs.length-j*t.cells by omega),Nat.min_eq_left (show t.off p<=t.cells by omega)]
      by_cases q1:q<t.cells
      ·by_cases q2:q<t.off p
       ·rw[if_pos q1,if_pos (by omega),if_pos (by omega),if_pos q2,if_pos q2,if_pos q1]
       ·by_cases q3:q-t.off p<c.length
        ·rw[if_pos q1,if_neg (by omega),if_pos (by omega),if_neg q2,if_pos q3]
         congr 1
         omega
        ·rw[if_pos q1,if_neg (by omega),if_neg (by omega),if_neg q2,if_neg q3,if_pos (by omega)]
         congr 1
         omega
      ·rw[if_neg q1,if_neg (by omega),if_neg (by omega),if_neg (by omega)]
     rw[hL]
     exact hi'
    ·rw[List.getElem?_set_ne (Ne.symm e)] at hj
     have wR:=(List.getElem?_eq_some_iff.1 hj).1
     rw[zke dh (j*t.cells) t.cells ?_]
     ·exact h3 j w hj
     ·rcases Nat.lt_or_gt_of_ne e with aq|hgt
      ·have:(j+1)*t.cells<=i*t.cells:=Nat.mul_le_mul_right _ aq
       rw[Nat.add_mul,Nat.one_mul] at this
       exact .inl (by omega)
      ·have:(i+1)*t.cells<=j*t.cells:=Nat.mul_le_mul_right _ hgt
       rw[Nat.add_mul,Nat.one_mul] at this
       exact .inr (by omega)
 |pair ta tb lp lq=>
  intro p x cs u y z c hr hp b6 h hc
  have lJ:=hc.len
  cases p with
  |nil=>
   simp only[Ty.at_,Option.some.injEq] at b6
   subst b6
   simp only[El.set,Ty.bS,dite_true,Option.some.injEq] at h
   subst h
   have hl:=hr.len
   simp only[Ty.off,Nat.zero_add,List.take_zero,List.nil_append]
   rw[lJ,<-hl,List.drop_length,List.append_nil]
   exact hc
  |cons i p=>
   obtain⟨c1,c2,rfl,r1,r2⟩:=hr
   have l1:=r1.len
   have l2:=r2.len
   cases i with
   |zero=>
    simp only[El.set] at h
    obtain⟨z',mz,rfl⟩:=Option.map_eq_some_iff.1 h
    have mg:ta.at_ p=some u:=b6
    have hle:=eR ta p u mg hp
    have:=lp r1 hp mg mz hc
    refine⟨_,c2,?_,this,r2⟩
    simp only[Ty.off]
    rw[List.take_append_of_le_length (by omega),List.drop_append_of_le_length (by omega)]
    simp [List.append_assoc]
   |succ i=>
    simp only[El.set] at h
    obtain⟨z',mz,rfl⟩:=Option.map_eq_some_iff.1 h
    have mg:tb.at_ (i::p)=some u:=b6
    have hle:=eR tb (i::p) u mg hp
    have:=lq r2 hp mg mz hc
    refine⟨c1,_,?_,r1,this⟩
    simp only[Ty.off]
    rw[<-l1,List.take_length_add_append,Nat.add_assoc,List.drop_length_add_append]
    simp [List.append_assoc]
 |_=>
  intro p x cs u y z c hr hp b6 h hc
  have lJ:=hc.len
  cases p with
  |nil=>
   simp only[Ty.at_,Option.some.injEq] at b6
   subst b6
   simp only[El.set,Ty.bS,dite_true,Option.some.injEq] at h
   first|subst h|skip
   have hl:=hr.len
   simp only[Ty.off,Nat.zero_add,List.take_zero,List.nil_append]
   rw[lJ,<-hl,List.drop_length,List.append_nil]
   exact hc
  |cons i p=>simp [Ty.at_] at b6
end Go.Ref

namespace Go.Ref
open Go
variable {P:Program} {E:Env} {X:az} {s:State} {a:Act} {o:Oper} {u:Out}
theorem acC:∀{t:Ty} {p q:List Nat} {x:El t} {u:Ty} {y:El u} {z:El t} {e:TypeId} {t':Ty} {xs:El (.sl e t')},El.set t p x u y=some z->t.at_ p=some u->t.ff p->t.ff q->p.isPrefixOf q=false->El.get t q x=some ⟨.sl e t',xs⟩->
 El.get t q z=some ⟨.sl e t',xs⟩/\(t.off q+1<=t.off p\/t.off p+u.cells<=t.off q):=by
 intro t
 induction t with
 |arr n t ih=>
  intro p q x u y z e t' xs hs b6 hp hq fC hg
  cases p with
  |nil=>simp at fC
  |cons i p=>
   cases q with
   |nil=>simp [El.get] at hg
   |cons j q=>
    simp only[El.set] at hs
    obtain⟨z',mz,rfl⟩:=Option.map_eq_some_iff.1 hs
    by_cases eij:i=j
    ·subst eij
     have ml:p.isPrefixOf q=false:=by simpa [List.isPrefixOf] using fC
     obtain⟨h1,h2⟩:=ih mz b6 hp.2 hq.2 ml hg
     refine⟨?_,by simp only[Ty.off];omega⟩
     simp only[El.get]
     by_cases hl:i<List.length x
     ·rw[List.getD_eq_getElem?_getD,List.getElem?_set_self hl]
      exact h1
     ·have fD:List.set x i z'=x:=by rw[List.set_eq_of_length_le (Nat.le_of_not_lt hl)]
      rw[fD];exact hg
    ·refine⟨?_,?_⟩
     ·simp only[El.get] at hg⊢
      rw[List.getD_eq_getElem?_getD,List.getElem?_set_ne eij,<-List.getD_eq_getElem?_getD]
      exact hg
     ·have a1:=eR t p u b6 hp.2
      have a2:t.off q+1<=t.cells:=by
       have:=eR t q _ (Tm t q _ _ _ hg) hq.2
       simpa [Ty.cells] using this
      simp only[Ty.off]
      rcases Nat.lt_or_gt_of_ne eij with h|h
      ·have:(i+1)*t.cells<=j*t.cells:=Nat.mul_le_mul_right _ h
       rw[Nat.add_mul,Nat.one_mul] at this
       omega
      ·have:(j+1)*t.cells<=i*t.cells:=Nat.mul_le_mul_right _ h
       rw[Nat.add_mul,Nat.one_mul] at this
       omega
 |pair ta tb lp lq=>
  intro p q x u y z e t' xs hs b6 hp hq fC hg
  cases p with
  |nil=>simp at fC
  |cons i p=>
   cases q with
   |nil=>simp [El.get] at hg
   |cons j q=>
    cases i with
    |zero=>
     simp only[El.set] at hs
     obtain⟨z',mz,rfl⟩:=Option.map_eq_some_iff.1 hs
     cases j with
     |zero=>
      have ml:p.isPrefixOf q=false:=by simpa [List.isPrefixOf] using fC
      obtain⟨h1,h2⟩:=lp mz b6 hp hq ml hg
      exact⟨h1,by simp only[Ty.off];omega⟩
     |succ j=>
      have a1:=eR ta p u b6 hp
      exact⟨hg,by simp only[Ty.off];omega⟩
    |succ i=>
     simp only[El.set] at hs
     obtain⟨z',mz,rfl⟩:=Option.map_eq_some_iff.1 hs
     cases j with
     |zero=>
      have a2:ta.off q+1<=ta.cells:=by
       have:=eR ta q _ (Tm ta q _ _ _ hg) hq
       simpa [Ty.cells] using this
      exact⟨hg,by simp only[Ty.off];omega⟩
     |succ j=>
      have ml:(i::p).isPrefixOf (j::q)=false:=by
       simp [List.isPrefixOf] at fC⊢
       exact fC
      obtain⟨h1,h2⟩:=lq mz b6 hp hq ml hg
      exact⟨h1,by simp only[Ty.off];omega⟩
 |_=>
  intro p q x u y z e t' xs hs b6 hp hq fC hg
  cases p with
  |nil=>simp at fC
  |cons i p=>simp [Ty.at_] at b6
def az.row(X:az)(r:Nat)(cs:Array Value):az:={X with w:=X.w.setRow r cs}
theorem u6{r id:Nat}{cs:Array Value}(h:X.ow r= .box id){ad:Addr}{v:Value}(hs:X.aE ad v):(X.row r cs).aE ad v:=by
 have ct:ad.block≠r:=fun e=>by
  have:=hs.2.2
  rw[e,h] at this
  exact this
 refine⟨hs.1,?_,hs.2.2⟩
 have:=hs.2.1
 simp only[World.cell?,az.row] at this⊢
 rw[setRow_other X.w r ad.block cs ct]
 exact this
theorem Yi{r id:Nat}{cs:Array Value}(h:X.ow r= .box id):Ext X (X.row r cs) where
 aE:=fun _ _=>u6 h
 size:=by simp [az.row]
 os:=rfl
 tape:=rfl
 output:=rfl
 β0:=rfl
 still:=fun g _ cH=>by
  have ct:g≠r:=fun e=>by rw[e,h] at cH;exact cH
  exact⟨rfl,setRow_other X.w r g cs ct⟩
theorem bz.row{r id:Nat}{cs:Array Value}(h:X.ow r= .box id){pl:Place}{e:TypeId}{k n:Nat}{v:Value}(ho:bz X pl e k n v):bz (X.row r cs) pl e k n v:=by
 rcases ho with ho|⟨g,cap,cur,h1,h2,h3,h4,h5,h6⟩
 ·exact .inl ho
 ·have ct:g≠r:=fun e=>by rw[e,h] at h6;cases h6
  exact .inr ⟨g,cap,cur,h1,(setRow_other X.w r g cs ct).trans h2,h3,h4,h5,h6⟩
theorem bq.row{r id:Nat}{cs:Array Value}(h:X.ow r= .box id){pl:List Nat->Place}{t:Ty}{x:El t}{c:List Value}{own:List (List Nat)}(ho:bq X pl t x c own):bq (X.row r cs) pl t x c own:=fun p hp=>by
 obtain⟨e,t',xs,v,g0,g1,g2,g3⟩:=ho p hp
 exact⟨e,t',xs,v,g0,g1,g2,g3.row h⟩
theorem aA.row{r id:Nat}{cs:Array Value}(h:X.ow r= .box id){pl:List Nat->Place}{sv:SV}{v:Value}(hr:aA X pl sv v):aA (X.row r cs) pl sv v:=by
 cases sv with
 |undef=>trivial
 |skip=>exact hr
 |cG=>exact hr
 |gW=>exact hr
 |over=>exact hr
 |aj t x own=>
  obtain⟨c,h1,h2,h3⟩:=hr
  exact⟨c,h1.av (fun _ _=>u6 h),h2,h3.row h⟩
 |ptr id t p=>exact hr
 |view t x=>
  obtain⟨ad,c,h1,h2,h3,h4⟩:=hr
  exact⟨ad,c,h1,h2,h3.av (fun _ _=>u6 h),fun i u hi=>u6 h (h4 i u hi)⟩
 |cap f t x u y=>exact uV (fun _ _=>u6 h) hr
theorem Rel.row{r id:Nat}{B B':bB}{cs:Array Value}(hr:Rel X s a)(hb:s.bs[id]? =some (some B))(hβ:X.β id=some r)(h:X.ow r= .box id)(hB:bI (X.row r cs) id r B'):Rel (X.row r cs) (s.aL (some (id,B'))) a where
 size:=hr.size
 hN:=by simpa [State.aL] using hr.hN
 bP:=fun i l v hl hv=>(hr.bP i l v hl hv).kg fun j sv u hm j5=>j5.row h
 boxes:=fun cc B2 dk=>by
  have aq:id<s.bs.length:=(List.getElem?_eq_some_iff.1 hb).1
  simp only[State.aL,List.getElem?_set] at dk
  by_cases e:id=cc
  ·subst e
   rw[if_pos rfl,if_pos aq] at dk
   cases dk;exact⟨r,hβ,hB⟩
  ·rw[if_neg e] at dk
   obtain⟨r',h1,h4,h2⟩:=hr.boxes cc B2 dk
   have ct:r'≠r:=fun e2=>by rw[e2,h] at h4;cases h4;exact e rfl
   exact⟨r',h1,h4,h2.move (fun _ _=>u6 h) (setRow_other X.w r r' cs ct) (fun cs h5=>h5.row h) fun _ g o ho hw=>⟨(setRow_other X.w r g cs (fun e3=>by rw[e3,h] at hw;cases hw)).trans ho,hw⟩⟩
 live:=fun i l cc t p hi hm=>by
  have aq:id<s.bs.length:=(List.getElem?_eq_some_iff.1 hb).1
  obtain⟨B2,dk⟩:=hr.live i l cc t p hi hm
  simp only[State.aL,List.getElem?_set]
  by_cases e:id=cc
  ·subst e;exact⟨B',by rw[if_pos rfl,if_pos aq]⟩
  ·rw[if_neg e];exact⟨B2,dk⟩
 defers:=hr.defers
theorem T1(hE:ar P E){T:TypeId}{t:Ty}(ht:E.ty T=some t){x:El t}{cs:List Value}(hr:aW X t x cs){r off:Nat}{cur:Array Value}{T':TypeId}{w:World}(hg:w.heap[r]? =some (.cells cur T' (0,0)))(hf:off+t.cells<=cur.size):
 (storeVar T ⟨r,off,none⟩ (dJ t cs)).run P w= .ok () (w.setRow r (cur.toList.take off++cs++cur.toList.drop (off+cs.length)).toArray):=by
 have hl:=hr.len
 have cH:=run_storeCells_at P r off T' cs 0 cur w hg (by omega) hr.one
 simp only[Nat.add_zero] at cH
 unfold storeVar
 simp only[Sem.run_bind,lC hE ht,Result.andThen_ok,xu hr]
 rw[if_neg (by simp [hl])]
 exact cH
theorem adF:∀{t:Ty} {p q:List Nat} {x:El t} {u:Ty} {y:El u} {z:El t} {r:(u:Ty)×El u} {X:az} {cs:List Value},aW X t x cs->El.set t p x u y=some z->t.at_ p=some u->t.ff p->El.get u q y=some r->El.get t (p++q) z=some r:=by
 intro t
 induction t with
 |arr n t ih=>
  intro p q x u y z r X cs hr hs b6 hp hg
  cases p with
  |nil=>
   simp only[Ty.at_,Option.some.injEq] at b6
   subst b6
   simp only[El.set,Ty.bS,dite_true,Option.some.injEq] at hs
   subst hs
   exact hg
  |cons i p=>
   simp only[El.set] at hs
   obtain⟨z',mz,rfl⟩:=Option.map_eq_some_iff.1 hs
   obtain⟨h1,h2,h3⟩:=hr
   have hi:i<List.length x:=by rw[h1];exact hp.1
   simp only[El.get,List.cons_append]
   rw[List.getD_eq_getElem?_getD,List.getElem?_set_self hi]
   exact ih (h3 i _ (getD_some _ hi)) mz b6 hp.2 hg
 |pair ta tb lp lq=>
  intro p q x u y z r X cs hr hs b6 hp hg
  cases p with
  |nil=>
   simp only[Ty.at_,Option.some.injEq] at b6
   subst b6
   simp only[El.set,Ty.bS,dite_true,Option.some.injEq] at hs
   subst hs
   exact hg
  |cons i p=>
   obtain⟨c1,c2,_,r1,r2⟩:=hr
   cases i with
   |zero=>
    simp only[El.set] at hs
    obtain⟨z',mz,rfl⟩:=Option.map_eq_some_iff.1 hs
    exact lp r1 mz b6 hp hg
   |succ i=>
    simp only[El.set] at hs
    obtain⟨z',mz,rfl⟩:=Option.map_eq_some_iff.1 hs
    exact lq (p:=i::p) r2 mz b6 hp hg
 |_=>
  intro p q x u y z r X cs hr hs b6 hp hg
  cases p with
  |nil=>
   simp only[Ty.at_,Option.some.injEq] at b6
   subst b6
   simp only[El.set,Ty.bS,dite_true,Option.some.injEq] at hs
   first|subst hs|skip
   exact hg
  |cons i p=>simp [Ty.at_] at b6
theorem P7{t u:Ty}{p:List Nat}{x z:El t}{y:El u}{cs cv:List Value}{own oy:List (List Nat)}{pl:List Nat->Place}(hr:aW X t x cs)(eE:t.ff p)(b6:t.at_ p=some u)(fD:El.set t p x u y=some z)(rep:aW X u y cv)
 (ho:bq X pl t x cs own) (hy:bq X (fun q=>pl (p++q)) u y cv oy):bq X pl t z (cs.take (t.off p)++cv++cs.drop (t.off p+cv.length)) (oy.map (fun q=>p++q)++xM own p):=by
 have lJ:=rep.len
 have hle:=eR t p u b6 eE
 have dR:=hr.len
 intro q hq
 rcases List.mem_append.1 hq with hq|hq
 ·obtain⟨q,hq2,rfl⟩:=List.mem_map.1 hq
  obtain⟨e,t',xs,v,g0,g1,g2,g3⟩:=hy q hq2
  have aq:=(List.getElem?_eq_some_iff.1 g2).1
  refine⟨e,t',xs,v,zep t p q u b6 eE g0,adF hr fD b6 eE g1,?_,g3⟩
  rw[Ud t p q u b6,List.append_assoc,List.getElem?_append_right (by rw[List.length_take];omega),List.length_take,Nat.min_eq_left (by omega),Nat.add_sub_cancel_left,List.getElem?_append_left aq]
  exact g2
 ·obtain⟨hqm,fC⟩:=zb2 hq
  obtain⟨e,t',xs,v,g0,g1,g2,g3⟩:=ho q hqm
  obtain⟨k1,k2⟩:=acC fD b6 eE g0 fC g1
  refine⟨e,t',xs,v,g0,k1,?_,g3⟩
  have lK:=zke (cs:=cs) (c:=cv) (off:=t.off p) (by omega) (t.off q) 1 (by rw[lJ];omega)
  have h0:=congrArg (fun l=>l[0]?) lK
  simp only[List.getElem?_take,List.getElem?_drop] at h0
  simp only[Nat.zero_lt_one,if_true,Nat.add_zero] at h0
  rw[h0];exact g2
theorem acA(hE:ar P E)(hr:Rel X s a){T:TypeId}{u0:Ty}{x y:Operand}(ho:o.op= .store T x y)(hT:E.ty T=some u0){id:Nat}{t:Ty}{p:List Nat}(dS:s.aG x= .ptr id t p)(h:Gv u0 s id t p (s.aG y) some=some u):aH P X s a o u:=by
 have hx:=hr.aG x
 rw[dS] at hx
 obtain⟨r0,hβ,hv⟩:=hx
 unfold Gv at h
 split at h
 case h_2=>cases h
 rename_i ta tb i
 split at h
 case h_2=>cases h
 rename_i B hB
 split at h
 case isFalse=>cases h
 rename_i dQ
 split at h
 case isFalse=>cases h
 rename_i heq
 have:=Ty.aR heq
 subst this
 obtain⟨hb,r,h1,how,cs,T',aP,dt,eC⟩:=G8 hr hB dQ
 rw[hβ] at h1
 cases h1
 obtain⟨yv,h,hy⟩:=gy h
 obtain⟨cv,rep,ev⟩:=hy X _ _ (hr.aG y)
 generalize(Ty.cast dQ B.x:List (El ta))=xs at*
 cases hn:Nat.ble (i+1) (List.length xs) with
 |false=>rw[hn] at h;cases h
 |true=>
  rw[hn] at h
  cases h
  have aq:i<List.length xs:=Nat.le_of_ble_eq_true hn
  have hv:a.eval x= .pointer (some ⟨r0,i*ta.cells,none⟩):=hv
  have lJ:=rep.len
  have hmul:(i+1)*ta.cells<=List.length xs*ta.cells:=Nat.mul_le_mul_right _ aq
  rw[Nat.add_mul,Nat.one_mul] at hmul
  have dh:i*ta.cells+ta.cells<=cs.size:=by omega
  have uJ:i*ta.cells+cv.length<=cs.toList.length:=by simp;omega
  let new:=(cs.toList.take (i*ta.cells)++cv++cs.toList.drop (i*ta.cells+cv.length)).toArray
  have kf:new.toList=cs.toList.take (i*ta.cells)++cv++cs.toList.drop (i*ta.cells+cv.length):=rfl
  have bd:(execOp a.eval o).run P X.w= .ok .skip ((X.row r0 new).w):=by
   have cH:=T1 (P:=P) hE hT rep (off:=i*ta.cells) (w:=X.w) (r:=r0) (cur:=cs) (T':=T') aP dh
   simp only[execOp,ho,Sem.run_bind,Instr.storeAt,hv,Instr.sureAddr,Sem.run_pure,Result.andThen_ok,ev,cH]
   rfl
  have cw:new.size=cs.size:=by
   have:new.toList.length=cs.toList.length:=by rw[kf];simp;omega
   simpa using this
  have ci:bI (X.row r0 new) id r0 ⟨.aZ .row ta tb,(List.set xs i yv:List (El ta)),[]⟩:=by
   refine⟨how,new,T',setRow_heap X.w r0 cs new T' (0,0) aP,?_,fun j z hj=> ?_⟩
   ·rw[cw,dt]
    show _=List.length (List.set xs i yv)*_
    rw[List.length_set]
   ·refine aW.av (fun _ _=>u6 (cs:=new) how) ?_
    have hj:(List.set xs i yv)[j]? =some z:=hj
    rw[kf]
    by_cases e:i=j
    ·subst e
     rw[List.getElem?_set_self aq] at hj
     cases hj
     have:((cs.toList.take (i*ta.cells)++cv++cs.toList.drop (i*ta.cells+cv.length)).drop (i*ta.cells)).take ta.cells=cv:=by
      rw[List.append_assoc,List.drop_append_of_le_length (by rw[List.length_take];omega),List.drop_eq_nil_of_le (by rw[List.length_take];omega),List.nil_append,<-lJ,List.take_left]
     rw[this]
     exact rep
    ·rw[List.getElem?_set_ne e] at hj
     rw[zke (cs:=cs.toList) (c:=cv) (off:=i*ta.cells) uJ (j*ta.cells) ta.cells ?_]
     ·exact eC j z hj
     ·rcases Nat.lt_or_gt_of_ne e with h|h
      ·have:(i+1)*ta.cells<=j*ta.cells:=Nat.mul_le_mul_right _ h
       rw[Nat.add_mul,Nat.one_mul] at this
       right;omega
      ·have:(j+1)*ta.cells<=i*ta.cells:=Nat.mul_le_mul_right _ h
       rw[Nat.add_mul,Nat.one_mul] at this
       left;omega
  exact⟨X.row r0 new,Go.undef,.inr ⟨bd,rfl⟩,Yi how,(hr.row (cs:=new) hb hβ how ci).skip o.dst⟩
theorem ael(hE:ar P E)(hr:Rel X s a){ops:List Oper}{T:TypeId}{x y:Operand}(ho:o.op= .store T x y){C:FuncId->bO Out}(h:act E C ops o s some=some u):aH P X s a o u:=by
 unfold act at h
 simp only[ho] at h
 have hx:=hr.aG x
 unfold store at h
 split at h
 case h_2=>cases h
 rename_i u0 hT
 split at h
 case h_2=>cases h
 rename_i id t p e
 rw[e] at hx
 obtain⟨r,hβ,hx⟩:=hx
 split at h
 ·exact acA hE hr ho hT e h
 rename_i fk
 have fk:t.bM=false:=by simpa using fk
 obtain⟨hv,eE⟩:=(p8 fk).1 hx
 split at h
 case h_2=>cases h
 rename_i B hB
 split at h
 case isFalse=>cases h
 rename_i heq
 have dQ:=Ty.aR heq
 subst dQ
 split at h
 case h_2=>cases h
 rename_i u' b6
 split at h
 case isFalse=>cases h
 rename_i BU
 have:=Ty.aR BU
 subst this
 have hb:=rG hB
 obtain⟨yv,h,hy⟩:=z157 hr h (.inl rfl)
 split at h
 case h_2=>cases h
 rename_i z fD
 cases h
 obtain⟨W,cv,hW,hX,TM,rep,ev,hO,hβ2,lI,_⟩:=hy (fun q=> .b id (p++q))
 obtain⟨r',hβW,wL⟩:=TM.boxes id B (by rw[xw];exact hb)
 obtain⟨cs,T2,aP,aT,how,bU⟩:=wL.cells fk
 have hrr:r'=r:=by
  rw[hβ2,hβ] at hβW
  exact(Option.some.inj hβW).symm
 subst hrr
 have dh:B.t.off p+u'.cells<=cs.size:=by
  have:=eR B.t p u' b6 eE
  have hl:=aT.len
  simp at hl
  omega
 let new:=(cs.toList.take (B.t.off p)++cv++cs.toList.drop (B.t.off p+cv.length)).toArray
 have bd:(execOp a.eval o).run P X.w= .ok .skip ((W.row r' new).w):=by
  have cH:=T1 (P:=P) hE hT rep (off:=B.t.off p) (w:=X.w) (r:=r') (cur:=cs) (T':=T2) (by rw[<-hW];exact aP) dh
  simp only[execOp,ho,Sem.run_bind,Instr.storeAt,hv,Instr.sureAddr,Sem.run_pure,Result.andThen_ok,ev,cH]
  rw[<-hW];rfl
 have tJ:=P7 aT eE b6 fD rep bU hO
 have ci:bI (W.row r' new) id r' {t:=B.t,x:=z,own:=(s.aG y).own.map (fun q=>p++q)++xM B.own p}:=by
  refine⟨how,dA.of fk (setRow_heap W.w r' cs new T2 (0,0) aP) ?_ ?_⟩
  ·have:=(fN aT eE b6 fD rep).av (fun _ _=>u6 (cs:=new) how)
   simpa [new] using this
  ·have:=tJ.row (cs:=new) how
   simpa [new] using this
 have eN:=TM.row (cs:=new) (by rw[xw];exact hb) hβW how ci
 exact⟨W.row r' new,Go.undef,.inr ⟨bd,rfl⟩,hX.trans (Yi how),eN.skip o.dst⟩
end Go.Ref

namespace Go.Ref
open Go
variable {P:Program} {E:Env} {X:az} {s:State} {a:Act} {o:Oper} {u:Out}
theorem Oe(off:Nat):∀(l:List Value) (k:Nat) (cs:Array Value),off+k+l.length<=cs.size->
 ((l.zipIdx k).foldl (fun cs p=>cs.setIfInBounds (off+p.2) p.1) cs).toList=cs.toList.take (off+k)++l++cs.toList.drop (off+k+l.length)
 | [],k,cs,h=>by simp
 |v::r,k,cs,h=>by
  simp only[List.length_cons] at h
  simp only[List.zipIdx_cons,List.foldl_cons]
  rw[Oe off r (k+1) _ (by simp;omega)]
  simp only[Array.toList_setIfInBounds,List.length_cons]
  apply List.ext_getElem?
  intro q
  simp only[List.getElem?_append,List.getElem?_take,List.getElem?_drop,List.length_append,List.length_take,List.length_set,Array.length_toList,List.getElem?_set,List.length_cons,List.getElem?_cons]
  rw[Nat.min_eq_left (show off+(k+1)<=cs.size by omega),Nat.min_eq_left (show off+k<=cs.size by omega)]
  by_cases h1:q<off+k
  ·rw[if_pos (by omega),if_pos (by omega),if_pos (by omega),if_neg (by omega),if_pos (by omega),if_pos (by omega),if_pos (by omega)]
  ·by_cases h2:q=off+k
   ·subst h2
    rw[if_pos (by omega),if_pos (by omega),if_pos (by omega),if_pos rfl,if_pos (by omega),if_pos (by omega),if_neg (by omega),if_pos (by omega)]
   ·by_cases h3:q<off+(k+1)+r.length
    ·rw[if_pos (by omega),if_neg (by omega),if_pos (by omega),if_neg (by omega),if_neg (by omega)]
     try(congr 1<;>omega)
    ·rw[if_neg (by omega),if_neg (by omega),if_neg (by omega)]
     first|done|(congr 1;omega)
theorem Od(off:Nat)(l:List Value)(cs:Array Value)(h:off+l.length<=cs.size):
 ((l.toArray.zipIdx).foldl (fun cs (p:Value×Nat)=>cs.setIfInBounds (off+p.2) p.1) cs).toList=cs.toList.take off++l++cs.toList.drop (off+l.length):=by
 have:=Oe off l 0 cs (by omega)
 rw[<-Array.foldl_toList,Array.toList_zipIdx]
 simpa using this
theorem Oa(hr:Rel X s a){t:Ty}{pl:Nat->Option (Nat×Nat)}(jg:∀i ft,t.at_ [i]=some ft->t.kh i=true->t.ff [i]/\pl i=some (t.off [i],ft.cells)){R:Type}{K:El t->List (List Nat)->Option R}{z:R}:
 ∀(parts:List (Nat×Operand)) (x:El t) (own:List (List Nat)) (cs:Array Value),aW X t x cs.toList->q9 t x own (parts.map fun p=>(p.1,s.aG p.2,[])) K=some z->
  ∃y mF cells,K y mF=some z/\Instr.fill pl cs (parts.map fun p=>(p.1,a.eval p.2))=some cells/\aW X t y cells.toList
 | [],x,own,cs,rep,h=>⟨x,own,cs,h,rfl,rep⟩
 |(i,p)::r,x,own,cs,rep,h=>by
  simp only[List.map_cons,q9] at h
  split at h
  case isTrue=>cases h
  rename_i hb
  have hb:t.kh i=true:=by cases BN:t.kh i<;>simp_all
  split at h
  case h_2=>cases h
  rename_i ft b6
  obtain⟨y,h,hy⟩:=gy h
  split at h
  case h_2=>cases h
  rename_i x' fD
  obtain⟨c,rc,ec⟩:=hy X _ _ (hr.aG p)
  obtain⟨eE,hp⟩:=jg i ft b6 hb
  have lJ:=rc.len
  have dR:=rep.len
  have hle:=eR t [i] ft b6 eE
  have tM:=fN rep eE b6 fD rc
  have dh:t.off [i]+c.length<=cs.size:=by rw[lJ];simp at dR;omega
  have pT:=Od (t.off [i]) c cs dh
  obtain⟨y2,tX,cells,h1,h2,h3⟩:=Oa hr jg r x' _ _ (by rw[pT];exact tM) h
  refine⟨y2,tX,cells,h1,?_,h3⟩
  simp only[List.map_cons,Instr.fill,hp,ec,xu rc]
  rw[if_neg (by simp only[List.size_toArray,lJ];simp;simp at dR;omega)]
  exact h2
theorem Ul{t:Ty}{pl:Nat->Option (Nat×Nat)}(jg:∀i ft,t.at_ [i]=some ft->t.kh i=true->t.ff [i]/\pl i=some (t.off [i],ft.cells)){R:Type}{K:El t->List (List Nat)->Option R}{z:R}:
 ∀(parts:List (Nat×Operand)) (X:az) (s:State) (x:El t) (own:List (List Nat)) (cs:Array Value),Rel X s a->aW X t x cs.toList->bq X (.r 0) t x cs.toList own->q9 t x own (lN s parts).1 K=some z->
  ∃y mF cells Y,K y mF=some z/\Y.w=X.w/\Ext X Y/\Rel Y (s.close (lN s parts).2) a/\Instr.fill pl cs (parts.map fun p=>(p.1,a.eval p.2))=some cells/\aW Y t y cells.toList/\bq Y (.r 0) t y cells.toList mF
 | [],X,s,x,own,cs,hr,rep,ho,h=>⟨x,own,cs,X,h,rfl,Ext.refl X,hr,rfl,rep,ho⟩
 |(i,p)::r,X,s,x,own,cs,hr,rep,ho,h=>by
  simp only[lN,q9] at h
  split at h
  case isTrue=>cases h
  rename_i hb
  have hb:t.kh i=true:=by cases BN:t.kh i<;>simp_all
  split at h
  case h_2=>cases h
  rename_i ft b6
  have hc:xL (s.aG p).own p=src p\/((s.aG p).own=[]/\xL (s.aG p).own p=[]):=by
   cases bU:(s.aG p).own with
   |nil=>exact .inr ⟨rfl,rfl⟩
   |cons _ _=>exact .inl rfl
  obtain⟨y,h,hy⟩:=z157 hr h hc
  split at h
  case h_2=>cases h
  rename_i x' fD
  obtain⟨Y,c,hw,bn,bD,rc,ec,hO,hβ,hT,cH⟩:=hy (fun q=> .r 0 ([i]++q))
  obtain⟨eE,hp⟩:=jg i ft b6 hb
  have lJ:=rc.len
  have dR:=rep.len
  have hle:=eR t [i] ft b6 eE
  have L7:=rep.mono bn
  have hoY:=ho.stay cH (by simp)
  have tM:=fN L7 eE b6 fD rc
  have tJ:=P7 L7 eE b6 fD rc hoY hO
  have dh:t.off [i]+c.length<=cs.size:=by rw[lJ];simp at dR;omega
  have pT:=Od (t.off [i]) c cs dh
  obtain⟨y2,tX,cells,Z,h1,uL,bW,dy,h2,h3,h4⟩:=Ul jg r Y _ x' _ _ bD (by rw[pT];exact tM) (by rw[pT];exact tJ) h
  refine⟨y2,tX,cells,Z,h1,uL.trans hw,bn.trans bW,?_,?_,h3,h4⟩
  ·simp only[lN,zja]
   exact dy
  ·simp only[List.map_cons,Instr.fill,hp,ec,xu rc]
   rw[if_neg (by simp only[List.size_toArray,lJ];simp;simp at dR;omega)]
   exact h2
theorem E7(hE:ar P E):∀(fl:List Field) (t:Ty) (off:Nat),iK E fl t off->∃places,fl.mapM (fun(f:Field)=>(P.info? f.type).map fun i=>(f.offset,i.size))=some places/\
 ∀(j:Nat) (f:Field) (ft:Ty),fl[j]? =some f->E.ty f.type=some ft->places[j]? =some (f.offset,ft.cells)
 | [],t,off,h=>⟨[],rfl,fun j f ft hj=>by simp at hj⟩
 |f::r,t,off,h=>by
  cases t<;>simp only[iK] at h<;>try exact h.elim
  rename_i ta tb
  obtain⟨h1,h2,h3,h4⟩:=h
  obtain⟨places,g1,g2⟩:=E7 hE r tb _ h4
  obtain⟨i,i1,i2,_⟩:=(hE.ty _ _ h2).info
  refine⟨(f.offset,i.size)::places,?_,fun j g gt hj hg=> ?_⟩
  ·simp [List.mapM_cons,i1,g1]
  ·cases j with
   |zero=>
    simp only[List.getElem?_cons_zero,Option.some.injEq] at hj
    subst hj
    rw[h2] at hg
    cases hg
    simp [i2]
   |succ j=>
    simp only[List.getElem?_cons_succ] at hj⊢
    exact g2 j g gt hj hg
theorem ag5(hE:ar P E)(hr:Rel X s a){T:TypeId}{t:Ty}(hT:E.ty T=some t)(qK:t.agg=true){R:Type}{K:El t->List (List Nat)->Option R}{z:R}(parts:Array (Nat×Operand))
 (h:q9 t (El.bR t) (xy t) (lN s parts.toList).1 K=some z):
 ∃y own cs Y,K y own=some z/\Y.w=X.w/\Ext X Y/\Rel Y (s.close (lN s parts.toList).2) a/\aW Y t y cs/\bq Y (.r 0) t y cs own/\(Instr.build T (parts.map fun(i,x)=>(i,a.eval x))).run P X.w= .ok (dJ t cs) X.w:=by
 have hf:=hE.ty T t hT
 obtain⟨i,i1,i2,i3,i4⟩:=hf.info
 have hz:=uv X t
 have hn:=Nf X (.r 0) t
 have hzc:(dJ t (zt t)).cells=(zt t).toArray:=xu hz
 have qL:(parts.map fun(i,x)=>(i,a.eval x)).toList=parts.toList.map fun p=>(p.1,a.eval p.2):=by simp
 cases t with
 |arr n t=>
  obtain⟨e,hu,he,_⟩:=hf.dj
  obtain⟨ie,j1,j2,_⟩:=(hE.ty e t he).info
  obtain⟨y,own,cells,Y,k1,hw,bn,bD,k2,k3,k4⟩:=Ul (pl:=fun i=>some (i*ie.size,ie.size)) (fun i ft b6 hb=>by
   simp only[Ty.at_,Option.some.injEq] at b6
   subst b6
   have hb:i+1<=n:=by simpa [Ty.kh] using hb
   exact⟨⟨hb,by simp [Ty.ff]⟩,by simp [Ty.off,j2]⟩) parts.toList X s (El.bR (.arr n t)) _ (zt (.arr n t)).toArray hr (by simpa using hz) (by simpa using hn) h
  refine⟨y,own,cells.toList,Y,k1,hw,bn,bD,k3,k4,?_⟩
  rw[je rfl]
  refine run_build X.w T _ cells.toList.toArray ?_
  unfold Program.built
  simp only[i1,hu,i4,j1,hzc,qL]
  simpa using k2
 |pair ta tb=>
  obtain⟨fs,hu,dh,_⟩:=hf.dj
  obtain⟨places,p1,p2⟩:=E7 hE fs.toList _ 0 dh
  obtain⟨y,own,cells,Y,k1,hw,bn,bD,k2,k3,k4⟩:=Ul (pl:=(places.toArray[·]?)) (fun i ft b6 hb=>by
   obtain⟨f,g1,g2,g3,g4⟩:=Yc fs.toList _ 0 i ft dh rfl b6
   refine⟨g4,?_⟩
   have:=p2 i f ft g1 g3
   simp only[List.getElem?_toArray,this,g2,Nat.zero_add]) parts.toList X s (El.bR (.pair ta tb)) _ (zt (.pair ta tb)).toArray hr (by simpa using hz) (by simpa using hn) h
  refine⟨y,own,cells.toList,Y,k1,hw,bn,bD,k3,k4,?_⟩
  rw[je rfl]
  refine run_build X.w T _ cells.toList.toArray ?_
  unfold Program.built
  simp only[i1,hu,i4,p1,hzc,qL]
  simpa using k2
 |unit=>
  obtain⟨fs,hu,dh,_⟩:=hf.dj
  obtain⟨places,p1,p2⟩:=E7 hE fs.toList _ 0 dh
  obtain⟨y,own,cells,Y,k1,hw,bn,bD,k2,k3,k4⟩:=Ul (pl:=(places.toArray[·]?)) (fun i ft b6 hb=>by simp [Ty.at_] at b6) parts.toList X s (El.bR .unit) _ (zt .unit).toArray hr (by simpa using hz) (by simpa using hn) h
  refine⟨y,own,cells.toList,Y,k1,hw,bn,bD,k3,k4,?_⟩
  rw[je rfl]
  refine run_build X.w T _ cells.toList.toArray ?_
  unfold Program.built
  simp only[i1,hu,i4,p1,hzc,qL]
  simpa using k2
 |aZ k a b=>exact absurd (hE.ij hT) (by simp [Ty.bM])
 |_=>simp [Ty.agg] at qK
def az.mI(X:az)(j:Nat)(q:List Nat->Place):az:=
 {X with ow:=fun g=>match X.ow g with
  | .row (.r j' p) n=>if j'=j then .row (q p) n else .row (.r j' p) n
  |w=>w}
theorem aeI{s:State}{X:az}{j:Nat}{q:List Nat->Place}:dE s X (X.mI j q):=by
 refine⟨rfl,rfl,fun g=> ?_⟩
 simp only[az.mI]
 cases hg:X.ow g with
 |row pl n=>
  cases pl with
  |r j' p=>
   by_cases e:j'=j
   ·subst e
    exact .inr ⟨_,n,q p,rfl,fun h=>h,by simp⟩
   ·exact .inl (if_neg e)
  |_=>exact .inl rfl
 |_=>exact .inl rfl
theorem bq.xm{X:az}{j:Nat}{q:List Nat->Place}{t:Ty}{x:El t}{cs:List Value}{own:List (List Nat)}(h:bq X (.r j) t x cs own):bq (X.mI j q) q t x cs own:=fun p hp=>by
 obtain⟨e,t',xs,v,g0,g1,g2,g3⟩:=h p hp
 refine⟨e,t',xs,v,g0,g1,g2,?_⟩
 rcases g3 with h|⟨g,cap,cur,h1,h2,h3,h4,h5,h6⟩
 ·exact .inl h
 ·exact .inr ⟨g,cap,cur,h1,h2,h3,h4,h5,by simp [az.mI,h6]⟩
theorem aed(hE:ar P E)(hr:Rel X s a){ops:List Oper}{T:TypeId}{parts:Array (Nat×Operand)}(ho:o.op= .build T parts){C:FuncId->bO Out}(h:act E C ops o s some=some u):aH P X s a o u:=by
 unfold act at h
 simp only[ho] at h
 split at h
 case h_2=>cases h
 rename_i t hT
 split at h
 case isTrue=>cases h
 rename_i qK
 have qK:t.agg=true:=by cases BN:t.agg<;>simp_all
 obtain⟨y,own,cs,Y,h,hw,bn,bD,rep,hO,bd⟩:=ag5 hE hr hT qK parts h
 cases h
 have lI:=aeI (s:=s.close (lN s parts.toList).2) (X:=Y) (j:=0) (q:= .c (o.dst.getD 0) 0)
 refine⟨Y.mI 0 (.c (o.dst.getD 0) 0),dJ t cs,.inl ?_,bn.trans lI.ext,(bD.mod lI.mod).fin ⟨cs,rep.av (fun _ _=>lI.aE.1),rfl,hO.xm⟩ (fun id t p hm=>by simp at hm)⟩
 rw[lI.w,hw]
 simp only[execOp,ho,Sem.run_bind,bd,Result.andThen_ok,Sem.run_pure]
end Go.Ref

namespace Go.Ref
open Go
variable {P:Program} {E:Env} {X:az} {s:State} {a:Act} {o:Oper} {u:Out}
theorem akN{t:Ty}{x:El t}{xs:List (El t)}{n:Nat}{c cs:List Value}(h1:aW X t x c)(h2:aW X (.arr n t) xs cs):aW X (.arr (n+1) t) (x::xs:List (El t)) (c++cs):=by
 obtain⟨k1,k2,k3⟩:=h2
 have hl:=h1.len
 refine⟨by simp;exact k1,by simp [k2,hl,Nat.add_mul];omega,fun j y hj=> ?_⟩
 cases j with
 |zero=>
  simp only[List.getElem?_cons_zero,Option.some.injEq] at hj
  subst hj
  rw[Nat.zero_mul,List.drop_zero,<-hl,List.take_left]
  exact h1
 |succ j=>
  simp only[List.getElem?_cons_succ] at hj
  have hd:(c++cs).drop ((j+1)*t.cells)=cs.drop (j*t.cells):=by
   rw[Nat.add_mul,Nat.one_mul,Nat.add_comm,<-List.drop_drop,<-hl,List.drop_left]
  rw[hd]
  exact k3 j y hj
theorem HU{t:Ty}{xs ys:List (El t)}{n m:Nat}{c d:List Value}(h1:aW X (.arr n t) xs c)(h2:aW X (.arr m t) ys d):aW X (.arr (n+m) t) (xs++ys:List (El t)) (c++d):=by
 obtain⟨j1,j2,j3⟩:=h1
 obtain⟨k1,k2,k3⟩:=h2
 refine⟨by rw[List.length_append,j1,k1],by rw[List.length_append,j2,k2,Nat.add_mul],fun j y hj=> ?_⟩
 by_cases aq:j<n
 ·rw[List.getElem?_append_left (by rw[j1];exact aq)] at hj
  have hle:(j+1)*t.cells<=n*t.cells:=Nat.mul_le_mul_right _ aq
  rw[Nat.add_mul,Nat.one_mul] at hle
  rw[List.drop_append_of_le_length (by omega),List.take_append_of_le_length (by rw[List.length_drop];omega)]
  exact j3 j y hj
 ·rw[List.getElem?_append_right (by rw[j1];omega),j1] at hj
  have hd:(c++d).drop (j*t.cells)=d.drop ((j-n)*t.cells):=by
   have hm:j*t.cells=c.length+(j-n)*t.cells:=by
    rw[j2,<-Nat.add_mul]
    congr 1
    omega
   rw[hm,List.drop_length_add_append]
  rw[hd]
  exact k3 _ y hj
theorem zz4{t:Ty}{ad:Addr}(hs:ad.spot=none):∀(xs:List (El t)) (p:Nat),(∀(j:Nat) x,xs[j]? =some x->∃eA,aW X t x eA/\∀(i:Nat) v,eA[i]? =some v->X.aE (ad.add (p+(j*t.cells+i))) v)->
 ∃cs,aW X (.arr xs.length t) xs cs/\∀(i:Nat) v,cs[i]? =some v->X.aE (ad.add (p+i)) v
 | [],p,h=>⟨[],⟨rfl,by simp,fun j x hj=>by simp at hj⟩,fun i v hi=>by simp at hi⟩
 |x::xs,p,h=>by
  obtain⟨c,r1,s1⟩:=h 0 x rfl
  obtain⟨cs,r2,s2⟩:=zz4 hs xs (p+t.cells) (fun j y hj=>by
   obtain⟨c',r',s'⟩:=h (j+1) y hj
   refine⟨c',r',fun i v hi=> ?_⟩
   have:=s' i v hi
   rw[show p+((j+1)*t.cells+i)=p+t.cells+(j*t.cells+i) by rw[Nat.add_mul];omega] at this
   exact this)
  have hl:=r1.len
  refine⟨c++cs,akN r1 r2,fun i v hi=> ?_⟩
  rw[List.getElem?_append] at hi
  split at hi
  ·have:=s1 i v hi
   rwa [show p+(0*t.cells+i)=p+i by omega] at this
  ·have:=s2 _ v hi
   rwa [show p+t.cells+(i-c.length)=p+i by omega] at this
theorem zb8{e:TypeId}{t:Ty}{xs:List (El t)}{A:Option Addr}{n c:Nat}(h:aW X (.sl e t) xs [.slice A n c]):n=xs.length/\xs.length<=c/\
 ∃cs,aW X (.arr xs.length t) xs cs/\(A=none->xs=[])/\∀ad,A=some ad->∀(i:Nat) v,cs[i]? =some v->X.aE (ad.add i) v:=by
 obtain⟨A',c',h1,h2,h3⟩:=h
 simp only[List.cons.injEq,Value.slice.injEq,and_true] at h1
 obtain⟨rfl,rfl,rfl⟩:=h1
 refine⟨rfl,h2,?_⟩
 cases xs with
 |nil=>exact⟨[],⟨rfl,by simp,fun j x hj=>by simp at hj⟩,fun _=>rfl,fun ad _ i v hi=>by simp at hi⟩
 |cons x r=>
  obtain⟨ad,_,hA,hs,_⟩:=h3 0 x rfl
  subst hA
  obtain⟨cs,k1,k2⟩:=zz4 (X:=X) hs (x::r) 0 (fun j y hj=>by
   obtain⟨pQ,c',e1,_,g1,g2⟩:=h3 j y hj
   cases e1
   exact⟨c',g1,fun i v hi=>by rw[Nat.zero_add];exact g2 i v hi⟩)
  refine⟨cs,k1,(fun e=>by cases e),fun pQ e i v hi=> ?_⟩
  cases e
  have:=k2 i v hi
  rwa [Nat.zero_add] at this
theorem zkf{e:TypeId}{t:Ty}{xs:List (El t)}{g cap:Nat}{pl:Place}{cur:Array Value}{cs:List Value}(hg:X.w.heap[g]? =some (.cells cur e (0,0)))(how:X.ow g= .row pl (xs.length*t.cells))
 (mw:cur.toList.take (xs.length*t.cells)=cs) (aT:aW X (.arr xs.length t) xs cs) (mh:xs.length<=cap):aW X (.sl e t) xs [.slice (some ⟨g,0,none⟩) xs.length cap]:=by
 refine⟨_,cap,rfl,mh,fun j x hj=>⟨_,_,rfl,rfl,aT.2.2 j x hj,fun i v hi=> ?_⟩⟩
 have wR:=(List.getElem?_eq_some_iff.1 hj).1
 have hle:(j+1)*t.cells<=xs.length*t.cells:=Nat.mul_le_mul_right _ wR
 rw[Nat.add_mul,Nat.one_mul] at hle
 rw[List.getElem?_take] at hi
 split at hi
 case isFalse=>cases hi
 rename_i TH
 rw[List.getElem?_drop,<-mw,List.getElem?_take,if_pos (by omega)] at hi
 refine⟨AU rfl _,?_,?_⟩
 ·rw[j8,Nat.zero_add]
  simp only[World.cell?,hg]
  simpa using hi
 ·rw[j8,Nat.zero_add]
  show Ow.used (X.ow g) _
  rw[how]
  show j*t.cells+i<_
  omega
end Go.Ref

namespace Go.Ref
open Go
variable {P:Program} {E:Env} {X:az} {s:State} {a:Act} {o:Oper} {u:Out}
theorem MT{R:Type}{t:Ty}{n:Nat}{K:List (El t)->Option R}:∀(parts:List (Nat×SV)) (xs:List (El t)) (own:List (List Nat)),xs.length=n->Ba t xs parts K=q9 (.arr n t) xs own (parts.map fun p=>(p.1,p.2,[])) (fun y _=>K y)
 | [],xs,own,h=>rfl
 |(i,v)::r,xs,own,h=>by
  subst h
  simp only[Ba,List.map_cons,q9,Ty.kh,Ty.at_,El.set,Ty.bS,dite_true,Option.map_some]
  congr 1
  refine congrArg (v.el t) (funext fun y=> ?_)
  exact MT r (xs.set i y) _ (by simp)
theorem aiq{t:Ty}(n:Nat)(hk:0<t.cells):((Array.range (n*t.cells)).map fun i=>(zt t).toArray[i % (zt t).toArray.size]!).toList=(List.replicate n (zt t)).flatten:=by
 have hz:=uQ t
 apply List.ext_getElem?
 intro q
 have hlen:((List.replicate n (zt t)).flatten).length=n*t.cells:=by simp [hz]
 by_cases hq:q<n*t.cells
 ·have h1:q/t.cells<n:=(Nat.div_lt_iff_lt_mul hk).2 hq
  have h2:=za7 hz n (q/t.cells) h1
  have h3:=congrArg (fun l=>l[q % t.cells]?) h2
  simp only[List.getElem?_take,List.getElem?_drop,if_pos (Nat.mod_lt q hk)] at h3
  rw[Nat.mul_comm,Nat.div_add_mod] at h3
  rw[h3]
  have hm:q % t.cells<(zt t).length:=by rw[hz];exact Nat.mod_lt q hk
  rw[List.getElem?_eq_getElem hm]
  simp [hq,hz,hm]
  rw[List.getElem?_eq_getElem hm]
  rfl
 ·rw[List.getElem?_eq_none (by simp;omega),List.getElem?_eq_none (by omega)]
theorem P6{X:az}{pl:List Nat->Place}{e:TypeId}{t:Ty}{xs:List (El t)}{v:Value}(h:bz X (pl []) e t.cells xs.length v):bq X pl (.sl e t) xs [v] [[]]:=fun p hp=>by
 have hp:p=[]:=by simpa using hp
 subst hp
 exact⟨e,t,xs,v,by simp [Ty.ff],rfl,rfl,h⟩
theorem zy3(hE:ar P E)(hr:Rel X s a){ops:List Oper}{T:TypeId}{n:Nat}{parts:Array (Nat×Operand)}(ho:o.op= .buildSlice T n parts){C:FuncId->bO Out}(h:act E C ops o s some=some u):aH P X s a o u:=by
 unfold act at h
 simp only[ho] at h
 split at h
 case h_2=>cases h
 rename_i e t hT
 split at h
 case isTrue=>cases h
 rename_i B3
 have hk:0<t.cells:=by rcases Nat.eq_zero_or_pos t.cells with h0|h0<;>simp_all
 cases hb:Nat.ble (n*t.cells) 16777216 with
 |false=>rw[hb] at h;cases h
 |true=>
  rw[hb] at h
  simp only[cond_true] at h
  have tN:n*t.cells<=16777216:=Nat.le_of_ble_eq_true hb
  rw[MT (n:=n) _ _ [] (by simp),List.map_map] at h
  obtain⟨hu,he⟩:=(hE.ty T _ hT).dj
  have dt:=lC (P:=P) hE he X.w
  have hzr:=UJ (P:=P) hE he X.w
  have LR:=uv X (.arr n t)
  obtain⟨y,mF,cells,k1,k2,k3⟩:=Oa (pl:=fun i=>some (i*t.cells,t.cells)) hr (fun i ft b6 hb=>by
   simp only[Ty.at_,Option.some.injEq] at b6
   subst b6
   have hb:i+1<=n:=by simpa [Ty.kh] using hb
   exact⟨⟨hb,by simp [Ty.ff]⟩,by simp [Ty.off]⟩) parts.toList (El.bR (.arr n t)) [] (zt (.arr n t)).toArray (by simpa using LR) h
  cases k1
  have hy:List.length y=n:=k3.1
  have dR:cells.size=n*t.cells:=by have:=k3.2.1;simpa using this
  have hn:n<=n*t.cells:=Nat.le_mul_of_pos_right n hk
  let Y:=X.new cells e (.row (.c (o.dst.getD 0) 0 []) (n*t.cells)) X.β
  have wS:fa s X Y:=ztg X s cells e _ _ rfl (fun _ _ _=>rfl)
  obtain⟨n1,n2⟩:=zk3 X cells e (.row (.c (o.dst.getD 0) 0 []) (n*t.cells)) X.β
  refine⟨Y,.slice (some ⟨X.w.heap.size,0,none⟩) n n,.inl ?_,wS.ext,?_⟩
  ·have hcz:(Array.map (fun x=>(dJ t (zt t)).cells[x % (dJ t (zt t)).cells.size]!) (Array.range (n*t.cells)))=(zt (.arr n t)).toArray:=by
    apply Array.ext'
    rw[xu (uv X t),aiq n hk]
    rfl
   have qL:(parts.map fun(i,x)=>(i,a.eval x)).toList=parts.toList.map fun p=>(p.1,a.eval p.2):=by simp
   by_cases hn0:n*t.cells=0
   ·have aau:n=0:=by
     rcases Nat.mul_eq_zero.1 hn0 with h0|h0
     ·exact h0
     ·omega
    subst aau
    have k2':Instr.fill (fun i=>some (i*t.cells,t.cells)) #[] (parts.toList.map fun p=>(p.1,a.eval p.2))=some cells:=k2
    have aqe:(parts.map fun x=>(x.1,a.eval x.2)).toList=parts.toList.map fun p=>(p.1,a.eval p.2):=by simp
    simp [execOp,ho,Instr.buildSlice,run_underlying hu,dt,newRow,Y,az.new]
    rw[show(Array.map (fun x=>default) (Array.range 0):Array Value)= #[] by simp,k2']
    simp
   ·have hc:=hcz
    simp [execOp,ho,Instr.buildSlice,run_underlying hu,dt,hzr,hn0,newRow,Y,az.new,Nat.not_lt.2 tN]
    rw[hcz,k2]
    simp
  ·refine(hr.dB wS).fin ?_ (fun id t p hm=>by simp at hm)
   refine⟨[.slice (some ⟨X.w.heap.size,0,none⟩) n n],?_,rfl,P6 ?_⟩
   ·rw[<-hy]
    refine zkf (pl:= .c (o.dst.getD 0) 0 []) (cur:=cells) (cs:=cells.toList) n1 (by rw[hy];exact n2) ?_ ?_ (Nat.le_refl _)
    ·rw[hy,List.take_of_length_le (by simp [dR])]
    ·rw[hy];exact k3.av (fun _ _=>wS.aE)
   ·refine .inr ⟨X.w.heap.size,n,cells,by rw[hy],n1,by rw[hy];exact Nat.le_refl _,?_,dR,by rw[hy];exact n2⟩
    simp only[maxLen]
    omega
end Go.Ref

namespace Go.Ref
open Go
variable {P:Program} {E:Env} {X:az} {s:State} {a:Act} {o:Oper} {u:Out}
inductive Grown(w w':World)(e:TypeId)(k:Nat)(vb v':Value)(cx cy:List Value)(n:Nat):Prop where
 |same (h:w'=w) (hv:v'=vb) (hy:cy=[])
 |room (g cap:Nat) (cur fw:Array Value) (hb:∃m,vb= .slice (some ⟨g,0,none⟩) m cap) (hg:w.heap[g]? =some (.cells cur e (0,0))) (hv:v'= .slice (some ⟨g,0,none⟩) n cap) (hn:n<=cap) (hm:cap<=maxLen)
   (hw:w'=w.setRow g fw) (hs:fw.size=cap*k) (ht:fw.toList.take (n*k)=cx++cy)
 |new (cap:Nat) (fw:Array Value) (hv:v'= .slice (some ⟨w.heap.size,0,none⟩) n cap) (hn:n<=cap) (hm:cap<=maxLen) (hw:w'=w.drew.alloc (.cells fw e)) (hs:fw.size=cap*k) (ht:fw.toList.take (n*k)=cx++cy)
theorem ad5(hE:ar P E){T ty e:TypeId}{t:Ty}(hT:E.ty T=some (.sl e t))(hk:0<t.cells)(mU:E.bytes e≠0){xs ys:List (El t)}{vb vx:Value}{pl:Place}
 (bU:bz X pl e t.cells xs.length vb) {cx cy:List Value} (rx:aW X (.arr xs.length t) xs cx) (sx:∀g m c,vb= .slice (some ⟨g,0,none⟩) m c->∀(i:Nat) v,cx[i]? =some v->X.aE ((⟨g,0,none⟩:Addr).add i) v)
 (ry:aW X (.arr ys.length t) ys cy) (hvx:∃A c,vx= .slice A ys.length c/\(A=none->ys=[])/\∀ad,A=some ad->∀(i:Nat) v,cy[i]? =some v->X.aE (ad.add i) v)
 (hbound:(xs.length+ys.length)*E.bytes e<=140737488355328):
 ∃v' w',(Builtin.append_ #[T,T] ty #[vb,vx]).run P X.w= .ok v' w'/\Grown X.w w' e t.cells vb v' cx cy (xs.length+ys.length)/\(v'= .slice none 0 0->xs.length+ys.length=0):=by
 obtain⟨hu,he⟩:=(hE.ty T _ hT).dj
 obtain⟨i,hi,cw,fB,hz⟩:=(hE.ty e t he).info
 have hzs:(dJ t (zt t)).cells.size=t.cells:=by rw[xu (uv X t)];simp [uQ]
 have wU:cx.length=xs.length*t.cells:=rx.2.1
 have tC:cy.length=ys.length*t.cells:=ry.2.1
 have h1:∀u∈cy,u.oneCell'=true:=ry.one
 have hle:xs.length+ys.length<=140737488355328:=Nat.le_trans (Nat.le_mul_of_pos_right _ (Nat.pos_of_ne_zero mU)) hbound
 have zV:xs.length+ys.length<=maxLen:=by simp only[maxLen];omega
 obtain⟨A,c,rfl,hA,hsy⟩:=hvx
 cases A with
 |none=>
  have qP:=hA rfl
  subst qP
  have hcy:cy=[]:=List.eq_nil_of_length_eq_zero (by simpa using tC)
  subst hcy
  rcases bU with⟨rfl,hn⟩|⟨g,cap,cur,rfl,hg,Lw,rB,dR,how⟩
  ·refine⟨.slice none 0 0,X.w,?_,.same rfl rfl rfl,fun _=>by simp [hn]⟩
   simp [Builtin.append_,run_underlying hu,sizeOf,typeInfo,hi,Builtin.lenOf,Builtin.firstCells]
  ·refine⟨_,X.w,?_,.same rfl rfl rfl,fun e=>by cases e⟩
   simp [Builtin.append_,run_underlying hu,sizeOf,typeInfo,hi,Builtin.lenOf,Builtin.firstCells,Lw,storeCells]
 |some ad=>
  have hny:∀j u,cy[j]? =some u->X.w.cell? (ad.add j)=some u:=fun j u hj=>(hsy ad rfl j u hj).2.1
  have ll:∀(old:Nat),(cx.toArray++cy.toArray++Builtin.zeroCells (dJ t (zt t)).cells (grownCap X.w (xs.length+ys.length) old e-(xs.length+ys.length))).size=grownCap X.w (xs.length+ys.length) old e*t.cells/\
   (cx.toArray++cy.toArray++Builtin.zeroCells (dJ t (zt t)).cells (grownCap X.w (xs.length+ys.length) old e-(xs.length+ys.length))).toList.take ((xs.length+ys.length)*t.cells)=cx++cy:=by
   intro old
   have TG:=grownCap_ge X.w (xs.length+ys.length) old e
   refine⟨?_,?_⟩
   ·simp only[Array.size_append,List.size_toArray,size_zeroCells,hzs,wU,tC,<-Nat.add_mul]
    congr 1
    omega
   ·have hl:(cx++cy).length=(xs.length+ys.length)*t.cells:=by rw[List.length_append,wU,tC,Nat.add_mul]
    rw[<-hl]
    simp only[Array.toList_append]
    exact List.take_left
  rcases bU with⟨rfl,hn⟩|⟨g,cap,cur,rfl,hg,Lw,rB,dR,how⟩
  ·have wO:cx=[]:=List.eq_nil_of_length_eq_zero (by rw[wU,hn,Nat.zero_mul])
   subst wO
   by_cases hm:ys.length=0
   ·have hcy:cy=[]:=List.eq_nil_of_length_eq_zero (by rw[tC,hm,Nat.zero_mul])
    subst hcy
    refine⟨.slice none 0 0,X.w,?_,.same rfl rfl rfl,fun _=>by omega⟩
    simp [Builtin.append_,run_underlying hu,sizeOf,typeInfo,hi,Builtin.lenOf,Builtin.firstCells,hm,loadCells,loadCellsFrom]
   ·have Am:xs.length=0:=hn
    rw[Am,Nat.zero_add] at hbound hle zV
    have hr:=run_append_nil (P:=P) X.w T ty e i (dJ t (zt t)) hu hi hz ad ys.length c cy (by rw[cw];exact tC) hny (by omega) (by omega) (by rw[fB];omega)
    obtain⟨c1,c2⟩:=ll 0
    have TG:=grownCap_ge X.w (xs.length+ys.length) 0 e
    have rB:=grownCap_le_maxLen X.w (xs.length+ys.length) 0 e (by rw[Am,Nat.zero_add];exact zV)
    refine⟨_,_,hr,.new (grownCap X.w (xs.length+ys.length) 0 e) _ (by rw[Am,Nat.zero_add]) TG rB ?_ c1 c2,fun e=>by cases e⟩
    rw[Am,Nat.zero_add]
    simp
  ·by_cases mr:xs.length+ys.length<=cap
   ·have dh:xs.length*i.size+cy.length<=cur.size:=by rw[cw,tC,dR,<-Nat.add_mul];exact Nat.mul_le_mul_right _ mr
    have hr:=run_append_room (P:=P) X.w T ty e i hu hi g xs.length cap cur hg ad ys.length c cy (by rw[cw];exact tC) hny h1 mr dh
    refine⟨_,_,hr,.room g cap cur _ ⟨_,rfl⟩ hg rfl mr rB rfl ?_ ?_,fun e=>by cases e⟩
    ·simp only[List.size_toArray,List.length_append,List.length_take,List.length_drop,Array.length_toList]
     omega
    ·have mw:cur.toList.take (xs.length*i.size)=cx:=by
      rw[cw]
      apply List.ext_getElem?
      intro q
      by_cases hq:q<xs.length*t.cells
      ·rw[List.getElem?_take,if_pos hq]
       have LP:=List.getElem?_eq_getElem (l:=cx) (i:=q) (by rw[wU];exact hq)
       have:=(sx g _ _ rfl q _ LP).2.1
       rw[j8,Nat.zero_add] at this
       simp only[World.cell?,hg] at this
       rw[LP]
       simpa using this
      ·rw[List.getElem?_eq_none (by rw[List.length_take];omega),List.getElem?_eq_none (by omega)]
     have hl:(cx++cy).length=(xs.length+ys.length)*t.cells:=by rw[List.length_append,wU,tC,Nat.add_mul]
     rw[mw,<-hl]
     simp only[List.take_left]
   ·have holds:∀j u,cx[j]? =some u->X.w.cell? ((⟨g,0,none⟩:Addr).add j)=some u:=fun j u hj=>(sx g _ _ rfl j u hj).2.1
    have hr:=run_append_grow (P:=P) X.w T ty e i (dJ t (zt t)) hu hi hz ⟨g,0,none⟩ xs.length cap cx (by rw[cw];exact wU) holds ad ys.length c cy (by rw[cw];exact tC) hny (by omega) (by omega) (growslice_fits (by omega) (by rw[fB];exact hbound))
    obtain⟨c1,c2⟩:=ll cap
    exact⟨_,_,hr,.new _ _ rfl (grownCap_ge _ _ _ _) (grownCap_le_maxLen _ _ _ _ zV) rfl c1 c2,fun e=>by cases e⟩
theorem bz.aal{X:az}{s:State}{pl:Place}{e:TypeId}{k n:Nat}{v:Value}(h:bz X pl e k n v)(hf:¬cL s pl)(q:Place):∃Y,dE s X Y/\bz Y q e k n v:=by
 rcases h with h|⟨g,cap,cur,h1,h2,h3,h4,h5,h6⟩
 ·exact⟨X,dE.refl s X,.inl h⟩
 ·refine⟨{X with ow:=fun g'=>if g'=g then .row q (n*k) else X.ow g'},⟨rfl,rfl,fun g'=> ?_⟩,.inr ⟨g,cap,cur,h1,h2,h3,h4,h5,by simp⟩⟩
  by_cases e:g'=g
  ·subst e;exact .inr ⟨pl,_,q,h6,hf,by simp⟩
  ·exact .inl (by simp [e])
theorem ap3{R:Type}{t t':Ty}{x:El t'}{w:List (List Nat)}{K:El t->Option R}{z:R}(h:(SV.aj t' x w).el t K=some z):∃he:t'.cu t=true,K (Ty.cast he x)=some z:=by
 simp only[SV.el] at h
 split at h
 ·rename_i he;exact⟨he,h⟩
 ·cases h
theorem adA(hE:ar P E)(hr:Rel X s a){ops:List Oper}{er:Array Operand}{ts:Array TypeId}(ho:o.op= .call ⟨.builtin .append,er,ts⟩){C:FuncId->bO Out}(h:act E C ops o s some=some u):aH P X s a o u:=by
 unfold act at h
 simp only[ho] at h
 split at h
 case h_2=>cases h
 rename_i b x T U qO BM
 have has:er= #[b,x]:=by rw[<-Array.toArray_toList (xs:=er),qO]
 have gP:ts= #[T,U]:=by rw[<-Array.toArray_toList (xs:=ts),BM]
 subst has gP
 have hb:=hr.aG b
 have hx:=hr.aG x
 unfold SF at h
 split at h
 case isTrue=>cases h
 rename_i hTU
 have hTU:T=U:=by
  have:T.beq U=true:=by cases BN:Nat.beq T U<;>simp_all
  exact Nat.eq_of_beq_eq_true this
 subst hTU
 split at h
 case h_2=>cases h
 rename_i e t hT
 split at h
 case isTrue=>cases h
 rename_i h0
 have h0:Nat.beq (E.bytes e) 0=false/\Nat.beq t.cells 0=false:=by
  cases h1:Nat.beq (E.bytes e) 0<;>cases h2:Nat.beq t.cells 0<;>simp_all
 have mU:E.bytes e≠0:=fun e0=>by rw[e0] at h0;simp at h0
 have hk:0<t.cells:=by
  rcases Nat.eq_zero_or_pos t.cells with e0|e0
  ·rw[e0] at h0;simp at h0
  ·exact e0
 have key:∀(xs ys:List (El t)) (cl:List (Nat×Nat)) (pl:Place),¬cL (s.close cl) pl->bz X pl e t.cells xs.length (a.eval b)->aW X (.sl e t) xs [a.eval b]->aW X (.sl e t) ys [a.eval x]->
  (xs.length+ys.length)*E.bytes e<=140737488355328->aH P X s a o {v:=[.aj (.sl e t) (xs++ys:List (El t)) [[]]],cl:=cl}:=by
  intro xs ys cl pl HN bU Co mG hbound
  obtain⟨A1,c1,Aj,Az⟩:=Co
  have e1:a.eval b= .slice A1 xs.length c1:=by simpa using Aj
  obtain⟨A2,c2,Cb,L8⟩:=mG
  have e2:a.eval x= .slice A2 ys.length c2:=by simpa using Cb
  obtain⟨_,_,cx,rx,_,sx⟩:=zb8 (X:=X) (e:=e) (show aW X (.sl e t) xs [.slice A1 xs.length c1] from⟨A1,c1,rfl,Az⟩)
  obtain⟨_,_,cy,ry,ny,sy⟩:=zb8 (X:=X) (e:=e) (show aW X (.sl e t) ys [.slice A2 ys.length c2] from⟨A2,c2,rfl,L8⟩)
  have sx':∀g m c,a.eval b= .slice (some ⟨g,0,none⟩) m c->∀(i:Nat) v,cx[i]? =some v->X.aE ((⟨g,0,none⟩:Addr).add i) v:=by
   intro g m c hv
   rw[e1] at hv
   injection hv with hA
   exact sx _ hA
  obtain⟨v',w',bd,hgr,tE⟩:=ad5 (ty:=o.type) hE hT hk mU bU rx sx' ry ⟨A2,c2,e2,ny,sy⟩ hbound
  have wU:cx.length=xs.length*t.cells:=rx.2.1
  have tC:cy.length=ys.length*t.cells:=ry.2.1
  have LK:(execOp a.eval o).run P X.w= .ok (.value v') w':=by
   simp only[execOp,ho,resolve,invoke,builtin,Sem.run_bind,Sem.run_pure,Result.andThen_ok,List.map_toArray,List.map_cons,List.map_nil,bd]
  have fin:∀(Y:az),Y.w=w'->Mod (s.close cl) X Y->aW Y (.arr (xs.length+ys.length) t) (xs++ys:List (El t)) (cx++cy)->bz Y (.c (o.dst.getD 0) 0 []) e t.cells (xs.length+ys.length) v'->
   aW Y (.sl e t) (xs++ys:List (El t)) [v']->aH P X s a o {v:=[.aj (.sl e t) (xs++ys:List (El t)) [[]]],cl:=cl}:=by
   intro Y hY hm eN ho2 B9
   refine⟨Y,v',.inl (by rw[hY];exact LK),hm.ext,((hr.close cl).mod hm).fin ⟨[v'],B9,rfl,P6 ?_⟩ (fun id t p B6=>by simp at B6)⟩
   rw[List.length_append]
   exact ho2
  cases hgr with
  |same h1 h2 h3=>
   subst h2
   have hy0:ys=[]:=by
    have:ys.length=0:=by
     rcases Nat.mul_eq_zero.1 (show ys.length*t.cells=0 by rw[<-tC,h3];rfl) with h|h
     ·exact h
     ·omega
    exact List.eq_nil_of_length_eq_zero this
   subst hy0
   obtain⟨Y,lI,hO2⟩:=bz.aal (s:=s.close cl) bU HN (.c (o.dst.getD 0) 0 [])
   refine fin Y (by rw[lI.w,h1]) lI.mod ?_ (by simpa using hO2) ?_
   ·have:=(HU rx ry)
    exact this.av (fun _ _=>lI.aE.1)
   ·rw[List.append_nil]
    exact aW.av (fun _ _=>lI.aE.1) (show aW X (.sl e t) xs [a.eval b] from⟨A1,c1,Aj,Az⟩)
  |new cap fw hv hn hm hw hs ht=>
   let Y:az:=⟨w',fun g=>if g=X.w.heap.size then .row (.c (o.dst.getD 0) 0 []) ((xs.length+ys.length)*t.cells) else X.ow g,X.β⟩
   have wS:fa (s.close cl) X Y:=⟨by simp [Y,hw],by simp only[Y,hw];rfl,by simp only[Y,hw];rfl,by simp only[Y,hw];rfl,fun g hg=>⟨by simp only[Y];rw[if_neg (by omega)],by simp only[Y,hw];exact RowKit.Below.heap_alloc _ _ _ hg⟩,rfl,fun _ _ _=>rfl⟩
   have aP:Y.w.heap[X.w.heap.size]? =some (.cells fw e (0,0)):=by simp only[Y,hw];exact heap_alloc_new X.w.drew _
   have how:Y.ow X.w.heap.size= .row (.c (o.dst.getD 0) 0 []) ((xs.length+ys.length)*t.cells):=by simp [Y]
   have aT:=(HU rx ry).av (fun _ _=>wS.aE)
   refine fin Y rfl wS.mod aT (.inr ⟨_,cap,fw,hv,aP,hn,hm,hs,how⟩) ?_
   rw[hv,<-List.length_append]
   exact zkf (cs:=cx++cy) aP (by rw[List.length_append];exact how) (by rw[List.length_append];exact ht) (by rw[List.length_append];exact aT) (by rw[List.length_append];exact hn)
  |room g cap cur fw rA hg hv hn hm hw hs ht=>
   obtain⟨m,BQ⟩:=rA
   rcases bU with⟨hz,_⟩|⟨g',wG,K4,mV,HK,Lw,rB,dR,how⟩
   ·rw[hz] at BQ;cases BQ
   have BX:g'=g:=by rw[BQ] at mV;injection mV with h1;injection h1 with h1;injection h1 with h1;exact h1.symm
   subst BX
   have aao:K4=cur:=by rw[hg] at HK;cases HK;rfl
   subst aao
   have aq:=Iz hg
   let Y:az:=⟨w',fun k=>if k=g' then .row (.c (o.dst.getD 0) 0 []) ((xs.length+ys.length)*t.cells) else X.ow k,X.β⟩
   have aP:Y.w.heap[g']? =some (.cells fw e (0,0)):=by simp only[Y,hw];exact setRow_heap X.w g' K4 fw e (0,0) hg
   have nJ:Y.ow g'= .row (.c (o.dst.getD 0) 0 []) ((xs.length+ys.length)*t.cells):=by simp [Y]
   have Ah:∀ad v,X.aE ad v->Y.aE ad v:=by
    intro ad v j5
    by_cases heq:ad.block=g'
    ·obtain⟨k1,k2,k3⟩:=j5
     rw[heq,how] at k3
     have k3:ad.off<xs.length*t.cells:=k3
     have had:ad=(⟨g',0,none⟩:Addr).add ad.off:=by rw[j8,Nat.zero_add];cases ad;simp_all
     have LP:=List.getElem?_eq_getElem (l:=cx) (i:=ad.off) (by rw[wU];exact k3)
     have wO:=(sx' g' _ _ BQ ad.off _ LP).2.1
     rw[<-had,k2] at wO
     refine⟨k1,?_,?_⟩
     ·have hq:fw.toList[ad.off]? =some v:=by
       have:=congrArg (fun l=>l[ad.off]?) ht
       simp only[List.getElem?_take] at this
       have hle:xs.length*t.cells<=(xs.length+ys.length)*t.cells:=Nat.mul_le_mul_right _ (Nat.le_add_right _ _)
       rw[if_pos (by omega),List.getElem?_append_left (by rw[wU];exact k3),LP] at this
       rw[this];exact wO.symm
      simp only[World.cell?,heq,aP,k1]
      simpa using hq
     ·rw[heq,nJ]
      have hle:xs.length*t.cells<=(xs.length+ys.length)*t.cells:=Nat.mul_le_mul_right _ (Nat.le_add_right _ _)
      show ad.off<_
      omega
    ·refine⟨j5.1,?_,?_⟩
     ·have:=j5.2.1
      simp only[World.cell?,Y,hw] at this⊢
      rw[setRow_other X.w g' ad.block fw heq]
      exact this
     ·simp only[Y]
      rw[if_neg heq]
      exact j5.2.2
   have B7:Mod (s.close cl) X Y:=⟨Ah,by simp [Y,hw],by simp only[Y,hw];rfl,by simp only[Y,hw];rfl,by simp only[Y,hw];rfl,rfl,fun _ _ _=>rfl,fun k hk=>by
    by_cases heq:k=g'
    ·subst heq;exact .inr ⟨pl,_,how,HN⟩
    ·refine .inl ⟨by simp only[Y];rw[if_neg heq],?_⟩
     simp only[Y,hw]
     exact setRow_other X.w g' k fw heq⟩
   have aT:=(HU rx ry).av Ah
   refine fin Y rfl B7 aT (.inr ⟨_,cap,fw,hv,aP,hn,hm,hs,nJ⟩) ?_
   rw[hv,<-List.length_append]
   exact zkf (cs:=cx++cy) aP (by rw[List.length_append];exact nJ) (by rw[List.length_append];exact ht) (by rw[List.length_append];exact aT) (by rw[List.length_append];exact hn)
 split at h
 ·rename_i jZ
  rw[jZ] at hb
  obtain⟨ys,h,qP⟩:=gy h
  cases hd:decide (List.length ys*E.bytes e<=140737488355328) with
  |false=>rw[hd] at h;cases h
  |true=>
   rw[hd] at h
   cases h
   obtain⟨cs,mG,ev⟩:=qP X _ _ hx
   have BQ:a.eval b= .slice none 0 0:=hb
   have tG:cs=[a.eval x]:=by
    obtain⟨A,c,dR,_⟩:=mG
    rw[ev,dR];rfl
   have:=key [] ys [] (.r 0 []) (fun hf=>hf) (.inl ⟨BQ,rfl⟩) (by rw[BQ];exact⟨none,0,rfl,Nat.le_refl _,fun j x hj=>by simp at hj⟩) (by rw[<-tG];exact mG) (by simpa using of_decide_eq_true hd)
   simpa using this
 ·rename_i t' xs0 xe jZ
  rw[jZ] at hb
  split at h
  case isTrue=>cases h
  rename_i Li
  have Li:mZ xe []=true:=by cases BN:mZ xe []<;>simp_all
  obtain⟨heq,h⟩:=ap3 h
  have:=Ty.aR heq
  subst this
  obtain⟨ys,h,qP⟩:=gy h
  cases hd:decide ((List.length (Ty.cast heq xs0)+List.length ys)*E.bytes e<=140737488355328) with
  |false=>rw[hd] at h;cases h
  |true=>
   rw[hd] at h
   cases h
   obtain⟨cs,mG,ev⟩:=qP X _ _ hx
   have fS:=aer Li
   obtain⟨i,rfl⟩:=aor jZ (fun e=>by rw[e] at fS;cases fS)
   obtain⟨cs1,r1,ev1,hO⟩:=hb
   have tG:cs=[a.eval x]:=by
    obtain⟨A,c,dR,_⟩:=mG
    rw[ev,dR];rfl
   have Af:cs1=[a.eval (.tmp i)]:=by
    obtain⟨A,c,dR,_⟩:=r1
    rw[ev1,dR];rfl
   obtain⟨e',t'',xs',v',_,g1,g2,g3⟩:=hO [] fS
   simp only[El.get,Option.some.injEq,Sigma.mk.injEq,Ty.sl.injEq] at g1
   obtain⟨⟨rfl,rfl⟩,g1⟩:=g1
   cases g1
   have mV:v'=a.eval (.tmp i):=by
    rw[Af] at g2
    simpa [Ty.off] using g2.symm
   rw[mV] at g3
   exact key xs0 ys [(i,0)] (.c i 0 []) cL.close g3 (by rw[<-Af];exact r1) (by rw[<-tG];exact mG) (of_decide_eq_true hd)
 ·cases h
end Go.Ref

namespace Go.Ref
open Go
variable {P:Program} {E:Env} {X:az} {s:State} {a:Act} {o:Oper} {u:Out}
def az.obj(X:az)(r:Nat)(b:Obj):az:={X with w:={X.w with heap:=X.w.heap.setIfInBounds r b}}
theorem Rx{r g:Nat}{b:Obj}(h:g≠r):(X.obj r b).w.heap[g]? =X.w.heap[g]? :=by
 simp [az.obj,Ne.symm h]
theorem OH{r:Nat}{b b':Obj}(h:X.w.heap[r]? =some b'):(X.obj r b).w.heap[r]? =some b:=(MapKept.heap_set h).1
theorem Gt{r id:Nat}{b:Obj}(h:X.ow r= .box id){ad:Addr}{v:Value}(hs:X.aE ad v):(X.obj r b).aE ad v:=by
 have ct:ad.block≠r:=fun e=>by
  have:=hs.2.2
  rw[e,h] at this
  exact this
 refine⟨hs.1,?_,hs.2.2⟩
 have:=hs.2.1
 simp only[World.cell?] at this⊢
 rw[Rx ct]
 exact this
theorem P4{r id:Nat}{b:Obj}(h:X.ow r= .box id):Ext X (X.obj r b) where
 aE:=fun _ _=>Gt h
 size:=by simp [az.obj]
 os:=rfl
 tape:=rfl
 output:=rfl
 β0:=rfl
 still:=fun g _ cH=>by
  have ct:g≠r:=fun e=>by rw[e,h] at cH;exact cH
  exact⟨rfl,Rx ct⟩
theorem bz.obj{r id:Nat}{b:Obj}(h:X.ow r= .box id){pl:Place}{e:TypeId}{k n:Nat}{v:Value}(ho:bz X pl e k n v):bz (X.obj r b) pl e k n v:=by
 rcases ho with ho|⟨g,cap,cur,h1,h2,h3,h4,h5,h6⟩
 ·exact .inl ho
 ·have ct:g≠r:=fun e=>by rw[e,h] at h6;cases h6
  exact .inr ⟨g,cap,cur,h1,(Rx ct).trans h2,h3,h4,h5,h6⟩
theorem bq.obj{r id:Nat}{b:Obj}(h:X.ow r= .box id){pl:List Nat->Place}{t:Ty}{x:El t}{c:List Value}{own:List (List Nat)}(ho:bq X pl t x c own):bq (X.obj r b) pl t x c own:=fun p hp=>by
 obtain⟨e,t',xs,v,g0,g1,g2,g3⟩:=ho p hp
 exact⟨e,t',xs,v,g0,g1,g2,g3.obj h⟩
theorem aA.obj{r id:Nat}{b:Obj}(h:X.ow r= .box id){pl:List Nat->Place}{sv:SV}{v:Value}(hr:aA X pl sv v):aA (X.obj r b) pl sv v:=by
 cases sv with
 |aj t x own=>
  obtain⟨c,h1,h2,h3⟩:=hr
  exact⟨c,h1.av (fun _ _=>Gt h),h2,h3.obj h⟩
 |view t x=>
  obtain⟨ad,c,h1,h2,h3,h4⟩:=hr
  exact⟨ad,c,h1,h2,h3.av (fun _ _=>Gt h),fun i u hi=>Gt h (h4 i u hi)⟩
 |cap f t x u y=>exact uV (fun _ _=>Gt h) hr
 |_=>exact hr
theorem Rel.obj{r id:Nat}{B B':bB}{b:Obj}(hr:Rel X s a)(hb:s.bs[id]? =some (some B))(hβ:X.β id=some r)(h:X.ow r= .box id)(hB:bI (X.obj r b) id r B'):Rel (X.obj r b) (s.aL (some (id,B'))) a where
 size:=hr.size
 hN:=by simpa [State.aL] using hr.hN
 bP:=fun i l v hl hv=>(hr.bP i l v hl hv).kg fun j sv u hm j5=>j5.obj h
 boxes:=fun cc B2 dk=>by
  have aq:id<s.bs.length:=(List.getElem?_eq_some_iff.1 hb).1
  simp only[State.aL,List.getElem?_set] at dk
  by_cases e:id=cc
  ·subst e
   rw[if_pos rfl,if_pos aq] at dk
   cases dk;exact⟨r,hβ,hB⟩
  ·rw[if_neg e] at dk
   obtain⟨r',h1,h4,h2⟩:=hr.boxes cc B2 dk
   have ct:r'≠r:=fun e2=>by rw[e2,h] at h4;cases h4;exact e rfl
   exact⟨r',h1,h4,h2.move (fun _ _=>Gt h) (Rx ct) (fun cs h5=>h5.obj h) fun _ g o ho hw=>⟨(Rx (fun e3=>by rw[e3,h] at hw;cases hw)).trans ho,hw⟩⟩
 live:=fun i l cc t p hi hm=>by
  have aq:id<s.bs.length:=(List.getElem?_eq_some_iff.1 hb).1
  obtain⟨B2,dk⟩:=hr.live i l cc t p hi hm
  simp only[State.aL,List.getElem?_set]
  by_cases e:id=cc
  ·subst e;exact⟨B',by rw[if_pos rfl,if_pos aq]⟩
  ·rw[if_neg e];exact⟨B2,dk⟩
 defers:=hr.defers
def az.ki(X:az)(b:Obj)(w:Ow)(β:Nat->Option Nat):az:={w:=X.w.alloc b,ow:=fun g=>if g=X.w.heap.size then w else X.ow g,β}
theorem M9(X:az)(s:State)(b:Obj)(w:Ow)(β:Nat->Option Nat)(hβ0:β 0=X.β 0)(hβ:∀(id:Nat) B,s.bs[id]? =some (some B)->β id=X.β id):fa s X (X.ki b w β) where
 size:=by simp [az.ki]
 os:=rfl
 tape:=rfl
 output:=rfl
 mT:=fun g hg=>⟨by simp only[az.ki];rw[if_neg (by omega)],RowKit.Below.heap_alloc _ _ _ hg⟩
 β0:=hβ0
 β:=hβ
theorem zjf(hr:Rel X s a){t p:Ty}{x:El t}{b:Obj}{v:Value}(bd:(execOp a.eval o).run P X.w= .ok (.value v) (X.w.alloc b))
 (Lj:∀Y:az,(∀ad v,X.aE ad v->Y.aE ad v)->Y.w.heap[X.w.heap.size]? =some b->∀pl,dA Y X.w.heap.size pl t x []) (tK:nP p [] X.w.heap.size v) (h:jS s o.dst t x p some=some u):aH P X s a o u:=by
 unfold jS at h
 split at h
 case h_2=>cases h
 rename_i d hd
 split at h
 case h_2=>cases h
 rename_i hb
 cases h
 let β:Nat->Option Nat:=fun id=>if id=d+1 then some X.w.heap.size else X.β id
 have aq:d+1<s.bs.length:=(List.getElem?_eq_some_iff.1 hb).1
 have hk:fa s X (X.ki b (.box (d+1)) β):=M9 X _ _ _ _ (by show(if _ then _ else _)=_;rw[if_neg (by omega)]) (fun id B hB=>by
  show(if id=d+1 then _ else _)=_
  rw[if_neg (fun e=>by rw[e,hb] at hB;cases hB)])
 have ci:bI (X.ki b (.box (d+1)) β) (d+1) X.w.heap.size ⟨t,x,[]⟩:=⟨by simp [az.ki],Lj _ (fun _ _=>hk.aE) (heap_alloc_new X.w _) _⟩
 have hβd:β (d+1)=some X.w.heap.size:=by show(if d+1=d+1 then _ else _)=_;rw[if_pos rfl]
 have eN:=(hr.dB hk).gn aq hb hβd ci
 refine⟨X.ki b (.box (d+1)) β,v,.inl bd,hk.ext,?_⟩
 rw[hd]
 refine eN.put (fun d' e=> ?_) (fun id t' q hm=> ?_)
 ·cases e
  exact⟨X.w.heap.size,hβd,tK⟩
 ·have:id=d+1:=by have:=hm;simp at this;exact this.1
  subst this
  exact⟨⟨t,x,[]⟩,by simp [State.aL,List.getElem?_set,aq]⟩
def jO:(t:Ty)->El t->Value
 | .bool,b=> .bool b
 | .int k,n=> .int k n
 | .str,x=> .string x
 |_,_=>Go.undef
def Ty.gU:Ty->Bool
 | .bool| .int _| .str=>true
 |_=>false
theorem ztm{t:Ty}(hk:t.gU=true){x:El t}{v:Value}(h:dM X t x v):v=jO t x:=by
 obtain⟨cs,h1,h2⟩:=h
 cases t<;>simp [Ty.gU] at hk
 ·rw[h2,uZ h1];rfl
 ·rw[h2,kP h1];rfl
 ·rw[h2,z24 h1];rfl
theorem QU{T:TypeId}{t:Ty}(hE:ar P E)(hT:E.ty T=some t)(hk:t.gU=true)(x:El t):∃d,P.underlying T=some d/\MapKept.IsKey d (jO t x)/\∀y,Instr.sameNow d (jO t x) (jO t y)=some (fy t x y):=by
 have hu:=(hE.ty T t hT).dj
 cases t<;>simp [Ty.gU] at hk
 ·have hu:P.underlying T=some .bool:=hu
  exact⟨_,hu,trivial,fun y=>by cases x<;>cases y<;>rfl⟩
 ·have hu:P.underlying T=some (.int _):=hu
  refine⟨_,hu,by simp [MapKept.IsKey,jO],fun y=> ?_⟩
  simp only[Instr.sameNow,jO,if_true,fy]
  congr 1
 ·have hu:P.underlying T=some .string:=hu
  refine⟨_,hu,trivial,fun y=> ?_⟩
  simp only[Instr.sameNow,jO,fy]
  congr 1
  by_cases e:x=y
  ·rw[decide_eq_true e];exact(MapKept.bytes_beq _ _).2 e
  ·rw[decide_eq_false e]
   cases hb:(x==y) with
   |false=>rfl
   |true=>exact absurd ((MapKept.bytes_beq _ _).1 hb) e
theorem Ob{kt vt:Ty}{d:TypeDesc}{k:El kt}(hk:kt.gU=true)(hs:∀y,Instr.sameNow d (jO kt k) (jO kt y)=some (fy kt k y)):∀(es:List MapEntry) (xs:List (El kt×El vt)) (i:Nat),es.length=xs.length->
 (∀(i:Nat) q e,xs[i]? =some q->es[i]? =some e->dM X kt q.1 e.key/\dM X vt q.2 e.val)->
 (eG (fy kt) xs k=false/\eF (fy kt) (El.bR vt) xs k=El.bR vt/\Instr.findNow d (jO kt k) es i=some none)\/(eG (fy kt) xs k=true/\∃j v,Instr.findNow d (jO kt k) es i=some (some (j,v))/\dM X vt (eF (fy kt) (El.bR vt) xs k) v)
 | [],[],i,_,_=> .inl ⟨rfl,rfl,rfl⟩
 |e::es,q::xs,i,hl,hp=>by
  obtain⟨h1,h2⟩:=hp 0 q e rfl rfl
  have hke:=ztm hk h1
  have pU:=hs q.1
  rw[<-hke] at pU
  simp only[Instr.findNow,pU,eG,eF]
  cases heq:fy kt k q.1 with
  |true=>exact .inr ⟨rfl,i,e.val,rfl,h2⟩
  |false=>exact Ob hk hs es xs (i+1) (by simpa using hl) (fun i q e hq he=>hp (i+1) q e (by simpa using hq) (by simpa using he))
 | [],_::_,_,hl,_=>by simp at hl
 |_::_,[],_,hl,_=>by simp at hl
theorem zym:∀{t:Ty},t.gm=true->t.depth<=2
 | .unit,_=>by decide
 | .pair (.int _) b,h=>by
   have:=zym (t:=b) h
   simp only[Ty.depth];omega
theorem PY:∀{t:Ty},t.gm=true->∀x y:El t,du t x y=some (uG t x y)
 | .unit,_,_,_=>rfl
 | .pair (.int _) b,h,x,y=>by
   have:=PY (t:=b) h x.2 y.2
   simp only[du,this,uG]
theorem gf(hE:ar P E){xs:Array Value}(w:World)(em:Bool)(n:Nat):
 ∀(fl:List Field) (t:Ty) (off:Nat),iK E fl t off->t.gm=true->∀(x:El t) (c1:List Value),aW X t x c1->(xs.toList.drop off).take t.cells=c1->
  (forIn fl () fun(f:Field) (_:Unit)=>(if f.name≠ "_" then do
    let __do_lift<-part f.type xs f.offset
    Instr.checkKey em (n+1) f.type __do_lift
    pure (ForInStep.yield ()) else pure (ForInStep.yield ()):Sem (ForInStep Unit))).run P w= .ok () w:=by
 intro fl
 induction fl with
 |nil=>intro t off hf hi x c1 h1 h3;simp [List.forIn_nil]
 |cons f fl ihl=>
  intro t off hf hi x c1 h1 h3
  cases t<;>simp only[iK] at hf<;>try exact hf.elim
  rename_i ta tb
  obtain⟨ho,HO,hn,eW⟩:=hf
  obtain⟨ca,cb,e1,ra,rb⟩:=h1
  have la:=ra.len
  have t1:(xs.toList.drop off).take ta.cells=ca:=by
   have:=congrArg (fun l=>l.take ta.cells) (h3.trans e1)
   simp only[List.take_take,Ty.cells] at this
   rw[Nat.min_eq_left (Nat.le_add_right _ _),<-la,List.take_left] at this
   rw[<-la];exact this
  have u1:(xs.toList.drop (off+ta.cells)).take tb.cells=cb:=by
   have:=congrArg (fun l=>l.drop ta.cells) (h3.trans e1)
   simp only[Ty.cells] at this
   rw[List.drop_take,Nat.add_sub_cancel_left,List.drop_drop,<-la,List.drop_left] at this
   rw[<-la];exact this
  have nK:=Gu hE HO ra (all:=xs) (off:=f.offset) (by rw[ho];exact t1) w
  cases ta<;>simp [Ty.gm] at hi
  rename_i k
  have hu:P.underlying f.type=some (.int k):=(hE.ty f.type _ HO).dj
  have HH:(Instr.checkKey em (n+1) f.type (dJ (.int k) ca)).run P w= .ok () w:=by
   rw[kP ra]
   exact MapKept.run_checkKey hu (by simp [MapKept.IsKey]) em n
  rw[List.forIn_cons]
  simp only[hn,ne_eq,not_false_eq_true,if_true,Sem.run_bind,nK,HH,Result.andThen_ok,Sem.run_pure]
  exact ihl tb _ eW hi x.2 cb rb u1
theorem Na{T:TypeId}{t:Ty}(hE:ar P E)(hT:E.ty T=some t)(hk:t.isKey=true){x:El t}{v:Value}(h:dM X t x v)(em:Bool)(w:World):(Instr.checkKey em 10000 T v).run P w= .ok () w:=by
 cases h1:t.gU with
 |true=>
  obtain⟨d,hd,TH,_⟩:=QU hE hT h1 x
  rw[ztm h1 h]
  exact MapKept.run_checkKey hd TH em 9999
 |false=>
  have hu:=(hE.ty T t hT).dj
  cases t<;>simp [Ty.isKey,Ty.gU] at hk h1
  rename_i ta tb
  obtain⟨fs,iY,jM,TO,_⟩:=hu
  obtain⟨cs,hr,rfl⟩:=h
  rw[je rfl]
  unfold Instr.checkKey
  simp only[Sem.run_bind,run_underlying iY,Result.andThen_ok]
  rw[<-Array.forIn_toList]
  have:=gf (X:=X) hE (xs:=cs.toArray) w em 9998 fs.toList (.pair ta tb) 0 jM hk x cs hr (by have:=hr.len;simp only[List.drop_zero];rw[<-this];exact List.take_length)
  exact(congrArg (fun r=>Result.andThen r (fun a w'=>Sem.run P (pure ()) w')) this).trans (by simp)
theorem zr0(hE:ar P E){T:TypeId}{kt vt:Ty}(hT:E.ty T=some kt)(hk:kt.gm=true){k:El kt}{v:Value}(h:dM X kt k v)(w:World):∀(es:List MapEntry) (xs:List (El kt×El vt)) (i:Nat),es.length=xs.length->
 (∀(i:Nat) q e,xs[i]? =some q->es[i]? =some e->dM X kt q.1 e.key/\dM X vt q.2 e.val)->
 (eG (uG kt) xs k=false/\eF (uG kt) (El.bR vt) xs k=El.bR vt/\(Instr.findAsking T v es i).run P w= .ok none w)\/(eG (uG kt) xs k=true/\∃j u,(Instr.findAsking T v es i).run P w= .ok (some (j,u)) w/\dM X vt (eF (uG kt) (El.bR vt) xs k) u)
 | [],[],i,_,_=> .inl ⟨rfl,rfl,by simp [Instr.findAsking]⟩
 |e::es,q::xs,i,hl,hp=>by
  obtain⟨h1,h2⟩:=hp 0 q e rfl rfl
  obtain⟨c1,r1,rfl⟩:=h
  obtain⟨c2,r2,e2⟩:=h1
  have heq:(Op.equal T (dJ kt c1) e.key).run P w= .ok (uG kt k q.1) w:=by
   rw[e2]
   exact MR (X:=X) hE w 10000 kt T hT (Nat.le_trans (zym hk) (by decide)) k q.1 c1 c2 _ r1 r2 (PY hk k q.1)
  unfold Instr.findAsking
  simp only[Sem.run_bind,heq,Result.andThen_ok,eG,eF]
  cases heq:uG kt k q.1 with
  |true=>exact .inr ⟨rfl,i,e.val,by simp,h2⟩
  |false=>exact zr0 hE hT hk ⟨c1,r1,rfl⟩ w es xs (i+1) (by simpa using hl) (fun i q e hq he=>hp (i+1) q e (by simpa using hq) (by simpa using he))
 | [],_::_,_,hl,_=>by simp at hl
 |_::_,[],_,hl,_=>by simp at hl
theorem Oz(hE:ar P E){T:TypeId}{kt vt:Ty}(hT:E.ty T=some kt)(hk:kt.isKey=true){k:El kt}{v:Value}(h:dM X kt k v)(w:World)(es:List MapEntry)(xs:List (El kt×El vt))(hl:es.length=xs.length)
 (hp:∀(i:Nat) q e,xs[i]? =some q->es[i]? =some e->dM X kt q.1 e.key/\dM X vt q.2 e.val):
 (eG (fy kt) xs k=false/\eF (fy kt) (El.bR vt) xs k=El.bR vt/\(Instr.findKey T v es).run P w= .ok none w)\/(eG (fy kt) xs k=true/\∃j u,(Instr.findKey T v es).run P w= .ok (some (j,u)) w/\dM X vt (eF (fy kt) (El.bR vt) xs k) u):=by
 cases h1:kt.gU with
 |true=>
  obtain⟨d,hd,TH,pU⟩:=QU hE hT h1 k
  rw[ztm h1 h]
  rcases Ob (X:=X) h1 pU es xs 0 hl hp with⟨g1,g2,g3⟩|⟨g1,j,u,g3,g4⟩
  ·exact .inl ⟨g1,g2,MapKept.run_findKey hd g3⟩
  ·exact .inr ⟨g1,j,u,MapKept.run_findKey hd g3,g4⟩
 |false=>
  have hu:=(hE.ty T kt hT).dj
  cases kt<;>simp [Ty.isKey,Ty.gU] at hk h1
  rename_i ta tb
  obtain⟨fs,iY,_⟩:=hu
  have e:=run_findKey_eq (P:=P) w (k:=T) (by rw[iY]) v es
  have:=zr0 (X:=X) hE hT hk h w es xs 0 hl hp
  rw[e]
  exact this
theorem zys{T:TypeId}{kt vt:Ty}(hE:ar P E)(h:mA E T=some (kt,vt)):∃k e,P.underlying T=some (.map k e)/\E.ty k=some kt/\E.ty e=some vt/\kt.isKey=true:=by
 unfold mA at h
 split at h
 case h_2=>cases h
 rename_i k e hm
 split at h
 case h_2=>cases h
 rename_i kt' vt' h1 h2
 split at h
 case isFalse=>cases h
 rename_i hk
 cases h
 exact⟨k,e,hE.mp T k e hm,h1,h2,hk⟩
theorem zr9{m:Operand}{kt vt:Ty}{R:Type}{K:Nat->List (El kt×El vt)->Option R}{z:R}(hr:Rel X s a)(h:vk s (s.aG m) kt vt K=some z):
 ∃id B r xs,K id xs=some z/\s.bs[id]? =some (some B)/\X.β id=some r/\X.ow r= .box id/\a.eval m= .map (some r)/\∃es clock,X.w.heap[r]? =some (.map es clock)/\es.size=xs.length/\
  ∀(i:Nat) (q:El kt×El vt) (e:MapEntry),xs[i]? =some q->es[i]? =some e->dM X kt q.1 e.key/\dM X vt q.2 e.val:=by
 have hx:=hr.aG m
 unfold vk at h
 split at h
 case h_2=>cases h
 rename_i id kt' vt' hm
 rw[hm] at hx
 obtain⟨r,hβ,hv⟩:=hx
 split at h
 case isFalse=>cases h
 split at h
 case h_2=>cases h
 rename_i B hB
 split at h
 case isFalse=>cases h
 rename_i dQ
 have hb:=rG hB
 obtain⟨r',h1,h2,h3⟩:=hr.boxes id B hb
 rw[hβ] at h1
 cases h1
 refine⟨id,B,r,_,h,hb,hβ,h2,hv,?_⟩
 obtain⟨bt,bx,bo⟩:=B
 have e:=Ty.aR dQ
 simp only at e
 subst e
 exact h3
theorem ac2(hE:ar P E)(hr:Rel X s a){ops:List Oper}{T:TypeId}{rs:Option Operand}(ho:o.op= .makeMap T rs){C:FuncId->bO Out}(h:act E C ops o s some=some u):aH P X s a o u:=by
 unfold act at h
 cases rs with
 |some r=>simp only[ho] at h;cases h
 |none=>
  simp only[ho] at h
  split at h
  case h_2=>cases h
  rename_i kt vt hm
  refine zjf hr (t:= .aZ .mp kt vt) (p:= .aZ .mp kt vt) (x:=([]:List (El kt×El vt))) (b:= .map #[] 0) (v:= .map (some X.w.heap.size)) ?_ (fun Y _ hY pl=>⟨#[],0,hY,rfl,fun i q e hq=>by simp at hq⟩) rfl h
  simp [execOp,ho,Instr.makeMap]
theorem adC(hE:ar P E)(hr:Rel X s a){ops:List Oper}{T:TypeId}{x i:Operand}{ok:Bool}(ho:o.op= .lookup T x i ok){C:FuncId->bO Out}(h:act E C ops o s some=some u):aH P X s a o u:=by
 unfold act at h
 cases ok with
 |true=>simp only[ho] at h;cases h
 |false=>
  simp only[ho] at h
  unfold kH at h
  split at h
  case h_2=>cases h
  rename_i kt vt hm
  obtain⟨k,e,hu,hk,he,tv⟩:=zys hE hm
  obtain⟨id,B,r,xs,h,hb,hβ,how,hv,es,clock,aP,dt,eC⟩:=zr9 hr h
  obtain⟨key,h,hkv⟩:=gy h
  cases h
  obtain⟨ck,rk,evk⟩:=hkv X _ _ (hr.aG i)
  have HH:=Na hE hk tv (X:=X) (x:=key) ⟨ck,rk,evk⟩ es.isEmpty X.w
  rcases Oz (X:=X) hE hk tv (k:=key) ⟨ck,rk,evk⟩ X.w es.toList xs (by simpa using dt) (fun i q e hq he=>eC i q e hq (by simpa using he)) with⟨g1,g2,hf⟩|⟨g1,j,v,hf,g4⟩
  ·rw[g2]
   have hz:=UJ (P:=P) hE he X.w
   refine aH.plain hr (v:=dJ vt (zt vt)) ?_ (G7 (uv X vt)) (fun _ _ _ e'=>by cases e')
   simp only[execOp,ho,Sem.run_bind,Instr.lookup,run_underlying hu,Result.andThen_ok,hv,MapKept.run_getObj_map aP,Sem.run_pure,HH,hf,hz,Bool.false_eq_true,if_false]
  ·obtain⟨cv,rv,ev⟩:=g4
   refine aH.plain hr (v:=v) ?_ ⟨cv,rv,ev,mO⟩ (fun _ _ _ e'=>by cases e')
   simp only[execOp,ho,Sem.run_bind,Instr.lookup,run_underlying hu,Result.andThen_ok,hv,MapKept.run_getObj_map aP,Sem.run_pure,HH,hf,Bool.false_eq_true,if_false]
theorem N7(hE:ar P E)(hr:Rel X s a){T:TypeId}{m k x:Operand}(ho:(execOp a.eval o).run P X.w=((Instr.mapUpdate T (a.eval m) (a.eval k) (a.eval x)).run P X.w).andThen fun _ w=> .ok .skip w)(h:lz E T s (s.aG m) (s.aG k) (s.aG x) some=some u):aH P X s a o u:=by
 unfold lz at h
 split at h
 case h_2=>cases h
 rename_i kt vt hm
 obtain⟨kT,eT,hu,hk,he,tv⟩:=zys hE hm
 obtain⟨id,B,r,xs,h,hb,hβ,how,hv,es,clock,aP,dt,eC⟩:=zr9 hr h
 obtain⟨key,h,hkv⟩:=gy h
 obtain⟨y,h,hyv⟩:=gy h
 obtain⟨ck,rk,BI⟩:=hkv X _ _ (hr.aG k)
 obtain⟨cy,ry,evy⟩:=hyv X _ _ (hr.aG x)
 have HH:=Na hE hk tv (X:=X) (x:=key) ⟨ck,rk,BI⟩ false X.w
 rcases Oz (X:=X) hE hk tv (k:=key) ⟨ck,rk,BI⟩ X.w es.toList xs (by simpa using dt) (fun i q e hq he=>eC i q e hq (by simpa using he)) with⟨g1,g2,hf⟩|⟨g1,j,v,hf,g4⟩
 ·rw[g1] at h
  cases h
  let new:Obj:= .map (es.push {key:=a.eval k,val:=a.eval x,born:=clock}) (clock+1)
  have bd:(execOp a.eval o).run P X.w= .ok .skip (X.obj r new).w:=by
   rw[ho]
   simp only[Instr.mapUpdate,Sem.run_bind,run_underlying hu,Result.andThen_ok,hv,MapKept.run_getObj_map aP,HH,hf,MapKept.run_setObj_map _ aP]
   simp only[new]
   rfl
  have ci:bI (X.obj r new) id r ⟨.aZ .mp kt vt,(xs++ [(key,y)]:List (El kt×El vt)),[]⟩:=by
   refine⟨how,es.push {key:=a.eval k,val:=a.eval x,born:=clock},clock+1,OH aP,by simp [dt],fun i q e hq he=> ?_⟩
   have hs:∀ad v,X.aE ad v->(X.obj r new).aE ad v:=fun _ _=>Gt how
   have hq:(xs++ [(key,y)])[i]? =some q:=hq
   rw[List.getElem?_append] at hq
   rw[Array.getElem?_push] at he
   split at hq
   ·rename_i aq
    rw[if_neg (by omega)] at he
    obtain⟨j1,j2⟩:=eC i q e hq he
    exact⟨j1.mono hs,j2.mono hs⟩
   ·rename_i aq
    have hi:i-xs.length=0:=by
     have:=(List.getElem?_eq_some_iff.1 hq).1
     simp at this
     omega
    rw[hi] at hq
    cases hq
    rw[if_pos (by omega)] at he
    cases he
    exact⟨dM.mono hs ⟨ck,rk,BI⟩,dM.mono hs ⟨cy,ry,evy⟩⟩
  exact⟨X.obj r new,Go.undef,.inr ⟨bd,rfl⟩,P4 how,(hr.obj hb hβ how ci).skip o.dst⟩
 ·rw[g1] at h
  cases h
theorem zdg(hE:ar P E)(hr:Rel X s a){ops:List Oper}{T:TypeId}{m k x:Operand}(ho:o.op= .mapUpdate T m k x\/o.op= .insert T m k x){C:FuncId->bO Out}(h:act E C ops o s some=some u):aH P X s a o u:=by
 unfold act at h
 rcases ho with ho|ho
 ·simp only[ho] at h
  exact N7 hE hr (by simp [execOp,ho]) h
 ·simp only[ho] at h
  exact N7 hE hr (by simp [execOp,ho]) h
theorem aek(hE:ar P E)(hr:Rel X s a){ops:List Oper}{T:TypeId}{x:Operand}(ho:o.op= .range T x){C:FuncId->bO Out}(h:act E C ops o s some=some u):aH P X s a o u:=by
 unfold act at h
 simp only[ho] at h
 split at h
 case h_2=>cases h
 rename_i hT
 obtain⟨y,h,hy⟩:=gy h
 obtain⟨cs,ry,ev⟩:=hy X _ _ (hr.aG x)
 rw[z24 ry] at ev
 have hu:=(hE.ty T _ hT).dj
 refine zjf hr (t:=jN) (p:=jN) (x:=((y,0):ByteArray×Nat)) (b:= .stringIter y 0) (v:= .pointer (some ⟨X.w.heap.size,0,none⟩)) ?_ (fun Y _ hY pl=>hY) ⟨rfl,trivial⟩ h
 simp [execOp,ho,Instr.range,run_underlying hu,ev]
theorem ahl(hr:Rel X s a){ops:List Oper}{x:Operand}{str:Bool}(ho:o.op= .next x str){C:FuncId->bO Out}(h:act E C ops o s some=some u):aH P X s a o u:=by
 unfold act at h
 cases str with
 |false=>simp only[ho] at h;cases h
 |true=>
  simp only[ho] at h
  unfold kJ at h
  have hx:=hr.aG x
  split at h
  case h_2=>cases h
  rename_i id hm
  rw[hm] at hx
  obtain⟨r,hβ,hv,_⟩:=hx
  split at h
  case h_2=>cases h
  rename_i B hB
  split at h
  case isFalse=>cases h
  rename_i dQ
  have hb:=rG hB
  obtain⟨r',h1,how,h3⟩:=hr.boxes id B hb
  rw[hβ] at h1
  cases h1
  have aP:X.w.heap[r]? =some (.stringIter (Ty.cast dQ B.x:ByteArray×Nat).1 (Ty.cast dQ B.x:ByteArray×Nat).2):=by
   obtain⟨bt,bx,bo⟩:=B
   have e:=Ty.aR dQ
   simp only at e
   subst e
   exact h3
  generalize(Ty.cast dQ B.x:ByteArray×Nat)=q at*
  obtain⟨st,pos⟩:=q
  simp only at h aP
  have hv:a.eval x= .pointer (some ⟨r,0,none⟩):=by simpa [Ty.off] using hv
  have cI:(getObj r).run P X.w= .ok (.stringIter st pos) X.w:=by simp [getObj,Sem.run,aP]
  cases aq:decide (pos<st.size) with
  |false=>
   rw[aq] at h
   cases h
   have aq:=of_decide_eq_false aq
   refine aH.plain hr (sv:= .over) (v:= .tuple #[.bool false]) ?_ rfl (fun _ _ _ e'=>by cases e')
   simp only[execOp,ho,Sem.run_bind,Instr.next,hv,cI,Result.andThen_ok,if_neg aq,Sem.run_pure]
  |true=>
   rw[aq] at h
   cases h
   have aq:=of_decide_eq_true aq
   let new:Obj:= .stringIter st (pos+(Utf8.decode st pos).2)
   have fD:(setObj r new).run P X.w= .ok () (X.obj r new).w:=by simp [setObj,Sem.run,aP,az.obj]
   have ci:bI (X.obj r new) id r ⟨jN,((st,pos+(Utf8.decode st pos).2):ByteArray×Nat),[]⟩:=⟨how,OH aP⟩
   have eN:=hr.obj hb hβ how ci
   refine⟨X.obj r new,.tuple #[.bool true,.int .i64 pos,.int .i32 (Utf8.decode st pos).1],.inl ?_,P4 how,?_⟩
   ·simp only[execOp,ho,Sem.run_bind,Instr.next,hv,cI,Result.andThen_ok,if_pos aq,Sem.run_pure]
    simp only[new] at fD
    rw[fD]
    rfl
   ·refine eN.put (fun d' e=>⟨_,rfl,rfl,fun j sv v hj hv=> ?_⟩) (fun id t' q hm=>by simp at hm)
    match j with
    |0=>cases hj;cases hv;exact mN
    |1=>cases hj;cases hv;exact jd
    |2=>cases hj;cases hv;exact jd
    |j+3=>simp at hj
theorem al0{t:Ty}{k:Nat}(hk:(zt t).length=k)(n:Nat):((Array.range (n*k)).map fun i=>(zt t).toArray[i % (zt t).toArray.size]!).size=n*k/\
 ∀j,j<n->((((Array.range (n*k)).map fun i=>(zt t).toArray[i % (zt t).toArray.size]!).toList.drop (j*k)).take k)=zt t:=by
 refine⟨by simp,fun j hj=> ?_⟩
 apply List.ext_getElem?
 intro i
 rw[List.getElem?_take]
 split
 ·rename_i hi
  have aq:j*k+i<n*k:=by
   have:(j+1)*k<=n*k:=Nat.mul_le_mul_right _ hj
   rw[Nat.add_mul,Nat.one_mul] at this
   omega
  have B7:(j*k+i)% k=i:=by rw[Nat.mul_comm,Nat.mul_add_mod,Nat.mod_eq_of_lt hi]
  rw[List.getElem?_drop,Array.getElem?_toList,Array.getElem?_map,Array.getElem?_range,if_pos aq]
  simp only[Option.map_some,List.size_toArray,hk,B7]
  rw[List.getElem?_eq_getElem (by omega)]
  simp [getElem!_def,List.getElem?_eq_getElem (show i<(zt t).length by omega)]
 ·rename_i hi
  rw[List.getElem?_eq_none (by omega)]
theorem OB(hE:ar P E){T e:TypeId}{t:Ty}(hT:E.ty T=some (.sl e t))(hk:t.cells≠0)(mU:E.bytes e≠0){n m:Int}(hn:0<=n)(hnm:n<=m)(hb:m*E.bytes e<=140737488355328)(w:World):
 m.toNat<=maxLen/\∃cur,cur.size=m.toNat*t.cells/\(∀j,j<m.toNat->(cur.toList.drop (j*t.cells)).take t.cells=zt t)/\
  (Instr.makeSlice T (.int .i64 n) (.int .i64 m)).run P w= .ok (.slice (some ⟨w.heap.size,0,none⟩) n.toNat m.toNat) (w.alloc (.cells cur e)):=by
 obtain⟨hu,he⟩:=(hE.ty T _ hT).dj
 obtain⟨i,hi,cw,fB,hz⟩:=(hE.ty e t he).info
 have hle:m<=m*E.bytes e:=by
  have h1:(1:Int)<=E.bytes e:=by omega
  have:=Int.mul_le_mul_of_nonneg_left h1 (show 0<=m by omega)
  simpa using this
 have qM:m.toNat<=maxLen:=by simp only[maxLen];omega
 have ll:(dJ t (zt t)).cells=(zt t).toArray:=xu (X:=⟨w,fun _=> .all,fun _=>none⟩) (uv _ t)
 obtain⟨z1,z2⟩:=al0 (uQ t) m.toNat
 refine⟨qM,(Array.range (m.toNat*t.cells)).map (fun i=>(zt t).toArray[i % (zt t).toArray.size]!),z1,z2,?_⟩
 have TQ:IntKind.i64.wrap n=n:=by simp [IntKind.wrap,IntKind.signed,IntKind.bits];omega
 have uL:IntKind.i64.wrap m=m:=by simp [IntKind.wrap,IntKind.signed,IntKind.bits];omega
 have hmul:(i.bytes:Int)*m<=2^48:=by rw[fB,Int.mul_comm];omega
 have c1:¬m<0:=by omega
 have c2:¬(281474976710656:Int)<(i.bytes:Int)*m:=by omega
 have c3:¬n<0:=by omega
 have c4:¬m<n:=by omega
 have hai:∀(n:Int) (w:World),(asInt (.int .i64 n)).run P w= .ok n w:=fun n w=>by simp [asInt,asIntOf]
 have hti:∀w:World,(typeInfo e).run P w= .ok i w:=fun w=>by simp [typeInfo,hi]
 have iX:∀w:World,(sizeOf e).run P w= .ok t.cells w:=fun w=>lC hE he w
 have hzv:∀w:World,(zeroValue e).run P w= .ok (dJ t (zt t)) w:=fun w=>UJ hE he w
 simp only[Instr.makeSlice,Sem.run_bind,run_underlying hu,Result.andThen_ok,hai,hti,TQ,uL]
 by_cases h0:m.toNat*t.cells=0
 ·simp [c1,c2,c3,c4,iX,h0,newRow]
  rw[show Array.range 0= #[] from rfl]
  simp
 ·simp [c1,c2,c3,c4,iX,h0,hzv,ll,newRow]
theorem acs(hE:ar P E)(hr:Rel X s a){ops:List Oper}{T:TypeId}{l c:Operand}(ho:o.op= .makeSlice T l c){C:FuncId->bO Out}(h:act E C ops o s some=some u):aH P X s a o u:=by
 unfold act at h
 simp only[ho] at h
 unfold kI at h
 split at h
 case h_2=>cases h
 rename_i e t hT
 split at h
 ·cases h
 rename_i ct
 have mU:E.bytes e≠0:=fun e0=>ct (by rw[e0];rfl)
 have hk:t.cells≠0:=fun e0=>ct (by rw[e0];simp)
 obtain⟨n,h,hn⟩:=gy h
 obtain⟨m,h,hm⟩:=gy h
 obtain⟨_,rn,en⟩:=hn X _ _ (hr.aG l)
 rw[kP rn] at en
 obtain⟨_,rm,em⟩:=hm X _ _ (hr.aG c)
 rw[kP rm] at em
 cases hc:PZ l with
 |true=>
  rw[hc] at h
  simp only[cond_true] at h
  cases d1:decide (n=0)<;>rw[d1] at h<;>simp only[cond_true,cond_false] at h
  ·cases h
  cases d2:decide (0<=m)<;>rw[d2] at h<;>simp only[cond_true,cond_false] at h
  ·cases h
  cases d3:decide (m*E.bytes e<=140737488355328)<;>rw[d3] at h<;>simp only[cond_true,cond_false] at h
  ·cases h
  cases h
  have d1:=of_decide_eq_true d1
  have d2:=of_decide_eq_true d2
  have d3:=of_decide_eq_true d3
  subst d1
  obtain⟨qM,cur,g1,g2,bd⟩:=OB (P:=P) hE hT hk mU (n:=0) (m:=m) (by omega) d2 d3 X.w
  have wS:fa s X (X.ki (.cells cur e) (.row (.c (o.dst.getD 0) 0 []) 0) X.β):=M9 X _ _ _ _ rfl (fun _ _ _=>rfl)
  refine⟨X.ki (.cells cur e) (.row (.c (o.dst.getD 0) 0 []) 0) X.β,.slice (some ⟨X.w.heap.size,0,none⟩) 0 m.toNat,.inl ?_,wS.ext,(hr.dB wS).fin ⟨[.slice (some ⟨X.w.heap.size,0,none⟩) 0 m.toNat],⟨_,_,rfl,Nat.zero_le _,fun j x hj=>by simp at hj⟩,rfl,fun p hp=> ?_⟩ (fun id t p hm=>by simp at hm)⟩
  ·simp only[execOp,ho,Sem.run_bind,en,em,bd,Result.andThen_ok,Sem.run_pure]
   rfl
  ·have hp:p=[]:=by simpa using hp
   subst hp
   refine⟨e,t,[],_,by simp [Ty.ff],rfl,rfl,.inr ⟨X.w.heap.size,m.toNat,cur,rfl,heap_alloc_new X.w _,Nat.zero_le _,qM,g1,?_⟩⟩
   simp [az.ki]
 |false=>
  rw[hc] at h
  simp only[cond_false] at h
  cases d1:decide (n=m)<;>rw[d1] at h<;>simp only[cond_true,cond_false] at h
  ·cases h
  cases d2:decide (0<=n)<;>rw[d2] at h<;>simp only[cond_true,cond_false] at h
  ·cases h
  cases d3:decide (n*E.bytes e<=140737488355328)<;>rw[d3] at h<;>simp only[cond_true,cond_false] at h
  ·cases h
  have d1:=of_decide_eq_true d1
  have d2:=of_decide_eq_true d2
  have d3:=of_decide_eq_true d3
  have d1:m=n:=d1.symm
  subst d1
  obtain⟨qM,cur,g1,g2,bd⟩:=OB (P:=P) hE hT hk mU (n:=m) (m:=m) d2 (Int.le_refl _) d3 X.w
  refine zjf hr (t:= .aZ .row t .unit) (p:= .aZ (.fR m.toNat) t .unit) (x:=(List.replicate m.toNat (El.bR t):List (El t))) (b:= .cells cur e) (v:= .slice (some ⟨X.w.heap.size,0,none⟩) m.toNat m.toNat) ?_ (fun Y _ hY pl=>⟨cur,e,hY,?_,fun j x hj=> ?_⟩) ⟨_,rfl,Nat.le_refl _⟩ h
  ·simp only[execOp,ho,Sem.run_bind,en,em,bd,Result.andThen_ok,Sem.run_pure]
  ·rw[g1];show _=List.length (List.replicate _ _)*_;rw[List.length_replicate]
  ·have hj:(List.replicate m.toNat (El.bR t))[j]? =some x:=hj
   rw[List.getElem?_replicate] at hj
   split at hj
   ·rename_i aq
    cases hj
    rw[g2 j aq]
    exact uv Y t
   ·cases hj
end Go.Ref

