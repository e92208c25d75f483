/- No condition. -/
import Derived.Orders
import Derived.Below
import Derived.Maps.AppendAt
import Derived.WalkKit
import Derived.Lib.AppendStr
import Derived.Shelf.Strings.BuilderF
import Derived.WideKeyRuns
import Derived.MapKept
set_option linter.unusedVariables false
set_option linter.unusedSimpArgs false
set_option maxRecDepth 100000
namespace Go.Ref
open Go
structure Bld(T e:TypeId)(b:Nat)(v:Value)(bs:List Value)(w:World):Prop where
 blk:w.heap[b]? =some (.cells #[.pointer none,v] T (0,0))∨w.heap[b]? =some (.cells #[.pointer (some ⟨b,0,none⟩),v] T (0,0))
 own:w.ownsRow 0 e 1 v bs.length bs
 ne:v.ownBlock≠some b
theorem Bld.lt{T e:TypeId}{b:Nat}{v:Value}{bs:List Value}{w:World}(h:Bld T e b v bs w):b<w.heap.size:=by
 rcases Nat.lt_or_ge b w.heap.size with h'|h'
 ·exact h'
 ·rcases h.blk with h|h<;>simp [Array.getElem?_eq_none h'] at h
theorem Bld.same{T e:TypeId}{b:Nat}{v:Value}{bs:List Value}{w w':World}(h:Bld T e b v bs w)(hb:w'.heap[b]? =w.heap[b]?)(hg:∀g o,v.ownBlock=some g→w.heap[g]? =some o→w'.heap[g]? =some o):Bld T e b v bs w':=by
 refine⟨by rw[hb];exact h.blk,⟨h.own.1,?_⟩,h.ne⟩
 rcases h.own.2 with hn|⟨g,cap,cur,hv,h0,hgg,rest⟩
 ·exact .inl hn
 ·exact .inr ⟨g,cap,cur,hv,h0,hg g _ (by rw[hv];rfl) hgg,rest⟩
inductive Spc where
 |iter
 |mp
 |row
 |hdr (n:Nat)
 |bld (T e:Nat)
 |own
 |clo (f:Nat)
 deriving DecidableEq,Inhabited
@[reducible] def SpcT:Spc→Type→Type→Type
  | .iter,_,_=>ByteArray×Nat
  | .mp,a,b=>List (a×b)
  | .row,a,_=>List a
  | .hdr _,_,_=>Unit
  | .bld _ _,_,_=>ByteArray
  | .own,a,_=>Option a
  | .clo _,_,_=>Unit
def SpcT.dflt:(k:Spc)→(a b:Type)→SpcT k a b
 | .iter,_,_=>((⟨#[]⟩:ByteArray),(0:Nat))
 | .mp,_,_=>[]
 | .row,_,_=>[]
 | .hdr _,_,_=>()
 | .bld _ _,_,_=>(⟨#[]⟩:ByteArray)
 | .own,_,_=>none
 | .clo _,_,_=>()
inductive Ty where
 |bool
 |int (k:IntKind)
 |str
 |sl (e:TypeId) (t:Ty)
 |arr (n:Nat) (t:Ty)
 |unit
 |pair (a b:Ty)
 |spc (k:Spc) (a b:Ty)
 deriving Inhabited
@[reducible] def El:Ty→Type
  | .bool=>Bool
  | .int _=>Int
  | .str=>ByteArray
  | .sl _ t=>List (El t)
  | .arr _ t=>List (El t)
  | .unit=>Unit
  | .pair a b=>El a×El b
  | .spc k a b=>SpcT k (El a) (El b)
def El.dflt:(t:Ty)→El t
 | .bool=>false
 | .int _=>(0:Int)
 | .str=>(⟨#[]⟩:ByteArray)
 | .sl _ _=>[]
 | .arr n t=>List.replicate n (El.dflt t)
 | .unit=>()
 | .pair a b=>(El.dflt a,El.dflt b)
 | .spc k a b=>SpcT.dflt k (El a) (El b)
def Ty.eqb:Ty→Ty→Bool
 | .bool,.bool=>true
 | .str,.str=>true
 | .unit,.unit=>true
 | .int j,.int k=>decide (j=k)
 | .sl e t,.sl f u=>Nat.beq e f&&Ty.eqb t u
 | .arr n t,.arr m u=>Nat.beq n m&&Ty.eqb t u
 | .pair a b,.pair c d=>Ty.eqb a c&&Ty.eqb b d
 | .spc k a b,.spc j c d=>decide (k=j)&&(Ty.eqb a c&&Ty.eqb b d)
 |_,_=>false
theorem Ty.eqb_eq:∀{t u:Ty},t.eqb u=true→t=u:=by
 intro t
 induction t with
 |bool=>intro u h;cases u<;>simp_all [Ty.eqb]
 |int k=>intro u h;cases u<;>simp_all [Ty.eqb]
 |str=>intro u h;cases u<;>simp_all [Ty.eqb]
 |unit=>intro u h;cases u<;>simp_all [Ty.eqb]
 |sl e t ih=>
  intro u h
  cases u<;>simp [Ty.eqb] at h
  obtain⟨h1,h2⟩:=h
  rw[ih h2,h1]
 |arr e t ih=>
  intro u h
  cases u<;>simp [Ty.eqb] at h
  obtain⟨h1,h2⟩:=h
  rw[ih h2,h1]
 |pair a b iha ihb=>
  intro u h
  cases u<;>simp [Ty.eqb] at h
  rw[iha h.1,ihb h.2]
 |spc k a b iha ihb=>
  intro u h
  cases u<;>simp [Ty.eqb] at h
  rw[h.1,iha h.2.1,ihb h.2.2]
theorem Ty.eqb_refl:∀t:Ty,t.eqb t=true
 | .bool=>rfl
 | .str=>rfl
 | .unit=>rfl
 | .int k=>by simp [Ty.eqb]
 | .sl e t=>by simp [Ty.eqb,Ty.eqb_refl t]
 | .arr e t=>by simp [Ty.eqb,Ty.eqb_refl t]
 | .pair a b=>by simp [Ty.eqb,Ty.eqb_refl a,Ty.eqb_refl b]
 | .spc k a b=>by simp [Ty.eqb,Ty.eqb_refl a,Ty.eqb_refl b]
def Ty.cast{t u:Ty}(h:t.eqb u=true)(x:El t):El u:=Ty.eqb_eq h▸x
def Ty.cells:Ty→Nat
 | .arr n t=>n*t.cells
 | .unit=>0
 | .pair a b=>a.cells+b.cells
 | .spc _ _ _=>0
 |_=>1
def Ty.agg:Ty→Bool
 | .arr .. | .unit| .pair .. | .spc .. =>true
 |_=>false
def Ty.at_:Ty→List Nat→Option Ty
 |t,[]=>some t
 | .arr _ t,_::p=>t.at_ p
 | .pair a _,0::p=>a.at_ p
 | .pair _ b,(j+1)::p=>b.at_ (j::p)
 |_,_=>none
def Ty.off:Ty→List Nat→Nat
 |_,[]=>0
 | .arr _ t,i::p=>i*t.cells+t.off p
 | .pair a _,0::p=>a.off p
 | .pair a b,(j+1)::p=>a.cells+b.off (j::p)
 |_,_=>0
def El.get:(t:Ty)→List Nat→El t→Option ((u:Ty)×El u)
 |t,[],x=>some ⟨t,x⟩
 | .arr _ t,i::p,xs=>El.get t p (xs.getD i (El.dflt t))
 | .pair a _,0::p,x=>El.get a p x.1
 | .pair _ b,(j+1)::p,x=>El.get b (j::p) x.2
 |_,_::_,_=>none
def El.set:(t:Ty)→List Nat→El t→(u:Ty)→El u→Option (El t)
 |t,[],_,u,y=>if h:u.eqb t=true then some (Ty.cast h y) else none
 | .arr _ t,i::p,xs,u,y=>(El.set t p (xs.getD i (El.dflt t)) u y).map fun z=>List.set xs i z
 | .pair a _,0::p,x,u,y=>(El.set a p x.1 u y).map fun z=>(z,x.2)
 | .pair _ b,(j+1)::p,x,u,y=>(El.set b (j::p) x.2 u y).map fun z=>(x.1,z)
 |_,_::_,_,_,_=>none
def Ty.inb:Ty→List Nat→Prop
 |_,[]=>True
 | .arr n t,i::p=>i<n∧t.inb p
 | .pair a _,0::p=>a.inb p
 | .pair _ b,(j+1)::p=>b.inb (j::p)
 |_,_=>False
inductive Place where
 |c (i j:Nat) (p:List Nat)
 |b (id:Nat) (p:List Nat)
 |r (j:Nat) (p:List Nat)
inductive Ow where
 |all
 |ro (n:Nat)
 |box (id:Nat)
 |row (pl:Place) (n:Nat)
def Ow.used:Ow→Nat→Prop
 | .all,_=>True
 | .ro n,o=>o<n
 | .box _,_=>False
 | .row _ n,o=>o<n
def Ow.still:Ow→Prop
 | .all| .ro _=>True
 |_=>False
structure Cfg where
 w:World
 ow:Nat→Ow
 β:Nat→Option Nat
def Cfg.sees(X:Cfg)(a:Addr)(v:Value):Prop:=a.spot=none∧X.w.cell? a=some v∧(X.ow a.block).used a.off
structure Ext(X Y:Cfg):Prop where
 sees:∀a v,X.sees a v→Y.sees a v
 size:X.w.heap.size≤Y.w.heap.size
 os:Y.w.os=X.w.os
 tape:Y.w.tape=X.w.tape
 output:Y.w.output=X.w.output
 β0:Y.β 0=X.β 0
 still:∀g,g<X.w.heap.size→(X.ow g).still→Y.ow g=X.ow g∧Y.w.heap[g]? =X.w.heap[g]?
theorem Ext.refl(X:Cfg):Ext X X:=⟨fun _ _ h=>h,Nat.le_refl _,rfl,rfl,rfl,rfl,fun _ _ _=>⟨rfl,rfl⟩⟩
theorem Ext.trans{X Y Z:Cfg}(h:Ext X Y)(k:Ext Y Z):Ext X Z:=
 ⟨fun a v hs=>k.sees a v (h.sees a v hs),Nat.le_trans h.size k.size,k.os.trans h.os,k.tape.trans h.tape,k.output.trans h.output,k.β0.trans h.β0,
  fun g hg hst=>by
   obtain⟨h1,h2⟩:=h.still g hg hst
   obtain⟨k1,k2⟩:=k.still g (Nat.lt_of_lt_of_le hg h.size) (by rw[h1];exact hst)
   exact⟨k1.trans h1,k2.trans h2⟩⟩
theorem Cfg.sees_lt{X:Cfg}{a:Addr}{v:Value}(h:X.sees a v):a.block<X.w.heap.size:=World.block_lt_of_cell? X.w a h.2.1
def Rep(X:Cfg):(t:Ty)→El t→List Value→Prop
 | .bool,b,cs=>cs=[.bool b]
 | .int k,n,cs=>cs=[.int k n]
 | .str,s,cs=>cs=[.string s]
 | .sl _ t,xs,cs=>∃A c,cs=[.slice A xs.length c]∧xs.length≤c∧
    ∀j x,xs[j]? =some x→∃ad cs',A=some ad∧ad.spot=none∧Rep X t x cs'∧∀i v,cs'[i]? =some v→X.sees (ad.add (j*t.cells+i)) v
 | .arr n t,xs,cs=>xs.length=n∧cs.length=n*t.cells∧∀j x,xs[j]? =some x→Rep X t x ((cs.drop (j*t.cells)).take t.cells)
 | .unit,_,cs=>cs=[]
 | .pair a b,x,cs=>∃c1 c2,cs=c1++c2∧Rep X a x.1 c1∧Rep X b x.2 c2
 | .spc _ _ _,_,cs=>cs=[]
theorem Rep.sees_mono{X Y:Cfg}(h:∀a v,X.sees a v→Y.sees a v):∀{t:Ty} {x:El t} {cs:List Value},Rep X t x cs→Rep Y t x cs
 | .bool,_,_,hr=>hr
 | .int _,_,_,hr=>hr
 | .str,_,_,hr=>hr
 | .unit,_,_,hr=>hr
 | .sl _ t,xs,cs,⟨A,c,h1,h2,h3⟩=>⟨A,c,h1,h2,fun j x hj=>by
    obtain⟨ad,cs',h4,h5,h6,h7⟩:=h3 j x hj
    exact⟨ad,cs',h4,h5,Rep.sees_mono h h6,fun i v hi=>h _ _ (h7 i v hi)⟩⟩
 | .arr n t,xs,cs,⟨h1,h2,h3⟩=>⟨h1,h2,fun j x hj=>Rep.sees_mono h (h3 j x hj)⟩
 | .pair a b,x,cs,⟨c1,c2,h1,h2,h3⟩=>⟨c1,c2,h1,Rep.sees_mono h h2,Rep.sees_mono h h3⟩
 | .spc _ _ _,_,_,hr=>hr
theorem Rep.mono{X Y:Cfg}(h:Ext X Y){t:Ty}{x:El t}{cs:List Value}(hr:Rep X t x cs):Rep Y t x cs:=Rep.sees_mono h.sees hr
theorem Rep.len{X:Cfg}:∀{t:Ty} {x:El t} {cs:List Value},Rep X t x cs→cs.length=t.cells
 | .bool,_,_,hr=>by cases hr;rfl
 | .int _,_,_,hr=>by cases hr;rfl
 | .str,_,_,hr=>by cases hr;rfl
 | .unit,_,_,hr=>by cases hr;rfl
 | .sl _ t,xs,cs,⟨A,c,h1,_⟩=>by cases h1;rfl
 | .arr n t,xs,cs,⟨h1,h2,h3⟩=>h2
 | .pair a b,x,cs,⟨c1,c2,h1,h2,h3⟩=>by rw[h1,List.length_append,h2.len,h3.len];rfl
 | .spc _ _ _,_,_,hr=>by cases hr;rfl
theorem zxb{cs:List Value}{n k:Nat}{u:Value}(hu:u∈cs)(hk:cs.length=n*k):∃j,j<n∧u∈(cs.drop (j*k)).take k:=by
 obtain⟨q,hq,rfl⟩:=List.mem_iff_getElem.1 hu
 have hk0:0<k:=by
  rcases Nat.eq_zero_or_pos k with h|h
  ·subst h;simp at hk;subst hk;simp at hq
  ·exact h
 refine⟨q/k,by rw[Nat.div_lt_iff_lt_mul hk0,←hk];exact hq,?_⟩
 rw[List.mem_iff_getElem?]
 refine⟨q % k,?_⟩
 rw[List.getElem?_take,if_pos (Nat.mod_lt _ hk0),List.getElem?_drop,Nat.mul_comm,Nat.div_add_mod,List.getElem?_eq_getElem hq]
theorem Rep.one{X:Cfg}:∀{t:Ty} {x:El t} {cs:List Value},Rep X t x cs→∀u∈cs,u.oneCell'=true
 | .bool,_,_,hr,u,hu=>by cases hr;simp at hu;subst hu;rfl
 | .int _,_,_,hr,u,hu=>by cases hr;simp at hu;subst hu;rfl
 | .str,_,_,hr,u,hu=>by cases hr;simp at hu;subst hu;rfl
 | .unit,_,_,hr,u,hu=>by cases hr;simp at hu
 | .sl _ t,xs,cs,⟨A,c,h1,_⟩,u,hu=>by cases h1;simp at hu;subst hu;rfl
 | .arr n t,xs,cs,⟨h1,h2,h3⟩,u,hu=>by
   obtain⟨j,hj,hm⟩:=zxb hu h2
   exact Rep.one (h3 j _ (List.getElem?_eq_getElem (by omega))) u hm
 | .pair a b,x,cs,⟨c1,c2,h1,h2,h3⟩,u,hu=>by
   rw[h1] at hu
   rcases List.mem_append.1 hu with hu|hu
   ·exact h2.one u hu
   ·exact h3.one u hu
 | .spc _ _ _,_,_,hr,u,hu=>by cases hr;simp at hu
end Go.Ref

namespace Go.Ref
open Go Go.Shelf Go.RowKit Go.Proofs
variable {P:Program} {ρ:Ren}
structure But(b:Nat)(g:Option Nat)(w w':World):Prop where
 os:w'.os=w.os
 tape:w'.tape=w.tape
 output:w'.output=w.output
 size:w.heap.size≤w'.heap.size
 block:∀k,k<w.heap.size→k≠b→some k≠g→w'.heap[k]? =w.heap[k]?
theorem But.of{b:Nat}{g:Option Nat}{w w':World}(h:w.grownBy w' g):But b g w w':=⟨h.os,h.tape,h.output,h.size,fun k hk _ hg=>h.block k hk hg⟩
theorem But.trans{b:Nat}{g:Option Nat}{u v w:World}(h:But b g u v)(k:But b g v w):But b g u w:=
 ⟨k.os.trans h.os,k.tape.trans h.tape,k.output.trans h.output,Nat.le_trans h.size k.size,fun i hi h1 h2=>(k.block i (Nat.lt_of_lt_of_le hi h.size) h1 h2).trans (h.block i hi h1 h2)⟩
theorem But.refl{b:Nat}{g:Option Nat}(w:World):But b g w w:=⟨rfl,rfl,rfl,Nat.le_refl _,fun _ _ _ _=>rfl⟩
theorem But.setCell{b:Nat}{g:Option Nat}(w:World)(a:Addr)(ha:a.block=b)(u:Value):But b g w (w.setCell a u):=
 ⟨rfl,rfl,rfl,by simp [World.setCell],fun k _ hk _=>Below.heap_setCell _ _ _ _ (by rw[ha];exact hk)⟩
theorem z177{w:World}(t u ty e:TypeId)(i:TypeInfo)(ht:P.underlying t=some (.slice e))(hu:P.underlying u=some .string)(hi:P.info? e=some i)(hz:i.zero=some (.int .u8 0))(hsize:i.size=1)(hby:i.bytes=1)
 (v:Value) (n:Nat) (xs:List Value) (hown:w.ownsRow 0 e 1 v n xs) (s:ByteArray) (h63:n+s.size≤maxLen) (hbytes:n+s.size≤140737488355328) {v':Value} {w':World}
 (h:(Builtin.append_ #[t,u] ty #[v,.string s]).run P w= .ok v' w'):∀g,v'.ownBlock=some g→v.ownBlock=some g∨g=w.heap.size:=by
 have hxl:xs.length=n:=by simpa using hown.1
 have hsmall:n+s.size≤9223372036854775807:=by simp only[maxLen] at h63;omega
 intro g0 hg0
 rcases hown.2 with⟨rfl,rfl⟩|⟨g,cap,cur,rfl,hbg,hg,hnc,hcm,hcs,htake⟩
 ·by_cases hm:s.size=0
  ·have hf:=Lib.run_firstCells_string (P:=P) w 1 s
   rw[hm] at hf
   simp [Builtin.append_,run_underlying ht,run_underlying hu,sizeOf,typeInfo,hi,hsize,Builtin.lenOf,hm,hf] at h
   rw[←h.1] at hg0
   simp [Value.ownBlock] at hg0
  ·have hr:=run_append_nil_string (P:=P) w t u ty e i (.int .u8 0) ht hu hi hz s (by omega) (by omega) (by rw[hby];omega)
   rw[hr] at h
   cases h
   simp [Value.ownBlock] at hg0
   exact .inr hg0.symm
 ·by_cases hroom:n+s.size≤cap
  ·have hcs':cur.size=cap:=by simpa using hcs
   have hr:=Lib.run_append_room_string (P:=P) w t u ty e i ht hu hi hsize g n cap cur hg s hroom (by omega)
   rw[hr] at h
   cases h
   exact .inl hg0
  ·have holds:∀j u,xs[j]? =some u→w.cell? ((⟨g,0,none⟩:Addr).add j)=some u:=hown.cells (g:=g) rfl
   have hr:=Lib.run_append_grow_string (P:=P) w t u ty e i (.int .u8 0) ht hu hi hz ⟨g,0,none⟩ n cap xs (by rw[hsize];simpa using hxl) holds s (by omega) (by omega) (by rw[hby];exact growslice_fits (by omega) (by omega))
   rw[hr] at h
   cases h
   simp [Value.ownBlock] at hg0
   exact .inr hg0.symm
theorem z14a{ops:Array Oper}{rest:List Oper}{o:Oper}{a:Act}{w:World}{Q:Exit→Act→World→Prop}(hgd:o.guard=none)(sl x:Operand)(t u:TypeId)
 (ho:o.op= .call {callee:= .builtin .append,args:= #[sl,x],argTypes:= #[t,u]})
 (e:TypeId) (i:TypeInfo) (ht:P.underlying t=some (.slice e)) (hu:P.underlying u=some .string) (hi:P.info? e=some i) (hz:i.zero=some (.int .u8 0))
 (hsize:i.size=1) (hby:i.bytes=1)
 (v:Value) (n:Nat) (xs:List Value) (hs:a.eval sl=v) (hown:w.ownsRow 0 e 1 v n xs) (s:ByteArray) (hx:a.eval x= .string s)
 (h63:n+s.size≤maxLen) (hbytes:n+s.size≤140737488355328)
 (h:∀v' w',w'.ownsRow 0 e 1 v' (n+s.size) (xs++Lib.strCells s)→w.grownBy w' v.ownBlock→(∀g,v'.ownBlock=some g→v.ownBlock=some g∨g=w.heap.size)→wpList P ops Q rest (a.put o.dst v') w'):wpList P ops Q (o::rest) a w:=by
 refine wpList_plain hgd fun K hK=> ?_
 obtain⟨v',w',hr,h2,h3,h4⟩:=Lib.run_append_own_string (P:=P) w 0 t u o.type e i ht hu hi hz hsize hby v n xs hown s h63 hbytes (Nat.zero_le _)
 unfold Oper.wp execOp
 simp only[ho,resolve,invoke,builtin,Sem.run_bind,Sem.run_pure,Result.andThen_ok,List.map_toArray,List.map_cons,List.map_nil,hs,hx,hr]
 exact hK _ _ (h v' w' h2 h3 (z177 t u o.type e i ht hu hi hz hsize hby v n xs hown s h63 hbytes hr))
theorem z17q(L:Lays.n240 P ρ)(X:Builder.X72 P ρ)(b:Nat)(v:Value)(bs:List Value)(w:World)(h:Bld (ρ.t 72) (ρ.t 5) b v bs w):
 Calls P (ρ.f 240) #[.pointer (some ⟨b,0,none⟩)] w fun e w'=>e= .returned (.tuple #[])∧(w'.heap[b]? =some (.cells #[.pointer (some ⟨b,0,none⟩),v] (ρ.t 72) (0,0))∧w'.ownsRow 0 (ρ.t 5) 1 v bs.length bs)∧(But b none w w'∧w'.heap.size=w.heap.size):=by
 rcases h.blk with hb|hb
 ·have hA:Lib.BuilderAt (ρ.t 72) (ρ.t 5) 0 b (.pointer none) bs w:=⟨Nat.zero_le _,v,hb,h.own,h.ne⟩
  refine(Any.Builder_copyCheck_fresh L X b w hA.cell0 hA.shape hA.frozen0).mono ?_
  rintro e w' ⟨rfl,rfl⟩
  have hu:=hA.used (.pointer (some ⟨b,0,none⟩))
  obtain⟨_,v',hb',hown',_⟩:=hu
  have hv:v'=v:=by
   have:(w.setCell ⟨b,0,none⟩ (.pointer (some ⟨b,0,none⟩))).heap[b]? =some (.cells #[.pointer (some ⟨b,0,none⟩),v] (ρ.t 72) (0,0)):=heap_setCell_same w b 0 _ _ _ hb
   rw[hb'] at this
   simp at this
   exact this
  subst hv
  exact⟨rfl,⟨hb',hown'⟩,But.setCell w ⟨b,0,none⟩ rfl _,by simp [World.setCell]⟩
 ·have hA:Lib.BuilderAt (ρ.t 72) (ρ.t 5) 0 b (.pointer (some ⟨b,0,none⟩)) bs w:=⟨Nat.zero_le _,v,hb,h.own,h.ne⟩
  refine(Any.Builder_copyCheck_used L X b w hA.cell0).mono ?_
  rintro e w' ⟨rfl,rfl⟩
  exact⟨rfl,⟨hb,h.own⟩,But.refl _,rfl⟩
set_option maxHeartbeats 2000000 in
set_option maxRecDepth 100000 in
theorem z17r(L:Lays.n166 P ρ)(X:Builder.Extra P ρ)(b:Nat)(v0:Value)(bs:List Value)(s:ByteArray)(w:World)(h:Bld (ρ.t 72) (ρ.t 5) b v0 bs w)(hlen:bs.length+s.size≤140737488355328):
 Calls P (ρ.f 166) #[.pointer (some ⟨b,0,none⟩),.string s] w fun e w'=>e= .returned (.tuple #[.int .i64 s.size,.nilIface])∧∃v',Bld (ρ.t 72) (ρ.t 5) b v' (bs++Lib.strCells s) w'∧But b v0.ownBlock w w'∧∀g,v'.ownBlock=some g→v0.ownBlock=some g∨w.heap.size≤g:=by
 obtain⟨i0,hi,hz0,hz1,hz2⟩:=info_parts X.infoByte
 have hlt:=h.lt
 have mixed:=L.mixed
 have t72:=L.t72;have a72:=L.a72;have z72:=L.z72;have v72:=L.v72;have u72:=run_underlying L.t72
 have t70:=L.t70;have a70:=L.a70;have z70:=L.z70;have v70:=L.v70;have u70:=run_underlying L.t70
 have t37:=L.t37;have a37:=L.a37;have z37:=L.z37;have v37:=L.v37;have u37:=run_underlying L.t37
 have t3:=L.t3;have a3:=L.a3;have z3:=L.z3;have v3:=L.v3;have u3:=run_underlying L.t3
 have t9:=L.t9;have a9:=L.a9;have z9:=L.z9;have v9:=L.v9;have u9:=run_underlying L.t9
 have t4:=L.t4;have a4:=L.a4;have z4:=L.z4;have v4:=L.v4;have u4:=run_underlying L.t4
 have t164:=L.t164;have a164:=L.a164;have z164:=L.z164;have v164:=L.v164;have u164:=run_underlying L.t164
 have t5:=X.t5;have a5:=X.a5;have z5:=X.z5;have v5:=X.v5;have u5:=run_underlying X.t5
 have e240:∀args w,(callFunc (ρ.f 240) args).run P w= .ok (.enter (ρ.f 240) args) w:=enters_of L.f240 (by kernel_rfl) rfl
 go_enter L.f166,Body.n166_ntmps ρ
 go_wp2_with (go_at_fn (ρ.f 240);refine(z17q {L with} X.toX72 b v0 bs _ h).mono ?_)
 rintro e w1 ⟨rfl,⟨hbk,hown⟩,hb1,hs1⟩
 have hne:=h.ne
 have c0:w1.cell? ⟨b,0,none⟩=some (.pointer (some ⟨b,0,none⟩)):=by rw[Lib.cell_of_heap hbk];rfl
 have c1:w1.cell? ⟨b,1,none⟩=some v0:=by rw[Lib.cell_of_heap hbk];rfl
 go_wp2_with (at_builtin;refine z14a rfl _ _ (ρ.t 37) (ρ.t 9) rfl (ρ.t 5) i0 L.t37 L.t9 hi hz0 hz1 hz2 _ _ _ rfl hown s rfl ?c3 ?c4 ?_)
 case c3=>unfold maxLen;omega
 case c4=>omega
 intro v' w2 hown' hgrow hnew
 have hlt1:b<w1.heap.size:=by rw[hs1];exact hlt
 have hb2:w2.heap[b]? =some (.cells #[.pointer (some ⟨b,0,none⟩),v0] (ρ.t 72) (0,0)):=by
  rw[hgrow.block b hlt1 (fun e=>hne e.symm)]
  exact hbk
 have d0:w2.cell? ⟨b,0,none⟩=some (.pointer (some ⟨b,0,none⟩)):=by rw[Lib.cell_of_heap hb2];rfl
 have d1:w2.cell? ⟨b,1,none⟩=some v0:=by rw[Lib.cell_of_heap hb2];rfl
 have f1:w2.frozen? ⟨b,1,none⟩=false:=Lib.frozen_of_heap hb2 1
 obtain⟨ao,n',cap,rfl⟩:∃ao n' cap,v'= .slice ao n' cap:=by
  rcases hown'.2 with⟨hv,_⟩|⟨g,cap,cur,hv,_⟩
  ·exact⟨_,_,_,hv⟩
  ·exact⟨_,_,_,hv⟩
 go_wp2
 go_ret2
 have hne':(Value.slice ao n' cap).ownBlock≠some b:=fun e=>by
  rcases hnew b e with h1|h1
  ·exact hne h1
  ·omega
 have hset:(w2.setCell ⟨b,1,none⟩ (.slice ao n' cap)).heap[b]? =some (.cells #[.pointer (some ⟨b,0,none⟩),.slice ao n' cap] (ρ.t 72) (0,0)):=heap_setCell_same w2 b 1 _ _ _ hb2
 refine⟨rfl,_,⟨.inr hset,?_,hne'⟩,?_,fun g hg=> ?_⟩
 ·have hl:(bs++Lib.strCells s).length=bs.length+s.size:=by rw[List.length_append,Lib.strCells_length]
  rw[hl]
  refine⟨hown'.1,?_⟩
  rcases hown'.2 with hn|⟨g,cap',cur,hv,hbg,hg,rest⟩
  ·exact .inl hn
  ·refine .inr ⟨g,cap',cur,hv,hbg,?_,rest⟩
   rw[Below.heap_setCell _ _ _ _ (fun e=>hne' (by rw[hv,Value.ownBlock];exact congrArg some e))]
   exact hg
 ·refine But.trans ⟨hb1.os,hb1.tape,hb1.output,hb1.size,fun k hk h1 h2=>hb1.block k hk h1 (by simp)⟩ (But.trans (But.of hgrow) (But.setCell w2 ⟨b,1,none⟩ rfl _))
 ·rcases hnew g hg with h1|h1
  ·exact .inl h1
  ·exact .inr (by omega)
theorem But.freeze{b:Nat}{g:Nat}(w:World)(a:Addr)(ha:a.block=g)(n:Nat):But b (some g) w (w.freeze a n):=by
 unfold World.freeze
 split
 ·exact But.refl _
 ·refine⟨rfl,rfl,rfl,by simp,fun k hk h1 h2=> ?_⟩
  simp only[Array.getElem?_modify]
  rw[if_neg]
  intro e
  exact h2 (by rw[←e,ha])
theorem But.drew{b:Nat}{g:Option Nat}(w:World):But b g w w.drew:=⟨rfl,rfl,rfl,Nat.le_refl _,fun _ _ _ _=>rfl⟩
theorem But.alloc{b:Nat}{g:Option Nat}(w:World)(o:Obj):But b g w (w.alloc o):=⟨rfl,rfl,rfl,by simp,fun k hk _ _=>Below.heap_alloc _ _ _ hk⟩
set_option maxHeartbeats 2000000 in
set_option maxRecDepth 100000 in
theorem z1cr(L:Lays.n169 P ρ)(X:Builder.Extra P ρ)(b:Nat)(v0:Value)(l:List UInt8)(w:World)(h:Bld (ρ.t 72) (ρ.t 5) b v0 (Lib.byteCells l) w):
 Calls P (ρ.f 169) #[.pointer (some ⟨b,0,none⟩)] w fun e w'=>e= .returned (.string ⟨l.toArray⟩)∧But b v0.ownBlock w w':=by
 obtain⟨p,hbk⟩:∃p,w.heap[b]? =some (.cells #[p,v0] (ρ.t 72) (0,0)):=by
  rcases h.blk with h|h
  ·exact⟨_,h⟩
  ·exact⟨_,h⟩
 have hown:=h.own
 have hlt:=h.lt
 rw[Lib.byteCells_length] at hown
 have mixed:=L.mixed
 have t72:=L.t72;have a72:=L.a72;have z72:=L.z72;have v72:=L.v72;have u72:=run_underlying L.t72
 have t70:=L.t70;have a70:=L.a70;have z70:=L.z70;have v70:=L.v70;have u70:=run_underlying L.t70
 have t37:=L.t37;have a37:=L.a37;have z37:=L.z37;have v37:=L.v37;have u37:=run_underlying L.t37
 have t127:=L.t127;have a127:=L.a127;have z127:=L.z127;have v127:=L.v127;have u127:=run_underlying L.t127
 have t3:=L.t3;have a3:=L.a3;have z3:=L.z3;have v3:=L.v3;have u3:=run_underlying L.t3
 have t9:=L.t9;have a9:=L.a9;have z9:=L.z9;have v9:=L.v9;have u9:=run_underlying L.t9
 have t5:=X.t5;have a5:=X.a5;have z5:=X.z5;have v5:=X.v5;have u5:=run_underlying X.t5
 rcases hown.2 with⟨rfl,hz⟩|⟨g,cap,cur,rfl,hbg,hg,hnc,hcm,hcs,htake⟩
 ·have hl:l=[]:=List.eq_nil_of_length_eq_zero hz
  subst hl
  have hUS:=Any.unsafeString_none L X
  have c1:w.drew.cell? ⟨b,1,none⟩=some (.slice none 0 0):=by
   have:w.drew.heap[b]? =some (.cells #[p,.slice none 0 0] (ρ.t 72) (0,0)):=hbk
   rw[Lib.cell_of_heap this];rfl
  have hSD:(Builtin.unsafeSliceData_ #[(ρ.t 37)] (ρ.t 127) #[.slice none 0 0]).run P w.drew= .ok (.pointer none) w.drew:=rfl
  go_enter L.f169,Body.n169_ntmps ρ
  go_wp2
  go_region_o
  all_goals(go_wp2;go_ret;exact⟨rfl,But.drew w⟩)
 ·by_cases hl0:l.length=0
  ·have hl:l=[]:=List.eq_nil_of_length_eq_zero hl0
   subst hl
   by_cases hc0:cap=0
   ·subst hc0
    have hUS:=Any.unsafeString_none L X
    have c1:w.drew.cell? ⟨b,1,none⟩=some (.slice (some ⟨g,0,none⟩) 0 0):=by
     have:w.drew.heap[b]? =some (.cells #[p,.slice (some ⟨g,0,none⟩) 0 0] (ρ.t 72) (0,0)):=hbk
     rw[Lib.cell_of_heap this];rfl
    have hSD:(Builtin.unsafeSliceData_ #[(ρ.t 37)] (ρ.t 127) #[.slice (some ⟨g,0,none⟩) 0 0]).run P w.drew= .ok (.pointer (some ⟨w.drew.heap.size,0,none⟩)) (w.drew.alloc (.view ⟨g,0,none⟩ (ρ.t 5))):=
     Lib.run_unsafeSliceData_zero w.drew _ _ (ρ.t 5) L.t127 ⟨g,0,none⟩ 0 ((ρ.t 5),cur.size) (by have hg':w.drew.heap[g]? =some (.cells cur (ρ.t 5) (0,0)):=hg;simp [World.shape?,hg'])
    have c2:(w.drew.alloc (.view ⟨g,0,none⟩ (ρ.t 5))).cell? ⟨b,1,none⟩=some (.slice (some ⟨g,0,none⟩) 0 0):=by
     have:(w.drew.alloc (.view ⟨g,0,none⟩ (ρ.t 5))).heap[b]? =_:=(Lib.alloc_old w.drew _ b hlt).trans hbk
     rw[Lib.cell_of_heap this];rfl
    have c3:(w.alloc (.view ⟨g,0,none⟩ (ρ.t 5))).drew.cell? ⟨b,1,none⟩=some (.slice (some ⟨g,0,none⟩) 0 0):=c2
    have c0:w.cell? ⟨b,1,none⟩=some (.slice (some ⟨g,0,none⟩) 0 0):=c1
    go_enter L.f169,Body.n169_ntmps ρ
    go_wp2
    go_region_o
    all_goals(go_wp2;go_ret;exact⟨rfl,(But.drew w).trans (But.alloc _ _)⟩)
   ·have hUS:=Any.unsafeString_none L X
    have c1:w.drew.cell? ⟨b,1,none⟩=some (.slice (some ⟨g,0,none⟩) 0 cap):=by
     have:w.drew.heap[b]? =some (.cells #[p,.slice (some ⟨g,0,none⟩) 0 cap] (ρ.t 72) (0,0)):=hbk
     rw[Lib.cell_of_heap this];rfl
    have hSD:(Builtin.unsafeSliceData_ #[(ρ.t 37)] (ρ.t 127) #[.slice (some ⟨g,0,none⟩) 0 cap]).run P w.drew= .ok (.pointer (some ⟨g,0,none⟩)) w.drew:=
     Lib.run_unsafeSliceData_row _ _ _ _ _ _ hc0
    clear hc0
    go_enter L.f169,Body.n169_ntmps ρ
    go_wp2
    go_region_o
    all_goals(go_wp2;go_ret;exact⟨rfl,But.drew w⟩)
  ·have h0:l≠ []:=fun e=>hl0 (by rw[e];rfl)
   have c1:w.drew.cell? ⟨b,1,none⟩=some (.slice (some ⟨g,0,none⟩) l.length cap):=by
    have:w.drew.heap[b]? =some (.cells #[p,.slice (some ⟨g,0,none⟩) l.length cap] (ρ.t 72) (0,0)):=hbk
    rw[Lib.cell_of_heap this];rfl
   have hSD:(Builtin.unsafeSliceData_ #[(ρ.t 37)] (ρ.t 127) #[.slice (some ⟨g,0,none⟩) l.length cap]).run P w.drew= .ok (.pointer (some ⟨g,0,none⟩)) w.drew:=
    Lib.run_unsafeSliceData_row _ _ _ _ _ _ (by omega)
   have hUS:(Builtin.unsafeString_ #[(ρ.t 127),(ρ.t 3)] (ρ.t 9) #[.pointer (some ⟨g,0,none⟩),.int .i64 l.length]).run P w.drew= .ok (.string ⟨l.toArray⟩) (w.drew.freeze ⟨g,0,none⟩ l.length):=by
    refine Lib.run_unsafeString_row w.drew (ρ.t 127) (ρ.t 3) (ρ.t 9) (ρ.t 5) L.t127 X.cellsByte g cur.size (by have hg':w.drew.heap[g]? =some (.cells cur (ρ.t 5) (0,0)):=hg;simp [World.shape?,hg']) l h0 (by omega) (by unfold maxLen at hcm;omega) ?_
    intro j x hx
    have:=hown.cells (g:=g) rfl j (.int .u8 x.toNat) (by simp [Lib.byteCells,hx])
    exact this
   go_enter L.f169,Body.n169_ntmps ρ
   go_wp2
   go_region_o
   all_goals(go_wp2;go_ret;exact⟨rfl,(But.drew w).trans (But.freeze _ _ rfl _)⟩)
end Go.Ref

namespace Go.Ref
open Go
inductive SV where
 |undef
 |skip
 |nilS
 |nilP
 |dat (t:Ty) (x:El t) (own:List (List Nat))
 |ptr (id:Nat) (t:Ty) (p:List Nat)
 |view (t:Ty) (x:El t)
 |cap (f:Nat) (t:Ty) (x:El t) (u:Ty) (y:El u)
 |over
def Ty.noClo:Ty→Bool
 | .spc (.bld _ _) _ _=>false
 | .spc _ _ _=>true
 |_=>false
def Ty.isSpc:Ty→Bool
 | .spc _ _ _=>true
 |_=>false
structure Box where
 t:Ty
 x:El t
 own:List (List Nat)
structure State where
 sl:List (List SV)
 bs:List (Option Box)
structure Env where
 ty:TypeId→Option Ty
 bytes:TypeId→Nat
 pt:TypeId→Bool
 keep:Nat→List Nat
 keepX:Nat→List Nat
 outs:List Nat
 ps:List Ty
 mp:TypeId→Option (TypeId×TypeId):=fun _=>none
 join:Nat→Option (List Nat):=fun _=>none
 fz:Nat→Option (Nat×TypeId):=fun _=>none
 dr:Nat→List Nat:=fun _=>[]
 sh:List Nat:=[]
 ro:Bool:=false
 mv:List Nat:=[]
 fr:Nat→List Nat:=fun _=>[]
 bl:TypeId→Option TypeId:=fun _=>none
 sp:Option (Nat×Nat×Nat×Nat):=none
def Ty.isInts:Ty→Bool
 | .unit=>true
 | .pair (.int _) b=>b.isInts
 |_=>false
def Ty.isKey:Ty→Bool
 | .bool| .int _| .str=>true
 | .pair a b=>(Ty.pair a b).isInts
 |_=>false
def eqI:(t:Ty)→El t→El t→Bool
 | .pair (.int _) b,x,y=>decide (x.1=y.1)&&eqI b x.2 y.2
 |_,_,_=>true
def eqK:(t:Ty)→El t→El t→Bool
 | .bool,x,y=>decide (x=y)
 | .int _,x,y=>decide (x=y)
 | .str,x,y=>decide (x=y)
 | .pair a b,x,y=>eqI (.pair a b) x y
 |_,_,_=>false
def mget{K V:Type}(eq:K→K→Bool)(d:V):List (K×V)→K→V
 | [],_=>d
 |q::r,k=>bif eq k q.1 then q.2 else mget eq d r k
def mhas{K V:Type}(eq:K→K→Bool):List (K×V)→K→Bool
 | [],_=>false
 |q::r,k=>bif eq k q.1 then true else mhas eq r k
section
variable {R:Type}
abbrev Fun'(R:Type):=List SV→Option Box→(List SV→Option Box→Option R)→Option R
def SV.el(s:SV)(u:Ty)(K:El u→Option R):Option R:=
 match s with
 | .dat t x _=>if h:t.eqb u=true then K (Ty.cast h x) else none
 | .nilS=>match u with
   | .sl _ _=>K []
   |_=>none
 |_=>none
def z56:Value→SV
 | .bool b=> .dat .bool b []
 | .int k n=> .dat (.int k) n []
 | .string s=> .dat .str s []
 | .slice none 0 0=> .nilS
 | .pointer none=> .nilP
 |_=> .undef
def State.slot(s:State)(t:Nat):List SV:=s.sl.getD t [.undef]
def State.opd(s:State):Operand→List SV
 | .tmp t=>s.slot t
 | .const v=>[z56 v]
 |_=>[.undef]
def one:List SV→SV
 | [x]=>x
 |_=> .undef
def State.op1(s:State)(x:Operand):SV:=one (s.opd x)
def State.box(s:State)(id:Nat):Option Box:=(s.bs.getD id none)
def SV.shut:SV→SV
 | .dat t x _=> .dat t x []
 |v=>v
def SV.own:SV→List (List Nat)
 | .dat _ _ o=>o
 | .nilS=>[[]]
 |_=>[]
def shutAt:List SV→Nat→List SV
 | [],_=>[]
 |v::r,0=>v.shut::r
 |v::r,j+1=>v::shutAt r j
structure Out where
 v:List SV
 bx:Option (Nat×Box):=none
 cl:List (Nat×Nat):=[]
def State.close(s:State):List (Nat×Nat)→State
 | []=>s
 |(i,j)::r=>State.close {s with sl:=s.sl.set i (shutAt (s.slot i) j)} r
def State.putBox(s:State):Option (Nat×Box)→State
 |some (id,B)=>{s with bs:=s.bs.set id (some B)}
 |none=>s
def State.putSlot(s:State):Option Nat→List SV→State
 |some d,v=>{s with sl:=s.sl.set d v}
 |none,_=>s
def State.apply(s:State)(dst:Option Nat)(o:Out):State:=((s.close o.cl).putBox o.bx).putSlot dst o.v
def tmpOf:Operand→Option Nat
 | .tmp t=>some t
 |_=>none
def src:Operand→List (Nat×Nat)
 | .tmp t=>[(t,0)]
 |_=>[]
def ibits(op:BinOp)(k:IntKind)(a b:Int):Int:=
 match op with
 | .and=>k.wrap ((BitVec.ofInt k.bits a&&&BitVec.ofInt k.bits b).toNat:Nat)
 | .or=>k.wrap ((BitVec.ofInt k.bits a|||BitVec.ofInt k.bits b).toNat:Nat)
 | .xor=>k.wrap ((BitVec.ofInt k.bits a^^^BitVec.ofInt k.bits b).toNat:Nat)
 |_=>k.wrap ((BitVec.ofInt k.bits a&&& ~~~ BitVec.ofInt k.bits b).toNat:Nat)
def eqEl:(t:Ty)→El t→El t→Option Bool
 | .bool,x,y=>some (x==y)
 | .int _,x,y=>some (decide (x=y))
 | .str,x,y=>some (decide (x=y))
 | .unit,_,_=>some true
 | .arr _ (.int _),x,y=>some (decide ((x:List Int)=y))
 | .pair a b,x,y=>match eqEl a x.1 y.1,eqEl b x.2 y.2 with
   |some p,some q=>some (p&&q)
   |_,_=>none
 |_,_,_=>none
def i64(n:Int):List SV:=[.dat (.int .i64) n []]
def bl(b:Bool):List SV:=[.dat .bool b []]
def binI(op:BinOp)(k:IntKind)(a:Int)(k':IntKind)(b:Int)(K:List SV→Option R):Option R:=
 match op with
 | .shl=>bif decide (b<0) then none else K [.dat (.int k) (k.wrap (a*2^min b.toNat k.bits)) []]
 | .shr=>bif decide (b<0) then none else K [.dat (.int k) (a.fdiv (2^min b.toNat k.bits)) []]
 |_=>if k=k' then
  match op with
  | .add=>K [.dat (.int k) (k.wrap (a+b)) []]
  | .sub=>K [.dat (.int k) (k.wrap (a-b)) []]
  | .mul=>K [.dat (.int k) (k.wrap (a*b)) []]
  | .quo=>bif decide (b=0) then none else K [.dat (.int k) (k.wrap (a.tdiv b)) []]
  | .rem=>bif decide (b=0) then none else K [.dat (.int k) (a.tmod b) []]
  | .and| .or| .xor| .andNot=>K [.dat (.int k) (ibits op k a b) []]
  | .eql=>K (bl (decide (a=b)))
  | .neq=>K (bl (!decide (a=b)))
  | .lss=>K (bl (decide (a<b)))
  | .leq=>K (bl (decide (a≤b)))
  | .gtr=>K (bl (decide (b<a)))
  | .geq=>K (bl (decide (b≤a)))
  |_=>none
  else none
def binS(op:BinOp)(a b:ByteArray)(K:List SV→Option R):Option R:=
 match op with
 | .add=>bif decide (a.size+b.size≤9223372036854775807) then K [.dat .str (a++b) []] else none
 | .eql=>K (bl (decide (a=b)))
 | .neq=>K (bl (!decide (a=b)))
 | .lss=>K (bl (Op.bytesLess a.toList b.toList))
 | .leq=>K (bl (Op.bytesLess a.toList b.toList||decide (a=b)))
 | .gtr=>K (bl (!(Op.bytesLess a.toList b.toList||decide (a=b))))
 | .geq=>K (bl (!(Op.bytesLess a.toList b.toList)))
 |_=>none
def Ty.depth:Ty→Nat
 | .arr _ t=>t.depth+1
 | .pair a b=>max (a.depth+1) b.depth
 |_=>1
def binE(E:Env)(op:BinOp)(T:TypeId)(x y:SV)(K:List SV→Option R):Option R:=
 match E.ty T with
 |some t=>if Nat.ble t.depth 1000=false then none else x.el t fun a=>y.el t fun b=>match eqEl t a b with
  |some r=>match op with
   | .eql=>K (bl r)
   | .neq=>K (bl (!r))
   |_=>none
  |none=>none
 |none=>none
def bin(E:Env)(op:BinOp)(T:TypeId)(x y:SV)(K:List SV→Option R):Option R:=
 match x,y with
 | .dat (.int k) a _,.dat (.int k') b _=>binI op k a k' b K
 | .dat .str a _,.dat .str b _=>binS op a b K
 | .ptr _ t _,.nilP=>if(t.isSpc|| !E.pt T)=true then none else match op with
   | .eql=>K (bl false)
   | .neq=>K (bl true)
   |_=>none
 | .nilP,.nilP=>if E.pt T=false then none else match op with
   | .eql=>K (bl true)
   | .neq=>K (bl false)
   |_=>none
 |x,y=>binE E op T x y K
def ze(s:ByteArray)(i:Nat):Int:=if h:i<s.size then((s[i]'h).toNat:Int) else 0
def strOf(xs:List Int):ByteArray:=⟨(xs.map fun x=>UInt8.ofNat x.toNat).toArray⟩
def zd(i:Int)(n:Nat)(K:Option R):Option R:=bif decide (0≤i) then bif decide (i<(n:Int)) then K else none else none
def z5g(lo:Option SV)(h:Nat)(K:Nat→Option R):Option R:=
 match lo with
 |none=>K 0
 |some v=>v.el (.int .i64) fun l=>bif decide (0≤l) then bif decide (l≤(h:Int)) then K l.toNat else none else none
def cutAt(lo hi:Option SV)(n:Nat)(K:Nat→Nat→Option R):Option R:=
 match hi with
 |none=>z5g lo n fun l=>K l n
 |some v=>v.el (.int .i64) fun h=>bif decide (0≤h) then bif decide (h≤(n:Int)) then z5g lo h.toNat (fun l=>K l h.toNat) else none else none
def Ty.inb1:Ty→Nat→Bool
 | .arr n _,i=>Nat.ble (i+1) n
 |_,_=>true
def z4j(own:List (List Nat))(p:List Nat):List (List Nat):=own.filter fun q=> !(p.isPrefixOf q)
def z2l(own:List (List Nat))(p:List Nat):Bool:=own.any fun q=>q==p
def zfq(own:List (List Nat))(p:List Nat):List (List Nat):=(own.filter fun q=>p.isPrefixOf q).map fun q=>q.drop p.length
def bump:List Nat→Option (List Nat)
 | []=>none
 |j::p=>some ((j+1)::p)
def z3q:Ty→List (List Nat)
 | .sl _ _=>[[]]
 | .pair a b=>(z3q a).map (fun p=>0::p)++(z3q b).filterMap bump
 |_=>[]
def z3g(t:Ty):El t→List (List Nat)→List (Nat×SV×List (List Nat))→(El t→List (List Nat)→Option R)→Option R
 |x,own,[],K=>K x own
 |x,own,(i,v,ov)::r,K=>if t.inb1 i=false then none else match t.at_ [i] with
  |some u=>v.el u fun y=>match El.set t [i] x u y with
   |some z=>z3g t z (ov.map (fun p=>i::p)++z4j own [i]) r K
   |none=>none
  |none=>none
def z4g(o:List (List Nat))(x:Operand):List (Nat×Nat):=
 match o with
 | []=>[]
 |_::_=>src x
def z1u:State→List (Nat×Operand)→List (Nat×SV×List (List Nat))×List (Nat×Nat)
 |_,[]=>([],[])
 |s,(i,x)::r=>((i,s.op1 x,(s.op1 x).own)::(z1u (s.close (z4g (s.op1 x).own x)) r).1,z4g (s.op1 x).own x++(z1u (s.close (z4g (s.op1 x).own x)) r).2)
def z6g(t:Ty):List (El t)→List (Nat×SV)→(List (El t)→Option R)→Option R
 |xs,[],K=>K xs
 |xs,(i,v)::r,K=>if Nat.ble (i+1) xs.length=false then none else v.el t fun y=>z6g t (xs.set i y) r K
def zp8(ops:List Oper)(d:Option Nat):Bool:=
 match d with
 |some d=>ops.any fun o=>match o.op with
  | .call ⟨.builtin .append,args,_⟩=>match args.toList with
    | .tmp t::_=>Nat.beq t d
    |_=>false
  |_=>false
 |none=>false
def z18u(ops:List Oper)(d:Option Nat):Bool:=
 match d with
 |some d=>ops.any fun o=>match o.op,o.dst with
  | .indexAddr _ (.tmp t) _,some a=>Nat.beq t d&&ops.any fun q=>match q.op with
    | .store _ (.tmp b) _=>Nat.beq a b
    |_=>false
  |_,_=>false
 |none=>false
def isOut(E:Env)(ops:List Oper)(d:Option Nat):Bool:=
 match d with
 |some d=>ops.any fun o=>match o.op with
  | .store _ (.tmp r) (.tmp t)=>Nat.beq t d&&E.outs.any (Nat.beq r)
  |_=>false
 |none=>false
def z62(u':Ty)(s:State)(id:Nat)(t:Ty)(p:List Nat)(K:Out→Option R):Option R:=
 match t,p with
 | .spc .row a b,[i]=>match s.box id with
   |some B=>if h:B.t.eqb (.spc .row a b)=true then if u'.eqb a=true then
     bif Nat.ble (i+1) (List.length (Ty.cast h B.x:List (El a))) then K {v:=[.dat a (List.getD (Ty.cast h B.x:List (El a)) i (El.dflt a)) []]} else none
    else none else none
   |none=>none
 |_,_=>none
def z4y(u:Ty)(s:State)(id:Nat)(t:Ty)(p:List Nat)(v:SV)(K:Out→Option R):Option R:=
 match t,p with
 | .spc .row a b,[i]=>match s.box id with
   |some B=>if h:B.t.eqb (.spc .row a b)=true then if a.eqb u=true then
     v.el a fun y=>bif Nat.ble (i+1) (List.length (Ty.cast h B.x:List (El a))) then K {v:=[.skip],bx:=some (id,⟨.spc .row a b,(List.set (Ty.cast h B.x:List (El a)) i y:List (El a)),[]⟩)} else none
    else none else none
   |none=>none
 |_,_=>none
def z7z(t:Ty)(n:Int)(id:Nat)(r:Ty)(p:List Nat)(K:Out→Option R):Option R:=
 match r,p with
 | .spc (.hdr m) a b,[]=>if a.eqb t=true then zd n m (K {v:=[.ptr id (.spc .row a b) [n.toNat]]}) else none
 |_,_=>none
def z7g(u':Ty)(B:Box)(t:Ty)(p:List Nat)(K:Out→Option R):Option R:=
 match t,p with
 | .arr n e,[]=>if h:B.t.eqb (.spc .row e .unit)=true then if u'.eqb (.arr n e)=true then
    bif Nat.beq n (List.length (Ty.cast h B.x:List (El e))) then K {v:=[.dat (.arr n e) (Ty.cast h B.x:List (El e)) []]} else none
   else none else none
 |_,_=>none
def load(E:Env)(T:TypeId)(s:State)(la:Bool)(a:SV)(K:Out→Option R):Option R:=
 match E.ty T with
 |some u'=>match a with
  | .view t x=>if u'.eqb t=true then K {v:=[.dat t x []]} else none
  | .ptr id t p=>if t.isSpc=true then z62 u' s id t p K else match s.box id with
    |some B=>if B.t.eqb t=true then
      match El.get B.t p B.x with
      |some ⟨u,y⟩=>if u'.eqb u=true then
        bif la then K {v:=[.dat u y (zfq B.own p)],bx:=some (id,{B with own:=z4j B.own p})} else K {v:=[.dat u y []]}
       else none
      |none=>none
     else z7g u' B t p K
    |none=>none
  |_=>none
 |none=>none
def store(E:Env)(T:TypeId)(s:State)(a:SV)(vo:Operand)(K:Out→Option R):Option R:=
 match E.ty T with
 |some u=>match a with
  | .ptr id t p=>if t.isSpc=true then z4y u s id t p (s.op1 vo) K else match s.box id with
    |some B=>if B.t.eqb t=true then
      match t.at_ p with
      |some u'=>if u'.eqb u=true then
        (s.op1 vo).el u fun y=>match El.set B.t p B.x u y with
        |some z=>K {v:=[.skip],bx:=some (id,{t:=B.t,x:=z,own:=(s.op1 vo).own.map (fun q=>p++q)++z4j B.own p}),cl:=src vo}
        |none=>none
       else none
      |none=>none
     else none
    |none=>none
  |_=>none
 |none=>none
def Ty.isPair:Ty→Bool
 | .pair .. =>true
 |_=>false
def zev(t?:Option Ty)(a:SV)(j:Nat)(K:Out→Option R):Option R:=
 match t?,a with
 |some u,.ptr id t p=>if t.isSpc=true then none else match t.at_ p with
  |some u'=>if(u.eqb u'&&u.isPair)=true then match u.at_ [j] with
    |some f=>if Nat.beq f.cells 0=true then none else K {v:=[.ptr id t (p++ [j])]}
    |none=>none
   else none
  |none=>none
 |some u,.view t x=>if(u.eqb t&&u.isPair)=true then match El.get t [j] x with
   |some ⟨f,y⟩=>if Nat.beq f.cells 0=true then none else K {v:=[.view f y]}
   |none=>none
  else none
 |_,_=>none
def SV.num(s:SV)(K:Int→Option R):Option R:=
 match s with
 | .dat (.int _) n _=>K n
 |_=>none
def zf5(E:Env)(T:TypeId)(a i:SV)(K:Out→Option R):Option R:=
 i.num fun n=>match E.ty T,a with
  |some (.sl e t),.dat t' xs _=>(SV.dat t' xs []).el (.sl e t) fun ys=>zd n ys.length (K {v:=[.view t (List.getD ys n.toNat (El.dflt t))]})
  |some (.arr m t),.ptr id r p=>if r.isSpc=true then none else match r.at_ p with
   |some u=>if u.eqb (.arr m t)=true then zd n m (K {v:=[.ptr id r (p++ [n.toNat])]}) else none
   |none=>none
  |some (.arr m t),.view t' xs=>(SV.dat t' xs []).el (.arr m t) fun ys=>zd n m (K {v:=[.view t (List.getD ys n.toNat (El.dflt t))]})
  |some (.sl _ t),.ptr id r p=>z7z t n id r p K
  |_,_=>none
def zf6(E:Env)(T:TypeId)(a i:SV)(K:Out→Option R):Option R:=
 i.num fun n=>match E.ty T with
  |some .str=>a.el .str fun s=>zd n s.size (K {v:=[.dat (.int .u8) (ze s n.toNat) []]})
  |some (.arr m t)=>a.el (.arr m t) fun ys=>zd n m (K {v:=[.dat t (List.getD ys n.toNat (El.dflt t)) []]})
  |_=>none
def cutV(E:Env)(T:TypeId)(a:SV)(lo hi:Option SV)(K:Out→Option R):Option R:=
 match E.ty T with
 |some .str=>a.el .str fun s=>cutAt lo hi s.size fun l h=>K {v:=[.dat .str (s.extract l h) []]}
 |some (.sl e t)=>a.el (.sl e t) fun xs=>cutAt lo hi (List.length xs) fun l h=>K {v:=[.dat (.sl e t) ((List.take h xs).drop l) []]}
 |_=>none
def za6(E:Env)(T U:TypeId)(bo:Operand)(b x:SV)(K:Out→Option R):Option R:=
 if Nat.beq T U=false then none else
 match E.ty T with
 |some (.sl e t)=>if(Nat.beq (E.bytes e) 0||Nat.beq t.cells 0)=true then none else match b with
  | .nilS=>x.el (.sl e t) fun ys=>bif decide (List.length ys*E.bytes e≤140737488355328) then K {v:=[.dat (.sl e t) ys [[]]]} else none
  | .dat t' xs o=>if z2l o []=false then none else(SV.dat t' xs o).el (.sl e t) fun xs=>x.el (.sl e t) fun ys=>
    bif decide ((List.length xs+List.length ys)*E.bytes e≤140737488355328) then K {v:=[.dat (.sl e t) (xs++ys:List (El t)) [[]]],cl:=src bo} else none
  |_=>none
 |_=>none
def lenV(E:Env)(T:TypeId)(x:SV)(K:Out→Option R):Option R:=
 match E.ty T with
 |some .str=>x.el .str fun s=>K {v:=i64 (s.size:Int)}
 |some (.sl e t)=>match x with
  | .ptr _ (.spc (.hdr n) _ _) []=>K {v:=i64 (n:Int)}
  |x=>x.el (.sl e t) fun xs=>K {v:=i64 (List.length xs:Int)}
 |some (.arr n _)=>K {v:=i64 (n:Int)}
 |_=>none
def convV(E:Env)(S T:TypeId)(x:SV)(K:Out→Option R):Option R:=
 match E.ty S,E.ty T with
 |some (.int k),some (.int k')=>x.el (.int k) fun n=>K {v:=[.dat (.int k') (k'.wrap n) []]}
 |some .str,some .str=>x.el .str fun s=>K {v:=[.dat .str s []]}
 |some (.sl e (.int .u8)),some .str=>x.el (.sl e (.int .u8)) fun xs=>K {v:=[.dat .str (strOf xs) []]}
 |_,_=>none
def convH(E:Env)(S T:TypeId)(s:State)(id n:Nat)(a b:Ty)(K:Out→Option R):Option R:=
 match E.ty S,E.ty T with
 |some (.sl _ (.int .u8)),some .str=>if a.eqb (.int .u8)=true then match s.box id with
  |some B=>if h:B.t.eqb (.spc .row (.int .u8) b)=true then bif Nat.beq n (List.length (Ty.cast h B.x:List Int)) then K {v:=[.dat .str (strOf (Ty.cast h B.x:List Int)) []]} else none else none
  |none=>none else none
 |_,_=>none
def mapTy(E:Env)(T:TypeId):Option (Ty×Ty):=
 match E.mp T with
 |some (k,e)=>match E.ty k,E.ty e with
  |some kt,some vt=>if kt.isKey=true then some (kt,vt) else none
  |_,_=>none
 |none=>none
def newV(s:State)(dst:Option Nat)(t:Ty)(x:El t)(p:Ty)(K:Out→Option R):Option R:=
 match dst with
 |some d=>match s.bs[d+1]? with
  |some none=>K {v:=[.ptr (d+1) p []],bx:=some (d+1,⟨t,x,[]⟩)}
  |_=>none
 |none=>none
def z4s(s:State)(m:SV)(kt vt:Ty)(K:Nat→List (El kt×El vt)→Option R):Option R:=
 match m with
 | .ptr id (.spc .mp kt' vt') []=>if((Ty.spc .mp kt' vt').eqb (.spc .mp kt vt))=true then match s.box id with
   |some B=>if h:B.t.eqb (.spc .mp kt vt)=true then K id (Ty.cast h B.x) else none
   |none=>none else none
 |_=>none
def lookV(E:Env)(T:TypeId)(s:State)(m i:SV)(K:Out→Option R):Option R:=
 match mapTy E T with
 |some (kt,vt)=>z4s s m kt vt fun _ xs=>i.el kt fun k=>K {v:=[.dat vt (mget (eqK kt) (El.dflt vt) xs k) []]}
 |none=>none
def updV(E:Env)(T:TypeId)(s:State)(m i v:SV)(K:Out→Option R):Option R:=
 match mapTy E T with
 |some (kt,vt)=>z4s s m kt vt fun id xs=>i.el kt fun k=>v.el vt fun y=>bif mhas (eqK kt) xs k then none else K {v:=[.skip],bx:=some (id,⟨.spc .mp kt vt,(xs++ [(k,y)]:List (El kt×El vt)),[]⟩)}
 |none=>none
def iterT:Ty:= .spc .iter .unit .unit
def nextV(s:State)(m:SV)(K:Out→Option R):Option R:=
 match m with
 | .ptr id (.spc .iter .unit .unit) []=>match s.box id with
   |some B=>if h:B.t.eqb iterT=true then
     bif decide ((Ty.cast h B.x:ByteArray×Nat).2<(Ty.cast h B.x:ByteArray×Nat).1.size) then
      K {v:=[.dat .bool true [],.dat (.int .i64) ((Ty.cast h B.x:ByteArray×Nat).2:Int) [],.dat (.int .i32) ((Utf8.decode (Ty.cast h B.x:ByteArray×Nat).1 (Ty.cast h B.x:ByteArray×Nat).2).1:Int) []],
         bx:=some (id,⟨iterT,((Ty.cast h B.x:ByteArray×Nat).1,(Ty.cast h B.x:ByteArray×Nat).2+(Utf8.decode (Ty.cast h B.x:ByteArray×Nat).1 (Ty.cast h B.x:ByteArray×Nat).2).2),[]⟩)}
     else K {v:=[.over]}
    else none
   |none=>none
 |_=>none
def z12a:Operand→Bool
 | .const _=>true
 |_=>false
def makeV(E:Env)(T:TypeId)(s:State)(dst:Option Nat)(lo:Operand)(l c:SV)(K:Out→Option R):Option R:=
 match E.ty T with
 |some (.sl e t)=>if(Nat.beq (E.bytes e) 0||Nat.beq t.cells 0)=true then none else l.el (.int .i64) fun n=>c.el (.int .i64) fun m=>
  bif z12a lo then
   bif decide (n=0) then bif decide (0≤m) then bif decide (m*E.bytes e≤140737488355328) then K {v:=[.dat (.sl e t) ([]:List (El t)) [[]]]} else none else none else none
  else bif decide (n=m) then bif decide (0≤n) then bif decide (n*E.bytes e≤140737488355328) then newV s dst (.spc .row t .unit) (List.replicate n.toNat (El.dflt t):List (El t)) (.spc (.hdr n.toNat) t .unit) K else none else none else none
 |_=>none
def unV(op:UnOp)(x:SV)(K:Out→Option R):Option R:=
 match op,x with
 | .not,.dat .bool b _=>K {v:=bl (!b)}
 | .neg,.dat (.int k) n _=>K {v:=[.dat (.int k) (k.wrap (0-n)) []]}
 |_,_=>none
def closV(f:FuncId)(x:SV)(K:Out→Option R):Option R:=
 match x with
 | .ptr id u []=>if u.noClo=true then none else K {v:=[.ptr id (.spc (.clo f) u .unit) []]}
 |_=>none
def cutH(n id:Nat)(a b:Ty)(lo hi:Option SV)(K:Out→Option R):Option R:=
 match hi with
 |some _=>none
 |none=>z5g lo n fun l=>K {v:=[.ptr id (.spc (.hdr n) a b) [l]]}
def cutA(E:Env)(T:TypeId)(s:State)(id n:Nat)(t:Ty)(lo hi:Option SV)(K:Out→Option R):Option R:=
 match E.ty T,lo,hi with
 |some u,none,none=>if u.eqb (.arr n t)=true then match s.box id with
  |some B=>if h:B.t.eqb (.arr n t)=true then K {v:=[.ptr id (.spc (.hdr n) t .unit) []],bx:=some (id,⟨.spc .row t .unit,(Ty.cast h B.x:List (El t)),[]⟩)} else none
  |none=>none else none
 |_,_,_=>none
def z2k(s:ByteArray):List Int:=s.data.toList.map fun c=>(c.toNat:Int)
def putL{α:Type}(xs ys:List α)(lo:Nat):List α:=xs.take lo++(ys++xs.drop (lo+ys.length))
def copyH(t:Ty)(s:State)(id n lo:Nat)(a b:Ty)(x:SV)(e:TypeId)(K:Out→Option R):Option R:=
 if a.eqb t=true then x.el (.sl e t) fun(ys:List (El t))=>match s.box id with
  |some B=>if h:B.t.eqb (.spc .row t b)=true then
    bif Nat.beq n (List.length (Ty.cast h B.x:List (El t))) then bif Nat.ble lo n then
     K {v:=i64 ((ys.take (n-lo)).length:Int),bx:=some (id,⟨.spc .row t b,(putL (Ty.cast h B.x:List (El t)) (ys.take (n-lo)) lo:List (El t)),[]⟩)}
    else none else none
   else none
  |none=>none else none
def copyS(t:Ty)(s:State)(id n:Nat)(a b:Ty)(y:ByteArray)(K:Out→Option R):Option R:=
 if t.eqb (.int .u8)=true then if a.eqb (.int .u8)=true then match s.box id with
  |some B=>if h:B.t.eqb (.spc .row (.int .u8) b)=true then
    bif Nat.beq n (List.length (Ty.cast h B.x:List Int)) then
     K {v:=i64 ((List.take n (z2k y)).length:Int),bx:=some (id,⟨.spc .row (.int .u8) b,(putL (Ty.cast h B.x:List Int) (List.take n (z2k y)) 0:List Int),[]⟩)}
    else none
   else none
  |none=>none else none else none
def copyV(E:Env)(T:TypeId)(s:State)(d x:SV)(K:Out→Option R):Option R:=
 match E.ty T,d with
 |some (.sl e t),.ptr id (.spc (.hdr n) a b) []=>(match x with
  | .dat .str y _=>copyS t s id n a b y K
  |x=>copyH t s id n 0 a b x e K)
 |some (.sl e t),.ptr id (.spc (.hdr n) a b) [l]=>copyH t s id n l a b x e K
 |_,_=>none
def okPtr(t b:Ty):Bool:=
 b.eqb t||(match t with
  | .spc (.clo _) u _=>b.eqb u
  |_=>false)
def z2d(s:State):List SV→Option (List SV×Option (Nat×Box))
 | []=>some ([],none)
 |v::r=>match z2d s r with
  |none=>none
  |some (l,b)=>match v,b with
   | .dat t x _,b=>some (.dat t x []::l,b)
   | .nilS,b=>some (.nilS::l,b)
   | .view t x,b=>some (.view t x::l,b)
   | .ptr id t [],none=>match s.box id with
     |some B=>if okPtr t B.t=true then some (.ptr 0 t []::l,some (id,B)) else none
     |none=>none
   |_,_=>none
def SV.reptr(id:Nat):SV→SV
 | .ptr _ t p=> .ptr id t p
 |v=>v
def callV(C:FuncId→Fun' R)(s:State)(dst:Option Nat)(f:FuncId)(vs:List SV)(K:Out→Option R):Option R:=
 match z2d s vs with
 |some (l,none)=>C f l none fun r B=>match B with
  |none=>K {v:=r}
  |some B=>match dst with
   |some d=>match s.bs[d+1]? with
    |some none=>K {v:=r.map (SV.reptr (d+1)),bx:=some (d+1,B)}
    |_=>none
   |none=>none
 |some (l,some (id,B))=>C f l (some B) fun r B'=>match B' with
  |some B'=>if B'.t.eqb B.t=true then K {v:=r,bx:=some (id,B')} else none
  |none=>none
 |none=>none
def mostV(g:Bool)(x y:SV)(K:Out→Option R):Option R:=
 match x,y with
 | .dat (.int k) m _,.dat (.int _) n _=>K {v:=[.dat (.int k) (bif g then(if m<n then n else m) else(if n<m then n else m)) []]}
 |_,_=>none
def nilV(E:Env)(T:TypeId)(K:Out→Option R):Option R:=
 match E.ty T with
 |some (.sl e t)=>K {v:=[.dat (.sl e t) ([]:List (El t)) [[]]]}
 |_=>K {v:=[.nilS]}
def tupOf(s:State):Operand→Option (Nat×List SV)
 | .tmp t=>bif Nat.beq (s.slot t).length 1 then none else some (t,s.slot t)
 |_=>none
def tupCl(t:Nat):Nat→List (Nat×Nat)
 |0=>[]
 |n+1=>(t,n)::tupCl t n
def shuts(E:Env)(d:Option Nat):Bool:=
 match d with
 |some d=>E.sh.any (Nat.beq d)
 |none=>false
def takes(E:Env)(d:Option Nat):Bool:=
 match d with
 |some d=>E.mv.any (Nat.beq d)
 |none=>false
def Out.shut(u:Out):Out:={u with v:=u.v.map SV.shut}
def capV(f:FuncId)(x y:SV)(K:Out→Option R):Option R:=
 match x,y with
 | .view t a,.view u b=>K {v:=[.cap f t a u b]}
 |_,_=>none
def act(E:Env)(C:FuncId→Fun' R)(ops:List Oper)(o:Oper)(s:State)(K:Out→Option R):Option R:=
 match o.op with
 | .move x=>match tupOf s x with
   |some (t,l)=>bif shuts E o.dst then K {v:=l.map SV.shut} else K {v:=l,cl:=bif l.all fun v=>v.own.isEmpty then [] else tupCl t l.length}
   |none=>match s.op1 x with
    | .dat t y w=>bif zp8 ops o.dst||takes E o.dst then K {v:=[.dat t y w],cl:=z4g w x} else K {v:=[.dat t y []]}
    | .undef=>none
    | .nilS=>nilV E o.type K
    |v=>K {v:=[v]}
 | .assign x=>match s.op1 x with
   | .dat t y w=>K {v:=[.dat t y w],cl:=z4g w x}
   | .undef=>none
   | .nilS=>nilV E o.type K
   |v=>K {v:=[v]}
 | .pick c a b=>match s.op1 c with
   | .dat .bool p _=>bif p then K {v:=[(s.op1 a).shut]} else K {v:=[(s.op1 b).shut]}
   |_=>none
 | .binOp op T x y _=>bin E op T (s.op1 x) (s.op1 y) fun v=>K {v}
 | .unOp op _ x=>unV op (s.op1 x) K
 | .convert S T x=>match s.op1 x with
   | .ptr id (.spc (.hdr n) a b) []=>convH E S T s id n a b K
   |v=>convV E S T v K
 | .load T a=>load E T s (zp8 ops o.dst||isOut E ops o.dst||z18u ops o.dst) (s.op1 a) K
 | .store T a x=>store E T s (s.op1 a) x K
 | .nilCheck x=>match s.op1 x with
   | .ptr id t p=>if t.isSpc=true then none else K {v:=[.ptr id t p]}
   | .view t y=>K {v:=[.view t y]}
   |_=>none
 | .fieldAddr T x j=>zev (E.ty T) (s.op1 x) j K
 | .indexAddr T x i=>zf5 E T (s.op1 x) (s.op1 i) K
 | .index T x i=>zf6 E T (s.op1 x) (s.op1 i) K
 | .field T x j=>match E.ty T with
   |some t=>if t.isPair=false then none else(s.op1 x).el t fun y=>match El.get t [j] y with
    |some ⟨u,z⟩=>K {v:=[.dat u z []]}
    |none=>none
   |none=>none
 | .slice T x lo hi none=>match s.op1 x with
   | .ptr id (.spc (.hdr n) a b) []=>(match E.ty T with
     |some (.sl _ t)=>if a.eqb t=true then cutH n id a b (lo.map s.op1) (hi.map s.op1) K else none
     |_=>none)
   | .ptr id (.arr n t) []=>cutA E T s id n t (lo.map s.op1) (hi.map s.op1) K
   |v=>cutV E T v (lo.map s.op1) (hi.map s.op1) K
 | .makeFunc (.func f) first captured=>match first.toList,captured.toList with
   | [],[x]=>closV f (s.op1 x) K
   | [],[x,y]=>capV f (s.op1 x) (s.op1 y) K
   |_,_=>none
 | .alloc T=>match E.ty T,o.dst with
   |some t,some d=>match s.bs[d+1]? with
    |some none=>K {v:=[.ptr (d+1) t []],bx:=some (d+1,⟨t,El.dflt t,z3q t⟩)}
    |_=>none
   |none,some d=>(match E.bl T with
    |some e=>match s.bs[d+1]? with
     |some none=>K {v:=[.ptr (d+1) (.spc (.bld T e) .unit .unit) []],bx:=some (d+1,⟨.spc (.bld T e) .unit .unit,(⟨#[]⟩:ByteArray),[[]]⟩)}
     |_=>none
    |none=>none)
   |_,_=>none
 | .box T x=>match E.ty T,o.dst with
   |some t,some d=>match s.bs[d+1]? with
    |some none=>(s.op1 x).el t fun y=>K {v:=[.ptr (d+1) t []],bx:=some (d+1,⟨t,y,(s.op1 x).own⟩),cl:=src x}
    |_=>none
   |_,_=>none
 | .build T parts=>match E.ty T with
   |some t=>if t.agg=false then none else z3g t (El.dflt t) (z3q t) (z1u s parts.toList).1 fun y own=>K {v:=[.dat t y own],cl:=(z1u s parts.toList).2}
   |none=>none
 | .buildSlice T n parts=>match E.ty T with
   |some (.sl e t)=>if Nat.beq t.cells 0=true then none else bif Nat.ble (n*t.cells) 16777216 then z6g t (List.replicate n (El.dflt t)) (parts.toList.map fun p=>(p.1,s.op1 p.2)) fun y=>K {v:=[.dat (.sl e t) y [[]]]} else none
   |_=>none
 | .extract x j=>match x with
   | .tmp t=>if Nat.beq (s.slot t).length 1=true then(match one (s.slot t),j with
      | .over,0=>K {v:=bl false}
      |_,_=>none) else match(s.slot t)[j]? with
     |some (.dat u y w)=>K {v:=[.dat u y w],cl:=bif w.isEmpty then [] else [(t,j)]}
     |some .undef=>none
     |some v=>K {v:=[v]}
     |none=>none
   |_=>none
 | .makeMap T none=>match mapTy E T with
   |some (kt,vt)=>newV s o.dst (.spc .mp kt vt) ([]:List (El kt×El vt)) (.spc .mp kt vt) K
   |none=>none
 | .lookup T x i false=>lookV E T s (s.op1 x) (s.op1 i) K
 | .mapUpdate T m k x=>updV E T s (s.op1 m) (s.op1 k) (s.op1 x) K
 | .insert T m k x=>updV E T s (s.op1 m) (s.op1 k) (s.op1 x) K
 | .range T x=>match E.ty T with
   |some .str=>(s.op1 x).el .str fun y=>newV s o.dst iterT ((y,0):ByteArray×Nat) iterT K
   |_=>none
 | .next x true=>nextV s (s.op1 x) K
 | .makeSlice T l c=>makeV E T s o.dst l (s.op1 l) (s.op1 c) K
 | .call ⟨.value (.func f),args,_⟩=>callV C s o.dst f (args.toList.map s.op1) fun u=>K (bif shuts E o.dst then u.shut else u)
 | .call ⟨.value (.tmp y),args,_⟩=>match s.op1 (.tmp y) with
   | .ptr id (.spc (.clo f) u _) []=>if u.noClo=true then none else callV C s o.dst f (args.toList.map s.op1++ [.ptr id u []]) K
   | .cap f t x u y=>callV C s o.dst f (args.toList.map s.op1++ [.view t x,.view u y]) K
   |_=>none
 | .call ⟨.builtin .copy,args,argTypes⟩=>match args.toList,argTypes.toList with
   | [d,x],T::_=>copyV E T s (s.op1 d) (s.op1 x) K
   |_,_=>none
 | .call ⟨.builtin .len,args,argTypes⟩=>match args.toList,argTypes.toList with
   | [x],[T]=>lenV E T (s.op1 x) K
   |_,_=>none
 | .call ⟨.builtin .append,args,argTypes⟩=>match args.toList,argTypes.toList with
   | [b,x],[T,U]=>za6 E T U b (s.op1 b) (s.op1 x) K
   |_,_=>none
 | .call ⟨.builtin .max,args,_⟩=>match args.toList with
   | [x,y]=>mostV true (s.op1 x) (s.op1 y) K
   |_=>none
 | .call ⟨.builtin .min,args,_⟩=>match args.toList with
   | [x,y]=>mostV false (s.op1 x) (s.op1 y) K
   |_=>none
 |_=>none
def zai(ops:List Oper)(g:Nat):Option Nat:=(ops[g]?).bind (·.dst)
def step(E:Env)(C:FuncId→Fun' R)(ops:List Oper)(o:Oper)(s:State)(K:State→Option R):Option R:=
 let go (s:State):Option R:=act E C ops o s fun u=>K (s.apply o.dst u)
 let pass (s:State):Option R:=K (s.putSlot o.dst [.skip])
 match o.guard with
 |none=>go s
 |some (g,want)=>match zai ops g with
  |none=>none
  |some d=>match s.slot d with
   | [.dat .bool p []]=>bif p then(let s:=s.putSlot (some d) (bl true);bif want then go s else pass s) else(let s:=s.putSlot (some d) (bl false);bif want then pass s else go s)
   | [.skip]=>pass s
   |_=>none
def steps(E:Env)(C:FuncId→Fun' R)(ops:List Oper):List Oper→State→(State→Option R)→Option R
 | [],s,K=>K s
 |o::r,s,K=>step E C ops o s fun s=>steps E C ops r s K
structure Foot where
 i:Nat
 r:Nat
 w:Nat
 br:Nat
 bw:Nat
def bit(i:Nat):Nat:=1<<<i
def maskL:List Nat→Nat
 | []=>0
 |i::r=>bit i|||maskL r
def z3k:List Operand→List Nat
 | []=>[]
 | .tmp t::r=>t::z3k r
 |_::r=>z3k r
def looks(ops:List Oper)(o:Oper):List Nat:=z3k o.op.operands.toList++(match o.guard with
 |some (g,_)=>(zai ops g).toList
 |none=>[])
def ptrOf:SV→List Nat
 | .ptr id _ _=>[id]
 |_=>[]
def zv(s:State)(o:Oper):List Nat:=
 match o.op with
 | .load _ a=>ptrOf (s.op1 a)
 | .store _ a _=>ptrOf (s.op1 a)
 | .alloc _| .box _ _| .makeMap _ _| .range _ _| .makeSlice _ _ _=>o.dst.toList.map fun d=>d+1
 | .convert _ _ x=>ptrOf (s.op1 x)
 | .slice _ x _ _ _=>ptrOf (s.op1 x)
 | .lookup _ x _ _=>ptrOf (s.op1 x)
 | .mapUpdate _ m _ _=>ptrOf (s.op1 m)
 | .insert _ m _ _=>ptrOf (s.op1 m)
 | .next x _=>ptrOf (s.op1 x)
 | .call ⟨.value y,args,_⟩=>(args.toList.flatMap fun x=>ptrOf (s.op1 x))++(ptrOf (s.op1 y)++o.dst.toList.map fun d=>d+1)
 | .call ⟨.builtin .copy,args,_⟩=>args.toList.flatMap fun x=>ptrOf (s.op1 x)
 |_=>[]
def zy(ops:List Oper)(o:Oper)(i:Nat)(s:State)(u:Out):Foot:=
 ⟨i,maskL (looks ops o),maskL (o.dst.toList++u.cl.map (·.1)),maskL (zv s o),maskL (u.bx.toList.map (·.1))⟩
def Foot.apart(a b:Foot):Bool:=
 Nat.beq (a.w&&&(b.r|||b.w)) 0&&(Nat.beq (b.w&&&a.r) 0&&(Nat.beq (a.bw&&&(b.br|||b.bw)) 0&&Nat.beq (b.bw&&&a.br) 0))
def z1b:List Edge→Nat
 | []=>0
 |e::r=>bif Region.binds .any e then bit e.on|||z1b r else z1b r
def fits(m:Nat)(f:Foot)(tr:List Foot):Bool:=Nat.ble (m+1) (bit f.i)&&tr.all fun a=>m.testBit a.i||a.apart f
def stepD(E:Env)(C:FuncId→Fun' R)(ops:List Oper)(o:Oper)(i:Nat)(s:State)(tr:List Foot)(K:State→List Foot→Option R):Option R:=
 let go (s:State):Option R:=act E C ops o s fun u=>bif fits (z1b o.after.toList) (zy ops o i s u) tr then K (s.apply o.dst u) (zy ops o i s u::tr) else none
 let pass (s:State):Option R:=bif fits (z1b o.after.toList) (zy ops o i s {v:=[.skip]}) tr then K (s.apply o.dst {v:=[.skip]}) (zy ops o i s {v:=[.skip]}::tr) else none
 match o.guard with
 |none=>go s
 |some (g,want)=>match zai ops g with
  |none=>none
  |some d=>match s.slot d with
   | [.dat .bool p []]=>bif p then(let s:=s.putSlot (some d) (bl true);bif want then go s else pass s) else(let s:=s.putSlot (some d) (bl false);bif want then pass s else go s)
   | [.skip]=>pass s
   |_=>none
def z6m(E:Env)(C:FuncId→Fun' R)(ops:List Oper):List Oper→Nat→State→List Foot→(State→Option R)→Option R
 | [],_,s,_,K=>K s
 |o::r,i,s,tr,K=>stepD E C ops o i s tr fun s tr=>z6m E C ops r (i+1) s tr K
inductive Ex where
 |normal
 |exit (id:Nat)
 |ret
def z1x:Code→Nat
 | .region id _ _=>id
 | .seq a _=>z1x a
 | .cond _ a _=>z1x a
 | .block _ b=>z1x b
 | .loop b=>z1x b
 |_=>0
def keepL{α:Type}(z:α)(l:List Nat):Nat→List α→List α
 |_,[]=>[]
 |i,x::r=>(bif l.any (Nat.beq i) then x else z)::keepL z l (i+1) r
def SV.roots(l:List Nat):SV→Bool
 | .ptr 0 _ _=>true
 | .ptr (id+1) _ _=>l.any (Nat.beq id)
 |_=>true
def ltL:List Nat→List Nat→Bool
 | [],[]=>false
 | [],_::_=>true
 |_::_,[]=>false
 |a::p,b::q=>Nat.ble (a+1) b||(Nat.beq a b&&ltL p q)
def insL(p:List Nat):List (List Nat)→List (List Nat)
 | []=>[p]
 |q::r=>bif ltL q p then q::insL p r else p::q::r
def normL:List (List Nat)→List (List Nat)
 | []=>[]
 |p::r=>insL p (normL r)
def SV.norm:SV→SV
 | .dat t x own=> .dat t x (normL own)
 |v=>v
def Box.norm(B:Box):Box:={B with own:=normL B.own}
def State.norm(s:State):State:=⟨s.sl.map fun v=>v.map SV.norm,s.bs.map fun b=>b.map Box.norm⟩
def z3h(l:List Nat)(s:State)(K:State→Option R):Option R:=
 let sl:=keepL [.undef] l 0 s.sl
 bif sl.all (fun v=>v.all (SV.roots l)) then K (State.norm ⟨sl,s.bs.headD none::keepL none l 0 s.bs.tail⟩) else none
def joinK(k:Nat)(f:Unit→Option R):Option R:=
 match k with
 |0=>none
 |_+1=>f ()
def meet(E:Env)(k r:Nat)(s:State)(K:State→Option R):Option R:=
 match E.join r with
 |none=>K s
 |some l=>z3h l s fun s=>joinK k fun _=>K s
def clr(id:Nat)(l:List SV):List SV:=l.map fun v=>match v with
 | .ptr j _ _=>bif Nat.beq j id then .undef else v
 |v=>v
def thaw(E:Env)(r:Nat)(s:State)(K:State→Option R):Option R:=
 match E.fz r with
 |none=>K s
 |some (d,T)=>match s.slot d,E.ty T with
  | [.ptr id (.spc (.hdr n) a b) []],some (.sl e t)=>if a.eqb t=true then match s.box id with
    |some B=>if h:B.t.eqb (.spc .row t b)=true then
      bif Nat.beq n (List.length (Ty.cast h B.x:List (El t))) then K {sl:=(s.sl.map (clr id)).set d [.dat (.sl e t) (Ty.cast h B.x:List (El t)) []],bs:=s.bs.set id none} else none
     else none
    |none=>none else none
  |_,_=>none
def z5o(id:Nat)(B:Box)(v:SV):SV:=
 match v with
 | .ptr j t p=>bif Nat.beq j id then(if t.eqb B.t=true then match El.get B.t p B.x with
    |some ⟨u,y⟩=> .view u y
    |none=> .undef else .undef) else .ptr j t p
 |v=>v
def zk5(id:Nat)(s:State)(K:State→Option R):Option R:=
 match s.box id with
 |some B=>if B.t.isSpc=true then none else K {sl:=s.sl.map fun l=>l.map (z5o id B),bs:=s.bs.set id none}
 |none=>none
def z7d:List Nat→State→(State→Option R)→Option R
 | [],s,K=>K s
 |id::r,s,K=>zk5 id s fun s=>z7d r s K
def dropB(l:List Nat):Nat→List (Option Box)→List (Option Box)
 |_,[]=>[]
 |i,b::r=>(bif l.any (Nat.beq i) then b.map (fun B=>{B with own:=[]}) else b)::dropB l (i+1) r
def State.drop(l:List Nat)(s:State):State:={s with bs:=dropB l 0 s.bs}
def loopR(body:State→(Ex→State→Option R)→Option R)(l lx:List Nat):Nat→State→(Ex→State→Option R)→Option R
 |0,_,_=>none
 |k+1,s,K=>body s fun e s=>match e with
  | .normal=>z3h l s fun s=>loopR body l lx k s K
  |e=>z3h lx s fun s=>K e s
def Ty.flat:Ty→Bool
 | .sl _ _=>false
 | .spc _ _ _=>false
 | .arr _ t=>t.flat
 | .pair a b=>a.flat&&b.flat
 |_=>true
def SV.flat:SV→Bool
 | .dat t _ own=>t.flat&&own.isEmpty
 | .ptr _ _ _| .view _ _| .cap _ _ _ _ _=>false
 |_=>true
def flatB(o:Nat):Nat→List (List SV)→Bool
 |_,[]=>true
 |i,l::r=>(Nat.beq i o||l.all SV.flat)&&flatB o (i+1) r
def killN:Nat→Nat→List (List SV)→List (List SV)
 |0,_,sl=>sl
 |n+1,m,sl=>killN n (m+1) (sl.set m [.undef])
def isDst(o:Oper)(d:Nat):Bool:=
 match o.dst,o.guard with
 |some d',none=>Nat.beq d' d
 |_,_=>false
def isTmp(x:Operand)(i:Nat):Bool:=
 match x with
 | .tmp j=>Nat.beq j i
 |_=>false
def isU8(E:Env)(T:TypeId):Bool:=
 match E.ty T with
 |some (.int .u8)=>true
 |_=>false
def zk6(E:Env)(T:TypeId):Bool:=
 match E.ty T with
 |some (.sl _ (.int .u8))=>true
 |_=>false
def z80(o:Oper)(d x:Nat):Bool:=isDst o d&&(match o.op with
 | .move y=>isTmp y x
 |_=>false)
def isLen(E:Env)(o:Oper)(d x:Nat):Bool:=isDst o d&&(match o.op with
 | .call ⟨.builtin .len,asv,ts⟩=>match asv.toList,ts.toList with
   | [y],[T]=>isTmp y x&&zk6 E T
   |_,_=>false
 |_=>false)
def zpa(o:Oper)(d x:Nat):Bool:=isDst o d&&(match o.op with
 | .binOp .sub _ y (.const (.int .i64 c)) _=>isTmp y x&&decide (c=1)
 |_=>false)
def isAt(E:Env)(o:Oper)(d x i:Nat):Bool:=isDst o d&&(match o.op with
 | .indexAddr T y j=>isTmp y x&&(isTmp j i&&zk6 E T)
 |_=>false)
def zzg(E:Env)(o:Oper)(d x:Nat):Bool:=isDst o d&&(match o.op with
 | .load T y=>isTmp y x&&isU8 E T
 |_=>false)
def isSum(o:Oper)(d x y:Nat):Bool:=isDst o d&&(match o.op with
 | .binOp .add _ u v _=>isTmp u x&&isTmp v y
 |_=>false)
def isPut(E:Env)(o:Oper)(x y:Nat):Bool:=(match o.dst,o.guard with
 |none,none=>true
 |_,_=>false)&&(match o.op with
 | .store T u v=>isTmp u x&&(isTmp v y&&isU8 E T)
 |_=>false)
def z10a(E:Env)(o x m:Nat)(ops:List Oper):Bool:=
 match ops with
 | [a0,a1,a2,a3,a4,a5,a6,a7,a8,a9,a10,a11,a12,a13]=>z80 a0 m o&&(z80 a1 (m+1) o&&(isLen E a2 (m+2) (m+1)&&(zpa a3 (m+3) (m+2)&&(z80 a4 (m+4) o&&(z80 a5 (m+5) o&&(isLen E a6 (m+6) (m+5)&&(zpa a7 (m+7) (m+6)&&(isAt E a8 (m+8) (m+4) (m+7)&&(zzg E a9 (m+9) (m+8)&&(z80 a10 (m+10) x&&(isSum a11 (m+11) (m+9) (m+10)&&(isAt E a12 (m+12) m (m+3)&&isPut E a13 (m+12) (m+11)))))))))))))
 |_=>false
def tailS(e:TypeId)(xs:List Int)(y:Int)(own:List (List Nat)):List SV:=[.dat (.sl e (.int .u8)) (xs.set (IntKind.i64.wrap ((xs.length:Int)-1)).toNat (IntKind.u8.wrap (xs.getD (IntKind.i64.wrap ((xs.length:Int)-1)).toNat 0+y)):List Int) own]
def tailV(E:Env)(q:Nat×Nat×Nat)(ops:List Oper)(s:State)(K:State→Option R):Option R:=
 bif z10a E q.1 q.2.1 q.2.2 ops then
  bif Nat.ble (q.1+1) q.2.2&&(Nat.ble (q.2.1+1) q.2.2&&(!(Nat.beq q.1 q.2.1)&&Nat.ble (q.2.2+13) s.sl.length)) then
   match s.slot q.1,s.slot q.2.1 with
   | [.dat (.sl e (.int .u8)) xs own],[.dat (.int .u8) y _]=>
     bif z2l own [] then
      bif flatB q.1 0 (killN 13 q.2.2 s.sl)&&s.bs.all Option.isNone then
       zd (IntKind.i64.wrap ((List.length (xs:List Int):Int)-1)) (List.length (xs:List Int)) (K ⟨(killN 13 q.2.2 s.sl).set q.1 (tailS e xs y own),s.bs⟩)
      else none
     else none
   |_,_=>none
  else none
 else none
def decO(own:List (List Nat)):List (List Nat):=own.filterMap fun p=>match p with
 |(j+1)::p=>some (j::p)
 |_=>none
def Ty.firm:Ty→List (List Nat)→Bool
 | .sl _ t,own=>t.flat&&z2l own []
 | .pair a b,own=>a.firm (zfq own [0])&&b.firm (decO own)
 | .spc _ _ _,_=>false
 | .arr _ t,_=>t.flat
 |_,_=>true
def Box.firm(B:Box):Bool:= !B.t.isSpc&&B.t.firm B.own
def SV.firm(bs:List (Option Box)):SV→Bool
 | .dat t _ own=>t.firm own
 | .view _ _| .cap _ _ _ _ _=>false
 | .ptr id _ _=>match bs.getD id none with
   |some B=>B.firm
   |none=>false
 |_=>true
def hold(bs:List (Option Box))(l:List SV):List SV:=bif l.all (SV.firm bs) then l else [.undef]
def zpp:Option Box→Option Box
 |some B=>bif B.firm then some B else none
 |none=>none
def State.firm(x:Nat)(s:State):State:=⟨(s.sl.set x [.undef]).map (hold s.bs),s.bs.map zpp⟩
def pokeE(E:Env)(x d:Nat)(T T':TypeId)(i vo:Operand)(s:State)(K:State→Option R):Option R:=
 match s.slot x with
 | [.dat (.sl e t) xs own]=>bif z2l own []&&t.flat then
     match E.ty T,E.ty T' with
     |some u,some w=>bif u.eqb (.sl e t)&&(w.eqb t&&Nat.ble (d+1) s.sl.length) then
       (s.op1 i).num fun n=>((s.putSlot (some d) [.undef]).op1 vo).el t fun _=>zd n (List.length (xs:List (El t))) (K ((s.putSlot (some d) [.undef]).firm x))
      else none
     |_,_=>none
   else none
 |_=>none
def noDst(o:Oper):Bool:=
 match o.dst,o.guard with
 |none,none=>true
 |_,_=>false
def pokeL(E:Env)(oA oS:Oper)(s:State)(K:State→Option R):Option R:=
 match oA.op,oS.op with
 | .indexAddr T (.tmp x) i,.store T' (.tmp d) vo=>bif isDst oA d&&(!(Nat.beq x d)&&noDst oS) then pokeE E x d T T' i vo s K else none
 |_,_=>none
def zk7{α:Type}:List α→Option (List α×α×α)
 | []=>none
 | [_]=>none
 | [a,b]=>some ([],a,b)
 |a::r=>match zk7 r with
  |some (l,x,y)=>some (a::l,x,y)
  |none=>none
def pokeR(E:Env)(C:FuncId→Fun' R)(ops:List Oper)(s:State)(K:State→Option R):Option R:=
 match zk7 ops with
 |some (l,oA,oS)=>steps E C ops l s fun s=>pokeL E oA oS s K
 |none=>none
def z7h(E:Env)(C:FuncId→Fun' R)(i:Nat)(ops:Array Oper)(d:Bool)(s:State)(K:State→Option R):Option R:=
 thaw E i s fun s=>z7d (E.fr i) s fun s=>bif d then z6m E C ops.toList ops.toList 0 s [] K else steps E C ops.toList ops.toList s K
def ev(E:Env)(C:FuncId→Fun' R)(k:Nat):Code→State→(Ex→State→Option R)→Option R
 | .skip,s,K=>K .normal s
 | .region i ops d,s,K=>match E.sp with
   |some (j,q)=>bif Nat.beq i j then(match d with
    |true=>none
    |false=>bif Nat.beq q.2.2 0 then pokeR E C ops.toList s (K .normal) else tailV E q ops.toList s (K .normal)) else z7h E C i ops d s (K .normal)
   |none=>z7h E C i ops d s (K .normal)
 | .seq a b,s,K=>ev E C k a s fun e s=>match e with
   | .normal=>meet E k (z1x b) s fun s=>ev E C k b s K
   |e=>K e s
 | .cond c a b,s,K=>match s.op1 c with
   | .dat .bool p _=>bif p then ev E C k a (s.putSlot (tmpOf c) (bl true)) K else ev E C k b (s.putSlot (tmpOf c) (bl false)) K
   |_=>none
 | .block id b,s,K=>ev E C k b s fun e s=>match e with
   | .exit j=>bif Nat.beq j id then K .normal s else K (.exit j) s
   |e=>K e s
 | .loop b,s,K=>z3h (E.keep (z1x b)) (s.drop (E.dr (z1x b))) fun s=>loopR (ev E C k b) (E.keep (z1x b)) (E.keepX (z1x b)) k s K
 | .exit id,s,K=>K (.exit id) s
 | .ret,s,K=>K .ret s
 |_,_,_=>none
def resOf(E:Env):State→List ResultVar→Option (List SV×State)
 |s,[]=>some ([],s)
 |s,.tmp t::r=>match resOf E (s.close [(t,0)]) r with
  |some (l,s')=>some (one (s.slot t)::l,s')
  |none=>none
 |s,.cell p T::r=>match s.slot p,E.ty T with
  | [.ptr id u []],some t=>match s.box id with
    |some B=>if(t.eqb B.t&& !u.isSpc)=true then match resOf E (s.putBox (some (id,{B with own:=[]}))) r with
      |some (l,s')=>some (.dat B.t B.x B.own::l,s')
      |none=>none
     else none
    |none=>none
  |_,_=>none
def z6l:List SV→List Nat
 | []=>[]
 | .ptr id _ _::r=>id::z6l r
 |_::r=>z6l r
def zae(s:State)(bx:Option Box)(l:List SV)(K:List SV→Option Box→Option R):Option R:=
 match bx,z6l l with
 |some _,[]=>match s.box 0 with
  |some B=>K l (some B)
  |none=>none
 |none,[]=>K l none
 |none,[id]=>match s.box id with
  |some B=>K (l.map (SV.reptr 0)) (some B)
  |none=>none
 |_,_=>none
def outs'(E:Env)(l:List SV):List SV:=bif E.ro then l.map SV.shut else l
def normA:List Ty→List SV→List SV
 | .sl e t::r,.nilS::q=> .dat (.sl e t) ([]:List (El t)) []::normA r q
 |_::r,v::q=>v.shut::normA r q
 | [],q=>q
 |_,[]=>[]
def evFn(E:Env)(C:FuncId→Fun' R)(k:Nat)(fn:Func)(code:Code)(vs:List SV)(bx:Option Box)(K:List SV→Option Box→Option R):Option R:=
 bif E.sp.isSome&&bx.isSome then none else
 let n:=fn.ntmps-vs.length
 let s:State:=⟨(normA E.ps vs).map (fun v=>[v])++List.replicate n [.undef],bx::List.replicate (vs.length+n) none⟩
 ev E C k code s fun e s=>match e with
  | .exit _=>none
  |_=>match resOf E s fn.results.toList with
   |some (l,s')=>zae s' bx (outs' E l) K
   |none=>none
end
end Go.Ref

namespace Go.Ref
open Go
theorem zt{R S:Type}{sv:SV}{t:Ty}{F:El t→Option R}{G:El t→Option S}{K:S→Option R}(h:∀y,F y=(G y).bind K):sv.el t F=(sv.el t G).bind K:=by
 cases sv with
 |dat t' x own=>
  simp only[SV.el]
  split
  ·exact h _
  ·rfl
 |nilS=>cases t<;>simp only[SV.el]<;>first|rfl|exact h _
 |_=>rfl
theorem zk{R S:Type}{b:Bool}{x y:Option R}{x' y':Option S}{K:S→Option R}(h:x=x'.bind K)(k:y=y'.bind K):(bif b then x else y)=(bif b then x' else y').bind K:=by
 cases b
 ·exact k
 ·exact h
theorem zp{R S:Type}{c:Prop}[Decidable c]{x y:Option R}{x' y':Option S}{K:S→Option R}(h:x=x'.bind K)(k:y=y'.bind K):(if c then x else y)=(if c then x' else y').bind K:=by
 split
 ·exact h
 ·exact k
section
variable {R:Type}
theorem zlm{op:BinOp}{k k':IntKind}{m n:Int}{K:List SV→Option R}:binI op k m k' n K=(binI op k m k' n some).bind K:=by
 unfold binI
 cases op<;>simp only<;>repeat(first|rfl|refine zk ?_ ?_|refine zp ?_ ?_)
theorem zlo{op:BinOp}{m n:ByteArray}{K:List SV→Option R}:binS op m n K=(binS op m n some).bind K:=by
 unfold binS
 cases op<;>simp only<;>repeat(first|rfl|refine zk ?_ ?_|refine zp ?_ ?_)
theorem zll{E:Env}{op:BinOp}{T:TypeId}{x y:SV}{K:List SV→Option R}:binE E op T x y K=(binE E op T x y some).bind K:=by
 unfold binE
 split
 ·refine zp rfl (zt fun a=>zt fun b=> ?_)
  split
  ·cases op<;>rfl
  ·rfl
 ·rfl
theorem z1h3{E:Env}{op:BinOp}{T:TypeId}{x y:SV}{S:Type}{F:List SV→Option R}{G:List SV→Option S}{K:S→Option R}(h:∀l,F l=(G l).bind K):bin E op T x y F=(bin E op T x y G).bind K:=by
 unfold bin
 split
 ·rw[zlm,zlm (K:=G),Option.bind_assoc];congr;funext l;exact h l
 ·rw[zlo,zlo (K:=G),Option.bind_assoc];congr;funext l;exact h l
 ·refine zp rfl ?_;cases op<;>simp only<;>first|exact h _|rfl
 ·refine zp rfl ?_;cases op<;>simp only<;>first|exact h _|rfl
 ·rw[zll,zll (K:=G),Option.bind_assoc];congr;funext l;exact h l
theorem z4m{S:Type}{i:Int}{n:Nat}{x:Option R}{x':Option S}{K:S→Option R}(h:x=x'.bind K):zd i n x=(zd i n x').bind K:=by
 unfold zd
 exact zk (zk h rfl) rfl
theorem zb2{S:Type}{lo:Option SV}{m:Nat}{F:Nat→Option R}{G:Nat→Option S}{K:S→Option R}(h:∀l,F l=(G l).bind K):z5g lo m F=(z5g lo m G).bind K:=by
 unfold z5g
 cases lo with
 |none=>exact h _
 |some v=>exact zt fun y=>zk (zk (h _) rfl) rfl
theorem zve{S:Type}{lo hi:Option SV}{n:Nat}{F:Nat→Nat→Option R}{G:Nat→Nat→Option S}{K:S→Option R}(h:∀l h,F l h=(G l h).bind K):cutAt lo hi n F=(cutAt lo hi n G).bind K:=by
 unfold cutAt
 cases hi with
 |none=>exact zb2 fun l=>h _ _
 |some w=>exact zt fun y=>zk (zk (zb2 fun l=>h _ _) rfl) rfl
theorem zov{S:Type}{t:Ty}{F:El t→List (List Nat)→Option R}{G:El t→List (List Nat)→Option S}{K:S→Option R}(h:∀y o,F y o=(G y o).bind K):∀(l:List (Nat×SV×List (List Nat))) (x:El t) (own:List (List Nat)),z3g t x own l F=(z3g t x own l G).bind K
 | [],x,own=>by simpa [z3g] using h x own
 |(i,v,ov)::r,x,own=>by
  simp only[z3g]
  refine zp rfl ?_
  split
  ·refine zt fun y=> ?_
   split
   ·exact zov h r _ _
   ·rfl
  ·rfl
theorem zow{S:Type}{t:Ty}{F:List (El t)→Option R}{G:List (El t)→Option S}{K:S→Option R}(h:∀y,F y=(G y).bind K):∀(l:List (Nat×SV)) (x:List (El t)),z6g t x l F=(z6g t x l G).bind K
 | [],x=>by simpa [z6g] using h x
 |(i,v)::r,x=>by
  simp only[z6g]
  exact zp rfl (zt fun y=>zow h r _)
variable {S:Type} {F:Out→Option R} {G:Out→Option S} {K:S→Option R}
theorem z118{u:Ty}{s:State}{id:Nat}{t:Ty}{p:List Nat}(h:∀y,F y=(G y).bind K):z62 u s id t p F=(z62 u s id t p G).bind K:=by
 unfold z62
 split
 ·split
  ·split
   ·exact zp (zk (h _) rfl) rfl
   ·rfl
  ·rfl
 ·rfl
theorem z105{u:Ty}{s:State}{id:Nat}{t:Ty}{p:List Nat}{v:SV}(h:∀y,F y=(G y).bind K):z4y u s id t p v F=(z4y u s id t p v G).bind K:=by
 unfold z4y
 split
 ·split
  ·split
   ·exact zp (zt fun y=>zk (h _) rfl) rfl
   ·rfl
  ·rfl
 ·rfl
theorem zze{t:Ty}{n:Int}{id:Nat}{r:Ty}{p:List Nat}(h:∀y,F y=(G y).bind K):z7z t n id r p F=(z7z t n id r p G).bind K:=by
 unfold z7z
 split
 ·exact zp (z4m (h _)) rfl
 ·rfl
theorem z117{u:Ty}{B:Box}{t:Ty}{p:List Nat}(h:∀y,F y=(G y).bind K):z7g u B t p F=(z7g u B t p G).bind K:=by
 unfold z7g
 split
 ·split
  ·exact zp (zk (h _) rfl) rfl
  ·rfl
 ·rfl
theorem z1dx{E:Env}{T:TypeId}{s:State}{la:Bool}{v:SV}(h:∀y,F y=(G y).bind K):load E T s la v F=(load E T s la v G).bind K:=by
 unfold load
 split
 ·split
  ·exact zp (h _) rfl
  ·refine zp (z118 h) ?_
   split
   ·refine zp ?_ (z117 h)
    split
    ·exact zp (zk (h _) (h _)) rfl
    ·rfl
   ·rfl
  ·rfl
 ·rfl
theorem z1a1{E:Env}{T:TypeId}{s:State}{v:SV}{x:Operand}(h:∀y,F y=(G y).bind K):store E T s v x F=(store E T s v x G).bind K:=by
 unfold store
 split
 ·split
  ·refine zp (z105 h) ?_
   split
   ·refine zp ?_ rfl
    split
    ·refine zp (zt fun y=> ?_) rfl
     split
     ·exact h _
     ·rfl
    ·rfl
   ·rfl
  ·rfl
 ·rfl
theorem z13k{t:Option Ty}{v:SV}{j:Nat}(h:∀y,F y=(G y).bind K):zev t v j F=(zev t v j G).bind K:=by
 unfold zev
 split
 ·refine zp rfl ?_
  split
  ·refine zp ?_ rfl
   split
   ·exact zp rfl (h _)
   ·rfl
  ·rfl
 ·refine zp ?_ rfl
  split
  ·exact zp rfl (h _)
  ·rfl
 ·rfl
theorem zud{v:SV}{F':Int→Option R}{G':Int→Option S}{K:S→Option R}(h:∀n,F' n=(G' n).bind K):v.num F'=(v.num G').bind K:=by
 unfold SV.num
 split
 ·exact h _
 ·rfl
theorem z13p{E:Env}{T:TypeId}{v i:SV}(h:∀y,F y=(G y).bind K):zf5 E T v i F=(zf5 E T v i G).bind K:=by
 unfold zf5
 refine zud fun n=> ?_
 split
 ·exact zt fun y=>z4m (h _)
 ·refine zp rfl ?_
  split
  ·exact zp (z4m (h _)) rfl
  ·rfl
 ·exact zt fun y=>z4m (h _)
 ·exact zze h
 ·rfl
theorem z13q{E:Env}{T:TypeId}{v i:SV}(h:∀y,F y=(G y).bind K):zf6 E T v i F=(zf6 E T v i G).bind K:=by
 unfold zf6
 refine zud fun n=> ?_
 split
 ·exact zt fun y=>z4m (h _)
 ·exact zt fun y=>z4m (h _)
 ·rfl
theorem z1d3{E:Env}{T:TypeId}{v:SV}{lo hi:Option SV}(h:∀y,F y=(G y).bind K):cutV E T v lo hi F=(cutV E T v lo hi G).bind K:=by
 unfold cutV
 split
 ·exact zt fun y=>zve fun _ _=>h _
 ·exact zt fun y=>zve fun _ _=>h _
 ·rfl
theorem z10s{E:Env}{T U:TypeId}{bo:Operand}{b x:SV}(h:∀y,F y=(G y).bind K):za6 E T U bo b x F=(za6 E T U bo b x G).bind K:=by
 unfold za6
 refine zp rfl ?_
 split
 ·refine zp rfl ?_
  split
  ·exact zt fun y=>zk (h _) rfl
  ·exact zp rfl (zt fun y=>zt fun z=>zk (h _) rfl)
  ·rfl
 ·rfl
theorem z1du{E:Env}{T:TypeId}{x:SV}(h:∀y,F y=(G y).bind K):lenV E T x F=(lenV E T x G).bind K:=by
 unfold lenV
 split
 ·exact zt fun y=>h _
 ·split
  ·exact h _
  ·exact zt fun y=>h _
 ·exact h _
 ·rfl
theorem z182{E:Env}{S' T:TypeId}{x:SV}(h:∀y,F y=(G y).bind K):convV E S' T x F=(convV E S' T x G).bind K:=by
 unfold convV
 split
 ·exact zt fun y=>h _
 ·exact zt fun y=>h _
 ·exact zt fun y=>h _
 ·rfl
theorem z181{E:Env}{S' T:TypeId}{s:State}{id n:Nat}{a b:Ty}(h:∀y,F y=(G y).bind K):convH E S' T s id n a b F=(convH E S' T s id n a b G).bind K:=by
 unfold convH
 split
 ·refine zp ?_ rfl
  split
  ·split
   ·exact zk (h _) rfl
   ·rfl
  ·rfl
 ·rfl
theorem zly{s:State}{dst:Option Nat}{t:Ty}{x:El t}{p:Ty}(h:∀y,F y=(G y).bind K):newV s dst t x p F=(newV s dst t x p G).bind K:=by
 unfold newV
 split
 ·split
  ·exact h _
  ·rfl
 ·rfl
theorem zpc{s:State}{m:SV}{kt vt:Ty}{F:Nat→List (El kt×El vt)→Option R}{G:Nat→List (El kt×El vt)→Option S}{K:S→Option R}(h:∀n y,F n y=(G n y).bind K):z4s s m kt vt F=(z4s s m kt vt G).bind K:=by
 unfold z4s
 split
 ·refine zp ?_ rfl
  split
  ·split
   ·exact h _ _
   ·rfl
  ·rfl
 ·rfl
theorem z18y{E:Env}{T:TypeId}{s:State}{m i:SV}(h:∀y,F y=(G y).bind K):lookV E T s m i F=(lookV E T s m i G).bind K:=by
 unfold lookV
 split
 ·exact zpc fun _ _=>zt fun _=>h _
 ·rfl
theorem z10g{E:Env}{T:TypeId}{s:State}{m i v:SV}(h:∀y,F y=(G y).bind K):updV E T s m i v F=(updV E T s m i v G).bind K:=by
 unfold updV
 split
 ·exact zpc fun _ _=>zt fun _=>zt fun _=>zk rfl (h _)
 ·rfl
theorem z195{s:State}{m:SV}(h:∀y,F y=(G y).bind K):nextV s m F=(nextV s m G).bind K:=by
 unfold nextV
 split
 ·split
  ·split
   ·exact zk (h _) (h _)
   ·rfl
  ·rfl
 ·rfl
theorem z192{E:Env}{T:TypeId}{s:State}{dst:Option Nat}{lo:Operand}{l c:SV}(h:∀y,F y=(G y).bind K):makeV E T s dst lo l c F=(makeV E T s dst lo l c G).bind K:=by
 unfold makeV
 split
 ·exact zp rfl (zt fun n=>zt fun m=>zk (zk (zk (zk (h _) rfl) rfl) rfl) (zk (zk (zk (zly h) rfl) rfl) rfl))
 ·rfl
theorem z1i1{op:UnOp}{x:SV}(h:∀y,F y=(G y).bind K):unV op x F=(unV op x G).bind K:=by
 unfold unV
 split
 ·exact h _
 ·exact h _
 ·rfl
end
abbrev Funs:=(R:Type)→FuncId→Fun' R
def Funs.Nat(C:Funs):Prop:=∀(R S:Type) (f:FuncId) l b (F:List SV→Option Box→Option R) (G:List SV→Option Box→Option S) (K:S→Option R),(∀r b,F r b=(G r b).bind K)→C R f l b F=(C S f l b G).bind K
section
variable {R S:Type} {F:Out→Option R} {G:Out→Option S} {K:S→Option R} {C:Funs}
theorem z8a(hC:C.Nat){s:State}{dst:Option Nat}{f:FuncId}{vs:List SV}(h:∀y,F y=(G y).bind K):callV (C R) s dst f vs F=(callV (C S) s dst f vs G).bind K:=by
 unfold callV
 split
 ·refine hC R S f _ _ _ _ K fun r b=> ?_
  split
  ·exact h _
  ·split
   ·split
    ·exact h _
    ·rfl
   ·rfl
 ·refine hC R S f _ _ _ _ K fun r b=> ?_
  split
  ·exact zp (h _) rfl
  ·rfl
 ·rfl
theorem z17z{f:FuncId}{x:SV}(h:∀y,F y=(G y).bind K):closV f x F=(closV f x G).bind K:=by
 unfold closV
 split
 ·exact zp rfl (h _)
 ·rfl
theorem z1cw{f:FuncId}{x y:SV}(h:∀y,F y=(G y).bind K):capV f x y F=(capV f x y G).bind K:=by
 unfold capV
 split
 ·exact h _
 ·rfl
theorem z1d2{n id:Nat}{a b:Ty}{lo hi:Option SV}(h:∀y,F y=(G y).bind K):cutH n id a b lo hi F=(cutH n id a b lo hi G).bind K:=by
 unfold cutH
 split
 ·rfl
 ·exact zb2 fun l=>h _
theorem zvc{t:Ty}{s:State}{id n lo:Nat}{a b:Ty}{x:SV}{e:TypeId}(h:∀y,F y=(G y).bind K):copyH t s id n lo a b x e F=(copyH t s id n lo a b x e G).bind K:=by
 unfold copyH
 refine zp (zt fun ys=> ?_) rfl
 split
 ·split
  ·exact zk (zk (h _) rfl) rfl
  ·rfl
 ·rfl
theorem z1d1{E:Env}{T:TypeId}{s:State}{id n:Nat}{t:Ty}{lo hi:Option SV}(h:∀y,F y=(G y).bind K):cutA E T s id n t lo hi F=(cutA E T s id n t lo hi G).bind K:=by
 unfold cutA
 split
 ·refine zp ?_ rfl
  split
  ·split
   ·exact h _
   ·rfl
  ·rfl
 ·rfl
theorem z183{t:Ty}{s:State}{id n:Nat}{a b:Ty}{y:ByteArray}(h:∀y,F y=(G y).bind K):copyS t s id n a b y F=(copyS t s id n a b y G).bind K:=by
 unfold copyS
 refine zp (zp ?_ rfl) rfl
 split
 ·split
  ·exact zk (h _) rfl
  ·rfl
 ·rfl
theorem z184{E:Env}{T:TypeId}{s:State}{d x:SV}(h:∀y,F y=(G y).bind K):copyV E T s d x F=(copyV E T s d x G).bind K:=by
 unfold copyV
 split
 ·split
  ·exact z183 h
  ·exact zvc h
 ·exact zvc h
 ·rfl
theorem zwa{g:Bool}{x y:SV}(h:∀y,F y=(G y).bind K):mostV g x y F=(mostV g x y G).bind K:=by
 unfold mostV
 split
 ·exact h _
 ·rfl
theorem zzo{E:Env}{T:TypeId}(h:∀y,F y=(G y).bind K):nilV E T F=(nilV E T G).bind K:=by
 unfold nilV
 split
 ·exact h _
 ·exact h _
theorem z4d(hC:C.Nat){E:Env}{ops:List Oper}{o:Oper}{s:State}(h:∀y,F y=(G y).bind K):act E (C R) ops o s F=(act E (C S) ops o s G).bind K:=by
 unfold act
 split
 ·split
  ·exact zk (h _) (h _)
  ·split
   ·exact zk (h _) (h _)
   ·rfl
   ·exact zzo h
   ·exact h _
 ·split
  ·exact h _
  ·rfl
  ·exact zzo h
  ·exact h _
 ·split
  ·exact zk (h _) (h _)
  ·rfl
 ·exact z1h3 fun l=>h _
 ·exact z1i1 h
 ·split
  ·exact z181 h
  ·exact z182 h
 ·exact z1dx h
 ·exact z1a1 h
 ·split
  ·exact zp rfl (h _)
  ·exact h _
  ·rfl
 ·exact z13k h
 ·exact z13p h
 ·exact z13q h
 ·split
  ·refine zp rfl (zt fun y=> ?_)
   split
   ·exact h _
   ·rfl
  ·rfl
 ·split
  ·split
   ·exact zp (z1d2 h) rfl
   ·rfl
  ·exact z1d1 h
  ·exact z1d3 h
 ·split
  ·exact z17z h
  ·exact z1cw h
  ·rfl
 ·split
  ·split
   ·exact h _
   ·rfl
  ·split
   ·split
    ·exact h _
    ·rfl
   ·rfl
  ·rfl
 ·split
  ·split
   ·exact zt fun y=>h _
   ·rfl
  ·rfl
 ·split
  ·exact zp rfl (zov (fun y o=>h _) _ _ _)
  ·rfl
 ·split
  ·exact zp rfl (zk (zow (fun y=>h _) _ _) rfl)
  ·rfl
 ·split
  ·refine zp ?_ ?_
   ·split
    ·exact h _
    ·rfl
   split
   ·exact h _
   ·rfl
   ·exact h _
   ·rfl
  ·rfl
 ·split
  ·exact zly h
  ·rfl
 ·exact z18y h
 ·exact z10g h
 ·exact z10g h
 ·split
  ·exact zt fun y=>zly h
  ·rfl
 ·exact z195 h
 ·exact z192 h
 ·exact z8a hC fun u=>h _
 ·split
  ·exact zp rfl (z8a hC h)
  ·exact z8a hC h
  ·rfl
 ·split
  ·exact z184 h
  ·rfl
 ·split
  ·exact z1du h
  ·rfl
 ·split
  ·exact z10s h
  ·rfl
 ·split
  ·exact zwa h
  ·rfl
 ·split
  ·exact zwa h
  ·rfl
 ·rfl
end
section
variable {R S:Type} {F:State→Option R} {G:State→Option S} {K:S→Option R} {C:Funs}
theorem zm5(hC:C.Nat){E:Env}{ops:List Oper}{o:Oper}{s:State}(h:∀y,F y=(G y).bind K):step E (C R) ops o s F=(step E (C S) ops o s G).bind K:=by
 unfold step
 simp only
 split
 ·exact z4d hC fun y=>h _
 ·split
  ·rfl
  ·split
   ·exact zk (zk (z4d hC fun y=>h _) (h _)) (zk (h _) (z4d hC fun y=>h _))
   ·exact h _
   ·rfl
theorem z6n(hC:C.Nat){E:Env}{ops:List Oper}(h:∀y,F y=(G y).bind K):∀(l:List Oper) (s:State),steps E (C R) ops l s F=(steps E (C S) ops l s G).bind K
 | [],s=>h s
 |o::r,s=>by
  simp only[steps]
  exact zm5 hC fun s=>z6n hC h r s
theorem z19z(hC:C.Nat){E:Env}{ops:List Oper}{o:Oper}{i:Nat}{s:State}{tr:List Foot}{F:State→List Foot→Option R}{G:State→List Foot→Option S}(h:∀y t,F y t=(G y t).bind K):stepD E (C R) ops o i s tr F=(stepD E (C S) ops o i s tr G).bind K:=by
 unfold stepD
 simp only
 split
 ·exact z4d hC fun y=>zk (h _ _) rfl
 ·split
  ·rfl
  ·split
   ·exact zk (zk (z4d hC fun y=>zk (h _ _) rfl) (zk (h _ _) rfl)) (zk (zk (h _ _) rfl) (z4d hC fun y=>zk (h _ _) rfl))
   ·exact zk (h _ _) rfl
   ·rfl
theorem zbh(hC:C.Nat){E:Env}{ops:List Oper}(h:∀y,F y=(G y).bind K):∀(l:List Oper) (i:Nat) (s:State) (tr:List Foot),z6m E (C R) ops l i s tr F=(z6m E (C S) ops l i s tr G).bind K
 | [],i,s,tr=>h s
 |o::r,i,s,tr=>by
  simp only[z6m]
  exact z19z hC fun s tr=>zbh hC h r (i+1) s tr
theorem z5k{l:List Nat}{s:State}(h:∀y,F y=(G y).bind K):z3h l s F=(z3h l s G).bind K:=by
 unfold z3h
 exact zk (h _) rfl
end
theorem z18v{R S:Type}{k:Nat}{F:Unit→Option R}{G:Unit→Option S}{K:S→Option R}(h:F ()=(G ()).bind K):joinK k F=(joinK k G).bind K:=by
 unfold joinK
 cases k
 ·rfl
 ·exact h
theorem z1dy{R S:Type}{F:State→Option R}{G:State→Option S}{K:S→Option R}{E:Env}{k r:Nat}{s:State}(h:∀y,F y=(G y).bind K):meet E k r s F=(meet E k r s G).bind K:=by
 unfold meet
 split
 ·exact h _
 ·exact z5k fun s=>z18v (h _)
theorem z1ep{R S:Type}{F:State→Option R}{G:State→Option S}{K:S→Option R}{E:Env}{r:Nat}{s:State}(h:∀y,F y=(G y).bind K):thaw E r s F=(thaw E r s G).bind K:=by
 unfold thaw
 split
 ·exact h _
 ·split
  ·refine zp ?_ rfl
   split
   ·split
    ·exact zk (h _) rfl
    ·rfl
   ·rfl
  ·rfl
theorem zkm{R S:Type}{F:State→Option R}{G:State→Option S}{K:S→Option R}(h:∀y,F y=(G y).bind K):∀(l:List Nat) (s:State),z7d l s F=(z7d l s G).bind K
 | [],s=>h s
 |id::r,s=>by
  simp only[z7d]
  unfold zk5
  split
  ·exact zp rfl (zkm h r _)
  ·rfl
section
variable {R S:Type} {F:Ex→State→Option R} {G:Ex→State→Option S} {K:S→Option R} {C:Funs}
theorem zw9{body:State→(Ex→State→Option R)→Option R}{body':State→(Ex→State→Option S)→Option S}{l lx:List Nat}
 (hb:∀(F:Ex→State→Option R) (G:Ex→State→Option S),(∀e s,F e s=(G e s).bind K)→∀s,body s F=(body' s G).bind K) (h:∀e s,F e s=(G e s).bind K):
 ∀(k:Nat) (s:State),loopR body l lx k s F=(loopR body' l lx k s G).bind K
 |0,_=>rfl
 |k+1,s=>by
  simp only[loopR]
  refine hb _ _ (fun e s=> ?_) s
  cases e with
  |normal=>exact z5k fun s=>zw9 hb h k s
  |exit id=>exact z5k fun s=>h _ _
  |ret=>exact z5k fun s=>h _ _
theorem z10b{E:Env}{q:Nat×Nat×Nat}{ops:List Oper}{s:State}{F:State→Option R}{G:State→Option S}{K:S→Option R}(h:∀s,F s=(G s).bind K):tailV E q ops s F=(tailV E q ops s G).bind K:=by
 unfold tailV
 refine zk (zk ?_ rfl) rfl
 split
 ·refine zk (zk ?_ rfl) rfl
  unfold zd
  exact zk (zk (h _) rfl) rfl
 ·rfl
theorem z19f{E:Env}{oA oS:Oper}{s:State}{F:State→Option R}{G:State→Option S}{K:S→Option R}(h:∀s,F s=(G s).bind K):pokeL E oA oS s F=(pokeL E oA oS s G).bind K:=by
 unfold pokeL
 split
 ·refine zk ?_ rfl
  unfold pokeE
  split
  ·refine zk ?_ rfl
   split
   ·refine zk (zud fun n=>zt fun y=> ?_) rfl
    unfold zd
    exact zk (zk (h _) rfl) rfl
   ·rfl
  ·rfl
 ·rfl
theorem zzt(hC:C.Nat){E:Env}{ops:List Oper}{s:State}{F:State→Option R}{G:State→Option S}(h:∀s,F s=(G s).bind K):pokeR E (C R) ops s F=(pokeR E (C S) ops s G).bind K:=by
 unfold pokeR
 split
 ·exact z6n hC (fun s=>z19f h) _ _
 ·rfl
theorem z4p(hC:C.Nat){E:Env}{k:Nat}:∀(c:Code) (F:Ex→State→Option R) (G:Ex→State→Option S),(∀e s,F e s=(G e s).bind K)→∀s,ev E (C R) k c s F=(ev E (C S) k c s G).bind K
 | .skip,F,G,h,s=>h _ _
 | .region i ops d,F,G,h,s=>by
   simp only[ev]
   have key:z7h E (C R) i ops d s (F .normal)=(z7h E (C S) i ops d s (G .normal)).bind K:=z1ep fun s=>zkm (fun s=>zk (zbh hC (fun s=>h _ _) _ _ _ _) (z6n hC (fun s=>h _ _) _ _)) _ _
   split
   ·refine zk ?_ key
    cases d with
    |true=>rfl
    |false=>exact zk (zzt hC fun s=>h _ _) (z10b fun s=>h _ _)
   ·exact key
 | .seq a b,F,G,h,s=>by
   simp only[ev]
   refine z4p hC a _ _ (fun e s=> ?_) s
   cases e with
   |normal=>exact z1dy fun s=>z4p hC b _ _ h s
   |exit id=>exact h _ _
   |ret=>exact h _ _
 | .cond c a b,F,G,h,s=>by
   simp only[ev]
   split
   ·exact zk (z4p hC a _ _ h _) (z4p hC b _ _ h _)
   ·rfl
 | .block id b,F,G,h,s=>by
   simp only[ev]
   refine z4p hC b _ _ (fun e s=> ?_) s
   cases e with
   |normal=>exact h _ _
   |exit j=>exact zk (h _ _) (h _ _)
   |ret=>exact h _ _
 | .loop b,F,G,h,s=>by
   simp only[ev]
   exact z5k fun s=>zw9 (fun F G h s=>z4p hC b F G h s) h k s
 | .exit id,F,G,h,s=>h _ _
 | .ret,F,G,h,s=>h _ _
 | .rangeFunc ..,F,G,h,s=>rfl
 | .scope _,F,G,h,s=>rfl
 | .label _,F,G,h,s=>rfl
 | .goto _,F,G,h,s=>rfl
 | .refuse _,F,G,h,s=>rfl
end
theorem z1g{R S:Type}{x:Option R}{y:Option S}{K:S→Option R}(h:x=y.bind K){z:R}(hz:x=some z):∃w,y=some w∧K w=some z:=by
 rw[h] at hz
 exact Option.bind_eq_some_iff.1 hz
end Go.Ref

namespace Go.Ref
open Go
def mkv(t:Ty)(cs:List Value):Value:=if t.agg=true then .agg cs.toArray else cs.headD undef
def OwnAt(X:Cfg)(pl:Place)(e:TypeId)(k n:Nat)(v:Value):Prop:=
 (v= .slice none 0 0∧n=0)∨∃g cap cur,v= .slice (some ⟨g,0,none⟩) n cap∧X.w.heap[g]? =some (.cells cur e (0,0))∧n≤cap∧cap≤maxLen∧cur.size=cap*k∧X.ow g= .row pl (n*k)
def OwnP(X:Cfg)(pl:List Nat→Place)(t:Ty)(x:El t)(cs:List Value)(own:List (List Nat)):Prop:=
 ∀p∈own,∃e t' xs v,t.inb p∧El.get t p x=some ⟨.sl e t',xs⟩∧cs[t.off p]? =some v∧OwnAt X (pl p) e t'.cells (List.length xs) v
def ptrV(t:Ty)(p:List Nat)(r:Nat)(v:Value):Prop:=
 match t,p with
 | .spc .mp _ _,_=>v= .map (some r)
 | .spc (.hdr n) _ _,[]=>∃cap,v= .slice (some ⟨r,0,none⟩) n cap∧n≤cap
 | .spc (.hdr n) a _,[l]=>∃cap off,v= .slice (some ⟨r,off,none⟩) (n-l) cap∧n-l≤cap∧l≤n∧((n=l∧off=0)∨off=l*a.cells)
 | .spc (.clo f) _ _,[]=>v= .func (.func f) #[] #[.pointer (some ⟨r,0,none⟩)]
 | .spc .row a _,[i]=>v= .pointer (some ⟨r,i*a.cells,none⟩)
 |t,p=>v= .pointer (some ⟨r,t.off p,none⟩)∧t.inb p
theorem z1j{t:Ty}{p:List Nat}{r:Nat}{v:Value}(h:t.isSpc=false):ptrV t p r v↔v= .pointer (some ⟨r,t.off p,none⟩)∧t.inb p:=by
 unfold ptrV
 split
 all_goals first
  |exact Iff.rfl
  |simp [Ty.isSpc] at h
theorem z83{t:Ty}{p:List Nat}{r:Nat}{v:Value}(h:t.noClo=false):ptrV t p r v↔v= .pointer (some ⟨r,t.off p,none⟩)∧t.inb p:=by
 unfold ptrV
 split
 all_goals first
  |exact Iff.rfl
  |simp [Ty.noClo] at h
def RepV(X:Cfg)(pl:List Nat→Place):SV→Value→Prop
 | .undef,_=>True
 | .skip,v=>v=Go.undef
 | .nilS,v=>v= .slice none 0 0
 | .nilP,v=>v= .pointer none
 | .dat t x own,v=>∃cs,Rep X t x cs∧v=mkv t cs∧OwnP X pl t x cs own
 | .ptr id t p,v=>∃r,X.β id=some r∧ptrV t p r v
 | .view t x,v=>∃ad cs,v= .pointer (some ad)∧ad.spot=none∧Rep X t x cs∧∀i u,cs[i]? =some u→X.sees (ad.add i) u
 | .cap f t x u y,v=>∃ad ad' cs cs',v= .func (.func f) #[] #[.pointer (some ad),.pointer (some ad')]∧(ad.spot=none∧Rep X t x cs∧∀i w,cs[i]? =some w→X.sees (ad.add i) w)∧(ad'.spot=none∧Rep X u y cs'∧∀i w,cs'[i]? =some w→X.sees (ad'.add i) w)
 | .over,v=>v= .tuple #[.bool false]
theorem z38{X Y:Cfg}{pl pl':List Nat→Place}(h:∀a v,X.sees a v→Y.sees a v){f:Nat}{t u:Ty}{x:El t}{y:El u}{v:Value}(hr:RepV X pl (.cap f t x u y) v):RepV Y pl' (.cap f t x u y) v:=by
 obtain⟨ad,ad',cs,cs',h1,⟨h2,h3,h4⟩,h5,h6,h7⟩:=hr
 exact⟨ad,ad',cs,cs',h1,⟨h2,h3.sees_mono h,fun i w hi=>h _ _ (h4 i w hi)⟩,h5,h6.sees_mono h,fun i w hi=>h _ _ (h7 i w hi)⟩
def RepL(X:Cfg)(pl:Nat→List Nat→Place)(l:List SV)(v:Value):Prop:=
 match l with
 | [s]=>RepV X (pl 0) s v
 |l=>∃vs:Array Value,v= .tuple vs∧vs.size=l.length∧∀(j:Nat) s u,l[j]? =some s→vs[j]? =some u→RepV X (pl j) s u
def RepC(X:Cfg)(t:Ty)(x:El t)(v:Value):Prop:=∃cs,Rep X t x cs∧v=mkv t cs
def Held(X:Cfg)(r:Nat)(pl:List Nat→Place):(t:Ty)→El t→List (List Nat)→Prop
 | .spc .iter _ _,x,_=>X.w.heap[r]? =some (.stringIter x.1 x.2)
 | .spc .mp kt vt,x,_=>∃es clock,X.w.heap[r]? =some (.map es clock)∧es.size=List.length x∧∀(i:Nat) (q:El kt×El vt) (e:MapEntry),x[i]? =some q→es[i]? =some e→RepC X kt q.1 e.key∧RepC X vt q.2 e.val
 | .spc .row t _,xs,_=>∃cs T,X.w.heap[r]? =some (.cells cs T (0,0))∧cs.size=List.length xs*t.cells∧∀(j:Nat) (x:El t),xs[j]? =some x→Rep X t x ((cs.toList.drop (j*t.cells)).take t.cells)
 | .spc (.bld T e) _ _,x,own=>(∃o,X.w.heap[r]? =some o)∧([]∈own→∃v,Bld T e r v (Lib.strCells x) X.w∧∀g,v.ownBlock=some g→X.ow g= .row (pl []) 0)
 | .spc _ _ _,_,_=>False
 |t,x,own=>∃cs T,X.w.heap[r]? =some (.cells cs T (0,0))∧Rep X t x cs.toList∧OwnP X pl t x cs.toList own
theorem Held.plain{X:Cfg}{r:Nat}{pl:List Nat→Place}{t:Ty}{x:El t}{own:List (List Nat)}(hs:t.isSpc=false):Held X r pl t x own↔∃cs T,X.w.heap[r]? =some (.cells cs T (0,0))∧Rep X t x cs.toList∧OwnP X pl t x cs.toList own:=by
 cases t<;>first|exact Iff.rfl|simp [Ty.isSpc] at hs
theorem Held.of{X:Cfg}{r:Nat}{pl:List Nat→Place}{t:Ty}{x:El t}{own:List (List Nat)}{cs:Array Value}{T:TypeId}(hs:t.isSpc=false)(h1:X.w.heap[r]? =some (.cells cs T (0,0)))(h2:Rep X t x cs.toList)(h3:OwnP X pl t x cs.toList own):Held X r pl t x own:=(Held.plain hs).2 ⟨cs,T,h1,h2,h3⟩
theorem RepC.mono{X Y:Cfg}(h:∀a v,X.sees a v→Y.sees a v){t:Ty}{x:El t}{v:Value}(hr:RepC X t x v):RepC Y t x v:=by
 obtain⟨cs,h1,h2⟩:=hr
 exact⟨cs,h1.sees_mono h,h2⟩
theorem Held.lt{X:Cfg}{r:Nat}{pl:List Nat→Place}{t:Ty}{x:El t}{own:List (List Nat)}(h:Held X r pl t x own):r<X.w.heap.size:=by
 have key:∀o,X.w.heap[r]? =some o→r<X.w.heap.size:=fun o ho=>(Array.getElem?_eq_some_iff.1 ho).1
 unfold Held at h
 split at h
 ·exact key _ h
 ·obtain⟨es,c,h1,_⟩:=h;exact key _ h1
 ·obtain⟨cs,T,h1,_⟩:=h;exact key _ h1
 ·obtain⟨⟨o,ho⟩,_⟩:=h;exact key _ ho
 ·exact h.elim
 ·obtain⟨cs,T,h1,_⟩:=h;exact key _ h1
theorem Held.move{X Y:Cfg}{r:Nat}{pl pl':List Nat→Place}{t:Ty}{x:El t}{own:List (List Nat)}(hs:∀a v,X.sees a v→Y.sees a v)(hh:Y.w.heap[r]? =X.w.heap[r]?)
 (ho:∀cs,OwnP X pl t x cs own→OwnP Y pl' t x cs own) (hg: []∈own→∀g o,X.w.heap[g]? =some o→X.ow g= .row (pl []) 0→Y.w.heap[g]? =some o∧Y.ow g= .row (pl' []) 0) (h:Held X r pl t x own):Held Y r pl' t x own:=by
 unfold Held at h⊢
 split at h
 ·exact hh.trans h
 ·obtain⟨es,c,h1,h2,h3⟩:=h
  exact⟨es,c,hh.trans h1,h2,fun i q e hq he=>⟨(h3 i q e hq he).1.mono hs,(h3 i q e hq he).2.mono hs⟩⟩
 ·obtain⟨cs,T,h1,h2,h3⟩:=h
  exact⟨cs,T,hh.trans h1,h2,fun j x hj=>(h3 j x hj).sees_mono hs⟩
 ·obtain⟨⟨o,h1⟩,h2⟩:=h
  refine⟨⟨o,hh.trans h1⟩,fun hm=> ?_⟩
  obtain⟨v,h3,h4⟩:=h2 hm
  refine⟨v,h3.same hh (fun g o hv ho=>(hg hm g o ho (h4 g hv)).1),fun g hv=> ?_⟩
  obtain⟨cap,cur,hgg⟩:∃cap cur,X.w.heap[g]? =some (.cells cur cap (0,0)):=by
   rcases h3.own.2 with⟨hn,_⟩|⟨g',cap,cur,hv',_,hgg,_⟩
   ·rw[hn] at hv;simp [Value.ownBlock] at hv
   ·rw[hv'] at hv
    simp [Value.ownBlock] at hv
    subst hv
    exact⟨_,_,hgg⟩
  exact(hg hm g _ hgg (h4 g hv)).2
 ·exact h.elim
 ·obtain⟨cs,T,h1,h2,h3⟩:=h
  exact⟨cs,T,hh.trans h1,h2.sees_mono hs,ho _ h3⟩
def BoxAt(X:Cfg)(id r:Nat)(B:Box):Prop:=X.ow r= .box id∧Held X r (.b id) B.t B.x B.own
theorem BoxAt.cells{X:Cfg}{id r:Nat}{B:Box}(h:BoxAt X id r B)(hs:B.t.isSpc=false):∃cs T,X.w.heap[r]? =some (.cells cs T (0,0))∧Rep X B.t B.x cs.toList∧X.ow r= .box id∧OwnP X (.b id) B.t B.x cs.toList B.own:=by
 obtain⟨cs,T,h1,h2,h3⟩:=(Held.plain hs).1 h.2
 exact⟨cs,T,h1,h2,h.1,h3⟩
structure Rel(X:Cfg)(s:State)(a:Act):Prop where
 size:s.sl.length=a.tmps.size
 bsz:s.bs.length=s.sl.length+1
 slots:∀(i:Nat) l v,s.sl[i]? =some l→a.tmps[i]? =some v→RepL X (.c i) l v
 boxes:∀(id:Nat) B,s.bs[id]? =some (some B)→∃r,X.β id=some r∧BoxAt X id r B
 live:∀(i:Nat) l id t p,s.sl[i]? =some l→SV.ptr id t p∈l→∃B,s.bs[id]? =some (some B)
 defers:a.defers=[]
theorem z7e{w:World}{g:Nat}{o:Obj}(h:w.heap[g]? =some o):g<w.heap.size:=(Array.getElem?_eq_some_iff.1 h).1
theorem RepL.impF{X Y:Cfg}{pl pl':Nat→List Nat→Place}{l:List SV}{v:Value}(hr:RepL X pl l v)(h:∀(j:Nat) s u,l[j]? =some s→RepV X (pl j) s u→RepV Y (pl' j) s u):RepL Y pl' l v:=by
 match l,hr with
 | [s],hr=>exact h 0 s v (by simp) hr
 | [],⟨vs,h1,h2,h3⟩=>exact⟨vs,h1,h2,fun j s u hs hu=>h j s u hs (h3 j s u hs hu)⟩
 |x::y::r,⟨vs,h1,h2,h3⟩=>exact⟨vs,h1,h2,fun j s u hs hu=>h j s u hs (h3 j s u hs hu)⟩
def Flag(s:State):Place→Prop
 | .c i j p=>∃l t x own,s.sl[i]? =some l∧l[j]? =some (.dat t x own)∧p∈own
 | .b id p=>∃B,s.bs[id]? =some (some B)∧p∈B.own
 | .r _ _=>False
structure Mod(s:State)(X Y:Cfg):Prop where
 sees:∀a v,X.sees a v→Y.sees a v
 size:X.w.heap.size≤Y.w.heap.size
 os:Y.w.os=X.w.os
 tape:Y.w.tape=X.w.tape
 output:Y.w.output=X.w.output
 β0:Y.β 0=X.β 0
 β:∀(id:Nat) B,s.bs[id]? =some (some B)→Y.β id=X.β id
 blk:∀g,g<X.w.heap.size→(Y.ow g=X.ow g∧Y.w.heap[g]? =X.w.heap[g]?)∨∃pl n,X.ow g= .row pl n∧¬Flag s pl
theorem Mod.ext{s:State}{X Y:Cfg}(h:Mod s X Y):Ext X Y:=
 ⟨h.sees,h.size,h.os,h.tape,h.output,h.β0,fun g hg hst=>by
   rcases h.blk g hg with e|⟨pl,n,h1,_⟩
   ·exact e
   ·rw[h1] at hst;exact hst.elim⟩
theorem Mod.refl(s:State)(X:Cfg):Mod s X X:=⟨fun _ _ h=>h,Nat.le_refl _,rfl,rfl,rfl,rfl,fun _ _ _=>rfl,fun _ _=> .inl ⟨rfl,rfl⟩⟩
theorem OwnAt.mod{s:State}{X Y:Cfg}(h:Mod s X Y){pl:Place}{e:TypeId}{k n:Nat}{v:Value}(hf:Flag s pl)(ho:OwnAt X pl e k n v):OwnAt Y pl e k n v:=by
 rcases ho with ho|⟨g,cap,cur,h1,h2,h3,h4,h5,h6⟩
 ·exact .inl ho
 ·rcases h.blk g (z7e h2) with⟨k1,k2⟩|⟨pl',n',k1,k2⟩
  ·exact .inr ⟨g,cap,cur,h1,k2.trans h2,h3,h4,h5,k1.trans h6⟩
  ·rw[h6] at k1;injection k1 with k1;rw[k1] at hf;exact absurd hf k2
theorem OwnP.mod{s:State}{X Y:Cfg}(h:Mod s X Y){pl:List Nat→Place}{t:Ty}{x:El t}{cs:List Value}{own:List (List Nat)}(hf:∀p∈own,Flag s (pl p))(ho:OwnP X pl t x cs own):OwnP Y pl t x cs own:=fun p hp=>by
 obtain⟨e,t',xs,v,g0,g1,g2,g3⟩:=ho p hp
 exact⟨e,t',xs,v,g0,g1,g2,g3.mod h (hf p hp)⟩
theorem RepV.mod{s:State}{X Y:Cfg}(h:Mod s X Y){pl:List Nat→Place}{sv:SV}{v:Value}(hf:∀t x own,sv= .dat t x own→∀p∈own,Flag s (pl p))(hl:∀id t p,sv= .ptr id t p→∃B,s.bs[id]? =some (some B))(hr:RepV X pl sv v):RepV Y pl sv v:=by
 cases sv with
 |undef=>trivial
 |skip=>exact hr
 |nilS=>exact hr
 |nilP=>exact hr
 |over=>exact hr
 |dat t x own=>
  obtain⟨cs,h1,h2,h3⟩:=hr
  exact⟨cs,h1.sees_mono h.sees,h2,h3.mod h (hf t x own rfl)⟩
 |ptr id t p=>
  obtain⟨r,h1,h2⟩:=hr
  obtain⟨B,hB⟩:=hl id t p rfl
  exact⟨r,(h.β id B hB).trans h1,h2⟩
 |view t x=>
  obtain⟨ad,cs,h1,h2,h3,h4⟩:=hr
  exact⟨ad,cs,h1,h2,h3.sees_mono h.sees,fun i u hi=>h.sees _ _ (h4 i u hi)⟩
 |cap f t x u y=>exact z38 h.sees hr
theorem Rel.mod{s:State}{X Y:Cfg}{a:Act}(hr:Rel X s a)(h:Mod s X Y):Rel Y s a where
 size:=hr.size
 bsz:=hr.bsz
 slots:=fun i l v hl hv=>(hr.slots i l v hl hv).impF fun j sv u hm hsv=>hsv.mod h (fun t x own e p hp=>⟨l,t,x,own,hl,e▸hm,hp⟩) (fun id t p e=>hr.live i l id t p hl (e▸List.mem_of_getElem? hm))
 boxes:=fun id B hB=>by
  obtain⟨r,h1,h4,h2⟩:=hr.boxes id B hB
  have hk:Y.ow r=X.ow r∧Y.w.heap[r]? =X.w.heap[r]? :=by
   rcases h.blk r h2.lt with hk|⟨pl',n',k1,k2⟩
   ·exact hk
   ·rw[h4] at k1;cases k1
  exact⟨r,(h.β id B hB).trans h1,hk.1.trans h4,h2.move h.sees hk.2 (fun cs h5=>h5.mod h fun p hp=>⟨B,hB,hp⟩) fun hm g o ho hw=>by
   rcases h.blk g (z7e ho) with e|⟨pl,n,e1,e2⟩
   ·exact⟨e.2.trans ho,e.1.trans hw⟩
   ·rw[hw] at e1;injection e1 with e1;exact absurd (e1▸(⟨B,hB,hm⟩:Flag s (.b id []))) e2⟩
 live:=hr.live
 defers:=hr.defers
structure Keep(s:State)(X Y:Cfg):Prop where
 size:X.w.heap.size≤Y.w.heap.size
 os:Y.w.os=X.w.os
 tape:Y.w.tape=X.w.tape
 output:Y.w.output=X.w.output
 blk:∀g,g<X.w.heap.size→Y.ow g=X.ow g∧Y.w.heap[g]? =X.w.heap[g]?
 β0:Y.β 0=X.β 0
 β:∀(id:Nat) B,s.bs[id]? =some (some B)→Y.β id=X.β id
theorem Keep.sees{s:State}{X Y:Cfg}(h:Keep s X Y){a:Addr}{v:Value}(hs:X.sees a v):Y.sees a v:=by
 have hlt:=Cfg.sees_lt hs
 obtain⟨h1,h2⟩:=h.blk _ hlt
 refine⟨hs.1,?_,?_⟩
 ·have:=hs.2.1
  simp only[World.cell?] at this⊢
  rw[h2];exact this
 ·rw[h1];exact hs.2.2
theorem Keep.mod{s:State}{X Y:Cfg}(h:Keep s X Y):Mod s X Y:=
 ⟨fun _ _=>h.sees,h.size,h.os,h.tape,h.output,h.β0,h.β,fun g hg=> .inl (h.blk g hg)⟩
theorem Keep.ext{s:State}{X Y:Cfg}(h:Keep s X Y):Ext X Y:=h.mod.ext
theorem OwnAt.keep{s:State}{X Y:Cfg}(h:Keep s X Y){pl:Place}{e:TypeId}{k n:Nat}{v:Value}(ho:OwnAt X pl e k n v):OwnAt Y pl e k n v:=by
 rcases ho with ho|⟨g,cap,cur,h1,h2,h3,h4,h5,h6⟩
 ·exact .inl ho
 ·obtain⟨k1,k2⟩:=h.blk g (z7e h2)
  exact .inr ⟨g,cap,cur,h1,k2.trans h2,h3,h4,h5,k1.trans h6⟩
theorem OwnP.keep{s:State}{X Y:Cfg}(h:Keep s X Y){pl:List Nat→Place}{t:Ty}{x:El t}{cs:List Value}{own:List (List Nat)}(ho:OwnP X pl t x cs own):OwnP Y pl t x cs own:=fun p hp=>by
 obtain⟨e,t',xs,v,g0,g1,g2,g3⟩:=ho p hp
 exact⟨e,t',xs,v,g0,g1,g2,g3.keep h⟩
theorem Rel.keep{s:State}{X Y:Cfg}{a:Act}(hr:Rel X s a)(h:Keep s X Y):Rel Y s a:=hr.mod h.mod
theorem Rel.put{X:Cfg}{s:State}{a:Act}(hr:Rel X s a){d:Option Nat}{l:List SV}{v:Value}(h:∀d',d=some d'→RepL X (.c d') l v)(hl:∀id t p,SV.ptr id t p∈l→∃B,s.bs[id]? =some (some B)):Rel X (s.putSlot d l) (a.put d v):=by
 cases d with
 |none=>exact hr
 |some d=>
  refine⟨by simpa [State.putSlot,Act.put] using hr.size,by simpa [State.putSlot] using hr.bsz,fun i l' v' hi hv=> ?_,hr.boxes,fun i l' id t p hi hm=> ?_,hr.defers⟩
  ·simp only[State.putSlot,List.getElem?_set] at hi
   simp only[Act.put,Array.getElem?_setIfInBounds] at hv
   by_cases e:d=i
   ·subst e
    simp only[if_true] at hi hv
    split at hi
    ·split at hv
     ·cases hi;cases hv;exact h d rfl
     ·cases hv
    ·cases hi
   ·rw[if_neg e] at hi hv
    exact hr.slots i l' v' hi hv
  ·simp only[State.putSlot,List.getElem?_set] at hi
   split at hi
   ·split at hi
    ·cases hi;exact hl id t p hm
    ·cases hi
   ·exact hr.live i l' id t p hi hm
theorem Rel.skip{X:Cfg}{s:State}{a:Act}(hr:Rel X s a)(d:Option Nat):Rel X (s.putSlot d [.skip]) (a.put d Go.undef):=
 hr.put (fun _ _=>rfl) (fun id t p h=>by simp at h)
structure Turn(s:State)(X Y:Cfg):Prop where
 w:Y.w=X.w
 β:Y.β=X.β
 ow:∀g,Y.ow g=X.ow g∨∃pl n q,X.ow g= .row pl n∧¬Flag s pl∧Y.ow g= .row q n
theorem Turn.sees{s:State}{X Y:Cfg}(h:Turn s X Y){a:Addr}{v:Value}:X.sees a v↔Y.sees a v:=by
 unfold Cfg.sees
 rw[h.w]
 rcases h.ow a.block with e|⟨pl,n,q,h1,_,h2⟩
 ·rw[e]
 ·rw[h1,h2];rfl
theorem Turn.mod{s:State}{X Y:Cfg}(h:Turn s X Y):Mod s X Y:=
 ⟨fun _ _=>h.sees.1,by rw[h.w];exact Nat.le_refl _,by rw[h.w],by rw[h.w],by rw[h.w],by rw[h.β],fun _ _ _=>by rw[h.β],fun g _=>by
   rcases h.ow g with e|⟨pl,n,q,h1,h2,_⟩
   ·exact .inl ⟨e,by rw[h.w]⟩
   ·exact .inr ⟨pl,n,h1,h2⟩⟩
theorem Turn.ext{s:State}{X Y:Cfg}(h:Turn s X Y):Ext X Y:=h.mod.ext
theorem Turn.refl(s:State)(X:Cfg):Turn s X X:=⟨rfl,rfl,fun _=> .inl rfl⟩
theorem zbf{v:SV}{id:Nat}{t:Ty}{p:List Nat}:v.shut= .ptr id t p→v= .ptr id t p:=by cases v<;>simp [SV.shut]
theorem RepV.shut{X:Cfg}{pl pl':List Nat→Place}{sv:SV}{v:Value}(hr:RepV X pl sv v):RepV X pl' sv.shut v:=by
 cases sv with
 |dat t x own=>
  obtain⟨cs,h1,h2,_⟩:=hr
  exact⟨cs,h1,h2,fun p hp=>by cases hp⟩
 |_=>exact hr
theorem zbm:∀(l:List SV) (j:Nat),(shutAt l j).length=l.length
 | [],_=>rfl
 |_::_,0=>rfl
 |_::r,j+1=>by simp [shutAt,zbm r j]
theorem z6y:∀(l:List SV) (j i:Nat),(shutAt l j)[i]? =if i=j then(l[i]?).map SV.shut else l[i]?
 | [],j,i=>by simp [shutAt]
 |v::r,0,0=>by simp [shutAt]
 |v::r,0,i+1=>by simp [shutAt]
 |v::r,j+1,0=>by simp [shutAt]
 |v::r,j+1,i+1=>by
  simp only[shutAt,List.getElem?_cons_succ,z6y r j i]
  simp
theorem RepL.shutAt{X:Cfg}{pl:Nat→List Nat→Place}{l:List SV}{v:Value}(hr:RepL X pl l v)(j:Nat):RepL X pl (shutAt l j) v:=by
 match l,hr with
 | [s],hr=>
   cases j with
   |zero=>exact hr.shut
   |succ j=>exact hr
 | [],hr=>exact hr
 |x::y::r,⟨vs,h1,h2,h3⟩=>
  have hlen:∃x' y' r',Ref.shutAt (x::y::r) j=x'::y'::r':=by
   match j with
   |0=>exact⟨_,_,_,rfl⟩
   |1=>exact⟨_,_,_,rfl⟩
   |j+2=>exact⟨_,_,_,rfl⟩
  obtain⟨x',y',r',he⟩:=hlen
  have hl:=zbm (x::y::r) j
  have hg:=z6y (x::y::r) j
  rw[he] at hl hg⊢
  refine⟨vs,h1,by rw[hl];exact h2,fun i s u hs hu=> ?_⟩
  rw[hg] at hs
  split at hs
  ·obtain⟨s0,hs0,rfl⟩:=Option.map_eq_some_iff.1 hs
   exact(h3 i s0 u hs0 hu).shut
  ·exact h3 i s u hs hu
theorem z13y{l:List SV}{j:Nat}{id:Nat}{t:Ty}{p:List Nat}(h:SV.ptr id t p∈shutAt l j):SV.ptr id t p∈l:=by
 obtain⟨i,hi⟩:=List.mem_iff_getElem?.1 h
 rw[z6y] at hi
 split at hi
 ·obtain⟨s0,hs0,he⟩:=Option.map_eq_some_iff.1 hi
  rw[zbf he] at hs0
  exact List.mem_of_getElem? hs0
 ·exact List.mem_of_getElem? hi
theorem z4l{s:State}{i:Nat}(h:i<s.sl.length):s.sl[i]? =some (s.slot i):=by
 simp [State.slot,List.getD_eq_getElem?_getD,List.getElem?_eq_getElem h]
def State.close1(s:State)(i j:Nat):State:={s with sl:=s.sl.set i (shutAt (s.slot i) j)}
theorem z4h{s:State}{i j:Nat}{r:List (Nat×Nat)}:s.close ((i,j)::r)=(s.close1 i j).close r:=rfl
theorem zek{r:List (Nat×Nat)}:∀(l:List (Nat×Nat)) (s:State),s.close (l++r)=(s.close l).close r
 | [],s=>rfl
 |(i,j)::l,s=>by
  rw[List.cons_append,z4h,z4h]
  exact zek l _
theorem Rel.close1{X:Cfg}{s:State}{a:Act}(hr:Rel X s a)(i j:Nat):Rel X (s.close1 i j) a:=by
 refine⟨by simpa [State.close1] using hr.size,by simpa [State.close1] using hr.bsz,fun k l v hl hv=> ?_,hr.boxes,fun k l id t p hl hm=> ?_,hr.defers⟩
 ·simp only[State.close1,List.getElem?_set] at hl
  split at hl
  ·rename_i e
   subst e
   split at hl
   ·rename_i hlt
    cases hl
    exact(hr.slots i _ v (z4l hlt) hv).shutAt j
   ·cases hl
  ·exact hr.slots k l v hl hv
 ·simp only[State.close1,List.getElem?_set] at hl
  split at hl
  ·rename_i e
   subst e
   split at hl
   ·rename_i hlt
    cases hl
    exact hr.live i _ id t p (z4l hlt) (z13y hm)
   ·cases hl
  ·exact hr.live k l id t p hl hm
theorem Rel.close{X:Cfg}{a:Act}:∀(c:List (Nat×Nat)) {s:State},Rel X s a→Rel X (s.close c) a
 | [],s,hr=>hr
 |(i,j)::r,s,hr=>Rel.close r (hr.close1 i j)
theorem z3o:∀{c:List (Nat×Nat)} {s:State},(s.close c).bs=s.bs
 | [],s=>rfl
 |(i,j)::r,s=>(z3o (c:=r) (s:=s.close1 i j))
theorem z6f:∀{c:List (Nat×Nat)} {s:State},(s.close c).sl.length=s.sl.length
 | [],s=>rfl
 |(i,j)::r,s=>by rw[z4h,z6f (c:=r)];simp [State.close1]
theorem Flag.of_close1{s:State}{i j:Nat}{pl:Place}(h:Flag (s.close1 i j) pl):Flag s pl∧∀p,pl≠ .c i j p:=by
 cases pl with
 |r j p=>exact h.elim
 |b id p=>exact⟨h,fun p=>by simp⟩
 |c i' j' p=>
  obtain⟨l,t,x,own,hl,hx,hp⟩:=h
  simp only[State.close1,List.getElem?_set] at hl
  split at hl
  ·rename_i e
   subst e
   split at hl
   ·rename_i hlt
    cases hl
    rw[z6y] at hx
    split at hx
    ·obtain⟨s0,_,he⟩:=Option.map_eq_some_iff.1 hx
     cases s0<;>simp [SV.shut] at he
     obtain⟨rfl,_,rfl⟩:=he
     cases hp
    ·rename_i hne
     exact⟨⟨_,t,x,own,z4l hlt,hx,hp⟩,fun q e=>by cases e;exact hne rfl⟩
   ·cases hl
  ·rename_i hne
   exact⟨⟨l,t,x,own,hl,hx,hp⟩,fun q e=>by cases e;exact hne rfl⟩
theorem Flag.of_close{pl:Place}:∀{c:List (Nat×Nat)} {s:State},Flag (s.close c) pl→Flag s pl∧∀i j,(i,j)∈c→∀p,pl≠ .c i j p
 | [],s,h=>⟨h,fun i j hm=>by cases hm⟩
 |(i,j)::r,s,h=>by
  obtain⟨h1,h2⟩:=Flag.of_close (c:=r) (s:=s.close1 i j) h
  obtain⟨h3,h4⟩:=Flag.of_close1 h1
  refine⟨h3,fun i' j' hm p=> ?_⟩
  rcases List.mem_cons.1 hm with e|hm
  ·cases e;exact h4 p
  ·exact h2 i' j' hm p
theorem Flag.close{s:State}{i j:Nat}{p:List Nat}:¬Flag (s.close [(i,j)]) (.c i j p):=fun h=>(Flag.of_close h).2 i j (by simp) p rfl
def Cfg.turn(X:Cfg)(i j:Nat)(q:List Nat→Place):Cfg:=
 {X with ow:=fun g=>match X.ow g with
  | .row (.c i' j' p) n=>if i'=i∧j'=j then .row (q p) n else .row (.c i' j' p) n
  |w=>w}
theorem zwu{s:State}{X:Cfg}{i j:Nat}{q:List Nat→Place}(h:∀p,¬Flag s (.c i j p)):Turn s X (X.turn i j q):=by
 refine⟨rfl,rfl,fun g=> ?_⟩
 simp only[Cfg.turn]
 cases hg:X.ow g with
 |row pl n=>
  cases pl with
  |c i' j' p=>
   by_cases e:i'=i∧j'=j
   ·obtain⟨rfl,rfl⟩:=e
    exact .inr ⟨_,n,q p,rfl,h p,by simp⟩
   ·exact .inl (by simp [e])
  |_=>exact .inl rfl
 |_=>exact .inl rfl
theorem OwnAt.turned{X:Cfg}{i j:Nat}{q:List Nat→Place}{p:List Nat}{e:TypeId}{k n:Nat}{v:Value}(h:OwnAt X (.c i j p) e k n v):OwnAt (X.turn i j q) (q p) e k n v:=by
 rcases h with h|⟨g,cap,cur,h1,h2,h3,h4,h5,h6⟩
 ·exact .inl h
 ·exact .inr ⟨g,cap,cur,h1,h2,h3,h4,h5,by simp [Cfg.turn,h6]⟩
theorem OwnP.turned{X:Cfg}{i j:Nat}{q:List Nat→Place}{t:Ty}{x:El t}{cs:List Value}{own:List (List Nat)}(h:OwnP X (.c i j) t x cs own):OwnP (X.turn i j q) q t x cs own:=fun p hp=>by
 obtain⟨e,t',xs,v,g0,g1,g2,g3⟩:=h p hp
 exact⟨e,t',xs,v,g0,g1,g2,g3.turned⟩
def Stay(X Y:Cfg):Prop:=Y.w=X.w∧∀g pl n,X.ow g= .row pl n→(∀i j p,pl≠ .c i j p)→Y.ow g= .row pl n
theorem z1a7{X:Cfg}{i j:Nat}{q:List Nat→Place}:Stay X (X.turn i j q):=⟨rfl,fun g pl n h hp=>by
 simp only[Cfg.turn,h]
 cases pl with
 |c i' j' p=>exact absurd rfl (hp i' j' p)
 |_=>rfl⟩
theorem Stay.refl(X:Cfg):Stay X X:=⟨rfl,fun _ _ _ h _=>h⟩
theorem OwnP.stay{X Y:Cfg}(h:Stay X Y){pl:List Nat→Place}(hp:∀r i j p,pl r≠ .c i j p){t:Ty}{x:El t}{cs:List Value}{own:List (List Nat)}(ho:OwnP X pl t x cs own):OwnP Y pl t x cs own:=fun p hm=>by
 obtain⟨e,t',xs,v,g0,g1,g2,g3⟩:=ho p hm
 refine⟨e,t',xs,v,g0,g1,g2,?_⟩
 rcases g3 with h0|⟨g,cap,cur,h1,h2,h3,h4,h5,h6⟩
 ·exact .inl h0
 ·exact .inr ⟨g,cap,cur,h1,by rw[h.1];exact h2,h3,h4,h5,h.2 g _ _ h6 (hp p)⟩
theorem Rel.take{X:Cfg}{s:State}{a:Act}(hr:Rel X s a){i j:Nat}{t:Ty}{x:El t}{w:List (List Nat)}{v:Value}(h:RepV X (.c i j) (.dat t x w) v)(q:List Nat→Place):
 ∃Y,Y.w=X.w∧Ext X Y∧Rel Y (s.close [(i,j)]) a∧RepV Y q (.dat t x w) v∧Y.β=X.β∧Turn (s.close [(i,j)]) X Y∧Stay X Y:=by
 obtain⟨cs,h1,h2,h3⟩:=h
 have hT:Turn (s.close [(i,j)]) X (X.turn i j q):=zwu fun p=>Flag.close
 exact⟨X.turn i j q,rfl,hT.ext,(hr.close _).mod hT.mod,⟨cs,h1.sees_mono (fun _ _=>hT.sees.1),h2,h3.turned⟩,rfl,hT,z1a7⟩
def Cfg.turnAll(X:Cfg)(i d:Nat):Cfg:=
 {X with ow:=fun g=>match X.ow g with
  | .row (.c i' j' p) n=>if i'=i then .row (.c d j' p) n else .row (.c i' j' p) n
  |w=>w}
theorem zws(t:Nat):∀(n j:Nat),j<n→(t,j)∈tupCl t n
 |0,j,h=>absurd h (Nat.not_lt_zero j)
 |n+1,j,h=>by
  rcases Nat.lt_or_ge j n with h1|h1
  ·exact List.mem_cons_of_mem _ (zws t n j h1)
  ·have:j=n:=by omega
   subst this
   simp [tupCl]
theorem Flag.closeAll{s:State}{t j:Nat}{p:List Nat}:¬Flag (s.close (tupCl t (s.slot t).length)) (.c t j p):=fun h=>by
 obtain⟨h1,h2⟩:=Flag.of_close h
 obtain⟨l,ty,x,own,g1,g2,g3⟩:=h1
 have hl:s.slot t=l:=by simp [State.slot,g1]
 have hj:j<l.length:=(List.getElem?_eq_some_iff.1 g2).1
 exact h2 t j (zws t _ j (by rw[hl];exact hj)) p rfl
theorem z10f{s:State}{X:Cfg}{i d:Nat}(h:∀j p,¬Flag s (.c i j p)):Turn s X (X.turnAll i d):=by
 refine⟨rfl,rfl,fun g=> ?_⟩
 simp only[Cfg.turnAll]
 cases hg:X.ow g with
 |row pl n=>
  cases pl with
  |c i' j' p=>
   by_cases e:i'=i
   ·subst e
    exact .inr ⟨_,n,.c d j' p,rfl,h j' p,by simp⟩
   ·exact .inl (by simp [e])
  |_=>exact .inl rfl
 |_=>exact .inl rfl
theorem OwnAt.turnedAll{X:Cfg}{i d j:Nat}{p:List Nat}{e:TypeId}{k n:Nat}{v:Value}(h:OwnAt X (.c i j p) e k n v):OwnAt (X.turnAll i d) (.c d j p) e k n v:=by
 rcases h with h|⟨g,cap,cur,h1,h2,h3,h4,h5,h6⟩
 ·exact .inl h
 ·exact .inr ⟨g,cap,cur,h1,h2,h3,h4,h5,by simp [Cfg.turnAll,h6]⟩
theorem RepV.turnedAll{s:State}{X:Cfg}{i d j:Nat}{sv:SV}{v:Value}(hT:Turn s X (X.turnAll i d))(h:RepV X (.c i j) sv v):RepV (X.turnAll i d) (.c d j) sv v:=by
 cases sv with
 |dat t x own=>
  obtain⟨cs,h1,h2,h3⟩:=h
  refine⟨cs,h1.sees_mono (fun _ _=>hT.sees.1),h2,fun p hp=> ?_⟩
  obtain⟨e,t',xs,v,g0,g1,g2,g3⟩:=h3 p hp
  exact⟨e,t',xs,v,g0,g1,g2,g3.turnedAll⟩
 |view t x=>
  obtain⟨ad,cs,h1,h2,h3,h4⟩:=h
  exact⟨ad,cs,h1,h2,h3.sees_mono (fun _ _=>hT.sees.1),fun i u hi=>hT.sees.1 (h4 i u hi)⟩
 |cap f t x u y=>exact z38 (fun _ _=>hT.sees.1) h
 |_=>exact h
theorem Rel.takeAll{X:Cfg}{s:State}{a:Act}(hr:Rel X s a){t:Nat}{v:Value}(h:RepL X (.c t) (s.slot t) v)(d:Nat):
 ∃Y,Y.w=X.w∧Ext X Y∧Rel Y (s.close (tupCl t (s.slot t).length)) a∧RepL Y (.c d) (s.slot t) v:=by
 have hT:Turn (s.close (tupCl t (s.slot t).length)) X (X.turnAll t d):=z10f fun j p=>Flag.closeAll
 exact⟨X.turnAll t d,rfl,hT.ext,(hr.close _).mod hT.mod,h.impF fun j sv u hj hu=>hu.turnedAll hT⟩
end Go.Ref

namespace Go.Ref
open Go
def zq:Ty→List Value
 | .bool=>[.bool false]
 | .int k=>[.int k 0]
 | .str=>[.string ⟨#[]⟩]
 | .sl _ _=>[.slice none 0 0]
 | .arr n t=>(List.replicate n (zq t)).flatten
 | .unit=>[]
 | .pair a b=>zq a++zq b
 | .spc _ _ _=>[]
def z1d(E:Env):List Field→Ty→Nat→Prop
 | [],.unit,_=>True
 |f::r,.pair a b,off=>f.offset=off∧E.ty f.type=some a∧f.name≠ "_" ∧z1d E r b (off+a.cells)
 |_,_,_=>False
def z173(P:Program)(E:Env)(T:TypeId):Ty→Prop
 | .bool=>P.underlying T=some .bool
 | .int k=>P.underlying T=some (.int k)
 | .str=>P.underlying T=some .string
 | .sl e t=>P.underlying T=some (.slice e)∧E.ty e=some t
 | .arr n t=>∃e,P.underlying T=some (.array n e)∧E.ty e=some t∧P.eqGuardType P.depth T=false
 | .spc _ _ _=>False
 |t=>∃fs,P.underlying T=some (.struct fs)∧z1d E fs.toList t 0∧P.stoodInHeld T=false∧P.eqGuardType P.depth T=false
structure TyFits(P:Program)(E:Env)(T:TypeId)(t:Ty):Prop where
 info:∃i,P.info? T=some i∧i.size=t.cells∧i.bytes=E.bytes T∧i.zero=some (mkv t (zq t))
 und:z173 P E T t
structure EnvOk(P:Program)(E:Env):Prop where
 ty:∀T t,E.ty T=some t→TyFits P E T t
 pt:∀T,E.pt T=true→∃e,P.underlying T=some (.pointer e)
 mp:∀T k e,E.mp T=some (k,e)→P.underlying T=some (.map k e)
 bl:∀T e,E.bl T=some e→∃i,P.info? T=some i∧i.zero=some (.agg #[.pointer none,.slice none 0 0])
theorem EnvOk.notSpc{P:Program}{E:Env}(hE:EnvOk P E){T:TypeId}{t:Ty}(h:E.ty T=some t):t.isSpc=false:=by
 have:=(hE.ty T t h).und
 cases t<;>first|rfl|exact this.elim
theorem z2c:∀t:Ty,(zq t).length=t.cells
 | .bool=>rfl
 | .int _=>rfl
 | .str=>rfl
 | .sl _ _=>rfl
 | .unit=>rfl
 | .arr n t=>by simp [zq,Ty.cells,z2c t]
 | .pair a b=>by simp [zq,Ty.cells,z2c a,z2c b]
 | .spc _ _ _=>rfl
theorem z7y{l:List Value}{k:Nat}(hl:l.length=k):∀(n j:Nat),j<n→(((List.replicate n l).flatten).drop (j*k)).take k=l
 |0,j,h=>by omega
 |n+1,0,_=>by
  simp only[List.replicate_succ,List.flatten_cons,Nat.zero_mul,List.drop_zero]
  rw[←hl];exact List.take_left
 |n+1,j+1,h=>by
  simp only[List.replicate_succ,List.flatten_cons]
  rw[Nat.add_mul,Nat.one_mul,Nat.add_comm,←List.drop_drop]
  rw[show List.drop k (l++(List.replicate n l).flatten)=(List.replicate n l).flatten by rw[←hl];exact List.drop_left]
  exact z7y hl n j (by omega)
theorem z2x(X:Cfg):∀t:Ty,Rep X t (El.dflt t) (zq t)
 | .bool=>rfl
 | .int _=>rfl
 | .str=>rfl
 | .unit=>rfl
 | .sl _ t=>⟨none,0,rfl,Nat.le_refl _,fun j x h=>by simp [El.dflt] at h⟩
 | .arr n t=>by
   refine⟨by simp [El.dflt],by simp [zq,z2c],fun j x h=> ?_⟩
   have hj:j<n:=by
    have:=(List.getElem?_eq_some_iff.1 h).1
    simpa [El.dflt] using this
   have hx:x=El.dflt t:=by
    simp only[El.dflt,List.getElem?_replicate] at h
    rw[if_pos hj] at h
    exact(Option.some.inj h).symm
   subst hx
   have:=z7y (z2c t) n j hj
   simp only[zq]
   rw[this]
   exact z2x X t
 | .pair a b=>⟨zq a,zq b,rfl,z2x X a,z2x X b⟩
 | .spc _ _ _=>rfl
theorem zaj{t:Ty}{c:Value}(h:t.agg=false):mkv t [c]=c:=by simp [mkv,h]
theorem z19{t:Ty}{cs:List Value}(h:t.agg=true):mkv t cs= .agg cs.toArray:=by simp [mkv,h]
theorem z33{t:Ty}{X:Cfg}{x:El t}{cs:List Value}(h:Rep X t x cs):(mkv t cs).cells=cs.toArray:=by
 cases ht:t.agg with
 |true=>rw[z19 ht];rfl
 |false=>
  have hl:=h.len
  have h1:=h.one
  have hc:t.cells=1:=by cases t<;>simp_all [Ty.agg,Ty.cells]
  rw[hc] at hl
  match cs,hl with
  | [c],_=>
    rw[zaj ht]
    have:=h1 c (by simp)
    cases c<;>simp_all [Value.oneCell',Value.cells]
theorem zx{R:Type}{s:SV}{u:Ty}{K:El u→Option R}{z:R}(h:s.el u K=some z):
 ∃y,K y=some z∧∀(X:Cfg) pl v,RepV X pl s v→∃cs,Rep X u y cs∧v=mkv u cs:=by
 cases s with
 |dat t x own=>
  simp only[SV.el] at h
  split at h
  ·rename_i he
   have e:=Ty.eqb_eq he
   subst e
   exact⟨x,h,fun X pl v hv=>by obtain⟨cs,h1,h2,_⟩:=hv;exact⟨cs,h1,h2⟩⟩
  ·cases h
 |nilS=>
  cases u<;>simp only[SV.el] at h<;>first|cases h|skip
  rename_i e t
  refine⟨[],h,fun X pl v hv=>⟨[.slice none 0 0],⟨none,0,rfl,Nat.le_refl _,fun j x hj=>by simp at hj⟩,hv⟩⟩
 |_=>simp [SV.el] at h
theorem z1l{X:Cfg}{k:IntKind}{n:Int}{cs:List Value}(h:Rep X (.int k) n cs):mkv (.int k) cs= .int k n:=by cases h;rfl
theorem z3d{X:Cfg}{b:Bool}{cs:List Value}(h:Rep X .bool b cs):mkv .bool cs= .bool b:=by cases h;rfl
theorem z25{X:Cfg}{s:ByteArray}{cs:List Value}(h:Rep X .str s cs):mkv .str cs= .string s:=by cases h;rfl
theorem z1n{X:Cfg}{pl:List Nat→Place}{t:Ty}{x:El t}{cs:List Value}:OwnP X pl t x cs []:=fun p hp=>by cases hp
theorem zz{X:Cfg}{pl:List Nat→Place}{k:IntKind}{n:Int}:RepV X pl (.dat (.int k) n []) (.int k n):=⟨[.int k n],rfl,rfl,z1n⟩
theorem z1e{X:Cfg}{pl:List Nat→Place}{b:Bool}:RepV X pl (.dat .bool b []) (.bool b):=⟨[.bool b],rfl,rfl,z1n⟩
theorem z45{X:Cfg}{pl:List Nat→Place}{s:ByteArray}:RepV X pl (.dat .str s []) (.string s):=⟨[.string s],rfl,rfl,z1n⟩
theorem z2f{X:Cfg}{pl:List Nat→Place}{k:IntKind}{n:Int}{o:List (List Nat)}{v:Value}(h:RepV X pl (.dat (.int k) n o) v):v= .int k n:=by
 obtain⟨cs,h1,h2,_⟩:=h
 rw[h2,z1l h1]
theorem z3t{X:Cfg}{pl:List Nat→Place}{b:Bool}{o:List (List Nat)}{v:Value}(h:RepV X pl (.dat .bool b o) v):v= .bool b:=by
 obtain⟨cs,h1,h2,_⟩:=h
 rw[h2,z3d h1]
theorem zfh{X:Cfg}{pl:List Nat→Place}{s:ByteArray}{o:List (List Nat)}{v:Value}(h:RepV X pl (.dat .str s o) v):v= .string s:=by
 obtain⟨cs,h1,h2,_⟩:=h
 rw[h2,z25 h1]
def plOf:Operand→List Nat→Place
 | .tmp t=> .c t 0
 |_=> .r 0
theorem z10v(X:Cfg)(pl:List Nat→Place)(v:Value):RepV X pl (z56 v) v:=by
 unfold z56
 split
 ·exact z1e
 ·exact zz
 ·exact z45
 ·rfl
 ·rfl
 ·trivial
theorem Rel.slot{X:Cfg}{s:State}{a:Act}(hr:Rel X s a)(t:Nat):RepL X (.c t) (s.slot t) (a.tmps.getD t Go.undef):=by
 by_cases h:t<s.sl.length
 ·refine hr.slots t _ _ (z4l h) ?_
  have:=hr.size
  simp [Array.getElem?_eq_getElem (show t<a.tmps.size by omega)]
 ·have:s.slot t=[.undef]:=by simp [State.slot,List.getElem?_eq_none (show s.sl.length≤t by omega)]
  rw[this]
  trivial
theorem Rel.op1{X:Cfg}{s:State}{a:Act}(hr:Rel X s a)(x:Operand):RepV X (plOf x) (s.op1 x) (a.eval x):=by
 cases x with
 |tmp t=>
  have h:=hr.slot t
  unfold State.op1 State.opd
  simp only[plOf,Act.eval]
  match hl:s.slot t with
  | []=>trivial
  | [sv]=>rw[hl] at h;exact h
  |_::_::_=>trivial
 |const v=>exact z10v X _ v
 |_=>trivial
theorem z59{X:Cfg}{s:State}{a:Act}(hr:Rel X s a){x:Operand}{id:Nat}{t:Ty}{p:List Nat}(h:s.op1 x= .ptr id t p):∃B,s.bs[id]? =some (some B):=by
 cases x with
 |tmp i=>
  unfold State.op1 State.opd at h
  simp only at h
  by_cases hi:i<s.sl.length
  ·refine hr.live i _ id t p (z4l hi) ?_
   match hl:s.slot i,h with
   | [sv],h=>have:sv= .ptr id t p:=h;simp [this]
   | [],h=>simp [one] at h
   |_::_::_,h=>simp [one] at h
  ·have:s.slot i=[.undef]:=by simp [State.slot,List.getElem?_eq_none (Nat.le_of_not_lt hi)]
   rw[this] at h
   simp [one] at h
 |const v=>unfold State.op1 State.opd z56 at h;simp only[one] at h;split at h<;>simp at h
 |_=>simp [State.op1,State.opd,one] at h
theorem Rel.fin{Y:Cfg}{s:State}{a:Act}(hr:Rel Y s a){dst:Option Nat}{l:List SV}{v:Value}(h:RepL Y (.c (dst.getD 0)) l v)(hl:∀id t p,SV.ptr id t p∈l→∃B,s.bs[id]? =some (some B)):Rel Y (s.putSlot dst l) (a.put dst v):=
 hr.put (fun d' e=>by subst e;exact h) hl
def Done(P:Program)(X:Cfg)(s:State)(a:Act)(o:Oper)(u:Out):Prop:=
 ∃Y v,((execOp a.eval o).run P X.w= .ok (.value v) Y.w∨((execOp a.eval o).run P X.w= .ok .skip Y.w∧v=Go.undef))∧Ext X Y∧Rel Y (s.apply o.dst u) (a.put o.dst v)
theorem Done.plain{P:Program}{X:Cfg}{s:State}{a:Act}{o:Oper}(hr:Rel X s a){sv:SV}{v:Value}
 (h:(execOp a.eval o).run P X.w= .ok (.value v) X.w) (hv:RepV X (.c (o.dst.getD 0) 0) sv v) (hl:∀id t p,sv= .ptr id t p→∃B,s.bs[id]? =some (some B)):Done P X s a o {v:=[sv]}:=
 ⟨X,v,.inl h,Ext.refl X,hr.fin hv (fun id t p hm=>hl id t p (by have h':=hm;simp at h';exact h'.symm))⟩
theorem Done.moved{P:Program}{X:Cfg}{s:State}{a:Act}{o:Oper}(hr:Rel X s a){i j:Nat}{t:Ty}{x:El t}{w:List (List Nat)}{v:Value}
 (h:(execOp a.eval o).run P X.w= .ok (.value v) X.w) (hv:RepV X (.c i j) (.dat t x w) v):Done P X s a o {v:=[.dat t x w],cl:=[(i,j)]}:=by
 obtain⟨Y,h1,h2,h3,h4,_,_,_⟩:=hr.take hv (.c (o.dst.getD 0) 0)
 refine⟨Y,v,.inl (by rw[h1];exact h),h2,?_⟩
 exact h3.fin h4 (fun id t p hm=>by simp at hm)
end Go.Ref

namespace Go.Ref
open Go
variable {P:Program} {E:Env} {X:Cfg} {s:State} {a:Act} {o:Oper} {u:Out}
def Plain:SV→Prop
 | .dat _ _ (_::_)=>False
 |_=>True
theorem RepV.place{pl pl':List Nat→Place}{sv:SV}{v:Value}(h:RepV X pl sv v)(hp:Plain sv):RepV X pl' sv v:=by
 cases sv with
 |dat t x w=>
  cases w with
  |nil=>
   obtain⟨cs,h1,h2,_⟩:=h
   exact⟨cs,h1,h2,z1n⟩
  |cons p w=>exact hp.elim
 |_=>exact h
theorem RepV.bare{pl pl':List Nat→Place}{t:Ty}{x:El t}{w:List (List Nat)}{v:Value}(h:RepV X pl (.dat t x w) v):RepV X pl' (.dat t x []) v:=by
 obtain⟨cs,h1,h2,_⟩:=h
 exact⟨cs,h1,h2,z1n⟩
theorem zen{v:Value}{t:Ty}{y:El t}{w:List (List Nat)}(h:z56 v= .dat t y w):w=[]:=by
 unfold z56 at h
 split at h<;>simp at h
 ·obtain⟨rfl,_,rfl⟩:=h;rfl
 ·obtain⟨rfl,_,rfl⟩:=h;rfl
 ·obtain⟨rfl,_,rfl⟩:=h;rfl
theorem z1ht{x:Operand}{t:Ty}{y:El t}{w:List (List Nat)}(h:s.op1 x= .dat t y w)(hw:w≠ []):∃i,x= .tmp i:=by
 cases x with
 |tmp i=>exact⟨i,rfl⟩
 |const v=>exact absurd (zen h) hw
 |_=>simp [State.op1,State.opd,one] at h
theorem zwg(hr:Rel X s a){x:Operand}(h:(execOp a.eval o).run P X.w= .ok (.value (a.eval x)) X.w)(hp:Plain (s.op1 x)):Done P X s a o {v:=[s.op1 x]}:=
 Done.plain hr h ((hr.op1 x).place hp) (fun id t p e=>z59 hr e)
theorem zvf(hr:Rel X s a){x:Operand}{t:Ty}{y:El t}{w:List (List Nat)}(hrun:(execOp a.eval o).run P X.w= .ok (.value (a.eval x)) X.w)(e:s.op1 x= .dat t y w):Done P X s a o {v:=[.dat t y w],cl:=z4g w x}:=by
 have hop:=hr.op1 x
 rw[e] at hop
 cases hw:w with
 |nil=>
  subst hw
  exact Done.plain hr hrun hop.bare (fun _ _ _ h=>by cases h)
 |cons p w'=>
 rw[←hw]
 have hcl:z4g w x=src x:=by rw[hw];rfl
 rw[hcl]
 clear hw
 cases x with
 |tmp i=>exact Done.moved hr hrun hop
 |const v=>
  have hw:=zen (show z56 v= .dat t y w from e)
  subst hw
  exact Done.plain hr hrun hop.bare (fun _ _ _ h=>by cases h)
 |_=>simp [State.op1,State.opd,one] at e
theorem zzp(hr:Rel X s a){T:TypeId}{v:Value}{pl:List Nat→Place}(hrun:(execOp a.eval o).run P X.w= .ok (.value v) X.w)(hv:RepV X pl .nilS v)(h:nilV E T some=some u):Done P X s a o u:=by
 unfold nilV at h
 split at h
 ·cases h
  refine Done.plain hr hrun ⟨[.slice none 0 0],⟨none,0,rfl,Nat.le_refl _,fun j x hj=>by simp at hj⟩,hv,fun p hp=> ?_⟩ (fun _ _ _ e=>by cases e)
  rename_i e t _
  have hp:p=[]:=by simpa using hp
  subst hp
  exact⟨e,t,[],_,by simp [Ty.inb],rfl,rfl,.inl ⟨rfl,rfl⟩⟩
 ·cases h
  exact Done.plain hr hrun hv (fun _ _ _ e=>by cases e)
theorem RepV.shuts{pl pl':List Nat→Place}{sv:SV}{v:Value}(hr:RepV X pl sv v):RepV X pl' sv.shut v:=by
 cases sv with
 |dat t x own=>
  obtain⟨cs,h1,h2,_⟩:=hr
  exact⟨cs,h1,h2,z1n⟩
 |_=>exact hr
theorem RepL.shuts{pl pl':Nat→List Nat→Place}{l:List SV}{v:Value}(hr:RepL X pl l v):RepL X pl' (l.map SV.shut) v:=by
 match l,hr with
 | [s],hr=>exact RepV.shuts hr
 | [],⟨vs,h1,h2,h3⟩=>exact⟨vs,h1,h2,fun j s u hs=>by simp at hs⟩
 |x::y::r,⟨vs,h1,h2,h3⟩=>
  refine⟨vs,h1,by simpa using h2,fun j s u hs hu=> ?_⟩
  have hs:((x::y::r).map SV.shut)[j]? =some s:=hs
  rw[List.getElem?_map] at hs
  obtain⟨s0,hs0,rfl⟩:=Option.map_eq_some_iff.1 hs
  exact RepV.shuts (h3 j s0 u hs0 hu)
theorem z18b(hr:Rel X s a){ops:List Oper}{x:Operand}(ho:o.op= .move x){C:FuncId→Fun' Out}(h:act E C ops o s some=some u):Done P X s a o u:=by
 have hrun:(execOp a.eval o).run P X.w= .ok (.value (a.eval x)) X.w:=by simp [execOp,ho]
 unfold act at h
 simp only[ho] at h
 have hop:=hr.op1 x
 cases ht:tupOf s x with
 |some tl=>
  obtain⟨t,l⟩:=tl
  rw[ht] at h
  cases x with
  |tmp i=>
   change(bif Nat.beq (s.slot i).length 1 then none else some (i,s.slot i))=some (t,l) at ht
   cases hb:Nat.beq (s.slot i).length 1 with
   |true=>rw[hb] at ht;cases ht
   |false=>
    rw[hb] at ht
    cases ht
    have hlive:∀id ty p,SV.ptr id ty p∈s.slot t→∃B,s.bs[id]? =some (some B):=fun id ty p hm=>by
     by_cases hlt:t<s.sl.length
     ·exact hr.live t _ id _ p (z4l hlt) hm
     ·have:s.slot t=[.undef]:=by simp [State.slot,List.getElem?_eq_none (Nat.le_of_not_lt hlt)]
      rw[this] at hm
      simp at hm
    cases hsh:Go.Ref.shuts E o.dst with
    |true=>
     rw[hsh] at h
     cases h
     refine⟨X,_,.inl hrun,Ext.refl X,?_⟩
     refine Rel.fin hr (RepL.shuts (hr.slot t)) (fun id ty p hm=> ?_)
     obtain⟨s0,hs0,he⟩:=List.mem_map.1 hm
     rw[zbf he] at hs0
     exact hlive id ty p hs0
    |false=>
    rw[hsh] at h
    cases h
    cases hown:(s.slot t).all fun v=>v.own.isEmpty with
    |true=>
     refine⟨X,_,.inl hrun,Ext.refl X,?_⟩
     refine Rel.fin hr ((hr.slot t).impF fun j sv u hj hu=> ?_) (fun id ty p hm=> ?_)
     ·have:=List.all_eq_true.1 hown sv (List.mem_of_getElem? hj)
      refine hu.place ?_
      cases sv with
      |dat ty y w=>
       cases w with
       |nil=>trivial
       |cons p w=>simp [SV.own] at this
      |_=>trivial
     ·by_cases hlt:t<s.sl.length
      ·exact hr.live t _ id _ p (z4l hlt) hm
      ·have:s.slot t=[.undef]:=by simp [State.slot,List.getElem?_eq_none (Nat.le_of_not_lt hlt)]
       rw[this] at hm
       simp at hm
    |false=>
    obtain⟨Y,h1,h2,h3,h4⟩:=hr.takeAll (hr.slot t) (o.dst.getD 0)
    refine⟨Y,_,.inl (by rw[h1];exact hrun),h2,?_⟩
    refine h3.fin h4 (fun id ty p hm=> ?_)
    by_cases hlt:t<s.sl.length
    ·obtain⟨B,hB⟩:=hr.live t _ id _ p (z4l hlt) hm
     exact⟨B,by rw[z3o];exact hB⟩
    ·have:s.slot t=[.undef]:=by simp [State.slot,List.getElem?_eq_none (Nat.le_of_not_lt hlt)]
     rw[this] at hm
     simp at hm
  |_=>cases ht
 |none=>
 rw[ht] at h
 simp only at h
 split at h
 ·rename_i t y w e
  rw[e] at hop
  cases hb:(zp8 ops o.dst||takes E o.dst) with
  |true=>
   rw[hb] at h
   cases h
   exact zvf hr hrun e
  |false=>
   rw[hb] at h
   cases h
   exact Done.plain hr hrun hop.bare (fun _ _ _ h=>by cases h)
 ·cases h
 ·rename_i e
  rw[e] at hop
  exact zzp hr hrun hop h
 ·rename_i h1 h2 h3
  cases h
  refine zwg hr hrun ?_
  cases hx:s.op1 x with
  |dat t y w=>exact absurd hx (h1 t y w)
  |_=>trivial
theorem z10z(hr:Rel X s a){ops:List Oper}{x:Operand}(ho:o.op= .assign x){C:FuncId→Fun' Out}(h:act E C ops o s some=some u):Done P X s a o u:=by
 have hrun:(execOp a.eval o).run P X.w= .ok (.value (a.eval x)) X.w:=by simp [execOp,ho]
 unfold act at h
 simp only[ho] at h
 have hop:=hr.op1 x
 split at h
 ·rename_i t y w e
  rw[e] at hop
  cases h
  exact zvf hr hrun e
 ·cases h
 ·rename_i e
  rw[e] at hop
  exact zzp hr hrun hop h
 ·rename_i h1 h2 h3
  cases h
  refine zwg hr hrun ?_
  cases hx:s.op1 x with
  |dat t y w=>exact absurd hx (h1 t y w)
  |_=>trivial
theorem z18d(hr:Rel X s a){ops:List Oper}{c x y:Operand}(ho:o.op= .pick c x y){C:FuncId→Fun' Out}(h:act E C ops o s some=some u):Done P X s a o u:=by
 unfold act at h
 simp only[ho] at h
 have hc:=hr.op1 c
 split at h
 ·rename_i p w e
  rw[e] at hc
  have hv:=z3t hc
  have key:∀z,Done P X s a o {v:=[(s.op1 z).shut]}∨(execOp a.eval o).run P X.w≠ .ok (.value (a.eval z)) X.w:=by
   intro z
   by_cases hz:(execOp a.eval o).run P X.w= .ok (.value (a.eval z)) X.w
   ·refine .inl (Done.plain hr hz (hr.op1 z).shut (fun id t p e=> ?_))
    exact z59 hr (zbf e)
   ·exact .inr hz
  cases p with
  |true=>
   cases h
   exact(key x).resolve_right (by simp [execOp,ho,hv,asBool])
  |false=>
   cases h
   exact(key y).resolve_right (by simp [execOp,ho,hv,asBool])
 ·cases h
theorem z3x(op:BinOp)(T:TypeId)(x y:Operand)(k k':IntKind)(m n:Int)(w:World):(eqGuard op T x y (.int k m) (.int k' n)).run P w= .ok () w:=by
 cases op<;>simp [eqGuard]
theorem z8h(op:BinOp)(T:TypeId)(x y:Operand)(m n:ByteArray)(w:World):(eqGuard op T x y (.string m) (.string n)).run P w= .ok () w:=by
 cases op<;>simp [eqGuard]
theorem zm4(op:BinOp)(T:TypeId)(x y:Operand)(m n:Bool)(w:World):(eqGuard op T x y (.bool m) (.bool n)).run P w= .ok () w:=by
 cases op<;>simp [eqGuard]
theorem zln{op:BinOp}{T:TypeId}{k k':IntKind}{m n:Int}{l:List SV}(w:World)(h:binI op k m k' n some=some l):
 ∃sv v,l=[sv]∧(Go.binOp op T (.int k m) (.int k' n)).run P w= .ok v w∧Plain sv∧(∀X pl,RepV X pl sv v)∧∀id t p,sv≠ .ptr id t p:=by
 have done:∀{sv:SV} {v:Value},l=[sv]→(Go.binOp op T (.int k m) (.int k' n)).run P w= .ok v w→Plain sv→(∀X pl,RepV X pl sv v)→(∀id t p,sv≠ .ptr id t p)→∃sv v,l=[sv]∧(Go.binOp op T (.int k m) (.int k' n)).run P w= .ok v w∧Plain sv∧(∀X pl,RepV X pl sv v)∧∀id t p,sv≠ .ptr id t p:=fun h1 h2 h3 h4 h5=>⟨_,_,h1,h2,h3,h4,h5⟩
 have pi:∀{k:IntKind} {n:Int},Plain (.dat (.int k) n []):=trivial
 have pb:∀{b:Bool},Plain (.dat .bool b []):=trivial
 unfold binI at h
 cases op
 case shl=>
  simp only at h
  cases hd:decide (n<0) with
  |true=>rw[hd] at h;cases h
  |false=>
   rw[hd] at h;cases h
   have:¬n<0:=of_decide_eq_false hd
   exact done rfl (by simp [Go.binOp,Op.shift,this]) pi (fun _ _=>zz) (by simp)
 case shr=>
  simp only at h
  cases hd:decide (n<0) with
  |true=>rw[hd] at h;cases h
  |false=>
   rw[hd] at h;cases h
   have:¬n<0:=of_decide_eq_false hd
   exact done rfl (by simp [Go.binOp,Op.shift,this]) pi (fun _ _=>zz) (by simp)
 all_goals
  simp only at h
  split at h
  case isFalse=>cases h
  rename_i hk
  subst hk
 case quo=>
  cases hd:decide (n=0) with
  |true=>rw[hd] at h;cases h
  |false=>
   rw[hd] at h;cases h
   have:¬n=0:=of_decide_eq_false hd
   exact done rfl (by simp [Go.binOp,Op.intDiv,this]) pi (fun _ _=>zz) (by simp)
 case rem=>
  cases hd:decide (n=0) with
  |true=>rw[hd] at h;cases h
  |false=>
   rw[hd] at h;cases h
   have:¬n=0:=of_decide_eq_false hd
   exact done rfl (by simp [Go.binOp,Op.intDiv,this]) pi (fun _ _=>zz) (by simp)
 case add=>cases h;exact done rfl (by simp [Go.binOp,Op.intArith]) pi (fun _ _=>zz) (by simp)
 case sub=>cases h;exact done rfl (by simp [Go.binOp,Op.intArith]) pi (fun _ _=>zz) (by simp)
 case mul=>cases h;exact done rfl (by simp [Go.binOp,Op.intArith]) pi (fun _ _=>zz) (by simp)
 case and=>cases h;exact done rfl (by simp only[Go.binOp,ne_eq,not_true_eq_false,if_false];rfl) pi (fun _ _=>zz) (by simp)
 case or=>cases h;exact done rfl (by simp only[Go.binOp,ne_eq,not_true_eq_false,if_false];rfl) pi (fun _ _=>zz) (by simp)
 case xor=>cases h;exact done rfl (by simp only[Go.binOp,ne_eq,not_true_eq_false,if_false];rfl) pi (fun _ _=>zz) (by simp)
 case andNot=>cases h;exact done rfl (by simp only[Go.binOp,ne_eq,not_true_eq_false,if_false];rfl) pi (fun _ _=>zz) (by simp)
 case eql=>cases h;exact done rfl (by simp only[Go.binOp,ne_eq,not_true_eq_false,if_false];rfl) pb (fun _ _=>z1e) (by simp)
 case neq=>cases h;exact done rfl (by simp only[Go.binOp,ne_eq,not_true_eq_false,if_false];rfl) pb (fun _ _=>z1e) (by simp)
 case lss=>cases h;exact done rfl (by simp only[Go.binOp,ne_eq,not_true_eq_false,if_false];rfl) pb (fun _ _=>z1e) (by simp)
 case leq=>cases h;exact done rfl (by simp only[Go.binOp,ne_eq,not_true_eq_false,if_false];rfl) pb (fun _ _=>z1e) (by simp)
 case gtr=>cases h;exact done rfl (by simp only[Go.binOp,ne_eq,not_true_eq_false,if_false];rfl) pb (fun _ _=>z1e) (by simp)
 case geq=>cases h;exact done rfl (by simp only[Go.binOp,ne_eq,not_true_eq_false,if_false];rfl) pb (fun _ _=>z1e) (by simp)
end Go.Ref

namespace Go.Ref
open Go
variable {P:Program} {E:Env} {X:Cfg} {s:State} {a:Act} {o:Oper} {u:Out}
theorem zkc(x y:ByteArray):(x.toList==y.toList)=decide (x=y):=by
 rw[ByteArray.toList_eq,ByteArray.toList_eq]
 by_cases h:x=y
 ·subst h;simp
 ·have:¬x.data.toList=y.data.toList:=fun e=>h (by
   cases x;cases y
   congr
   exact Array.toList_inj.1 e)
  rw[beq_eq_false_iff_ne.2 this,decide_eq_false h]
theorem z1cq{op:BinOp}{T:TypeId}{m n:ByteArray}{l:List SV}(w:World)(h:binS op m n some=some l):
 ∃sv v,l=[sv]∧(Go.binOp op T (.string m) (.string n)).run P w= .ok v w∧Plain sv∧(∀X pl,RepV X pl sv v)∧∀id t p,sv≠ .ptr id t p:=by
 have pb:∀{b:Bool},Plain (.dat .bool b []):=trivial
 unfold binS at h
 cases op<;>simp only at h<;>first|(cases h;done)|skip
 case add=>
  cases hd:decide (m.size+n.size≤9223372036854775807) with
  |false=>rw[hd] at h;cases h
  |true=>
   rw[hd] at h;cases h
   have h1:=of_decide_eq_true hd
   have h2:¬((((m.size+n.size:Nat)):Int)>IntKind.i64.max):=by
    show¬((((m.size+n.size:Nat)):Int)>9223372036854775807)
    omega
   refine⟨_,_,rfl,?_,trivial,fun _ _=>z45,by simp⟩
   simp only[Go.binOp,Op.stringOp]
   rw[if_neg h2]
   rfl
 all_goals
  cases h
  refine⟨_,_,rfl,?_,pb,fun _ _=>z1e,by simp⟩
  simp only[Go.binOp,Op.stringOp,zkc]
  rfl
theorem zw5(hE:EnvOk P E){T:TypeId}{t:Ty}(ht:E.ty T=some t)(w:World):(isAgg T).run P w= .ok t.agg w:=by
 have hu:=(hE.ty T t ht).und
 cases t
 case bool=>simp [isAgg,run_underlying hu,Ty.agg]
 case int=>simp [isAgg,run_underlying hu,Ty.agg]
 case str=>simp [isAgg,run_underlying hu,Ty.agg]
 case sl=>simp [isAgg,run_underlying hu.1,Ty.agg]
 case arr=>obtain⟨e,h1,_⟩:=hu;simp [isAgg,run_underlying h1,Ty.agg]
 case unit=>obtain⟨fs,h1,_⟩:=hu;simp [isAgg,run_underlying h1,Ty.agg]
 case pair=>obtain⟨fs,h1,_⟩:=hu;simp [isAgg,run_underlying h1,Ty.agg]
 case spc=>exact hu.elim
theorem z15(hE:EnvOk P E){T:TypeId}{t:Ty}(ht:E.ty T=some t)(w:World):(sizeOf T).run P w= .ok t.cells w:=by
 obtain⟨i,h1,h2,_⟩:=(hE.ty T t ht).info
 simp [sizeOf,typeInfo,h1,h2]
theorem z4x(hE:EnvOk P E){T:TypeId}{t:Ty}(ht:E.ty T=some t){x:El t}{cs:List Value}(hr:Rep X t x cs){all:Array Value}{off:Nat}(ha:(all.toList.drop off).take t.cells=cs)(w:World):
 (part T all off).run P w= .ok (mkv t cs) w:=by
 have hl:=hr.len
 unfold part
 simp only[Sem.run_bind,zw5 hE ht,Result.andThen_ok]
 cases hg:t.agg with
 |true=>
  simp only[if_true,Sem.run_bind,z15 hE ht,Result.andThen_ok,Sem.run_pure,z19 hg]
  congr 2
  apply Array.ext'
  rw[←ha,Array.toList_extract,List.extract_eq_take_drop]
  simp
 |false=>
  simp only[Bool.false_eq_true,if_false]
  have hc:t.cells=1:=by cases t<;>simp_all [Ty.agg,Ty.cells]
  rw[hc] at hl ha
  match cs,hl with
  | [c],_=>
    rw[zaj hg]
    have hget:all[off]? =some c:=by
     have h1:(all.toList.drop off)[0]? =some c:=by
      have:=congrArg (fun l=>l[0]?) ha
      simpa [List.getElem?_take] using this
     simpa using h1
    simp [hget]
def zeu(d:Nat)(xs ys:Array Value)(f:Field)(_:Option Bool×Unit):Sem (ForInStep (Option Bool×Unit)):=
 if f.name≠ "_" then do
  let __do_lift←part f.type xs f.offset
  let __do_lift_1←part f.type ys f.offset
  let __do_lift←Op.equalIn d f.type __do_lift __do_lift_1
  if(!__do_lift)=true then pure (ForInStep.done (some false,()))
   else pure (ForInStep.yield (none,()))
 else pure (ForInStep.yield (none,()))
theorem zot(hE:EnvOk P E){d:Nat}{xs ys:Array Value}(w:World)
 (ih:∀(t:Ty) (T:TypeId),E.ty T=some t→t.depth≤d→∀(x y:El t) (c1 c2:List Value) (r:Bool),Rep X t x c1→Rep X t y c2→eqEl t x y=some r→(Op.equalIn d T (mkv t c1) (mkv t c2)).run P w= .ok r w):
 ∀(fl:List Field) (t:Ty) (off:Nat),z1d E fl t off→t.depth≤d+1→∀(x y:El t) (c1 c2:List Value) (r:Bool),Rep X t x c1→Rep X t y c2→(xs.toList.drop off).take t.cells=c1→(ys.toList.drop off).take t.cells=c2→eqEl t x y=some r→
  (forIn fl (none,()) (zeu d xs ys)).run P w= .ok (if r=true then(none,()) else(some false,())) w:=by
 intro fl
 induction fl with
 |nil=>
  intro t off hf hd x y c1 c2 r h1 h2 h3 h4 he
  cases t<;>simp only[z1d] at hf<;>try exact hf.elim
  simp only[eqEl,Option.some.injEq] at he
  subst he
  simp [List.forIn_nil]
 |cons f fl ihl=>
  intro t off hf hd x y c1 c2 r h1 h2 h3 h4 he
  cases t<;>simp only[z1d] at hf<;>try exact hf.elim
  rename_i ta tb
  obtain⟨ho,hty,hn,hrest⟩:=hf
  obtain⟨ca,cb,e1,ra,rb⟩:=h1
  obtain⟨da,db,e2,sa,sb⟩:=h2
  simp only[eqEl] at he
  split at he
  case h_2=>cases he
  rename_i p q hp hq
  cases he
  simp only[Ty.depth] at hd
  have la:=ra.len
  have lb:=rb.len
  have ma:=sa.len
  have mb:=sb.len
  have t1:(xs.toList.drop off).take ta.cells=ca:=by
   have:=congrArg (fun l=>l.take ta.cells) (h3.trans e1)
   simp only[List.take_take,Ty.cells] at this
   rw[Nat.min_eq_left (Nat.le_add_right _ _),←la,List.take_left] at this
   rw[←la];exact this
  have t2:(ys.toList.drop off).take ta.cells=da:=by
   have:=congrArg (fun l=>l.take ta.cells) (h4.trans e2)
   simp only[List.take_take,Ty.cells] at this
   rw[Nat.min_eq_left (Nat.le_add_right _ _),←ma,List.take_left] at this
   rw[←ma];exact this
  have u1:(xs.toList.drop (off+ta.cells)).take tb.cells=cb:=by
   have:=congrArg (fun l=>l.drop ta.cells) (h3.trans e1)
   simp only[Ty.cells] at this
   rw[List.drop_take,Nat.add_sub_cancel_left,List.drop_drop,←la,List.drop_left] at this
   rw[←la];exact this
  have u2:(ys.toList.drop (off+ta.cells)).take tb.cells=db:=by
   have:=congrArg (fun l=>l.drop ta.cells) (h4.trans e2)
   simp only[Ty.cells] at this
   rw[List.drop_take,Nat.add_sub_cancel_left,List.drop_drop,←ma,List.drop_left] at this
   rw[←ma];exact this
  have hpart1:=z4x hE hty ra (all:=xs) (off:=f.offset) (by rw[ho];exact t1) w
  have hpart2:=z4x hE hty sa (all:=ys) (off:=f.offset) (by rw[ho];exact t2) w
  have heq:=ih ta f.type hty (by omega) x.1 y.1 ca da p ra sa hp
  have hstep:(zeu d xs ys f (none,())).run P w= .ok (if p=true then ForInStep.yield (none,()) else ForInStep.done (some false,())) w:=by
   unfold zeu
   rw[if_pos hn]
   simp only[Sem.run_bind,hpart1,hpart2,heq,Result.andThen_ok]
   cases p<;>rfl
  rw[List.forIn_cons]
  simp only[Sem.run_bind,hstep,Result.andThen_ok]
  cases p with
  |false=>rfl
  |true=>
   simp only[if_true,Bool.true_and]
   exact ihl tb (off+ta.cells) hrest (by omega) x.2 y.2 cb db q rb sb u1 u2 hq
theorem z18i(hE:EnvOk P E)(w:World){d n:Nat}{k:IntKind}{T e:TypeId}(ht:P.underlying T=some (.array n e))(he:E.ty e=some (.int k)){x y:List Int}{c1 c2:List Value}(r1:Rep X (.arr n (.int k)) x c1)(r2:Rep X (.arr n (.int k)) y c2):
 (Op.equalIn (d+2) T (.agg c1.toArray) (.agg c2.toArray)).run P w= .ok (decide (x=y)) w:=by
 obtain⟨l1,m1,e1⟩:=r1
 obtain⟨l2,m2,e2⟩:=r2
 have l1:x.length=n:=l1
 have l2:y.length=n:=l2
 have key:decide (x=y)=(List.range n).all fun i=>decide (x.getD i 0=y.getD i 0):=by
  by_cases hxy:x=y
  ·rw[decide_eq_true hxy]
   exact(List.all_eq_true.2 fun i _=>by rw[hxy];simp).symm
  ·rw[decide_eq_false hxy]
   cases ha:(List.range n).all fun i=>decide (x.getD i 0=y.getD i 0) with
   |false=>rfl
   |true=>
    refine absurd (List.ext_getElem (l1.trans l2.symm) fun i h1 h2=> ?_) hxy
    have:=of_decide_eq_true (List.all_eq_true.1 ha i (List.mem_range.2 (by omega)))
    simpa [List.getD_eq_getElem?_getD,List.getElem?_eq_getElem h1,List.getElem?_eq_getElem h2] using this
 rw[key,List.range_eq_range',Op.equalIn]
 simp only[Sem.run_bind,run_underlying ht,Result.andThen_ok,z15 hE he,Std.Legacy.Range.forIn_eq_forIn_range',Std.Legacy.Range.size,Nat.sub_zero,Nat.add_sub_cancel,Nat.div_one]
 have hl:∀i∈List.range' 0 n 1,i<n:=fun i hi=>by simpa using(List.mem_range'_1.1 hi).2
 generalize List.range' 0 n 1=l at hl⊢
 induction l with
 |nil=>simp
 |cons i l ih=>
  have hi:i<n:=hl i (by simp)
  have g1:x[i]? =some (x.getD i 0):=by rw[List.getD_eq_getElem?_getD,List.getElem?_eq_getElem (by omega)];rfl
  have g2:y[i]? =some (y.getD i 0):=by rw[List.getD_eq_getElem?_getD,List.getElem?_eq_getElem (by omega)];rfl
  have p1:=e1 i (x.getD i 0) g1
  have p2:=e2 i (y.getD i 0) g2
  have px:=z4x hE he p1 (all:=c1.toArray) (off:=i*(Ty.int k).cells) rfl w
  have py:=z4x hE he p2 (all:=c2.toArray) (off:=i*(Ty.int k).cells) rfl w
  rw[z1l p1] at px
  rw[z1l p2] at py
  have pe:(Op.equalIn (d+1) e (.int k (x.getD i 0)) (.int k (y.getD i 0))).run P w= .ok (decide (x.getD i 0=y.getD i 0)) w:=by
   have hu:P.underlying e=some (.int k):=(hE.ty e _ he).und
   unfold Op.equalIn
   simp only[Sem.run_bind,run_underlying hu,Result.andThen_ok,if_true,Sem.run_pure]
   rfl
  simp only[List.forIn_cons,Sem.run_bind,px,py,pe,Result.andThen_ok,List.all_cons]
  cases hb:decide (x.getD i 0=y.getD i 0)
  ·simp
  ·simp only[Bool.not_true,Bool.false_eq_true,if_false,Sem.run_pure,Result.andThen_ok,Bool.true_and]
   exact ih fun j hj=>hl j (by simp [hj])
theorem zvs(hE:EnvOk P E)(w:World):∀(d:Nat) (t:Ty) (T:TypeId),E.ty T=some t→t.depth≤d→∀(x y:El t) (c1 c2:List Value) (r:Bool),Rep X t x c1→Rep X t y c2→eqEl t x y=some r→(Op.equalIn d T (mkv t c1) (mkv t c2)).run P w= .ok r w:=by
 intro d
 induction d with
 |zero=>intro t T ht hd;cases t<;>simp only[Ty.depth] at hd<;>omega
 |succ d ih=>
  intro t T ht hd x y c1 c2 r h1 h2 he
  have hu:=(hE.ty T t ht).und
  cases t with
  |bool=>
   rw[z3d h1,z3d h2]
   simp only[eqEl,Option.some.injEq] at he
   subst he
   unfold Op.equalIn
   simp only[Sem.run_bind,run_underlying hu,Result.andThen_ok,Sem.run_pure]
  |int k=>
   rw[z1l h1,z1l h2]
   simp only[eqEl,Option.some.injEq] at he
   subst he
   unfold Op.equalIn
   simp only[Sem.run_bind,run_underlying hu,Result.andThen_ok,if_true,Sem.run_pure]
   rfl
  |str=>
   rw[z25 h1,z25 h2]
   simp only[eqEl,Option.some.injEq] at he
   subst he
   unfold Op.equalIn
   simp only[Sem.run_bind,run_underlying hu,Result.andThen_ok,Sem.run_pure]
   rw[beq_toListBytes,zkc]
  |sl e t=>simp [eqEl] at he
  |arr n t=>
   cases t<;>simp only[eqEl,Option.some.injEq,reduceCtorEq] at he
   rename_i k
   subst he
   obtain⟨e,hu1,hu2,_⟩:=hu
   obtain⟨d,rfl⟩:∃d',d=d'+1:=⟨d-1,by simp only[Ty.depth] at hd;omega⟩
   rw[z19 rfl,z19 rfl]
   exact z18i hE w hu1 hu2 h1 h2
  |spc _ _ _=>exact hu.elim
  |unit=>
   obtain⟨fs,hu1,hu2,hu3,_⟩:=hu
   rw[z19 rfl,z19 rfl]
   unfold Op.equalIn
   simp only[Sem.run_bind,run_underlying hu1,Result.andThen_ok,run_program,hu3,Bool.false_eq_true,if_false]
   rw[←Array.forIn_toList]
   have:=zot (X:=X) hE (d:=d) (xs:=c1.toArray) (ys:=c2.toArray) w ih fs.toList .unit 0 hu2 hd x y c1 c2 r h1 h2 (by have:=h1.len;simp [Ty.cells] at this⊢;subst this;rfl) (by have:=h2.len;simp [Ty.cells] at this⊢;subst this;rfl) he
   unfold zeu at this
   rw[this]
   simp only[Result.andThen_ok]
   cases r<;>rfl
  |pair ta tb=>
   obtain⟨fs,hu1,hu2,hu3,_⟩:=hu
   rw[z19 rfl,z19 rfl]
   unfold Op.equalIn
   simp only[Sem.run_bind,run_underlying hu1,Result.andThen_ok,run_program,hu3,Bool.false_eq_true,if_false]
   rw[←Array.forIn_toList]
   have:=zot (X:=X) hE (d:=d) (xs:=c1.toArray) (ys:=c2.toArray) w ih fs.toList (.pair ta tb) 0 hu2 hd x y c1 c2 r h1 h2 (by have:=h1.len;simp only[List.drop_zero];rw[←this];exact List.take_length) (by have:=h2.len;simp only[List.drop_zero];rw[←this];exact List.take_length) he
   unfold zeu at this
   rw[this]
   simp only[Result.andThen_ok]
   cases r<;>rfl
end Go.Ref

namespace Go.Ref
open Go
variable {P:Program} {E:Env} {X:Cfg} {s:State} {a:Act} {o:Oper} {u:Out}
theorem z1cp(hE:EnvOk P E){op:BinOp}{T:TypeId}{x y:SV}{vx vy:Value}{px py:List Nat→Place}{l:List SV}(w:World)(xo yo:Operand)(hx:RepV X px x vx)(hy:RepV X py y vy)(h:binE E op T x y some=some l):
 ∃b:Bool,l=bl b∧(eqGuard op T xo yo vx vy).run P w= .ok () w∧(Go.binOp op T vx vy).run P w= .ok (.bool b) w:=by
 unfold binE at h
 split at h
 case h_2=>cases h
 rename_i t ht
 split at h
 ·cases h
 rename_i hdep
 obtain⟨m,h,hm⟩:=zx h
 obtain⟨n,h,hn⟩:=zx h
 split at h
 case h_2=>cases h
 rename_i r hr
 obtain⟨c1,r1,e1⟩:=hm X px vx hx
 obtain⟨c2,r2,e2⟩:=hn X py vy hy
 have hd:t.depth≤10000:=by
  have:Nat.ble t.depth 1000=true:=by simpa using hdep
  have:=Nat.le_of_ble_eq_true this
  omega
 have heq:=zvs hE w 10000 t T ht hd m n c1 c2 r r1 r2 hr
 have hu:=(hE.ty T t ht).und
 have hg:(eqGuard op T xo yo vx vy).run P w= .ok () w:=by
  cases t
  case bool=>rw[e1,e2,z3d r1,z3d r2];exact zm4 ..
  case int=>rw[e1,e2,z1l r1,z1l r2];exact z3x ..
  case str=>rw[e1,e2,z25 r1,z25 r2];exact z8h ..
  case sl=>simp [eqEl] at hr
  case arr=>
   obtain⟨fs,_,_,hq⟩:=hu
   rw[e1,e2,z19 rfl,z19 rfl]
   cases op<;>simp [eqGuard,hq]
  case spc=>simp [eqEl] at hr
  all_goals
   obtain⟨fs,_,_,_,hq⟩:=hu
   rw[e1,e2,z19 rfl,z19 rfl]
   cases op<;>simp [eqGuard,hq]
 split at h
 ·cases h
  refine⟨r,rfl,hg,?_⟩
  rw[e1,e2]
  cases t
  case int=>rw[z1l r1,z1l r2];simp only[eqEl,Option.some.injEq] at hr;subst hr;simp only[Go.binOp,ne_eq,not_true_eq_false,if_false];rfl
  case str=>rw[z25 r1,z25 r2];simp only[eqEl,Option.some.injEq] at hr;subst hr;simp only[Go.binOp,Op.stringOp,zkc];rfl
  case bool=>rw[z3d r1,z3d r2] at heq⊢;simp only[Go.binOp,Sem.run_bind,Op.equal,Op.maxDepth,heq,Result.andThen_ok,Sem.run_pure]
  case sl=>simp [eqEl] at hr
  case spc=>simp [eqEl] at hr
  all_goals
   rw[z19 rfl,z19 rfl] at heq⊢
   simp only[Go.binOp,Sem.run_bind,Op.equal,Op.maxDepth,heq,Result.andThen_ok,Sem.run_pure]
 ·cases h
  refine⟨!r,rfl,hg,?_⟩
  rw[e1,e2]
  cases t
  case int=>rw[z1l r1,z1l r2];simp only[eqEl,Option.some.injEq] at hr;subst hr;simp only[Go.binOp,ne_eq,not_true_eq_false,if_false];rfl
  case str=>rw[z25 r1,z25 r2];simp only[eqEl,Option.some.injEq] at hr;subst hr;simp only[Go.binOp,Op.stringOp,zkc];rfl
  case bool=>rw[z3d r1,z3d r2] at heq⊢;simp only[Go.binOp,Sem.run_bind,Op.equal,Op.maxDepth,heq,Result.andThen_ok,Sem.run_pure]
  case sl=>simp [eqEl] at hr
  case spc=>simp [eqEl] at hr
  all_goals
   rw[z19 rfl,z19 rfl] at heq⊢
   simp only[Go.binOp,Sem.run_bind,Op.equal,Op.maxDepth,heq,Result.andThen_ok,Sem.run_pure]
 ·cases h
theorem z3y(op:BinOp)(T:TypeId)(x y:Operand)(p q:Option Addr)(w:World):(eqGuard op T x y (.pointer p) (.pointer q)).run P w= .ok () w:=by
 cases op<;>simp [eqGuard]
theorem z1dh(d:Nat){T e:TypeId}(hu:P.underlying T=some (.pointer e))(w:World)(ad:Addr):(Op.equalIn (d+1) T (.pointer (some ad)) (.pointer none)).run P w= .ok false w:=by
 unfold Op.equalIn
 simp only[Sem.run_bind,run_underlying hu,Result.andThen_ok,Sem.run_pure]
theorem z1dg(d:Nat){T e:TypeId}(hu:P.underlying T=some (.pointer e))(w:World):(Op.equalIn (d+1) T (.pointer none) (.pointer none)).run P w= .ok true w:=by
 unfold Op.equalIn
 simp only[Sem.run_bind,run_underlying hu,Result.andThen_ok,Sem.run_pure]
 rfl
theorem z1h4(hE:EnvOk P E){op:BinOp}{T:TypeId}{x y:SV}{vx vy:Value}{px py:List Nat→Place}{u:Out}(w:World)(xo yo:Operand)(hx:RepV X px x vx)(hy:RepV X py y vy)(h:bin E op T x y (fun v=>some ({v:=v}:Out))=some u):
 ∃sv v,u={v:=[sv]}∧(eqGuard op T xo yo vx vy).run P w= .ok () w∧(Go.binOp op T vx vy).run P w= .ok v w∧(∀X pl,RepV X pl sv v)∧∀id t p,sv≠ .ptr id t p:=by
 unfold bin at h
 split at h
 ·rename_i k m o1 k' n o2
  rw[z2f hx,z2f hy]
  obtain⟨l,h1,h2⟩:=z1g zlm h
  obtain⟨sv,v,rfl,hv,_,hr,hp⟩:=zln (T:=T) w h1
  cases h2
  exact⟨sv,v,rfl,z3x ..,hv,hr,hp⟩
 ·rename_i m o1 n o2
  rw[zfh hx,zfh hy]
  obtain⟨l,h1,h2⟩:=z1g zlo h
  obtain⟨sv,v,rfl,hv,_,hr,hp⟩:=z1cq (T:=T) w h1
  cases h2
  exact⟨sv,v,rfl,z8h ..,hv,hr,hp⟩
 ·obtain⟨r,_,hpv⟩:=hx
  have hy':vy= .pointer none:=hy
  subst hy'
  split at h
  ·cases h
  rename_i hpt
  simp only[Bool.or_eq_true,Bool.not_eq_true',not_or,Bool.not_eq_true,Bool.not_eq_false] at hpt
  obtain⟨rfl,_⟩:=(z1j hpt.1).1 hpv
  obtain⟨e,hu⟩:=hE.pt T hpt.2
  have heq:∀ad,(Op.equal T (.pointer (some ad)) (.pointer none)).run P w= .ok false w:=fun ad=>z1dh 9999 hu w ad
  split at h
  ·cases h
   exact⟨_,_,rfl,z3y ..,by(simp only[Go.binOp,Sem.run_bind,heq,Result.andThen_ok,Sem.run_pure];try rfl),fun _ _=>z1e,by simp⟩
  ·cases h
   exact⟨_,_,rfl,z3y ..,by(simp only[Go.binOp,Sem.run_bind,heq,Result.andThen_ok,Sem.run_pure];try rfl),fun _ _=>z1e,by simp⟩
  ·cases h
 ·have hx':vx= .pointer none:=hx
  have hy':vy= .pointer none:=hy
  subst hx' hy'
  split at h
  ·cases h
  rename_i hpt
  obtain⟨e,hu⟩:=hE.pt T (by simpa using hpt)
  have heq:(Op.equal T (.pointer none) (.pointer none)).run P w= .ok true w:=z1dg 9999 hu w
  split at h
  ·cases h
   exact⟨_,_,rfl,z3y ..,by(simp only[Go.binOp,Sem.run_bind,heq,Result.andThen_ok,Sem.run_pure];try rfl),fun _ _=>z1e,by simp⟩
  ·cases h
   exact⟨_,_,rfl,z3y ..,by(simp only[Go.binOp,Sem.run_bind,heq,Result.andThen_ok,Sem.run_pure];try rfl),fun _ _=>z1e,by simp⟩
  ·cases h
 ·obtain⟨l,h1,h2⟩:=z1g zll h
  obtain⟨b,rfl,hg,hv⟩:=z1cp hE w xo yo hx hy h1
  cases h2
  exact⟨_,_,rfl,hg,hv,fun _ _=>z1e,by simp⟩
theorem z1d8(hE:EnvOk P E)(hr:Rel X s a){ops:List Oper}{op:BinOp}{T T':TypeId}{x y:Operand}(ho:o.op= .binOp op T x y T'){C:FuncId→Fun' Out}(h:act E C ops o s some=some u):Done P X s a o u:=by
 unfold act at h
 simp only[ho] at h
 obtain⟨sv,v,rfl,hg,hv,hrep,hp⟩:=z1h4 hE X.w x y (hr.op1 x) (hr.op1 y) h
 exact Done.plain hr (by simp only[execOp,ho,Sem.run_bind,hg,hv,Result.andThen_ok,Sem.run_pure]) (hrep _ _) (fun id t p e=>absurd e (hp id t p))
end Go.Ref

namespace Go.Ref
open Go
variable {P:Program} {E:Env} {X:Cfg} {s:State} {a:Act} {o:Oper} {u:Out}
theorem za5(ad:Addr)(h:ad.spot=none)(m n:Nat):(ad.add m).add n=ad.add (m+n):=by
 unfold Addr.add
 by_cases h1:m=0<;>by_cases h2:n=0<;>simp [h1,h2,Nat.add_assoc]
theorem z40{ad:Addr}(h:ad.spot=none)(m:Nat):(ad.add m).spot=none:=by
 unfold Addr.add
 split
 ·exact h
 ·rfl
theorem z1f(g i j:Nat):(⟨g,i,none⟩:Addr).add j=⟨g,i+j,none⟩:=by
 unfold Addr.add
 split<;>simp_all
theorem z6w:∀(t:Ty) (p q:List Nat) (u:Ty),t.at_ p=some u→t.off (p++q)=t.off p+u.off q:=by
 intro t
 induction t with
 |arr n t ih=>
  intro p q u h
  cases p with
  |nil=>simp only[Ty.at_,Option.some.injEq] at h;subst h;simp [Ty.off]
  |cons i p=>
   simp only[Ty.at_] at h
   simp only[List.cons_append,Ty.off,ih p q u h]
   omega
 |pair x y ihx ihy=>
  intro p q u h
  cases p with
  |nil=>simp only[Ty.at_,Option.some.injEq] at h;subst h;simp [Ty.off]
  |cons i p=>
   cases i with
   |zero=>simp only[Ty.at_] at h;simp only[List.cons_append,Ty.off,ihx p q u h]
   |succ i=>
    simp only[Ty.at_] at h
    have:=ihy (i::p) q u h
    simp only[List.cons_append,Ty.off] at this⊢
    omega
 |_=>
  intro p q u h
  cases p with
  |nil=>simp only[Ty.at_,Option.some.injEq] at h;subst h;simp [Ty.off]
  |cons i p=>simp [Ty.at_] at h
theorem zb8:∀(t:Ty) (p q:List Nat) (u:Ty),t.at_ p=some u→t.inb p→u.inb q→t.inb (p++q):=by
 intro t
 induction t with
 |arr n t ih=>
  intro p q u h hp hq
  cases p with
  |nil=>simp only[Ty.at_,Option.some.injEq] at h;subst h;exact hq
  |cons i p=>exact⟨hp.1,ih p q u h hp.2 hq⟩
 |pair x y ihx ihy=>
  intro p q u h hp hq
  cases p with
  |nil=>simp only[Ty.at_,Option.some.injEq] at h;subst h;exact hq
  |cons i p=>
   cases i with
   |zero=>exact ihx p q u h hp hq
   |succ i=>exact ihy (i::p) q u h hp hq
 |_=>
  intro p q u h hp hq
  cases p with
  |nil=>simp only[Ty.at_,Option.some.injEq] at h;subst h;exact hq
  |cons i p=>simp [Ty.at_] at h
theorem getD_some{α:Type}{xs:List α}{i:Nat}(d:α)(h:i<xs.length):xs[i]? =some (xs.getD i d):=by
 simp [List.getD_eq_getElem?_getD,List.getElem?_eq_getElem h]
theorem zag{X:Cfg}:∀{t:Ty} {p:List Nat} {x:El t} {cs:List Value} {u:Ty} {y:El u},Rep X t x cs→t.inb p→El.get t p x=some ⟨u,y⟩→
 t.at_ p=some u∧t.off p+u.cells≤t.cells∧Rep X u y ((cs.drop (t.off p)).take u.cells):=by
 intro t
 induction t with
 |arr n t ih=>
  intro p x cs u y hr hp h
  cases p with
  |nil=>
   simp only[El.get,Option.some.injEq,Sigma.mk.injEq] at h
   obtain⟨rfl,h⟩:=h
   cases h
   refine⟨rfl,by simp [Ty.off],?_⟩
   have:=hr.len
   simp only[Ty.off,List.drop_zero]
   rw[←this,List.take_length]
   exact hr
  |cons i p=>
   obtain⟨hi,hp⟩:=hp
   obtain⟨h1,h2,h3⟩:=hr
   simp only[El.get] at h
   obtain⟨k1,k2,k3⟩:=ih (h3 i _ (getD_some (El.dflt t) (by omega))) hp h
   have hn:(i+1)*t.cells≤n*t.cells:=Nat.mul_le_mul_right _ hi
   rw[Nat.add_mul,Nat.one_mul] at hn
   refine⟨k1,by simp only[Ty.off,Ty.cells];omega,?_⟩
   simp only[Ty.off]
   rw[List.drop_take,List.take_take,List.drop_drop,Nat.min_eq_left (by omega)] at k3
   exact k3
 |pair ta tb iha ihb=>
  intro p x cs u y hr hp h
  cases p with
  |nil=>
   simp only[El.get,Option.some.injEq,Sigma.mk.injEq] at h
   obtain⟨rfl,h⟩:=h
   cases h
   refine⟨rfl,by simp [Ty.off],?_⟩
   have:=hr.len
   simp only[Ty.off,List.drop_zero]
   rw[←this,List.take_length]
   exact hr
  |cons i p=>
   obtain⟨c1,c2,rfl,r1,r2⟩:=hr
   have l1:=r1.len
   have l2:=r2.len
   cases i with
   |zero=>
    obtain⟨k1,k2,k3⟩:=iha r1 hp h
    refine⟨k1,by simp only[Ty.off,Ty.cells];omega,?_⟩
    simp only[Ty.off]
    rw[List.drop_append_of_le_length (by omega),List.take_append_of_le_length (by rw[List.length_drop];omega)]
    exact k3
   |succ i=>
    obtain⟨k1,k2,k3⟩:=ihb r2 hp h
    refine⟨k1,by simp only[Ty.off,Ty.cells];omega,?_⟩
    simp only[Ty.off]
    rw[←List.drop_drop,←l1,List.drop_left]
    exact k3
 |_=>
  intro p x cs u y hr hp h
  cases p with
  |nil=>
   simp only[El.get,Option.some.injEq,Sigma.mk.injEq] at h
   obtain⟨rfl,h⟩:=h
   cases h
   refine⟨rfl,by simp [Ty.off],?_⟩
   have:=hr.len
   simp only[Ty.off,List.drop_zero]
   rw[←this,List.take_length]
   exact hr
  |cons i p=>simp [El.get] at h
theorem zk4:∀(fl:List Field) (t:Ty) (off j:Nat) (ft:Ty),z1d E fl t off→t.isPair=true→t.at_ [j]=some ft→∃f,fl[j]? =some f∧f.offset=off+t.off [j]∧E.ty f.type=some ft∧t.inb [j]:=by
 intro fl
 induction fl with
 |nil=>intro t off j ft hf hp h;cases t<;>simp [z1d,Ty.isPair] at hf hp
 |cons f fl ih=>
  intro t off j ft hf hp h
  cases t<;>simp only[z1d] at hf<;>try exact hf.elim
  rename_i ta tb
  obtain⟨h1,h2,h3,h4⟩:=hf
  cases j with
  |zero=>
   simp only[Ty.at_,Option.some.injEq] at h
   subst h
   exact⟨f,rfl,by simp [Ty.off,h1],h2,by simp [Ty.inb]⟩
  |succ j=>
   simp only[Ty.at_] at h
   cases htb:tb.isPair with
   |true=>
    obtain⟨g,g1,g2,g3,g4⟩:=ih tb (off+ta.cells) j ft h4 htb h
    exact⟨g,g1,by simp only[Ty.off];omega,g3,g4⟩
   |false=>
    cases fl with
    |nil=>cases tb<;>simp [z1d,Ty.at_] at h4 h
    |cons g fl=>cases tb<;>simp [z1d,Ty.isPair] at h4 htb
theorem zbj(hE:EnvOk P E){T:TypeId}{t:Ty}(ht:E.ty T=some t)(hp:t.isPair=true):∃fs,P.underlying T=some (.struct fs)∧z1d E fs.toList t 0:=by
 have hu:=(hE.ty T t ht).und
 cases t<;>simp [Ty.isPair] at hp
 obtain⟨fs,h1,h2,_⟩:=hu
 exact⟨fs,h1,h2⟩
theorem zad(hE:EnvOk P E){f:Field}{ft:Ty}(hf:E.ty f.type=some ft)(hc:ft.cells≠0)(ad:Addr)(w:World):(fieldPlace ad f).run P w= .ok (ad.add f.offset) w:=by
 simp [fieldPlace,z15 hE hf,hc]
theorem zf1:∀(t:Ty) (p:List Nat) (x:El t) (u:Ty) (y:El u),El.get t p x=some ⟨u,y⟩→t.at_ p=some u:=by
 intro t
 induction t with
 |arr n t ih=>
  intro p x u y h
  cases p with
  |nil=>simp only[El.get,Option.some.injEq,Sigma.mk.injEq] at h;rw[Ty.at_,h.1]
  |cons i p=>exact ih p _ u y h
 |pair a b iha ihb=>
  intro p x u y h
  cases p with
  |nil=>simp only[El.get,Option.some.injEq,Sigma.mk.injEq] at h;rw[Ty.at_,h.1]
  |cons i p=>
   cases i with
   |zero=>exact iha p _ u y h
   |succ i=>exact ihb (i::p) _ u y h
 |_=>
  intro p x u y h
  cases p with
  |nil=>simp only[El.get,Option.some.injEq,Sigma.mk.injEq] at h;rw[Ty.at_,h.1]
  |cons i p=>simp [El.get] at h
theorem zu6(hE:EnvOk P E)(hr:Rel X s a){ops:List Oper}{T:TypeId}{x:Operand}{j:Nat}(ho:o.op= .fieldAddr T x j){C:FuncId→Fun' Out}(h:act E C ops o s some=some u):Done P X s a o u:=by
 unfold act at h
 simp only[ho] at h
 have hx:=hr.op1 x
 unfold zev at h
 split at h
 ·rename_i t u' id root p hT e
  rw[e] at hx
  obtain⟨r,hb,hx⟩:=hx
  split at h
  ·cases h
  rename_i hns
  have hns:root.isSpc=false:=by simpa using hns
  obtain⟨hv,hin⟩:=(z1j hns).1 hx
  split at h
  case h_2=>cases h
  rename_i u'' hat
  split at h
  case isFalse=>cases h
  rename_i hcond
  rw[Bool.and_eq_true] at hcond
  obtain⟨heq,hpair⟩:=hcond
  have:=Ty.eqb_eq heq
  subst this
  split at h
  case h_2=>cases h
  rename_i ft hft
  split at h
  ·cases h
  rename_i hcell
  cases h
  have hc:ft.cells≠0:=fun e=>hcell (by rw[e];rfl)
  obtain⟨fs,hu1,hu2⟩:=zbj hE hT hpair
  obtain⟨f,g1,g2,g3,g4⟩:=zk4 fs.toList u' 0 j ft hu2 hpair hft
  refine Done.plain hr (v:= .pointer (some ⟨r,root.off (p++ [j]),none⟩)) ?_ ⟨r,hb,(z1j hns).2 ⟨rfl,zb8 root p [j] u' hat hin g4⟩⟩ (fun id' t' p' e'=> ?_)
  ·have hfield:fs[j]? =some f:=by rw[←Array.getElem?_toList];exact g1
   simp only[execOp,ho,Sem.run_bind,Instr.fieldAt,run_underlying hu1,Result.andThen_ok,hfield,hv,Instr.sureAddr,Sem.run_pure,zad hE g3 hc]
   rw[z1f,z6w root p [j] u' hat,g2,Nat.zero_add]
  ·injection e' with e1 e2 e3
   subst e1
   exact z59 hr e
 ·rename_i t u' root y hT e
  rw[e] at hx
  obtain⟨ad,cs,hv,hsp,hrep,hsee⟩:=hx
  split at h
  case isFalse=>cases h
  rename_i hcond
  rw[Bool.and_eq_true] at hcond
  obtain⟨heq,hpair⟩:=hcond
  have:=Ty.eqb_eq heq
  subst this
  split at h
  case h_2=>cases h
  rename_i ft z hft
  split at h
  ·cases h
  rename_i hcell
  cases h
  have hc:ft.cells≠0:=fun e=>hcell (by rw[e];rfl)
  obtain⟨fs,hu1,hu2⟩:=zbj hE hT hpair
  have hat:u'.at_ [j]=some ft:=zf1 u' [j] y ft z hft
  obtain⟨f,g1,g2,g3,g4⟩:=zk4 fs.toList u' 0 j ft hu2 hpair hat
  obtain⟨k1,k2,k3⟩:=zag hrep g4 hft
  refine Done.plain hr (v:= .pointer (some (ad.add (u'.off [j])))) ?_ ⟨ad.add (u'.off [j]),_,rfl,z40 hsp _,k3,fun i v hi=> ?_⟩ (fun id' t' p' e'=>by cases e')
  ·have hfield:fs[j]? =some f:=by rw[←Array.getElem?_toList];exact g1
   simp only[execOp,ho,Sem.run_bind,Instr.fieldAt,run_underlying hu1,Result.andThen_ok,hfield,hv,Instr.sureAddr,Sem.run_pure,zad hE g3 hc]
   rw[g2,Nat.zero_add]
  ·rw[za5 _ hsp]
   refine hsee _ v ?_
   rw[List.getElem?_take] at hi
   split at hi
   ·rw[List.getElem?_drop] at hi;exact hi
   ·cases hi
 ·cases h
end Go.Ref

namespace Go.Ref
open Go
variable {P:Program} {E:Env} {X:Cfg} {s:State} {a:Act} {o:Oper} {u:Out}
theorem z2r{R:Type}{i:Int}{n:Nat}{x:Option R}{z:R}(h:zd i n x=some z):0≤i∧i<(n:Int)∧x=some z:=by
 unfold zd at h
 cases h1:decide (0≤i)<;>rw[h1] at h
 ·cases h
 ·cases h2:decide (i<(n:Int))<;>rw[h2] at h
  ·cases h
  ·exact⟨of_decide_eq_true h1,of_decide_eq_true h2,h⟩
theorem zpl{e:TypeId}{t:Ty}{xs:List (El t)}{cs:List Value}(h:Rep X (.sl e t) xs cs):∃A c,mkv (.sl e t) cs= .slice A xs.length c∧xs.length≤c∧
 ∀(j:Nat) x,xs[j]? =some x→∃ad cs',A=some ad∧ad.spot=none∧Rep X t x cs'∧∀(i:Nat) v,cs'[i]? =some v→X.sees (ad.add (j*t.cells+i)) v:=by
 obtain⟨A,c,rfl,h1,h2⟩:=h
 exact⟨A,c,rfl,h1,h2⟩
theorem Rep.slmk{e:TypeId}{t:Ty}{xs:List (El t)}{A:Option Addr}{n c:Nat}(hn:xs.length=n)(h1:n≤c)(h2:∀(j:Nat) x,xs[j]? =some x→∃ad cs',A=some ad∧ad.spot=none∧Rep X t x cs'∧∀(i:Nat) v,cs'[i]? =some v→X.sees (ad.add (j*t.cells+i)) v):Rep X (.sl e t) xs [.slice A n c]:=by
 subst hn
 exact⟨A,c,rfl,h1,h2⟩
theorem zlz{R:Type}{s:SV}{K:Int→Option R}{z:R}(h:s.num K=some z):∃n k,K n=some z∧∀(X:Cfg) pl v,RepV X pl s v→v= .int k n:=by
 unfold SV.num at h
 split at h
 ·rename_i k n w
  refine⟨n,k,h,fun X pl v hv=> ?_⟩
  obtain⟨cs,h1,h2,_⟩:=hv
  rw[h2,z1l h1]
 ·cases h
theorem zu7(hE:EnvOk P E)(hr:Rel X s a){ops:List Oper}{T:TypeId}{x i:Operand}(ho:o.op= .indexAddr T x i){C:FuncId→Fun' Out}(h:act E C ops o s some=some u):Done P X s a o u:=by
 unfold act at h
 simp only[ho] at h
 have hx:=hr.op1 x
 have hi:=hr.op1 i
 unfold zf5 at h
 obtain⟨n,ik,h,hn⟩:=zlz h
 have ei:=hn X _ _ hi
 split at h
 ·rename_i e t t' xs w hT hxe
  rw[hxe] at hx
  obtain⟨ys,h,hys⟩:=zx h
  obtain⟨h0,h1,h⟩:=z2r h
  cases h
  obtain⟨cs,rys,ev⟩:=hys X (plOf x) _ hx.bare
  obtain⟨A,c,hm,hle,hel⟩:=zpl rys
  rw[hm] at ev
  have hlt:n.toNat<List.length ys:=by omega
  obtain⟨ad,cs',rfl,hsp,hrep,hsee⟩:=hel n.toNat _ (getD_some (El.dflt t) hlt)
  have hu:=(hE.ty T _ hT).und
  refine Done.plain hr (v:= .pointer (some (ad.add (n.toNat*t.cells)))) ?_ ⟨ad.add (n.toNat*t.cells),cs',rfl,z40 hsp _,hrep,fun j v hj=> ?_⟩ (fun _ _ _ e'=>by cases e')
  ·simp only[execOp,ho,Sem.run_bind,Instr.indexAt,ei,ev,asIntOf,Sem.run_pure,Result.andThen_ok,run_underlying hu.1,Sem.run_ite,h0,h1,and_self,if_true,z15 hE hu.2]
  ·rw[za5 _ hsp];exact hsee j v hj
 ·rename_i m t id root p hT hxe
  rw[hxe] at hx
  obtain⟨r,hb,hx⟩:=hx
  split at h
  ·cases h
  rename_i hns
  have hns:root.isSpc=false:=by simpa using hns
  obtain⟨hv,hin⟩:=(z1j hns).1 hx
  split at h
  case h_2=>cases h
  rename_i u'' hat
  split at h
  case isFalse=>cases h
  rename_i heq
  have:=Ty.eqb_eq heq
  subst this
  obtain⟨h0,h1,h⟩:=z2r h
  cases h
  obtain⟨e,hu1,hu2,_⟩:=(hE.ty T _ hT).und
  have hlt:n.toNat<m:=by omega
  refine Done.plain hr (v:= .pointer (some ⟨r,root.off (p++ [n.toNat]),none⟩)) ?_ ⟨r,hb,(z1j hns).2 ⟨rfl,zb8 root p [n.toNat] _ hat hin ⟨hlt,by simp [Ty.inb]⟩⟩⟩ (fun id' t' p' e'=> ?_)
  ·simp only[execOp,ho,Sem.run_bind,Instr.indexAt,ei,hv,asIntOf,Sem.run_pure,Result.andThen_ok,run_underlying hu1,Instr.sureAddr,Sem.run_ite,h0,h1,and_self,if_true,z15 hE hu2]
   rw[z1f,z6w root p [n.toNat] _ hat]
   simp [Ty.off]
  ·injection e' with e1 e2 e3
   subst e1
   exact z59 hr hxe
 ·rename_i m t t' xs hT hxe
  rw[hxe] at hx
  obtain⟨ad,cs,hv,hsp,hrep,hsee⟩:=hx
  simp only[SV.el] at h
  split at h
  case isFalse=>cases h
  rename_i heq
  have:=Ty.eqb_eq heq
  subst this
  obtain⟨h0,h1,h⟩:=z2r h
  cases h
  obtain⟨e,hu1,hu2,_⟩:=(hE.ty T _ hT).und
  obtain⟨l1,l2,l3⟩:=hrep
  have hlt:n.toNat<m:=by omega
  have hgd:=l3 n.toNat _ (getD_some (El.dflt t) (by omega))
  refine Done.plain hr (v:= .pointer (some (ad.add (n.toNat*t.cells)))) ?_ ⟨ad.add (n.toNat*t.cells),_,rfl,z40 hsp _,hgd,fun j v hj=> ?_⟩ (fun _ _ _ e'=>by cases e')
  ·simp only[execOp,ho,Sem.run_bind,Instr.indexAt,ei,hv,asIntOf,Sem.run_pure,Result.andThen_ok,run_underlying hu1,Instr.sureAddr,Sem.run_ite,h0,h1,and_self,if_true,z15 hE hu2]
  ·rw[za5 _ hsp]
   refine hsee _ v ?_
   rw[List.getElem?_take] at hj
   split at hj
   ·rw[List.getElem?_drop] at hj;exact hj
   ·cases hj
 ·rename_i e0 t id r p hT hxe
  rw[hxe] at hx
  unfold z7z at h
  split at h
  case h_2=>cases h
  rename_i m ta tb
  split at h
  case isFalse=>cases h
  rename_i heq
  have:=Ty.eqb_eq heq
  subst this
  obtain⟨h0,h1,h⟩:=z2r h
  cases h
  obtain⟨r0,hb,cap,hv,hcap⟩:=hx
  have hu:=(hE.ty T _ hT).und
  refine Done.plain hr (v:= .pointer (some ⟨r0,n.toNat*ta.cells,none⟩)) ?_ ⟨r0,hb,rfl⟩ (fun id' t' p' e'=> ?_)
  ·simp only[execOp,ho,Sem.run_bind,Instr.indexAt,ei,hv,asIntOf,Sem.run_pure,Result.andThen_ok,run_underlying hu.1,Sem.run_ite,h0,h1,and_self,if_true,z15 hE hu.2]
   rw[z1f,Nat.zero_add]
  ·injection e' with e1 e2 e3
   subst e1
   exact z59 hr hxe
 ·cases h
theorem z64{pl:List Nat→Place}{t:Ty}{x:El t}{cs:List Value}(h:Rep X t x cs):RepV X pl (.dat t x []) (mkv t cs):=⟨cs,h,rfl,z1n⟩
theorem z13h(hE:EnvOk P E)(hr:Rel X s a){ops:List Oper}{T:TypeId}{x i:Operand}(ho:o.op= .index T x i){C:FuncId→Fun' Out}(h:act E C ops o s some=some u):Done P X s a o u:=by
 unfold act at h
 simp only[ho] at h
 have hx:=hr.op1 x
 have hi:=hr.op1 i
 unfold zf6 at h
 obtain⟨n,ik,h,hn⟩:=zlz h
 have ei:=hn X _ _ hi
 split at h
 ·rename_i hT
  obtain⟨st,h,hst⟩:=zx h
  obtain⟨h0,h1,h⟩:=z2r h
  cases h
  obtain⟨cs,rst,ev⟩:=hst X _ _ hx
  rw[z25 rst] at ev
  have hu:=(hE.ty T _ hT).und
  have hlt:n.toNat<st.size:=by omega
  refine Done.plain hr (v:= .int .u8 (ze st n.toNat)) ?_ zz (fun _ _ _ e'=>by cases e')
  have hget:st[n.toNat]? =some (st[n.toNat]'hlt):=getElem?_pos st n.toNat hlt
  simp only[execOp,ho,Sem.run_bind,Instr.index,ei,ev,asIntOf,Sem.run_pure,Result.andThen_ok,run_underlying hu,h0,if_true,hget]
  simp [ze,hlt]
 ·rename_i m t hT
  obtain⟨ys,h,hys⟩:=zx h
  obtain⟨h0,h1,h⟩:=z2r h
  cases h
  obtain⟨cs,rys,ev⟩:=hys X _ _ hx
  rw[z19 rfl] at ev
  obtain⟨e,hu1,hu2,_⟩:=(hE.ty T _ hT).und
  obtain⟨l1,l2,l3⟩:=rys
  have hlt:n.toNat<m:=by omega
  have hgd:=l3 n.toNat _ (getD_some (El.dflt t) (by omega))
  refine Done.plain hr ?_ (z64 hgd) (fun _ _ _ e'=>by cases e')
  have hp:=z4x hE hu2 hgd (all:=cs.toArray) (off:=n.toNat*t.cells) rfl X.w
  simp only[execOp,ho,Sem.run_bind,Instr.index,ei,ev,asIntOf,Sem.run_pure,Result.andThen_ok,run_underlying hu1,h0,h1,and_self,if_true,z15 hE hu2,hp]
 ·cases h
theorem z13g(hE:EnvOk P E)(hr:Rel X s a){ops:List Oper}{T:TypeId}{x:Operand}{j:Nat}(ho:o.op= .field T x j){C:FuncId→Fun' Out}(h:act E C ops o s some=some u):Done P X s a o u:=by
 unfold act at h
 simp only[ho] at h
 have hx:=hr.op1 x
 split at h
 case h_2=>cases h
 rename_i t hT
 split at h
 ·cases h
 rename_i hpair
 have hpair:t.isPair=true:=by simpa using hpair
 obtain⟨y,h,hy⟩:=zx h
 split at h
 case h_2=>cases h
 rename_i ft z hg
 cases h
 obtain⟨cs,rep,ev⟩:=hy X _ _ hx
 have hagg:t.agg=true:=by cases t<;>simp_all [Ty.isPair,Ty.agg]
 rw[z19 hagg] at ev
 obtain⟨fs,hu1,hu2⟩:=zbj hE hT hpair
 obtain⟨f,g1,g2,g3,hin⟩:=zk4 fs.toList t 0 j ft hu2 hpair (zf1 t [j] y ft z hg)
 obtain⟨k1,k2,k3⟩:=zag rep hin hg
 have hfield:fs[j]? =some f:=by rw[←Array.getElem?_toList];exact g1
 refine Done.plain hr ?_ (z64 k3) (fun _ _ _ e'=>by cases e')
 have hp:=z4x hE g3 k3 (all:=cs.toArray) (off:=f.offset) (by rw[g2,Nat.zero_add]) X.w
 simp only[execOp,ho,Sem.run_bind,Instr.field,run_underlying hu1,Result.andThen_ok,hfield,ev,asAgg,Sem.run_pure,hp]
theorem z1db(hE:EnvOk P E)(hr:Rel X s a){ops:List Oper}{x:Operand}{T:TypeId}{asv:Array Operand}{ts:Array TypeId}(ho:o.op= .call ⟨.builtin .len,asv,ts⟩){C:FuncId→Fun' Out}(h:act E C ops o s some=some u):Done P X s a o u:=by
 unfold act at h
 simp only[ho] at h
 split at h
 case h_2=>cases h
 rename_i x T hxs hTs
 have has:asv= #[x]:=by rw[←Array.toArray_toList (xs:=asv),hxs]
 have hts:ts= #[T]:=by rw[←Array.toArray_toList (xs:=ts),hTs]
 subst has hts
 have hx:=hr.op1 x
 unfold lenV at h
 split at h
 ·rename_i hT
  obtain⟨st,h,hst⟩:=zx h
  cases h
  obtain⟨cs,rst,ev⟩:=hst X _ _ hx
  rw[z25 rst] at ev
  have hu:=(hE.ty T _ hT).und
  refine Done.plain hr (v:= .int .i64 st.size) ?_ zz (fun _ _ _ e'=>by cases e')
  simp [execOp,ho,resolve,invoke,builtin,Builtin.len_,ev,run_underlying hu,goInt]
 ·rename_i e t hT
  have hu:=(hE.ty T _ hT).und
  split at h
  ·rename_i id n ta tb hxe
   cases h
   rw[hxe] at hx
   obtain⟨r0,hb,cap,ev,hcap⟩:=hx
   refine Done.plain hr (v:= .int .i64 n) ?_ zz (fun _ _ _ e'=>by cases e')
   simp [execOp,ho,resolve,invoke,builtin,Builtin.len_,ev,run_underlying hu.1,goInt]
  ·obtain⟨xs,h,hxs'⟩:=zx h
   cases h
   obtain⟨cs,rxs,ev⟩:=hxs' X _ _ hx
   obtain⟨A,c,hm,_,_⟩:=zpl rxs
   rw[hm] at ev
   refine Done.plain hr (v:= .int .i64 (List.length xs)) ?_ zz (fun _ _ _ e'=>by cases e')
   simp [execOp,ho,resolve,invoke,builtin,Builtin.len_,ev,run_underlying hu.1,goInt]
 ·rename_i n t hT
  cases h
  obtain⟨e,hu1,hu2,_⟩:=(hE.ty T _ hT).und
  refine Done.plain hr (v:= .int .i64 n) ?_ zz (fun _ _ _ e'=>by cases e')
  simp [execOp,ho,resolve,invoke,builtin,Builtin.len_,run_underlying hu1,goInt]
 ·cases h
theorem zvj(hr:Rel X s a){ops:List Oper}{g:Bool}{asv:Array Operand}{ts:Array TypeId}(ho:o.op= .call ⟨.builtin (if g then .max else .min),asv,ts⟩){C:FuncId→Fun' Out}(h:act E C ops o s some=some u):Done P X s a o u:=by
 have key:∀x y,asv= #[x,y]→mostV g (s.op1 x) (s.op1 y) some=some u→Done P X s a o u:=by
  intro x y has h
  subst has
  have hx:=hr.op1 x
  have hy:=hr.op1 y
  unfold mostV at h
  split at h
  case h_2=>cases h
  rename_i k m _ k' n _ e1 e2
  rw[e1] at hx
  rw[e2] at hy
  have vx:=z2f hx
  have vy:=z2f hy
  cases h
  refine Done.plain hr (v:= .int k (bif g then(if(m:Int)<n then n else m) else(if(n:Int)<m then n else m))) ?_ zz (fun _ _ _ e'=>by cases e')
  cases g
  ·simp [execOp,ho,resolve,invoke,builtin,Builtin.min_,Builtin.min2,vx,vy]
  ·simp [execOp,ho,resolve,invoke,builtin,Builtin.max_,Builtin.max2,vx,vy]
 unfold act at h
 cases g with
 |true=>
  simp only[ho,if_true] at h
  split at h
  ·rename_i x y e
   exact key x y (by rw[←Array.toArray_toList (xs:=asv),e]) h
  ·cases h
 |false=>
  simp only[ho,Bool.false_eq_true,if_false] at h
  split at h
  ·rename_i x y e
   exact key x y (by rw[←Array.toArray_toList (xs:=asv),e]) h
  ·cases h
theorem z1hd(hr:Rel X s a){ops:List Oper}{op:UnOp}{T:TypeId}{x:Operand}(ho:o.op= .unOp op T x){C:FuncId→Fun' Out}(h:act E C ops o s some=some u):Done P X s a o u:=by
 unfold act at h
 simp only[ho] at h
 have hx:=hr.op1 x
 unfold unV at h
 split at h
 ·rename_i b w e
  rw[e] at hx
  cases h
  refine Done.plain hr (v:= .bool (!b)) ?_ z1e (fun _ _ _ e'=>by cases e')
  simp [execOp,ho,z3t hx,Op.unary]
 ·rename_i k n w e
  rw[e] at hx
  cases h
  refine Done.plain hr (v:= .int k (k.wrap (0-n))) ?_ zz (fun _ _ _ e'=>by cases e')
  simp [execOp,ho,z2f hx,Op.unary,Op.intArith]
 ·cases h
theorem zx5(hr:Rel X s a){ops:List Oper}{x:Operand}(ho:o.op= .nilCheck x){C:FuncId→Fun' Out}(h:act E C ops o s some=some u):Done P X s a o u:=by
 unfold act at h
 simp only[ho] at h
 have hx:=hr.op1 x
 split at h
 ·rename_i id t p e
  rw[e] at hx
  split at h
  ·cases h
  rename_i hns
  have hns:t.isSpc=false:=by simpa using hns
  cases h
  obtain⟨r,h1,hx⟩:=hx
  obtain⟨h2,h3⟩:=(z1j hns).1 hx
  refine Done.plain hr (v:= .pointer (some ⟨r,t.off p,none⟩)) ?_ ⟨r,h1,(z1j hns).2 ⟨rfl,h3⟩⟩ (fun id' t' p' e'=> ?_)
  ·simp [execOp,ho,h2]
  ·injection e' with e1 e2 e3
   subst e1
   exact z59 hr e
 ·rename_i t y e
  rw[e] at hx
  cases h
  obtain⟨ad,cs,h1,h2⟩:=hx
  refine Done.plain hr (v:= .pointer (some ad)) ?_ ⟨ad,cs,rfl,h2⟩ (fun _ _ _ e'=>by cases e')
  simp [execOp,ho,h1]
 ·cases h
theorem zyr(hr:Rel X s a){ops:List Oper}{x:Operand}{j:Nat}(ho:o.op= .extract x j){C:FuncId→Fun' Out}(h:act E C ops o s some=some u):Done P X s a o u:=by
 unfold act at h
 simp only[ho] at h
 split at h
 case h_2=>cases h
 rename_i t
 have hs:=hr.slot t
 split at h
 ·rename_i hlen
  split at h
  case h_2=>cases h
  rename_i hone
  cases h
  have hov:=hr.op1 (.tmp t)
  rw[show s.op1 (.tmp t)=SV.over from hone] at hov
  have hov:a.eval (.tmp t)= .tuple #[.bool false]:=hov
  refine Done.plain hr (v:= .bool false) ?_ z1e (fun _ _ _ e'=>by cases e')
  simp [execOp,ho,hov,Instr.extract]
 rename_i hlen
 have hl1:(s.slot t).length≠1:=fun e=>hlen (by rw[e];rfl)
 have htup:∃vs:Array Value,a.tmps.getD t Go.undef= .tuple vs∧vs.size=(s.slot t).length∧∀(j:Nat) sv v,(s.slot t)[j]? =some sv→vs[j]? =some v→RepV X (.c t j) sv v:=by
  match hm:s.slot t with
  | [sv]=>rw[hm] at hl1;exact absurd rfl hl1
  | []=>rw[hm] at hs;exact hs
  |_::_::_=>rw[hm] at hs;exact hs
 obtain⟨vs,h1,h2,h3⟩:=htup
 have hrun:∀v,vs[j]? =some v→(execOp a.eval o).run P X.w= .ok (.value v) X.w:=by
  intro v hv
  simp only[execOp,ho,Act.eval,h1,Sem.run_bind,Instr.extract,hv,Sem.run_pure,Result.andThen_ok]
 have hv:∀sv,(s.slot t)[j]? =some sv→∃v,vs[j]? =some v:=by
  intro sv hsv
  have:=(List.getElem?_eq_some_iff.1 hsv).1
  exact⟨_,Array.getElem?_eq_getElem (by omega)⟩
 split at h
 ·rename_i ut y w e
  cases h
  obtain⟨v,hv⟩:=hv _ e
  cases w with
  |nil=>exact Done.plain hr (hrun v hv) (h3 j _ v e hv).bare (fun _ _ _ h=>by cases h)
  |cons p w=>exact Done.moved hr (hrun v hv) (h3 j _ v e hv)
 ·cases h
 ·rename_i sv h4 h5 e
  cases h
  obtain⟨v,hv⟩:=hv _ e
  refine Done.plain hr (hrun v hv) ((h3 j _ v e hv).place ?_) (fun id ty p e'=> ?_)
  ·cases sv with
   |dat ut y w=>exact(h4 ut y w rfl).elim
   |_=>trivial
  ·by_cases hlt:t<s.sl.length
   ·refine hr.live t _ id ty p (z4l hlt) ?_
    rw[←e'];exact List.mem_of_getElem? e
   ·have:s.slot t=[.undef]:=by simp [State.slot,List.getElem?_eq_none (Nat.le_of_not_lt hlt)]
    rw[this] at hl1
    exact absurd rfl hl1
 ·cases h
end Go.Ref

namespace Go.Ref
open Go
variable {P:Program} {E:Env} {X:Cfg} {s:State} {a:Act} {o:Oper} {u:Out}
def IsAt(v:Option SV)(n:Nat)(d:Nat):Prop:=match v with
 |none=>n=d
 |some v=>∀(X:Cfg) pl val,RepV X pl v val→val= .int .i64 (n:Int)
theorem z10d{l:Int}{m:Nat}(h1:0≤l)(h2:l≤(m:Int)):l.toNat≤m:=by omega
theorem zpr{l:Int}(h1:0≤l):((l.toNat:Nat):Int)=l:=by omega
theorem z8r{R:Type}{lo:Option SV}{m:Nat}{G:Nat→Option R}{z:R}(h:z5g lo m G=some z):∃l,G l=some z∧l≤m∧IsAt lo l 0:=by
 unfold z5g at h
 cases lo with
 |none=>exact⟨0,h,Nat.zero_le _,rfl⟩
 |some v=>
  obtain⟨l,h,hl⟩:=zx h
  cases h1:decide (0≤l)<;>rw[h1] at h
  ·cases h
  ·cases h2:decide (l≤(m:Int))<;>rw[h2] at h
   ·cases h
   ·have h1:=of_decide_eq_true h1
    have h2:=of_decide_eq_true h2
    refine⟨l.toNat,h,z10d h1 h2,fun X pl val hv=> ?_⟩
    obtain⟨cs,r,e⟩:=hl X pl val hv
    rw[e,z1l r,zpr h1]
theorem zon{R:Type}{lo hi:Option SV}{n:Nat}{F:Nat→Nat→Option R}{z:R}(h:cutAt lo hi n F=some z):∃l m,F l m=some z∧l≤m∧m≤n∧IsAt lo l 0∧IsAt hi m n:=by
 unfold cutAt at h
 cases hi with
 |none=>
  obtain⟨l,h1,h2,h3⟩:=z8r h
  exact⟨l,n,h1,h2,Nat.le_refl _,h3,rfl⟩
 |some v=>
  obtain⟨m,h,hm⟩:=zx h
  cases h1:decide (0≤m)<;>rw[h1] at h
  ·cases h
  ·cases h2:decide (m≤(n:Int))<;>rw[h2] at h
   ·cases h
   ·have h1:=of_decide_eq_true h1
    have h2:=of_decide_eq_true h2
    have h:z5g lo (Int.toNat m) (fun l=>F l (Int.toNat m))=some z:=h
    obtain⟨l,g1,g2,g3⟩:=z8r h
    refine⟨l,m.toNat,g1,g2,z10d h1 h2,g3,fun X pl val hv=> ?_⟩
    obtain⟨cs,r,e⟩:=hm X pl val hv
    rw[e,z1l r,zpr h1]
theorem IsAt.val(hr:Rel X s a){x:Option Operand}{n d:Nat}(h:IsAt (x.map s.op1) n d):(x=none∧n=d)∨x.map a.eval=some (.int .i64 (n:Int)):=by
 cases x with
 |none=>exact .inl ⟨rfl,h⟩
 |some x=>exact .inr (by rw[Option.map_some,h X _ _ (hr.op1 x)])
theorem zav(hr:Rel X s a){isS:Bool}{lo hi:Option Operand}{l m n c:Nat}(hl:IsAt (lo.map s.op1) l 0)(hm:IsAt (hi.map s.op1) m n)(h1:l≤m)(h2:m≤n)(h3:n≤c)(w:World):
 (Instr.sliceBounds isS n c (lo.map a.eval) (hi.map a.eval) none).run P w= .ok (l,m,c) w:=by
 have sb:∀(i y:Nat) (code:BoundsCode),i≤y→(Instr.sliceBound (.int .i64 (i:Int)) y code).run P w= .ok i w:=by
  intro i y code h
  rw[run_sliceBound (P:=P) (w:=w) .i64 (i:Int) y code (by omega) (by omega)]
  simp
 rcases hl.val hr with⟨rfl,rfl⟩|hl<;>rcases hm.val hr with⟨rfl,rfl⟩|hm
 ·simp [Instr.sliceBounds]
 ·simp [Instr.sliceBounds,hm,sb m c _ (by omega)]
 ·simp [Instr.sliceBounds,hl,sb l m _ h1]
 ·simp [Instr.sliceBounds,hl,hm,sb l m _ h1,sb m c _ (by omega)]
theorem z189(hE:EnvOk P E)(hr:Rel X s a){T:TypeId}{x:Operand}{lo hi:Option Operand}(ho:o.op= .slice T x lo hi none)(h:cutV E T (s.op1 x) (lo.map s.op1) (hi.map s.op1) some=some u):Done P X s a o u:=by
 have hx:=hr.op1 x
 unfold cutV at h
 split at h
 ·rename_i hT
  obtain⟨st,h,hst⟩:=zx h
  obtain⟨l,m,h,h1,h2,hl,hm⟩:=zon h
  cases h
  obtain⟨cs,rst,ev⟩:=hst X _ _ hx
  rw[z25 rst] at ev
  have hu:=(hE.ty T _ hT).und
  refine Done.plain hr (v:= .string (st.extract l m)) ?_ z45 (fun _ _ _ e'=>by cases e')
  simp only[execOp,ho,Sem.run_bind,Instr.sliceAt,run_underlying hu,Result.andThen_ok,Instr.slice,ev,Option.map_none,Option.isSome_none,Bool.false_eq_true,if_false,zav hr hl hm h1 h2 (Nat.le_refl _),Sem.run_pure]
 ·rename_i e t hT
  obtain⟨xs,h,hxs⟩:=zx h
  obtain⟨l,m,h,h1,h2,hl,hm⟩:=zon h
  cases h
  obtain⟨cs,rxs,ev⟩:=hxs X _ _ hx
  obtain⟨A,c,hmk,hle,hel⟩:=zpl rxs
  rw[hmk] at ev
  have hu:=(hE.ty T _ hT).und
  have hlen:((List.take m xs).drop l).length=m-l:=by rw[List.length_drop,List.length_take,Nat.min_eq_left h2]
  refine Done.plain hr (v:= .slice (if c=l then A else A.map (·.add (l*t.cells))) (m-l) (c-l)) ?_ ⟨_,Rep.slmk (A:=if c=l then A else A.map (·.add (l*t.cells))) (n:=m-l) (c:=c-l) hlen (by omega) (fun j y hj=> ?_),rfl,z1n⟩ (fun _ _ _ e'=>by cases e')
  ·simp only[execOp,ho,Sem.run_bind,Instr.sliceAt,run_underlying hu.1,Result.andThen_ok,Instr.slice,ev,Option.map_none,zav hr hl hm h1 h2 hle,Sem.run_pure,z15 hE hu.2]
  ·have hjl:=(List.getElem?_eq_some_iff.1 hj).1
   rw[hlen] at hjl
   have hj':xs[l+j]? =some y:=by
    rw[List.getElem?_drop,List.getElem?_take,if_pos (by omega)] at hj
    exact hj
   obtain⟨ad,cs',rfl,hsp,hrep,hsee⟩:=hel (l+j) y hj'
   rw[if_neg (by omega)]
   refine⟨ad.add (l*t.cells),cs',rfl,z40 hsp _,hrep,fun i v hi=> ?_⟩
   rw[za5 _ hsp,←Nat.add_assoc,←Nat.add_mul]
   exact hsee i v hi
 ·cases h
theorem z13e(hE:EnvOk P E)(hr:Rel X s a){S T:TypeId}{x:Operand}(ho:o.op= .convert S T x)(h:convV E S T (s.op1 x) some=some u):Done P X s a o u:=by
 have hx:=hr.op1 x
 unfold convV at h
 split at h
 ·rename_i k k' hS hT
  obtain⟨n,h,hn⟩:=zx h
  cases h
  obtain⟨cs,rn,ev⟩:=hn X _ _ hx
  rw[z1l rn] at ev
  have hu:=(hE.ty S _ hS).und
  have hv:=(hE.ty T _ hT).und
  refine Done.plain hr (v:= .int k' (k'.wrap n)) ?_ zz (fun _ _ _ e'=>by cases e')
  simp [execOp,ho,ev,convert,run_underlying hu,run_underlying hv,Conv.intToInt]
 ·rename_i hS hT
  obtain⟨st,h,hst⟩:=zx h
  cases h
  obtain⟨cs,rn,ev⟩:=hst X _ _ hx
  rw[z25 rn] at ev
  have hu:=(hE.ty S _ hS).und
  have hv:=(hE.ty T _ hT).und
  refine Done.plain hr (v:= .string st) ?_ z45 (fun _ _ _ e'=>by cases e')
  simp [execOp,ho,ev,convert,run_underlying hu,run_underlying hv]
 ·rename_i e hS hT
  obtain⟨xs,h,hxs⟩:=zx h
  cases h
  obtain⟨cs,rxs,ev⟩:=hxs X _ _ hx
  obtain⟨A,c,hmk,hle,hel⟩:=zpl rxs
  rw[hmk] at ev
  have hu:=(hE.ty S _ hS).und
  have he:=(hE.ty e _ hu.2).und
  have hv:=(hE.ty T _ hT).und
  refine Done.plain hr (v:= .string (strOf xs)) ?_ z45 (fun _ _ _ e'=>by cases e')
  have key:(convert S T (.slice A (List.length xs) c)).run P X.w= .ok (.string (strOf xs)) X.w:=by
   cases A with
   |none=>
    have hnil:xs=[]:=by
     cases xs with
     |nil=>rfl
     |cons y ys=>obtain⟨ad,_,h,_⟩:=hel 0 y rfl;cases h
    rw[run_convert_bytes_nil X.w S e hu.1 he _ _ T hv,hnil]
    rfl
   |some ad=>
    rw[run_convert_bytes_string X.w S T e _ _ c hu.1 he hv]
    have hload:(loadCells ad (List.length xs)).run P X.w= .ok (List.map (Value.int .u8) xs).toArray X.w:=by
     have:=run_loadCells_list (P:=P) X.w ad (List.map (Value.int .u8) xs) (fun j v hj=>by
      obtain⟨y,hy,rfl⟩:=List.getElem?_map .. ▸hj|>Option.map_eq_some_iff.1
      obtain⟨ad',cs',h1,hsp,hrep,hsee⟩:=hel j y hy
      cases h1
      have hc:cs'=[.int .u8 y]:=hrep
      have:=hsee 0 (.int .u8 y) (by rw[hc];rfl)
      have h2:=this.2.1
      simpa [Ty.cells] using h2)
     rw[List.length_map] at this
     exact this
    rw[run_bytesToString X.w ad _ c xs hload,foldl_push_bytes]
    simp [strOf,ByteArray.empty,ByteArray.emptyWithCapacity]
    rfl
  simp only[execOp,ho,Sem.run_bind,ev,key,Result.andThen_ok,Sem.run_pure]
 ·cases h
def Cfg.new(X:Cfg)(cs:Array Value)(T:TypeId)(w:Ow)(β:Nat→Option Nat):Cfg:={w:=X.w.alloc (.cells cs T),ow:=fun g=>if g=X.w.heap.size then w else X.ow g,β}
theorem zlx(X:Cfg)(s:State)(cs:Array Value)(T:TypeId)(w:Ow)(β:Nat→Option Nat)(hβ0:β 0=X.β 0)(hβ:∀(id:Nat) B,s.bs[id]? =some (some B)→β id=X.β id):Keep s X (X.new cs T w β) where
 size:=by simp [Cfg.new]
 os:=rfl
 tape:=rfl
 output:=rfl
 blk:=fun g hg=>⟨by simp only[Cfg.new];rw[if_neg (by omega)],RowKit.Below.heap_alloc _ _ _ hg⟩
 β0:=hβ0
 β:=hβ
theorem zf9(X:Cfg)(cs:Array Value)(T:TypeId)(w:Ow)(β:Nat→Option Nat):(X.new cs T w β).w.heap[X.w.heap.size]? =some (.cells cs T (0,0))∧(X.new cs T w β).ow X.w.heap.size=w:=⟨heap_alloc_new X.w _,by simp [Cfg.new]⟩
theorem zbd(T:TypeId)(v:Value)(w:World):(newVar T v).run P w= .ok ⟨w.heap.size,0,none⟩ (w.alloc (.cells v.cells T)):=by
 simp [newVar,newRow]
theorem Rel.newBox{Y:Cfg}(hr:Rel Y s a){d r:Nat}{B:Box}(hd:d<s.bs.length)(hb:s.bs[d]? =some none)(hβ:Y.β d=some r)(h:BoxAt Y d r B):Rel Y (s.putBox (some (d,B))) a where
 size:=hr.size
 bsz:=by simpa [State.putBox] using hr.bsz
 slots:=hr.slots
 boxes:=fun id B' hB'=>by
  simp only[State.putBox,List.getElem?_set] at hB'
  by_cases e:d=id
  ·subst e
   rw[if_pos rfl,if_pos hd] at hB'
   cases hB';exact⟨r,hβ,h⟩
  ·rw[if_neg e] at hB'
   exact hr.boxes id B' hB'
 live:=fun i l id t p hi hm=>by
  obtain⟨B',hB'⟩:=hr.live i l id t p hi hm
  simp only[State.putBox,List.getElem?_set]
  by_cases e:d=id
  ·subst e;rw[hb] at hB';cases hB'
  ·rw[if_neg e];exact⟨B',hB'⟩
 defers:=hr.defers
theorem z2h{d:Nat}{B:Box}(h:s.box d=some B):s.bs[d]? =some (some B):=by
 unfold State.box at h
 rw[List.getD_eq_getElem?_getD] at h
 cases hg:s.bs[d]? with
 |none=>rw[hg] at h;cases h
 |some x=>rw[hg] at h;simp at h;rw[h]
theorem zun(hr:Rel X s a){x:Operand}{t:Ty}{R:Type}{K:El t→Option R}{z:R}(h:(s.op1 x).el t K=some z){c:List (Nat×Nat)}(hc:c=src x∨((s.op1 x).own=[]∧c=[])):
 ∃y,K y=some z∧∀q:List Nat→Place,∃Y cs,Y.w=X.w∧Ext X Y∧Rel Y (s.close c) a∧Rep Y t y cs∧a.eval x=mkv t cs∧OwnP Y q t y cs (s.op1 x).own∧Y.β=X.β∧Turn (s.close c) X Y∧Stay X Y:=by
 have hx:=hr.op1 x
 cases hs:s.op1 x with
 |dat t' y' w=>
  rw[hs] at hx h hc
  simp only[SV.el] at h
  split at h
  case isFalse=>cases h
  rename_i heq
  have:=Ty.eqb_eq heq
  subst this
  refine⟨y',h,fun q=> ?_⟩
  have plain:w=[]→∃Y cs,Y.w=X.w∧Ext X Y∧Rel Y (s.close c) a∧Rep Y t' y' cs∧a.eval x=mkv t' cs∧OwnP Y q t' y' cs (SV.dat t' y' w).own∧Y.β=X.β∧Turn (s.close c) X Y∧Stay X Y:=by
   intro hw
   subst hw
   obtain⟨cs,h1,h2,_⟩:=hx
   exact⟨X,cs,rfl,Ext.refl X,hr.close _,h1,h2,z1n,rfl,Turn.refl _ _,Stay.refl X⟩
  rcases hc with hc|⟨hw,_⟩
  ·cases x with
   |tmp i=>
    obtain⟨Y,h1,h2,h3,⟨cs,h4,h5,h6⟩,h7,h8,h9⟩:=hr.take hx q
    subst hc
    exact⟨Y,cs,h1,h2,h3,h4,h5,h6,h7,h8,h9⟩
   |const v=>exact plain (zen (show z56 v= .dat t' y' w from hs))
   |_=>simp [State.op1,State.opd,one] at hs
  ·exact plain hw
 |nilS=>
  rw[hs] at hx h
  cases t<;>simp only[SV.el] at h<;>try(cases h;done)
  rename_i e t
  refine⟨[],h,fun q=>⟨X,[.slice none 0 0],rfl,Ext.refl X,hr.close _,⟨none,0,rfl,Nat.le_refl _,fun j x hj=>by simp at hj⟩,hx,fun p hp=> ?_,rfl,Turn.refl _ _,Stay.refl X⟩⟩
  have hp:p=[]:=by simpa [SV.own] using hp
  subst hp
  exact⟨e,t,[],_,by simp [Ty.inb],rfl,rfl,.inl ⟨rfl,rfl⟩⟩
 |_=>rw[hs] at h;simp [SV.el] at h
theorem Done.newBox{P:Program}(hr:Rel X s a){d:Nat}{T:TypeId}{t:Ty}{y:El t}{cs:List Value}{own:List (List Nat)}{c:List (Nat×Nat)}{W:Cfg}
 (hns:t.isSpc=false) (hd:o.dst=some d) (hb:s.bs[d+1]? =some none) (hW:W.w=X.w) (hX:Ext X W) (hrW:Rel W (s.close c) a) (hrep:Rep W t y cs)
 (hown:OwnP W (.b (d+1)) t y cs own)
 (hrun:(execOp a.eval o).run P X.w= .ok (.value (.pointer (some ⟨X.w.heap.size,0,none⟩))) (X.w.alloc (.cells cs.toArray T))):Done P X s a o {v:=[.ptr (d+1) t []],bx:=some (d+1,⟨t,y,own⟩),cl:=c}:=by
 let β:Nat→Option Nat:=fun id=>if id=d+1 then some W.w.heap.size else W.β id
 have hlt:d+1<s.bs.length:=(List.getElem?_eq_some_iff.1 hb).1
 have hbs:(s.close c).bs[d+1]? =some none:=by rw[z3o];exact hb
 have hk:Keep (s.close c) W (W.new cs.toArray T (.box (d+1)) β):=zlx W _ _ _ _ _ (by show(if _ then _ else _)=_;rw[if_neg (by omega)]) (fun id B hB=>by
  show(if id=d+1 then _ else _)=_
  rw[if_neg (fun e=>by rw[e,hbs] at hB;cases hB)])
 obtain⟨n1,n2⟩:=zf9 W cs.toArray T (.box (d+1)) β
 have hbox:BoxAt (W.new cs.toArray T (.box (d+1)) β) (d+1) W.w.heap.size ⟨t,y,own⟩:=
  ⟨n2,Held.of hns n1 (by simpa using hrep.sees_mono (fun _ _=>hk.sees)) (by simpa using hown.keep hk)⟩
 have hβd:β (d+1)=some W.w.heap.size:=by show(if d+1=d+1 then _ else _)=_;rw[if_pos rfl]
 have hr2:=(hrW.keep hk).newBox (by rw[z3o];exact hlt) hbs hβd hbox
 refine⟨W.new cs.toArray T (.box (d+1)) β,.pointer (some ⟨X.w.heap.size,0,none⟩),.inl ?_,hX.trans hk.ext,?_⟩
 ·rw[hrun];simp [Cfg.new,hW]
 ·rw[hd]
  refine hr2.put (fun d' e=> ?_) (fun id t' p hm=> ?_)
  ·cases e
   refine⟨W.w.heap.size,hβd,(z1j hns).2 ⟨?_,by simp [Ty.inb]⟩⟩
   rw[hW]
   simp [Ty.off]
  ·have:id=d+1:=by have:=hm;simp at this;exact this.1
   subst this
   exact⟨⟨t,y,own⟩,by simp [State.putBox,List.getElem?_set,z3o,hlt]⟩
theorem zbk(hE:EnvOk P E){T:TypeId}{t:Ty}(ht:E.ty T=some t)(w:World):(zeroValue T).run P w= .ok (mkv t (zq t)) w:=by
 obtain⟨i,h1,_,_,h2⟩:=(hE.ty T t ht).info
 simp [zeroValue,typeInfo,h1,h2]
theorem zwb(X:Cfg)(pl:List Nat→Place):∀t:Ty,OwnP X pl t (El.dflt t) (zq t) (z3q t):=by
 intro t
 induction t generalizing pl with
 |sl e t=>
  intro p hp
  have hp:p=[]:=by simpa [z3q] using hp
  subst hp
  exact⟨e,t,[],.slice none 0 0,by simp [Ty.inb],rfl,rfl,.inl ⟨rfl,rfl⟩⟩
 |pair ta tb iha ihb=>
  intro p hp
  simp only[z3q,List.mem_append,List.mem_map,List.mem_filterMap] at hp
  rcases hp with⟨q,hq,rfl⟩|⟨q,hq,he⟩
  ·obtain⟨e,t',xs,v,g0,g1,g2,g3⟩:=iha (fun q=>pl (0::q)) q hq
   refine⟨e,t',xs,v,g0,g1,?_,g3⟩
   have hl:=(List.getElem?_eq_some_iff.1 g2).1
   simp only[Ty.off,zq]
   rw[List.getElem?_append_left hl]
   exact g2
  ·cases q with
   |nil=>simp [bump] at he
   |cons j q=>
    simp only[bump,Option.some.injEq] at he
    subst he
    obtain⟨e,t',xs,v,g0,g1,g2,g3⟩:=ihb (fun q=>match q with| []=>pl []|j::q=>pl ((j+1)::q)) (j::q) hq
    refine⟨e,t',xs,v,g0,g1,?_,g3⟩
    simp only[Ty.off,zq]
    rw[List.getElem?_append_right (by rw[z2c];omega),z2c,Nat.add_sub_cancel_left]
    exact g2
 |_=>intro p hp;simp [z3q] at hp
theorem Done.newBld{P:Program}(hr:Rel X s a){d:Nat}{T e:TypeId}(hd:o.dst=some d)(hb:s.bs[d+1]? =some none)
 (hrun:(execOp a.eval o).run P X.w= .ok (.value (.pointer (some ⟨X.w.heap.size,0,none⟩))) (X.w.alloc (.cells #[.pointer none,.slice none 0 0] T))):
 Done P X s a o {v:=[.ptr (d+1) (.spc (.bld T e) .unit .unit) []],bx:=some (d+1,⟨.spc (.bld T e) .unit .unit,(⟨#[]⟩:ByteArray),[[]]⟩)}:=by
 let β:Nat→Option Nat:=fun id=>if id=d+1 then some X.w.heap.size else X.β id
 have hlt:d+1<s.bs.length:=(List.getElem?_eq_some_iff.1 hb).1
 have hk:Keep s X (X.new #[.pointer none,.slice none 0 0] T (.box (d+1)) β):=zlx X _ _ _ _ _ (by show(if _ then _ else _)=_;rw[if_neg (by omega)]) (fun id B hB=>by
  show(if id=d+1 then _ else _)=_
  rw[if_neg (fun e=>by rw[e,hb] at hB;cases hB)])
 obtain⟨n1,n2⟩:=zf9 X #[.pointer none,.slice none 0 0] T (.box (d+1)) β
 have hbox:BoxAt (X.new #[.pointer none,.slice none 0 0] T (.box (d+1)) β) (d+1) X.w.heap.size ⟨.spc (.bld T e) .unit .unit,(⟨#[]⟩:ByteArray),[[]]⟩:=
  ⟨n2,⟨_,n1⟩,fun _=>⟨.slice none 0 0,⟨.inl n1,⟨rfl,.inl ⟨rfl,rfl⟩⟩,by simp [Value.ownBlock]⟩,fun g hg=>by simp [Value.ownBlock] at hg⟩⟩
 have hβd:β (d+1)=some X.w.heap.size:=by show(if d+1=d+1 then _ else _)=_;rw[if_pos rfl]
 have hr2:=(hr.keep hk).newBox hlt hb hβd hbox
 refine⟨X.new #[.pointer none,.slice none 0 0] T (.box (d+1)) β,.pointer (some ⟨X.w.heap.size,0,none⟩),.inl hrun,hk.ext,?_⟩
 rw[hd]
 refine hr2.put (fun d' e=> ?_) (fun id t' p hm=> ?_)
 ·cases e
  exact⟨X.w.heap.size,hβd,(z83 rfl).2 ⟨by simp [Ty.off],by simp [Ty.inb]⟩⟩
 ·have:id=d+1:=by have:=hm;simp at this;exact this.1
  subst this
  exact⟨_,by simp [State.putBox,List.getElem?_set,hlt];rfl⟩
theorem z13a(hE:EnvOk P E)(hr:Rel X s a){ops:List Oper}{T:TypeId}(ho:o.op= .alloc T){C:FuncId→Fun' Out}(h:act E C ops o s some=some u):Done P X s a o u:=by
 unfold act at h
 simp only[ho] at h
 split at h
 case h_3=>cases h
 case h_2=>
  rename_i d hT hd
  split at h
  case h_2=>cases h
  rename_i e hbl
  split at h
  case h_2=>cases h
  rename_i hb
  cases h
  obtain⟨i,h1,h2⟩:=hE.bl T e hbl
  refine Done.newBld hr hd hb ?_
  have hz:(zeroValue T).run P X.w= .ok (.agg #[.pointer none,.slice none 0 0]) X.w:=by simp [zeroValue,typeInfo,h1,h2]
  simp only[execOp,ho,Sem.run_bind,Instr.alloc,hz,Result.andThen_ok,zbd,Sem.run_pure]
  rfl
 rename_i t d hT hd
 split at h
 case h_2=>cases h
 rename_i hb
 cases h
 have hrep:=z2x X t
 refine Done.newBox (T:=T) (cs:=zq t) (W:=X) (c:=[]) hr (hE.notSpc hT) hd hb rfl (Ext.refl X) hr hrep (zwb X _ t) ?_
 simp only[execOp,ho,Sem.run_bind,Instr.alloc,zbk hE hT,Result.andThen_ok,zbd,z33 hrep,Sem.run_pure]
theorem z1d9(hE:EnvOk P E)(hr:Rel X s a){ops:List Oper}{T:TypeId}{x:Operand}(ho:o.op= .box T x){C:FuncId→Fun' Out}(h:act E C ops o s some=some u):Done P X s a o u:=by
 unfold act at h
 simp only[ho] at h
 split at h
 case h_2=>cases h
 rename_i t d hT hd
 split at h
 case h_2=>cases h
 rename_i hb
 obtain⟨y,h,hy⟩:=zun hr h (.inl rfl)
 cases h
 obtain⟨W,cs,h1,h2,h3,h4,h5,h6,_,_,_⟩:=hy (.b (d+1))
 refine Done.newBox (T:=T) (cs:=cs) (W:=W) hr (hE.notSpc hT) hd hb h1 h2 h3 h4 h6 ?_
 simp only[execOp,ho,Sem.run_bind,Instr.box,zbd,Result.andThen_ok,Sem.run_pure,h5,z33 h4]
end Go.Ref

namespace Go.Ref
open Go
variable {P:Program} {E:Env} {X:Cfg} {s:State} {a:Act} {o:Oper} {u:Out}
theorem z3w(hE:EnvOk P E){T:TypeId}{t:Ty}(ht:E.ty T=some t){x:El t}{cs:List Value}(hr:Rep X t x cs){ad:Addr}{w:World}(hc:∀(i:Nat) v,cs[i]? =some v→w.cell? (ad.add i)=some v):(loadVar T ad).run P w= .ok (mkv t cs) w:=by
 have hl:=hr.len
 unfold loadVar
 simp only[Sem.run_bind,zw5 hE ht,Result.andThen_ok]
 cases hg:t.agg with
 |true=>
  have:=run_loadCells_list (P:=P) w ad cs hc
  rw[hl] at this
  simp only[if_true,Sem.run_bind,z15 hE ht,Result.andThen_ok,this,Sem.run_pure,z19 hg]
 |false=>
  have h1:t.cells=1:=by cases t<;>simp_all [Ty.agg,Ty.cells]
  rw[h1] at hl
  match cs,hl with
  | [c],_=>
    rw[zaj hg]
    have:=hc 0 c rfl
    have h0:ad.add 0=ad:=by simp [Addr.add]
    rw[h0] at this
    simp only[Bool.false_eq_true,if_false,run_load,this]
theorem z13o{own:List (List Nat)}{p:List Nat}(h:z2l own p=true):p∈own:=by
 unfold z2l at h
 obtain⟨q,hq,he⟩:=List.any_eq_true.1 h
 rw[←eq_of_beq he]
 exact hq
theorem z8s{own:List (List Nat)}{p q:List Nat}(h:q∈z4j own p):q∈own∧p.isPrefixOf q=false:=by
 unfold z4j at h
 rw[List.mem_filter] at h
 exact⟨h.1,by simpa using h.2⟩
theorem Rel.setBox{Y:Cfg}(hr:Rel Y s a){id r:Nat}{B B':Box}(hb:s.bs[id]? =some (some B))(hβ:Y.β id=some r)(h:BoxAt Y id r B'):Rel Y (s.putBox (some (id,B'))) a where
 size:=hr.size
 bsz:=by simpa [State.putBox] using hr.bsz
 slots:=hr.slots
 boxes:=fun id' B2 hB2=>by
  have hlt:id<s.bs.length:=(List.getElem?_eq_some_iff.1 hb).1
  simp only[State.putBox,List.getElem?_set] at hB2
  by_cases e:id=id'
  ·subst e
   rw[if_pos rfl,if_pos hlt] at hB2
   cases hB2;exact⟨r,hβ,h⟩
  ·rw[if_neg e] at hB2
   exact hr.boxes id' B2 hB2
 live:=fun i l id' t p hi hm=>by
  have hlt:id<s.bs.length:=(List.getElem?_eq_some_iff.1 hb).1
  obtain⟨B2,hB2⟩:=hr.live i l id' t p hi hm
  simp only[State.putBox,List.getElem?_set]
  by_cases e:id=id'
  ·subst e;exact⟨B',by rw[if_pos rfl,if_pos hlt]⟩
  ·rw[if_neg e];exact⟨B2,hB2⟩
 defers:=hr.defers
theorem zbc{id:Nat}{B B':Box}(hb:s.bs[id]? =some (some B)):(s.putBox (some (id,B'))).bs[id]? =some (some B'):=by
 have hlt:id<s.bs.length:=(List.getElem?_eq_some_iff.1 hb).1
 simp [State.putBox,List.getElem?_set,hlt]
theorem zaw{r off i:Nat}{cs:Array Value}{T:TypeId}{w:World}(h:w.heap[r]? =some (.cells cs T (0,0))){k:Nat}{v:Value}(hv:((cs.toList.drop off).take k)[i]? =some v):w.cell? ((⟨r,off,none⟩:Addr).add i)=some v:=by
 rw[z1f]
 rw[List.getElem?_take] at hv
 split at hv
 ·rw[List.getElem?_drop] at hv
  simpa [World.cell?,h] using hv
 ·cases hv
theorem at_le:∀(t:Ty) (p:List Nat) (u:Ty),t.at_ p=some u→t.inb p→t.off p+u.cells≤t.cells:=by
 intro t
 induction t with
 |arr n t ih=>
  intro p u h hp
  cases p with
  |nil=>simp only[Ty.at_,Option.some.injEq] at h;subst h;simp [Ty.off]
  |cons i p=>
   have:=ih p u h hp.2
   have hn:(i+1)*t.cells≤n*t.cells:=Nat.mul_le_mul_right _ hp.1
   rw[Nat.add_mul,Nat.one_mul] at hn
   simp only[Ty.off,Ty.cells]
   omega
 |pair x y ihx ihy=>
  intro p u h hp
  cases p with
  |nil=>simp only[Ty.at_,Option.some.injEq] at h;subst h;simp [Ty.off]
  |cons i p=>
   cases i with
   |zero=>have:=ihx p u h hp;simp only[Ty.off,Ty.cells];omega
   |succ i=>have:=ihy (i::p) u h hp;simp only[Ty.off,Ty.cells];omega
 |_=>
  intro p u h hp
  cases p with
  |nil=>simp only[Ty.at_,Option.some.injEq] at h;subst h;simp [Ty.off]
  |cons i p=>simp [Ty.at_] at h
theorem z1k5{t:Ty}{p:List Nat}{e:TypeId}{t':Ty}(h:t.inb p)(hat:t.at_ p=some (.sl e t')):t.off p<t.cells:=by
 have:=at_le t p _ hat h
 simp only[Ty.cells] at this
 omega
theorem z13m:∀{t:Ty} {p q:List Nat} {x:El t} {u:Ty} {y:El u} {r:(u:Ty)×El u},El.get t p x=some ⟨u,y⟩→t.inb (p++q)→El.get t (p++q) x=some r→u.inb q∧El.get u q y=some r:=by
 intro t
 induction t with
 |arr n t ih=>
  intro p q x u y r h1 h2 h3
  cases p with
  |nil=>simp only[El.get,Option.some.injEq,Sigma.mk.injEq] at h1;obtain⟨rfl,h1⟩:=h1;cases h1;exact⟨h2,h3⟩
  |cons i p=>exact ih h1 h2.2 h3
 |pair ta tb iha ihb=>
  intro p q x u y r h1 h2 h3
  cases p with
  |nil=>simp only[El.get,Option.some.injEq,Sigma.mk.injEq] at h1;obtain⟨rfl,h1⟩:=h1;cases h1;exact⟨h2,h3⟩
  |cons i p=>
   cases i with
   |zero=>exact iha h1 h2 h3
   |succ i=>exact ihb (p:=i::p) h1 h2 h3
 |_=>
  intro p q x u y r h1 h2 h3
  cases p with
  |nil=>simp only[El.get,Option.some.injEq,Sigma.mk.injEq] at h1;obtain⟨rfl,h1⟩:=h1;cases h1;exact⟨h2,h3⟩
  |cons i p=>simp [El.get] at h1
def Cfg.turnb(X:Cfg)(id:Nat)(p:List Nat)(q:List Nat→Place):Cfg:=
 {X with ow:=fun g=>match X.ow g with
  | .row (.b id' p') n=>if id'=id∧p.isPrefixOf p'=true then .row (q (p'.drop p.length)) n else .row (.b id' p') n
  |w=>w}
theorem zpu{s:State}{X:Cfg}{id:Nat}{p:List Nat}{q:List Nat→Place}(h:∀p',¬Flag s (.b id (p++p'))):Turn s X (X.turnb id p q):=by
 refine⟨rfl,rfl,fun g=> ?_⟩
 simp only[Cfg.turnb]
 cases hg:X.ow g with
 |row pl n=>
  cases pl with
  |b id' p'=>
   by_cases e:id'=id∧p.isPrefixOf p'=true
   ·obtain⟨rfl,hp⟩:=e
    obtain⟨r,rfl⟩:=List.isPrefixOf_iff_prefix.1 hp
    exact .inr ⟨_,n,q r,rfl,h r,by simp⟩
   ·exact .inl (if_neg e)
  |_=>exact .inl rfl
 |_=>exact .inl rfl
theorem OwnAt.turnedb{X:Cfg}{id:Nat}{p r:List Nat}{q:List Nat→Place}{e:TypeId}{k n:Nat}{v:Value}(h:OwnAt X (.b id (p++r)) e k n v):OwnAt (X.turnb id p q) (q r) e k n v:=by
 rcases h with h|⟨g,cap,cur,h1,h2,h3,h4,h5,h6⟩
 ·exact .inl h
 ·exact .inr ⟨g,cap,cur,h1,h2,h3,h4,h5,by simp [Cfg.turnb,h6]⟩
theorem z65(hr:Rel X s a){id:Nat}{t b:Ty}{B:Box}(hB:s.box id=some B)(h:B.t.eqb (.spc .row t b)=true):s.bs[id]? =some (some B)∧∃r,X.β id=some r∧X.ow r= .box id∧∃cs T,X.w.heap[r]? =some (.cells cs T (0,0))∧cs.size=List.length (Ty.cast h B.x:List (El t))*t.cells∧
 ∀(j:Nat) (x:El t),(Ty.cast h B.x:List (El t))[j]? =some x→Rep X t x ((cs.toList.drop (j*t.cells)).take t.cells):=by
 have hb:=z2h hB
 obtain⟨r,h1,h2,h3⟩:=hr.boxes id B hb
 refine⟨hb,r,h1,h2,?_⟩
 obtain⟨bt,bx,bo⟩:=B
 have e:=Ty.eqb_eq h
 simp only at e
 subst e
 obtain⟨cs,T,g1,g2,g3⟩:=h3
 exact⟨cs,T,g1,g2,g3⟩
theorem z13d(hE:EnvOk P E)(hr:Rel X s a){S T:TypeId}{x:Operand}(ho:o.op= .convert S T x){id n:Nat}{ta tb:Ty}(hxe:s.op1 x= .ptr id (.spc (.hdr n) ta tb) [])(h:convH E S T s id n ta tb some=some u):Done P X s a o u:=by
 have hx:=hr.op1 x
 rw[hxe] at hx
 obtain⟨r0,hβ,cap,hv,hcap⟩:=hx
 unfold convH at h
 split at h
 case h_2=>cases h
 rename_i e hS hT
 split at h
 case isFalse=>cases h
 rename_i heq
 have:=Ty.eqb_eq heq
 subst this
 split at h
 case h_2=>cases h
 rename_i B hB
 split at h
 case isFalse=>cases h
 rename_i hbt
 obtain⟨hb,r,h1,h2,cs,T',hheap,hsz,hel⟩:=z65 hr hB hbt
 rw[hβ] at h1
 cases h1
 generalize(Ty.cast hbt B.x:List Int)=xs at*
 cases hn:Nat.beq n (List.length xs) with
 |false=>rw[hn] at h;cases h
 |true=>
  rw[hn] at h
  cases h
  have hn:=Nat.eq_of_beq_eq_true hn
  subst hn
  have hu:=(hE.ty S _ hS).und
  have he:=(hE.ty e _ hu.2).und
  have hT:=(hE.ty T _ hT).und
  refine Done.plain hr (v:= .string (strOf xs)) ?_ z45 (fun _ _ _ e'=>by cases e')
  have key:(convert S T (.slice (some ⟨r0,0,none⟩) (List.length xs) cap)).run P X.w= .ok (.string (strOf xs)) X.w:=by
   rw[run_convert_bytes_string X.w S T e _ _ cap hu.1 he hT]
   have hload:(loadCells ⟨r0,0,none⟩ (List.length xs)).run P X.w= .ok (List.map (Value.int .u8) xs).toArray X.w:=by
    have:=run_loadCells_list (P:=P) X.w ⟨r0,0,none⟩ (List.map (Value.int .u8) xs) (fun j v hj=>by
     obtain⟨y,hy,rfl⟩:=List.getElem?_map .. ▸hj|>Option.map_eq_some_iff.1
     have hc:(cs.toList.drop (j*1)).take 1=[.int .u8 y]:=hel j y hy
     have h0:=congrArg (fun l=>l[0]?) hc
     simp only[List.getElem?_take,List.getElem?_drop] at h0
     simp only[Nat.zero_lt_one,if_true,Nat.mul_one,Nat.add_zero,List.getElem?_cons_zero] at h0
     rw[z1f,Nat.zero_add]
     simpa [World.cell?,hheap] using h0)
    rw[List.length_map] at this
    exact this
   rw[run_bytesToString X.w _ _ cap xs hload,foldl_push_bytes]
   simp [strOf,ByteArray.empty,ByteArray.emptyWithCapacity]
   rfl
  simp only[execOp,ho,Sem.run_bind,hv,key,Result.andThen_ok,Sem.run_pure]
theorem z187(hE:EnvOk P E)(hr:Rel X s a){ops:List Oper}{S T:TypeId}{x:Operand}(ho:o.op= .convert S T x){C:FuncId→Fun' Out}(h:act E C ops o s some=some u):Done P X s a o u:=by
 unfold act at h
 simp only[ho] at h
 split at h
 ·rename_i id n ta tb hxe
  exact z13d hE hr ho hxe h
 ·exact z13e hE hr ho h
theorem zyt(hE:EnvOk P E)(hr:Rel X s a){T:TypeId}{u':Ty}{x:Operand}(ho:o.op= .load T x)(hT:E.ty T=some u'){id:Nat}{t:Ty}{p:List Nat}(hxe:s.op1 x= .ptr id t p)(h:z62 u' s id t p some=some u):Done P X s a o u:=by
 have hx:=hr.op1 x
 rw[hxe] at hx
 obtain⟨r0,hβ,hv⟩:=hx
 unfold z62 at h
 split at h
 case h_2=>cases h
 rename_i ta tb i
 split at h
 case h_2=>cases h
 rename_i B hB
 split at h
 case isFalse=>cases h
 rename_i hbt
 split at h
 case isFalse=>cases h
 rename_i heq
 have:=Ty.eqb_eq heq
 subst this
 obtain⟨hb,r,h1,h2,cs,T',hheap,hsz,hel⟩:=z65 hr hB hbt
 rw[hβ] at h1
 cases h1
 generalize(Ty.cast hbt B.x:List (El u'))=xs at*
 cases hn:Nat.ble (i+1) (List.length xs) with
 |false=>rw[hn] at h;cases h
 |true=>
  rw[hn] at h
  cases h
  have hlt:i<List.length xs:=Nat.le_of_ble_eq_true hn
  have hrep:=hel i _ (getD_some (El.dflt u') hlt)
  have hv:a.eval x= .pointer (some ⟨r0,i*u'.cells,none⟩):=hv
  refine Done.plain hr ?_ (z64 hrep) (fun _ _ _ e'=>by cases e')
  have hl:=z3w hE hT hrep (ad:=⟨r0,i*u'.cells,none⟩) (w:=X.w) (fun j v hj=>zaw hheap hj)
  simp only[execOp,ho,Sem.run_bind,Instr.loadAt,hv,Instr.sureAddr,Sem.run_pure,Result.andThen_ok,hl]
theorem zys(hE:EnvOk P E)(hr:Rel X s a){T:TypeId}{u':Ty}{x:Operand}(ho:o.op= .load T x)(hT:E.ty T=some u'){id:Nat}{t:Ty}{p:List Nat}(hxe:s.op1 x= .ptr id t p){B:Box}(hB:s.box id=some B)(h:z7g u' B t p some=some u):Done P X s a o u:=by
 have hx:=hr.op1 x
 rw[hxe] at hx
 obtain⟨r0,hβ,hv⟩:=hx
 unfold z7g at h
 split at h
 case h_2=>cases h
 rename_i n e
 split at h
 case isFalse=>cases h
 rename_i hbt
 split at h
 case isFalse=>cases h
 rename_i heq
 have:=Ty.eqb_eq heq
 subst this
 obtain⟨hb,r,h1,h2,cs,T',hheap,hsz,hel⟩:=z65 hr hB hbt
 rw[hβ] at h1
 cases h1
 generalize(Ty.cast hbt B.x:List (El e))=xs at*
 cases hn:Nat.beq n (List.length xs) with
 |false=>rw[hn] at h;cases h
 |true=>
  rw[hn] at h
  cases h
  have hn:=Nat.eq_of_beq_eq_true hn
  have hrep:Rep X (.arr n e) xs cs.toList:=⟨hn.symm,by rw[hn];simpa using hsz,hel⟩
  have hv:=((z1j rfl).1 hv).1
  have hv:a.eval x= .pointer (some ⟨r0,0,none⟩):=by rw[hv];rfl
  refine Done.plain hr ?_ (z64 hrep) (fun _ _ _ e'=>by cases e')
  have hl:=z3w hE hT hrep (ad:=⟨r0,0,none⟩) (w:=X.w) (fun j v hj=>zaw (off:=0) (k:=cs.toList.length) hheap (by rw[List.drop_zero,List.take_length];exact hj))
  simp only[execOp,ho,Sem.run_bind,Instr.loadAt,hv,Instr.sureAddr,Sem.run_pure,Result.andThen_ok,hl]
theorem z18a(hE:EnvOk P E)(hr:Rel X s a){ops:List Oper}{T:TypeId}{x:Operand}(ho:o.op= .load T x){C:FuncId→Fun' Out}(h:act E C ops o s some=some u):Done P X s a o u:=by
 unfold act at h
 simp only[ho] at h
 have hx:=hr.op1 x
 unfold load at h
 split at h
 case h_2=>cases h
 rename_i u' hT
 split at h
 ·rename_i t y e
  rw[e] at hx
  obtain⟨ad,cs,hv,hsp,hrep,hsee⟩:=hx
  split at h
  case isFalse=>cases h
  rename_i heq
  have:=Ty.eqb_eq heq
  subst this
  cases h
  refine Done.plain hr ?_ (z64 hrep) (fun _ _ _ e'=>by cases e')
  have hl:=z3w hE hT hrep (ad:=ad) (w:=X.w) (fun i v hi=>(hsee i v hi).2.1)
  simp only[execOp,ho,Sem.run_bind,Instr.loadAt,hv,Instr.sureAddr,Sem.run_pure,Result.andThen_ok,hl]
 ·rename_i id t p e
  rw[e] at hx
  obtain⟨r,hβ,hx⟩:=hx
  split at h
  ·exact zyt hE hr ho hT e h
  rename_i hns
  have hns:t.isSpc=false:=by simpa using hns
  obtain⟨hv,hin⟩:=(z1j hns).1 hx
  split at h
  case h_2=>cases h
  rename_i B hB
  split at h
  case isFalse=>exact zys hE hr ho hT e hB h
  rename_i heq
  have hbt:=Ty.eqb_eq heq
  split at h
  case h_2=>cases h
  rename_i ut y hget
  split at h
  case isFalse=>cases h
  rename_i heq2
  have:=Ty.eqb_eq heq2
  subst this
  have hb:=z2h hB
  obtain⟨r',hβ',hBA⟩:=hr.boxes id B hb
  rw[hβ] at hβ'
  cases hβ'
  subst hbt
  obtain⟨cs,T',hheap,hrep,how,hown⟩:=hBA.cells hns
  obtain⟨k1,k2,k3⟩:=zag hrep hin hget
  have hl:=z3w hE hT k3 (ad:=⟨r,B.t.off p,none⟩) (w:=X.w) (fun i v hi=>zaw hheap hi)
  have hrun:(execOp a.eval o).run P X.w= .ok (.value (mkv u' ((cs.toList.drop (B.t.off p)).take u'.cells))) X.w:=by
   simp only[execOp,ho,Sem.run_bind,Instr.loadAt,hv,Instr.sureAddr,Sem.run_pure,Result.andThen_ok,hl]
  cases hc:zp8 ops o.dst||isOut E ops o.dst||z18u ops o.dst with
  |false=>
   rw[hc] at h
   cases h
   exact Done.plain hr hrun (z64 k3) (fun _ _ _ e'=>by cases e')
  |true=>
   rw[hc] at h
   cases h
   have hr1:Rel X (s.putBox (some (id,{B with own:=z4j B.own p}))) a:=hr.setBox hb hβ ⟨how,Held.of hns hheap hrep fun q hq=>hown q (z8s hq).1⟩
   have hnf:∀q,¬Flag (s.putBox (some (id,{B with own:=z4j B.own p}))) (.b id (p++q)):=by
    rintro q ⟨B2,hB2,hp⟩
    rw[zbc hb] at hB2
    cases hB2
    have:=(z8s hp).2
    rw[List.isPrefixOf_iff_prefix.2 (List.prefix_append p q)] at this
    cases this
   have hT2:=zpu (X:=X) (q:= .c (o.dst.getD 0) 0) hnf
   refine⟨X.turnb id p (.c (o.dst.getD 0) 0),_,.inl hrun,hT2.ext,(hr1.mod hT2.mod).fin ⟨_,k3.sees_mono (fun _ _=>hT2.sees.1),rfl,?_⟩ (fun id t p hm=>by simp at hm)⟩
   intro q hq
   obtain⟨q0,hq0,rfl⟩:=List.mem_map.1 hq
   obtain⟨hq1,hq2⟩:=List.mem_filter.1 hq0
   obtain⟨q,rfl⟩:=List.isPrefixOf_iff_prefix.1 hq2
   rw[List.drop_left]
   obtain⟨e',t',xs,v,h0,h1,h2,h3⟩:=hown _ hq1
   obtain⟨j1,j2⟩:=z13m hget h0 h1
   have hle:=z1k5 j1 (zf1 _ _ _ _ _ j2)
   refine⟨e',t',xs,v,j1,j2,?_,h3.turnedb⟩
   rw[z6w _ _ _ _ k1] at h2
   rw[List.getElem?_take,if_pos hle,List.getElem?_drop]
   exact h2
 ·cases h
theorem zfl{cs c:List Value}{off:Nat}(h:off+c.length≤cs.length)(j k:Nat):(∀h1:j+k≤off∨off+c.length≤j,((cs.take off++c++cs.drop (off+c.length)).drop j).take k=(cs.drop j).take k):=by
 intro h1
 apply List.ext_getElem?
 intro q
 simp only[List.getElem?_take,List.getElem?_drop]
 split
 ·rename_i hq
  rw[List.append_assoc]
  rcases h1 with h1|h1
  ·rw[List.getElem?_append_left (by rw[List.length_take];omega),List.getElem?_take,if_pos (by omega)]
  ·rw[List.getElem?_append_right (by rw[List.length_take];omega),List.length_take,Nat.min_eq_left (by omega),List.getElem?_append_right (by omega),List.getElem?_drop]
   congr 1
   omega
 ·rfl
theorem set_rep{X:Cfg}:∀{t:Ty} {p:List Nat} {x:El t} {cs:List Value} {u:Ty} {y:El u} {z:El t} {c:List Value},Rep X t x cs→t.inb p→t.at_ p=some u→El.set t p x u y=some z→Rep X u y c→
 Rep X t z (cs.take (t.off p)++c++cs.drop (t.off p+c.length)):=by
 intro t
 induction t with
 |arr n t ih=>
  intro p x cs u y z c hr hp hat h hc
  have hcl:=hc.len
  cases p with
  |nil=>
   simp only[Ty.at_,Option.some.injEq] at hat
   subst hat
   simp only[El.set,Ty.eqb_refl,dite_true,Option.some.injEq] at h
   subst h
   have hl:=hr.len
   simp only[Ty.off,Nat.zero_add,List.take_zero,List.nil_append]
   rw[hcl,←hl,List.drop_length,List.append_nil]
   exact hc
  |cons i p=>
   obtain⟨hi,hp⟩:=hp
   obtain⟨h1,h2,h3⟩:=hr
   simp only[El.set] at h
   obtain⟨z',hz',rfl⟩:=Option.map_eq_some_iff.1 h
   have hat':t.at_ p=some u:=hat
   have hle:=at_le t p u hat' hp
   have hn:(i+1)*t.cells≤n*t.cells:=Nat.mul_le_mul_right _ hi
   rw[Nat.add_mul,Nat.one_mul] at hn
   have hi':=ih (h3 i _ (getD_some (El.dflt t) (by omega))) hp hat' hz' hc
   have hfit:i*t.cells+t.off p+c.length≤cs.length:=by rw[hcl,h2];omega
   refine⟨by simpa using h1,?_,fun j w hj=> ?_⟩
   ·simp only[Ty.off,List.length_append,List.length_take,List.length_drop];omega
   ·simp only[Ty.off]
    by_cases e:j=i
    ·subst e
     rw[List.getElem?_set_self (by omega)] at hj
     cases hj
     have hL:((cs.take (j*t.cells+t.off p)++c++cs.drop (j*t.cells+t.off p+c.length)).drop (j*t.cells)).take t.cells=
      ((cs.drop (j*t.cells)).take t.cells).take (t.off p)++c++((cs.drop (j*t.cells)).take t.cells).drop (t.off p+c.length):=by
      apply List.ext_getElem?
      intro q
      rw[List.append_assoc,List.append_assoc]
      simp only[List.getElem?_take,List.getElem?_drop,List.getElem?_append,List.length_take,List.length_drop]
      rw[Nat.min_eq_left (show j*t.cells+t.off p≤cs.length by omega),Nat.min_eq_left (show t.cells≤cs.length-j*t.cells by omega),Nat.min_eq_left (show t.off p≤t.cells by omega)]
      by_cases q1:q<t.cells
      ·by_cases q2:q<t.off p
       ·rw[if_pos q1,if_pos (by omega),if_pos (by omega),if_pos q2,if_pos q2,if_pos q1]
       ·by_cases q3:q-t.off p<c.length
        ·rw[if_pos q1,if_neg (by omega),if_pos (by omega),if_neg q2,if_pos q3]
         congr 1
         omega
        ·rw[if_pos q1,if_neg (by omega),if_neg (by omega),if_neg q2,if_neg q3,if_pos (by omega)]
         congr 1
         omega
      ·rw[if_neg q1,if_neg (by omega),if_neg (by omega),if_neg (by omega)]
     rw[hL]
     exact hi'
    ·rw[List.getElem?_set_ne (Ne.symm e)] at hj
     have hjl:=(List.getElem?_eq_some_iff.1 hj).1
     rw[zfl hfit (j*t.cells) t.cells ?_]
     ·exact h3 j w hj
     ·rcases Nat.lt_or_gt_of_ne e with hlt|hgt
      ·have:(j+1)*t.cells≤i*t.cells:=Nat.mul_le_mul_right _ hlt
       rw[Nat.add_mul,Nat.one_mul] at this
       exact .inl (by omega)
      ·have:(i+1)*t.cells≤j*t.cells:=Nat.mul_le_mul_right _ hgt
       rw[Nat.add_mul,Nat.one_mul] at this
       exact .inr (by omega)
 |pair ta tb iha ihb=>
  intro p x cs u y z c hr hp hat h hc
  have hcl:=hc.len
  cases p with
  |nil=>
   simp only[Ty.at_,Option.some.injEq] at hat
   subst hat
   simp only[El.set,Ty.eqb_refl,dite_true,Option.some.injEq] at h
   subst h
   have hl:=hr.len
   simp only[Ty.off,Nat.zero_add,List.take_zero,List.nil_append]
   rw[hcl,←hl,List.drop_length,List.append_nil]
   exact hc
  |cons i p=>
   obtain⟨c1,c2,rfl,r1,r2⟩:=hr
   have l1:=r1.len
   have l2:=r2.len
   cases i with
   |zero=>
    simp only[El.set] at h
    obtain⟨z',hz',rfl⟩:=Option.map_eq_some_iff.1 h
    have hat':ta.at_ p=some u:=hat
    have hle:=at_le ta p u hat' hp
    have:=iha r1 hp hat' hz' hc
    refine⟨_,c2,?_,this,r2⟩
    simp only[Ty.off]
    rw[List.take_append_of_le_length (by omega),List.drop_append_of_le_length (by omega)]
    simp [List.append_assoc]
   |succ i=>
    simp only[El.set] at h
    obtain⟨z',hz',rfl⟩:=Option.map_eq_some_iff.1 h
    have hat':tb.at_ (i::p)=some u:=hat
    have hle:=at_le tb (i::p) u hat' hp
    have:=ihb r2 hp hat' hz' hc
    refine⟨c1,_,?_,r1,this⟩
    simp only[Ty.off]
    rw[←l1,List.take_length_add_append,Nat.add_assoc,List.drop_length_add_append]
    simp [List.append_assoc]
 |_=>
  intro p x cs u y z c hr hp hat h hc
  have hcl:=hc.len
  cases p with
  |nil=>
   simp only[Ty.at_,Option.some.injEq] at hat
   subst hat
   simp only[El.set,Ty.eqb_refl,dite_true,Option.some.injEq] at h
   first|subst h|skip
   have hl:=hr.len
   simp only[Ty.off,Nat.zero_add,List.take_zero,List.nil_append]
   rw[hcl,←hl,List.drop_length,List.append_nil]
   exact hc
  |cons i p=>simp [Ty.at_] at hat
end Go.Ref

namespace Go.Ref
open Go
variable {P:Program} {E:Env} {X:Cfg} {s:State} {a:Act} {o:Oper} {u:Out}
theorem zx7:∀{t:Ty} {p q:List Nat} {x:El t} {u:Ty} {y:El u} {z:El t} {e:TypeId} {t':Ty} {xs:El (.sl e t')},El.set t p x u y=some z→t.at_ p=some u→t.inb p→t.inb q→p.isPrefixOf q=false→El.get t q x=some ⟨.sl e t',xs⟩→
 El.get t q z=some ⟨.sl e t',xs⟩∧(t.off q+1≤t.off p∨t.off p+u.cells≤t.off q):=by
 intro t
 induction t with
 |arr n t ih=>
  intro p q x u y z e t' xs hs hat hp hq hpre hg
  cases p with
  |nil=>simp at hpre
  |cons i p=>
   cases q with
   |nil=>simp [El.get] at hg
   |cons j q=>
    simp only[El.set] at hs
    obtain⟨z',hz',rfl⟩:=Option.map_eq_some_iff.1 hs
    by_cases eij:i=j
    ·subst eij
     have hpre':p.isPrefixOf q=false:=by simpa [List.isPrefixOf] using hpre
     obtain⟨h1,h2⟩:=ih hz' hat hp.2 hq.2 hpre' hg
     refine⟨?_,by simp only[Ty.off];omega⟩
     simp only[El.get]
     by_cases hl:i<List.length x
     ·rw[List.getD_eq_getElem?_getD,List.getElem?_set_self hl]
      exact h1
     ·have hset:List.set x i z'=x:=by rw[List.set_eq_of_length_le (Nat.le_of_not_lt hl)]
      rw[hset];exact hg
    ·refine⟨?_,?_⟩
     ·simp only[El.get] at hg⊢
      rw[List.getD_eq_getElem?_getD,List.getElem?_set_ne eij,←List.getD_eq_getElem?_getD]
      exact hg
     ·have a1:=at_le t p u hat hp.2
      have a2:t.off q+1≤t.cells:=by
       have:=at_le t q _ (zf1 t q _ _ _ hg) hq.2
       simpa [Ty.cells] using this
      simp only[Ty.off]
      rcases Nat.lt_or_gt_of_ne eij with h|h
      ·have:(i+1)*t.cells≤j*t.cells:=Nat.mul_le_mul_right _ h
       rw[Nat.add_mul,Nat.one_mul] at this
       omega
      ·have:(j+1)*t.cells≤i*t.cells:=Nat.mul_le_mul_right _ h
       rw[Nat.add_mul,Nat.one_mul] at this
       omega
 |pair ta tb iha ihb=>
  intro p q x u y z e t' xs hs hat hp hq hpre hg
  cases p with
  |nil=>simp at hpre
  |cons i p=>
   cases q with
   |nil=>simp [El.get] at hg
   |cons j q=>
    cases i with
    |zero=>
     simp only[El.set] at hs
     obtain⟨z',hz',rfl⟩:=Option.map_eq_some_iff.1 hs
     cases j with
     |zero=>
      have hpre':p.isPrefixOf q=false:=by simpa [List.isPrefixOf] using hpre
      obtain⟨h1,h2⟩:=iha hz' hat hp hq hpre' hg
      exact⟨h1,by simp only[Ty.off];omega⟩
     |succ j=>
      have a1:=at_le ta p u hat hp
      exact⟨hg,by simp only[Ty.off];omega⟩
    |succ i=>
     simp only[El.set] at hs
     obtain⟨z',hz',rfl⟩:=Option.map_eq_some_iff.1 hs
     cases j with
     |zero=>
      have a2:ta.off q+1≤ta.cells:=by
       have:=at_le ta q _ (zf1 ta q _ _ _ hg) hq
       simpa [Ty.cells] using this
      exact⟨hg,by simp only[Ty.off];omega⟩
     |succ j=>
      have hpre':(i::p).isPrefixOf (j::q)=false:=by
       simp [List.isPrefixOf] at hpre⊢
       exact hpre
      obtain⟨h1,h2⟩:=ihb hz' hat hp hq hpre' hg
      exact⟨h1,by simp only[Ty.off];omega⟩
 |_=>
  intro p q x u y z e t' xs hs hat hp hq hpre hg
  cases p with
  |nil=>simp at hpre
  |cons i p=>simp [Ty.at_] at hat
def Cfg.row(X:Cfg)(r:Nat)(cs:Array Value):Cfg:={X with w:=X.w.setRow r cs}
theorem z3e{r id:Nat}{cs:Array Value}(h:X.ow r= .box id){ad:Addr}{v:Value}(hs:X.sees ad v):(X.row r cs).sees ad v:=by
 have hne:ad.block≠r:=fun e=>by
  have:=hs.2.2
  rw[e,h] at this
  exact this
 refine⟨hs.1,?_,hs.2.2⟩
 have:=hs.2.1
 simp only[World.cell?,Cfg.row] at this⊢
 rw[setRow_other X.w r ad.block cs hne]
 exact this
theorem zka{r id:Nat}{cs:Array Value}(h:X.ow r= .box id):Ext X (X.row r cs) where
 sees:=fun _ _=>z3e h
 size:=by simp [Cfg.row]
 os:=rfl
 tape:=rfl
 output:=rfl
 β0:=rfl
 still:=fun g _ hst=>by
  have hne:g≠r:=fun e=>by rw[e,h] at hst;exact hst
  exact⟨rfl,setRow_other X.w r g cs hne⟩
theorem OwnAt.row{r id:Nat}{cs:Array Value}(h:X.ow r= .box id){pl:Place}{e:TypeId}{k n:Nat}{v:Value}(ho:OwnAt X pl e k n v):OwnAt (X.row r cs) pl e k n v:=by
 rcases ho with ho|⟨g,cap,cur,h1,h2,h3,h4,h5,h6⟩
 ·exact .inl ho
 ·have hne:g≠r:=fun e=>by rw[e,h] at h6;cases h6
  exact .inr ⟨g,cap,cur,h1,(setRow_other X.w r g cs hne).trans h2,h3,h4,h5,h6⟩
theorem OwnP.row{r id:Nat}{cs:Array Value}(h:X.ow r= .box id){pl:List Nat→Place}{t:Ty}{x:El t}{c:List Value}{own:List (List Nat)}(ho:OwnP X pl t x c own):OwnP (X.row r cs) pl t x c own:=fun p hp=>by
 obtain⟨e,t',xs,v,g0,g1,g2,g3⟩:=ho p hp
 exact⟨e,t',xs,v,g0,g1,g2,g3.row h⟩
theorem RepV.row{r id:Nat}{cs:Array Value}(h:X.ow r= .box id){pl:List Nat→Place}{sv:SV}{v:Value}(hr:RepV X pl sv v):RepV (X.row r cs) pl sv v:=by
 cases sv with
 |undef=>trivial
 |skip=>exact hr
 |nilS=>exact hr
 |nilP=>exact hr
 |over=>exact hr
 |dat t x own=>
  obtain⟨c,h1,h2,h3⟩:=hr
  exact⟨c,h1.sees_mono (fun _ _=>z3e h),h2,h3.row h⟩
 |ptr id t p=>exact hr
 |view t x=>
  obtain⟨ad,c,h1,h2,h3,h4⟩:=hr
  exact⟨ad,c,h1,h2,h3.sees_mono (fun _ _=>z3e h),fun i u hi=>z3e h (h4 i u hi)⟩
 |cap f t x u y=>exact z38 (fun _ _=>z3e h) hr
theorem Rel.row{r id:Nat}{B B':Box}{cs:Array Value}(hr:Rel X s a)(hb:s.bs[id]? =some (some B))(hβ:X.β id=some r)(h:X.ow r= .box id)(hB:BoxAt (X.row r cs) id r B'):Rel (X.row r cs) (s.putBox (some (id,B'))) a where
 size:=hr.size
 bsz:=by simpa [State.putBox] using hr.bsz
 slots:=fun i l v hl hv=>(hr.slots i l v hl hv).impF fun j sv u hm hsv=>hsv.row h
 boxes:=fun id' B2 hB2=>by
  have hlt:id<s.bs.length:=(List.getElem?_eq_some_iff.1 hb).1
  simp only[State.putBox,List.getElem?_set] at hB2
  by_cases e:id=id'
  ·subst e
   rw[if_pos rfl,if_pos hlt] at hB2
   cases hB2;exact⟨r,hβ,hB⟩
  ·rw[if_neg e] at hB2
   obtain⟨r',h1,h4,h2⟩:=hr.boxes id' B2 hB2
   have hne:r'≠r:=fun e2=>by rw[e2,h] at h4;cases h4;exact e rfl
   exact⟨r',h1,h4,h2.move (fun _ _=>z3e h) (setRow_other X.w r r' cs hne) (fun cs h5=>h5.row h) fun _ g o ho hw=>⟨(setRow_other X.w r g cs (fun e3=>by rw[e3,h] at hw;cases hw)).trans ho,hw⟩⟩
 live:=fun i l id' t p hi hm=>by
  have hlt:id<s.bs.length:=(List.getElem?_eq_some_iff.1 hb).1
  obtain⟨B2,hB2⟩:=hr.live i l id' t p hi hm
  simp only[State.putBox,List.getElem?_set]
  by_cases e:id=id'
  ·subst e;exact⟨B',by rw[if_pos rfl,if_pos hlt]⟩
  ·rw[if_neg e];exact⟨B2,hB2⟩
 defers:=hr.defers
theorem z5n(hE:EnvOk P E){T:TypeId}{t:Ty}(ht:E.ty T=some t){x:El t}{cs:List Value}(hr:Rep X t x cs){r off:Nat}{cur:Array Value}{T':TypeId}{w:World}(hg:w.heap[r]? =some (.cells cur T' (0,0)))(hf:off+t.cells≤cur.size):
 (storeVar T ⟨r,off,none⟩ (mkv t cs)).run P w= .ok () (w.setRow r (cur.toList.take off++cs++cur.toList.drop (off+cs.length)).toArray):=by
 have hl:=hr.len
 have hst:=run_storeCells_at P r off T' cs 0 cur w hg (by omega) hr.one
 simp only[Nat.add_zero] at hst
 unfold storeVar
 simp only[Sem.run_bind,z15 hE ht,Result.andThen_ok,z33 hr]
 rw[if_neg (by simp [hl])]
 exact hst
theorem z114:∀{t:Ty} {p q:List Nat} {x:El t} {u:Ty} {y:El u} {z:El t} {r:(u:Ty)×El u} {X:Cfg} {cs:List Value},Rep X t x cs→El.set t p x u y=some z→t.at_ p=some u→t.inb p→El.get u q y=some r→El.get t (p++q) z=some r:=by
 intro t
 induction t with
 |arr n t ih=>
  intro p q x u y z r X cs hr hs hat hp hg
  cases p with
  |nil=>
   simp only[Ty.at_,Option.some.injEq] at hat
   subst hat
   simp only[El.set,Ty.eqb_refl,dite_true,Option.some.injEq] at hs
   subst hs
   exact hg
  |cons i p=>
   simp only[El.set] at hs
   obtain⟨z',hz',rfl⟩:=Option.map_eq_some_iff.1 hs
   obtain⟨h1,h2,h3⟩:=hr
   have hi:i<List.length x:=by rw[h1];exact hp.1
   simp only[El.get,List.cons_append]
   rw[List.getD_eq_getElem?_getD,List.getElem?_set_self hi]
   exact ih (h3 i _ (getD_some _ hi)) hz' hat hp.2 hg
 |pair ta tb iha ihb=>
  intro p q x u y z r X cs hr hs hat hp hg
  cases p with
  |nil=>
   simp only[Ty.at_,Option.some.injEq] at hat
   subst hat
   simp only[El.set,Ty.eqb_refl,dite_true,Option.some.injEq] at hs
   subst hs
   exact hg
  |cons i p=>
   obtain⟨c1,c2,_,r1,r2⟩:=hr
   cases i with
   |zero=>
    simp only[El.set] at hs
    obtain⟨z',hz',rfl⟩:=Option.map_eq_some_iff.1 hs
    exact iha r1 hz' hat hp hg
   |succ i=>
    simp only[El.set] at hs
    obtain⟨z',hz',rfl⟩:=Option.map_eq_some_iff.1 hs
    exact ihb (p:=i::p) r2 hz' hat hp hg
 |_=>
  intro p q x u y z r X cs hr hs hat hp hg
  cases p with
  |nil=>
   simp only[Ty.at_,Option.some.injEq] at hat
   subst hat
   simp only[El.set,Ty.eqb_refl,dite_true,Option.some.injEq] at hs
   first|subst hs|skip
   exact hg
  |cons i p=>simp [Ty.at_] at hat
theorem z12i{t u:Ty}{p:List Nat}{x z:El t}{y:El u}{cs cv:List Value}{own oy:List (List Nat)}{pl:List Nat→Place}(hr:Rep X t x cs)(hin:t.inb p)(hat:t.at_ p=some u)(hset:El.set t p x u y=some z)(rep:Rep X u y cv)
 (ho:OwnP X pl t x cs own) (hy:OwnP X (fun q=>pl (p++q)) u y cv oy):OwnP X pl t z (cs.take (t.off p)++cv++cs.drop (t.off p+cv.length)) (oy.map (fun q=>p++q)++z4j own p):=by
 have hcl:=rep.len
 have hle:=at_le t p u hat hin
 have hcs:=hr.len
 intro q hq
 rcases List.mem_append.1 hq with hq|hq
 ·obtain⟨q,hq2,rfl⟩:=List.mem_map.1 hq
  obtain⟨e,t',xs,v,g0,g1,g2,g3⟩:=hy q hq2
  have hlt:=(List.getElem?_eq_some_iff.1 g2).1
  refine⟨e,t',xs,v,zb8 t p q u hat hin g0,z114 hr hset hat hin g1,?_,g3⟩
  rw[z6w t p q u hat,List.append_assoc,List.getElem?_append_right (by rw[List.length_take];omega),List.length_take,Nat.min_eq_left (by omega),Nat.add_sub_cancel_left,List.getElem?_append_left hlt]
  exact g2
 ·obtain⟨hqm,hpre⟩:=z8s hq
  obtain⟨e,t',xs,v,g0,g1,g2,g3⟩:=ho q hqm
  obtain⟨k1,k2⟩:=zx7 hset hat hin g0 hpre g1
  refine⟨e,t',xs,v,g0,k1,?_,g3⟩
  have hsp:=zfl (cs:=cs) (c:=cv) (off:=t.off p) (by omega) (t.off q) 1 (by rw[hcl];omega)
  have h0:=congrArg (fun l=>l[0]?) hsp
  simp only[List.getElem?_take,List.getElem?_drop] at h0
  simp only[Nat.zero_lt_one,if_true,Nat.add_zero] at h0
  rw[h0];exact g2
theorem zx6(hE:EnvOk P E)(hr:Rel X s a){T:TypeId}{u0:Ty}{x y:Operand}(ho:o.op= .store T x y)(hT:E.ty T=some u0){id:Nat}{t:Ty}{p:List Nat}(hxe:s.op1 x= .ptr id t p)(h:z4y u0 s id t p (s.op1 y) some=some u):Done P X s a o u:=by
 have hx:=hr.op1 x
 rw[hxe] at hx
 obtain⟨r0,hβ,hv⟩:=hx
 unfold z4y at h
 split at h
 case h_2=>cases h
 rename_i ta tb i
 split at h
 case h_2=>cases h
 rename_i B hB
 split at h
 case isFalse=>cases h
 rename_i hbt
 split at h
 case isFalse=>cases h
 rename_i heq
 have:=Ty.eqb_eq heq
 subst this
 obtain⟨hb,r,h1,how,cs,T',hheap,hsz,hel⟩:=z65 hr hB hbt
 rw[hβ] at h1
 cases h1
 obtain⟨yv,h,hy⟩:=zx h
 obtain⟨cv,rep,ev⟩:=hy X _ _ (hr.op1 y)
 generalize(Ty.cast hbt B.x:List (El ta))=xs at*
 cases hn:Nat.ble (i+1) (List.length xs) with
 |false=>rw[hn] at h;cases h
 |true=>
  rw[hn] at h
  cases h
  have hlt:i<List.length xs:=Nat.le_of_ble_eq_true hn
  have hv:a.eval x= .pointer (some ⟨r0,i*ta.cells,none⟩):=hv
  have hcl:=rep.len
  have hmul:(i+1)*ta.cells≤List.length xs*ta.cells:=Nat.mul_le_mul_right _ hlt
  rw[Nat.add_mul,Nat.one_mul] at hmul
  have hfit:i*ta.cells+ta.cells≤cs.size:=by omega
  have hfl:i*ta.cells+cv.length≤cs.toList.length:=by simp;omega
  let new:=(cs.toList.take (i*ta.cells)++cv++cs.toList.drop (i*ta.cells+cv.length)).toArray
  have hnew:new.toList=cs.toList.take (i*ta.cells)++cv++cs.toList.drop (i*ta.cells+cv.length):=rfl
  have hrun:(execOp a.eval o).run P X.w= .ok .skip ((X.row r0 new).w):=by
   have hst:=z5n (P:=P) hE hT rep (off:=i*ta.cells) (w:=X.w) (r:=r0) (cur:=cs) (T':=T') hheap hfit
   simp only[execOp,ho,Sem.run_bind,Instr.storeAt,hv,Instr.sureAddr,Sem.run_pure,Result.andThen_ok,ev,hst]
   rfl
  have hsize:new.size=cs.size:=by
   have:new.toList.length=cs.toList.length:=by rw[hnew];simp;omega
   simpa using this
  have hbox:BoxAt (X.row r0 new) id r0 ⟨.spc .row ta tb,(List.set xs i yv:List (El ta)),[]⟩:=by
   refine⟨how,new,T',setRow_heap X.w r0 cs new T' (0,0) hheap,?_,fun j z hj=> ?_⟩
   ·rw[hsize,hsz]
    show _=List.length (List.set xs i yv)*_
    rw[List.length_set]
   ·refine Rep.sees_mono (fun _ _=>z3e (cs:=new) how) ?_
    have hj:(List.set xs i yv)[j]? =some z:=hj
    rw[hnew]
    by_cases e:i=j
    ·subst e
     rw[List.getElem?_set_self hlt] at hj
     cases hj
     have:((cs.toList.take (i*ta.cells)++cv++cs.toList.drop (i*ta.cells+cv.length)).drop (i*ta.cells)).take ta.cells=cv:=by
      rw[List.append_assoc,List.drop_append_of_le_length (by rw[List.length_take];omega),List.drop_eq_nil_of_le (by rw[List.length_take];omega),List.nil_append,←hcl,List.take_left]
     rw[this]
     exact rep
    ·rw[List.getElem?_set_ne e] at hj
     rw[zfl (cs:=cs.toList) (c:=cv) (off:=i*ta.cells) hfl (j*ta.cells) ta.cells ?_]
     ·exact hel j z hj
     ·rcases Nat.lt_or_gt_of_ne e with h|h
      ·have:(i+1)*ta.cells≤j*ta.cells:=Nat.mul_le_mul_right _ h
       rw[Nat.add_mul,Nat.one_mul] at this
       right;omega
      ·have:(j+1)*ta.cells≤i*ta.cells:=Nat.mul_le_mul_right _ h
       rw[Nat.add_mul,Nat.one_mul] at this
       left;omega
  exact⟨X.row r0 new,Go.undef,.inr ⟨hrun,rfl⟩,zka how,(hr.row (cs:=new) hb hβ how hbox).skip o.dst⟩
theorem z13j(hE:EnvOk P E)(hr:Rel X s a){ops:List Oper}{T:TypeId}{x y:Operand}(ho:o.op= .store T x y){C:FuncId→Fun' Out}(h:act E C ops o s some=some u):Done P X s a o u:=by
 unfold act at h
 simp only[ho] at h
 have hx:=hr.op1 x
 unfold store at h
 split at h
 case h_2=>cases h
 rename_i u0 hT
 split at h
 case h_2=>cases h
 rename_i id t p e
 rw[e] at hx
 obtain⟨r,hβ,hx⟩:=hx
 split at h
 ·exact zx6 hE hr ho hT e h
 rename_i hns
 have hns:t.isSpc=false:=by simpa using hns
 obtain⟨hv,hin⟩:=(z1j hns).1 hx
 split at h
 case h_2=>cases h
 rename_i B hB
 split at h
 case isFalse=>cases h
 rename_i heq
 have hbt:=Ty.eqb_eq heq
 subst hbt
 split at h
 case h_2=>cases h
 rename_i u' hat
 split at h
 case isFalse=>cases h
 rename_i heq2
 have:=Ty.eqb_eq heq2
 subst this
 have hb:=z2h hB
 obtain⟨yv,h,hy⟩:=zun hr h (.inl rfl)
 split at h
 case h_2=>cases h
 rename_i z hset
 cases h
 obtain⟨W,cv,hW,hX,hrW,rep,ev,hO,hβ2,hT2,_⟩:=hy (fun q=> .b id (p++q))
 obtain⟨r',hβW,hBA⟩:=hrW.boxes id B (by rw[z3o];exact hb)
 obtain⟨cs,T2,hheap,hrep,how,hown⟩:=hBA.cells hns
 have hrr:r'=r:=by
  rw[hβ2,hβ] at hβW
  exact(Option.some.inj hβW).symm
 subst hrr
 have hfit:B.t.off p+u'.cells≤cs.size:=by
  have:=at_le B.t p u' hat hin
  have hl:=hrep.len
  simp at hl
  omega
 let new:=(cs.toList.take (B.t.off p)++cv++cs.toList.drop (B.t.off p+cv.length)).toArray
 have hrun:(execOp a.eval o).run P X.w= .ok .skip ((W.row r' new).w):=by
  have hst:=z5n (P:=P) hE hT rep (off:=B.t.off p) (w:=X.w) (r:=r') (cur:=cs) (T':=T2) (by rw[←hW];exact hheap) hfit
  simp only[execOp,ho,Sem.run_bind,Instr.storeAt,hv,Instr.sureAddr,Sem.run_pure,Result.andThen_ok,ev,hst]
  rw[←hW];rfl
 have hown2:=z12i hrep hin hat hset rep hown hO
 have hbox:BoxAt (W.row r' new) id r' {t:=B.t,x:=z,own:=(s.op1 y).own.map (fun q=>p++q)++z4j B.own p}:=by
  refine⟨how,Held.of hns (setRow_heap W.w r' cs new T2 (0,0) hheap) ?_ ?_⟩
  ·have:=(set_rep hrep hin hat hset rep).sees_mono (fun _ _=>z3e (cs:=new) how)
   simpa [new] using this
  ·have:=hown2.row (cs:=new) how
   simpa [new] using this
 have hr2:=hrW.row (cs:=new) (by rw[z3o];exact hb) hβW how hbox
 exact⟨W.row r' new,Go.undef,.inr ⟨hrun,rfl⟩,hX.trans (zka how),hr2.skip o.dst⟩
end Go.Ref

namespace Go.Ref
open Go
variable {P:Program} {E:Env} {X:Cfg} {s:State} {a:Act} {o:Oper} {u:Out}
theorem zz3(off:Nat):∀(l:List Value) (k:Nat) (cs:Array Value),off+k+l.length≤cs.size→
 ((l.zipIdx k).foldl (fun cs p=>cs.setIfInBounds (off+p.2) p.1) cs).toList=cs.toList.take (off+k)++l++cs.toList.drop (off+k+l.length)
 | [],k,cs,h=>by simp
 |v::r,k,cs,h=>by
  simp only[List.length_cons] at h
  simp only[List.zipIdx_cons,List.foldl_cons]
  rw[zz3 off r (k+1) _ (by simp;omega)]
  simp only[Array.toList_setIfInBounds,List.length_cons]
  apply List.ext_getElem?
  intro q
  simp only[List.getElem?_append,List.getElem?_take,List.getElem?_drop,List.length_append,List.length_take,List.length_set,Array.length_toList,List.getElem?_set,List.length_cons,List.getElem?_cons]
  rw[Nat.min_eq_left (show off+(k+1)≤cs.size by omega),Nat.min_eq_left (show off+k≤cs.size by omega)]
  by_cases h1:q<off+k
  ·rw[if_pos (by omega),if_pos (by omega),if_pos (by omega),if_neg (by omega),if_pos (by omega),if_pos (by omega),if_pos (by omega)]
  ·by_cases h2:q=off+k
   ·subst h2
    rw[if_pos (by omega),if_pos (by omega),if_pos (by omega),if_pos rfl,if_pos (by omega),if_pos (by omega),if_neg (by omega),if_pos (by omega)]
   ·by_cases h3:q<off+(k+1)+r.length
    ·rw[if_pos (by omega),if_neg (by omega),if_pos (by omega),if_neg (by omega),if_neg (by omega)]
     try(congr 1<;>omega)
    ·rw[if_neg (by omega),if_neg (by omega),if_neg (by omega)]
     first|done|(congr 1;omega)
theorem zz2(off:Nat)(l:List Value)(cs:Array Value)(h:off+l.length≤cs.size):
 ((l.toArray.zipIdx).foldl (fun cs (p:Value×Nat)=>cs.setIfInBounds (off+p.2) p.1) cs).toList=cs.toList.take off++l++cs.toList.drop (off+l.length):=by
 have:=zz3 off l 0 cs (by omega)
 rw[←Array.foldl_toList,Array.toList_zipIdx]
 simpa using this
theorem zyy(hr:Rel X s a){t:Ty}{pl:Nat→Option (Nat×Nat)}(hpl:∀i ft,t.at_ [i]=some ft→t.inb1 i=true→t.inb [i]∧pl i=some (t.off [i],ft.cells)){R:Type}{K:El t→List (List Nat)→Option R}{z:R}:
 ∀(parts:List (Nat×Operand)) (x:El t) (own:List (List Nat)) (cs:Array Value),Rep X t x cs.toList→z3g t x own (parts.map fun p=>(p.1,s.op1 p.2,[])) K=some z→
  ∃y own' cells,K y own'=some z∧Instr.fill pl cs (parts.map fun p=>(p.1,a.eval p.2))=some cells∧Rep X t y cells.toList
 | [],x,own,cs,rep,h=>⟨x,own,cs,h,rfl,rep⟩
 |(i,p)::r,x,own,cs,rep,h=>by
  simp only[List.map_cons,z3g] at h
  split at h
  case isTrue=>cases h
  rename_i hb
  have hb:t.inb1 i=true:=by cases hb':t.inb1 i<;>simp_all
  split at h
  case h_2=>cases h
  rename_i ft hat
  obtain⟨y,h,hy⟩:=zx h
  split at h
  case h_2=>cases h
  rename_i x' hset
  obtain⟨c,rc,ec⟩:=hy X _ _ (hr.op1 p)
  obtain⟨hin,hp⟩:=hpl i ft hat hb
  have hcl:=rc.len
  have hcs:=rep.len
  have hle:=at_le t [i] ft hat hin
  have hset2:=set_rep rep hin hat hset rc
  have hfit:t.off [i]+c.length≤cs.size:=by rw[hcl];simp at hcs;omega
  have hfold:=zz2 (t.off [i]) c cs hfit
  obtain⟨y2,own2,cells,h1,h2,h3⟩:=zyy hr hpl r x' _ _ (by rw[hfold];exact hset2) h
  refine⟨y2,own2,cells,h1,?_,h3⟩
  simp only[List.map_cons,Instr.fill,hp,ec,z33 rc]
  rw[if_neg (by simp only[List.size_toArray,hcl];simp;simp at hcs;omega)]
  exact h2
theorem z8b{t:Ty}{pl:Nat→Option (Nat×Nat)}(hpl:∀i ft,t.at_ [i]=some ft→t.inb1 i=true→t.inb [i]∧pl i=some (t.off [i],ft.cells)){R:Type}{K:El t→List (List Nat)→Option R}{z:R}:
 ∀(parts:List (Nat×Operand)) (X:Cfg) (s:State) (x:El t) (own:List (List Nat)) (cs:Array Value),Rel X s a→Rep X t x cs.toList→OwnP X (.r 0) t x cs.toList own→z3g t x own (z1u s parts).1 K=some z→
  ∃y own' cells Y,K y own'=some z∧Y.w=X.w∧Ext X Y∧Rel Y (s.close (z1u s parts).2) a∧Instr.fill pl cs (parts.map fun p=>(p.1,a.eval p.2))=some cells∧Rep Y t y cells.toList∧OwnP Y (.r 0) t y cells.toList own'
 | [],X,s,x,own,cs,hr,rep,ho,h=>⟨x,own,cs,X,h,rfl,Ext.refl X,hr,rfl,rep,ho⟩
 |(i,p)::r,X,s,x,own,cs,hr,rep,ho,h=>by
  simp only[z1u,z3g] at h
  split at h
  case isTrue=>cases h
  rename_i hb
  have hb:t.inb1 i=true:=by cases hb':t.inb1 i<;>simp_all
  split at h
  case h_2=>cases h
  rename_i ft hat
  have hc:z4g (s.op1 p).own p=src p∨((s.op1 p).own=[]∧z4g (s.op1 p).own p=[]):=by
   cases hown:(s.op1 p).own with
   |nil=>exact .inr ⟨rfl,rfl⟩
   |cons _ _=>exact .inl rfl
  obtain⟨y,h,hy⟩:=zun hr h hc
  split at h
  case h_2=>cases h
  rename_i x' hset
  obtain⟨Y,c,hw,hext,hrel,rc,ec,hO,hβ,hT,hst⟩:=hy (fun q=> .r 0 ([i]++q))
  obtain⟨hin,hp⟩:=hpl i ft hat hb
  have hcl:=rc.len
  have hcs:=rep.len
  have hle:=at_le t [i] ft hat hin
  have repY:=rep.mono hext
  have hoY:=ho.stay hst (by simp)
  have hset2:=set_rep repY hin hat hset rc
  have hown2:=z12i repY hin hat hset rc hoY hO
  have hfit:t.off [i]+c.length≤cs.size:=by rw[hcl];simp at hcs;omega
  have hfold:=zz2 (t.off [i]) c cs hfit
  obtain⟨y2,own2,cells,Z,h1,hw2,hext2,hrel2,h2,h3,h4⟩:=z8b hpl r Y _ x' _ _ hrel (by rw[hfold];exact hset2) (by rw[hfold];exact hown2) h
  refine⟨y2,own2,cells,Z,h1,hw2.trans hw,hext.trans hext2,?_,?_,h3,h4⟩
  ·simp only[z1u,zek]
   exact hrel2
  ·simp only[List.map_cons,Instr.fill,hp,ec,z33 rc]
   rw[if_neg (by simp only[List.size_toArray,hcl];simp;simp at hcs;omega)]
   exact h2
theorem zug(hE:EnvOk P E):∀(fl:List Field) (t:Ty) (off:Nat),z1d E fl t off→∃places,fl.mapM (fun(f:Field)=>(P.info? f.type).map fun i=>(f.offset,i.size))=some places∧
 ∀(j:Nat) (f:Field) (ft:Ty),fl[j]? =some f→E.ty f.type=some ft→places[j]? =some (f.offset,ft.cells)
 | [],t,off,h=>⟨[],rfl,fun j f ft hj=>by simp at hj⟩
 |f::r,t,off,h=>by
  cases t<;>simp only[z1d] at h<;>try exact h.elim
  rename_i ta tb
  obtain⟨h1,h2,h3,h4⟩:=h
  obtain⟨places,g1,g2⟩:=zug hE r tb _ h4
  obtain⟨i,i1,i2,_⟩:=(hE.ty _ _ h2).info
  refine⟨(f.offset,i.size)::places,?_,fun j g gt hj hg=> ?_⟩
  ·simp [List.mapM_cons,i1,g1]
  ·cases j with
   |zero=>
    simp only[List.getElem?_cons_zero,Option.some.injEq] at hj
    subst hj
    rw[h2] at hg
    cases hg
    simp [i2]
   |succ j=>
    simp only[List.getElem?_cons_succ] at hj⊢
    exact g2 j g gt hj hg
theorem z17t(hE:EnvOk P E)(hr:Rel X s a){T:TypeId}{t:Ty}(hT:E.ty T=some t)(hagg:t.agg=true){R:Type}{K:El t→List (List Nat)→Option R}{z:R}(parts:Array (Nat×Operand))
 (h:z3g t (El.dflt t) (z3q t) (z1u s parts.toList).1 K=some z):
 ∃y own cs Y,K y own=some z∧Y.w=X.w∧Ext X Y∧Rel Y (s.close (z1u s parts.toList).2) a∧Rep Y t y cs∧OwnP Y (.r 0) t y cs own∧(Instr.build T (parts.map fun(i,x)=>(i,a.eval x))).run P X.w= .ok (mkv t cs) X.w:=by
 have hf:=hE.ty T t hT
 obtain⟨i,i1,i2,i3,i4⟩:=hf.info
 have hz:=z2x X t
 have hn:=zwb X (.r 0) t
 have hzc:(mkv t (zq t)).cells=(zq t).toArray:=z33 hz
 have hmap:(parts.map fun(i,x)=>(i,a.eval x)).toList=parts.toList.map fun p=>(p.1,a.eval p.2):=by simp
 cases t with
 |arr n t=>
  obtain⟨e,hu,he,_⟩:=hf.und
  obtain⟨ie,j1,j2,_⟩:=(hE.ty e t he).info
  obtain⟨y,own,cells,Y,k1,hw,hext,hrel,k2,k3,k4⟩:=z8b (pl:=fun i=>some (i*ie.size,ie.size)) (fun i ft hat hb=>by
   simp only[Ty.at_,Option.some.injEq] at hat
   subst hat
   have hb:i+1≤n:=by simpa [Ty.inb1] using hb
   exact⟨⟨hb,by simp [Ty.inb]⟩,by simp [Ty.off,j2]⟩) parts.toList X s (El.dflt (.arr n t)) _ (zq (.arr n t)).toArray hr (by simpa using hz) (by simpa using hn) h
  refine⟨y,own,cells.toList,Y,k1,hw,hext,hrel,k3,k4,?_⟩
  rw[z19 rfl]
  refine run_build X.w T _ cells.toList.toArray ?_
  unfold Program.built
  simp only[i1,hu,i4,j1,hzc,hmap]
  simpa using k2
 |pair ta tb=>
  obtain⟨fs,hu,hfit,_⟩:=hf.und
  obtain⟨places,p1,p2⟩:=zug hE fs.toList _ 0 hfit
  obtain⟨y,own,cells,Y,k1,hw,hext,hrel,k2,k3,k4⟩:=z8b (pl:=(places.toArray[·]?)) (fun i ft hat hb=>by
   obtain⟨f,g1,g2,g3,g4⟩:=zk4 fs.toList _ 0 i ft hfit rfl hat
   refine⟨g4,?_⟩
   have:=p2 i f ft g1 g3
   simp only[List.getElem?_toArray,this,g2,Nat.zero_add]) parts.toList X s (El.dflt (.pair ta tb)) _ (zq (.pair ta tb)).toArray hr (by simpa using hz) (by simpa using hn) h
  refine⟨y,own,cells.toList,Y,k1,hw,hext,hrel,k3,k4,?_⟩
  rw[z19 rfl]
  refine run_build X.w T _ cells.toList.toArray ?_
  unfold Program.built
  simp only[i1,hu,i4,p1,hzc,hmap]
  simpa using k2
 |unit=>
  obtain⟨fs,hu,hfit,_⟩:=hf.und
  obtain⟨places,p1,p2⟩:=zug hE fs.toList _ 0 hfit
  obtain⟨y,own,cells,Y,k1,hw,hext,hrel,k2,k3,k4⟩:=z8b (pl:=(places.toArray[·]?)) (fun i ft hat hb=>by simp [Ty.at_] at hat) parts.toList X s (El.dflt .unit) _ (zq .unit).toArray hr (by simpa using hz) (by simpa using hn) h
  refine⟨y,own,cells.toList,Y,k1,hw,hext,hrel,k3,k4,?_⟩
  rw[z19 rfl]
  refine run_build X.w T _ cells.toList.toArray ?_
  unfold Program.built
  simp only[i1,hu,i4,p1,hzc,hmap]
  simpa using k2
 |spc k a b=>exact absurd (hE.notSpc hT) (by simp [Ty.isSpc])
 |_=>simp [Ty.agg] at hagg
def Cfg.turnr(X:Cfg)(j:Nat)(q:List Nat→Place):Cfg:=
 {X with ow:=fun g=>match X.ow g with
  | .row (.r j' p) n=>if j'=j then .row (q p) n else .row (.r j' p) n
  |w=>w}
theorem z143{s:State}{X:Cfg}{j:Nat}{q:List Nat→Place}:Turn s X (X.turnr j q):=by
 refine⟨rfl,rfl,fun g=> ?_⟩
 simp only[Cfg.turnr]
 cases hg:X.ow g with
 |row pl n=>
  cases pl with
  |r j' p=>
   by_cases e:j'=j
   ·subst e
    exact .inr ⟨_,n,q p,rfl,fun h=>h,by simp⟩
   ·exact .inl (if_neg e)
  |_=>exact .inl rfl
 |_=>exact .inl rfl
theorem OwnP.turnedr{X:Cfg}{j:Nat}{q:List Nat→Place}{t:Ty}{x:El t}{cs:List Value}{own:List (List Nat)}(h:OwnP X (.r j) t x cs own):OwnP (X.turnr j q) q t x cs own:=fun p hp=>by
 obtain⟨e,t',xs,v,g0,g1,g2,g3⟩:=h p hp
 refine⟨e,t',xs,v,g0,g1,g2,?_⟩
 rcases g3 with h|⟨g,cap,cur,h1,h2,h3,h4,h5,h6⟩
 ·exact .inl h
 ·exact .inr ⟨g,cap,cur,h1,h2,h3,h4,h5,by simp [Cfg.turnr,h6]⟩
theorem z13b(hE:EnvOk P E)(hr:Rel X s a){ops:List Oper}{T:TypeId}{parts:Array (Nat×Operand)}(ho:o.op= .build T parts){C:FuncId→Fun' Out}(h:act E C ops o s some=some u):Done P X s a o u:=by
 unfold act at h
 simp only[ho] at h
 split at h
 case h_2=>cases h
 rename_i t hT
 split at h
 case isTrue=>cases h
 rename_i hagg
 have hagg:t.agg=true:=by cases hb':t.agg<;>simp_all
 obtain⟨y,own,cs,Y,h,hw,hext,hrel,rep,hO,hrun⟩:=z17t hE hr hT hagg parts h
 cases h
 have hT2:=z143 (s:=s.close (z1u s parts.toList).2) (X:=Y) (j:=0) (q:= .c (o.dst.getD 0) 0)
 refine⟨Y.turnr 0 (.c (o.dst.getD 0) 0),mkv t cs,.inl ?_,hext.trans hT2.ext,(hrel.mod hT2.mod).fin ⟨cs,rep.sees_mono (fun _ _=>hT2.sees.1),rfl,hO.turnedr⟩ (fun id t p hm=>by simp at hm)⟩
 rw[hT2.w,hw]
 simp only[execOp,ho,Sem.run_bind,hrun,Result.andThen_ok,Sem.run_pure]
end Go.Ref

namespace Go.Ref
open Go
variable {P:Program} {E:Env} {X:Cfg} {s:State} {a:Act} {o:Oper} {u:Out}
theorem z1cn{t:Ty}{x:El t}{xs:List (El t)}{n:Nat}{c cs:List Value}(h1:Rep X t x c)(h2:Rep X (.arr n t) xs cs):Rep X (.arr (n+1) t) (x::xs:List (El t)) (c++cs):=by
 obtain⟨k1,k2,k3⟩:=h2
 have hl:=h1.len
 refine⟨by simp;exact k1,by simp [k2,hl,Nat.add_mul];omega,fun j y hj=> ?_⟩
 cases j with
 |zero=>
  simp only[List.getElem?_cons_zero,Option.some.injEq] at hj
  subst hj
  rw[Nat.zero_mul,List.drop_zero,←hl,List.take_left]
  exact h1
 |succ j=>
  simp only[List.getElem?_cons_succ] at hj
  have hd:(c++cs).drop ((j+1)*t.cells)=cs.drop (j*t.cells):=by
   rw[Nat.add_mul,Nat.one_mul,Nat.add_comm,←List.drop_drop,←hl,List.drop_left]
  rw[hd]
  exact k3 j y hj
theorem z4e{t:Ty}{xs ys:List (El t)}{n m:Nat}{c d:List Value}(h1:Rep X (.arr n t) xs c)(h2:Rep X (.arr m t) ys d):Rep X (.arr (n+m) t) (xs++ys:List (El t)) (c++d):=by
 obtain⟨j1,j2,j3⟩:=h1
 obtain⟨k1,k2,k3⟩:=h2
 refine⟨by rw[List.length_append,j1,k1],by rw[List.length_append,j2,k2,Nat.add_mul],fun j y hj=> ?_⟩
 by_cases hlt:j<n
 ·rw[List.getElem?_append_left (by rw[j1];exact hlt)] at hj
  have hle:(j+1)*t.cells≤n*t.cells:=Nat.mul_le_mul_right _ hlt
  rw[Nat.add_mul,Nat.one_mul] at hle
  rw[List.drop_append_of_le_length (by omega),List.take_append_of_le_length (by rw[List.length_drop];omega)]
  exact j3 j y hj
 ·rw[List.getElem?_append_right (by rw[j1];omega),j1] at hj
  have hd:(c++d).drop (j*t.cells)=d.drop ((j-n)*t.cells):=by
   have hm:j*t.cells=c.length+(j-n)*t.cells:=by
    rw[j2,←Nat.add_mul]
    congr 1
    omega
   rw[hm,List.drop_length_add_append]
  rw[hd]
  exact k3 _ y hj
theorem zpo{t:Ty}{ad:Addr}(hs:ad.spot=none):∀(xs:List (El t)) (p:Nat),(∀(j:Nat) x,xs[j]? =some x→∃cs',Rep X t x cs'∧∀(i:Nat) v,cs'[i]? =some v→X.sees (ad.add (p+(j*t.cells+i))) v)→
 ∃cs,Rep X (.arr xs.length t) xs cs∧∀(i:Nat) v,cs[i]? =some v→X.sees (ad.add (p+i)) v
 | [],p,h=>⟨[],⟨rfl,by simp,fun j x hj=>by simp at hj⟩,fun i v hi=>by simp at hi⟩
 |x::xs,p,h=>by
  obtain⟨c,r1,s1⟩:=h 0 x rfl
  obtain⟨cs,r2,s2⟩:=zpo hs xs (p+t.cells) (fun j y hj=>by
   obtain⟨c',r',s'⟩:=h (j+1) y hj
   refine⟨c',r',fun i v hi=> ?_⟩
   have:=s' i v hi
   rw[show p+((j+1)*t.cells+i)=p+t.cells+(j*t.cells+i) by rw[Nat.add_mul];omega] at this
   exact this)
  have hl:=r1.len
  refine⟨c++cs,z1cn r1 r2,fun i v hi=> ?_⟩
  rw[List.getElem?_append] at hi
  split at hi
  ·have:=s1 i v hi
   rwa [show p+(0*t.cells+i)=p+i by omega] at this
  ·have:=s2 _ v hi
   rwa [show p+t.cells+(i-c.length)=p+i by omega] at this
theorem z8x{e:TypeId}{t:Ty}{xs:List (El t)}{A:Option Addr}{n c:Nat}(h:Rep X (.sl e t) xs [.slice A n c]):n=xs.length∧xs.length≤c∧
 ∃cs,Rep X (.arr xs.length t) xs cs∧(A=none→xs=[])∧∀ad,A=some ad→∀(i:Nat) v,cs[i]? =some v→X.sees (ad.add i) v:=by
 obtain⟨A',c',h1,h2,h3⟩:=h
 simp only[List.cons.injEq,Value.slice.injEq,and_true] at h1
 obtain⟨rfl,rfl,rfl⟩:=h1
 refine⟨rfl,h2,?_⟩
 cases xs with
 |nil=>exact⟨[],⟨rfl,by simp,fun j x hj=>by simp at hj⟩,fun _=>rfl,fun ad _ i v hi=>by simp at hi⟩
 |cons x r=>
  obtain⟨ad,_,hA,hs,_⟩:=h3 0 x rfl
  subst hA
  obtain⟨cs,k1,k2⟩:=zpo (X:=X) hs (x::r) 0 (fun j y hj=>by
   obtain⟨ad',c',e1,_,g1,g2⟩:=h3 j y hj
   cases e1
   exact⟨c',g1,fun i v hi=>by rw[Nat.zero_add];exact g2 i v hi⟩)
  refine⟨cs,k1,(fun e=>by cases e),fun ad' e i v hi=> ?_⟩
  cases e
  have:=k2 i v hi
  rwa [Nat.zero_add] at this
theorem zfm{e:TypeId}{t:Ty}{xs:List (El t)}{g cap:Nat}{pl:Place}{cur:Array Value}{cs:List Value}(hg:X.w.heap[g]? =some (.cells cur e (0,0)))(how:X.ow g= .row pl (xs.length*t.cells))
 (htake:cur.toList.take (xs.length*t.cells)=cs) (hrep:Rep X (.arr xs.length t) xs cs) (hcap:xs.length≤cap):Rep X (.sl e t) xs [.slice (some ⟨g,0,none⟩) xs.length cap]:=by
 refine⟨_,cap,rfl,hcap,fun j x hj=>⟨_,_,rfl,rfl,hrep.2.2 j x hj,fun i v hi=> ?_⟩⟩
 have hjl:=(List.getElem?_eq_some_iff.1 hj).1
 have hle:(j+1)*t.cells≤xs.length*t.cells:=Nat.mul_le_mul_right _ hjl
 rw[Nat.add_mul,Nat.one_mul] at hle
 rw[List.getElem?_take] at hi
 split at hi
 case isFalse=>cases hi
 rename_i hik
 rw[List.getElem?_drop,←htake,List.getElem?_take,if_pos (by omega)] at hi
 refine⟨z40 rfl _,?_,?_⟩
 ·rw[z1f,Nat.zero_add]
  simp only[World.cell?,hg]
  simpa using hi
 ·rw[z1f,Nat.zero_add]
  show Ow.used (X.ow g) _
  rw[how]
  show j*t.cells+i<_
  omega
end Go.Ref

namespace Go.Ref
open Go
variable {P:Program} {E:Env} {X:Cfg} {s:State} {a:Act} {o:Oper} {u:Out}
theorem zvt{R:Type}{t:Ty}{n:Nat}{K:List (El t)→Option R}:∀(parts:List (Nat×SV)) (xs:List (El t)) (own:List (List Nat)),xs.length=n→z6g t xs parts K=z3g (.arr n t) xs own (parts.map fun p=>(p.1,p.2,[])) (fun y _=>K y)
 | [],xs,own,h=>rfl
 |(i,v)::r,xs,own,h=>by
  subst h
  simp only[z6g,List.map_cons,z3g,Ty.inb1,Ty.at_,El.set,Ty.eqb_refl,dite_true,Option.map_some]
  congr 1
  refine congrArg (v.el t) (funext fun y=> ?_)
  exact zvt r (xs.set i y) _ (by simp)
theorem z1al{t:Ty}(n:Nat)(hk:0<t.cells):((Array.range (n*t.cells)).map fun i=>(zq t).toArray[i % (zq t).toArray.size]!).toList=(List.replicate n (zq t)).flatten:=by
 have hz:=z2c t
 apply List.ext_getElem?
 intro q
 have hlen:((List.replicate n (zq t)).flatten).length=n*t.cells:=by simp [hz]
 by_cases hq:q<n*t.cells
 ·have h1:q/t.cells<n:=(Nat.div_lt_iff_lt_mul hk).2 hq
  have h2:=z7y hz n (q/t.cells) h1
  have h3:=congrArg (fun l=>l[q % t.cells]?) h2
  simp only[List.getElem?_take,List.getElem?_drop,if_pos (Nat.mod_lt q hk)] at h3
  rw[Nat.mul_comm,Nat.div_add_mod] at h3
  rw[h3]
  have hm:q % t.cells<(zq t).length:=by rw[hz];exact Nat.mod_lt q hk
  rw[List.getElem?_eq_getElem hm]
  simp [hq,hz,hm]
  rw[List.getElem?_eq_getElem hm]
  rfl
 ·rw[List.getElem?_eq_none (by simp;omega),List.getElem?_eq_none (by omega)]
theorem z12h{X:Cfg}{pl:List Nat→Place}{e:TypeId}{t:Ty}{xs:List (El t)}{v:Value}(h:OwnAt X (pl []) e t.cells xs.length v):OwnP X pl (.sl e t) xs [v] [[]]:=fun p hp=>by
 have hp:p=[]:=by simpa using hp
 subst hp
 exact⟨e,t,xs,v,by simp [Ty.inb],rfl,rfl,h⟩
theorem zoq(hE:EnvOk P E)(hr:Rel X s a){ops:List Oper}{T:TypeId}{n:Nat}{parts:Array (Nat×Operand)}(ho:o.op= .buildSlice T n parts){C:FuncId→Fun' Out}(h:act E C ops o s some=some u):Done P X s a o u:=by
 unfold act at h
 simp only[ho] at h
 split at h
 case h_2=>cases h
 rename_i e t hT
 split at h
 case isTrue=>cases h
 rename_i hk0
 have hk:0<t.cells:=by rcases Nat.eq_zero_or_pos t.cells with h0|h0<;>simp_all
 cases hb:Nat.ble (n*t.cells) 16777216 with
 |false=>rw[hb] at h;cases h
 |true=>
  rw[hb] at h
  simp only[cond_true] at h
  have hsmall:n*t.cells≤16777216:=Nat.le_of_ble_eq_true hb
  rw[zvt (n:=n) _ _ [] (by simp),List.map_map] at h
  obtain⟨hu,he⟩:=(hE.ty T _ hT).und
  have hsz:=z15 (P:=P) hE he X.w
  have hzr:=zbk (P:=P) hE he X.w
  have hz0:=z2x X (.arr n t)
  obtain⟨y,own',cells,k1,k2,k3⟩:=zyy (pl:=fun i=>some (i*t.cells,t.cells)) hr (fun i ft hat hb=>by
   simp only[Ty.at_,Option.some.injEq] at hat
   subst hat
   have hb:i+1≤n:=by simpa [Ty.inb1] using hb
   exact⟨⟨hb,by simp [Ty.inb]⟩,by simp [Ty.off]⟩) parts.toList (El.dflt (.arr n t)) [] (zq (.arr n t)).toArray (by simpa using hz0) h
  cases k1
  have hy:List.length y=n:=k3.1
  have hcs:cells.size=n*t.cells:=by have:=k3.2.1;simpa using this
  have hn:n≤n*t.cells:=Nat.le_mul_of_pos_right n hk
  let Y:=X.new cells e (.row (.c (o.dst.getD 0) 0 []) (n*t.cells)) X.β
  have hkp:Keep s X Y:=zlx X s cells e _ _ rfl (fun _ _ _=>rfl)
  obtain⟨n1,n2⟩:=zf9 X cells e (.row (.c (o.dst.getD 0) 0 []) (n*t.cells)) X.β
  refine⟨Y,.slice (some ⟨X.w.heap.size,0,none⟩) n n,.inl ?_,hkp.ext,?_⟩
  ·have hcz:(Array.map (fun x=>(mkv t (zq t)).cells[x % (mkv t (zq t)).cells.size]!) (Array.range (n*t.cells)))=(zq (.arr n t)).toArray:=by
    apply Array.ext'
    rw[z33 (z2x X t),z1al n hk]
    rfl
   have hmap:(parts.map fun(i,x)=>(i,a.eval x)).toList=parts.toList.map fun p=>(p.1,a.eval p.2):=by simp
   by_cases hn0:n*t.cells=0
   ·have hn00:n=0:=by
     rcases Nat.mul_eq_zero.1 hn0 with h0|h0
     ·exact h0
     ·omega
    subst hn00
    have k2':Instr.fill (fun i=>some (i*t.cells,t.cells)) #[] (parts.toList.map fun p=>(p.1,a.eval p.2))=some cells:=k2
    have hmap':(parts.map fun x=>(x.1,a.eval x.2)).toList=parts.toList.map fun p=>(p.1,a.eval p.2):=by simp
    simp [execOp,ho,Instr.buildSlice,run_underlying hu,hsz,newRow,Y,Cfg.new]
    rw[show(Array.map (fun x=>default) (Array.range 0):Array Value)= #[] by simp,k2']
    simp
   ·have hc:=hcz
    simp [execOp,ho,Instr.buildSlice,run_underlying hu,hsz,hzr,hn0,newRow,Y,Cfg.new,Nat.not_lt.2 hsmall]
    rw[hcz,k2]
    simp
  ·refine(hr.keep hkp).fin ?_ (fun id t p hm=>by simp at hm)
   refine⟨[.slice (some ⟨X.w.heap.size,0,none⟩) n n],?_,rfl,z12h ?_⟩
   ·rw[←hy]
    refine zfm (pl:= .c (o.dst.getD 0) 0 []) (cur:=cells) (cs:=cells.toList) n1 (by rw[hy];exact n2) ?_ ?_ (Nat.le_refl _)
    ·rw[hy,List.take_of_length_le (by simp [hcs])]
    ·rw[hy];exact k3.sees_mono (fun _ _=>hkp.sees)
   ·refine .inr ⟨X.w.heap.size,n,cells,by rw[hy],n1,by rw[hy];exact Nat.le_refl _,?_,hcs,by rw[hy];exact n2⟩
    simp only[maxLen]
    omega
end Go.Ref

namespace Go.Ref
open Go
variable {P:Program} {E:Env} {X:Cfg} {s:State} {a:Act} {o:Oper} {u:Out}
inductive Grown(w w':World)(e:TypeId)(k:Nat)(vb v':Value)(cx cy:List Value)(n:Nat):Prop where
 |same (h:w'=w) (hv:v'=vb) (hy:cy=[])
 |room (g cap:Nat) (cur cur':Array Value) (hb:∃m,vb= .slice (some ⟨g,0,none⟩) m cap) (hg:w.heap[g]? =some (.cells cur e (0,0))) (hv:v'= .slice (some ⟨g,0,none⟩) n cap) (hn:n≤cap) (hm:cap≤maxLen)
   (hw:w'=w.setRow g cur') (hs:cur'.size=cap*k) (ht:cur'.toList.take (n*k)=cx++cy)
 |new (cap:Nat) (cur':Array Value) (hv:v'= .slice (some ⟨w.heap.size,0,none⟩) n cap) (hn:n≤cap) (hm:cap≤maxLen) (hw:w'=w.drew.alloc (.cells cur' e)) (hs:cur'.size=cap*k) (ht:cur'.toList.take (n*k)=cx++cy)
theorem z132(hE:EnvOk P E){T ty e:TypeId}{t:Ty}(hT:E.ty T=some (.sl e t))(hk:0<t.cells)(hby:E.bytes e≠0){xs ys:List (El t)}{vb vx:Value}{pl:Place}
 (hown:OwnAt X pl e t.cells xs.length vb) {cx cy:List Value} (rx:Rep X (.arr xs.length t) xs cx) (sx:∀g m c,vb= .slice (some ⟨g,0,none⟩) m c→∀(i:Nat) v,cx[i]? =some v→X.sees ((⟨g,0,none⟩:Addr).add i) v)
 (ry:Rep X (.arr ys.length t) ys cy) (hvx:∃A c,vx= .slice A ys.length c∧(A=none→ys=[])∧∀ad,A=some ad→∀(i:Nat) v,cy[i]? =some v→X.sees (ad.add i) v)
 (hbound:(xs.length+ys.length)*E.bytes e≤140737488355328):
 ∃v' w',(Builtin.append_ #[T,T] ty #[vb,vx]).run P X.w= .ok v' w'∧Grown X.w w' e t.cells vb v' cx cy (xs.length+ys.length)∧(v'= .slice none 0 0→xs.length+ys.length=0):=by
 obtain⟨hu,he⟩:=(hE.ty T _ hT).und
 obtain⟨i,hi,hsize,hbytes,hz⟩:=(hE.ty e t he).info
 have hzs:(mkv t (zq t)).cells.size=t.cells:=by rw[z33 (z2x X t)];simp [z2c]
 have hlx:cx.length=xs.length*t.cells:=rx.2.1
 have hly:cy.length=ys.length*t.cells:=ry.2.1
 have h1:∀u∈cy,u.oneCell'=true:=ry.one
 have hle:xs.length+ys.length≤140737488355328:=Nat.le_trans (Nat.le_mul_of_pos_right _ (Nat.pos_of_ne_zero hby)) hbound
 have h63:xs.length+ys.length≤maxLen:=by simp only[maxLen];omega
 obtain⟨A,c,rfl,hA,hsy⟩:=hvx
 cases A with
 |none=>
  have hys:=hA rfl
  subst hys
  have hcy:cy=[]:=List.eq_nil_of_length_eq_zero (by simpa using hly)
  subst hcy
  rcases hown with⟨rfl,hn⟩|⟨g,cap,cur,rfl,hg,hnc,hcm,hcs,how⟩
  ·refine⟨.slice none 0 0,X.w,?_,.same rfl rfl rfl,fun _=>by simp [hn]⟩
   simp [Builtin.append_,run_underlying hu,sizeOf,typeInfo,hi,Builtin.lenOf,Builtin.firstCells]
  ·refine⟨_,X.w,?_,.same rfl rfl rfl,fun e=>by cases e⟩
   simp [Builtin.append_,run_underlying hu,sizeOf,typeInfo,hi,Builtin.lenOf,Builtin.firstCells,hnc,storeCells]
 |some ad=>
  have hny:∀j u,cy[j]? =some u→X.w.cell? (ad.add j)=some u:=fun j u hj=>(hsy ad rfl j u hj).2.1
  have hcells:∀(old:Nat),(cx.toArray++cy.toArray++Builtin.zeroCells (mkv t (zq t)).cells (grownCap X.w (xs.length+ys.length) old e-(xs.length+ys.length))).size=grownCap X.w (xs.length+ys.length) old e*t.cells∧
   (cx.toArray++cy.toArray++Builtin.zeroCells (mkv t (zq t)).cells (grownCap X.w (xs.length+ys.length) old e-(xs.length+ys.length))).toList.take ((xs.length+ys.length)*t.cells)=cx++cy:=by
   intro old
   have hge:=grownCap_ge X.w (xs.length+ys.length) old e
   refine⟨?_,?_⟩
   ·simp only[Array.size_append,List.size_toArray,size_zeroCells,hzs,hlx,hly,←Nat.add_mul]
    congr 1
    omega
   ·have hl:(cx++cy).length=(xs.length+ys.length)*t.cells:=by rw[List.length_append,hlx,hly,Nat.add_mul]
    rw[←hl]
    simp only[Array.toList_append]
    exact List.take_left
  rcases hown with⟨rfl,hn⟩|⟨g,cap,cur,rfl,hg,hnc,hcm,hcs,how⟩
  ·have hcx:cx=[]:=List.eq_nil_of_length_eq_zero (by rw[hlx,hn,Nat.zero_mul])
   subst hcx
   by_cases hm:ys.length=0
   ·have hcy:cy=[]:=List.eq_nil_of_length_eq_zero (by rw[hly,hm,Nat.zero_mul])
    subst hcy
    refine⟨.slice none 0 0,X.w,?_,.same rfl rfl rfl,fun _=>by omega⟩
    simp [Builtin.append_,run_underlying hu,sizeOf,typeInfo,hi,Builtin.lenOf,Builtin.firstCells,hm,loadCells,loadCellsFrom]
   ·have hxl:xs.length=0:=hn
    rw[hxl,Nat.zero_add] at hbound hle h63
    have hr:=run_append_nil (P:=P) X.w T ty e i (mkv t (zq t)) hu hi hz ad ys.length c cy (by rw[hsize];exact hly) hny (by omega) (by omega) (by rw[hbytes];omega)
    obtain⟨c1,c2⟩:=hcells 0
    have hge:=grownCap_ge X.w (xs.length+ys.length) 0 e
    have hcm:=grownCap_le_maxLen X.w (xs.length+ys.length) 0 e (by rw[hxl,Nat.zero_add];exact h63)
    refine⟨_,_,hr,.new (grownCap X.w (xs.length+ys.length) 0 e) _ (by rw[hxl,Nat.zero_add]) hge hcm ?_ c1 c2,fun e=>by cases e⟩
    rw[hxl,Nat.zero_add]
    simp
  ·by_cases hroom:xs.length+ys.length≤cap
   ·have hfit:xs.length*i.size+cy.length≤cur.size:=by rw[hsize,hly,hcs,←Nat.add_mul];exact Nat.mul_le_mul_right _ hroom
    have hr:=run_append_room (P:=P) X.w T ty e i hu hi g xs.length cap cur hg ad ys.length c cy (by rw[hsize];exact hly) hny h1 hroom hfit
    refine⟨_,_,hr,.room g cap cur _ ⟨_,rfl⟩ hg rfl hroom hcm rfl ?_ ?_,fun e=>by cases e⟩
    ·simp only[List.size_toArray,List.length_append,List.length_take,List.length_drop,Array.length_toList]
     omega
    ·have htake:cur.toList.take (xs.length*i.size)=cx:=by
      rw[hsize]
      apply List.ext_getElem?
      intro q
      by_cases hq:q<xs.length*t.cells
      ·rw[List.getElem?_take,if_pos hq]
       have hxq:=List.getElem?_eq_getElem (l:=cx) (i:=q) (by rw[hlx];exact hq)
       have:=(sx g _ _ rfl q _ hxq).2.1
       rw[z1f,Nat.zero_add] at this
       simp only[World.cell?,hg] at this
       rw[hxq]
       simpa using this
      ·rw[List.getElem?_eq_none (by rw[List.length_take];omega),List.getElem?_eq_none (by omega)]
     have hl:(cx++cy).length=(xs.length+ys.length)*t.cells:=by rw[List.length_append,hlx,hly,Nat.add_mul]
     rw[htake,←hl]
     simp only[List.take_left]
   ·have holds:∀j u,cx[j]? =some u→X.w.cell? ((⟨g,0,none⟩:Addr).add j)=some u:=fun j u hj=>(sx g _ _ rfl j u hj).2.1
    have hr:=run_append_grow (P:=P) X.w T ty e i (mkv t (zq t)) hu hi hz ⟨g,0,none⟩ xs.length cap cx (by rw[hsize];exact hlx) holds ad ys.length c cy (by rw[hsize];exact hly) hny (by omega) (by omega) (growslice_fits (by omega) (by rw[hbytes];exact hbound))
    obtain⟨c1,c2⟩:=hcells cap
    exact⟨_,_,hr,.new _ _ rfl (grownCap_ge _ _ _ _) (grownCap_le_maxLen _ _ _ _ h63) rfl c1 c2,fun e=>by cases e⟩
theorem OwnAt.give{X:Cfg}{s:State}{pl:Place}{e:TypeId}{k n:Nat}{v:Value}(h:OwnAt X pl e k n v)(hf:¬Flag s pl)(q:Place):∃Y,Turn s X Y∧OwnAt Y q e k n v:=by
 rcases h with h|⟨g,cap,cur,h1,h2,h3,h4,h5,h6⟩
 ·exact⟨X,Turn.refl s X,.inl h⟩
 ·refine⟨{X with ow:=fun g'=>if g'=g then .row q (n*k) else X.ow g'},⟨rfl,rfl,fun g'=> ?_⟩,.inr ⟨g,cap,cur,h1,h2,h3,h4,h5,by simp⟩⟩
  by_cases e:g'=g
  ·subst e;exact .inr ⟨pl,_,q,h6,hf,by simp⟩
  ·exact .inl (by simp [e])
theorem z1k9{R:Type}{t t':Ty}{x:El t'}{w:List (List Nat)}{K:El t→Option R}{z:R}(h:(SV.dat t' x w).el t K=some z):∃he:t'.eqb t=true,K (Ty.cast he x)=some z:=by
 simp only[SV.el] at h
 split at h
 ·rename_i he;exact⟨he,h⟩
 ·cases h
theorem z10y(hE:EnvOk P E)(hr:Rel X s a){ops:List Oper}{asv:Array Operand}{ts:Array TypeId}(ho:o.op= .call ⟨.builtin .append,asv,ts⟩){C:FuncId→Fun' Out}(h:act E C ops o s some=some u):Done P X s a o u:=by
 unfold act at h
 simp only[ho] at h
 split at h
 case h_2=>cases h
 rename_i b x T U hxs hTs
 have has:asv= #[b,x]:=by rw[←Array.toArray_toList (xs:=asv),hxs]
 have hts:ts= #[T,U]:=by rw[←Array.toArray_toList (xs:=ts),hTs]
 subst has hts
 have hb:=hr.op1 b
 have hx:=hr.op1 x
 unfold za6 at h
 split at h
 case isTrue=>cases h
 rename_i hTU
 have hTU:T=U:=by
  have:T.beq U=true:=by cases hb':Nat.beq T U<;>simp_all
  exact Nat.eq_of_beq_eq_true this
 subst hTU
 split at h
 case h_2=>cases h
 rename_i e t hT
 split at h
 case isTrue=>cases h
 rename_i h0
 have h0:Nat.beq (E.bytes e) 0=false∧Nat.beq t.cells 0=false:=by
  cases h1:Nat.beq (E.bytes e) 0<;>cases h2:Nat.beq t.cells 0<;>simp_all
 have hby:E.bytes e≠0:=fun e0=>by rw[e0] at h0;simp at h0
 have hk:0<t.cells:=by
  rcases Nat.eq_zero_or_pos t.cells with e0|e0
  ·rw[e0] at h0;simp at h0
  ·exact e0
 have key:∀(xs ys:List (El t)) (cl:List (Nat×Nat)) (pl:Place),¬Flag (s.close cl) pl→OwnAt X pl e t.cells xs.length (a.eval b)→Rep X (.sl e t) xs [a.eval b]→Rep X (.sl e t) ys [a.eval x]→
  (xs.length+ys.length)*E.bytes e≤140737488355328→Done P X s a o {v:=[.dat (.sl e t) (xs++ys:List (El t)) [[]]],cl:=cl}:=by
  intro xs ys cl pl hnf hown rxs rys hbound
  obtain⟨A1,c1,hv1,rest1⟩:=rxs
  have e1:a.eval b= .slice A1 xs.length c1:=by simpa using hv1
  obtain⟨A2,c2,hv2,rest2⟩:=rys
  have e2:a.eval x= .slice A2 ys.length c2:=by simpa using hv2
  obtain⟨_,_,cx,rx,_,sx⟩:=z8x (X:=X) (e:=e) (show Rep X (.sl e t) xs [.slice A1 xs.length c1] from⟨A1,c1,rfl,rest1⟩)
  obtain⟨_,_,cy,ry,ny,sy⟩:=z8x (X:=X) (e:=e) (show Rep X (.sl e t) ys [.slice A2 ys.length c2] from⟨A2,c2,rfl,rest2⟩)
  have sx':∀g m c,a.eval b= .slice (some ⟨g,0,none⟩) m c→∀(i:Nat) v,cx[i]? =some v→X.sees ((⟨g,0,none⟩:Addr).add i) v:=by
   intro g m c hv
   rw[e1] at hv
   injection hv with hA
   exact sx _ hA
  obtain⟨v',w',hrun,hgr,hnil⟩:=z132 (ty:=o.type) hE hT hk hby hown rx sx' ry ⟨A2,c2,e2,ny,sy⟩ hbound
  have hlx:cx.length=xs.length*t.cells:=rx.2.1
  have hly:cy.length=ys.length*t.cells:=ry.2.1
  have hrun':(execOp a.eval o).run P X.w= .ok (.value v') w':=by
   simp only[execOp,ho,resolve,invoke,builtin,Sem.run_bind,Sem.run_pure,Result.andThen_ok,List.map_toArray,List.map_cons,List.map_nil,hrun]
  have fin:∀(Y:Cfg),Y.w=w'→Mod (s.close cl) X Y→Rep Y (.arr (xs.length+ys.length) t) (xs++ys:List (El t)) (cx++cy)→OwnAt Y (.c (o.dst.getD 0) 0 []) e t.cells (xs.length+ys.length) v'→
   Rep Y (.sl e t) (xs++ys:List (El t)) [v']→Done P X s a o {v:=[.dat (.sl e t) (xs++ys:List (El t)) [[]]],cl:=cl}:=by
   intro Y hY hm hr2 ho2 hr3
   refine⟨Y,v',.inl (by rw[hY];exact hrun'),hm.ext,((hr.close cl).mod hm).fin ⟨[v'],hr3,rfl,z12h ?_⟩ (fun id t p hmm=>by simp at hmm)⟩
   rw[List.length_append]
   exact ho2
  cases hgr with
  |same h1 h2 h3=>
   subst h2
   have hy0:ys=[]:=by
    have:ys.length=0:=by
     rcases Nat.mul_eq_zero.1 (show ys.length*t.cells=0 by rw[←hly,h3];rfl) with h|h
     ·exact h
     ·omega
    exact List.eq_nil_of_length_eq_zero this
   subst hy0
   obtain⟨Y,hT2,hO2⟩:=OwnAt.give (s:=s.close cl) hown hnf (.c (o.dst.getD 0) 0 [])
   refine fin Y (by rw[hT2.w,h1]) hT2.mod ?_ (by simpa using hO2) ?_
   ·have:=(z4e rx ry)
    exact this.sees_mono (fun _ _=>hT2.sees.1)
   ·rw[List.append_nil]
    exact Rep.sees_mono (fun _ _=>hT2.sees.1) (show Rep X (.sl e t) xs [a.eval b] from⟨A1,c1,hv1,rest1⟩)
  |new cap cur' hv hn hm hw hs ht=>
   let Y:Cfg:=⟨w',fun g=>if g=X.w.heap.size then .row (.c (o.dst.getD 0) 0 []) ((xs.length+ys.length)*t.cells) else X.ow g,X.β⟩
   have hkp:Keep (s.close cl) X Y:=⟨by simp [Y,hw],by simp only[Y,hw];rfl,by simp only[Y,hw];rfl,by simp only[Y,hw];rfl,fun g hg=>⟨by simp only[Y];rw[if_neg (by omega)],by simp only[Y,hw];exact RowKit.Below.heap_alloc _ _ _ hg⟩,rfl,fun _ _ _=>rfl⟩
   have hheap:Y.w.heap[X.w.heap.size]? =some (.cells cur' e (0,0)):=by simp only[Y,hw];exact heap_alloc_new X.w.drew _
   have how:Y.ow X.w.heap.size= .row (.c (o.dst.getD 0) 0 []) ((xs.length+ys.length)*t.cells):=by simp [Y]
   have hrep:=(z4e rx ry).sees_mono (fun _ _=>hkp.sees)
   refine fin Y rfl hkp.mod hrep (.inr ⟨_,cap,cur',hv,hheap,hn,hm,hs,how⟩) ?_
   rw[hv,←List.length_append]
   exact zfm (cs:=cx++cy) hheap (by rw[List.length_append];exact how) (by rw[List.length_append];exact ht) (by rw[List.length_append];exact hrep) (by rw[List.length_append];exact hn)
  |room g cap cur cur' hb2 hg hv hn hm hw hs ht=>
   obtain⟨m,hbv⟩:=hb2
   rcases hown with⟨hz,_⟩|⟨g',cap',cur2,hv',hg',hnc,hcm,hcs,how⟩
   ·rw[hz] at hbv;cases hbv
   have hgg:g'=g:=by rw[hbv] at hv';injection hv' with h1;injection h1 with h1;injection h1 with h1;exact h1.symm
   subst hgg
   have hcur:cur2=cur:=by rw[hg] at hg';cases hg';rfl
   subst hcur
   have hlt:=z7e hg
   let Y:Cfg:=⟨w',fun k=>if k=g' then .row (.c (o.dst.getD 0) 0 []) ((xs.length+ys.length)*t.cells) else X.ow k,X.β⟩
   have hheap:Y.w.heap[g']? =some (.cells cur' e (0,0)):=by simp only[Y,hw];exact setRow_heap X.w g' cur2 cur' e (0,0) hg
   have how2:Y.ow g'= .row (.c (o.dst.getD 0) 0 []) ((xs.length+ys.length)*t.cells):=by simp [Y]
   have hsees:∀ad v,X.sees ad v→Y.sees ad v:=by
    intro ad v hsv
    by_cases heq:ad.block=g'
    ·obtain⟨k1,k2,k3⟩:=hsv
     rw[heq,how] at k3
     have k3:ad.off<xs.length*t.cells:=k3
     have had:ad=(⟨g',0,none⟩:Addr).add ad.off:=by rw[z1f,Nat.zero_add];cases ad;simp_all
     have hxq:=List.getElem?_eq_getElem (l:=cx) (i:=ad.off) (by rw[hlx];exact k3)
     have hcx:=(sx' g' _ _ hbv ad.off _ hxq).2.1
     rw[←had,k2] at hcx
     refine⟨k1,?_,?_⟩
     ·have hq:cur'.toList[ad.off]? =some v:=by
       have:=congrArg (fun l=>l[ad.off]?) ht
       simp only[List.getElem?_take] at this
       have hle:xs.length*t.cells≤(xs.length+ys.length)*t.cells:=Nat.mul_le_mul_right _ (Nat.le_add_right _ _)
       rw[if_pos (by omega),List.getElem?_append_left (by rw[hlx];exact k3),hxq] at this
       rw[this];exact hcx.symm
      simp only[World.cell?,heq,hheap,k1]
      simpa using hq
     ·rw[heq,how2]
      have hle:xs.length*t.cells≤(xs.length+ys.length)*t.cells:=Nat.mul_le_mul_right _ (Nat.le_add_right _ _)
      show ad.off<_
      omega
    ·refine⟨hsv.1,?_,?_⟩
     ·have:=hsv.2.1
      simp only[World.cell?,Y,hw] at this⊢
      rw[setRow_other X.w g' ad.block cur' heq]
      exact this
     ·simp only[Y]
      rw[if_neg heq]
      exact hsv.2.2
   have hmod:Mod (s.close cl) X Y:=⟨hsees,by simp [Y,hw],by simp only[Y,hw];rfl,by simp only[Y,hw];rfl,by simp only[Y,hw];rfl,rfl,fun _ _ _=>rfl,fun k hk=>by
    by_cases heq:k=g'
    ·subst heq;exact .inr ⟨pl,_,how,hnf⟩
    ·refine .inl ⟨by simp only[Y];rw[if_neg heq],?_⟩
     simp only[Y,hw]
     exact setRow_other X.w g' k cur' heq⟩
   have hrep:=(z4e rx ry).sees_mono hsees
   refine fin Y rfl hmod hrep (.inr ⟨_,cap,cur',hv,hheap,hn,hm,hs,how2⟩) ?_
   rw[hv,←List.length_append]
   exact zfm (cs:=cx++cy) hheap (by rw[List.length_append];exact how2) (by rw[List.length_append];exact ht) (by rw[List.length_append];exact hrep) (by rw[List.length_append];exact hn)
 split at h
 ·rename_i hbs
  rw[hbs] at hb
  obtain⟨ys,h,hys⟩:=zx h
  cases hd:decide (List.length ys*E.bytes e≤140737488355328) with
  |false=>rw[hd] at h;cases h
  |true=>
   rw[hd] at h
   cases h
   obtain⟨cs,rys,ev⟩:=hys X _ _ hx
   have hbv:a.eval b= .slice none 0 0:=hb
   have hone:cs=[a.eval x]:=by
    obtain⟨A,c,hcs,_⟩:=rys
    rw[ev,hcs];rfl
   have:=key [] ys [] (.r 0 []) (fun hf=>hf) (.inl ⟨hbv,rfl⟩) (by rw[hbv];exact⟨none,0,rfl,Nat.le_refl _,fun j x hj=>by simp at hj⟩) (by rw[←hone];exact rys) (by simpa using of_decide_eq_true hd)
   simpa using this
 ·rename_i t' xs0 own0 hbs
  rw[hbs] at hb
  split at h
  case isTrue=>cases h
  rename_i hhas
  have hhas:z2l own0 []=true:=by cases hb':z2l own0 []<;>simp_all
  obtain⟨heq,h⟩:=z1k9 h
  have:=Ty.eqb_eq heq
  subst this
  obtain⟨ys,h,hys⟩:=zx h
  cases hd:decide ((List.length (Ty.cast heq xs0)+List.length ys)*E.bytes e≤140737488355328) with
  |false=>rw[hd] at h;cases h
  |true=>
   rw[hd] at h
   cases h
   obtain⟨cs,rys,ev⟩:=hys X _ _ hx
   have hmem:=z13o hhas
   obtain⟨i,rfl⟩:=z1ht hbs (fun e=>by rw[e] at hmem;cases hmem)
   obtain⟨cs1,r1,ev1,hO⟩:=hb
   have hone:cs=[a.eval x]:=by
    obtain⟨A,c,hcs,_⟩:=rys
    rw[ev,hcs];rfl
   have hone1:cs1=[a.eval (.tmp i)]:=by
    obtain⟨A,c,hcs,_⟩:=r1
    rw[ev1,hcs];rfl
   obtain⟨e',t'',xs',v',_,g1,g2,g3⟩:=hO [] hmem
   simp only[El.get,Option.some.injEq,Sigma.mk.injEq,Ty.sl.injEq] at g1
   obtain⟨⟨rfl,rfl⟩,g1⟩:=g1
   cases g1
   have hv':v'=a.eval (.tmp i):=by
    rw[hone1] at g2
    simpa [Ty.off] using g2.symm
   rw[hv'] at g3
   exact key xs0 ys [(i,0)] (.c i 0 []) Flag.close g3 (by rw[←hone1];exact r1) (by rw[←hone];exact rys) (of_decide_eq_true hd)
 ·cases h
end Go.Ref

namespace Go.Ref
open Go
variable {P:Program} {E:Env} {X:Cfg} {s:State} {a:Act} {o:Oper} {u:Out}
def Cfg.obj(X:Cfg)(r:Nat)(b:Obj):Cfg:={X with w:={X.w with heap:=X.w.heap.setIfInBounds r b}}
theorem z6j{r g:Nat}{b:Obj}(h:g≠r):(X.obj r b).w.heap[g]? =X.w.heap[g]? :=by
 simp [Cfg.obj,Ne.symm h]
theorem zzq{r:Nat}{b b':Obj}(h:X.w.heap[r]? =some b'):(X.obj r b).w.heap[r]? =some b:=(MapKept.heap_set h).1
theorem z4w{r id:Nat}{b:Obj}(h:X.ow r= .box id){ad:Addr}{v:Value}(hs:X.sees ad v):(X.obj r b).sees ad v:=by
 have hne:ad.block≠r:=fun e=>by
  have:=hs.2.2
  rw[e,h] at this
  exact this
 refine⟨hs.1,?_,hs.2.2⟩
 have:=hs.2.1
 simp only[World.cell?] at this⊢
 rw[z6j hne]
 exact this
theorem z12f{r id:Nat}{b:Obj}(h:X.ow r= .box id):Ext X (X.obj r b) where
 sees:=fun _ _=>z4w h
 size:=by simp [Cfg.obj]
 os:=rfl
 tape:=rfl
 output:=rfl
 β0:=rfl
 still:=fun g _ hst=>by
  have hne:g≠r:=fun e=>by rw[e,h] at hst;exact hst
  exact⟨rfl,z6j hne⟩
theorem OwnAt.obj{r id:Nat}{b:Obj}(h:X.ow r= .box id){pl:Place}{e:TypeId}{k n:Nat}{v:Value}(ho:OwnAt X pl e k n v):OwnAt (X.obj r b) pl e k n v:=by
 rcases ho with ho|⟨g,cap,cur,h1,h2,h3,h4,h5,h6⟩
 ·exact .inl ho
 ·have hne:g≠r:=fun e=>by rw[e,h] at h6;cases h6
  exact .inr ⟨g,cap,cur,h1,(z6j hne).trans h2,h3,h4,h5,h6⟩
theorem OwnP.obj{r id:Nat}{b:Obj}(h:X.ow r= .box id){pl:List Nat→Place}{t:Ty}{x:El t}{c:List Value}{own:List (List Nat)}(ho:OwnP X pl t x c own):OwnP (X.obj r b) pl t x c own:=fun p hp=>by
 obtain⟨e,t',xs,v,g0,g1,g2,g3⟩:=ho p hp
 exact⟨e,t',xs,v,g0,g1,g2,g3.obj h⟩
theorem RepV.obj{r id:Nat}{b:Obj}(h:X.ow r= .box id){pl:List Nat→Place}{sv:SV}{v:Value}(hr:RepV X pl sv v):RepV (X.obj r b) pl sv v:=by
 cases sv with
 |dat t x own=>
  obtain⟨c,h1,h2,h3⟩:=hr
  exact⟨c,h1.sees_mono (fun _ _=>z4w h),h2,h3.obj h⟩
 |view t x=>
  obtain⟨ad,c,h1,h2,h3,h4⟩:=hr
  exact⟨ad,c,h1,h2,h3.sees_mono (fun _ _=>z4w h),fun i u hi=>z4w h (h4 i u hi)⟩
 |cap f t x u y=>exact z38 (fun _ _=>z4w h) hr
 |_=>exact hr
theorem Rel.obj{r id:Nat}{B B':Box}{b:Obj}(hr:Rel X s a)(hb:s.bs[id]? =some (some B))(hβ:X.β id=some r)(h:X.ow r= .box id)(hB:BoxAt (X.obj r b) id r B'):Rel (X.obj r b) (s.putBox (some (id,B'))) a where
 size:=hr.size
 bsz:=by simpa [State.putBox] using hr.bsz
 slots:=fun i l v hl hv=>(hr.slots i l v hl hv).impF fun j sv u hm hsv=>hsv.obj h
 boxes:=fun id' B2 hB2=>by
  have hlt:id<s.bs.length:=(List.getElem?_eq_some_iff.1 hb).1
  simp only[State.putBox,List.getElem?_set] at hB2
  by_cases e:id=id'
  ·subst e
   rw[if_pos rfl,if_pos hlt] at hB2
   cases hB2;exact⟨r,hβ,hB⟩
  ·rw[if_neg e] at hB2
   obtain⟨r',h1,h4,h2⟩:=hr.boxes id' B2 hB2
   have hne:r'≠r:=fun e2=>by rw[e2,h] at h4;cases h4;exact e rfl
   exact⟨r',h1,h4,h2.move (fun _ _=>z4w h) (z6j hne) (fun cs h5=>h5.obj h) fun _ g o ho hw=>⟨(z6j (fun e3=>by rw[e3,h] at hw;cases hw)).trans ho,hw⟩⟩
 live:=fun i l id' t p hi hm=>by
  have hlt:id<s.bs.length:=(List.getElem?_eq_some_iff.1 hb).1
  obtain⟨B2,hB2⟩:=hr.live i l id' t p hi hm
  simp only[State.putBox,List.getElem?_set]
  by_cases e:id=id'
  ·subst e;exact⟨B',by rw[if_pos rfl,if_pos hlt]⟩
  ·rw[if_neg e];exact⟨B2,hB2⟩
 defers:=hr.defers
def Cfg.newO(X:Cfg)(b:Obj)(w:Ow)(β:Nat→Option Nat):Cfg:={w:=X.w.alloc b,ow:=fun g=>if g=X.w.heap.size then w else X.ow g,β}
theorem zw6(X:Cfg)(s:State)(b:Obj)(w:Ow)(β:Nat→Option Nat)(hβ0:β 0=X.β 0)(hβ:∀(id:Nat) B,s.bs[id]? =some (some B)→β id=X.β id):Keep s X (X.newO b w β) where
 size:=by simp [Cfg.newO]
 os:=rfl
 tape:=rfl
 output:=rfl
 blk:=fun g hg=>⟨by simp only[Cfg.newO];rw[if_neg (by omega)],RowKit.Below.heap_alloc _ _ _ hg⟩
 β0:=hβ0
 β:=hβ
theorem zeo(hr:Rel X s a){t p:Ty}{x:El t}{b:Obj}{v:Value}(hrun:(execOp a.eval o).run P X.w= .ok (.value v) (X.w.alloc b))
 (hheld:∀Y:Cfg,(∀ad v,X.sees ad v→Y.sees ad v)→Y.w.heap[X.w.heap.size]? =some b→∀pl,Held Y X.w.heap.size pl t x []) (hptr:ptrV p [] X.w.heap.size v) (h:newV s o.dst t x p some=some u):Done P X s a o u:=by
 unfold newV at h
 split at h
 case h_2=>cases h
 rename_i d hd
 split at h
 case h_2=>cases h
 rename_i hb
 cases h
 let β:Nat→Option Nat:=fun id=>if id=d+1 then some X.w.heap.size else X.β id
 have hlt:d+1<s.bs.length:=(List.getElem?_eq_some_iff.1 hb).1
 have hk:Keep s X (X.newO b (.box (d+1)) β):=zw6 X _ _ _ _ (by show(if _ then _ else _)=_;rw[if_neg (by omega)]) (fun id B hB=>by
  show(if id=d+1 then _ else _)=_
  rw[if_neg (fun e=>by rw[e,hb] at hB;cases hB)])
 have hbox:BoxAt (X.newO b (.box (d+1)) β) (d+1) X.w.heap.size ⟨t,x,[]⟩:=⟨by simp [Cfg.newO],hheld _ (fun _ _=>hk.sees) (heap_alloc_new X.w _) _⟩
 have hβd:β (d+1)=some X.w.heap.size:=by show(if d+1=d+1 then _ else _)=_;rw[if_pos rfl]
 have hr2:=(hr.keep hk).newBox hlt hb hβd hbox
 refine⟨X.newO b (.box (d+1)) β,v,.inl hrun,hk.ext,?_⟩
 rw[hd]
 refine hr2.put (fun d' e=> ?_) (fun id t' q hm=> ?_)
 ·cases e
  exact⟨X.w.heap.size,hβd,hptr⟩
 ·have:id=d+1:=by have:=hm;simp at this;exact this.1
  subst this
  exact⟨⟨t,x,[]⟩,by simp [State.putBox,List.getElem?_set,hlt]⟩
def keyV:(t:Ty)→El t→Value
 | .bool,b=> .bool b
 | .int k,n=> .int k n
 | .str,x=> .string x
 |_,_=>Go.undef
def Ty.isOne:Ty→Bool
 | .bool| .int _| .str=>true
 |_=>false
theorem zm2{t:Ty}(hk:t.isOne=true){x:El t}{v:Value}(h:RepC X t x v):v=keyV t x:=by
 obtain⟨cs,h1,h2⟩:=h
 cases t<;>simp [Ty.isOne] at hk
 ·rw[h2,z3d h1];rfl
 ·rw[h2,z1l h1];rfl
 ·rw[h2,z25 h1];rfl
theorem z18w{T:TypeId}{t:Ty}(hE:EnvOk P E)(hT:E.ty T=some t)(hk:t.isOne=true)(x:El t):∃d,P.underlying T=some d∧MapKept.IsKey d (keyV t x)∧∀y,Instr.sameNow d (keyV t x) (keyV t y)=some (eqK t x y):=by
 have hu:=(hE.ty T t hT).und
 cases t<;>simp [Ty.isOne] at hk
 ·have hu:P.underlying T=some .bool:=hu
  exact⟨_,hu,trivial,fun y=>by cases x<;>cases y<;>rfl⟩
 ·have hu:P.underlying T=some (.int _):=hu
  refine⟨_,hu,by simp [MapKept.IsKey,keyV],fun y=> ?_⟩
  simp only[Instr.sameNow,keyV,if_true,eqK]
  congr 1
 ·have hu:P.underlying T=some .string:=hu
  refine⟨_,hu,trivial,fun y=> ?_⟩
  simp only[Instr.sameNow,keyV,eqK]
  congr 1
  by_cases e:x=y
  ·rw[decide_eq_true e];exact(MapKept.bytes_beq _ _).2 e
  ·rw[decide_eq_false e]
   cases hb:(x==y) with
   |false=>rfl
   |true=>exact absurd ((MapKept.bytes_beq _ _).1 hb) e
theorem zyz{kt vt:Ty}{d:TypeDesc}{k:El kt}(hk:kt.isOne=true)(hs:∀y,Instr.sameNow d (keyV kt k) (keyV kt y)=some (eqK kt k y)):∀(es:List MapEntry) (xs:List (El kt×El vt)) (i:Nat),es.length=xs.length→
 (∀(i:Nat) q e,xs[i]? =some q→es[i]? =some e→RepC X kt q.1 e.key∧RepC X vt q.2 e.val)→
 (mhas (eqK kt) xs k=false∧mget (eqK kt) (El.dflt vt) xs k=El.dflt vt∧Instr.findNow d (keyV kt k) es i=some none)∨(mhas (eqK kt) xs k=true∧∃j v,Instr.findNow d (keyV kt k) es i=some (some (j,v))∧RepC X vt (mget (eqK kt) (El.dflt vt) xs k) v)
 | [],[],i,_,_=> .inl ⟨rfl,rfl,rfl⟩
 |e::es,q::xs,i,hl,hp=>by
  obtain⟨h1,h2⟩:=hp 0 q e rfl rfl
  have hke:=zm2 hk h1
  have hsame:=hs q.1
  rw[←hke] at hsame
  simp only[Instr.findNow,hsame,mhas,mget]
  cases heq:eqK kt k q.1 with
  |true=>exact .inr ⟨rfl,i,e.val,rfl,h2⟩
  |false=>exact zyz hk hs es xs (i+1) (by simpa using hl) (fun i q e hq he=>hp (i+1) q e (by simpa using hq) (by simpa using he))
 | [],_::_,_,hl,_=>by simp at hl
 |_::_,[],_,hl,_=>by simp at hl
theorem zp7:∀{t:Ty},t.isInts=true→t.depth≤2
 | .unit,_=>by decide
 | .pair (.int _) b,h=>by
   have:=zp7 (t:=b) h
   simp only[Ty.depth];omega
theorem z129:∀{t:Ty},t.isInts=true→∀x y:El t,eqEl t x y=some (eqI t x y)
 | .unit,_,_,_=>rfl
 | .pair (.int _) b,h,x,y=>by
   have:=z129 (t:=b) h x.2 y.2
   simp only[eqEl,this,eqI]
theorem check_loop(hE:EnvOk P E){xs:Array Value}(w:World)(em:Bool)(n:Nat):
 ∀(fl:List Field) (t:Ty) (off:Nat),z1d E fl t off→t.isInts=true→∀(x:El t) (c1:List Value),Rep X t x c1→(xs.toList.drop off).take t.cells=c1→
  (forIn fl () fun(f:Field) (_:Unit)=>(if f.name≠ "_" then do
    let __do_lift←part f.type xs f.offset
    Instr.checkKey em (n+1) f.type __do_lift
    pure (ForInStep.yield ()) else pure (ForInStep.yield ()):Sem (ForInStep Unit))).run P w= .ok () w:=by
 intro fl
 induction fl with
 |nil=>intro t off hf hi x c1 h1 h3;simp [List.forIn_nil]
 |cons f fl ihl=>
  intro t off hf hi x c1 h1 h3
  cases t<;>simp only[z1d] at hf<;>try exact hf.elim
  rename_i ta tb
  obtain⟨ho,hty,hn,hrest⟩:=hf
  obtain⟨ca,cb,e1,ra,rb⟩:=h1
  have la:=ra.len
  have t1:(xs.toList.drop off).take ta.cells=ca:=by
   have:=congrArg (fun l=>l.take ta.cells) (h3.trans e1)
   simp only[List.take_take,Ty.cells] at this
   rw[Nat.min_eq_left (Nat.le_add_right _ _),←la,List.take_left] at this
   rw[←la];exact this
  have u1:(xs.toList.drop (off+ta.cells)).take tb.cells=cb:=by
   have:=congrArg (fun l=>l.drop ta.cells) (h3.trans e1)
   simp only[Ty.cells] at this
   rw[List.drop_take,Nat.add_sub_cancel_left,List.drop_drop,←la,List.drop_left] at this
   rw[←la];exact this
  have hpart1:=z4x hE hty ra (all:=xs) (off:=f.offset) (by rw[ho];exact t1) w
  cases ta<;>simp [Ty.isInts] at hi
  rename_i k
  have hu:P.underlying f.type=some (.int k):=(hE.ty f.type _ hty).und
  have hck:(Instr.checkKey em (n+1) f.type (mkv (.int k) ca)).run P w= .ok () w:=by
   rw[z1l ra]
   exact MapKept.run_checkKey hu (by simp [MapKept.IsKey]) em n
  rw[List.forIn_cons]
  simp only[hn,ne_eq,not_false_eq_true,if_true,Sem.run_bind,hpart1,hck,Result.andThen_ok,Sem.run_pure]
  exact ihl tb _ hrest hi x.2 cb rb u1
theorem zw7{T:TypeId}{t:Ty}(hE:EnvOk P E)(hT:E.ty T=some t)(hk:t.isKey=true){x:El t}{v:Value}(h:RepC X t x v)(em:Bool)(w:World):(Instr.checkKey em 10000 T v).run P w= .ok () w:=by
 cases h1:t.isOne with
 |true=>
  obtain⟨d,hd,hik,_⟩:=z18w hE hT h1 x
  rw[zm2 h1 h]
  exact MapKept.run_checkKey hd hik em 9999
 |false=>
  have hu:=(hE.ty T t hT).und
  cases t<;>simp [Ty.isKey,Ty.isOne] at hk h1
  rename_i ta tb
  obtain⟨fs,hu1,hu2,hu3,_⟩:=hu
  obtain⟨cs,hr,rfl⟩:=h
  rw[z19 rfl]
  unfold Instr.checkKey
  simp only[Sem.run_bind,run_underlying hu1,Result.andThen_ok]
  rw[←Array.forIn_toList]
  have:=check_loop (X:=X) hE (xs:=cs.toArray) w em 9998 fs.toList (.pair ta tb) 0 hu2 hk x cs hr (by have:=hr.len;simp only[List.drop_zero];rw[←this];exact List.take_length)
  exact(congrArg (fun r=>Result.andThen r (fun a w'=>Sem.run P (pure ()) w')) this).trans (by simp)
theorem zkk(hE:EnvOk P E){T:TypeId}{kt vt:Ty}(hT:E.ty T=some kt)(hk:kt.isInts=true){k:El kt}{v:Value}(h:RepC X kt k v)(w:World):∀(es:List MapEntry) (xs:List (El kt×El vt)) (i:Nat),es.length=xs.length→
 (∀(i:Nat) q e,xs[i]? =some q→es[i]? =some e→RepC X kt q.1 e.key∧RepC X vt q.2 e.val)→
 (mhas (eqI kt) xs k=false∧mget (eqI kt) (El.dflt vt) xs k=El.dflt vt∧(Instr.findAsking T v es i).run P w= .ok none w)∨(mhas (eqI kt) xs k=true∧∃j u,(Instr.findAsking T v es i).run P w= .ok (some (j,u)) w∧RepC X vt (mget (eqI kt) (El.dflt vt) xs k) u)
 | [],[],i,_,_=> .inl ⟨rfl,rfl,by simp [Instr.findAsking]⟩
 |e::es,q::xs,i,hl,hp=>by
  obtain⟨h1,h2⟩:=hp 0 q e rfl rfl
  obtain⟨c1,r1,rfl⟩:=h
  obtain⟨c2,r2,e2⟩:=h1
  have heq:(Op.equal T (mkv kt c1) e.key).run P w= .ok (eqI kt k q.1) w:=by
   rw[e2]
   exact zvs (X:=X) hE w 10000 kt T hT (Nat.le_trans (zp7 hk) (by decide)) k q.1 c1 c2 _ r1 r2 (z129 hk k q.1)
  unfold Instr.findAsking
  simp only[Sem.run_bind,heq,Result.andThen_ok,mhas,mget]
  cases heq:eqI kt k q.1 with
  |true=>exact .inr ⟨rfl,i,e.val,by simp,h2⟩
  |false=>exact zkk hE hT hk ⟨c1,r1,rfl⟩ w es xs (i+1) (by simpa using hl) (fun i q e hq he=>hp (i+1) q e (by simpa using hq) (by simpa using he))
 | [],_::_,_,hl,_=>by simp at hl
 |_::_,[],_,hl,_=>by simp at hl
theorem zzh(hE:EnvOk P E){T:TypeId}{kt vt:Ty}(hT:E.ty T=some kt)(hk:kt.isKey=true){k:El kt}{v:Value}(h:RepC X kt k v)(w:World)(es:List MapEntry)(xs:List (El kt×El vt))(hl:es.length=xs.length)
 (hp:∀(i:Nat) q e,xs[i]? =some q→es[i]? =some e→RepC X kt q.1 e.key∧RepC X vt q.2 e.val):
 (mhas (eqK kt) xs k=false∧mget (eqK kt) (El.dflt vt) xs k=El.dflt vt∧(Instr.findKey T v es).run P w= .ok none w)∨(mhas (eqK kt) xs k=true∧∃j u,(Instr.findKey T v es).run P w= .ok (some (j,u)) w∧RepC X vt (mget (eqK kt) (El.dflt vt) xs k) u):=by
 cases h1:kt.isOne with
 |true=>
  obtain⟨d,hd,hik,hsame⟩:=z18w hE hT h1 k
  rw[zm2 h1 h]
  rcases zyz (X:=X) h1 hsame es xs 0 hl hp with⟨g1,g2,g3⟩|⟨g1,j,u,g3,g4⟩
  ·exact .inl ⟨g1,g2,MapKept.run_findKey hd g3⟩
  ·exact .inr ⟨g1,j,u,MapKept.run_findKey hd g3,g4⟩
 |false=>
  have hu:=(hE.ty T kt hT).und
  cases kt<;>simp [Ty.isKey,Ty.isOne] at hk h1
  rename_i ta tb
  obtain⟨fs,hu1,_⟩:=hu
  have e:=run_findKey_eq (P:=P) w (k:=T) (by rw[hu1]) v es
  have:=zkk (X:=X) hE hT hk h w es xs 0 hl hp
  rw[e]
  exact this
theorem zpd{T:TypeId}{kt vt:Ty}(hE:EnvOk P E)(h:mapTy E T=some (kt,vt)):∃k e,P.underlying T=some (.map k e)∧E.ty k=some kt∧E.ty e=some vt∧kt.isKey=true:=by
 unfold mapTy at h
 split at h
 case h_2=>cases h
 rename_i k e hm
 split at h
 case h_2=>cases h
 rename_i kt' vt' h1 h2
 split at h
 case isFalse=>cases h
 rename_i hk
 cases h
 exact⟨k,e,hE.mp T k e hm,h1,h2,hk⟩
theorem zks{m:Operand}{kt vt:Ty}{R:Type}{K:Nat→List (El kt×El vt)→Option R}{z:R}(hr:Rel X s a)(h:z4s s (s.op1 m) kt vt K=some z):
 ∃id B r xs,K id xs=some z∧s.bs[id]? =some (some B)∧X.β id=some r∧X.ow r= .box id∧a.eval m= .map (some r)∧∃es clock,X.w.heap[r]? =some (.map es clock)∧es.size=xs.length∧
  ∀(i:Nat) (q:El kt×El vt) (e:MapEntry),xs[i]? =some q→es[i]? =some e→RepC X kt q.1 e.key∧RepC X vt q.2 e.val:=by
 have hx:=hr.op1 m
 unfold z4s at h
 split at h
 case h_2=>cases h
 rename_i id kt' vt' hm
 rw[hm] at hx
 obtain⟨r,hβ,hv⟩:=hx
 split at h
 case isFalse=>cases h
 split at h
 case h_2=>cases h
 rename_i B hB
 split at h
 case isFalse=>cases h
 rename_i hbt
 have hb:=z2h hB
 obtain⟨r',h1,h2,h3⟩:=hr.boxes id B hb
 rw[hβ] at h1
 cases h1
 refine⟨id,B,r,_,h,hb,hβ,h2,hv,?_⟩
 obtain⟨bt,bx,bo⟩:=B
 have e:=Ty.eqb_eq hbt
 simp only at e
 subst e
 exact h3
theorem zyu(hE:EnvOk P E)(hr:Rel X s a){ops:List Oper}{T:TypeId}{rs:Option Operand}(ho:o.op= .makeMap T rs){C:FuncId→Fun' Out}(h:act E C ops o s some=some u):Done P X s a o u:=by
 unfold act at h
 cases rs with
 |some r=>simp only[ho] at h;cases h
 |none=>
  simp only[ho] at h
  split at h
  case h_2=>cases h
  rename_i kt vt hm
  refine zeo hr (t:= .spc .mp kt vt) (p:= .spc .mp kt vt) (x:=([]:List (El kt×El vt))) (b:= .map #[] 0) (v:= .map (some X.w.heap.size)) ?_ (fun Y _ hY pl=>⟨#[],0,hY,rfl,fun i q e hq=>by simp at hq⟩) rfl h
  simp [execOp,ho,Instr.makeMap]
theorem z110(hE:EnvOk P E)(hr:Rel X s a){ops:List Oper}{T:TypeId}{x i:Operand}{ok:Bool}(ho:o.op= .lookup T x i ok){C:FuncId→Fun' Out}(h:act E C ops o s some=some u):Done P X s a o u:=by
 unfold act at h
 cases ok with
 |true=>simp only[ho] at h;cases h
 |false=>
  simp only[ho] at h
  unfold lookV at h
  split at h
  case h_2=>cases h
  rename_i kt vt hm
  obtain⟨k,e,hu,hk,he,hkey⟩:=zpd hE hm
  obtain⟨id,B,r,xs,h,hb,hβ,how,hv,es,clock,hheap,hsz,hel⟩:=zks hr h
  obtain⟨key,h,hkv⟩:=zx h
  cases h
  obtain⟨ck,rk,evk⟩:=hkv X _ _ (hr.op1 i)
  have hck:=zw7 hE hk hkey (X:=X) (x:=key) ⟨ck,rk,evk⟩ es.isEmpty X.w
  rcases zzh (X:=X) hE hk hkey (k:=key) ⟨ck,rk,evk⟩ X.w es.toList xs (by simpa using hsz) (fun i q e hq he=>hel i q e hq (by simpa using he)) with⟨g1,g2,hf⟩|⟨g1,j,v,hf,g4⟩
  ·rw[g2]
   have hz:=zbk (P:=P) hE he X.w
   refine Done.plain hr (v:=mkv vt (zq vt)) ?_ (z64 (z2x X vt)) (fun _ _ _ e'=>by cases e')
   simp only[execOp,ho,Sem.run_bind,Instr.lookup,run_underlying hu,Result.andThen_ok,hv,MapKept.run_getObj_map hheap,Sem.run_pure,hck,hf,hz,Bool.false_eq_true,if_false]
  ·obtain⟨cv,rv,ev⟩:=g4
   refine Done.plain hr (v:=v) ?_ ⟨cv,rv,ev,z1n⟩ (fun _ _ _ e'=>by cases e')
   simp only[execOp,ho,Sem.run_bind,Instr.lookup,run_underlying hu,Result.andThen_ok,hv,MapKept.run_getObj_map hheap,Sem.run_pure,hck,hf,Bool.false_eq_true,if_false]
theorem zyv(hE:EnvOk P E)(hr:Rel X s a){T:TypeId}{m k x:Operand}(ho:(execOp a.eval o).run P X.w=((Instr.mapUpdate T (a.eval m) (a.eval k) (a.eval x)).run P X.w).andThen fun _ w=> .ok .skip w)(h:updV E T s (s.op1 m) (s.op1 k) (s.op1 x) some=some u):Done P X s a o u:=by
 unfold updV at h
 split at h
 case h_2=>cases h
 rename_i kt vt hm
 obtain⟨kT,eT,hu,hk,he,hkey⟩:=zpd hE hm
 obtain⟨id,B,r,xs,h,hb,hβ,how,hv,es,clock,hheap,hsz,hel⟩:=zks hr h
 obtain⟨key,h,hkv⟩:=zx h
 obtain⟨y,h,hyv⟩:=zx h
 obtain⟨ck,rk,evk0⟩:=hkv X _ _ (hr.op1 k)
 obtain⟨cy,ry,evy⟩:=hyv X _ _ (hr.op1 x)
 have hck:=zw7 hE hk hkey (X:=X) (x:=key) ⟨ck,rk,evk0⟩ false X.w
 rcases zzh (X:=X) hE hk hkey (k:=key) ⟨ck,rk,evk0⟩ X.w es.toList xs (by simpa using hsz) (fun i q e hq he=>hel i q e hq (by simpa using he)) with⟨g1,g2,hf⟩|⟨g1,j,v,hf,g4⟩
 ·rw[g1] at h
  cases h
  let new:Obj:= .map (es.push {key:=a.eval k,val:=a.eval x,born:=clock}) (clock+1)
  have hrun:(execOp a.eval o).run P X.w= .ok .skip (X.obj r new).w:=by
   rw[ho]
   simp only[Instr.mapUpdate,Sem.run_bind,run_underlying hu,Result.andThen_ok,hv,MapKept.run_getObj_map hheap,hck,hf,MapKept.run_setObj_map _ hheap]
   simp only[new]
   rfl
  have hbox:BoxAt (X.obj r new) id r ⟨.spc .mp kt vt,(xs++ [(key,y)]:List (El kt×El vt)),[]⟩:=by
   refine⟨how,es.push {key:=a.eval k,val:=a.eval x,born:=clock},clock+1,zzq hheap,by simp [hsz],fun i q e hq he=> ?_⟩
   have hs:∀ad v,X.sees ad v→(X.obj r new).sees ad v:=fun _ _=>z4w how
   have hq:(xs++ [(key,y)])[i]? =some q:=hq
   rw[List.getElem?_append] at hq
   rw[Array.getElem?_push] at he
   split at hq
   ·rename_i hlt
    rw[if_neg (by omega)] at he
    obtain⟨j1,j2⟩:=hel i q e hq he
    exact⟨j1.mono hs,j2.mono hs⟩
   ·rename_i hlt
    have hi:i-xs.length=0:=by
     have:=(List.getElem?_eq_some_iff.1 hq).1
     simp at this
     omega
    rw[hi] at hq
    cases hq
    rw[if_pos (by omega)] at he
    cases he
    exact⟨RepC.mono hs ⟨ck,rk,evk0⟩,RepC.mono hs ⟨cy,ry,evy⟩⟩
  exact⟨X.obj r new,Go.undef,.inr ⟨hrun,rfl⟩,z12f how,(hr.obj hb hβ how hbox).skip o.dst⟩
 ·rw[g1] at h
  cases h
theorem zab(hE:EnvOk P E)(hr:Rel X s a){ops:List Oper}{T:TypeId}{m k x:Operand}(ho:o.op= .mapUpdate T m k x∨o.op= .insert T m k x){C:FuncId→Fun' Out}(h:act E C ops o s some=some u):Done P X s a o u:=by
 unfold act at h
 rcases ho with ho|ho
 ·simp only[ho] at h
  exact zyv hE hr (by simp [execOp,ho]) h
 ·simp only[ho] at h
  exact zyv hE hr (by simp [execOp,ho]) h
theorem z13i(hE:EnvOk P E)(hr:Rel X s a){ops:List Oper}{T:TypeId}{x:Operand}(ho:o.op= .range T x){C:FuncId→Fun' Out}(h:act E C ops o s some=some u):Done P X s a o u:=by
 unfold act at h
 simp only[ho] at h
 split at h
 case h_2=>cases h
 rename_i hT
 obtain⟨y,h,hy⟩:=zx h
 obtain⟨cs,ry,ev⟩:=hy X _ _ (hr.op1 x)
 rw[z25 ry] at ev
 have hu:=(hE.ty T _ hT).und
 refine zeo hr (t:=iterT) (p:=iterT) (x:=((y,0):ByteArray×Nat)) (b:= .stringIter y 0) (v:= .pointer (some ⟨X.w.heap.size,0,none⟩)) ?_ (fun Y _ hY pl=>hY) ⟨rfl,trivial⟩ h
 simp [execOp,ho,Instr.range,run_underlying hu,ev]
theorem z18c(hr:Rel X s a){ops:List Oper}{x:Operand}{str:Bool}(ho:o.op= .next x str){C:FuncId→Fun' Out}(h:act E C ops o s some=some u):Done P X s a o u:=by
 unfold act at h
 cases str with
 |false=>simp only[ho] at h;cases h
 |true=>
  simp only[ho] at h
  unfold nextV at h
  have hx:=hr.op1 x
  split at h
  case h_2=>cases h
  rename_i id hm
  rw[hm] at hx
  obtain⟨r,hβ,hv,_⟩:=hx
  split at h
  case h_2=>cases h
  rename_i B hB
  split at h
  case isFalse=>cases h
  rename_i hbt
  have hb:=z2h hB
  obtain⟨r',h1,how,h3⟩:=hr.boxes id B hb
  rw[hβ] at h1
  cases h1
  have hheap:X.w.heap[r]? =some (.stringIter (Ty.cast hbt B.x:ByteArray×Nat).1 (Ty.cast hbt B.x:ByteArray×Nat).2):=by
   obtain⟨bt,bx,bo⟩:=B
   have e:=Ty.eqb_eq hbt
   simp only at e
   subst e
   exact h3
  generalize(Ty.cast hbt B.x:ByteArray×Nat)=q at*
  obtain⟨st,pos⟩:=q
  simp only at h hheap
  have hv:a.eval x= .pointer (some ⟨r,0,none⟩):=by simpa [Ty.off] using hv
  have hget:(getObj r).run P X.w= .ok (.stringIter st pos) X.w:=by simp [getObj,Sem.run,hheap]
  cases hlt:decide (pos<st.size) with
  |false=>
   rw[hlt] at h
   cases h
   have hlt:=of_decide_eq_false hlt
   refine Done.plain hr (sv:= .over) (v:= .tuple #[.bool false]) ?_ rfl (fun _ _ _ e'=>by cases e')
   simp only[execOp,ho,Sem.run_bind,Instr.next,hv,hget,Result.andThen_ok,if_neg hlt,Sem.run_pure]
  |true=>
   rw[hlt] at h
   cases h
   have hlt:=of_decide_eq_true hlt
   let new:Obj:= .stringIter st (pos+(Utf8.decode st pos).2)
   have hset:(setObj r new).run P X.w= .ok () (X.obj r new).w:=by simp [setObj,Sem.run,hheap,Cfg.obj]
   have hbox:BoxAt (X.obj r new) id r ⟨iterT,((st,pos+(Utf8.decode st pos).2):ByteArray×Nat),[]⟩:=⟨how,zzq hheap⟩
   have hr2:=hr.obj hb hβ how hbox
   refine⟨X.obj r new,.tuple #[.bool true,.int .i64 pos,.int .i32 (Utf8.decode st pos).1],.inl ?_,z12f how,?_⟩
   ·simp only[execOp,ho,Sem.run_bind,Instr.next,hv,hget,Result.andThen_ok,if_pos hlt,Sem.run_pure]
    simp only[new] at hset
    rw[hset]
    rfl
   ·refine hr2.put (fun d' e=>⟨_,rfl,rfl,fun j sv v hj hv=> ?_⟩) (fun id t' q hm=>by simp at hm)
    match j with
    |0=>cases hj;cases hv;exact z1e
    |1=>cases hj;cases hv;exact zz
    |2=>cases hj;cases hv;exact zz
    |j+3=>simp at hj
theorem z1f0{t:Ty}{k:Nat}(hk:(zq t).length=k)(n:Nat):((Array.range (n*k)).map fun i=>(zq t).toArray[i % (zq t).toArray.size]!).size=n*k∧
 ∀j,j<n→((((Array.range (n*k)).map fun i=>(zq t).toArray[i % (zq t).toArray.size]!).toList.drop (j*k)).take k)=zq t:=by
 refine⟨by simp,fun j hj=> ?_⟩
 apply List.ext_getElem?
 intro i
 rw[List.getElem?_take]
 split
 ·rename_i hi
  have hlt:j*k+i<n*k:=by
   have:(j+1)*k≤n*k:=Nat.mul_le_mul_right _ hj
   rw[Nat.add_mul,Nat.one_mul] at this
   omega
  have hmod:(j*k+i)% k=i:=by rw[Nat.mul_comm,Nat.mul_add_mod,Nat.mod_eq_of_lt hi]
  rw[List.getElem?_drop,Array.getElem?_toList,Array.getElem?_map,Array.getElem?_range,if_pos hlt]
  simp only[Option.map_some,List.size_toArray,hk,hmod]
  rw[List.getElem?_eq_getElem (by omega)]
  simp [getElem!_def,List.getElem?_eq_getElem (show i<(zq t).length by omega)]
 ·rename_i hi
  rw[List.getElem?_eq_none (by omega)]
theorem zzk(hE:EnvOk P E){T e:TypeId}{t:Ty}(hT:E.ty T=some (.sl e t))(hk:t.cells≠0)(hby:E.bytes e≠0){n m:Int}(hn:0≤n)(hnm:n≤m)(hb:m*E.bytes e≤140737488355328)(w:World):
 m.toNat≤maxLen∧∃cur,cur.size=m.toNat*t.cells∧(∀j,j<m.toNat→(cur.toList.drop (j*t.cells)).take t.cells=zq t)∧
  (Instr.makeSlice T (.int .i64 n) (.int .i64 m)).run P w= .ok (.slice (some ⟨w.heap.size,0,none⟩) n.toNat m.toNat) (w.alloc (.cells cur e)):=by
 obtain⟨hu,he⟩:=(hE.ty T _ hT).und
 obtain⟨i,hi,hsize,hbytes,hz⟩:=(hE.ty e t he).info
 have hle:m≤m*E.bytes e:=by
  have h1:(1:Int)≤E.bytes e:=by omega
  have:=Int.mul_le_mul_of_nonneg_left h1 (show 0≤m by omega)
  simpa using this
 have hml:m.toNat≤maxLen:=by simp only[maxLen];omega
 have hcells:(mkv t (zq t)).cells=(zq t).toArray:=z33 (X:=⟨w,fun _=> .all,fun _=>none⟩) (z2x _ t)
 obtain⟨z1,z2⟩:=z1f0 (z2c t) m.toNat
 refine⟨hml,(Array.range (m.toNat*t.cells)).map (fun i=>(zq t).toArray[i % (zq t).toArray.size]!),z1,z2,?_⟩
 have hw1:IntKind.i64.wrap n=n:=by simp [IntKind.wrap,IntKind.signed,IntKind.bits];omega
 have hw2:IntKind.i64.wrap m=m:=by simp [IntKind.wrap,IntKind.signed,IntKind.bits];omega
 have hmul:(i.bytes:Int)*m≤2^48:=by rw[hbytes,Int.mul_comm];omega
 have c1:¬m<0:=by omega
 have c2:¬(281474976710656:Int)<(i.bytes:Int)*m:=by omega
 have c3:¬n<0:=by omega
 have c4:¬m<n:=by omega
 have hai:∀(n:Int) (w:World),(asInt (.int .i64 n)).run P w= .ok n w:=fun n w=>by simp [asInt,asIntOf]
 have hti:∀w:World,(typeInfo e).run P w= .ok i w:=fun w=>by simp [typeInfo,hi]
 have hso:∀w:World,(sizeOf e).run P w= .ok t.cells w:=fun w=>z15 hE he w
 have hzv:∀w:World,(zeroValue e).run P w= .ok (mkv t (zq t)) w:=fun w=>zbk hE he w
 simp only[Instr.makeSlice,Sem.run_bind,run_underlying hu,Result.andThen_ok,hai,hti,hw1,hw2]
 by_cases h0:m.toNat*t.cells=0
 ·simp [c1,c2,c3,c4,hso,h0,newRow]
  rw[show Array.range 0= #[] from rfl]
  simp
 ·simp [c1,c2,c3,c4,hso,h0,hzv,hcells,newRow]
theorem zu8(hE:EnvOk P E)(hr:Rel X s a){ops:List Oper}{T:TypeId}{l c:Operand}(ho:o.op= .makeSlice T l c){C:FuncId→Fun' Out}(h:act E C ops o s some=some u):Done P X s a o u:=by
 unfold act at h
 simp only[ho] at h
 unfold makeV at h
 split at h
 case h_2=>cases h
 rename_i e t hT
 split at h
 ·cases h
 rename_i hne
 have hby:E.bytes e≠0:=fun e0=>hne (by rw[e0];rfl)
 have hk:t.cells≠0:=fun e0=>hne (by rw[e0];simp)
 obtain⟨n,h,hn⟩:=zx h
 obtain⟨m,h,hm⟩:=zx h
 obtain⟨_,rn,en⟩:=hn X _ _ (hr.op1 l)
 rw[z1l rn] at en
 obtain⟨_,rm,em⟩:=hm X _ _ (hr.op1 c)
 rw[z1l rm] at em
 cases hc:z12a l with
 |true=>
  rw[hc] at h
  simp only[cond_true] at h
  cases d1:decide (n=0)<;>rw[d1] at h<;>simp only[cond_true,cond_false] at h
  ·cases h
  cases d2:decide (0≤m)<;>rw[d2] at h<;>simp only[cond_true,cond_false] at h
  ·cases h
  cases d3:decide (m*E.bytes e≤140737488355328)<;>rw[d3] at h<;>simp only[cond_true,cond_false] at h
  ·cases h
  cases h
  have d1:=of_decide_eq_true d1
  have d2:=of_decide_eq_true d2
  have d3:=of_decide_eq_true d3
  subst d1
  obtain⟨hml,cur,g1,g2,hrun⟩:=zzk (P:=P) hE hT hk hby (n:=0) (m:=m) (by omega) d2 d3 X.w
  have hkp:Keep s X (X.newO (.cells cur e) (.row (.c (o.dst.getD 0) 0 []) 0) X.β):=zw6 X _ _ _ _ rfl (fun _ _ _=>rfl)
  refine⟨X.newO (.cells cur e) (.row (.c (o.dst.getD 0) 0 []) 0) X.β,.slice (some ⟨X.w.heap.size,0,none⟩) 0 m.toNat,.inl ?_,hkp.ext,(hr.keep hkp).fin ⟨[.slice (some ⟨X.w.heap.size,0,none⟩) 0 m.toNat],⟨_,_,rfl,Nat.zero_le _,fun j x hj=>by simp at hj⟩,rfl,fun p hp=> ?_⟩ (fun id t p hm=>by simp at hm)⟩
  ·simp only[execOp,ho,Sem.run_bind,en,em,hrun,Result.andThen_ok,Sem.run_pure]
   rfl
  ·have hp:p=[]:=by simpa using hp
   subst hp
   refine⟨e,t,[],_,by simp [Ty.inb],rfl,rfl,.inr ⟨X.w.heap.size,m.toNat,cur,rfl,heap_alloc_new X.w _,Nat.zero_le _,hml,g1,?_⟩⟩
   simp [Cfg.newO]
 |false=>
  rw[hc] at h
  simp only[cond_false] at h
  cases d1:decide (n=m)<;>rw[d1] at h<;>simp only[cond_true,cond_false] at h
  ·cases h
  cases d2:decide (0≤n)<;>rw[d2] at h<;>simp only[cond_true,cond_false] at h
  ·cases h
  cases d3:decide (n*E.bytes e≤140737488355328)<;>rw[d3] at h<;>simp only[cond_true,cond_false] at h
  ·cases h
  have d1:=of_decide_eq_true d1
  have d2:=of_decide_eq_true d2
  have d3:=of_decide_eq_true d3
  have d1:m=n:=d1.symm
  subst d1
  obtain⟨hml,cur,g1,g2,hrun⟩:=zzk (P:=P) hE hT hk hby (n:=m) (m:=m) d2 (Int.le_refl _) d3 X.w
  refine zeo hr (t:= .spc .row t .unit) (p:= .spc (.hdr m.toNat) t .unit) (x:=(List.replicate m.toNat (El.dflt t):List (El t))) (b:= .cells cur e) (v:= .slice (some ⟨X.w.heap.size,0,none⟩) m.toNat m.toNat) ?_ (fun Y _ hY pl=>⟨cur,e,hY,?_,fun j x hj=> ?_⟩) ⟨_,rfl,Nat.le_refl _⟩ h
  ·simp only[execOp,ho,Sem.run_bind,en,em,hrun,Result.andThen_ok,Sem.run_pure]
  ·rw[g1];show _=List.length (List.replicate _ _)*_;rw[List.length_replicate]
  ·have hj:(List.replicate m.toNat (El.dflt t))[j]? =some x:=hj
   rw[List.getElem?_replicate] at hj
   split at hj
   ·rename_i hlt
    cases hj
    rw[g2 j hlt]
    exact z2x Y t
   ·cases hj
end Go.Ref

