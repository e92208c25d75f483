/- No condition. -/
import Derived.Orders
import Derived.Below
import Derived.Maps.AppendAt
import Derived.WalkKit
import Derived.Lib.AppendStr
import Derived.Shelf.Strings.BuilderF
set_option linter.unusedVariables false
set_option linter.unusedSimpArgs false
set_option maxRecDepth 100000
namespace Go.Ref
open Go
structure uX(T e:TypeId)(b:Nat)(v:Value)(bs:List Value)(w:World):Prop where
 mQ:w.heap[b]? =some (.cells #[.pointer none,v] T (0,0))\/w.heap[b]? =some (.cells #[.pointer (some ⟨b,0,none⟩),v] T (0,0))
 own:w.ownsRow 0 e 1 v bs.length bs
 ne:v.ownBlock≠some b
theorem uX.lt{T e:TypeId}{b:Nat}{v:Value}{bs:List Value}{w:World}(h:uX T e b v bs w):b<w.heap.size:=by
 rcases Nat.lt_or_ge b w.heap.size with h'|h'
 ·exact h'
 ·rcases h.mQ with h|h<;>simp [Array.getElem?_eq_none h'] at h
theorem uX.same{T e:TypeId}{b:Nat}{v:Value}{bs:List Value}{w w':World}(h:uX T e b v bs w)(hb:w'.heap[b]? =w.heap[b]?)(hg:∀g o,v.ownBlock=some g->w.heap[g]? =some o->w'.heap[g]? =some o):uX T e b v bs w':=by
 refine⟨by rw[hb];exact h.mQ,⟨h.own.1,?_⟩,h.ne⟩
 rcases h.own.2 with hn|⟨g,cap,cur,hv,h0,BT,rest⟩
 ·exact .inl hn
 ·exact .inr ⟨g,cap,cur,hv,h0,hg g _ (by rw[hv];rfl) BT,rest⟩
inductive X9 where
 |iter
 |mp
 |row
 |iG (n:Nat)
 |gn (T e:Nat)
 |own
 |rM (f:Nat)
 |bN
 deriving DecidableEq,Inhabited
@[reducible] def vS:X9->Type->Type->Type
  | .iter,_,_=>ByteArray×Nat
  | .mp,a,b=>List (a×b)
  | .row,a,_=>List a
  | .iG _,_,_=>Unit
  | .gn _ _,_,_=>ByteArray
  | .own,a,_=>Option a
  | .rM _,_,_=>Unit
  | .bN,a,b=>a×(Option b×Option b)×Int
def vS.bT:(k:X9)->(a b:Type)->a->vS k a b
 | .iter,_,_,_=>((⟨#[]⟩:ByteArray),(0:Nat))
 | .mp,_,_,_=>[]
 | .row,_,_,_=>[]
 | .iG _,_,_,_=>()
 | .gn _ _,_,_,_=>(⟨#[]⟩:ByteArray)
 | .own,_,_,_=>none
 | .rM _,_,_,_=>()
 | .bN,_,_,x=>(x,(none,none),(0:Int))
inductive Ty where
 |bool
 |int (k:IntKind)
 |str
 |sl (e:TypeId) (t:Ty)
 |arr (n:Nat) (t:Ty)
 |unit
 |pair (a b:Ty)
 |aJ (k:X9) (a b:Ty)
 deriving Inhabited
@[reducible] def El:Ty->Type
  | .bool=>Bool
  | .int _=>Int
  | .str=>ByteArray
  | .sl _ t=>List (El t)
  | .arr _ t=>List (El t)
  | .unit=>Unit
  | .pair a b=>El a×El b
  | .aJ k a b=>vS k (El a) (El b)
def El.bT:(t:Ty)->El t
 | .bool=>false
 | .int _=>(0:Int)
 | .str=>(⟨#[]⟩:ByteArray)
 | .sl _ _=>[]
 | .arr n t=>List.replicate n (El.bT t)
 | .unit=>()
 | .pair a b=>(El.bT a,El.bT b)
 | .aJ k a b=>vS.bT k (El a) (El b) (El.bT a)
def Ty.cp:Ty->Ty->Bool
 | .bool,.bool=>true
 | .str,.str=>true
 | .unit,.unit=>true
 | .int j,.int k=>decide (j=k)
 | .sl e t,.sl f u=>Nat.beq e f&&Ty.cp t u
 | .arr n t,.arr m u=>Nat.beq n m&&Ty.cp t u
 | .pair a b,.pair c d=>Ty.cp a c&&Ty.cp b d
 | .aJ k a b,.aJ j c d=>decide (k=j)&&(Ty.cp a c&&Ty.cp b d)
 |_,_=>false
theorem Ty.aI:∀{t u:Ty},t.cp u=true->t=u:=by
 intro t
 induction t with
 |bool=>intro u h;cases u<;>simp_all [Ty.cp]
 |int k=>intro u h;cases u<;>simp_all [Ty.cp]
 |str=>intro u h;cases u<;>simp_all [Ty.cp]
 |unit=>intro u h;cases u<;>simp_all [Ty.cp]
 |sl e t ih=>
  intro u h
  cases u<;>simp [Ty.cp] at h
  obtain⟨h1,h2⟩:=h
  rw[ih h2,h1]
 |arr e t ih=>
  intro u h
  cases u<;>simp [Ty.cp] at h
  obtain⟨h1,h2⟩:=h
  rw[ih h2,h1]
 |pair a b lY lZ=>
  intro u h
  cases u<;>simp [Ty.cp] at h
  rw[lY h.1,lZ h.2]
 |aJ k a b lY lZ=>
  intro u h
  cases u<;>simp [Ty.cp] at h
  rw[h.1,lY h.2.1,lZ h.2.2]
theorem Ty.cj:∀t:Ty,t.cp t=true
 | .bool=>rfl
 | .str=>rfl
 | .unit=>rfl
 | .int k=>by simp [Ty.cp]
 | .sl e t=>by simp [Ty.cp,Ty.cj t]
 | .arr e t=>by simp [Ty.cp,Ty.cj t]
 | .pair a b=>by simp [Ty.cp,Ty.cj a,Ty.cj b]
 | .aJ k a b=>by simp [Ty.cp,Ty.cj a,Ty.cj b]
def Ty.cast{t u:Ty}(h:t.cp u=true)(x:El t):El u:=Ty.aI h▸x
def Ty.cells:Ty->Nat
 | .arr n t=>n*t.cells
 | .unit=>0
 | .pair a b=>a.cells+b.cells
 | .aJ _ _ _=>0
 |_=>1
def Ty.agg:Ty->Bool
 | .arr .. | .unit| .pair .. | .aJ .. =>true
 |_=>false
def Ty.at_:Ty->List Nat->Option Ty
 |t,[]=>some t
 | .arr _ t,_::p=>t.at_ p
 | .pair a _,0::p=>a.at_ p
 | .pair _ b,(j+1)::p=>b.at_ (j::p)
 |_,_=>none
def Ty.off:Ty->List Nat->Nat
 |_,[]=>0
 | .arr _ t,i::p=>i*t.cells+t.off p
 | .pair a _,0::p=>a.off p
 | .pair a b,(j+1)::p=>a.cells+b.off (j::p)
 |_,_=>0
def El.get:(t:Ty)->List Nat->El t->Option ((u:Ty)×El u)
 |t,[],x=>some ⟨t,x⟩
 | .arr _ t,i::p,xs=>El.get t p (xs.getD i (El.bT t))
 | .pair a _,0::p,x=>El.get a p x.1
 | .pair _ b,(j+1)::p,x=>El.get b (j::p) x.2
 |_,_::_,_=>none
def El.set:(t:Ty)->List Nat->El t->(u:Ty)->El u->Option (El t)
 |t,[],_,u,y=>if h:u.cp t=true then some (Ty.cast h y) else none
 | .arr _ t,i::p,xs,u,y=>(El.set t p (xs.getD i (El.bT t)) u y).map fun z=>List.set xs i z
 | .pair a _,0::p,x,u,y=>(El.set a p x.1 u y).map fun z=>(z,x.2)
 | .pair _ b,(j+1)::p,x,u,y=>(El.set b (j::p) x.2 u y).map fun z=>(x.1,z)
 |_,_::_,_,_,_=>none
def Ty.eE:Ty->List Nat->Prop
 |_,[]=>True
 | .arr n t,i::p=>i<n/\t.eE p
 | .pair a _,0::p=>a.eE p
 | .pair _ b,(j+1)::p=>b.eE (j::p)
 |_,_=>False
inductive Place where
 |c (i j:Nat) (p:List Nat)
 |b (id:Nat) (p:List Nat)
 |r (j:Nat) (p:List Nat)
inductive Ow where
 |all
 |ro (n:Nat)
 |box (id:Nat)
 |row (pl:Place) (n:Nat)
def Ow.used:Ow->Nat->Prop
 | .all,_=>True
 | .ro n,o=>o<n
 | .box _,_=>False
 | .row _ n,o=>o<n
def Ow.still:Ow->Prop
 | .all| .ro _=>True
 |_=>False
structure ax where
 w:World
 ow:Nat->Ow
 β:Nat->Option Nat
def ax.az(X:ax)(a:Addr)(v:Value):Prop:=a.spot=none/\X.w.cell? a=some v/\(X.ow a.block).used a.off
structure Ext(X Y:ax):Prop where
 az:∀a v,X.az a v->Y.az a v
 size:X.w.heap.size<=Y.w.heap.size
 os:Y.w.os=X.w.os
 tape:Y.w.tape=X.w.tape
 output:Y.w.output=X.w.output
 β0:Y.β 0=X.β 0
 still:∀g,g<X.w.heap.size->(X.ow g).still->Y.ow g=X.ow g/\Y.w.heap[g]? =X.w.heap[g]?
theorem Ext.refl(X:ax):Ext X X:=⟨fun _ _ h=>h,Nat.le_refl _,rfl,rfl,rfl,rfl,fun _ _ _=>⟨rfl,rfl⟩⟩
theorem Ext.trans{X Y Z:ax}(h:Ext X Y)(k:Ext Y Z):Ext X Z:=
 ⟨fun a v hs=>k.az a v (h.az a v hs),Nat.le_trans h.size k.size,k.os.trans h.os,k.tape.trans h.tape,k.output.trans h.output,k.β0.trans h.β0,
  fun g hg bS=>by
   obtain⟨h1,h2⟩:=h.still g hg bS
   obtain⟨k1,k2⟩:=k.still g (Nat.lt_of_lt_of_le hg h.size) (by rw[h1];exact bS)
   exact⟨k1.trans h1,k2.trans h2⟩⟩
theorem ax.ix{X:ax}{a:Addr}{v:Value}(h:X.az a v):a.block<X.w.heap.size:=World.block_lt_of_cell? X.w a h.2.1
def bg(X:ax):(t:Ty)->El t->List Value->Prop
 | .bool,b,cs=>cs=[.bool b]
 | .int k,n,cs=>cs=[.int k n]
 | .str,s,cs=>cs=[.string s]
 | .sl _ t,xs,cs=>∃A c,cs=[.slice A xs.length c]/\xs.length<=c/\
    ∀j x,xs[j]? =some x->∃ad eD,A=some ad/\ad.spot=none/\bg X t x eD/\∀i v,eD[i]? =some v->X.az (ad.add (j*t.cells+i)) v
 | .arr n t,xs,cs=>xs.length=n/\cs.length=n*t.cells/\∀j x,xs[j]? =some x->bg X t x ((cs.drop (j*t.cells)).take t.cells)
 | .unit,_,cs=>cs=[]
 | .pair a b,x,cs=>∃c1 c2,cs=c1++c2/\bg X a x.1 c1/\bg X b x.2 c2
 | .aJ _ _ _,_,cs=>cs=[]
theorem bg.ai{X Y:ax}(h:∀a v,X.az a v->Y.az a v):∀{t:Ty} {x:El t} {cs:List Value},bg X t x cs->bg Y t x cs
 | .bool,_,_,hr=>hr
 | .int _,_,_,hr=>hr
 | .str,_,_,hr=>hr
 | .unit,_,_,hr=>hr
 | .sl _ t,xs,cs,⟨A,c,h1,h2,h3⟩=>⟨A,c,h1,h2,fun j x hj=>by
    obtain⟨ad,eD,h4,h5,h6,h7⟩:=h3 j x hj
    exact⟨ad,eD,h4,h5,bg.ai h h6,fun i v hi=>h _ _ (h7 i v hi)⟩⟩
 | .arr n t,xs,cs,⟨h1,h2,h3⟩=>⟨h1,h2,fun j x hj=>bg.ai h (h3 j x hj)⟩
 | .pair a b,x,cs,⟨c1,c2,h1,h2,h3⟩=>⟨c1,c2,h1,bg.ai h h2,bg.ai h h3⟩
 | .aJ _ _ _,_,_,hr=>hr
theorem bg.mono{X Y:ax}(h:Ext X Y){t:Ty}{x:El t}{cs:List Value}(hr:bg X t x cs):bg Y t x cs:=bg.ai h.az hr
theorem bg.len{X:ax}:∀{t:Ty} {x:El t} {cs:List Value},bg X t x cs->cs.length=t.cells
 | .bool,_,_,hr=>by cases hr;rfl
 | .int _,_,_,hr=>by cases hr;rfl
 | .str,_,_,hr=>by cases hr;rfl
 | .unit,_,_,hr=>by cases hr;rfl
 | .sl _ t,xs,cs,⟨A,c,h1,_⟩=>by cases h1;rfl
 | .arr n t,xs,cs,⟨h1,h2,h3⟩=>h2
 | .pair a b,x,cs,⟨c1,c2,h1,h2,h3⟩=>by rw[h1,List.length_append,h2.len,h3.len];rfl
 | .aJ _ _ _,_,_,hr=>by cases hr;rfl
theorem abk{cs:List Value}{n k:Nat}{u:Value}(hu:u∈cs)(hk:cs.length=n*k):∃j,j<n/\u∈(cs.drop (j*k)).take k:=by
 obtain⟨q,hq,rfl⟩:=List.mem_iff_getElem.1 hu
 have Aj:0<k:=by
  rcases Nat.eq_zero_or_pos k with h|h
  ·subst h;simp at hk;subst hk;simp at hq
  ·exact h
 refine⟨q/k,by rw[Nat.div_lt_iff_lt_mul Aj,<-hk];exact hq,?_⟩
 rw[List.mem_iff_getElem?]
 refine⟨q % k,?_⟩
 rw[List.getElem?_take,if_pos (Nat.mod_lt _ Aj),List.getElem?_drop,Nat.mul_comm,Nat.div_add_mod,List.getElem?_eq_getElem hq]
theorem bg.one{X:ax}:∀{t:Ty} {x:El t} {cs:List Value},bg X t x cs->∀u∈cs,u.oneCell'=true
 | .bool,_,_,hr,u,hu=>by cases hr;simp at hu;subst hu;rfl
 | .int _,_,_,hr,u,hu=>by cases hr;simp at hu;subst hu;rfl
 | .str,_,_,hr,u,hu=>by cases hr;simp at hu;subst hu;rfl
 | .unit,_,_,hr,u,hu=>by cases hr;simp at hu
 | .sl _ t,xs,cs,⟨A,c,h1,_⟩,u,hu=>by cases h1;simp at hu;subst hu;rfl
 | .arr n t,xs,cs,⟨h1,h2,h3⟩,u,hu=>by
   obtain⟨j,hj,hm⟩:=abk hu h2
   exact bg.one (h3 j _ (List.getElem?_eq_getElem (by omega))) u hm
 | .pair a b,x,cs,⟨c1,c2,h1,h2,h3⟩,u,hu=>by
   rw[h1] at hu
   rcases List.mem_append.1 hu with hu|hu
   ·exact h2.one u hu
   ·exact h3.one u hu
 | .aJ _ _ _,_,_,hr,u,hu=>by cases hr;simp at hu
end Go.Ref

namespace Go.Ref
open Go Go.Shelf Go.RowKit Go.Proofs
variable {P:Program} {ρ:Ren}
structure gm(b:Nat)(g:Option Nat)(w w':World):Prop where
 os:w'.os=w.os
 tape:w'.tape=w.tape
 output:w'.output=w.output
 size:w.heap.size<=w'.heap.size
 block:∀k,k<w.heap.size->k≠b->some k≠g->w'.heap[k]? =w.heap[k]?
theorem gm.of{b:Nat}{g:Option Nat}{w w':World}(h:w.grownBy w' g):gm b g w w':=⟨h.os,h.tape,h.output,h.size,fun k hk _ hg=>h.block k hk hg⟩
theorem gm.trans{b:Nat}{g:Option Nat}{u v w:World}(h:gm b g u v)(k:gm b g v w):gm b g u w:=
 ⟨k.os.trans h.os,k.tape.trans h.tape,k.output.trans h.output,Nat.le_trans h.size k.size,fun i hi h1 h2=>(k.block i (Nat.lt_of_lt_of_le hi h.size) h1 h2).trans (h.block i hi h1 h2)⟩
theorem gm.refl{b:Nat}{g:Option Nat}(w:World):gm b g w w:=⟨rfl,rfl,rfl,Nat.le_refl _,fun _ _ _ _=>rfl⟩
theorem gm.setCell{b:Nat}{g:Option Nat}(w:World)(a:Addr)(ha:a.block=b)(u:Value):gm b g w (w.setCell a u):=
 ⟨rfl,rfl,rfl,by simp [World.setCell],fun k _ hk _=>Below.heap_setCell _ _ _ _ (by rw[ha];exact hk)⟩
theorem afi{w:World}(t u ty e:TypeId)(i:TypeInfo)(ht:P.underlying t=some (.slice e))(hu:P.underlying u=some .string)(hi:P.info? e=some i)(hz:i.zero=some (.int .u8 0))(b6:i.size=1)(nA:i.bytes=1)
 (v:Value) (n:Nat) (xs:List Value) (bR:w.ownsRow 0 e 1 v n xs) (s:ByteArray) (Ab:n+s.size<=maxLen) (fV:n+s.size<=140737488355328) {v':Value} {w':World}
 (h:(Builtin.append_ #[t,u] ty #[v,.string s]).run P w= .ok v' w'):∀g,v'.ownBlock=some g->v.ownBlock=some g\/g=w.heap.size:=by
 have Av:xs.length=n:=by simpa using bR.1
 have uf:n+s.size<=9223372036854775807:=by simp only[maxLen] at Ab;omega
 intro g0 BS
 rcases bR.2 with⟨rfl,rfl⟩|⟨g,cap,cur,rfl,YA,hg,JB,rN,ey,m9⟩
 ·by_cases hm:s.size=0
  ·have hf:=Lib.run_firstCells_string (P:=P) w 1 s
   rw[hm] at hf
   simp [Builtin.append_,run_underlying ht,run_underlying hu,sizeOf,typeInfo,hi,b6,Builtin.lenOf,hm,hf] at h
   rw[<-h.1] at BS
   simp [Value.ownBlock] at BS
  ·have hr:=run_append_nil_string (P:=P) w t u ty e i (.int .u8 0) ht hu hi hz s (by omega) (by omega) (by rw[nA];omega)
   rw[hr] at h
   cases h
   simp [Value.ownBlock] at BS
   exact .inr BS.symm
 ·by_cases m8:n+s.size<=cap
  ·have aol:cur.size=cap:=by simpa using ey
   have hr:=Lib.run_append_room_string (P:=P) w t u ty e i ht hu hi b6 g n cap cur hg s m8 (by omega)
   rw[hr] at h
   cases h
   exact .inl BS
  ·have holds:∀j u,xs[j]? =some u->w.cell? ((⟨g,0,none⟩:Addr).add j)=some u:=bR.cells (g:=g) rfl
   have hr:=Lib.run_append_grow_string (P:=P) w t u ty e i (.int .u8 0) ht hu hi hz ⟨g,0,none⟩ n cap xs (by rw[b6];simpa using Av) holds s (by omega) (by omega) (by rw[nA];exact growslice_fits (by omega) (by omega))
   rw[hr] at h
   cases h
   simp [Value.ownBlock] at BS
   exact .inr BS.symm
theorem adz{ops:Array Oper}{rest:List Oper}{o:Oper}{a:Act}{w:World}{Q:Exit->Act->World->Prop}(Fz:o.guard=none)(sl x:Operand)(t u:TypeId)
 (ho:o.op= .call {callee:= .builtin .append,args:= #[sl,x],argTypes:= #[t,u]})
 (e:TypeId) (i:TypeInfo) (ht:P.underlying t=some (.slice e)) (hu:P.underlying u=some .string) (hi:P.info? e=some i) (hz:i.zero=some (.int .u8 0))
 (b6:i.size=1) (nA:i.bytes=1)
 (v:Value) (n:Nat) (xs:List Value) (hs:a.eval sl=v) (bR:w.ownsRow 0 e 1 v n xs) (s:ByteArray) (hx:a.eval x= .string s)
 (Ab:n+s.size<=maxLen) (fV:n+s.size<=140737488355328)
 (h:∀v' w',w'.ownsRow 0 e 1 v' (n+s.size) (xs++Lib.strCells s)->w.grownBy w' v.ownBlock->(∀g,v'.ownBlock=some g->v.ownBlock=some g\/g=w.heap.size)->wpList P ops Q rest (a.put o.dst v') w'):wpList P ops Q (o::rest) a w:=by
 refine wpList_plain Fz fun K hK=> ?_
 obtain⟨v',w',hr,h2,h3,h4⟩:=Lib.run_append_own_string (P:=P) w 0 t u o.type e i ht hu hi hz b6 nA v n xs bR s Ab fV (Nat.zero_le _)
 unfold Oper.wp execOp
 simp only[ho,resolve,invoke,builtin,Sem.run_bind,Sem.run_pure,Result.andThen_ok,List.map_toArray,List.map_cons,List.map_nil,hs,hx,hr]
 exact hK _ _ (h v' w' h2 h3 (afi t u o.type e i ht hu hi hz b6 nA v n xs bR s Ab fV hr))
theorem afu(L:Lays.n240 P ρ)(X:Builder.X72 P ρ)(b:Nat)(v:Value)(bs:List Value)(w:World)(h:uX (ρ.t 72) (ρ.t 5) b v bs w):
 Calls P (ρ.f 240) #[.pointer (some ⟨b,0,none⟩)] w fun e w'=>e= .returned (.tuple #[])/\(w'.heap[b]? =some (.cells #[.pointer (some ⟨b,0,none⟩),v] (ρ.t 72) (0,0))/\w'.ownsRow 0 (ρ.t 5) 1 v bs.length bs)/\(gm b none w w'/\w'.heap.size=w.heap.size):=by
 rcases h.mQ with hb|hb
 ·have hA:Lib.BuilderAt (ρ.t 72) (ρ.t 5) 0 b (.pointer none) bs w:=⟨Nat.zero_le _,v,hb,h.own,h.ne⟩
  refine(Any.Builder_copyCheck_fresh L X b w hA.cell0 hA.shape hA.frozen0).mono ?_
  rintro e w' ⟨rfl,rfl⟩
  have hu:=hA.used (.pointer (some ⟨b,0,none⟩))
  obtain⟨_,v',tH,m5,_⟩:=hu
  have hv:v'=v:=by
   have:(w.setCell ⟨b,0,none⟩ (.pointer (some ⟨b,0,none⟩))).heap[b]? =some (.cells #[.pointer (some ⟨b,0,none⟩),v] (ρ.t 72) (0,0)):=heap_setCell_same w b 0 _ _ _ hb
   rw[tH] at this
   simp at this
   exact this
  subst hv
  exact⟨rfl,⟨tH,m5⟩,gm.setCell w ⟨b,0,none⟩ rfl _,by simp [World.setCell]⟩
 ·have hA:Lib.BuilderAt (ρ.t 72) (ρ.t 5) 0 b (.pointer (some ⟨b,0,none⟩)) bs w:=⟨Nat.zero_le _,v,hb,h.own,h.ne⟩
  refine(Any.Builder_copyCheck_used L X b w hA.cell0).mono ?_
  rintro e w' ⟨rfl,rfl⟩
  exact⟨rfl,⟨hb,h.own⟩,gm.refl _,rfl⟩
set_option maxHeartbeats 2000000 in
set_option maxRecDepth 100000 in
theorem afv(L:Lays.n166 P ρ)(X:Builder.Extra P ρ)(b:Nat)(v0:Value)(bs:List Value)(s:ByteArray)(w:World)(h:uX (ρ.t 72) (ρ.t 5) b v0 bs w)(hlen:bs.length+s.size<=140737488355328):
 Calls P (ρ.f 166) #[.pointer (some ⟨b,0,none⟩),.string s] w fun e w'=>e= .returned (.tuple #[.int .i64 s.size,.nilIface])/\∃v',uX (ρ.t 72) (ρ.t 5) b v' (bs++Lib.strCells s) w'/\gm b v0.ownBlock w w'/\∀g,v'.ownBlock=some g->v0.ownBlock=some g\/w.heap.size<=g:=by
 obtain⟨i0,hi,Zo,Rt,Zp⟩:=info_parts X.infoByte
 have aq:=h.lt
 have mixed:=L.mixed
 have t72:=L.t72;have a72:=L.a72;have z72:=L.z72;have v72:=L.v72;have u72:=run_underlying L.t72
 have t70:=L.t70;have a70:=L.a70;have z70:=L.z70;have v70:=L.v70;have u70:=run_underlying L.t70
 have t37:=L.t37;have a37:=L.a37;have z37:=L.z37;have v37:=L.v37;have u37:=run_underlying L.t37
 have t3:=L.t3;have a3:=L.a3;have z3:=L.z3;have v3:=L.v3;have u3:=run_underlying L.t3
 have t9:=L.t9;have a9:=L.a9;have z9:=L.z9;have v9:=L.v9;have u9:=run_underlying L.t9
 have t4:=L.t4;have a4:=L.a4;have z4:=L.z4;have v4:=L.v4;have u4:=run_underlying L.t4
 have t164:=L.t164;have a164:=L.a164;have z164:=L.z164;have v164:=L.v164;have aor:=run_underlying L.t164
 have t5:=X.t5;have a5:=X.a5;have z5:=X.z5;have v5:=X.v5;have u5:=run_underlying X.t5
 have aoj:∀args w,(callFunc (ρ.f 240) args).run P w= .ok (.enter (ρ.f 240) args) w:=enters_of L.f240 (by kernel_rfl) rfl
 go_enter L.f166,Body.n166_ntmps ρ
 go_wp2_with (go_at_fn (ρ.f 240);refine(afu {L with} X.toX72 b v0 bs _ h).mono ?_)
 rintro e w1 ⟨rfl,⟨wY,bR⟩,nz,Cb⟩
 have bI:=h.ne
 have c0:w1.cell? ⟨b,0,none⟩=some (.pointer (some ⟨b,0,none⟩)):=by rw[Lib.cell_of_heap wY];rfl
 have c1:w1.cell? ⟨b,1,none⟩=some v0:=by rw[Lib.cell_of_heap wY];rfl
 go_wp2_with (at_builtin;refine adz rfl _ _ (ρ.t 37) (ρ.t 9) rfl (ρ.t 5) i0 L.t37 L.t9 hi Zo Rt Zp _ _ _ rfl bR s rfl ?c3 ?c4 ?_)
 case c3=>unfold maxLen;omega
 case c4=>omega
 intro v' w2 m5 Ai gO
 have xe:b<w1.heap.size:=by rw[Cb];exact aq
 have lT:w2.heap[b]? =some (.cells #[.pointer (some ⟨b,0,none⟩),v0] (ρ.t 72) (0,0)):=by
  rw[Ai.block b xe (fun e=>bI e.symm)]
  exact wY
 have d0:w2.cell? ⟨b,0,none⟩=some (.pointer (some ⟨b,0,none⟩)):=by rw[Lib.cell_of_heap lT];rfl
 have d1:w2.cell? ⟨b,1,none⟩=some v0:=by rw[Lib.cell_of_heap lT];rfl
 have f1:w2.frozen? ⟨b,1,none⟩=false:=Lib.frozen_of_heap lT 1
 obtain⟨ao,n',cap,rfl⟩:∃ao n' cap,v'= .slice ao n' cap:=by
  rcases m5.2 with⟨hv,_⟩|⟨g,cap,cur,hv,_⟩
  ·exact⟨_,_,_,hv⟩
  ·exact⟨_,_,_,hv⟩
 go_wp2
 go_ret2
 have JC:(Value.slice ao n' cap).ownBlock≠some b:=fun e=>by
  rcases gO b e with h1|h1
  ·exact bI h1
  ·omega
 have fg:(w2.setCell ⟨b,1,none⟩ (.slice ao n' cap)).heap[b]? =some (.cells #[.pointer (some ⟨b,0,none⟩),.slice ao n' cap] (ρ.t 72) (0,0)):=heap_setCell_same w2 b 1 _ _ _ lT
 refine⟨rfl,_,⟨.inr fg,?_,JC⟩,?_,fun g hg=> ?_⟩
 ·have hl:(bs++Lib.strCells s).length=bs.length+s.size:=by rw[List.length_append,Lib.strCells_length]
  rw[hl]
  refine⟨m5.1,?_⟩
  rcases m5.2 with hn|⟨g,wS,cur,hv,YA,hg,rest⟩
  ·exact .inl hn
  ·refine .inr ⟨g,wS,cur,hv,YA,?_,rest⟩
   rw[Below.heap_setCell _ _ _ _ (fun e=>JC (by rw[hv,Value.ownBlock];exact congrArg some e))]
   exact hg
 ·refine gm.trans ⟨nz.os,nz.tape,nz.output,nz.size,fun k hk h1 h2=>nz.block k hk h1 (by simp)⟩ (gm.trans (gm.of Ai) (gm.setCell w2 ⟨b,1,none⟩ rfl _))
 ·rcases gO g hg with h1|h1
  ·exact .inl h1
  ·exact .inr (by omega)
theorem gm.freeze{b:Nat}{g:Nat}(w:World)(a:Addr)(ha:a.block=g)(n:Nat):gm b (some g) w (w.freeze a n):=by
 unfold World.freeze
 split
 ·exact gm.refl _
 ·refine⟨rfl,rfl,rfl,by simp,fun k hk h1 h2=> ?_⟩
  simp only[Array.getElem?_modify]
  rw[if_neg]
  intro e
  exact h2 (by rw[<-e,ha])
theorem gm.drew{b:Nat}{g:Option Nat}(w:World):gm b g w w.drew:=⟨rfl,rfl,rfl,Nat.le_refl _,fun _ _ _ _=>rfl⟩
theorem gm.alloc{b:Nat}{g:Option Nat}(w:World)(o:Obj):gm b g w (w.alloc o):=⟨rfl,rfl,rfl,by simp,fun k hk _ _=>Below.heap_alloc _ _ _ hk⟩
set_option maxHeartbeats 2000000 in
set_option maxRecDepth 100000 in
theorem ai6(L:Lays.n169 P ρ)(X:Builder.Extra P ρ)(b:Nat)(v0:Value)(l:List UInt8)(w:World)(h:uX (ρ.t 72) (ρ.t 5) b v0 (Lib.byteCells l) w):
 Calls P (ρ.f 169) #[.pointer (some ⟨b,0,none⟩)] w fun e w'=>e= .returned (.string ⟨l.toArray⟩)/\gm b v0.ownBlock w w':=by
 obtain⟨p,wY⟩:∃p,w.heap[b]? =some (.cells #[p,v0] (ρ.t 72) (0,0)):=by
  rcases h.mQ with h|h
  ·exact⟨_,h⟩
  ·exact⟨_,h⟩
 have bR:=h.own
 have aq:=h.lt
 rw[Lib.byteCells_length] at bR
 have mixed:=L.mixed
 have t72:=L.t72;have a72:=L.a72;have z72:=L.z72;have v72:=L.v72;have u72:=run_underlying L.t72
 have t70:=L.t70;have a70:=L.a70;have z70:=L.z70;have v70:=L.v70;have u70:=run_underlying L.t70
 have t37:=L.t37;have a37:=L.a37;have z37:=L.z37;have v37:=L.v37;have u37:=run_underlying L.t37
 have t127:=L.t127;have a127:=L.a127;have z127:=L.z127;have v127:=L.v127;have aoq:=run_underlying L.t127
 have t3:=L.t3;have a3:=L.a3;have z3:=L.z3;have v3:=L.v3;have u3:=run_underlying L.t3
 have t9:=L.t9;have a9:=L.a9;have z9:=L.z9;have v9:=L.v9;have u9:=run_underlying L.t9
 have t5:=X.t5;have a5:=X.a5;have z5:=X.z5;have v5:=X.v5;have u5:=run_underlying X.t5
 rcases bR.2 with⟨rfl,hz⟩|⟨g,cap,cur,rfl,YA,hg,JB,rN,ey,m9⟩
 ·have hl:l=[]:=List.eq_nil_of_length_eq_zero hz
  subst hl
  have Yy:=Any.unsafeString_none L X
  have c1:w.drew.cell? ⟨b,1,none⟩=some (.slice none 0 0):=by
   have:w.drew.heap[b]? =some (.cells #[p,.slice none 0 0] (ρ.t 72) (0,0)):=wY
   rw[Lib.cell_of_heap this];rfl
  have Yw:(Builtin.unsafeSliceData_ #[(ρ.t 37)] (ρ.t 127) #[.slice none 0 0]).run P w.drew= .ok (.pointer none) w.drew:=rfl
  go_enter L.f169,Body.n169_ntmps ρ
  go_wp2
  go_region_o
  all_goals(go_wp2;go_ret;exact⟨rfl,gm.drew w⟩)
 ·by_cases Ju:l.length=0
  ·have hl:l=[]:=List.eq_nil_of_length_eq_zero Ju
   subst hl
   by_cases YB:cap=0
   ·subst YB
    have Yy:=Any.unsafeString_none L X
    have c1:w.drew.cell? ⟨b,1,none⟩=some (.slice (some ⟨g,0,none⟩) 0 0):=by
     have:w.drew.heap[b]? =some (.cells #[p,.slice (some ⟨g,0,none⟩) 0 0] (ρ.t 72) (0,0)):=wY
     rw[Lib.cell_of_heap this];rfl
    have Yw:(Builtin.unsafeSliceData_ #[(ρ.t 37)] (ρ.t 127) #[.slice (some ⟨g,0,none⟩) 0 0]).run P w.drew= .ok (.pointer (some ⟨w.drew.heap.size,0,none⟩)) (w.drew.alloc (.view ⟨g,0,none⟩ (ρ.t 5))):=
     Lib.run_unsafeSliceData_zero w.drew _ _ (ρ.t 5) L.t127 ⟨g,0,none⟩ 0 ((ρ.t 5),cur.size) (by have Fy:w.drew.heap[g]? =some (.cells cur (ρ.t 5) (0,0)):=hg;simp [World.shape?,Fy])
    have c2:(w.drew.alloc (.view ⟨g,0,none⟩ (ρ.t 5))).cell? ⟨b,1,none⟩=some (.slice (some ⟨g,0,none⟩) 0 0):=by
     have:(w.drew.alloc (.view ⟨g,0,none⟩ (ρ.t 5))).heap[b]? =_:=(Lib.alloc_old w.drew _ b aq).trans wY
     rw[Lib.cell_of_heap this];rfl
    have c3:(w.alloc (.view ⟨g,0,none⟩ (ρ.t 5))).drew.cell? ⟨b,1,none⟩=some (.slice (some ⟨g,0,none⟩) 0 0):=c2
    have c0:w.cell? ⟨b,1,none⟩=some (.slice (some ⟨g,0,none⟩) 0 0):=c1
    go_enter L.f169,Body.n169_ntmps ρ
    go_wp2
    go_region_o
    all_goals(go_wp2;go_ret;exact⟨rfl,(gm.drew w).trans (gm.alloc _ _)⟩)
   ·have Yy:=Any.unsafeString_none L X
    have c1:w.drew.cell? ⟨b,1,none⟩=some (.slice (some ⟨g,0,none⟩) 0 cap):=by
     have:w.drew.heap[b]? =some (.cells #[p,.slice (some ⟨g,0,none⟩) 0 cap] (ρ.t 72) (0,0)):=wY
     rw[Lib.cell_of_heap this];rfl
    have Yw:(Builtin.unsafeSliceData_ #[(ρ.t 37)] (ρ.t 127) #[.slice (some ⟨g,0,none⟩) 0 cap]).run P w.drew= .ok (.pointer (some ⟨g,0,none⟩)) w.drew:=
     Lib.run_unsafeSliceData_row _ _ _ _ _ _ YB
    clear YB
    go_enter L.f169,Body.n169_ntmps ρ
    go_wp2
    go_region_o
    all_goals(go_wp2;go_ret;exact⟨rfl,gm.drew w⟩)
  ·have h0:l≠ []:=fun e=>Ju (by rw[e];rfl)
   have c1:w.drew.cell? ⟨b,1,none⟩=some (.slice (some ⟨g,0,none⟩) l.length cap):=by
    have:w.drew.heap[b]? =some (.cells #[p,.slice (some ⟨g,0,none⟩) l.length cap] (ρ.t 72) (0,0)):=wY
    rw[Lib.cell_of_heap this];rfl
   have Yw:(Builtin.unsafeSliceData_ #[(ρ.t 37)] (ρ.t 127) #[.slice (some ⟨g,0,none⟩) l.length cap]).run P w.drew= .ok (.pointer (some ⟨g,0,none⟩)) w.drew:=
    Lib.run_unsafeSliceData_row _ _ _ _ _ _ (by omega)
   have Yy:(Builtin.unsafeString_ #[(ρ.t 127),(ρ.t 3)] (ρ.t 9) #[.pointer (some ⟨g,0,none⟩),.int .i64 l.length]).run P w.drew= .ok (.string ⟨l.toArray⟩) (w.drew.freeze ⟨g,0,none⟩ l.length):=by
    refine Lib.run_unsafeString_row w.drew (ρ.t 127) (ρ.t 3) (ρ.t 9) (ρ.t 5) L.t127 X.cellsByte g cur.size (by have Fy:w.drew.heap[g]? =some (.cells cur (ρ.t 5) (0,0)):=hg;simp [World.shape?,Fy]) l h0 (by omega) (by unfold maxLen at rN;omega) ?_
    intro j x hx
    have:=bR.cells (g:=g) rfl j (.int .u8 x.toNat) (by simp [Lib.byteCells,hx])
    exact this
   go_enter L.f169,Body.n169_ntmps ρ
   go_wp2
   go_region_o
   all_goals(go_wp2;go_ret;exact⟨rfl,(gm.drew w).trans (gm.freeze _ _ rfl _)⟩)
end Go.Ref

namespace Go.Ref
open Go
inductive SV where
 |undef
 |skip
 |cF
 |dN
 |aj (t:Ty) (x:El t) (own:List (List Nat))
 |ptr (id:Nat) (t:Ty) (p:List Nat)
 |view (t:Ty) (x:El t)
 |cap (f:Nat) (t:Ty) (x:El t) (u:Ty) (y:El u)
 |over
 |bz (id:Nat) (a b:Ty) (j:Nat)
def Ty.qg:Ty->Bool
 | .aJ (.gn _ _) _ _=>false
 | .aJ _ _ _=>true
 |_=>false
def Ty.bF:Ty->Bool
 | .aJ _ _ _=>true
 |_=>false
def SV.bK:SV->Bool
 | .bz _ _ _ _=>true
 |_=>false
structure bB where
 t:Ty
 x:El t
 own:List (List Nat)
structure State where
 sl:List (List SV)
 bs:List (Option bB)
def mV(a:Ty):List Nat->Nat
 |0::q=>a.off q
 | [1]=>a.cells
 | [1,i]=>a.cells+i
 | [2]=>a.cells+2
 |_=>0
def gIn(a:Ty):List Nat->Prop
 | []=>True
 |0::q=>a.eE q
 | [1]=>True
 | [1,i]=>i<2
 | [2]=>True
 |_=>False
def Bd:List (List Nat):=[[2]]
def z21:List (List Nat):=[[0],[1],[0,2],[1,2]]
def Ty.eF:Ty->Bool
 | .aJ .bN _ _=>true
 |_=>false
structure Env where
 ty:TypeId->Option Ty
 bytes:TypeId->Nat
 pt:TypeId->Bool
 dm:Nat->List Nat
 lj:Nat->List Nat
 outs:List Nat
 ps:List Ty
 mp:TypeId->Option (TypeId×TypeId):=fun _=>none
 join:Nat->Option (List Nat):=fun _=>none
 fz:Nat->Option (Nat×TypeId):=fun _=>none
 dr:Nat->List Nat:=fun _=>[]
 sh:List Nat:=[]
 ro:Bool:=false
 mv:List Nat:=[]
 fr:Nat->List Nat:=fun _=>[]
 bl:TypeId->Option TypeId:=fun _=>none
 gr:TypeId->Option (Ty×Ty):=fun _=>none
 ga:TypeId->Bool:=fun _=>false
 sg:Option (Nat×Nat×Nat):=none
 sp:Option (Nat×Nat×Nat×Nat):=none
def Ty.gR:Ty->Bool
 | .unit=>true
 | .pair (.int _) b=>b.gR
 |_=>false
def Ty.isKey:Ty->Bool
 | .bool| .int _| .str=>true
 | .pair a b=>(Ty.pair a b).gR
 |_=>false
def va:(t:Ty)->El t->El t->Bool
 | .pair (.int _) b,x,y=>decide (x.1=y.1)&&va b x.2 y.2
 |_,_,_=>true
def fT:(t:Ty)->El t->El t->Bool
 | .bool,x,y=>decide (x=y)
 | .int _,x,y=>decide (x=y)
 | .str,x,y=>decide (x=y)
 | .pair a b,x,y=>va (.pair a b) x y
 |_,_,_=>false
def eZ{K V:Type}(eq:K->K->Bool)(d:V):List (K×V)->K->V
 | [],_=>d
 |q::r,k=>bif eq k q.1 then q.2 else eZ eq d r k
def fa{K V:Type}(eq:K->K->Bool):List (K×V)->K->Bool
 | [],_=>false
 |q::r,k=>bif eq k q.1 then true else fa eq r k
section
variable {R:Type}
abbrev bU(R:Type):=List SV->Option bB->(List SV->Option bB->Option R)->Option R
def SV.el(s:SV)(u:Ty)(K:El u->Option R):Option R:=
 match s with
 | .aj t x _=>if h:t.cp u=true then K (Ty.cast h x) else none
 | .cF=>match u with
   | .sl _ _=>K []
   |_=>none
 |_=>none
def A6:Value->SV
 | .bool b=> .aj .bool b []
 | .int k n=> .aj (.int k) n []
 | .string s=> .aj .str s []
 | .slice none 0 0=> .cF
 | .pointer none=> .dN
 |_=> .undef
def State.slot(s:State)(t:Nat):List SV:=s.sl.getD t [.undef]
def State.xr(s:State):Operand->List SV
 | .tmp t=>s.slot t
 | .const v=>[A6 v]
 |_=>[.undef]
def one:List SV->SV
 | [x]=>x
 |_=> .undef
def State.aG(s:State)(x:Operand):SV:=one (s.xr x)
def State.box(s:State)(id:Nat):Option bB:=(s.bs.getD id none)
def SV.shut:SV->SV
 | .aj t x _=> .aj t x []
 | .bz _ _ _ _=> .undef
 |v=>v
def SV.own:SV->List (List Nat)
 | .aj _ _ o=>o
 | .cF=>[[]]
 |_=>[]
def bO:List SV->Nat->List SV
 | [],_=>[]
 |v::r,0=>v.shut::r
 |v::r,j+1=>v::bO r j
structure Out where
 v:List SV
 bx:Option (Nat×bB):=none
 cl:List (Nat×Nat):=[]
def State.close(s:State):List (Nat×Nat)->State
 | []=>s
 |(i,j)::r=>State.close {s with sl:=s.sl.set i (bO (s.slot i) j)} r
def State.aC(s:State):Option (Nat×bB)->State
 |some (id,B)=>{s with bs:=s.bs.set id (some B)}
 |none=>s
def State.au(s:State):Option Nat->List SV->State
 |some d,v=>{s with sl:=s.sl.set d v}
 |none,_=>s
def State.apply(s:State)(dst:Option Nat)(o:Out):State:=((s.close o.cl).aC o.bx).au dst o.v
def uE:Operand->Option Nat
 | .tmp t=>some t
 |_=>none
def src:Operand->List (Nat×Nat)
 | .tmp t=>[(t,0)]
 |_=>[]
def aP(op:BinOp)(k:IntKind)(a b:Int):Int:=
 match op with
 | .and=>k.wrap ((BitVec.ofInt k.bits a&&&BitVec.ofInt k.bits b).toNat:Nat)
 | .or=>k.wrap ((BitVec.ofInt k.bits a|||BitVec.ofInt k.bits b).toNat:Nat)
 | .xor=>k.wrap ((BitVec.ofInt k.bits a^^^BitVec.ofInt k.bits b).toNat:Nat)
 |_=>k.wrap ((BitVec.ofInt k.bits a&&& ~~~ BitVec.ofInt k.bits b).toNat:Nat)
def dC:(t:Ty)->El t->El t->Option Bool
 | .bool,x,y=>some (x==y)
 | .int _,x,y=>some (decide (x=y))
 | .str,x,y=>some (decide (x=y))
 | .unit,_,_=>some true
 | .arr _ (.int _),x,y=>some (decide ((x:List Int)=y))
 | .pair a b,x,y=>match dC a x.1 y.1,dC b x.2 y.2 with
   |some p,some q=>some (p&&q)
   |_,_=>none
 |_,_,_=>none
def i64(n:Int):List SV:=[.aj (.int .i64) n []]
def bl(b:Bool):List SV:=[.aj .bool b []]
def qP(op:BinOp)(k:IntKind)(a:Int)(k':IntKind)(b:Int)(K:List SV->Option R):Option R:=
 match op with
 | .shl=>bif decide (b<0) then none else K [.aj (.int k) (k.wrap (a*2^min b.toNat k.bits)) []]
 | .shr=>bif decide (b<0) then none else K [.aj (.int k) (a.fdiv (2^min b.toNat k.bits)) []]
 |_=>if k=k' then
  match op with
  | .add=>K [.aj (.int k) (k.wrap (a+b)) []]
  | .sub=>K [.aj (.int k) (k.wrap (a-b)) []]
  | .mul=>K [.aj (.int k) (k.wrap (a*b)) []]
  | .quo=>bif decide (b=0) then none else K [.aj (.int k) (k.wrap (a.tdiv b)) []]
  | .rem=>bif decide (b=0) then none else K [.aj (.int k) (a.tmod b) []]
  | .and| .or| .xor| .andNot=>K [.aj (.int k) (aP op k a b) []]
  | .eql=>K (bl (decide (a=b)))
  | .neq=>K (bl (!decide (a=b)))
  | .lss=>K (bl (decide (a<b)))
  | .leq=>K (bl (decide (a<=b)))
  | .gtr=>K (bl (decide (b<a)))
  | .geq=>K (bl (decide (b<=a)))
  |_=>none
  else none
def qQ(op:BinOp)(a b:ByteArray)(K:List SV->Option R):Option R:=
 match op with
 | .add=>bif decide (a.size+b.size<=9223372036854775807) then K [.aj .str (a++b) []] else none
 | .eql=>K (bl (decide (a=b)))
 | .neq=>K (bl (!decide (a=b)))
 | .lss=>K (bl (Op.bytesLess a.toList b.toList))
 | .leq=>K (bl (Op.bytesLess a.toList b.toList||decide (a=b)))
 | .gtr=>K (bl (!(Op.bytesLess a.toList b.toList||decide (a=b))))
 | .geq=>K (bl (!(Op.bytesLess a.toList b.toList)))
 |_=>none
def Ty.depth:Ty->Nat
 | .arr _ t=>t.depth+1
 | .pair a b=>max (a.depth+1) b.depth
 |_=>1
def qO(E:Env)(op:BinOp)(T:TypeId)(x y:SV)(K:List SV->Option R):Option R:=
 match E.ty T with
 |some t=>if Nat.ble t.depth 1000=false then none else x.el t fun a=>y.el t fun b=>match dC t a b with
  |some r=>match op with
   | .eql=>K (bl r)
   | .neq=>K (bl (!r))
   |_=>none
  |none=>none
 |none=>none
def bin(E:Env)(op:BinOp)(T:TypeId)(x y:SV)(K:List SV->Option R):Option R:=
 match x,y with
 | .aj (.int k) a _,.aj (.int k') b _=>qP op k a k' b K
 | .aj .str a _,.aj .str b _=>qQ op a b K
 | .ptr _ t _,.dN=>if((t.bF&& !t.eF)|| !E.pt T)=true then none else match op with
   | .eql=>K (bl false)
   | .neq=>K (bl true)
   |_=>none
 | .dN,.dN=>if E.pt T=false then none else match op with
   | .eql=>K (bl true)
   | .neq=>K (bl false)
   |_=>none
 |x,y=>qO E op T x y K
def ze(s:ByteArray)(i:Nat):Int:=if h:i<s.size then((s[i]'h).toNat:Int) else 0
def strOf(xs:List Int):ByteArray:=⟨(xs.map fun x=>UInt8.ofNat x.toNat).toArray⟩
def zd(i:Int)(n:Nat)(K:Option R):Option R:=bif decide (0<=i) then bif decide (i<(n:Int)) then K else none else none
def xZ(lo:Option SV)(h:Nat)(K:Nat->Option R):Option R:=
 match lo with
 |none=>K 0
 |some v=>v.el (.int .i64) fun l=>bif decide (0<=l) then bif decide (l<=(h:Int)) then K l.toNat else none else none
def cutAt(lo hi:Option SV)(n:Nat)(K:Nat->Nat->Option R):Option R:=
 match hi with
 |none=>xZ lo n fun l=>K l n
 |some v=>v.el (.int .i64) fun h=>bif decide (0<=h) then bif decide (h<=(n:Int)) then xZ lo h.toNat (fun l=>K l h.toNat) else none else none
def Ty.kE:Ty->Nat->Bool
 | .arr n _,i=>Nat.ble (i+1) n
 |_,_=>true
def xW(own:List (List Nat))(p:List Nat):List (List Nat):=own.filter fun q=> !(p.isPrefixOf q)
def gA(own:List (List Nat))(p:List Nat):Bool:=own.any fun q=>q==p
def QM(own:List (List Nat))(p:List Nat):List (List Nat):=(own.filter fun q=>p.isPrefixOf q).map fun q=>q.drop p.length
def bump:List Nat->Option (List Nat)
 | []=>none
 |j::p=>some ((j+1)::p)
def xR:Ty->List (List Nat)
 | .sl _ _=>[[]]
 | .pair a b=>(xR a).map (fun p=>0::p)++(xR b).filterMap bump
 |_=>[]
def rF(t:Ty):El t->List (List Nat)->List (Nat×SV×List (List Nat))->(El t->List (List Nat)->Option R)->Option R
 |x,own,[],K=>K x own
 |x,own,(i,v,ov)::r,K=>if t.kE i=false then none else match t.at_ [i] with
  |some u=>v.el u fun y=>match El.set t [i] x u y with
   |some z=>rF t z (ov.map (fun p=>i::p)++xW own [i]) r K
   |none=>none
  |none=>none
def xV(o:List (List Nat))(x:Operand):List (Nat×Nat):=
 match o with
 | []=>[]
 |_::_=>src x
def my:State->List (Nat×Operand)->List (Nat×SV×List (List Nat))×List (Nat×Nat)
 |_,[]=>([],[])
 |s,(i,x)::r=>((i,s.aG x,(s.aG x).own)::(my (s.close (xV (s.aG x).own x)) r).1,xV (s.aG x).own x++(my (s.close (xV (s.aG x).own x)) r).2)
def Bb(t:Ty):List (El t)->List (Nat×SV)->(List (El t)->Option R)->Option R
 |xs,[],K=>K xs
 |xs,(i,v)::r,K=>if Nat.ble (i+1) xs.length=false then none else v.el t fun y=>Bb t (xs.set i y) r K
def XP(ops:List Oper)(d:Option Nat):Bool:=
 match d with
 |some d=>ops.any fun o=>match o.op with
  | .call ⟨.builtin .append,args,_⟩=>match args.toList with
    | .tmp t::_=>Nat.beq t d
    |_=>false
  |_=>false
 |none=>false
def Ox(ops:List Oper)(d:Option Nat):Bool:=
 match d with
 |some d=>ops.any fun o=>match o.op,o.dst with
  | .indexAddr _ (.tmp t) _,some a=>Nat.beq t d&&ops.any fun q=>match q.op with
    | .store _ (.tmp b) _=>Nat.beq a b
    |_=>false
  |_,_=>false
 |none=>false
def Ay(E:Env)(ops:List Oper)(d:Option Nat):Bool:=
 match d with
 |some d=>ops.any fun o=>match o.op with
  | .store _ (.tmp r) (.tmp t)=>Nat.beq t d&&E.outs.any (Nat.beq r)
  |_=>false
 |none=>false
def getM{α:Type}(j:Nat)(m:Option α×Option α):Option α:=bif Nat.beq j 0 then m.1 else bif Nat.beq j 1 then m.2 else none
def fG{α:Type}(j:Nat)(y:Option α)(m:Option α×Option α):Option α×Option α:=bif Nat.beq j 0 then(y,m.2) else(m.1,y)
def nI(s:State)(id:Nat)(a b:Ty)(K:El (.aJ .bN a b)->List (List Nat)->Option R):Option R:=
 match s.box id with
 |some B=>if h:B.t.cp (.aJ .bN a b)=true then bif z21.all (gA B.own) then K (Ty.cast h B.x) B.own else none else none
 |none=>none
def ES(u':Ty)(s:State)(id:Nat)(t:Ty)(p:List Nat)(K:Out->Option R):Option R:=
 match t,p with
 | .aJ .row a b,[i]=>match s.box id with
   |some B=>if h:B.t.cp (.aJ .row a b)=true then if u'.cp a=true then
     bif Nat.ble (i+1) (List.length (Ty.cast h B.x:List (El a))) then K {v:=[.aj a (List.getD (Ty.cast h B.x:List (El a)) i (El.bT a)) []]} else none
    else none else none
   |none=>none
 | .aJ .bN a b,[0]=>if u'.cp a=true then nI s id a b fun x _=>K {v:=[.aj a x.1 []]} else none
 | .aJ .bN a b,[2]=>if u'.cp (.int .i64)=true then nI s id a b fun x _=>K {v:=i64 x.2.2} else none
 |_,_=>none
def Eu(u:Ty)(s:State)(id:Nat)(t:Ty)(p:List Nat)(v:SV)(K:Out->Option R):Option R:=
 match t,p with
 | .aJ .row a b,[i]=>match s.box id with
   |some B=>if h:B.t.cp (.aJ .row a b)=true then if a.cp u=true then
     v.el a fun y=>bif Nat.ble (i+1) (List.length (Ty.cast h B.x:List (El a))) then K {v:=[.skip],bx:=some (id,⟨.aJ .row a b,(List.set (Ty.cast h B.x:List (El a)) i y:List (El a)),[]⟩)} else none
    else none else none
   |none=>none
 | .aJ .bN a b,0::q=>match a.at_ q with
   |some u'=>if u'.cp u=true then nI s id a b fun x own=>v.el u fun y=>match El.set a q x.1 u y with
     |some z=>bif gA own [] then K {v:=[.skip],bx:=some (id,⟨.aJ .bN a b,(z,x.2),own⟩)} else none
     |none=>none
    else none
   |none=>none
 | .aJ .bN a b,[2]=>if u.cp (.int .i64)=true then nI s id a b fun x own=>v.el (.int .i64) fun n=>bif gA own [] then K {v:=[.skip],bx:=some (id,⟨.aJ .bN a b,(x.1,x.2.1,n),own⟩)} else none else none
 |_,_=>none
def GG(v:SV)(j:Nat)(ta tb:Ty)(K:Out->Option R):Option R:=
 match v with
 | .ptr id (.aJ .bN a b) []=>if(a.cp ta&&b.cp tb)=true then bif Nat.ble j 2 then K {v:=[.ptr id (.aJ .bN a b) [j]]} else none else none
 |_=>none
def Pb(t:Ty)(n:Int)(id:Nat)(r:Ty)(p:List Nat)(K:Out->Option R):Option R:=
 match r,p with
 | .aJ (.iG m) a b,[]=>if a.cp t=true then zd n m (K {v:=[.ptr id (.aJ .row a b) [n.toNat]]}) else none
 |_,_=>none
def Gq(u':Ty)(B:bB)(t:Ty)(p:List Nat)(K:Out->Option R):Option R:=
 match t,p with
 | .arr n e,[]=>if h:B.t.cp (.aJ .row e .unit)=true then if u'.cp (.arr n e)=true then
    bif Nat.beq n (List.length (Ty.cast h B.x:List (El e))) then K {v:=[.aj (.arr n e) (Ty.cast h B.x:List (El e)) []]} else none
   else none else none
 |_,_=>none
def kb(E:Env)(T:TypeId)(s:State)(v:SV)(K:Out->Option R):Option R:=
 match v with
 | .ptr id (.aJ .bN a b) [1,j]=>if E.pt T=true then nI s id a b fun x own=>bif gA own [] then K {v:=[.bz id a b j],bx:=some (id,⟨.aJ .bN a b,x,own.filter fun q=> !q.isEmpty⟩)} else none else none
 |_=>none
def load(E:Env)(T:TypeId)(s:State)(la:Bool)(a:SV)(K:Out->Option R):Option R:=
 match E.ty T with
 |some u'=>match a with
  | .view t x=>if u'.cp t=true then K {v:=[.aj t x []]} else none
  | .ptr id t p=>if t.bF=true then ES u' s id t p K else match s.box id with
    |some B=>if B.t.cp t=true then
      match El.get B.t p B.x with
      |some ⟨u,y⟩=>if u'.cp u=true then
        bif la then K {v:=[.aj u y (QM B.own p)],bx:=some (id,{B with own:=xW B.own p})} else K {v:=[.aj u y []]}
       else none
      |none=>none
     else Gq u' B t p K
    |none=>none
  |_=>none
 |none=>kb E T s a K
def store(E:Env)(T:TypeId)(s:State)(a:SV)(vo:Operand)(K:Out->Option R):Option R:=
 match E.ty T with
 |some u=>match a with
  | .ptr id t p=>if t.bF=true then Eu u s id t p (s.aG vo) K else match s.box id with
    |some B=>if B.t.cp t=true then
      match t.at_ p with
      |some u'=>if u'.cp u=true then
        (s.aG vo).el u fun y=>match El.set B.t p B.x u y with
        |some z=>K {v:=[.skip],bx:=some (id,{t:=B.t,x:=z,own:=(s.aG vo).own.map (fun q=>p++q)++xW B.own p}),cl:=src vo}
        |none=>none
       else none
      |none=>none
     else none
    |none=>none
  |_=>none
 |none=>none
def Ty.df:Ty->Bool
 | .pair .. =>true
 |_=>false
def Gl(u:Ty)(id:Nat)(t:Ty)(p:List Nat)(j:Nat)(K:Out->Option R):Option R:=
 match t,p with
 | .aJ .bN a b,0::q=>match a.at_ q with
   |some u'=>if(u.cp u'&&u.df)=true then match u.at_ [j] with
     |some f=>if Nat.beq f.cells 0=true then none else K {v:=[.ptr id (.aJ .bN a b) (0::(q++ [j]))]}
     |none=>none
    else none
   |none=>none
 |_,_=>none
def Gp(m:Nat)(t:Ty)(n:Int)(id:Nat)(r:Ty)(p:List Nat)(K:Out->Option R):Option R:=
 match r,p with
 | .aJ .bN a b,0::q=>match a.at_ q with
   |some u=>if u.cp (.arr m t)=true then zd n m (K {v:=[.ptr id (.aJ .bN a b) (0::(q++ [n.toNat]))]}) else none
   |none=>none
 |_,_=>none
def QG(t?:Option Ty)(a:SV)(j:Nat)(K:Out->Option R):Option R:=
 match t?,a with
 |some u,.ptr id t p=>if t.bF=true then Gl u id t p j K else match t.at_ p with
  |some u'=>if(u.cp u'&&u.df)=true then match u.at_ [j] with
    |some f=>if Nat.beq f.cells 0=true then none else K {v:=[.ptr id t (p++ [j])]}
    |none=>none
   else none
  |none=>none
 |some u,.view t x=>if(u.cp t&&u.df)=true then match El.get t [j] x with
   |some ⟨f,y⟩=>if Nat.beq f.cells 0=true then none else K {v:=[.view f y]}
   |none=>none
  else none
 |_,_=>none
def SV.num(s:SV)(K:Int->Option R):Option R:=
 match s with
 | .aj (.int _) n _=>K n
 |_=>none
def QI(E:Env)(T:TypeId)(a i:SV)(K:Out->Option R):Option R:=
 i.num fun n=>match E.ty T,a with
  |some (.sl e t),.aj t' xs _=>(SV.aj t' xs []).el (.sl e t) fun ys=>zd n ys.length (K {v:=[.view t (List.getD ys n.toNat (El.bT t))]})
  |some (.arr m t),.ptr id r p=>if r.bF=true then Gp m t n id r p K else match r.at_ p with
   |some u=>if u.cp (.arr m t)=true then zd n m (K {v:=[.ptr id r (p++ [n.toNat])]}) else none
   |none=>none
  |some (.arr m t),.view t' xs=>(SV.aj t' xs []).el (.arr m t) fun ys=>zd n m (K {v:=[.view t (List.getD ys n.toNat (El.bT t))]})
  |some (.sl _ t),.ptr id r p=>Pb t n id r p K
  |none,.ptr id (.aJ .bN a b) [1]=>if E.ga T=true then zd n 2 (K {v:=[.ptr id (.aJ .bN a b) [1,n.toNat]]}) else none
  |_,_=>none
def QJ(E:Env)(T:TypeId)(a i:SV)(K:Out->Option R):Option R:=
 i.num fun n=>match E.ty T with
  |some .str=>a.el .str fun s=>zd n s.size (K {v:=[.aj (.int .u8) (ze s n.toNat) []]})
  |some (.arr m t)=>a.el (.arr m t) fun ys=>zd n m (K {v:=[.aj t (List.getD ys n.toNat (El.bT t)) []]})
  |_=>none
def qS(E:Env)(T:TypeId)(a:SV)(lo hi:Option SV)(K:Out->Option R):Option R:=
 match E.ty T with
 |some .str=>a.el .str fun s=>cutAt lo hi s.size fun l h=>K {v:=[.aj .str (s.extract l h) []]}
 |some (.sl e t)=>a.el (.sl e t) fun xs=>cutAt lo hi (List.length xs) fun l h=>K {v:=[.aj (.sl e t) ((List.take h xs).drop l) []]}
 |_=>none
def P3(E:Env)(T U:TypeId)(bo:Operand)(b x:SV)(K:Out->Option R):Option R:=
 if Nat.beq T U=false then none else
 match E.ty T with
 |some (.sl e t)=>if(Nat.beq (E.bytes e) 0||Nat.beq t.cells 0)=true then none else match b with
  | .cF=>x.el (.sl e t) fun ys=>bif decide (List.length ys*E.bytes e<=140737488355328) then K {v:=[.aj (.sl e t) ys [[]]]} else none
  | .aj t' xs o=>if gA o []=false then none else(SV.aj t' xs o).el (.sl e t) fun xs=>x.el (.sl e t) fun ys=>
    bif decide ((List.length xs+List.length ys)*E.bytes e<=140737488355328) then K {v:=[.aj (.sl e t) (xs++ys:List (El t)) [[]]],cl:=src bo} else none
  |_=>none
 |_=>none
def uo(E:Env)(T:TypeId)(x:SV)(K:Out->Option R):Option R:=
 match E.ty T with
 |some .str=>x.el .str fun s=>K {v:=i64 (s.size:Int)}
 |some (.sl e t)=>match x with
  | .ptr _ (.aJ (.iG n) _ _) []=>K {v:=i64 (n:Int)}
  |x=>x.el (.sl e t) fun xs=>K {v:=i64 (List.length xs:Int)}
 |some (.arr n _)=>K {v:=i64 (n:Int)}
 |_=>none
def kX(E:Env)(S T:TypeId)(x:SV)(K:Out->Option R):Option R:=
 match E.ty S,E.ty T with
 |some (.int k),some (.int k')=>x.el (.int k) fun n=>K {v:=[.aj (.int k') (k'.wrap n) []]}
 |some .str,some .str=>x.el .str fun s=>K {v:=[.aj .str s []]}
 |some (.sl e (.int .u8)),some .str=>x.el (.sl e (.int .u8)) fun xs=>K {v:=[.aj .str (strOf xs) []]}
 |_,_=>none
def jV(E:Env)(S T:TypeId)(s:State)(id n:Nat)(a b:Ty)(K:Out->Option R):Option R:=
 match E.ty S,E.ty T with
 |some (.sl _ (.int .u8)),some .str=>if a.cp (.int .u8)=true then match s.box id with
  |some B=>if h:B.t.cp (.aJ .row (.int .u8) b)=true then bif Nat.beq n (List.length (Ty.cast h B.x:List Int)) then K {v:=[.aj .str (strOf (Ty.cast h B.x:List Int)) []]} else none else none
  |none=>none else none
 |_,_=>none
def nh(E:Env)(T:TypeId):Option (Ty×Ty):=
 match E.mp T with
 |some (k,e)=>match E.ty k,E.ty e with
  |some kt,some vt=>if kt.isKey=true then some (kt,vt) else none
  |_,_=>none
 |none=>none
def kd(s:State)(dst:Option Nat)(t:Ty)(x:El t)(p:Ty)(K:Out->Option R):Option R:=
 match dst with
 |some d=>match s.bs[d+1]? with
  |some none=>K {v:=[.ptr (d+1) p []],bx:=some (d+1,⟨t,x,[]⟩)}
  |_=>none
 |none=>none
def vB(s:State)(m:SV)(kt vt:Ty)(K:Nat->List (El kt×El vt)->Option R):Option R:=
 match m with
 | .ptr id (.aJ .mp Zt vt') []=>if((Ty.aJ .mp Zt vt').cp (.aJ .mp kt vt))=true then match s.box id with
   |some B=>if h:B.t.cp (.aJ .mp kt vt)=true then K id (Ty.cast h B.x) else none
   |none=>none else none
 |_=>none
def lk(E:Env)(T:TypeId)(s:State)(m i:SV)(K:Out->Option R):Option R:=
 match nh E T with
 |some (kt,vt)=>vB s m kt vt fun _ xs=>i.el kt fun k=>K {v:=[.aj vt (eZ (fT kt) (El.bT vt) xs k) []]}
 |none=>none
def mc(E:Env)(T:TypeId)(s:State)(m i v:SV)(K:Out->Option R):Option R:=
 match nh E T with
 |some (kt,vt)=>vB s m kt vt fun id xs=>i.el kt fun k=>v.el vt fun y=>bif fa (fT kt) xs k then none else K {v:=[.skip],bx:=some (id,⟨.aJ .mp kt vt,(xs++ [(k,y)]:List (El kt×El vt)),[]⟩)}
 |none=>none
def j6:Ty:= .aJ .iter .unit .unit
def lm(s:State)(m:SV)(K:Out->Option R):Option R:=
 match m with
 | .ptr id (.aJ .iter .unit .unit) []=>match s.box id with
   |some B=>if h:B.t.cp j6=true then
     bif decide ((Ty.cast h B.x:ByteArray×Nat).2<(Ty.cast h B.x:ByteArray×Nat).1.size) then
      K {v:=[.aj .bool true [],.aj (.int .i64) ((Ty.cast h B.x:ByteArray×Nat).2:Int) [],.aj (.int .i32) ((Utf8.decode (Ty.cast h B.x:ByteArray×Nat).1 (Ty.cast h B.x:ByteArray×Nat).2).1:Int) []],
         bx:=some (id,⟨j6,((Ty.cast h B.x:ByteArray×Nat).1,(Ty.cast h B.x:ByteArray×Nat).2+(Utf8.decode (Ty.cast h B.x:ByteArray×Nat).1 (Ty.cast h B.x:ByteArray×Nat).2).2),[]⟩)}
     else K {v:=[.over]}
    else none
   |none=>none
 |_=>none
def NI:Operand->Bool
 | .const _=>true
 |_=>false
def ll(E:Env)(T:TypeId)(s:State)(dst:Option Nat)(lo:Operand)(l c:SV)(K:Out->Option R):Option R:=
 match E.ty T with
 |some (.sl e t)=>if(Nat.beq (E.bytes e) 0||Nat.beq t.cells 0)=true then none else l.el (.int .i64) fun n=>c.el (.int .i64) fun m=>
  bif NI lo then
   bif decide (n=0) then bif decide (0<=m) then bif decide (m*E.bytes e<=140737488355328) then K {v:=[.aj (.sl e t) ([]:List (El t)) [[]]]} else none else none else none
  else bif decide (n=m) then bif decide (0<=n) then bif decide (n*E.bytes e<=140737488355328) then kd s dst (.aJ .row t .unit) (List.replicate n.toNat (El.bT t):List (El t)) (.aJ (.iG n.toNat) t .unit) K else none else none else none
 |_=>none
def Kv(op:UnOp)(x:SV)(K:Out->Option R):Option R:=
 match op,x with
 | .not,.aj .bool b _=>K {v:=bl (!b)}
 | .neg,.aj (.int k) n _=>K {v:=[.aj (.int k) (k.wrap (0-n)) []]}
 |_,_=>none
def mR(f:FuncId)(x:SV)(K:Out->Option R):Option R:=
 match x with
 | .ptr id u []=>if u.qg=true then none else K {v:=[.ptr id (.aJ (.rM f) u .unit) []]}
 |_=>none
def tz(n id:Nat)(a b:Ty)(lo hi:Option SV)(K:Out->Option R):Option R:=
 match hi with
 |some _=>none
 |none=>xZ lo n fun l=>K {v:=[.ptr id (.aJ (.iG n) a b) [l]]}
def qR(E:Env)(T:TypeId)(s:State)(id n:Nat)(t:Ty)(lo hi:Option SV)(K:Out->Option R):Option R:=
 match E.ty T,lo,hi with
 |some u,none,none=>if u.cp (.arr n t)=true then match s.box id with
  |some B=>if h:B.t.cp (.arr n t)=true then K {v:=[.ptr id (.aJ (.iG n) t .unit) []],bx:=some (id,⟨.aJ .row t .unit,(Ty.cast h B.x:List (El t)),[]⟩)} else none
  |none=>none else none
 |_,_,_=>none
def nH(s:ByteArray):List Int:=s.data.toList.map fun c=>(c.toNat:Int)
def bX{α:Type}(xs ys:List α)(lo:Nat):List α:=xs.take lo++(ys++xs.drop (lo+ys.length))
def ib(t:Ty)(s:State)(id n lo:Nat)(a b:Ty)(x:SV)(e:TypeId)(K:Out->Option R):Option R:=
 if a.cp t=true then x.el (.sl e t) fun(ys:List (El t))=>match s.box id with
  |some B=>if h:B.t.cp (.aJ .row t b)=true then
    bif Nat.beq n (List.length (Ty.cast h B.x:List (El t))) then bif Nat.ble lo n then
     K {v:=i64 ((ys.take (n-lo)).length:Int),bx:=some (id,⟨.aJ .row t b,(bX (Ty.cast h B.x:List (El t)) (ys.take (n-lo)) lo:List (El t)),[]⟩)}
    else none else none
   else none
  |none=>none else none
def jW(t:Ty)(s:State)(id n:Nat)(a b:Ty)(y:ByteArray)(K:Out->Option R):Option R:=
 if t.cp (.int .u8)=true then if a.cp (.int .u8)=true then match s.box id with
  |some B=>if h:B.t.cp (.aJ .row (.int .u8) b)=true then
    bif Nat.beq n (List.length (Ty.cast h B.x:List Int)) then
     K {v:=i64 ((List.take n (nH y)).length:Int),bx:=some (id,⟨.aJ .row (.int .u8) b,(bX (Ty.cast h B.x:List Int) (List.take n (nH y)) 0:List Int),[]⟩)}
    else none
   else none
  |none=>none else none else none
def copyV(E:Env)(T:TypeId)(s:State)(d x:SV)(K:Out->Option R):Option R:=
 match E.ty T,d with
 |some (.sl e t),.ptr id (.aJ (.iG n) a b) []=>(match x with
  | .aj .str y _=>jW t s id n a b y K
  |x=>ib t s id n 0 a b x e K)
 |some (.sl e t),.ptr id (.aJ (.iG n) a b) [l]=>ib t s id n l a b x e K
 |_,_=>none
def J6(t b:Ty):Bool:=
 b.cp t||(match t with
  | .aJ (.rM _) u _=>b.cp u
  |_=>false)
def ji(s:State):List SV->Option (List SV×Option (Nat×bB))
 | []=>some ([],none)
 |v::r=>match ji s r with
  |none=>none
  |some (l,b)=>match v,b with
   | .aj t x _,b=>some (.aj t x []::l,b)
   | .cF,b=>some (.cF::l,b)
   | .view t x,b=>some (.view t x::l,b)
   | .ptr id t [],none=>match s.box id with
     |some B=>if J6 t B.t=true then some (.ptr 0 t []::l,some (id,B)) else none
     |none=>none
   |_,_=>none
def SV.gh(id:Nat):SV->SV
 | .ptr _ t p=> .ptr id t p
 |v=>v
def Fe(s:State):List Operand->Option (Nat×Nat×Ty×Ty×Nat×List Operand)
 | .tmp t::r=>match s.slot t with
   | [.bz id a b j]=>some (t,id,a,b,j,r)
   |_=>none
 |_=>none
def jT(C:FuncId->bU R)(s:State)(f:FuncId)(t id:Nat)(a b:Ty)(j:Nat)(vs:List SV)(K:Out->Option R):Option R:=
 if b.bF=true then none else match ji s vs with
 |some (l,none)=>nI s id a b fun x own=>match getM j x.2.1 with
  |some y=>C f (.ptr 0 b []::l) (some ⟨b,y,Bd⟩) fun r B'=>match B' with
   |some B'=>if h:B'.t.cp b=true then bif gA B'.own [2] then K {v:=r,bx:=some (id,⟨.aJ .bN a b,(x.1,fG j (some (Ty.cast h B'.x)) x.2.1,x.2.2),[]::own⟩),cl:=[(t,0)]} else none else none
   |none=>none
  |none=>none
 |_=>none
def fP(C:FuncId->bU R)(s:State)(dst:Option Nat)(f:FuncId)(vs:List SV)(K:Out->Option R):Option R:=
 match ji s vs with
 |some (l,none)=>C f l none fun r B=>match B with
  |none=>K {v:=r}
  |some B=>match dst with
   |some d=>match s.bs[d+1]? with
    |some none=>K {v:=r.map (SV.gh (d+1)),bx:=some (d+1,B)}
    |_=>none
   |none=>none
 |some (l,some (id,B))=>if(B.t.eF&& !gA B.own [])=true then none else C f l (some B) fun r B'=>match B' with
  |some B'=>if B'.t.cp B.t=true then K {v:=r,bx:=some (id,B')} else none
  |none=>none
 |none=>none
def kc(g:Bool)(x y:SV)(K:Out->Option R):Option R:=
 match x,y with
 | .aj (.int k) m _,.aj (.int _) n _=>K {v:=[.aj (.int k) (bif g then(if m<n then n else m) else(if n<m then n else m)) []]}
 |_,_=>none
def oj(E:Env)(T:TypeId)(K:Out->Option R):Option R:=
 match E.ty T with
 |some (.sl e t)=>K {v:=[.aj (.sl e t) ([]:List (El t)) [[]]]}
 |_=>K {v:=[.cF]}
def nq(s:State):Operand->Option (Nat×List SV)
 | .tmp t=>bif Nat.beq (s.slot t).length 1 then none else some (t,s.slot t)
 |_=>none
def ki(t:Nat):Nat->List (Nat×Nat)
 |0=>[]
 |n+1=>(t,n)::ki t n
def fA(E:Env)(d:Option Nat):Bool:=
 match d with
 |some d=>E.sh.any (Nat.beq d)
 |none=>false
def takes(E:Env)(d:Option Nat):Bool:=
 match d with
 |some d=>E.mv.any (Nat.beq d)
 |none=>false
def Out.shut(u:Out):Out:={u with v:=u.v.map SV.shut}
def tv(f:FuncId)(x y:SV)(K:Out->Option R):Option R:=
 match x,y with
 | .view t a,.view u b=>K {v:=[.cap f t a u b]}
 |_,_=>none
def act(E:Env)(C:FuncId->bU R)(ops:List Oper)(o:Oper)(s:State)(K:Out->Option R):Option R:=
 match o.op with
 | .move x=>match nq s x with
   |some (t,l)=>bif fA E o.dst then K {v:=l.map SV.shut} else K {v:=l,cl:=bif l.all fun v=>v.own.isEmpty then [] else ki t l.length}
   |none=>match s.aG x with
    | .aj t y w=>bif XP ops o.dst||takes E o.dst then K {v:=[.aj t y w],cl:=xV w x} else K {v:=[.aj t y []]}
    | .undef=>none
    | .bz _ _ _ _=>none
    | .cF=>oj E o.type K
    |v=>K {v:=[v]}
 | .assign x=>match s.aG x with
   | .aj t y w=>K {v:=[.aj t y w],cl:=xV w x}
   | .undef=>none
   | .bz _ _ _ _=>none
   | .cF=>oj E o.type K
   |v=>K {v:=[v]}
 | .pick c a b=>match s.aG c with
   | .aj .bool p _=>bif p then K {v:=[(s.aG a).shut]} else K {v:=[(s.aG b).shut]}
   |_=>none
 | .binOp op T x y _=>bin E op T (s.aG x) (s.aG y) fun v=>K {v}
 | .unOp op _ x=>Kv op (s.aG x) K
 | .convert S T x=>match s.aG x with
   | .ptr id (.aJ (.iG n) a b) []=>jV E S T s id n a b K
   |v=>kX E S T v K
 | .load T a=>load E T s (XP ops o.dst||Ay E ops o.dst||Ox ops o.dst) (s.aG a) K
 | .store T a x=>store E T s (s.aG a) x K
 | .nilCheck x=>match s.aG x with
   | .ptr id t p=>if(t.bF&& !t.eF)=true then none else K {v:=[.ptr id t p]}
   | .view t y=>K {v:=[.view t y]}
   |_=>none
 | .fieldAddr T x j=>match E.gr T with
   |some (ta,tb)=>GG (s.aG x) j ta tb K
   |none=>QG (E.ty T) (s.aG x) j K
 | .indexAddr T x i=>QI E T (s.aG x) (s.aG i) K
 | .index T x i=>QJ E T (s.aG x) (s.aG i) K
 | .field T x j=>match E.ty T with
   |some t=>if t.df=false then none else(s.aG x).el t fun y=>match El.get t [j] y with
    |some ⟨u,z⟩=>K {v:=[.aj u z []]}
    |none=>none
   |none=>none
 | .slice T x lo hi none=>match s.aG x with
   | .ptr id (.aJ (.iG n) a b) []=>(match E.ty T with
     |some (.sl _ t)=>if a.cp t=true then tz n id a b (lo.map s.aG) (hi.map s.aG) K else none
     |_=>none)
   | .ptr id (.arr n t) []=>qR E T s id n t (lo.map s.aG) (hi.map s.aG) K
   |v=>qS E T v (lo.map s.aG) (hi.map s.aG) K
 | .makeFunc (.func f) first captured=>match first.toList,captured.toList with
   | [],[x]=>mR f (s.aG x) K
   | [],[x,y]=>tv f (s.aG x) (s.aG y) K
   |_,_=>none
 | .alloc T=>match E.ty T,o.dst with
   |some t,some d=>match s.bs[d+1]? with
    |some none=>K {v:=[.ptr (d+1) t []],bx:=some (d+1,⟨t,El.bT t,xR t⟩)}
    |_=>none
   |none,some d=>(match E.gr T with
    |some (ta,tb)=>match s.bs[d+1]? with
     |some none=>K {v:=[.ptr (d+1) (.aJ .bN ta tb) []],bx:=some (d+1,⟨.aJ .bN ta tb,(El.bT ta,(none,none),(0:Int)),[]::z21⟩)}
     |_=>none
    |none=>match E.bl T with
    |some e=>match s.bs[d+1]? with
     |some none=>K {v:=[.ptr (d+1) (.aJ (.gn T e) .unit .unit) []],bx:=some (d+1,⟨.aJ (.gn T e) .unit .unit,(⟨#[]⟩:ByteArray),[[]]⟩)}
     |_=>none
    |none=>none)
   |_,_=>none
 | .box T x=>match E.ty T,o.dst with
   |some t,some d=>match s.bs[d+1]? with
    |some none=>(s.aG x).el t fun y=>K {v:=[.ptr (d+1) t []],bx:=some (d+1,⟨t,y,(s.aG x).own⟩),cl:=src x}
    |_=>none
   |_,_=>none
 | .build T parts=>match E.ty T with
   |some t=>if t.agg=false then none else rF t (El.bT t) (xR t) (my s parts.toList).1 fun y own=>K {v:=[.aj t y own],cl:=(my s parts.toList).2}
   |none=>none
 | .buildSlice T n parts=>match E.ty T with
   |some (.sl e t)=>if Nat.beq t.cells 0=true then none else bif Nat.ble (n*t.cells) 16777216 then Bb t (List.replicate n (El.bT t)) (parts.toList.map fun p=>(p.1,s.aG p.2)) fun y=>K {v:=[.aj (.sl e t) y [[]]]} else none
   |_=>none
 | .extract x j=>match x with
   | .tmp t=>if Nat.beq (s.slot t).length 1=true then(match one (s.slot t),j with
      | .over,0=>K {v:=bl false}
      |_,_=>none) else match(s.slot t)[j]? with
     |some (.aj u y w)=>K {v:=[.aj u y w],cl:=bif w.isEmpty then [] else [(t,j)]}
     |some .undef=>none
     |some (.bz _ _ _ _)=>none
     |some v=>K {v:=[v]}
     |none=>none
   |_=>none
 | .makeMap T none=>match nh E T with
   |some (kt,vt)=>kd s o.dst (.aJ .mp kt vt) ([]:List (El kt×El vt)) (.aJ .mp kt vt) K
   |none=>none
 | .lookup T x i false=>lk E T s (s.aG x) (s.aG i) K
 | .mapUpdate T m k x=>mc E T s (s.aG m) (s.aG k) (s.aG x) K
 | .insert T m k x=>mc E T s (s.aG m) (s.aG k) (s.aG x) K
 | .range T x=>match E.ty T with
   |some .str=>(s.aG x).el .str fun y=>kd s o.dst j6 ((y,0):ByteArray×Nat) j6 K
   |_=>none
 | .next x true=>lm s (s.aG x) K
 | .makeSlice T l c=>ll E T s o.dst l (s.aG l) (s.aG c) K
 | .call ⟨.value (.func f),args,_⟩=>match Fe s args.toList with
   |some (t,id,a,b,j,r)=>jT C s f t id a b j (r.map s.aG) K
   |none=>fP C s o.dst f (args.toList.map s.aG) fun u=>K (bif fA E o.dst then u.shut else u)
 | .call ⟨.value (.tmp y),args,_⟩=>match s.aG (.tmp y) with
   | .ptr id (.aJ (.rM f) u _) []=>if u.qg=true then none else fP C s o.dst f (args.toList.map s.aG++ [.ptr id u []]) K
   | .cap f t x u y=>fP C s o.dst f (args.toList.map s.aG++ [.view t x,.view u y]) K
   |_=>none
 | .call ⟨.builtin .copy,args,argTypes⟩=>match args.toList,argTypes.toList with
   | [d,x],T::_=>copyV E T s (s.aG d) (s.aG x) K
   |_,_=>none
 | .call ⟨.builtin .len,args,argTypes⟩=>match args.toList,argTypes.toList with
   | [x],[T]=>uo E T (s.aG x) K
   |_,_=>none
 | .call ⟨.builtin .append,args,argTypes⟩=>match args.toList,argTypes.toList with
   | [b,x],[T,U]=>P3 E T U b (s.aG b) (s.aG x) K
   |_,_=>none
 | .call ⟨.builtin .max,args,_⟩=>match args.toList with
   | [x,y]=>kc true (s.aG x) (s.aG y) K
   |_=>none
 | .call ⟨.builtin .min,args,_⟩=>match args.toList with
   | [x,y]=>kc false (s.aG x) (s.aG y) K
   |_=>none
 |_=>none
def P8(ops:List Oper)(g:Nat):Option Nat:=(ops[g]?).bind (·.dst)
def step(E:Env)(C:FuncId->bU R)(ops:List Oper)(o:Oper)(s:State)(K:State->Option R):Option R:=
 let go (s:State):Option R:=act E C ops o s fun u=>K (s.apply o.dst u)
 let pass (s:State):Option R:=K (s.au o.dst [.skip])
 match o.guard with
 |none=>go s
 |some (g,want)=>match P8 ops g with
  |none=>none
  |some d=>match s.slot d with
   | [.aj .bool p []]=>bif p then(let s:=s.au (some d) (bl true);bif want then go s else pass s) else(let s:=s.au (some d) (bl false);bif want then pass s else go s)
   | [.skip]=>pass s
   |_=>none
def steps(E:Env)(C:FuncId->bU R)(ops:List Oper):List Oper->State->(State->Option R)->Option R
 | [],s,K=>K s
 |o::r,s,K=>step E C ops o s fun s=>steps E C ops r s K
structure dQ where
 i:Nat
 r:Nat
 w:Nat
 br:Nat
 bw:Nat
def bit(i:Nat):Nat:=1<<<i
def ja:List Nat->Nat
 | []=>0
 |i::r=>bit i|||ja r
def rH:List Operand->List Nat
 | []=>[]
 | .tmp t::r=>t::rH r
 |_::r=>rH r
def looks(ops:List Oper)(o:Oper):List Nat:=rH o.op.operands.toList++(match o.guard with
 |some (g,_)=>(P8 ops g).toList
 |none=>[])
def cn:SV->List Nat
 | .ptr id _ _=>[id]
 | .bz id _ _ _=>[id]
 |_=>[]
def zv(s:State)(o:Oper):List Nat:=
 match o.op with
 | .load _ a=>cn (s.aG a)
 | .store _ a _=>cn (s.aG a)
 | .alloc _| .box _ _| .makeMap _ _| .range _ _| .makeSlice _ _ _=>o.dst.toList.map fun d=>d+1
 | .convert _ _ x=>cn (s.aG x)
 | .slice _ x _ _ _=>cn (s.aG x)
 | .lookup _ x _ _=>cn (s.aG x)
 | .mapUpdate _ m _ _=>cn (s.aG m)
 | .insert _ m _ _=>cn (s.aG m)
 | .next x _=>cn (s.aG x)
 | .call ⟨.value y,args,_⟩=>(args.toList.flatMap fun x=>cn (s.aG x))++(cn (s.aG y)++o.dst.toList.map fun d=>d+1)
 | .call ⟨.builtin .copy,args,_⟩=>args.toList.flatMap fun x=>cn (s.aG x)
 |_=>[]
def gl(ops:List Oper)(o:Oper)(i:Nat)(s:State)(u:Out):dQ:=
 ⟨i,ja (looks ops o),ja (o.dst.toList++u.cl.map (·.1)),ja (zv s o),ja (u.bx.toList.map (·.1))⟩
def dQ.apart(a b:dQ):Bool:=
 Nat.beq (a.w&&&(b.r|||b.w)) 0&&(Nat.beq (b.w&&&a.r) 0&&(Nat.beq (a.bw&&&(b.br|||b.bw)) 0&&Nat.beq (b.bw&&&a.br) 0))
def zx:List Edge->Nat
 | []=>0
 |e::r=>bif Region.binds .any e then bit e.on|||zx r else zx r
def je(ops:List Oper):Nat->Nat->Nat
 |0,m=>m
 |i+1,m=>je ops i (match ops[i]? with
  |some o=>bif m.testBit i then m|||zx o.after.toList else m
  |none=>m)
def fits(ops:List Oper)(m:Nat)(f:dQ)(tr:List dQ):Bool:=Nat.ble (m+1) (bit f.i)&&tr.all fun a=>m.testBit a.i||(a.apart f||(je ops f.i m).testBit a.i)
def lv(E:Env)(C:FuncId->bU R)(ops:List Oper)(o:Oper)(i:Nat)(s:State)(tr:List dQ)(K:State->List dQ->Option R):Option R:=
 let go (s:State):Option R:=act E C ops o s fun u=>bif fits ops (zx o.after.toList) (gl ops o i s u) tr then K (s.apply o.dst u) (gl ops o i s u::tr) else none
 let pass (s:State):Option R:=bif fits ops (zx o.after.toList) (gl ops o i s {v:=[.skip]}) tr then K (s.apply o.dst {v:=[.skip]}) (gl ops o i s {v:=[.skip]}::tr) else none
 match o.guard with
 |none=>go s
 |some (g,want)=>match P8 ops g with
  |none=>none
  |some d=>match s.slot d with
   | [.aj .bool p []]=>bif p then(let s:=s.au (some d) (bl true);bif want then go s else pass s) else(let s:=s.au (some d) (bl false);bif want then pass s else go s)
   | [.skip]=>pass s
   |_=>none
def yb(E:Env)(C:FuncId->bU R)(ops:List Oper):List Oper->Nat->State->List dQ->(State->Option R)->Option R
 | [],_,s,_,K=>K s
 |o::r,i,s,tr,K=>lv E C ops o i s tr fun s tr=>yb E C ops r (i+1) s tr K
inductive Ex where
 |normal
 |exit (id:Nat)
 |ret
def uN:Code->Nat
 | .region id _ _=>id
 | .seq a _=>uN a
 | .cond _ a _=>uN a
 | .block _ b=>uN b
 | .loop b=>uN b
 |_=>0
def fY{α:Type}(z:α)(l:List Nat):Nat->List α->List α
 |_,[]=>[]
 |i,x::r=>(bif l.any (Nat.beq i) then x else z)::fY z l (i+1) r
def SV.roots(l:List Nat):SV->Bool
 | .ptr 0 _ _=>true
 | .ptr (id+1) _ _=>l.any (Nat.beq id)
 | .bz 0 _ _ _=>true
 | .bz (id+1) _ _ _=>l.any (Nat.beq id)
 |_=>true
def Zv:List Nat->List Nat->Bool
 | [],[]=>false
 | [],_::_=>true
 |_::_,[]=>false
 |a::p,b::q=>Nat.ble (a+1) b||(Nat.beq a b&&Zv p q)
def ui(p:List Nat):List (List Nat)->List (List Nat)
 | []=>[p]
 |q::r=>bif Zv q p then q::ui p r else p::q::r
def nm:List (List Nat)->List (List Nat)
 | []=>[]
 |p::r=>ui p (nm r)
def SV.norm:SV->SV
 | .aj t x own=> .aj t x (nm own)
 |v=>v
def bB.norm(B:bB):bB:={B with own:=nm B.own}
def State.norm(s:State):State:=⟨s.sl.map fun v=>v.map SV.norm,s.bs.map fun b=>b.map bB.norm⟩
def rG(l:List Nat)(s:State)(K:State->Option R):Option R:=
 let sl:=fY [.undef] l 0 s.sl
 bif sl.all (fun v=>v.all (SV.roots l)) then K (State.norm ⟨sl,s.bs.headD none::fY none l 0 s.bs.tail⟩) else none
def cH(k:Nat)(f:Unit->Option R):Option R:=
 match k with
 |0=>none
 |_+1=>f ()
def ni(E:Env)(k r:Nat)(s:State)(K:State->Option R):Option R:=
 match E.join r with
 |none=>K s
 |some l=>rG l s fun s=>cH k fun _=>K s
def lR(id:Nat)(l:List SV):List SV:=l.map fun v=>match v with
 | .ptr j _ _=>bif Nat.beq j id then .undef else v
 |v=>v
def rj(E:Env)(r:Nat)(s:State)(K:State->Option R):Option R:=
 match E.fz r with
 |none=>K s
 |some (d,T)=>match s.slot d,E.ty T with
  | [.ptr id (.aJ (.iG n) a b) []],some (.sl e t)=>if a.cp t=true then match s.box id with
    |some B=>if h:B.t.cp (.aJ .row t b)=true then
      bif Nat.beq n (List.length (Ty.cast h B.x:List (El t))) then K {sl:=(s.sl.map (lR id)).set d [.aj (.sl e t) (Ty.cast h B.x:List (El t)) []],bs:=s.bs.set id none} else none
     else none
    |none=>none else none
  |_,_=>none
def rJ(id:Nat)(B:bB)(v:SV):SV:=
 match v with
 | .ptr j t p=>bif Nat.beq j id then(if t.cp B.t=true then match El.get B.t p B.x with
    |some ⟨u,y⟩=> .view u y
    |none=> .undef else .undef) else .ptr j t p
 |v=>v
def Vs(id:Nat)(s:State)(K:State->Option R):Option R:=
 match s.box id with
 |some B=>if B.t.bF=true then none else K {sl:=s.sl.map fun l=>l.map (rJ id B),bs:=s.bs.set id none}
 |none=>none
def Gm:List Nat->State->(State->Option R)->Option R
 | [],s,K=>K s
 |id::r,s,K=>Vs id s fun s=>Gm r s K
def iS(l:List Nat):Nat->List (Option bB)->List (Option bB)
 |_,[]=>[]
 |i,b::r=>(bif l.any (Nat.beq i) then b.map (fun B=>{B with own:=[]}) else b)::iS l (i+1) r
def State.drop(l:List Nat)(s:State):State:={s with bs:=iS l 0 s.bs}
def aB(body:State->(Ex->State->Option R)->Option R)(l lx:List Nat):Nat->State->(Ex->State->Option R)->Option R
 |0,_,_=>none
 |k+1,s,K=>body s fun e s=>match e with
  | .normal=>rG l s fun s=>aB body l lx k s K
  |e=>rG lx s fun s=>K e s
def Ty.flat:Ty->Bool
 | .sl _ _=>false
 | .aJ _ _ _=>false
 | .arr _ t=>t.flat
 | .pair a b=>a.flat&&b.flat
 |_=>true
def SV.flat:SV->Bool
 | .aj t _ own=>t.flat&&own.isEmpty
 | .ptr _ _ _| .view _ _| .cap _ _ _ _ _| .bz _ _ _ _=>false
 |_=>true
def kY(o:Nat):Nat->List (List SV)->Bool
 |_,[]=>true
 |i,l::r=>(Nat.beq i o||l.all SV.flat)&&kY o (i+1) r
def j8:Nat->Nat->List (List SV)->List (List SV)
 |0,_,sl=>sl
 |n+1,m,sl=>j8 n (m+1) (sl.set m [.undef])
def isDst(o:Oper)(d:Nat):Bool:=
 match o.dst,o.guard with
 |some d',none=>Nat.beq d' d
 |_,_=>false
def fy(x:Operand)(i:Nat):Bool:=
 match x with
 | .tmp j=>Nat.beq j i
 |_=>false
def xm(E:Env)(T:TypeId):Bool:=
 match E.ty T with
 |some (.int .u8)=>true
 |_=>false
def Vt(E:Env)(T:TypeId):Bool:=
 match E.ty T with
 |some (.sl _ (.int .u8))=>true
 |_=>false
def Fb(o:Oper)(d x:Nat):Bool:=isDst o d&&(match o.op with
 | .move y=>fy y x
 |_=>false)
def isLen(E:Env)(o:Oper)(d x:Nat):Bool:=isDst o d&&(match o.op with
 | .call ⟨.builtin .len,dH,ts⟩=>match dH.toList,ts.toList with
   | [y],[T]=>fy y x&&Vt E T
   |_,_=>false
 |_=>false)
def XQ(o:Oper)(d x:Nat):Bool:=isDst o d&&(match o.op with
 | .binOp .sub _ y (.const (.int .i64 c)) _=>fy y x&&decide (c=1)
 |_=>false)
def xl(E:Env)(o:Oper)(d x i:Nat):Bool:=isDst o d&&(match o.op with
 | .indexAddr T y j=>fy y x&&(fy j i&&Vt E T)
 |_=>false)
def D6(E:Env)(o:Oper)(d x:Nat):Bool:=isDst o d&&(match o.op with
 | .load T y=>fy y x&&xm E T
 |_=>false)
def um(o:Oper)(d x y:Nat):Bool:=isDst o d&&(match o.op with
 | .binOp .add _ u v _=>fy u x&&fy v y
 |_=>false)
def uk(E:Env)(o:Oper)(x y:Nat):Bool:=(match o.dst,o.guard with
 |none,none=>true
 |_,_=>false)&&(match o.op with
 | .store T u v=>fy u x&&(fy v y&&xm E T)
 |_=>false)
def D9(E:Env)(o x m:Nat)(ops:List Oper):Bool:=
 match ops with
 | [a0,a1,a2,a3,a4,a5,a6,a7,a8,a9,tn,Bs,a12,I3]=>Fb a0 m o&&(Fb a1 (m+1) o&&(isLen E a2 (m+2) (m+1)&&(XQ a3 (m+3) (m+2)&&(Fb a4 (m+4) o&&(Fb a5 (m+5) o&&(isLen E a6 (m+6) (m+5)&&(XQ a7 (m+7) (m+6)&&(xl E a8 (m+8) (m+4) (m+7)&&(D6 E a9 (m+9) (m+8)&&(Fb tn (m+10) x&&(um Bs (m+11) (m+9) (m+10)&&(xl E a12 (m+12) m (m+3)&&uk E I3 (m+12) (m+11)))))))))))))
 |_=>false
def AK(e:TypeId)(xs:List Int)(y:Int)(own:List (List Nat)):List SV:=[.aj (.sl e (.int .u8)) (xs.set (IntKind.i64.wrap ((xs.length:Int)-1)).toNat (IntKind.u8.wrap (xs.getD (IntKind.i64.wrap ((xs.length:Int)-1)).toNat 0+y)):List Int) own]
def ly(E:Env)(q:Nat×Nat×Nat)(ops:List Oper)(s:State)(K:State->Option R):Option R:=
 bif D9 E q.1 q.2.1 q.2.2 ops then
  bif Nat.ble (q.1+1) q.2.2&&(Nat.ble (q.2.1+1) q.2.2&&(!(Nat.beq q.1 q.2.1)&&Nat.ble (q.2.2+13) s.sl.length)) then
   match s.slot q.1,s.slot q.2.1 with
   | [.aj (.sl e (.int .u8)) xs own],[.aj (.int .u8) y _]=>
     bif gA own [] then
      bif kY q.1 0 (j8 13 q.2.2 s.sl)&&s.bs.all Option.isNone then
       zd (IntKind.i64.wrap ((List.length (xs:List Int):Int)-1)) (List.length (xs:List Int)) (K ⟨(j8 13 q.2.2 s.sl).set q.1 (AK e xs y own),s.bs⟩)
      else none
     else none
   |_,_=>none
  else none
 else none
def wU(own:List (List Nat)):List (List Nat):=own.filterMap fun p=>match p with
 |(j+1)::p=>some (j::p)
 |_=>none
def Ty.cI:Ty->List (List Nat)->Bool
 | .sl _ t,own=>t.flat&&gA own []
 | .pair a b,own=>a.cI (QM own [0])&&b.cI (wU own)
 | .aJ _ _ _,_=>false
 | .arr _ t,_=>t.flat
 |_,_=>true
def bB.cI(B:bB):Bool:= !B.t.bF&&B.t.cI B.own
def SV.cI(bs:List (Option bB)):SV->Bool
 | .aj t _ own=>t.cI own
 | .view _ _| .cap _ _ _ _ _| .bz _ _ _ _=>false
 | .ptr id _ _=>match bs.getD id none with
   |some B=>B.cI
   |none=>false
 |_=>true
def hold(bs:List (Option bB))(l:List SV):List SV:=bif l.all (SV.cI bs) then l else [.undef]
def XU:Option bB->Option bB
 |some B=>bif B.cI then some B else none
 |none=>none
def State.cI(x:Nat)(s:State):State:=⟨(s.sl.set x [.undef]).map (hold s.bs),s.bs.map XU⟩
def uv(E:Env)(x d:Nat)(T T':TypeId)(i vo:Operand)(s:State)(K:State->Option R):Option R:=
 match s.slot x with
 | [.aj (.sl e t) xs own]=>bif gA own [] then
     match E.ty T,E.ty T' with
     |some u,some w=>bif u.cp (.sl e t)&&(w.cp t&&Nat.ble (d+1) s.sl.length) then
       (s.aG i).num fun n=>((s.au (some d) [.undef]).aG vo).el t fun _=>zd n (List.length (xs:List (El t))) (K ((s.au (some d) [.undef]).cI x))
      else none
     |_,_=>none
   else none
 |_=>none
def ln(o:Oper):Bool:=
 match o.dst,o.guard with
 |none,none=>true
 |_,_=>false
def jd(E:Env)(oA oS:Oper)(s:State)(K:State->Option R):Option R:=
 match oA.op,oS.op with
 | .indexAddr T (.tmp x) i,.store T' (.tmp d) vo=>bif isDst oA d&&(!(Nat.beq x d)&&ln oS) then uv E x d T T' i vo s K else none
 |_,_=>none
def Vv{α:Type}:List α->Option (List α×α×α)
 | []=>none
 | [_]=>none
 | [a,b]=>some ([],a,b)
 |a::r=>match Vv r with
  |some (l,x,y)=>some (a::l,x,y)
  |none=>none
def lq(E:Env)(C:FuncId->bU R)(ops:List Oper)(s:State)(K:State->Option R):Option R:=
 match Vv ops with
 |some (l,oA,oS)=>steps E C ops l s fun s=>jd E oA oS s K
 |none=>none
def Sd{α:Type}:List α->Option (List α×α×α×α)
 | []=>none
 | [_]=>none
 | [_,_]=>none
 | [a,b,c]=>some ([],a,b,c)
 |a::r=>match Sd r with
  |some (l,x,y,z)=>some (a::l,x,y,z)
  |none=>none
def Zz(s:State)(d1 d2 d3:Nat)(ta tb:Ty)(y:El ta):State:=
 (((s.au (some d1) [.undef]).aC (some (d2+1,⟨.aJ .bN ta tb,(y,(none,none),(0:Int)),[]::z21⟩))).au (some d2) [.undef]).au (some d3) [.ptr (d2+1) (.aJ .bN ta tb) []]
def q7(E:Env)(oB oX oA:Oper)(s:State)(K:State->Option R):Option R:=
 match oB.op,oX.op,oA.op with
 | .build T parts,.box T' (.tmp e1),.assign (.tmp e2)=>match oB.dst,oX.dst,oA.dst with
   |some d1,some d2,some d3=>bif Nat.beq T T'&&(Nat.beq d1 e1&&(Nat.beq d2 e2&&(isDst oB d1&&(isDst oX d2&&(isDst oA d3&&(Nat.ble (d1+1) s.sl.length&&Nat.ble (d2+1) s.sl.length)))))) then
     match parts.toList,E.gr T with
     | [(0,x)],some (ta,tb)=>(s.aG x).el ta fun y=>match s.bs[d2+1]? with
       |some none=>K (Zz s d1 d2 d3 ta tb y)
       |_=>none
     |_,_=>none
    else none
   |_,_,_=>none
 |_,_,_=>none
def FH(E:Env)(C:FuncId->bU R)(ops:List Oper)(s:State)(K:State->Option R):Option R:=
 match Sd ops with
 |some (l,oB,oX,oA)=>steps E C ops l s fun s=>q7 E oB oX oA s K
 |none=>none
def nf(s:State)(id m j:Nat)(ta tb:Ty)(x:El (.aJ .bN ta tb))(own:List (List Nat))(y:El tb):State:=
 ⟨s.sl.map (lR m),(s.bs.set m none).set id (some ⟨.aJ .bN ta tb,(x.1,fG j (some y) x.2.1,x.2.2),own⟩)⟩
def ka(E:Env)(oS:Oper)(s:State)(K:State->Option R):Option R:=
 match oS.op with
 | .store T (.tmp x) (.tmp y)=>bif ln oS then if E.pt T=true then match s.slot x with
    | [.ptr id (.aJ .bN ta tb) [1,j]]=>nI s id ta tb fun z own=>bif gA own [] then match s.slot y with
      | [.ptr m tb' []]=>match s.box m with
        |some B=>if h:B.t.cp tb=true then bif tb'.cp tb&&(!tb.bF&&(gA B.own [2]&& !(Nat.beq id m))) then K (nf s id m j ta tb z own (Ty.cast h B.x)) else none else none
        |none=>none
      | [.dN]=>K (s.aC (some (id,⟨.aJ .bN ta tb,(z.1,fG j none z.2.1,z.2.2),own⟩)))
      |_=>none
      else none
    |_=>none
    else none else none
 |_=>none
def Vu{α:Type}:List α->Option (List α×α)
 | []=>none
 | [a]=>some ([],a)
 |a::r=>match Vu r with
  |some (l,x)=>some (a::l,x)
  |none=>none
def qZ(E:Env)(C:FuncId->bU R)(k:Nat)(ops:List Oper)(s:State)(K:State->Option R):Option R:=
 match Vu ops with
 |some (l,oS)=>match ops[k]? with
  |some oD=>match oD.op,oD.dst with
   | .extract (.tmp t) j,some d=>bif isDst oD d&&(Nat.ble (k+1) l.length&&(Nat.ble (zx oS.after.toList+1) (bit l.length)&&Nat.beq (je ops l.length (zx oS.after.toList)|||bit k) (bit l.length-1))) then
      yb E C ops l 0 s [] fun s=>bif Nat.ble (j+1) (s.slot t).length&& !(Nat.beq (s.slot t).length 1) then ka E oS (s.au (some d) [.undef]) K else none
     else none
   |_,_=>none
  |none=>none
 |none=>none
def ET(E:Env)(C:FuncId->bU R)(i:Nat)(ops:Array Oper)(d:Bool)(s:State)(K:State->Option R):Option R:=
 rj E i s fun s=>Gm (E.fr i) s fun s=>bif d then yb E C ops.toList ops.toList 0 s [] K else steps E C ops.toList ops.toList s K
def ev(E:Env)(C:FuncId->bU R)(k:Nat):Code->State->(Ex->State->Option R)->Option R
 | .skip,s,K=>K .normal s
 | .region i ops d,s,K=>match E.sp with
   |some (j,q)=>bif Nat.beq i j then(match d with
    |true=>none
    |false=>bif Nat.beq q.2.2 0 then lq E C ops.toList s (K .normal) else ly E q ops.toList s (K .normal)) else ET E C i ops d s (K .normal)
   |none=>match E.sg with
    |none=>ET E C i ops d s (K .normal)
    |some (m,l,k)=>bif Nat.beq i m then(match d with
     |true=>none
     |false=>FH E C ops.toList s (K .normal)) else bif Nat.beq i l then(match d with
     |true=>qZ E C k ops.toList s (K .normal)
     |false=>none) else ET E C i ops d s (K .normal)
 | .seq a b,s,K=>ev E C k a s fun e s=>match e with
   | .normal=>ni E k (uN b) s fun s=>ev E C k b s K
   |e=>K e s
 | .cond c a b,s,K=>match s.aG c with
   | .aj .bool p _=>bif p then ev E C k a (s.au (uE c) (bl true)) K else ev E C k b (s.au (uE c) (bl false)) K
   |_=>none
 | .block id b,s,K=>ev E C k b s fun e s=>match e with
   | .exit j=>bif Nat.beq j id then K .normal s else K (.exit j) s
   |e=>K e s
 | .loop b,s,K=>rG (E.dm (uN b)) (s.drop (E.dr (uN b))) fun s=>aB (ev E C k b) (E.dm (uN b)) (E.lj (uN b)) k s K
 | .exit id,s,K=>K (.exit id) s
 | .ret,s,K=>K .ret s
 |_,_,_=>none
def gD(E:Env):State->List ResultVar->Option (List SV×State)
 |s,[]=>some ([],s)
 |s,.tmp t::r=>if(one (s.slot t)).bK=true then none else match gD E (s.close [(t,0)]) r with
  |some (l,s')=>some (one (s.slot t)::l,s')
  |none=>none
 |s,.cell p T::r=>match s.slot p,E.ty T with
  | [.ptr id u []],some t=>match s.box id with
    |some B=>if(t.cp B.t&& !u.bF)=true then match gD E (s.aC (some (id,{B with own:=[]}))) r with
      |some (l,s')=>some (.aj B.t B.x B.own::l,s')
      |none=>none
     else none
    |none=>none
  |_,_=>none
def Be:List SV->List Nat
 | []=>[]
 | .ptr id _ _::r=>id::Be r
 |_::r=>Be r
def GH(s:State)(bx:Option bB)(l:List SV)(K:List SV->Option bB->Option R):Option R:=
 match bx,Be l with
 |some _,[]=>match s.box 0 with
  |some B=>K l (some B)
  |none=>none
 |none,[]=>K l none
 |none,[id]=>match s.box id with
  |some B=>K (l.map (SV.gh 0)) (some B)
  |none=>none
 |_,_=>none
def gC(E:Env)(l:List SV):List SV:=bif E.ro then l.map SV.shut else l
def aM:List Ty->List SV->List SV
 | .sl e t::r,.cF::q=> .aj (.sl e t) ([]:List (El t)) []::aM r q
 |_::r,v::q=>v.shut::aM r q
 | [],q=>q
 |_,[]=>[]
def jr(E:Env)(C:FuncId->bU R)(k:Nat)(fn:Func)(code:Code)(vs:List SV)(bx:Option bB)(K:List SV->Option bB->Option R):Option R:=
 bif E.sp.isSome&&bx.isSome then none else
 let n:=fn.ntmps-vs.length
 let s:State:=⟨(aM E.ps vs).map (fun v=>[v])++List.replicate n [.undef],bx::List.replicate (vs.length+n) none⟩
 ev E C k code s fun e s=>match e with
  | .exit _=>none
  |_=>match gD E s fn.results.toList with
   |some (l,s')=>GH s' bx (gC E l) K
   |none=>none
end
end Go.Ref

namespace Go.Ref
open Go
theorem zt{R S:Type}{sv:SV}{t:Ty}{F:El t->Option R}{G:El t->Option S}{K:S->Option R}(h:∀y,F y=(G y).bind K):sv.el t F=(sv.el t G).bind K:=by
 cases sv with
 |aj t' x own=>
  simp only[SV.el]
  split
  ·exact h _
  ·rfl
 |cF=>cases t<;>simp only[SV.el]<;>first|rfl|exact h _
 |_=>rfl
theorem zl{R S:Type}{b:Bool}{x y:Option R}{x' y':Option S}{K:S->Option R}(h:x=x'.bind K)(k:y=y'.bind K):(bif b then x else y)=(bif b then x' else y').bind K:=by
 cases b
 ·exact k
 ·exact h
theorem zn{R S:Type}{c:Prop}[Decidable c]{x y:Option R}{x' y':Option S}{K:S->Option R}(h:x=x'.bind K)(k:y=y'.bind K):(if c then x else y)=(if c then x' else y').bind K:=by
 split
 ·exact h
 ·exact k
section
variable {R:Type}
theorem zq2{op:BinOp}{k k':IntKind}{m n:Int}{K:List SV->Option R}:qP op k m k' n K=(qP op k m k' n some).bind K:=by
 unfold qP
 cases op<;>simp only<;>repeat(first|rfl|refine zl ?_ ?_|refine zn ?_ ?_)
theorem zq4{op:BinOp}{m n:ByteArray}{K:List SV->Option R}:qQ op m n K=(qQ op m n some).bind K:=by
 unfold qQ
 cases op<;>simp only<;>repeat(first|rfl|refine zl ?_ ?_|refine zn ?_ ?_)
theorem zq1{E:Env}{op:BinOp}{T:TypeId}{x y:SV}{K:List SV->Option R}:qO E op T x y K=(qO E op T x y some).bind K:=by
 unfold qO
 split
 ·refine zn rfl (zt fun a=>zt fun b=> ?_)
  split
  ·cases op<;>rfl
  ·rfl
 ·rfl
theorem alX{E:Env}{op:BinOp}{T:TypeId}{x y:SV}{S:Type}{F:List SV->Option R}{G:List SV->Option S}{K:S->Option R}(h:∀l,F l=(G l).bind K):bin E op T x y F=(bin E op T x y G).bind K:=by
 unfold bin
 split
 ·rw[zq2,zq2 (K:=G),Option.bind_assoc];congr;funext l;exact h l
 ·rw[zq4,zq4 (K:=G),Option.bind_assoc];congr;funext l;exact h l
 ·refine zn rfl ?_;cases op<;>simp only<;>first|exact h _|rfl
 ·refine zn rfl ?_;cases op<;>simp only<;>first|exact h _|rfl
 ·rw[zq1,zq1 (K:=G),Option.bind_assoc];congr;funext l;exact h l
theorem AW{S:Type}{i:Int}{n:Nat}{x:Option R}{x':Option S}{K:S->Option R}(h:x=x'.bind K):zd i n x=(zd i n x').bind K:=by
 unfold zd
 exact zl (zl h rfl) rfl
theorem zdg{S:Type}{lo:Option SV}{m:Nat}{F:Nat->Option R}{G:Nat->Option S}{K:S->Option R}(h:∀l,F l=(G l).bind K):xZ lo m F=(xZ lo m G).bind K:=by
 unfold xZ
 cases lo with
 |none=>exact h _
 |some v=>exact zt fun y=>zl (zl (h _) rfl) rfl
theorem KT{S:Type}{lo hi:Option SV}{n:Nat}{F:Nat->Nat->Option R}{G:Nat->Nat->Option S}{K:S->Option R}(h:∀l h,F l h=(G l h).bind K):cutAt lo hi n F=(cutAt lo hi n G).bind K:=by
 unfold cutAt
 cases hi with
 |none=>exact zdg fun l=>h _ _
 |some w=>exact zt fun y=>zl (zl (zdg fun l=>h _ _) rfl) rfl
theorem zut{S:Type}{t:Ty}{F:El t->List (List Nat)->Option R}{G:El t->List (List Nat)->Option S}{K:S->Option R}(h:∀y o,F y o=(G y o).bind K):∀(l:List (Nat×SV×List (List Nat))) (x:El t) (own:List (List Nat)),rF t x own l F=(rF t x own l G).bind K
 | [],x,own=>by simpa [rF] using h x own
 |(i,v,ov)::r,x,own=>by
  simp only[rF]
  refine zn rfl ?_
  split
  ·refine zt fun y=> ?_
   split
   ·exact zut h r _ _
   ·rfl
  ·rfl
theorem zuu{S:Type}{t:Ty}{F:List (El t)->Option R}{G:List (El t)->Option S}{K:S->Option R}(h:∀y,F y=(G y).bind K):∀(l:List (Nat×SV)) (x:List (El t)),Bb t x l F=(Bb t x l G).bind K
 | [],x=>by simpa [Bb] using h x
 |(i,v)::r,x=>by
  simp only[Bb]
  exact zn rfl (zt fun y=>zuu h r _)
variable {S:Type} {F:Out->Option R} {G:Out->Option S} {K:S->Option R}
theorem Ef{s:State}{id:Nat}{a b:Ty}{F':El (.aJ .bN a b)->List (List Nat)->Option R}{G':El (.aJ .bN a b)->List (List Nat)->Option S}{K:S->Option R}(h:∀x o,F' x o=(G' x o).bind K):nI s id a b F'=(nI s id a b G').bind K:=by
 unfold nI
 split
 ·split
  ·exact zl (h _ _) rfl
  ·rfl
 ·rfl
theorem acg{u:Ty}{s:State}{id:Nat}{t:Ty}{p:List Nat}(h:∀y,F y=(G y).bind K):ES u s id t p F=(ES u s id t p G).bind K:=by
 unfold ES
 split
 ·split
  ·split
   ·exact zn (zl (h _) rfl) rfl
   ·rfl
  ·rfl
 ·exact zn (Ef fun x o=>h _) rfl
 ·exact zn (Ef fun x o=>h _) rfl
 ·rfl
theorem abP{u:Ty}{s:State}{id:Nat}{t:Ty}{p:List Nat}{v:SV}(h:∀y,F y=(G y).bind K):Eu u s id t p v F=(Eu u s id t p v G).bind K:=by
 unfold Eu
 split
 ·split
  ·split
   ·exact zn (zt fun y=>zl (h _) rfl) rfl
   ·rfl
  ·rfl
 ·split
  ·refine zn (Ef fun x o=>zt fun y=> ?_) rfl
   split
   ·exact zl (h _) rfl
   ·rfl
  ·rfl
 ·exact zn (Ef fun x o=>zt fun y=>zl (h _) rfl) rfl
 ·rfl
theorem ab6{u:Ty}{id:Nat}{t:Ty}{p:List Nat}{j:Nat}{F:Out->Option R}{G:Out->Option S}{K:S->Option R}(h:∀y,F y=(G y).bind K):Gl u id t p j F=(Gl u id t p j G).bind K:=by
 unfold Gl
 split
 ·split
  ·refine zn ?_ rfl
   split
   ·exact zn rfl (h _)
   ·rfl
  ·rfl
 ·rfl
theorem acb{m:Nat}{t:Ty}{n:Int}{id:Nat}{r:Ty}{p:List Nat}{F:Out->Option R}{G:Out->Option S}{K:S->Option R}(h:∀y,F y=(G y).bind K):Gp m t n id r p F=(Gp m t n id r p G).bind K:=by
 unfold Gp
 split
 ·split
  ·exact zn (AW (h _)) rfl
  ·rfl
 ·rfl
theorem acY{v:SV}{j:Nat}{ta tb:Ty}{F:Out->Option R}{G:Out->Option S}{K:S->Option R}(h:∀y,F y=(G y).bind K):GG v j ta tb F=(GG v j ta tb G).bind K:=by
 unfold GG
 split
 ·exact zn (zl (h _) rfl) rfl
 ·rfl
theorem abJ{t:Ty}{n:Int}{id:Nat}{r:Ty}{p:List Nat}(h:∀y,F y=(G y).bind K):Pb t n id r p F=(Pb t n id r p G).bind K:=by
 unfold Pb
 split
 ·exact zn (AW (h _)) rfl
 ·rfl
theorem acf{u:Ty}{B:bB}{t:Ty}{p:List Nat}(h:∀y,F y=(G y).bind K):Gq u B t p F=(Gq u B t p G).bind K:=by
 unfold Gq
 split
 ·split
  ·exact zn (zl (h _) rfl) rfl
  ·rfl
 ·rfl
theorem aga{E:Env}{T:TypeId}{s:State}{v:SV}(h:∀y,F y=(G y).bind K):kb E T s v F=(kb E T s v G).bind K:=by
 unfold kb
 split
 ·exact zn (Ef fun x o=>zl (h _) rfl) rfl
 ·rfl
theorem ajM{E:Env}{T:TypeId}{s:State}{la:Bool}{v:SV}(h:∀y,F y=(G y).bind K):load E T s la v F=(load E T s la v G).bind K:=by
 unfold load
 split
 ·split
  ·exact zn (h _) rfl
  ·refine zn (acg h) ?_
   split
   ·refine zn ?_ (acf h)
    split
    ·exact zn (zl (h _) (h _)) rfl
    ·rfl
   ·rfl
  ·rfl
 ·exact aga h
theorem agL{E:Env}{T:TypeId}{s:State}{v:SV}{x:Operand}(h:∀y,F y=(G y).bind K):store E T s v x F=(store E T s v x G).bind K:=by
 unfold store
 split
 ·split
  ·refine zn (abP h) ?_
   split
   ·refine zn ?_ rfl
    split
    ·refine zn (zt fun y=> ?_) rfl
     split
     ·exact h _
     ·rfl
    ·rfl
   ·rfl
  ·rfl
 ·rfl
theorem acX{t:Option Ty}{v:SV}{j:Nat}(h:∀y,F y=(G y).bind K):QG t v j F=(QG t v j G).bind K:=by
 unfold QG
 split
 ·refine zn (ab6 h) ?_
  split
  ·refine zn ?_ rfl
   split
   ·exact zn rfl (h _)
   ·rfl
  ·rfl
 ·refine zn ?_ rfl
  split
  ·exact zn rfl (h _)
  ·rfl
 ·rfl
theorem CV{v:SV}{F':Int->Option R}{G':Int->Option S}{K:S->Option R}(h:∀n,F' n=(G' n).bind K):v.num F'=(v.num G').bind K:=by
 unfold SV.num
 split
 ·exact h _
 ·rfl
theorem ac4{E:Env}{T:TypeId}{v i:SV}(h:∀y,F y=(G y).bind K):QI E T v i F=(QI E T v i G).bind K:=by
 unfold QI
 refine CV fun n=> ?_
 split
 ·exact zt fun y=>AW (h _)
 ·refine zn (acb h) ?_
  split
  ·exact zn (AW (h _)) rfl
  ·rfl
 ·exact zt fun y=>AW (h _)
 ·exact abJ h
 ·exact zn (AW (h _)) rfl
 ·rfl
theorem ac5{E:Env}{T:TypeId}{v i:SV}(h:∀y,F y=(G y).bind K):QJ E T v i F=(QJ E T v i G).bind K:=by
 unfold QJ
 refine CV fun n=> ?_
 split
 ·exact zt fun y=>AW (h _)
 ·exact zt fun y=>AW (h _)
 ·rfl
theorem ajh{E:Env}{T:TypeId}{v:SV}{lo hi:Option SV}(h:∀y,F y=(G y).bind K):qS E T v lo hi F=(qS E T v lo hi G).bind K:=by
 unfold qS
 split
 ·exact zt fun y=>KT fun _ _=>h _
 ·exact zt fun y=>KT fun _ _=>h _
 ·rfl
theorem abW{E:Env}{T U:TypeId}{bo:Operand}{b x:SV}(h:∀y,F y=(G y).bind K):P3 E T U bo b x F=(P3 E T U bo b x G).bind K:=by
 unfold P3
 refine zn rfl ?_
 split
 ·refine zn rfl ?_
  split
  ·exact zt fun y=>zl (h _) rfl
  ·exact zn rfl (zt fun y=>zt fun z=>zl (h _) rfl)
  ·rfl
 ·rfl
theorem ajI{E:Env}{T:TypeId}{x:SV}(h:∀y,F y=(G y).bind K):uo E T x F=(uo E T x G).bind K:=by
 unfold uo
 split
 ·exact zt fun y=>h _
 ·split
  ·exact h _
  ·exact zt fun y=>h _
 ·exact h _
 ·rfl
theorem afH{E:Env}{S' T:TypeId}{x:SV}(h:∀y,F y=(G y).bind K):kX E S' T x F=(kX E S' T x G).bind K:=by
 unfold kX
 split
 ·exact zt fun y=>h _
 ·exact zt fun y=>h _
 ·exact zt fun y=>h _
 ·rfl
theorem afG{E:Env}{S' T:TypeId}{s:State}{id n:Nat}{a b:Ty}(h:∀y,F y=(G y).bind K):jV E S' T s id n a b F=(jV E S' T s id n a b G).bind K:=by
 unfold jV
 split
 ·refine zn ?_ rfl
  split
  ·split
   ·exact zl (h _) rfl
   ·rfl
  ·rfl
 ·rfl
theorem zqg{s:State}{dst:Option Nat}{t:Ty}{x:El t}{p:Ty}(h:∀y,F y=(G y).bind K):kd s dst t x p F=(kd s dst t x p G).bind K:=by
 unfold kd
 split
 ·split
  ·exact h _
  ·rfl
 ·rfl
theorem zve{s:State}{m:SV}{kt vt:Ty}{F:Nat->List (El kt×El vt)->Option R}{G:Nat->List (El kt×El vt)->Option S}{K:S->Option R}(h:∀n y,F n y=(G n y).bind K):vB s m kt vt F=(vB s m kt vt G).bind K:=by
 unfold vB
 split
 ·refine zn ?_ rfl
  split
  ·split
   ·exact h _ _
   ·rfl
  ·rfl
 ·rfl
theorem agb{E:Env}{T:TypeId}{s:State}{m i:SV}(h:∀y,F y=(G y).bind K):lk E T s m i F=(lk E T s m i G).bind K:=by
 unfold lk
 split
 ·exact zve fun _ _=>zt fun _=>h _
 ·rfl
theorem MU{E:Env}{T:TypeId}{s:State}{m i v:SV}(h:∀y,F y=(G y).bind K):mc E T s m i v F=(mc E T s m i v G).bind K:=by
 unfold mc
 split
 ·exact zve fun _ _=>zt fun _=>zt fun _=>zl rfl (h _)
 ·rfl
theorem agh{s:State}{m:SV}(h:∀y,F y=(G y).bind K):lm s m F=(lm s m G).bind K:=by
 unfold lm
 split
 ·split
  ·split
   ·exact zl (h _) (h _)
   ·rfl
  ·rfl
 ·rfl
theorem agd{E:Env}{T:TypeId}{s:State}{dst:Option Nat}{lo:Operand}{l c:SV}(h:∀y,F y=(G y).bind K):ll E T s dst lo l c F=(ll E T s dst lo l c G).bind K:=by
 unfold ll
 split
 ·exact zn rfl (zt fun n=>zt fun m=>zl (zl (zl (zl (h _) rfl) rfl) rfl) (zl (zl (zl (zqg h) rfl) rfl) rfl))
 ·rfl
theorem amB{op:UnOp}{x:SV}(h:∀y,F y=(G y).bind K):Kv op x F=(Kv op x G).bind K:=by
 unfold Kv
 split
 ·exact h _
 ·exact h _
 ·rfl
end
abbrev ah:=(R:Type)->FuncId->bU R
def ah.Nat(C:ah):Prop:=∀(R S:Type) (f:FuncId) l b (F:List SV->Option bB->Option R) (G:List SV->Option bB->Option S) (K:S->Option R),(∀r b,F r b=(G r b).bind K)->C R f l b F=(C S f l b G).bind K
section
variable {R S:Type} {F:Out->Option R} {G:Out->Option S} {K:S->Option R} {C:ah}
theorem R8(hC:C.Nat){s:State}{dst:Option Nat}{f:FuncId}{vs:List SV}(h:∀y,F y=(G y).bind K):fP (C R) s dst f vs F=(fP (C S) s dst f vs G).bind K:=by
 unfold fP
 split
 ·refine hC R S f _ _ _ _ K fun r b=> ?_
  split
  ·exact h _
  ·split
   ·split
    ·exact h _
    ·rfl
   ·rfl
 ·refine zn rfl (hC R S f _ _ _ _ K fun r b=> ?_)
  split
  ·exact zn (h _) rfl
  ·rfl
 ·rfl
theorem afB(hC:C.Nat){s:State}{f:FuncId}{t id:Nat}{a b:Ty}{j:Nat}{vs:List SV}(h:∀y,F y=(G y).bind K):jT (C R) s f t id a b j vs F=(jT (C S) s f t id a b j vs G).bind K:=by
 unfold jT
 refine zn rfl ?_
 split
 ·refine Ef fun x o=> ?_
  split
  ·refine hC R S f _ _ _ _ K fun r b=> ?_
   split
   ·split
    ·exact zl (h _) rfl
    ·rfl
   ·rfl
  ·rfl
 ·rfl
theorem afE{f:FuncId}{x:SV}(h:∀y,F y=(G y).bind K):mR f x F=(mR f x G).bind K:=by
 unfold mR
 split
 ·exact zn rfl (h _)
 ·rfl
theorem ajc{f:FuncId}{x y:SV}(h:∀y,F y=(G y).bind K):tv f x y F=(tv f x y G).bind K:=by
 unfold tv
 split
 ·exact h _
 ·rfl
theorem ajg{n id:Nat}{a b:Ty}{lo hi:Option SV}(h:∀y,F y=(G y).bind K):tz n id a b lo hi F=(tz n id a b lo hi G).bind K:=by
 unfold tz
 split
 ·rfl
 ·exact zdg fun l=>h _
theorem KR{t:Ty}{s:State}{id n lo:Nat}{a b:Ty}{x:SV}{e:TypeId}(h:∀y,F y=(G y).bind K):ib t s id n lo a b x e F=(ib t s id n lo a b x e G).bind K:=by
 unfold ib
 refine zn (zt fun ys=> ?_) rfl
 split
 ·split
  ·exact zl (zl (h _) rfl) rfl
  ·rfl
 ·rfl
theorem ajf{E:Env}{T:TypeId}{s:State}{id n:Nat}{t:Ty}{lo hi:Option SV}(h:∀y,F y=(G y).bind K):qR E T s id n t lo hi F=(qR E T s id n t lo hi G).bind K:=by
 unfold qR
 split
 ·refine zn ?_ rfl
  split
  ·split
   ·exact h _
   ·rfl
  ·rfl
 ·rfl
theorem afI{t:Ty}{s:State}{id n:Nat}{a b:Ty}{y:ByteArray}(h:∀y,F y=(G y).bind K):jW t s id n a b y F=(jW t s id n a b y G).bind K:=by
 unfold jW
 refine zn (zn ?_ rfl) rfl
 split
 ·split
  ·exact zl (h _) rfl
  ·rfl
 ·rfl
theorem afJ{E:Env}{T:TypeId}{s:State}{d x:SV}(h:∀y,F y=(G y).bind K):copyV E T s d x F=(copyV E T s d x G).bind K:=by
 unfold copyV
 split
 ·split
  ·exact afI h
  ·exact KR h
 ·exact KR h
 ·rfl
theorem Lw{g:Bool}{x y:SV}(h:∀y,F y=(G y).bind K):kc g x y F=(kc g x y G).bind K:=by
 unfold kc
 split
 ·exact h _
 ·rfl
theorem MD{E:Env}{T:TypeId}(h:∀y,F y=(G y).bind K):oj E T F=(oj E T G).bind K:=by
 unfold oj
 split
 ·exact h _
 ·exact h _
theorem xU(hC:C.Nat){E:Env}{ops:List Oper}{o:Oper}{s:State}(h:∀y,F y=(G y).bind K):act E (C R) ops o s F=(act E (C S) ops o s G).bind K:=by
 unfold act
 split
 ·split
  ·exact zl (h _) (h _)
  ·split
   ·exact zl (h _) (h _)
   ·rfl
   ·rfl
   ·exact MD h
   ·exact h _
 ·split
  ·exact h _
  ·rfl
  ·rfl
  ·exact MD h
  ·exact h _
 ·split
  ·exact zl (h _) (h _)
  ·rfl
 ·exact alX fun l=>h _
 ·exact amB h
 ·split
  ·exact afG h
  ·exact afH h
 ·exact ajM h
 ·exact agL h
 ·split
  ·exact zn rfl (h _)
  ·exact h _
  ·rfl
 ·split
  ·exact acY h
  ·exact acX h
 ·exact ac4 h
 ·exact ac5 h
 ·split
  ·refine zn rfl (zt fun y=> ?_)
   split
   ·exact h _
   ·rfl
  ·rfl
 ·split
  ·split
   ·exact zn (ajg h) rfl
   ·rfl
  ·exact ajf h
  ·exact ajh h
 ·split
  ·exact afE h
  ·exact ajc h
  ·rfl
 ·split
  ·split
   ·exact h _
   ·rfl
  ·split
   ·split
    ·exact h _
    ·rfl
   ·split
    ·split
     ·exact h _
     ·rfl
    ·rfl
  ·rfl
 ·split
  ·split
   ·exact zt fun y=>h _
   ·rfl
  ·rfl
 ·split
  ·exact zn rfl (zut (fun y o=>h _) _ _ _)
  ·rfl
 ·split
  ·exact zn rfl (zl (zuu (fun y=>h _) _ _) rfl)
  ·rfl
 ·split
  ·refine zn ?_ ?_
   ·split
    ·exact h _
    ·rfl
   split
   ·exact h _
   ·rfl
   ·rfl
   ·exact h _
   ·rfl
  ·rfl
 ·split
  ·exact zqg h
  ·rfl
 ·exact agb h
 ·exact MU h
 ·exact MU h
 ·split
  ·exact zt fun y=>zqg h
  ·rfl
 ·exact agh h
 ·exact agd h
 ·split
  ·exact afB hC h
  ·exact R8 hC fun u=>h _
 ·split
  ·exact zn rfl (R8 hC h)
  ·exact R8 hC h
  ·rfl
 ·split
  ·exact afJ h
  ·rfl
 ·split
  ·exact ajI h
  ·rfl
 ·split
  ·exact abW h
  ·rfl
 ·split
  ·exact Lw h
  ·rfl
 ·split
  ·exact Lw h
  ·rfl
 ·rfl
end
section
variable {R S:Type} {F:State->Option R} {G:State->Option S} {K:S->Option R} {C:ah}
theorem zqp(hC:C.Nat){E:Env}{ops:List Oper}{o:Oper}{s:State}(h:∀y,F y=(G y).bind K):step E (C R) ops o s F=(step E (C S) ops o s G).bind K:=by
 unfold step
 simp only
 split
 ·exact xU hC fun y=>h _
 ·split
  ·rfl
  ·split
   ·exact zl (zl (xU hC fun y=>h _) (h _)) (zl (h _) (xU hC fun y=>h _))
   ·exact h _
   ·rfl
theorem Eo(hC:C.Nat){E:Env}{ops:List Oper}(h:∀y,F y=(G y).bind K):∀(l:List Oper) (s:State),steps E (C R) ops l s F=(steps E (C S) ops l s G).bind K
 | [],s=>h s
 |o::r,s=>by
  simp only[steps]
  exact zqp hC fun s=>Eo hC h r s
theorem agJ(hC:C.Nat){E:Env}{ops:List Oper}{o:Oper}{i:Nat}{s:State}{tr:List dQ}{F:State->List dQ->Option R}{G:State->List dQ->Option S}(h:∀y t,F y t=(G y t).bind K):lv E (C R) ops o i s tr F=(lv E (C S) ops o i s tr G).bind K:=by
 unfold lv
 simp only
 split
 ·exact xU hC fun y=>zl (h _ _) rfl
 ·split
  ·rfl
  ·split
   ·exact zl (zl (xU hC fun y=>zl (h _ _) rfl) (zl (h _ _) rfl)) (zl (zl (h _ _) rfl) (xU hC fun y=>zl (h _ _) rfl))
   ·exact zl (h _ _) rfl
   ·rfl
theorem OX(hC:C.Nat){E:Env}{ops:List Oper}(h:∀y,F y=(G y).bind K):∀(l:List Oper) (i:Nat) (s:State) (tr:List dQ),yb E (C R) ops l i s tr F=(yb E (C S) ops l i s tr G).bind K
 | [],i,s,tr=>h s
 |o::r,i,s,tr=>by
  simp only[yb]
  exact agJ hC fun s tr=>OX hC h r (i+1) s tr
theorem OS{l:List Nat}{s:State}(h:∀y,F y=(G y).bind K):rG l s F=(rG l s G).bind K:=by
 unfold rG
 exact zl (h _) rfl
end
theorem af5{R S:Type}{k:Nat}{F:Unit->Option R}{G:Unit->Option S}{K:S->Option R}(h:F ()=(G ()).bind K):cH k F=(cH k G).bind K:=by
 unfold cH
 cases k
 ·rfl
 ·exact h
theorem ajN{R S:Type}{F:State->Option R}{G:State->Option S}{K:S->Option R}{E:Env}{k r:Nat}{s:State}(h:∀y,F y=(G y).bind K):ni E k r s F=(ni E k r s G).bind K:=by
 unfold ni
 split
 ·exact h _
 ·exact OS fun s=>af5 (h _)
theorem akc{R S:Type}{F:State->Option R}{G:State->Option S}{K:S->Option R}{E:Env}{r:Nat}{s:State}(h:∀y,F y=(G y).bind K):rj E r s F=(rj E r s G).bind K:=by
 unfold rj
 split
 ·exact h _
 ·split
  ·refine zn ?_ rfl
   split
   ·split
    ·exact zl (h _) rfl
    ·rfl
   ·rfl
  ·rfl
theorem zo1{R S:Type}{F:State->Option R}{G:State->Option S}{K:S->Option R}(h:∀y,F y=(G y).bind K):∀(l:List Nat) (s:State),Gm l s F=(Gm l s G).bind K
 | [],s=>h s
 |id::r,s=>by
  simp only[Gm]
  unfold Vs
  split
  ·exact zn rfl (zo1 h r _)
  ·rfl
section
variable {R S:Type} {F:Ex->State->Option R} {G:Ex->State->Option S} {K:S->Option R} {C:ah}
theorem Lv{body:State->(Ex->State->Option R)->Option R}{body':State->(Ex->State->Option S)->Option S}{l lx:List Nat}
 (hb:∀(F:Ex->State->Option R) (G:Ex->State->Option S),(∀e s,F e s=(G e s).bind K)->∀s,body s F=(body' s G).bind K) (h:∀e s,F e s=(G e s).bind K):
 ∀(k:Nat) (s:State),aB body l lx k s F=(aB body' l lx k s G).bind K
 |0,_=>rfl
 |k+1,s=>by
  simp only[aB]
  refine hb _ _ (fun e s=> ?_) s
  cases e with
  |normal=>exact OS fun s=>Lv hb h k s
  |exit id=>exact OS fun s=>h _ _
  |ret=>exact OS fun s=>h _ _
theorem MQ{E:Env}{q:Nat×Nat×Nat}{ops:List Oper}{s:State}{F:State->Option R}{G:State->Option S}{K:S->Option R}(h:∀s,F s=(G s).bind K):ly E q ops s F=(ly E q ops s G).bind K:=by
 unfold ly
 refine zl (zl ?_ rfl) rfl
 split
 ·refine zl (zl ?_ rfl) rfl
  unfold zd
  exact zl (zl (h _) rfl) rfl
 ·rfl
theorem agr{E:Env}{oA oS:Oper}{s:State}{F:State->Option R}{G:State->Option S}{K:S->Option R}(h:∀s,F s=(G s).bind K):jd E oA oS s F=(jd E oA oS s G).bind K:=by
 unfold jd
 split
 ·refine zl ?_ rfl
  unfold uv
  split
  ·refine zl ?_ rfl
   split
   ·refine zl (CV fun n=>zt fun y=> ?_) rfl
    unfold zd
    exact zl (zl (h _) rfl) rfl
   ·rfl
  ·rfl
 ·rfl
theorem MH(hC:C.Nat){E:Env}{ops:List Oper}{s:State}{F:State->Option R}{G:State->Option S}(h:∀s,F s=(G s).bind K):lq E (C R) ops s F=(lq E (C S) ops s G).bind K:=by
 unfold lq
 split
 ·exact Eo hC (fun s=>agr h) _ _
 ·rfl
theorem NM(hC:C.Nat){E:Env}{ops:List Oper}{s:State}{F:State->Option R}{G:State->Option S}(h:∀s,F s=(G s).bind K):FH E (C R) ops s F=(FH E (C S) ops s G).bind K:=by
 unfold FH
 split
 ·refine Eo hC (fun s=> ?_) _ _
  unfold q7
  split
  ·split
   ·refine zl ?_ rfl
    split
    ·refine zt fun y=> ?_
     split
     ·exact h _
     ·rfl
    ·rfl
   ·rfl
  ·rfl
 ·rfl
theorem Mx(hC:C.Nat){E:Env}{k:Nat}{ops:List Oper}{s:State}{F:State->Option R}{G:State->Option S}(h:∀s,F s=(G s).bind K):qZ E (C R) k ops s F=(qZ E (C S) k ops s G).bind K:=by
 unfold qZ
 split
 ·split
  ·split
   ·refine zl (OX hC (fun s=> ?_) _ _ _ _) rfl
    refine zl ?_ rfl
    unfold ka
    split
    ·refine zl (zn ?_ rfl) rfl
     split
     ·refine Ef fun z own=>zl ?_ rfl
      split
      ·split
       ·split
        ·exact zl (h _) rfl
        ·rfl
       ·rfl
      ·exact h _
      ·rfl
     ·rfl
    ·rfl
   ·rfl
  ·rfl
 ·rfl
theorem vA(hC:C.Nat){E:Env}{k:Nat}:∀(c:Code) (F:Ex->State->Option R) (G:Ex->State->Option S),(∀e s,F e s=(G e s).bind K)->∀s,ev E (C R) k c s F=(ev E (C S) k c s G).bind K
 | .skip,F,G,h,s=>h _ _
 | .region i ops d,F,G,h,s=>by
   simp only[ev]
   have key:ET E (C R) i ops d s (F .normal)=(ET E (C S) i ops d s (G .normal)).bind K:=akc fun s=>zo1 (fun s=>zl (OX hC (fun s=>h _ _) _ _ _ _) (Eo hC (fun s=>h _ _) _ _)) _ _
   split
   ·refine zl ?_ key
    cases d with
    |true=>rfl
    |false=>exact zl (MH hC fun s=>h _ _) (MQ fun s=>h _ _)
   ·split
    ·exact key
    ·refine zl ?_ (zl ?_ key)
     ·cases d with
      |true=>rfl
      |false=>exact NM hC fun s=>h _ _
     ·cases d with
      |true=>exact Mx hC fun s=>h _ _
      |false=>rfl
 | .seq a b,F,G,h,s=>by
   simp only[ev]
   refine vA hC a _ _ (fun e s=> ?_) s
   cases e with
   |normal=>exact ajN fun s=>vA hC b _ _ h s
   |exit id=>exact h _ _
   |ret=>exact h _ _
 | .cond c a b,F,G,h,s=>by
   simp only[ev]
   split
   ·exact zl (vA hC a _ _ h _) (vA hC b _ _ h _)
   ·rfl
 | .block id b,F,G,h,s=>by
   simp only[ev]
   refine vA hC b _ _ (fun e s=> ?_) s
   cases e with
   |normal=>exact h _ _
   |exit j=>exact zl (h _ _) (h _ _)
   |ret=>exact h _ _
 | .loop b,F,G,h,s=>by
   simp only[ev]
   exact OS fun s=>Lv (fun F G h s=>vA hC b F G h s) h k s
 | .exit id,F,G,h,s=>h _ _
 | .ret,F,G,h,s=>h _ _
 | .rangeFunc ..,F,G,h,s=>rfl
 | .scope _,F,G,h,s=>rfl
 | .label _,F,G,h,s=>rfl
 | .goto _,F,G,h,s=>rfl
 | .refuse _,F,G,h,s=>rfl
end
theorem jD{R S:Type}{x:Option R}{y:Option S}{K:S->Option R}(h:x=y.bind K){z:R}(hz:x=some z):∃w,y=some w/\K w=some z:=by
 rw[h] at hz
 exact Option.bind_eq_some_iff.1 hz
end Go.Ref

namespace Go.Ref
open Go
def dL(t:Ty)(cs:List Value):Value:=if t.agg=true then .agg cs.toArray else cs.headD undef
def bp(X:ax)(pl:Place)(e:TypeId)(k n:Nat)(v:Value):Prop:=
 (v= .slice none 0 0/\n=0)\/∃g cap cur,v= .slice (some ⟨g,0,none⟩) n cap/\X.w.heap[g]? =some (.cells cur e (0,0))/\n<=cap/\cap<=maxLen/\cur.size=cap*k/\X.ow g= .row pl (n*k)
def bk(X:ax)(pl:List Nat->Place)(t:Ty)(x:El t)(cs:List Value)(own:List (List Nat)):Prop:=
 ∀p∈own,∃e t' xs v,t.eE p/\El.get t p x=some ⟨.sl e t',xs⟩/\cs[t.off p]? =some v/\bp X (pl p) e t'.cells (List.length xs) v
def np(t:Ty)(p:List Nat)(r:Nat)(v:Value):Prop:=
 match t,p with
 | .aJ .mp _ _,_=>v= .map (some r)
 | .aJ (.iG n) _ _,[]=>∃cap,v= .slice (some ⟨r,0,none⟩) n cap/\n<=cap
 | .aJ (.iG n) a _,[l]=>∃cap off,v= .slice (some ⟨r,off,none⟩) (n-l) cap/\n-l<=cap/\l<=n/\((n=l/\off=0)\/off=l*a.cells)
 | .aJ (.rM f) _ _,[]=>v= .func (.func f) #[] #[.pointer (some ⟨r,0,none⟩)]
 | .aJ .row a _,[i]=>v= .pointer (some ⟨r,i*a.cells,none⟩)
 | .aJ .bN a _,p=>v= .pointer (some ⟨r,mV a p,none⟩)/\gIn a p
 |t,p=>v= .pointer (some ⟨r,t.off p,none⟩)/\t.eE p
theorem qq{t:Ty}{p:List Nat}{r:Nat}{v:Value}(h:t.bF=false):np t p r v↔v= .pointer (some ⟨r,t.off p,none⟩)/\t.eE p:=by
 unfold np
 split
 all_goals first
  |exact Iff.rfl
  |simp [Ty.bF] at h
theorem Pe{t:Ty}{p:List Nat}{r:Nat}{v:Value}(h:t.qg=false):np t p r v↔v= .pointer (some ⟨r,t.off p,none⟩)/\t.eE p:=by
 unfold np
 split
 all_goals first
  |exact Iff.rfl
  |simp [Ty.qg] at h
def aA(X:ax)(pl:List Nat->Place):SV->Value->Prop
 | .undef,_=>True
 | .skip,v=>v=Go.undef
 | .cF,v=>v= .slice none 0 0
 | .dN,v=>v= .pointer none
 | .aj t x own,v=>∃cs,bg X t x cs/\v=dL t cs/\bk X pl t x cs own
 | .ptr id t p,v=>∃r,X.β id=some r/\np t p r v
 | .view t x,v=>∃ad cs,v= .pointer (some ad)/\ad.spot=none/\bg X t x cs/\∀i u,cs[i]? =some u->X.az (ad.add i) u
 | .cap f t x u y,v=>∃ad qb cs eD,v= .func (.func f) #[] #[.pointer (some ad),.pointer (some qb)]/\(ad.spot=none/\bg X t x cs/\∀i w,cs[i]? =some w->X.az (ad.add i) w)/\(qb.spot=none/\bg X u y eD/\∀i w,eD[i]? =some w->X.az (qb.add i) w)
 | .over,v=>v= .tuple #[.bool false]
 | .bz id a _ j,v=>∃r,X.β id=some r/\X.ow r= .box id/\X.w.cell? ⟨r,a.cells+j,none⟩=some v
theorem rC{X Y:ax}{pl gd:List Nat->Place}(h:∀a v,X.az a v->Y.az a v){f:Nat}{t u:Ty}{x:El t}{y:El u}{v:Value}(hr:aA X pl (.cap f t x u y) v):aA Y gd (.cap f t x u y) v:=by
 obtain⟨ad,qb,cs,eD,h1,⟨h2,h3,h4⟩,h5,h6,h7⟩:=hr
 exact⟨ad,qb,cs,eD,h1,⟨h2,h3.ai h,fun i w hi=>h _ _ (h4 i w hi)⟩,h5,h6.ai h,fun i w hi=>h _ _ (h7 i w hi)⟩
def cL(X:ax)(pl:Nat->List Nat->Place)(l:List SV)(v:Value):Prop:=
 match l with
 | [s]=>aA X (pl 0) s v
 |l=>∃vs:Array Value,v= .tuple vs/\vs.size=l.length/\∀(j:Nat) s u,l[j]? =some s->vs[j]? =some u->aA X (pl j) s u
def ew(X:ax)(t:Ty)(x:El t)(v:Value):Prop:=∃cs,bg X t x cs/\v=dL t cs
def dq(X:ax)(pl:List Nat->Place)(b:Ty)(m:Option (El b))(v:Value):Prop:=
 match m with
 |none=>v= .pointer none
 |some y=>∃g cs T,v= .pointer (some ⟨g,0,none⟩)/\X.w.heap[g]? =some (.cells cs T (0,0))/\X.ow g= .row (pl []) 0/\bg X b y cs.toList/\bk X pl b y cs.toList Bd
def gZ(X:ax)(r:Nat)(pl:List Nat->Place)(a b:Ty)(x:El (.aJ .bN a b)):Prop:=
 ∃c p0 p1 T,X.w.heap[r]? =some (.cells (c++ [p0,p1,.int .i64 x.2.2]).toArray T (0,0))/\bg X a x.1 c/\dq X (fun p=>pl (0::p)) b x.2.1.1 p0/\dq X (fun p=>pl (1::p)) b x.2.1.2 p1
def dp(X:ax)(r:Nat)(pl:List Nat->Place):(t:Ty)->El t->List (List Nat)->Prop
 | .aJ .iter _ _,x,_=>X.w.heap[r]? =some (.stringIter x.1 x.2)
 | .aJ .mp kt vt,x,_=>∃es clock,X.w.heap[r]? =some (.map es clock)/\es.size=List.length x/\∀(i:Nat) (q:El kt×El vt) (e:MapEntry),x[i]? =some q->es[i]? =some e->ew X kt q.1 e.key/\ew X vt q.2 e.val
 | .aJ .row t _,xs,_=>∃cs T,X.w.heap[r]? =some (.cells cs T (0,0))/\cs.size=List.length xs*t.cells/\∀(j:Nat) (x:El t),xs[j]? =some x->bg X t x ((cs.toList.drop (j*t.cells)).take t.cells)
 | .aJ (.gn T e) _ _,x,own=>(∃o,X.w.heap[r]? =some o)/\([]∈own->∃v,uX T e r v (Lib.strCells x) X.w/\∀g,v.ownBlock=some g->X.ow g= .row (pl []) 0)
 | .aJ .bN a b,x,own=>(∃o,X.w.heap[r]? =some o)/\((∀p∈z21,p∈own)->gZ X r pl a b x)
 | .aJ _ _ _,_,_=>False
 |t,x,own=>∃cs T,X.w.heap[r]? =some (.cells cs T (0,0))/\bg X t x cs.toList/\bk X pl t x cs.toList own
theorem dp.plain{X:ax}{r:Nat}{pl:List Nat->Place}{t:Ty}{x:El t}{own:List (List Nat)}(hs:t.bF=false):dp X r pl t x own↔∃cs T,X.w.heap[r]? =some (.cells cs T (0,0))/\bg X t x cs.toList/\bk X pl t x cs.toList own:=by
 cases t<;>first|exact Iff.rfl|simp [Ty.bF] at hs
theorem dp.of{X:ax}{r:Nat}{pl:List Nat->Place}{t:Ty}{x:El t}{own:List (List Nat)}{cs:Array Value}{T:TypeId}(hs:t.bF=false)(h1:X.w.heap[r]? =some (.cells cs T (0,0)))(h2:bg X t x cs.toList)(h3:bk X pl t x cs.toList own):dp X r pl t x own:=(dp.plain hs).2 ⟨cs,T,h1,h2,h3⟩
theorem ew.mono{X Y:ax}(h:∀a v,X.az a v->Y.az a v){t:Ty}{x:El t}{v:Value}(hr:ew X t x v):ew Y t x v:=by
 obtain⟨cs,h1,h2⟩:=hr
 exact⟨cs,h1.ai h,h2⟩
theorem dp.lt{X:ax}{r:Nat}{pl:List Nat->Place}{t:Ty}{x:El t}{own:List (List Nat)}(h:dp X r pl t x own):r<X.w.heap.size:=by
 have key:∀o,X.w.heap[r]? =some o->r<X.w.heap.size:=fun o ho=>(Array.getElem?_eq_some_iff.1 ho).1
 unfold dp at h
 split at h
 ·exact key _ h
 ·obtain⟨es,c,h1,_⟩:=h;exact key _ h1
 ·obtain⟨cs,T,h1,_⟩:=h;exact key _ h1
 ·obtain⟨⟨o,ho⟩,_⟩:=h;exact key _ ho
 ·obtain⟨⟨o,ho⟩,_⟩:=h;exact key _ ho
 ·exact h.elim
 ·obtain⟨cs,T,h1,_⟩:=h;exact key _ h1
theorem dq.move{X Y:ax}{pl gd:List Nat->Place}{b:Ty}{m:Option (El b)}{v:Value}(hs:∀a v,X.az a v->Y.az a v)
 (hg:∀p,p=[]\/p=[2]->∀g o n,X.w.heap[g]? =some o->X.ow g= .row (pl p) n->Y.w.heap[g]? =some o/\Y.ow g= .row (gd p) n) (h:dq X pl b m v):dq Y gd b m v:=by
 cases m with
 |none=>exact h
 |some y=>
  obtain⟨g,cs,T,h1,h2,h3,h4,h5⟩:=h
  obtain⟨k1,k2⟩:=hg [] (.inl rfl) g _ _ h2 h3
  refine⟨g,cs,T,h1,k1,k2,h4.ai hs,fun p hp=> ?_⟩
  have:p=[2]:=by simpa [Bd] using hp
  subst this
  obtain⟨e,t',xs,v,g0,g1,g2,g3⟩:=h5 [2] hp
  refine⟨e,t',xs,v,g0,g1,g2,?_⟩
  rcases g3 with g3|⟨g',cap,cur,q1,q2,q3,q4,q5,q6⟩
  ·exact .inl g3
  ·obtain⟨j1,j2⟩:=hg [2] (.inr rfl) g' _ _ q2 q6
   exact .inr ⟨g',cap,cur,q1,j1,q3,q4,q5,j2⟩
theorem gZ.move{X Y:ax}{r:Nat}{pl gd:List Nat->Place}{a b:Ty}{x:El (.aJ .bN a b)}(hs:∀a v,X.az a v->Y.az a v)(hh:Y.w.heap[r]? =X.w.heap[r]?)
 (hg:∀p∈z21,∀g o n,X.w.heap[g]? =some o->X.ow g= .row (pl p) n->Y.w.heap[g]? =some o/\Y.ow g= .row (gd p) n) (h:gZ X r pl a b x):gZ Y r gd a b x:=by
 obtain⟨c,p0,p1,T,h1,h2,h3,h4⟩:=h
 refine⟨c,p0,p1,T,hh.trans h1,h2.ai hs,h3.move hs fun p hp=> ?_,h4.move hs fun p hp=> ?_⟩
 ·rcases hp with rfl|rfl<;>exact hg _ (by simp [z21])
 ·rcases hp with rfl|rfl<;>exact hg _ (by simp [z21])
theorem dp.move{X Y:ax}{r:Nat}{pl gd:List Nat->Place}{t:Ty}{x:El t}{own:List (List Nat)}(hs:∀a v,X.az a v->Y.az a v)(hh:Y.w.heap[r]? =X.w.heap[r]?)
 (ho:∀cs,bk X pl t x cs own->bk Y gd t x cs own) (hg:∀p∈own,∀g o n,X.w.heap[g]? =some o->X.ow g= .row (pl p) n->Y.w.heap[g]? =some o/\Y.ow g= .row (gd p) n) (h:dp X r pl t x own):dp Y r gd t x own:=by
 unfold dp at h⊢
 split at h
 ·exact hh.trans h
 ·obtain⟨es,c,h1,h2,h3⟩:=h
  exact⟨es,c,hh.trans h1,h2,fun i q e hq he=>⟨(h3 i q e hq he).1.mono hs,(h3 i q e hq he).2.mono hs⟩⟩
 ·obtain⟨cs,T,h1,h2,h3⟩:=h
  exact⟨cs,T,hh.trans h1,h2,fun j x hj=>(h3 j x hj).ai hs⟩
 ·obtain⟨⟨o,h1⟩,h2⟩:=h
  refine⟨⟨o,hh.trans h1⟩,fun hm=> ?_⟩
  obtain⟨v,h3,h4⟩:=h2 hm
  refine⟨v,h3.same hh (fun g o hv ho=>(hg _ hm g o _ ho (h4 g hv)).1),fun g hv=> ?_⟩
  obtain⟨cap,cur,BT⟩:∃cap cur,X.w.heap[g]? =some (.cells cur cap (0,0)):=by
   rcases h3.own.2 with⟨hn,_⟩|⟨g',cap,cur,iX,_,BT,_⟩
   ·rw[hn] at hv;simp [Value.ownBlock] at hv
   ·rw[iX] at hv
    simp [Value.ownBlock] at hv
    subst hv
    exact⟨_,_,BT⟩
  exact(hg _ hm g _ _ BT (h4 g hv)).2
 ·obtain⟨⟨o,h1⟩,h2⟩:=h
  exact⟨⟨o,hh.trans h1⟩,fun hp=>(h2 hp).move hs hh fun p hm=>hg p (hp p hm)⟩
 ·exact h.elim
 ·obtain⟨cs,T,h1,h2,h3⟩:=h
  exact⟨cs,T,hh.trans h1,h2.ai hs,ho _ h3⟩
def bC(X:ax)(id r:Nat)(B:bB):Prop:=X.ow r= .box id/\dp X r (.b id) B.t B.x B.own
theorem bC.cells{X:ax}{id r:Nat}{B:bB}(h:bC X id r B)(hs:B.t.bF=false):∃cs T,X.w.heap[r]? =some (.cells cs T (0,0))/\bg X B.t B.x cs.toList/\X.ow r= .box id/\bk X (.b id) B.t B.x cs.toList B.own:=by
 obtain⟨cs,T,h1,h2,h3⟩:=(dp.plain hs).1 h.2
 exact⟨cs,T,h1,h2,h.1,h3⟩
def hD(s:State):Prop:=∀(i:Nat) l id a b j,s.sl[i]? =some l->SV.bz id a b j∈l->l=[.bz id a b j]/\(∃x own,s.bs[id]? =some (some ⟨.aJ .bN a b,x,own⟩)/\ []∉own)/\
 ∀(i':Nat) l' a' b' j',s.sl[i']? =some l'->SV.bz id a' b' j'∈l'->i'=i
theorem hD.less{s s':State}(h:hD s)(hs:∀(i:Nat) l id a b j,s'.sl[i]? =some l->SV.bz id a b j∈l->∃l0,s.sl[i]? =some l0/\SV.bz id a b j∈l0/\(l0=[.bz id a b j]->l=[.bz id a b j]))
 (hb:∀(id:Nat) a b x own,(∃(i:Nat) (l:List SV) (j:Nat),s'.sl[i]? =some l/\SV.bz id a b j∈l)->s.bs[id]? =some (some ⟨.aJ .bN a b,x,own⟩)-> []∉own->∃x' ju,s'.bs[id]? =some (some ⟨.aJ .bN a b,x',ju⟩)/\ []∉ju):hD s':=fun i l id a b j hl hm=>by
 obtain⟨l0,h1,h2,h3⟩:=hs i l id a b j hl hm
 obtain⟨g1,⟨x,own,g2,g3⟩,g4⟩:=h i l0 id a b j h1 h2
 refine⟨h3 g1,hb id a b x own ⟨i,l,j,hl,hm⟩ g2 g3,fun i' l' a' b' j' kC rP=> ?_⟩
 obtain⟨l1,k1,k2,_⟩:=hs i' l' id a' b' j' kC rP
 exact g4 i' l1 a' b' j' k1 k2
theorem hD.aC{s:State}(h:hD s){d:Nat}{B:bB}(hn:∀(i:Nat) (l:List SV) a b j,s.sl[i]? =some l->SV.bz d a b j∈l->False):hD (s.aC (some (d,B))):=
 h.less (fun i l id a b j hl hm=>⟨l,hl,hm,fun h=>h⟩) fun id a b x own hex hb ho=>by
  obtain⟨i,l,j,hl,hm⟩:=hex
  refine⟨x,own,?_,ho⟩
  simp only[State.aC,List.getElem?_set]
  rw[if_neg (fun e=>by subst e;exact hn i l a b j hl hm)]
  exact hb
theorem hD.none{s:State}(h:hD s){d:Nat}(hb:∀a b x own,s.bs[d]? =some (some ⟨.aJ .bN a b,x,own⟩)-> []∈own):∀(i:Nat) (l:List SV) a b j,s.sl[i]? =some l->SV.bz d a b j∈l->False:=fun i l a b j hl hm=>by
 obtain⟨_,⟨x,own,h1,h2⟩,_⟩:=h i l d a b j hl hm
 exact h2 (hb a b x own h1)
theorem XR{l:List SV}(h:l.any SV.bK=false){id:Nat}{a b:Ty}{j:Nat}(hm:SV.bz id a b j∈l):False:=by
 have:=List.any_eq_false.1 h _ hm
 exact this rfl
structure Rel(X:ax)(s:State)(a:Act):Prop where
 size:s.sl.length=a.tmps.size
 gB:s.bs.length=s.sl.length+1
 bP:∀(i:Nat) l v,s.sl[i]? =some l->a.tmps[i]? =some v->cL X (.c i) l v
 boxes:∀(id:Nat) B,s.bs[id]? =some (some B)->∃r,X.β id=some r/\bC X id r B
 live:∀(i:Nat) l id t p,s.sl[i]? =some l->SV.ptr id t p∈l->∃B,s.bs[id]? =some (some B)
 defers:a.defers=[]
 bz:hD s
theorem vv{w:World}{g:Nat}{o:Obj}(h:w.heap[g]? =some o):g<w.heap.size:=(Array.getElem?_eq_some_iff.1 h).1
theorem cL.iJ{X Y:ax}{pl gd:Nat->List Nat->Place}{l:List SV}{v:Value}(hr:cL X pl l v)(h:∀(j:Nat) s u,l[j]? =some s->aA X (pl j) s u->aA Y (gd j) s u):cL Y gd l v:=by
 match l,hr with
 | [s],hr=>exact h 0 s v (by simp) hr
 | [],⟨vs,h1,h2,h3⟩=>exact⟨vs,h1,h2,fun j s u hs hu=>h j s u hs (h3 j s u hs hu)⟩
 |x::y::r,⟨vs,h1,h2,h3⟩=>exact⟨vs,h1,h2,fun j s u hs hu=>h j s u hs (h3 j s u hs hu)⟩
def cU(s:State):Place->Prop
 | .c i j p=>∃l t x own,s.sl[i]? =some l/\l[j]? =some (.aj t x own)/\p∈own
 | .b id p=>∃B,s.bs[id]? =some (some B)/\p∈B.own
 | .r _ _=>False
structure Mod(s:State)(X Y:ax):Prop where
 az:∀a v,X.az a v->Y.az a v
 size:X.w.heap.size<=Y.w.heap.size
 os:Y.w.os=X.w.os
 tape:Y.w.tape=X.w.tape
 output:Y.w.output=X.w.output
 β0:Y.β 0=X.β 0
 β:∀(id:Nat) B,s.bs[id]? =some (some B)->Y.β id=X.β id
 mQ:∀g,g<X.w.heap.size->(Y.ow g=X.ow g/\Y.w.heap[g]? =X.w.heap[g]?)\/∃pl n,X.ow g= .row pl n/\¬cU s pl
theorem Mod.ext{s:State}{X Y:ax}(h:Mod s X Y):Ext X Y:=
 ⟨h.az,h.size,h.os,h.tape,h.output,h.β0,fun g hg bS=>by
   rcases h.mQ g hg with e|⟨pl,n,h1,_⟩
   ·exact e
   ·rw[h1] at bS;exact bS.elim⟩
theorem Mod.refl(s:State)(X:ax):Mod s X X:=⟨fun _ _ h=>h,Nat.le_refl _,rfl,rfl,rfl,rfl,fun _ _ _=>rfl,fun _ _=> .inl ⟨rfl,rfl⟩⟩
theorem bp.mod{s:State}{X Y:ax}(h:Mod s X Y){pl:Place}{e:TypeId}{k n:Nat}{v:Value}(hf:cU s pl)(ho:bp X pl e k n v):bp Y pl e k n v:=by
 rcases ho with ho|⟨g,cap,cur,h1,h2,h3,h4,h5,h6⟩
 ·exact .inl ho
 ·rcases h.mQ g (vv h2) with⟨k1,k2⟩|⟨gd,n',k1,k2⟩
  ·exact .inr ⟨g,cap,cur,h1,k2.trans h2,h3,h4,h5,k1.trans h6⟩
  ·rw[h6] at k1;injection k1 with k1;rw[k1] at hf;exact absurd hf k2
theorem bk.mod{s:State}{X Y:ax}(h:Mod s X Y){pl:List Nat->Place}{t:Ty}{x:El t}{cs:List Value}{own:List (List Nat)}(hf:∀p∈own,cU s (pl p))(ho:bk X pl t x cs own):bk Y pl t x cs own:=fun p hp=>by
 obtain⟨e,t',xs,v,g0,g1,g2,g3⟩:=ho p hp
 exact⟨e,t',xs,v,g0,g1,g2,g3.mod h (hf p hp)⟩
theorem aA.mod{s:State}{X Y:ax}(h:Mod s X Y){pl:List Nat->Place}{sv:SV}{v:Value}(hf:∀t x own,sv= .aj t x own->∀p∈own,cU s (pl p))(hl:∀id t p,sv= .ptr id t p->∃B,s.bs[id]? =some (some B))(hk:∀id a b j,sv= .bz id a b j->∃B,s.bs[id]? =some (some B))(hr:aA X pl sv v):aA Y pl sv v:=by
 cases sv with
 |undef=>trivial
 |skip=>exact hr
 |cF=>exact hr
 |dN=>exact hr
 |over=>exact hr
 |aj t x own=>
  obtain⟨cs,h1,h2,h3⟩:=hr
  exact⟨cs,h1.ai h.az,h2,h3.mod h (hf t x own rfl)⟩
 |ptr id t p=>
  obtain⟨r,h1,h2⟩:=hr
  obtain⟨B,hB⟩:=hl id t p rfl
  exact⟨r,(h.β id B hB).trans h1,h2⟩
 |view t x=>
  obtain⟨ad,cs,h1,h2,h3,h4⟩:=hr
  exact⟨ad,cs,h1,h2,h3.ai h.az,fun i u hi=>h.az _ _ (h4 i u hi)⟩
 |cap f t x u y=>exact rC h.az hr
 |bz id a b j=>
  obtain⟨r,h1,h2,h3⟩:=hr
  obtain⟨B,hB⟩:=hk id a b j rfl
  have aq:r<X.w.heap.size:=World.block_lt_of_cell? X.w _ h3
  rcases h.mQ r aq with⟨k1,k2⟩|⟨gd,n',k1,_⟩
  ·refine⟨r,(h.β id B hB).trans h1,k1.trans h2,?_⟩
   simp only[World.cell?] at h3⊢
   rw[k2];exact h3
  ·rw[h2] at k1;cases k1
theorem Rel.mod{s:State}{X Y:ax}{a:Act}(hr:Rel X s a)(h:Mod s X Y):Rel Y s a where
 size:=hr.size
 gB:=hr.gB
 bP:=fun i l v hl hv=>(hr.bP i l v hl hv).iJ fun j sv u hm jz=>jz.mod h (fun t x own e p hp=>⟨l,t,x,own,hl,e▸hm,hp⟩) (fun id t p e=>hr.live i l id t p hl (e▸List.mem_of_getElem? hm)) (fun id a b j e=>by
  obtain⟨_,⟨x,own,hb,_⟩,_⟩:=hr.bz i l id a b j hl (e▸List.mem_of_getElem? hm)
  exact⟨_,hb⟩)
 boxes:=fun id B hB=>by
  obtain⟨r,h1,h4,h2⟩:=hr.boxes id B hB
  have hk:Y.ow r=X.ow r/\Y.w.heap[r]? =X.w.heap[r]? :=by
   rcases h.mQ r h2.lt with hk|⟨gd,n',k1,k2⟩
   ·exact hk
   ·rw[h4] at k1;cases k1
  exact⟨r,(h.β id B hB).trans h1,hk.1.trans h4,h2.move h.az hk.2 (fun cs h5=>h5.mod h fun p hp=>⟨B,hB,hp⟩) fun p hm g o n ho hw=>by
   rcases h.mQ g (vv ho) with e|⟨pl,n',e1,e2⟩
   ·exact⟨e.2.trans ho,e.1.trans hw⟩
   ·rw[hw] at e1;injection e1 with e1;exact absurd (e1▸(⟨B,hB,hm⟩:cU s (.b id p))) e2⟩
 live:=hr.live
 defers:=hr.defers
 bz:=hr.bz
structure eJ(s:State)(X Y:ax):Prop where
 size:X.w.heap.size<=Y.w.heap.size
 os:Y.w.os=X.w.os
 tape:Y.w.tape=X.w.tape
 output:Y.w.output=X.w.output
 mQ:∀g,g<X.w.heap.size->Y.ow g=X.ow g/\Y.w.heap[g]? =X.w.heap[g]?
 β0:Y.β 0=X.β 0
 β:∀(id:Nat) B,s.bs[id]? =some (some B)->Y.β id=X.β id
theorem eJ.az{s:State}{X Y:ax}(h:eJ s X Y){a:Addr}{v:Value}(hs:X.az a v):Y.az a v:=by
 have aq:=ax.ix hs
 obtain⟨h1,h2⟩:=h.mQ _ aq
 refine⟨hs.1,?_,?_⟩
 ·have:=hs.2.1
  simp only[World.cell?] at this⊢
  rw[h2];exact this
 ·rw[h1];exact hs.2.2
theorem eJ.mod{s:State}{X Y:ax}(h:eJ s X Y):Mod s X Y:=
 ⟨fun _ _=>h.az,h.size,h.os,h.tape,h.output,h.β0,h.β,fun g hg=> .inl (h.mQ g hg)⟩
theorem eJ.ext{s:State}{X Y:ax}(h:eJ s X Y):Ext X Y:=h.mod.ext
theorem bp.dm{s:State}{X Y:ax}(h:eJ s X Y){pl:Place}{e:TypeId}{k n:Nat}{v:Value}(ho:bp X pl e k n v):bp Y pl e k n v:=by
 rcases ho with ho|⟨g,cap,cur,h1,h2,h3,h4,h5,h6⟩
 ·exact .inl ho
 ·obtain⟨k1,k2⟩:=h.mQ g (vv h2)
  exact .inr ⟨g,cap,cur,h1,k2.trans h2,h3,h4,h5,k1.trans h6⟩
theorem bk.dm{s:State}{X Y:ax}(h:eJ s X Y){pl:List Nat->Place}{t:Ty}{x:El t}{cs:List Value}{own:List (List Nat)}(ho:bk X pl t x cs own):bk Y pl t x cs own:=fun p hp=>by
 obtain⟨e,t',xs,v,g0,g1,g2,g3⟩:=ho p hp
 exact⟨e,t',xs,v,g0,g1,g2,g3.dm h⟩
theorem Rel.dm{s:State}{X Y:ax}{a:Act}(hr:Rel X s a)(h:eJ s X Y):Rel Y s a:=hr.mod h.mod
theorem Rel.put{X:ax}{s:State}{a:Act}(hr:Rel X s a){d:Option Nat}{l:List SV}{v:Value}(h:∀d',d=some d'->cL X (.c d') l v)(hl:∀id t p,SV.ptr id t p∈l->∃B,s.bs[id]? =some (some B))(hn:l.any SV.bK=false:=by rfl):Rel X (s.au d l) (a.put d v):=by
 cases d with
 |none=>exact hr
 |some d=>
  refine⟨by simpa [State.au,Act.put] using hr.size,by simpa [State.au] using hr.gB,fun i l' v' hi hv=> ?_,hr.boxes,fun i l' id t p hi hm=> ?_,hr.defers,hr.bz.less (fun i l' id a b j hi hm=> ?_) (fun id a b x own _ hb ho=>⟨x,own,hb,ho⟩)⟩
  ·simp only[State.au,List.getElem?_set] at hi
   simp only[Act.put,Array.getElem?_setIfInBounds] at hv
   by_cases e:d=i
   ·subst e
    simp only[if_true] at hi hv
    split at hi
    ·split at hv
     ·cases hi;cases hv;exact h d rfl
     ·cases hv
    ·cases hi
   ·rw[if_neg e] at hi hv
    exact hr.bP i l' v' hi hv
  ·simp only[State.au,List.getElem?_set] at hi
   split at hi
   ·split at hi
    ·cases hi;exact hl id t p hm
    ·cases hi
   ·exact hr.live i l' id t p hi hm
  ·simp only[State.au,List.getElem?_set] at hi
   split at hi
   ·split at hi
    ·cases hi;exact(XR hn hm).elim
    ·cases hi
   ·exact⟨l',hi,hm,fun h=>h⟩
theorem Rel.skip{X:ax}{s:State}{a:Act}(hr:Rel X s a)(d:Option Nat):Rel X (s.au d [.skip]) (a.put d Go.undef):=
 hr.put (fun _ _=>rfl) (fun id t p h=>by simp at h)
structure dS(s:State)(X Y:ax):Prop where
 w:Y.w=X.w
 β:Y.β=X.β
 ow:∀g,Y.ow g=X.ow g\/∃pl n q,X.ow g= .row pl n/\¬cU s pl/\Y.ow g= .row q n
theorem dS.az{s:State}{X Y:ax}(h:dS s X Y){a:Addr}{v:Value}:X.az a v↔Y.az a v:=by
 unfold ax.az
 rw[h.w]
 rcases h.ow a.block with e|⟨pl,n,q,h1,_,h2⟩
 ·rw[e]
 ·rw[h1,h2];rfl
theorem dS.mod{s:State}{X Y:ax}(h:dS s X Y):Mod s X Y:=
 ⟨fun _ _=>h.az.1,by rw[h.w];exact Nat.le_refl _,by rw[h.w],by rw[h.w],by rw[h.w],by rw[h.β],fun _ _ _=>by rw[h.β],fun g _=>by
   rcases h.ow g with e|⟨pl,n,q,h1,h2,_⟩
   ·exact .inl ⟨e,by rw[h.w]⟩
   ·exact .inr ⟨pl,n,h1,h2⟩⟩
theorem dS.ext{s:State}{X Y:ax}(h:dS s X Y):Ext X Y:=h.mod.ext
theorem dS.refl(s:State)(X:ax):dS s X X:=⟨rfl,rfl,fun _=> .inl rfl⟩
theorem Sy{v:SV}{id:Nat}{t:Ty}{p:List Nat}:v.shut= .ptr id t p->v= .ptr id t p:=by cases v<;>simp [SV.shut]
theorem aA.shut{X:ax}{pl gd:List Nat->Place}{sv:SV}{v:Value}(hr:aA X pl sv v):aA X gd sv.shut v:=by
 cases sv with
 |aj t x own=>
  obtain⟨cs,h1,h2,_⟩:=hr
  exact⟨cs,h1,h2,fun p hp=>by cases hp⟩
 |bz id a b j=>trivial
 |_=>exact hr
theorem z7m:∀(l:List SV) (j:Nat),(bO l j).length=l.length
 | [],_=>rfl
 |_::_,0=>rfl
 |_::r,j+1=>by simp [bO,z7m r j]
theorem OW:∀(l:List SV) (j i:Nat),(bO l j)[i]? =if i=j then(l[i]?).map SV.shut else l[i]?
 | [],j,i=>by simp [bO]
 |v::r,0,0=>by simp [bO]
 |v::r,0,i+1=>by simp [bO]
 |v::r,j+1,0=>by simp [bO]
 |v::r,j+1,i+1=>by
  simp only[bO,List.getElem?_cons_succ,OW r j i]
  simp
theorem cL.bO{X:ax}{pl:Nat->List Nat->Place}{l:List SV}{v:Value}(hr:cL X pl l v)(j:Nat):cL X pl (bO l j) v:=by
 match l,hr with
 | [s],hr=>
   cases j with
   |zero=>exact hr.shut
   |succ j=>exact hr
 | [],hr=>exact hr
 |x::y::r,⟨vs,h1,h2,h3⟩=>
  have hlen:∃x' y' r',Ref.bO (x::y::r) j=x'::y'::r':=by
   match j with
   |0=>exact⟨_,_,_,rfl⟩
   |1=>exact⟨_,_,_,rfl⟩
   |j+2=>exact⟨_,_,_,rfl⟩
  obtain⟨x',y',r',he⟩:=hlen
  have hl:=z7m (x::y::r) j
  have hg:=OW (x::y::r) j
  rw[he] at hl hg⊢
  refine⟨vs,h1,by rw[hl];exact h2,fun i s u hs hu=> ?_⟩
  rw[hg] at hs
  split at hs
  ·obtain⟨s0,eX,rfl⟩:=Option.map_eq_some_iff.1 hs
   exact(h3 i s0 u eX hu).shut
  ·exact h3 i s u hs hu
theorem adn{l:List SV}{j:Nat}{id:Nat}{t:Ty}{p:List Nat}(h:SV.ptr id t p∈bO l j):SV.ptr id t p∈l:=by
 obtain⟨i,hi⟩:=List.mem_iff_getElem?.1 h
 rw[OW] at hi
 split at hi
 ·obtain⟨s0,eX,he⟩:=Option.map_eq_some_iff.1 hi
  rw[Sy he] at eX
  exact List.mem_of_getElem? eX
 ·exact List.mem_of_getElem? hi
theorem qt{s:State}{i:Nat}(h:i<s.sl.length):s.sl[i]? =some (s.slot i):=by
 simp [State.slot,List.getD_eq_getElem?_getD,List.getElem?_eq_getElem h]
theorem adl{l:List SV}{j:Nat}{id:Nat}{a b:Ty}{i:Nat}(h:SV.bz id a b i∈bO l j):SV.bz id a b i∈l/\(l=[.bz id a b i]->bO l j=[.bz id a b i]):=by
 obtain⟨k,hk⟩:=List.mem_iff_getElem?.1 h
 have Aj:=hk
 rw[OW] at hk
 split at hk
 ·obtain⟨s0,eX,he⟩:=Option.map_eq_some_iff.1 hk
  cases s0<;>simp [SV.shut] at he
 ·refine⟨List.mem_of_getElem? hk,fun e=> ?_⟩
  subst e
  cases j with
  |zero=>simp [bO,SV.shut] at h
  |succ j=>rfl
def State.cg(s:State)(i j:Nat):State:={s with sl:=s.sl.set i (bO (s.slot i) j)}
theorem Ee{s:State}{i j:Nat}{r:List (Nat×Nat)}:s.close ((i,j)::r)=(s.cg i j).close r:=rfl
theorem zhk{r:List (Nat×Nat)}:∀(l:List (Nat×Nat)) (s:State),s.close (l++r)=(s.close l).close r
 | [],s=>rfl
 |(i,j)::l,s=>by
  rw[List.cons_append,Ee,Ee]
  exact zhk l _
theorem Rel.cg{X:ax}{s:State}{a:Act}(hr:Rel X s a)(i j:Nat):Rel X (s.cg i j) a:=by
 refine⟨by simpa [State.cg] using hr.size,by simpa [State.cg] using hr.gB,fun k l v hl hv=> ?_,hr.boxes,fun k l id t p hl hm=> ?_,hr.defers,hr.bz.less (fun k l id a b n hl hm=> ?_) (fun id a b x own _ hb ho=>⟨x,own,hb,ho⟩)⟩
 ·simp only[State.cg,List.getElem?_set] at hl
  split at hl
  ·rename_i e
   subst e
   split at hl
   ·rename_i aq
    cases hl
    exact(hr.bP i _ v (qt aq) hv).bO j
   ·cases hl
  ·exact hr.bP k l v hl hv
 ·simp only[State.cg,List.getElem?_set] at hl
  split at hl
  ·rename_i e
   subst e
   split at hl
   ·rename_i aq
    cases hl
    exact hr.live i _ id t p (qt aq) (adn hm)
   ·cases hl
  ·exact hr.live k l id t p hl hm
 ·simp only[State.cg,List.getElem?_set] at hl
  split at hl
  ·rename_i e
   subst e
   split at hl
   ·rename_i aq
    cases hl
    obtain⟨h1,h2⟩:=adl hm
    exact⟨_,qt aq,h1,h2⟩
   ·cases hl
  ·exact⟨l,hl,hm,fun h=>h⟩
theorem Rel.close{X:ax}{a:Act}:∀(c:List (Nat×Nat)) {s:State},Rel X s a->Rel X (s.close c) a
 | [],s,hr=>hr
 |(i,j)::r,s,hr=>Rel.close r (hr.cg i j)
theorem xQ:∀{c:List (Nat×Nat)} {s:State},(s.close c).bs=s.bs
 | [],s=>rfl
 |(i,j)::r,s=>(xQ (c:=r) (s:=s.cg i j))
theorem O0:∀{c:List (Nat×Nat)} {s:State},(s.close c).sl.length=s.sl.length
 | [],s=>rfl
 |(i,j)::r,s=>by rw[Ee,O0 (c:=r)];simp [State.cg]
theorem cU.q9{s:State}{i j:Nat}{pl:Place}(h:cU (s.cg i j) pl):cU s pl/\∀p,pl≠ .c i j p:=by
 cases pl with
 |r j p=>exact h.elim
 |b id p=>exact⟨h,fun p=>by simp⟩
 |c i' j' p=>
  obtain⟨l,t,x,own,hl,hx,hp⟩:=h
  simp only[State.cg,List.getElem?_set] at hl
  split at hl
  ·rename_i e
   subst e
   split at hl
   ·rename_i aq
    cases hl
    rw[OW] at hx
    split at hx
    ·obtain⟨s0,_,he⟩:=Option.map_eq_some_iff.1 hx
     cases s0<;>simp [SV.shut] at he
     obtain⟨rfl,_,rfl⟩:=he
     cases hp
    ·rename_i bI
     exact⟨⟨_,t,x,own,qt aq,hx,hp⟩,fun q e=>by cases e;exact bI rfl⟩
   ·cases hl
  ·rename_i bI
   exact⟨⟨l,t,x,own,hl,hx,hp⟩,fun q e=>by cases e;exact bI rfl⟩
theorem cU.ke{pl:Place}:∀{c:List (Nat×Nat)} {s:State},cU (s.close c) pl->cU s pl/\∀i j,(i,j)∈c->∀p,pl≠ .c i j p
 | [],s,h=>⟨h,fun i j hm=>by cases hm⟩
 |(i,j)::r,s,h=>by
  obtain⟨h1,h2⟩:=cU.ke (c:=r) (s:=s.cg i j) h
  obtain⟨h3,h4⟩:=cU.q9 h1
  refine⟨h3,fun i' j' hm p=> ?_⟩
  rcases List.mem_cons.1 hm with e|hm
  ·cases e;exact h4 p
  ·exact h2 i' j' hm p
theorem cU.close{s:State}{i j:Nat}{p:List Nat}:¬cU (s.close [(i,j)]) (.c i j p):=fun h=>(cU.ke h).2 i j (by simp) p rfl
def ax.turn(X:ax)(i j:Nat)(q:List Nat->Place):ax:=
 {X with ow:=fun g=>match X.ow g with
  | .row (.c i' j' p) n=>if i'=i/\j'=j then .row (q p) n else .row (.c i' j' p) n
  |w=>w}
theorem LR{s:State}{X:ax}{i j:Nat}{q:List Nat->Place}(h:∀p,¬cU s (.c i j p)):dS s X (X.turn i j q):=by
 refine⟨rfl,rfl,fun g=> ?_⟩
 simp only[ax.turn]
 cases hg:X.ow g with
 |row pl n=>
  cases pl with
  |c i' j' p=>
   by_cases e:i'=i/\j'=j
   ·obtain⟨rfl,rfl⟩:=e
    exact .inr ⟨_,n,q p,rfl,h p,by simp⟩
   ·exact .inl (by simp [e])
  |_=>exact .inl rfl
 |_=>exact .inl rfl
theorem bp.l9{X:ax}{i j:Nat}{q:List Nat->Place}{p:List Nat}{e:TypeId}{k n:Nat}{v:Value}(h:bp X (.c i j p) e k n v):bp (X.turn i j q) (q p) e k n v:=by
 rcases h with h|⟨g,cap,cur,h1,h2,h3,h4,h5,h6⟩
 ·exact .inl h
 ·exact .inr ⟨g,cap,cur,h1,h2,h3,h4,h5,by simp [ax.turn,h6]⟩
theorem bk.l9{X:ax}{i j:Nat}{q:List Nat->Place}{t:Ty}{x:El t}{cs:List Value}{own:List (List Nat)}(h:bk X (.c i j) t x cs own):bk (X.turn i j q) q t x cs own:=fun p hp=>by
 obtain⟨e,t',xs,v,g0,g1,g2,g3⟩:=h p hp
 exact⟨e,t',xs,v,g0,g1,g2,g3.l9⟩
def lH(X Y:ax):Prop:=Y.w=X.w/\∀g pl n,X.ow g= .row pl n->(∀i j p,pl≠ .c i j p)->Y.ow g= .row pl n
theorem agT{X:ax}{i j:Nat}{q:List Nat->Place}:lH X (X.turn i j q):=⟨rfl,fun g pl n h hp=>by
 simp only[ax.turn,h]
 cases pl with
 |c i' j' p=>exact absurd rfl (hp i' j' p)
 |_=>rfl⟩
theorem lH.refl(X:ax):lH X X:=⟨rfl,fun _ _ _ h _=>h⟩
theorem bk.stay{X Y:ax}(h:lH X Y){pl:List Nat->Place}(hp:∀r i j p,pl r≠ .c i j p){t:Ty}{x:El t}{cs:List Value}{own:List (List Nat)}(ho:bk X pl t x cs own):bk Y pl t x cs own:=fun p hm=>by
 obtain⟨e,t',xs,v,g0,g1,g2,g3⟩:=ho p hm
 refine⟨e,t',xs,v,g0,g1,g2,?_⟩
 rcases g3 with h0|⟨g,cap,cur,h1,h2,h3,h4,h5,h6⟩
 ·exact .inl h0
 ·exact .inr ⟨g,cap,cur,h1,by rw[h.1];exact h2,h3,h4,h5,h.2 g _ _ h6 (hp p)⟩
theorem Rel.take{X:ax}{s:State}{a:Act}(hr:Rel X s a){i j:Nat}{t:Ty}{x:El t}{w:List (List Nat)}{v:Value}(h:aA X (.c i j) (.aj t x w) v)(q:List Nat->Place):
 ∃Y,Y.w=X.w/\Ext X Y/\Rel Y (s.close [(i,j)]) a/\aA Y q (.aj t x w) v/\Y.β=X.β/\dS (s.close [(i,j)]) X Y/\lH X Y:=by
 obtain⟨cs,h1,h2,h3⟩:=h
 have hT:dS (s.close [(i,j)]) X (X.turn i j q):=LR fun p=>cU.close
 exact⟨X.turn i j q,rfl,hT.ext,(hr.close _).mod hT.mod,⟨cs,h1.ai (fun _ _=>hT.az.1),h2,h3.l9⟩,rfl,hT,agT⟩
def ax.dO(X:ax)(i d:Nat):ax:=
 {X with ow:=fun g=>match X.ow g with
  | .row (.c i' j' p) n=>if i'=i then .row (.c d j' p) n else .row (.c i' j' p) n
  |w=>w}
theorem LQ(t:Nat):∀(n j:Nat),j<n->(t,j)∈ki t n
 |0,j,h=>absurd h (Nat.not_lt_zero j)
 |n+1,j,h=>by
  rcases Nat.lt_or_ge j n with h1|h1
  ·exact List.mem_cons_of_mem _ (LQ t n j h1)
  ·have:j=n:=by omega
   subst this
   simp [ki]
theorem cU.closeAll{s:State}{t j:Nat}{p:List Nat}:¬cU (s.close (ki t (s.slot t).length)) (.c t j p):=fun h=>by
 obtain⟨h1,h2⟩:=cU.ke h
 obtain⟨l,ty,x,own,g1,g2,g3⟩:=h1
 have hl:s.slot t=l:=by simp [State.slot,g1]
 have hj:j<l.length:=(List.getElem?_eq_some_iff.1 g2).1
 exact h2 t j (LQ t _ j (by rw[hl];exact hj)) p rfl
theorem abS{s:State}{X:ax}{i d:Nat}(h:∀j p,¬cU s (.c i j p)):dS s X (X.dO i d):=by
 refine⟨rfl,rfl,fun g=> ?_⟩
 simp only[ax.dO]
 cases hg:X.ow g with
 |row pl n=>
  cases pl with
  |c i' j' p=>
   by_cases e:i'=i
   ·subst e
    exact .inr ⟨_,n,.c d j' p,rfl,h j' p,by simp⟩
   ·exact .inl (by simp [e])
  |_=>exact .inl rfl
 |_=>exact .inl rfl
theorem bp.iO{X:ax}{i d j:Nat}{p:List Nat}{e:TypeId}{k n:Nat}{v:Value}(h:bp X (.c i j p) e k n v):bp (X.dO i d) (.c d j p) e k n v:=by
 rcases h with h|⟨g,cap,cur,h1,h2,h3,h4,h5,h6⟩
 ·exact .inl h
 ·exact .inr ⟨g,cap,cur,h1,h2,h3,h4,h5,by simp [ax.dO,h6]⟩
theorem aA.iO{s:State}{X:ax}{i d j:Nat}{sv:SV}{v:Value}(hT:dS s X (X.dO i d))(h:aA X (.c i j) sv v):aA (X.dO i d) (.c d j) sv v:=by
 cases sv with
 |aj t x own=>
  obtain⟨cs,h1,h2,h3⟩:=h
  refine⟨cs,h1.ai (fun _ _=>hT.az.1),h2,fun p hp=> ?_⟩
  obtain⟨e,t',xs,v,g0,g1,g2,g3⟩:=h3 p hp
  exact⟨e,t',xs,v,g0,g1,g2,g3.iO⟩
 |view t x=>
  obtain⟨ad,cs,h1,h2,h3,h4⟩:=h
  exact⟨ad,cs,h1,h2,h3.ai (fun _ _=>hT.az.1),fun i u hi=>hT.az.1 (h4 i u hi)⟩
 |cap f t x u y=>exact rC (fun _ _=>hT.az.1) h
 |bz id a b k=>
  obtain⟨r,h1,h2,h3⟩:=h
  exact⟨r,h1,by simp [ax.dO,h2],h3⟩
 |_=>exact h
theorem Rel.xG{X:ax}{s:State}{a:Act}(hr:Rel X s a){t:Nat}{v:Value}(h:cL X (.c t) (s.slot t) v)(d:Nat):
 ∃Y,Y.w=X.w/\Ext X Y/\Rel Y (s.close (ki t (s.slot t).length)) a/\cL Y (.c d) (s.slot t) v:=by
 have hT:dS (s.close (ki t (s.slot t).length)) X (X.dO t d):=abS fun j p=>cU.closeAll
 exact⟨X.dO t d,rfl,hT.ext,(hr.close _).mod hT.mod,h.iJ fun j sv u hj hu=>hu.iO hT⟩
def zp:Ty->List Value
 | .bool=>[.bool false]
 | .int k=>[.int k 0]
 | .str=>[.string ⟨#[]⟩]
 | .sl _ _=>[.slice none 0 0]
 | .arr n t=>(List.replicate n (zp t)).flatten
 | .unit=>[]
 | .pair a b=>zp a++zp b
 | .aJ _ _ _=>[]
def jh(E:Env):List Field->Ty->Nat->Prop
 | [],.unit,_=>True
 |f::r,.pair a b,off=>f.offset=off/\E.ty f.type=some a/\f.name≠ "_" /\jh E r b (off+a.cells)
 |_,_,_=>False
def Oj(P:Program)(E:Env)(T:TypeId):Ty->Prop
 | .bool=>P.underlying T=some .bool
 | .int k=>P.underlying T=some (.int k)
 | .str=>P.underlying T=some .string
 | .sl e t=>P.underlying T=some (.slice e)/\E.ty e=some t
 | .arr n t=>∃e,P.underlying T=some (.array n e)/\E.ty e=some t/\P.eqGuardType P.depth T=false
 | .aJ _ _ _=>False
 |t=>∃fs,P.underlying T=some (.struct fs)/\jh E fs.toList t 0/\P.stoodInHeld T=false/\P.eqGuardType P.depth T=false
structure lI(P:Program)(E:Env)(T:TypeId)(t:Ty):Prop where
 info:∃i,P.info? T=some i/\i.size=t.cells/\i.bytes=E.bytes T/\i.zero=some (dL t (zp t))
 dj:Oj P E T t
structure ap(P:Program)(E:Env):Prop where
 ty:∀T t,E.ty T=some t->lI P E T t
 pt:∀T,E.pt T=true->∃e,P.underlying T=some (.pointer e)
 p1:∀T,E.pt T=true->∃i,P.info? T=some i/\i.size=1
 mp:∀T k e,E.mp T=some (k,e)->P.underlying T=some (.map k e)
 bl:∀T e,E.bl T=some e->∃i,P.info? T=some i/\i.zero=some (.agg #[.pointer none,.slice none 0 0])
 gr:∀T a b,E.gr T=some (a,b)->∃fs,P.underlying T=some (.struct fs)/\∀j,j<=2->∃f i,fs[j]? =some f/\f.offset=mV a [j]/\P.info? f.type=some i/\i.size≠0
 gz:∀T a b,E.gr T=some (a,b)->∃i,P.info? T=some i/\i.zero=some (.agg (zp a++ [Value.pointer none,Value.pointer none,Value.int .i64 0]).toArray)
 g3:∀T a b,E.gr T=some (a,b)->∃fs f,P.underlying T=some (.struct fs)/\fs[0]? =some f/\f.offset=0/\E.ty f.type=some a/\∀f∈fs.toList,∃i,P.info? f.type=some i
 ga:∀T,E.ga T=true->∃e i,P.underlying T=some (.array 2 e)/\P.info? e=some i/\i.size=1
theorem ap.iL{P:Program}{E:Env}(hE:ap P E){T:TypeId}{t:Ty}(h:E.ty T=some t):t.bF=false:=by
 have:=(hE.ty T t h).dj
 cases t<;>first|rfl|exact this.elim
theorem uP:∀t:Ty,(zp t).length=t.cells
 | .bool=>rfl
 | .int _=>rfl
 | .str=>rfl
 | .sl _ _=>rfl
 | .unit=>rfl
 | .arr n t=>by simp [zp,Ty.cells,uP t]
 | .pair a b=>by simp [zp,Ty.cells,uP a,uP b]
 | .aJ _ _ _=>rfl
theorem z9c{l:List Value}{k:Nat}(hl:l.length=k):∀(n j:Nat),j<n->(((List.replicate n l).flatten).drop (j*k)).take k=l
 |0,j,h=>by omega
 |n+1,0,_=>by
  simp only[List.replicate_succ,List.flatten_cons,Nat.zero_mul,List.drop_zero]
  rw[<-hl];exact List.take_left
 |n+1,j+1,h=>by
  simp only[List.replicate_succ,List.flatten_cons]
  rw[Nat.add_mul,Nat.one_mul,Nat.add_comm,<-List.drop_drop]
  rw[show List.drop k (l++(List.replicate n l).flatten)=(List.replicate n l).flatten by rw[<-hl];exact List.drop_left]
  exact z9c hl n j (by omega)
theorem rZ(X:ax):∀t:Ty,bg X t (El.bT t) (zp t)
 | .bool=>rfl
 | .int _=>rfl
 | .str=>rfl
 | .unit=>rfl
 | .sl _ t=>⟨none,0,rfl,Nat.le_refl _,fun j x h=>by simp [El.bT] at h⟩
 | .arr n t=>by
   refine⟨by simp [El.bT],by simp [zp,uP],fun j x h=> ?_⟩
   have hj:j<n:=by
    have:=(List.getElem?_eq_some_iff.1 h).1
    simpa [El.bT] using this
   have hx:x=El.bT t:=by
    simp only[El.bT,List.getElem?_replicate] at h
    rw[if_pos hj] at h
    exact(Option.some.inj h).symm
   subst hx
   have:=z9c (uP t) n j hj
   simp only[zp]
   rw[this]
   exact rZ X t
 | .pair a b=>⟨zp a,zp b,rfl,rZ X a,rZ X b⟩
 | .aJ _ _ _=>rfl
theorem Qa{t:Ty}{c:Value}(h:t.agg=false):dL t [c]=c:=by simp [dL,h]
theorem jx{t:Ty}{cs:List Value}(h:t.agg=true):dL t cs= .agg cs.toArray:=by simp [dL,h]
theorem vm{t:Ty}{X:ax}{x:El t}{cs:List Value}(h:bg X t x cs):(dL t cs).cells=cs.toArray:=by
 cases ht:t.agg with
 |true=>rw[jx ht];rfl
 |false=>
  have hl:=h.len
  have h1:=h.one
  have hc:t.cells=1:=by cases t<;>simp_all [Ty.agg,Ty.cells]
  rw[hc] at hl
  match cs,hl with
  | [c],_=>
    rw[Qa ht]
    have:=h1 c (by simp)
    cases c<;>simp_all [Value.oneCell',Value.cells]
theorem zy{R:Type}{s:SV}{u:Ty}{K:El u->Option R}{z:R}(h:s.el u K=some z):
 ∃y,K y=some z/\∀(X:ax) pl v,aA X pl s v->∃cs,bg X u y cs/\v=dL u cs:=by
 cases s with
 |aj t x own=>
  simp only[SV.el] at h
  split at h
  ·rename_i he
   have e:=Ty.aI he
   subst e
   exact⟨x,h,fun X pl v hv=>by obtain⟨cs,h1,h2,_⟩:=hv;exact⟨cs,h1,h2⟩⟩
  ·cases h
 |cF=>
  cases u<;>simp only[SV.el] at h<;>first|cases h|skip
  rename_i e t
  refine⟨[],h,fun X pl v hv=>⟨[.slice none 0 0],⟨none,0,rfl,Nat.le_refl _,fun j x hj=>by simp at hj⟩,hv⟩⟩
 |_=>simp [SV.el] at h
theorem lB{X:ax}{k:IntKind}{n:Int}{cs:List Value}(h:bg X (.int k) n cs):dL (.int k) cs= .int k n:=by cases h;rfl
theorem vr{X:ax}{b:Bool}{cs:List Value}(h:bg X .bool b cs):dL .bool cs= .bool b:=by cases h;rfl
theorem nw{X:ax}{s:ByteArray}{cs:List Value}(h:bg X .str s cs):dL .str cs= .string s:=by cases h;rfl
theorem mu{X:ax}{pl:List Nat->Place}{t:Ty}{x:El t}{cs:List Value}:bk X pl t x cs []:=fun p hp=>by cases hp
theorem jg{X:ax}{pl:List Nat->Place}{k:IntKind}{n:Int}:aA X pl (.aj (.int k) n []) (.int k n):=⟨[.int k n],rfl,rfl,mu⟩
theorem nv{X:ax}{pl:List Nat->Place}{b:Bool}:aA X pl (.aj .bool b []) (.bool b):=⟨[.bool b],rfl,rfl,mu⟩
theorem AZ{X:ax}{pl:List Nat->Place}{s:ByteArray}:aA X pl (.aj .str s []) (.string s):=⟨[.string s],rfl,rfl,mu⟩
theorem AO{X:ax}{pl:List Nat->Place}{k:IntKind}{n:Int}{o:List (List Nat)}{v:Value}(h:aA X pl (.aj (.int k) n o) v):v= .int k n:=by
 obtain⟨cs,h1,h2,_⟩:=h
 rw[h2,lB h1]
theorem OK{X:ax}{pl:List Nat->Place}{b:Bool}{o:List (List Nat)}{v:Value}(h:aA X pl (.aj .bool b o) v):v= .bool b:=by
 obtain⟨cs,h1,h2,_⟩:=h
 rw[h2,vr h1]
theorem zic{X:ax}{pl:List Nat->Place}{s:ByteArray}{o:List (List Nat)}{v:Value}(h:aA X pl (.aj .str s o) v):v= .string s:=by
 obtain⟨cs,h1,h2,_⟩:=h
 rw[h2,nw h1]
def xw:Operand->List Nat->Place
 | .tmp t=> .c t 0
 |_=> .r 0
theorem z194(X:ax)(pl:List Nat->Place)(v:Value):aA X pl (A6 v) v:=by
 unfold A6
 split
 ·exact nv
 ·exact jg
 ·exact AZ
 ·rfl
 ·rfl
 ·trivial
theorem Rel.slot{X:ax}{s:State}{a:Act}(hr:Rel X s a)(t:Nat):cL X (.c t) (s.slot t) (a.tmps.getD t Go.undef):=by
 by_cases h:t<s.sl.length
 ·refine hr.bP t _ _ (qt h) ?_
  have:=hr.size
  simp [Array.getElem?_eq_getElem (show t<a.tmps.size by omega)]
 ·have:s.slot t=[.undef]:=by simp [State.slot,List.getElem?_eq_none (show s.sl.length<=t by omega)]
  rw[this]
  trivial
theorem Rel.aG{X:ax}{s:State}{a:Act}(hr:Rel X s a)(x:Operand):aA X (xw x) (s.aG x) (a.eval x):=by
 cases x with
 |tmp t=>
  have h:=hr.slot t
  unfold State.aG State.xr
  simp only[xw,Act.eval]
  match hl:s.slot t with
  | []=>trivial
  | [sv]=>rw[hl] at h;exact h
  |_::_::_=>trivial
 |const v=>exact z194 X _ v
 |_=>trivial
theorem sd{X:ax}{s:State}{a:Act}(hr:Rel X s a){x:Operand}{id:Nat}{t:Ty}{p:List Nat}(h:s.aG x= .ptr id t p):∃B,s.bs[id]? =some (some B):=by
 cases x with
 |tmp i=>
  unfold State.aG State.xr at h
  simp only at h
  by_cases hi:i<s.sl.length
  ·refine hr.live i _ id t p (qt hi) ?_
   match hl:s.slot i,h with
   | [sv],h=>have:sv= .ptr id t p:=h;simp [this]
   | [],h=>simp [one] at h
   |_::_::_,h=>simp [one] at h
  ·have:s.slot i=[.undef]:=by simp [State.slot,List.getElem?_eq_none (Nat.le_of_not_lt hi)]
   rw[this] at h
   simp [one] at h
 |const v=>unfold State.aG State.xr A6 at h;simp only[one] at h;split at h<;>simp at h
 |_=>simp [State.aG,State.xr,one] at h
theorem Rel.fin{Y:ax}{s:State}{a:Act}(hr:Rel Y s a){dst:Option Nat}{l:List SV}{v:Value}(h:cL Y (.c (dst.getD 0)) l v)(hl:∀id t p,SV.ptr id t p∈l->∃B,s.bs[id]? =some (some B))(hn:l.any SV.bK=false:=by rfl):Rel Y (s.au dst l) (a.put dst v):=
 hr.put (fun d' e=>by subst e;exact h) hl hn
def aH(P:Program)(X:ax)(s:State)(a:Act)(o:Oper)(u:Out):Prop:=
 ∃Y v,((execOp a.eval o).run P X.w= .ok (.value v) Y.w\/((execOp a.eval o).run P X.w= .ok .skip Y.w/\v=Go.undef))/\Ext X Y/\Rel Y (s.apply o.dst u) (a.put o.dst v)
theorem aH.plain{P:Program}{X:ax}{s:State}{a:Act}{o:Oper}(hr:Rel X s a){sv:SV}{v:Value}
 (h:(execOp a.eval o).run P X.w= .ok (.value v) X.w) (hv:aA X (.c (o.dst.getD 0) 0) sv v) (hl:∀id t p,sv= .ptr id t p->∃B,s.bs[id]? =some (some B)) (hn:sv.bK=false:=by rfl):aH P X s a o {v:=[sv]}:=
 ⟨X,v,.inl h,Ext.refl X,hr.fin hv (fun id t p hm=>hl id t p (by have h':=hm;simp at h';exact h'.symm)) (by simp [hn])⟩
theorem aH.AA{P:Program}{X:ax}{s:State}{a:Act}{o:Oper}(hr:Rel X s a){i j:Nat}{t:Ty}{x:El t}{w:List (List Nat)}{v:Value}
 (h:(execOp a.eval o).run P X.w= .ok (.value v) X.w) (hv:aA X (.c i j) (.aj t x w) v):aH P X s a o {v:=[.aj t x w],cl:=[(i,j)]}:=by
 obtain⟨Y,h1,h2,h3,h4,_,_,_⟩:=hr.take hv (.c (o.dst.getD 0) 0)
 refine⟨Y,v,.inl (by rw[h1];exact h),h2,?_⟩
 exact h3.fin h4 (fun id t p hm=>by simp at hm)
variable {P:Program} {E:Env} {X:ax} {s:State} {a:Act} {o:Oper} {u:Out}
def Plain:SV->Prop
 | .aj _ _ (_::_)=>False
 | .bz _ _ _ _=>False
 |_=>True
theorem Plain.om{sv:SV}(h:Plain sv):sv.bK=false:=by cases sv<;>first|rfl|exact h.elim
theorem zqo(sv:SV):sv.shut.bK=false:=by cases sv<;>rfl
theorem zif(l:List SV):(l.map SV.shut).any SV.bK=false:=List.any_eq_false.2 fun v hv=>by
 obtain⟨w,_,rfl⟩:=List.mem_map.1 hv
 simp [zqo]
theorem amt{sv:SV}{v:Value}(h:∀X pl,aA X pl sv v):sv.bK=false:=by
 cases sv with
 |bz id a b j=>
  obtain⟨r,h1,_⟩:=h ⟨default,fun _=> .all,fun _=>none⟩ (fun _=> .r 0 [])
  cases h1
 |_=>rfl
theorem zio(hr:Rel X s a){t:Nat}(hb:Nat.beq (s.slot t).length 1=false):(s.slot t).any SV.bK=false:=List.any_eq_false.2 fun v hv=>by
 cases v with
 |bz id c b j=>
  exfalso
  by_cases aq:t<s.sl.length
  ·obtain⟨e,_⟩:=hr.bz t _ id c b j (qt aq) hv
   rw[e] at hb;simp at hb
  ·have:s.slot t=[.undef]:=by simp [State.slot,List.getElem?_eq_none (Nat.le_of_not_lt aq)]
   rw[this] at hv
   simp at hv
 |_=>simp [SV.bK]
theorem aA.place{pl gd:List Nat->Place}{sv:SV}{v:Value}(h:aA X pl sv v)(hp:Plain sv):aA X gd sv v:=by
 cases sv with
 |aj t x w=>
  cases w with
  |nil=>
   obtain⟨cs,h1,h2,_⟩:=h
   exact⟨cs,h1,h2,mu⟩
  |cons p w=>exact hp.elim
 |_=>exact h
theorem aA.bare{pl gd:List Nat->Place}{t:Ty}{x:El t}{w:List (List Nat)}{v:Value}(h:aA X pl (.aj t x w) v):aA X gd (.aj t x []) v:=by
 obtain⟨cs,h1,h2,_⟩:=h
 exact⟨cs,h1,h2,mu⟩
theorem zhn{v:Value}{t:Ty}{y:El t}{w:List (List Nat)}(h:A6 v= .aj t y w):w=[]:=by
 unfold A6 at h
 split at h<;>simp at h
 ·obtain⟨rfl,_,rfl⟩:=h;rfl
 ·obtain⟨rfl,_,rfl⟩:=h;rfl
 ·obtain⟨rfl,_,rfl⟩:=h;rfl
theorem amr{x:Operand}{t:Ty}{y:El t}{w:List (List Nat)}(h:s.aG x= .aj t y w)(hw:w≠ []):∃i,x= .tmp i:=by
 cases x with
 |tmp i=>exact⟨i,rfl⟩
 |const v=>exact absurd (zhn h) hw
 |_=>simp [State.aG,State.xr,one] at h
theorem z131(hr:Rel X s a){x:Operand}(h:(execOp a.eval o).run P X.w= .ok (.value (a.eval x)) X.w)(hp:Plain (s.aG x)):aH P X s a o {v:=[s.aG x]}:=
 aH.plain hr h ((hr.aG x).place hp) (fun id t p e=>sd hr e) hp.om
theorem KU(hr:Rel X s a){x:Operand}{t:Ty}{y:El t}{w:List (List Nat)}(aV:(execOp a.eval o).run P X.w= .ok (.value (a.eval x)) X.w)(e:s.aG x= .aj t y w):aH P X s a o {v:=[.aj t y w],cl:=xV w x}:=by
 have cC:=hr.aG x
 rw[e] at cC
 cases hw:w with
 |nil=>
  subst hw
  exact aH.plain hr aV cC.bare (fun _ _ _ h=>by cases h)
 |cons p w'=>
 rw[<-hw]
 have ff:xV w x=src x:=by rw[hw];rfl
 rw[ff]
 clear hw
 cases x with
 |tmp i=>exact aH.AA hr aV cC
 |const v=>
  have hw:=zhn (show A6 v= .aj t y w from e)
  subst hw
  exact aH.plain hr aV cC.bare (fun _ _ _ h=>by cases h)
 |_=>simp [State.aG,State.xr,one] at e
theorem ME(hr:Rel X s a){T:TypeId}{v:Value}{pl:List Nat->Place}(aV:(execOp a.eval o).run P X.w= .ok (.value v) X.w)(hv:aA X pl .cF v)(h:oj E T some=some u):aH P X s a o u:=by
 unfold oj at h
 split at h
 ·cases h
  refine aH.plain hr aV ⟨[.slice none 0 0],⟨none,0,rfl,Nat.le_refl _,fun j x hj=>by simp at hj⟩,hv,fun p hp=> ?_⟩ (fun _ _ _ e=>by cases e)
  rename_i e t _
  have hp:p=[]:=by simpa using hp
  subst hp
  exact⟨e,t,[],_,by simp [Ty.eE],rfl,rfl,.inl ⟨rfl,rfl⟩⟩
 ·cases h
  exact aH.plain hr aV hv (fun _ _ _ e=>by cases e)
theorem aA.fA{pl gd:List Nat->Place}{sv:SV}{v:Value}(hr:aA X pl sv v):aA X gd sv.shut v:=by
 cases sv with
 |aj t x own=>
  obtain⟨cs,h1,h2,_⟩:=hr
  exact⟨cs,h1,h2,mu⟩
 |bz id a b j=>trivial
 |_=>exact hr
theorem cL.fA{pl gd:Nat->List Nat->Place}{l:List SV}{v:Value}(hr:cL X pl l v):cL X gd (l.map SV.shut) v:=by
 match l,hr with
 | [s],hr=>exact aA.fA hr
 | [],⟨vs,h1,h2,h3⟩=>exact⟨vs,h1,h2,fun j s u hs=>by simp at hs⟩
 |x::y::r,⟨vs,h1,h2,h3⟩=>
  refine⟨vs,h1,by simpa using h2,fun j s u hs hu=> ?_⟩
  have hs:((x::y::r).map SV.shut)[j]? =some s:=hs
  rw[List.getElem?_map] at hs
  obtain⟨s0,eX,rfl⟩:=Option.map_eq_some_iff.1 hs
  exact aA.fA (h3 j s0 u eX hu)
theorem afQ(hr:Rel X s a){ops:List Oper}{x:Operand}(ho:o.op= .move x){C:FuncId->bU Out}(h:act E C ops o s some=some u):aH P X s a o u:=by
 have aV:(execOp a.eval o).run P X.w= .ok (.value (a.eval x)) X.w:=by simp [execOp,ho]
 unfold act at h
 simp only[ho] at h
 have cC:=hr.aG x
 cases ht:nq s x with
 |some tl=>
  obtain⟨t,l⟩:=tl
  rw[ht] at h
  cases x with
  |tmp i=>
   change(bif Nat.beq (s.slot i).length 1 then none else some (i,s.slot i))=some (t,l) at ht
   cases hb:Nat.beq (s.slot i).length 1 with
   |true=>rw[hb] at ht;cases ht
   |false=>
    rw[hb] at ht
    cases ht
    have Jx:∀id ty p,SV.ptr id ty p∈s.slot t->∃B,s.bs[id]? =some (some B):=fun id ty p hm=>by
     by_cases aq:t<s.sl.length
     ·exact hr.live t _ id _ p (qt aq) hm
     ·have:s.slot t=[.undef]:=by simp [State.slot,List.getElem?_eq_none (Nat.le_of_not_lt aq)]
      rw[this] at hm
      simp at hm
    cases FE:Go.Ref.fA E o.dst with
    |true=>
     rw[FE] at h
     cases h
     refine⟨X,_,.inl aV,Ext.refl X,?_⟩
     refine Rel.fin hr (cL.fA (hr.slot t)) (fun id ty p hm=> ?_) (zif _)
     obtain⟨s0,eX,he⟩:=List.mem_map.1 hm
     rw[Sy he] at eX
     exact Jx id ty p eX
    |false=>
    rw[FE] at h
    cases h
    cases bR:(s.slot t).all fun v=>v.own.isEmpty with
    |true=>
     refine⟨X,_,.inl aV,Ext.refl X,?_⟩
     refine Rel.fin hr ((hr.slot t).iJ fun j sv u hj hu=> ?_) (fun id ty p hm=> ?_) (zio hr hb)
     ·have:=List.all_eq_true.1 bR sv (List.mem_of_getElem? hj)
      refine hu.place ?_
      cases sv with
      |aj ty y w=>
       cases w with
       |nil=>trivial
       |cons p w=>simp [SV.own] at this
      |bz id a b j=>exact(XR (zio hr hb) (List.mem_of_getElem? hj)).elim
      |_=>trivial
     ·by_cases aq:t<s.sl.length
      ·exact hr.live t _ id _ p (qt aq) hm
      ·have:s.slot t=[.undef]:=by simp [State.slot,List.getElem?_eq_none (Nat.le_of_not_lt aq)]
       rw[this] at hm
       simp at hm
    |false=>
    obtain⟨Y,h1,h2,h3,h4⟩:=hr.xG (hr.slot t) (o.dst.getD 0)
    refine⟨Y,_,.inl (by rw[h1];exact aV),h2,?_⟩
    refine h3.fin h4 (fun id ty p hm=> ?_) (zio hr hb)
    by_cases aq:t<s.sl.length
    ·obtain⟨B,hB⟩:=hr.live t _ id _ p (qt aq) hm
     exact⟨B,by rw[xQ];exact hB⟩
    ·have:s.slot t=[.undef]:=by simp [State.slot,List.getElem?_eq_none (Nat.le_of_not_lt aq)]
     rw[this] at hm
     simp at hm
  |_=>cases ht
 |none=>
 rw[ht] at h
 simp only at h
 split at h
 ·rename_i t y w e
  rw[e] at cC
  cases hb:(XP ops o.dst||takes E o.dst) with
  |true=>
   rw[hb] at h
   cases h
   exact KU hr aV e
  |false=>
   rw[hb] at h
   cases h
   exact aH.plain hr aV cC.bare (fun _ _ _ h=>by cases h)
 ·cases h
 ·cases h
 ·rename_i e
  rw[e] at cC
  exact ME hr aV cC h
 ·rename_i h1 h2 h3 h4
  cases h
  refine z131 hr aV ?_
  cases hx:s.aG x with
  |aj t y w=>exact absurd hx (h1 t y w)
  |bz id c b j=>first|exact absurd hx (h2 id c b j)|exact absurd hx (h3 id c b j)
  |_=>trivial
theorem z198(hr:Rel X s a){ops:List Oper}{x:Operand}(ho:o.op= .assign x){C:FuncId->bU Out}(h:act E C ops o s some=some u):aH P X s a o u:=by
 have aV:(execOp a.eval o).run P X.w= .ok (.value (a.eval x)) X.w:=by simp [execOp,ho]
 unfold act at h
 simp only[ho] at h
 have cC:=hr.aG x
 split at h
 ·rename_i t y w e
  rw[e] at cC
  cases h
  exact KU hr aV e
 ·cases h
 ·cases h
 ·rename_i e
  rw[e] at cC
  exact ME hr aV cC h
 ·rename_i h1 h2 h3 h4
  cases h
  refine z131 hr aV ?_
  cases hx:s.aG x with
  |aj t y w=>exact absurd hx (h1 t y w)
  |bz id c b j=>first|exact absurd hx (h2 id c b j)|exact absurd hx (h3 id c b j)
  |_=>trivial
theorem afS(hr:Rel X s a){ops:List Oper}{c x y:Operand}(ho:o.op= .pick c x y){C:FuncId->bU Out}(h:act E C ops o s some=some u):aH P X s a o u:=by
 unfold act at h
 simp only[ho] at h
 have hc:=hr.aG c
 split at h
 ·rename_i p w e
  rw[e] at hc
  have hv:=OK hc
  have key:∀z,aH P X s a o {v:=[(s.aG z).shut]}\/(execOp a.eval o).run P X.w≠ .ok (.value (a.eval z)) X.w:=by
   intro z
   by_cases hz:(execOp a.eval o).run P X.w= .ok (.value (a.eval z)) X.w
   ·refine .inl (aH.plain hr hz (hr.aG z).shut (fun id t p e=> ?_) (zqo _))
    exact sd hr (Sy e)
   ·exact .inr hz
  cases p with
  |true=>
   cases h
   exact(key x).resolve_right (by simp [execOp,ho,hv,asBool])
  |false=>
   cases h
   exact(key y).resolve_right (by simp [execOp,ho,hv,asBool])
 ·cases h
theorem RM(op:BinOp)(T:TypeId)(x y:Operand)(k k':IntKind)(m n:Int)(w:World):(eqGuard op T x y (.int k m) (.int k' n)).run P w= .ok () w:=by
 cases op<;>simp [eqGuard]
theorem za9(op:BinOp)(T:TypeId)(x y:Operand)(m n:ByteArray)(w:World):(eqGuard op T x y (.string m) (.string n)).run P w= .ok () w:=by
 cases op<;>simp [eqGuard]
theorem zqn(op:BinOp)(T:TypeId)(x y:Operand)(m n:Bool)(w:World):(eqGuard op T x y (.bool m) (.bool n)).run P w= .ok () w:=by
 cases op<;>simp [eqGuard]
theorem zq3{op:BinOp}{T:TypeId}{k k':IntKind}{m n:Int}{l:List SV}(w:World)(h:qP op k m k' n some=some l):
 ∃sv v,l=[sv]/\(Go.binOp op T (.int k m) (.int k' n)).run P w= .ok v w/\Plain sv/\(∀X pl,aA X pl sv v)/\∀id t p,sv≠ .ptr id t p:=by
 have done:∀{sv:SV} {v:Value},l=[sv]->(Go.binOp op T (.int k m) (.int k' n)).run P w= .ok v w->Plain sv->(∀X pl,aA X pl sv v)->(∀id t p,sv≠ .ptr id t p)->∃sv v,l=[sv]/\(Go.binOp op T (.int k m) (.int k' n)).run P w= .ok v w/\Plain sv/\(∀X pl,aA X pl sv v)/\∀id t p,sv≠ .ptr id t p:=fun h1 h2 h3 h4 h5=>⟨_,_,h1,h2,h3,h4,h5⟩
 have pi:∀{k:IntKind} {n:Int},Plain (.aj (.int k) n []):=trivial
 have pb:∀{b:Bool},Plain (.aj .bool b []):=trivial
 unfold qP at h
 cases op
 case shl=>
  simp only at h
  cases hd:decide (n<0) with
  |true=>rw[hd] at h;cases h
  |false=>
   rw[hd] at h;cases h
   have:¬n<0:=of_decide_eq_false hd
   exact done rfl (by simp [Go.binOp,Op.shift,this]) pi (fun _ _=>jg) (by simp)
 case shr=>
  simp only at h
  cases hd:decide (n<0) with
  |true=>rw[hd] at h;cases h
  |false=>
   rw[hd] at h;cases h
   have:¬n<0:=of_decide_eq_false hd
   exact done rfl (by simp [Go.binOp,Op.shift,this]) pi (fun _ _=>jg) (by simp)
 all_goals
  simp only at h
  split at h
  case isFalse=>cases h
  rename_i hk
  subst hk
 case quo=>
  cases hd:decide (n=0) with
  |true=>rw[hd] at h;cases h
  |false=>
   rw[hd] at h;cases h
   have:¬n=0:=of_decide_eq_false hd
   exact done rfl (by simp [Go.binOp,Op.intDiv,this]) pi (fun _ _=>jg) (by simp)
 case rem=>
  cases hd:decide (n=0) with
  |true=>rw[hd] at h;cases h
  |false=>
   rw[hd] at h;cases h
   have:¬n=0:=of_decide_eq_false hd
   exact done rfl (by simp [Go.binOp,Op.intDiv,this]) pi (fun _ _=>jg) (by simp)
 case add=>cases h;exact done rfl (by simp [Go.binOp,Op.intArith]) pi (fun _ _=>jg) (by simp)
 case sub=>cases h;exact done rfl (by simp [Go.binOp,Op.intArith]) pi (fun _ _=>jg) (by simp)
 case mul=>cases h;exact done rfl (by simp [Go.binOp,Op.intArith]) pi (fun _ _=>jg) (by simp)
 case and=>cases h;exact done rfl (by simp only[Go.binOp,ne_eq,not_true_eq_false,if_false];rfl) pi (fun _ _=>jg) (by simp)
 case or=>cases h;exact done rfl (by simp only[Go.binOp,ne_eq,not_true_eq_false,if_false];rfl) pi (fun _ _=>jg) (by simp)
 case xor=>cases h;exact done rfl (by simp only[Go.binOp,ne_eq,not_true_eq_false,if_false];rfl) pi (fun _ _=>jg) (by simp)
 case andNot=>cases h;exact done rfl (by simp only[Go.binOp,ne_eq,not_true_eq_false,if_false];rfl) pi (fun _ _=>jg) (by simp)
 case eql=>cases h;exact done rfl (by simp only[Go.binOp,ne_eq,not_true_eq_false,if_false];rfl) pb (fun _ _=>nv) (by simp)
 case neq=>cases h;exact done rfl (by simp only[Go.binOp,ne_eq,not_true_eq_false,if_false];rfl) pb (fun _ _=>nv) (by simp)
 case lss=>cases h;exact done rfl (by simp only[Go.binOp,ne_eq,not_true_eq_false,if_false];rfl) pb (fun _ _=>nv) (by simp)
 case leq=>cases h;exact done rfl (by simp only[Go.binOp,ne_eq,not_true_eq_false,if_false];rfl) pb (fun _ _=>nv) (by simp)
 case gtr=>cases h;exact done rfl (by simp only[Go.binOp,ne_eq,not_true_eq_false,if_false];rfl) pb (fun _ _=>nv) (by simp)
 case geq=>cases h;exact done rfl (by simp only[Go.binOp,ne_eq,not_true_eq_false,if_false];rfl) pb (fun _ _=>nv) (by simp)
end Go.Ref

namespace Go.Ref
open Go
variable {P:Program} {E:Env} {X:ax} {s:State} {a:Act} {o:Oper} {u:Out}
theorem VC(x y:ByteArray):(x.toList==y.toList)=decide (x=y):=by
 rw[ByteArray.toList_eq,ByteArray.toList_eq]
 by_cases h:x=y
 ·subst h;simp
 ·have:¬x.data.toList=y.data.toList:=fun e=>h (by
   cases x;cases y
   congr
   exact Array.toList_inj.1 e)
  rw[beq_eq_false_iff_ne.2 this,decide_eq_false h]
theorem ai5{op:BinOp}{T:TypeId}{m n:ByteArray}{l:List SV}(w:World)(h:qQ op m n some=some l):
 ∃sv v,l=[sv]/\(Go.binOp op T (.string m) (.string n)).run P w= .ok v w/\Plain sv/\(∀X pl,aA X pl sv v)/\∀id t p,sv≠ .ptr id t p:=by
 have pb:∀{b:Bool},Plain (.aj .bool b []):=trivial
 unfold qQ at h
 cases op<;>simp only at h<;>first|(cases h;done)|skip
 case add=>
  cases hd:decide (m.size+n.size<=9223372036854775807) with
  |false=>rw[hd] at h;cases h
  |true=>
   rw[hd] at h;cases h
   have h1:=of_decide_eq_true hd
   have h2:¬((((m.size+n.size:Nat)):Int)>IntKind.i64.max):=by
    show¬((((m.size+n.size:Nat)):Int)>9223372036854775807)
    omega
   refine⟨_,_,rfl,?_,trivial,fun _ _=>AZ,by simp⟩
   simp only[Go.binOp,Op.stringOp]
   rw[if_neg h2]
   rfl
 all_goals
  cases h
  refine⟨_,_,rfl,?_,pb,fun _ _=>nv,by simp⟩
  simp only[Go.binOp,Op.stringOp,VC]
  rfl
theorem Lp(hE:ap P E){T:TypeId}{t:Ty}(ht:E.ty T=some t)(w:World):(isAgg T).run P w= .ok t.agg w:=by
 have hu:=(hE.ty T t ht).dj
 cases t
 case bool=>simp [isAgg,run_underlying hu,Ty.agg]
 case int=>simp [isAgg,run_underlying hu,Ty.agg]
 case str=>simp [isAgg,run_underlying hu,Ty.agg]
 case sl=>simp [isAgg,run_underlying hu.1,Ty.agg]
 case arr=>obtain⟨e,h1,_⟩:=hu;simp [isAgg,run_underlying h1,Ty.agg]
 case unit=>obtain⟨fs,h1,_⟩:=hu;simp [isAgg,run_underlying h1,Ty.agg]
 case pair=>obtain⟨fs,h1,_⟩:=hu;simp [isAgg,run_underlying h1,Ty.agg]
 case aJ=>exact hu.elim
theorem lA(hE:ap P E){T:TypeId}{t:Ty}(ht:E.ty T=some t)(w:World):(sizeOf T).run P w= .ok t.cells w:=by
 obtain⟨i,h1,h2,_⟩:=(hE.ty T t ht).info
 simp [sizeOf,typeInfo,h1,h2]
theorem Et(hE:ap P E){T:TypeId}{t:Ty}(ht:E.ty T=some t){x:El t}{cs:List Value}(hr:bg X t x cs){all:Array Value}{off:Nat}(ha:(all.toList.drop off).take t.cells=cs)(w:World):
 (part T all off).run P w= .ok (dL t cs) w:=by
 have hl:=hr.len
 unfold part
 simp only[Sem.run_bind,Lp hE ht,Result.andThen_ok]
 cases hg:t.agg with
 |true=>
  simp only[if_true,Sem.run_bind,lA hE ht,Result.andThen_ok,Sem.run_pure,jx hg]
  congr 2
  apply Array.ext'
  rw[<-ha,Array.toList_extract,List.extract_eq_take_drop]
  simp
 |false=>
  simp only[Bool.false_eq_true,if_false]
  have hc:t.cells=1:=by cases t<;>simp_all [Ty.agg,Ty.cells]
  rw[hc] at hl ha
  match cs,hl with
  | [c],_=>
    rw[Qa hg]
    have cB:all[off]? =some c:=by
     have h1:(all.toList.drop off)[0]? =some c:=by
      have:=congrArg (fun l=>l[0]?) ha
      simpa [List.getElem?_take] using this
     simpa using h1
    simp [cB]
def QF(d:Nat)(xs ys:Array Value)(f:Field)(_:Option Bool×Unit):Sem (ForInStep (Option Bool×Unit)):=
 if f.name≠ "_" then do
  let __do_lift<-part f.type xs f.offset
  let __do_lift_1<-part f.type ys f.offset
  let __do_lift<-Op.equalIn d f.type __do_lift __do_lift_1
  if(!__do_lift)=true then pure (ForInStep.done (some false,()))
   else pure (ForInStep.yield (none,()))
 else pure (ForInStep.yield (none,()))
theorem zur(hE:ap P E){d:Nat}{xs ys:Array Value}(w:World)
 (ih:∀(t:Ty) (T:TypeId),E.ty T=some t->t.depth<=d->∀(x y:El t) (c1 c2:List Value) (r:Bool),bg X t x c1->bg X t y c2->dC t x y=some r->(Op.equalIn d T (dL t c1) (dL t c2)).run P w= .ok r w):
 ∀(fl:List Field) (t:Ty) (off:Nat),jh E fl t off->t.depth<=d+1->∀(x y:El t) (c1 c2:List Value) (r:Bool),bg X t x c1->bg X t y c2->(xs.toList.drop off).take t.cells=c1->(ys.toList.drop off).take t.cells=c2->dC t x y=some r->
  (forIn fl (none,()) (QF d xs ys)).run P w= .ok (if r=true then(none,()) else(some false,())) w:=by
 intro fl
 induction fl with
 |nil=>
  intro t off hf hd x y c1 c2 r h1 h2 h3 h4 he
  cases t<;>simp only[jh] at hf<;>try exact hf.elim
  simp only[dC,Option.some.injEq] at he
  subst he
  simp [List.forIn_nil]
 |cons f fl Zs=>
  intro t off hf hd x y c1 c2 r h1 h2 h3 h4 he
  cases t<;>simp only[jh] at hf<;>try exact hf.elim
  rename_i ta tb
  obtain⟨ho,FG,hn,bE⟩:=hf
  obtain⟨ca,cb,e1,ra,rb⟩:=h1
  obtain⟨da,db,e2,sa,sb⟩:=h2
  simp only[dC] at he
  split at he
  case h_2=>cases he
  rename_i p q hp hq
  cases he
  simp only[Ty.depth] at hd
  have la:=ra.len
  have lb:=rb.len
  have ma:=sa.len
  have mb:=sb.len
  have t1:(xs.toList.drop off).take ta.cells=ca:=by
   have:=congrArg (fun l=>l.take ta.cells) (h3.trans e1)
   simp only[List.take_take,Ty.cells] at this
   rw[Nat.min_eq_left (Nat.le_add_right _ _),<-la,List.take_left] at this
   rw[<-la];exact this
  have t2:(ys.toList.drop off).take ta.cells=da:=by
   have:=congrArg (fun l=>l.take ta.cells) (h4.trans e2)
   simp only[List.take_take,Ty.cells] at this
   rw[Nat.min_eq_left (Nat.le_add_right _ _),<-ma,List.take_left] at this
   rw[<-ma];exact this
  have u1:(xs.toList.drop (off+ta.cells)).take tb.cells=cb:=by
   have:=congrArg (fun l=>l.drop ta.cells) (h3.trans e1)
   simp only[Ty.cells] at this
   rw[List.drop_take,Nat.add_sub_cancel_left,List.drop_drop,<-la,List.drop_left] at this
   rw[<-la];exact this
  have u2:(ys.toList.drop (off+ta.cells)).take tb.cells=db:=by
   have:=congrArg (fun l=>l.drop ta.cells) (h4.trans e2)
   simp only[Ty.cells] at this
   rw[List.drop_take,Nat.add_sub_cancel_left,List.drop_drop,<-ma,List.drop_left] at this
   rw[<-ma];exact this
  have og:=Et hE FG ra (all:=xs) (off:=f.offset) (by rw[ho];exact t1) w
  have B7:=Et hE FG sa (all:=ys) (off:=f.offset) (by rw[ho];exact t2) w
  have heq:=ih ta f.type FG (by omega) x.1 y.1 ca da p ra sa hp
  have JQ:(QF d xs ys f (none,())).run P w= .ok (if p=true then ForInStep.yield (none,()) else ForInStep.done (some false,())) w:=by
   unfold QF
   rw[if_pos hn]
   simp only[Sem.run_bind,og,B7,heq,Result.andThen_ok]
   cases p<;>rfl
  rw[List.forIn_cons]
  simp only[Sem.run_bind,JQ,Result.andThen_ok]
  cases p with
  |false=>rfl
  |true=>
   simp only[if_true,Bool.true_and]
   exact Zs tb (off+ta.cells) bE (by omega) x.2 y.2 cb db q rb sb u1 u2 hq
theorem afV(hE:ap P E)(w:World){d n:Nat}{k:IntKind}{T e:TypeId}(ht:P.underlying T=some (.array n e))(he:E.ty e=some (.int k)){x y:List Int}{c1 c2:List Value}(r1:bg X (.arr n (.int k)) x c1)(r2:bg X (.arr n (.int k)) y c2):
 (Op.equalIn (d+2) T (.agg c1.toArray) (.agg c2.toArray)).run P w= .ok (decide (x=y)) w:=by
 obtain⟨l1,m1,e1⟩:=r1
 obtain⟨l2,m2,e2⟩:=r2
 have l1:x.length=n:=l1
 have l2:y.length=n:=l2
 have key:decide (x=y)=(List.range n).all fun i=>decide (x.getD i 0=y.getD i 0):=by
  by_cases Aw:x=y
  ·rw[decide_eq_true Aw]
   exact(List.all_eq_true.2 fun i _=>by rw[Aw];simp).symm
  ·rw[decide_eq_false Aw]
   cases ha:(List.range n).all fun i=>decide (x.getD i 0=y.getD i 0) with
   |false=>rfl
   |true=>
    refine absurd (List.ext_getElem (l1.trans l2.symm) fun i h1 h2=> ?_) Aw
    have:=of_decide_eq_true (List.all_eq_true.1 ha i (List.mem_range.2 (by omega)))
    simpa [List.getD_eq_getElem?_getD,List.getElem?_eq_getElem h1,List.getElem?_eq_getElem h2] using this
 rw[key,List.range_eq_range',Op.equalIn]
 simp only[Sem.run_bind,run_underlying ht,Result.andThen_ok,lA hE he,Std.Legacy.Range.forIn_eq_forIn_range',Std.Legacy.Range.size,Nat.sub_zero,Nat.add_sub_cancel,Nat.div_one]
 have hl:∀i∈List.range' 0 n 1,i<n:=fun i hi=>by simpa using(List.mem_range'_1.1 hi).2
 generalize List.range' 0 n 1=l at hl⊢
 induction l with
 |nil=>simp
 |cons i l ih=>
  have hi:i<n:=hl i (by simp)
  have g1:x[i]? =some (x.getD i 0):=by rw[List.getD_eq_getElem?_getD,List.getElem?_eq_getElem (by omega)];rfl
  have g2:y[i]? =some (y.getD i 0):=by rw[List.getD_eq_getElem?_getD,List.getElem?_eq_getElem (by omega)];rfl
  have p1:=e1 i (x.getD i 0) g1
  have p2:=e2 i (y.getD i 0) g2
  have px:=Et hE he p1 (all:=c1.toArray) (off:=i*(Ty.int k).cells) rfl w
  have py:=Et hE he p2 (all:=c2.toArray) (off:=i*(Ty.int k).cells) rfl w
  rw[lB p1] at px
  rw[lB p2] at py
  have pe:(Op.equalIn (d+1) e (.int k (x.getD i 0)) (.int k (y.getD i 0))).run P w= .ok (decide (x.getD i 0=y.getD i 0)) w:=by
   have hu:P.underlying e=some (.int k):=(hE.ty e _ he).dj
   unfold Op.equalIn
   simp only[Sem.run_bind,run_underlying hu,Result.andThen_ok,if_true,Sem.run_pure]
   rfl
  simp only[List.forIn_cons,Sem.run_bind,px,py,pe,Result.andThen_ok,List.all_cons]
  cases hb:decide (x.getD i 0=y.getD i 0)
  ·simp
  ·simp only[Bool.not_true,Bool.false_eq_true,if_false,Sem.run_pure,Result.andThen_ok,Bool.true_and]
   exact ih fun j hj=>hl j (by simp [hj])
theorem K6(hE:ap P E)(w:World):∀(d:Nat) (t:Ty) (T:TypeId),E.ty T=some t->t.depth<=d->∀(x y:El t) (c1 c2:List Value) (r:Bool),bg X t x c1->bg X t y c2->dC t x y=some r->(Op.equalIn d T (dL t c1) (dL t c2)).run P w= .ok r w:=by
 intro d
 induction d with
 |zero=>intro t T ht hd;cases t<;>simp only[Ty.depth] at hd<;>omega
 |succ d ih=>
  intro t T ht hd x y c1 c2 r h1 h2 he
  have hu:=(hE.ty T t ht).dj
  cases t with
  |bool=>
   rw[vr h1,vr h2]
   simp only[dC,Option.some.injEq] at he
   subst he
   unfold Op.equalIn
   simp only[Sem.run_bind,run_underlying hu,Result.andThen_ok,Sem.run_pure]
  |int k=>
   rw[lB h1,lB h2]
   simp only[dC,Option.some.injEq] at he
   subst he
   unfold Op.equalIn
   simp only[Sem.run_bind,run_underlying hu,Result.andThen_ok,if_true,Sem.run_pure]
   rfl
  |str=>
   rw[nw h1,nw h2]
   simp only[dC,Option.some.injEq] at he
   subst he
   unfold Op.equalIn
   simp only[Sem.run_bind,run_underlying hu,Result.andThen_ok,Sem.run_pure]
   rw[beq_toListBytes,VC]
  |sl e t=>simp [dC] at he
  |arr n t=>
   cases t<;>simp only[dC,Option.some.injEq,reduceCtorEq] at he
   rename_i k
   subst he
   obtain⟨e,im,iI,_⟩:=hu
   obtain⟨d,rfl⟩:∃d',d=d'+1:=⟨d-1,by simp only[Ty.depth] at hd;omega⟩
   rw[jx rfl,jx rfl]
   exact afV hE w im iI h1 h2
  |aJ _ _ _=>exact hu.elim
  |unit=>
   obtain⟨fs,im,iI,Ro,_⟩:=hu
   rw[jx rfl,jx rfl]
   unfold Op.equalIn
   simp only[Sem.run_bind,run_underlying im,Result.andThen_ok,run_program,Ro,Bool.false_eq_true,if_false]
   rw[<-Array.forIn_toList]
   have:=zur (X:=X) hE (d:=d) (xs:=c1.toArray) (ys:=c2.toArray) w ih fs.toList .unit 0 iI hd x y c1 c2 r h1 h2 (by have:=h1.len;simp [Ty.cells] at this⊢;subst this;rfl) (by have:=h2.len;simp [Ty.cells] at this⊢;subst this;rfl) he
   unfold QF at this
   rw[this]
   simp only[Result.andThen_ok]
   cases r<;>rfl
  |pair ta tb=>
   obtain⟨fs,im,iI,Ro,_⟩:=hu
   rw[jx rfl,jx rfl]
   unfold Op.equalIn
   simp only[Sem.run_bind,run_underlying im,Result.andThen_ok,run_program,Ro,Bool.false_eq_true,if_false]
   rw[<-Array.forIn_toList]
   have:=zur (X:=X) hE (d:=d) (xs:=c1.toArray) (ys:=c2.toArray) w ih fs.toList (.pair ta tb) 0 iI hd x y c1 c2 r h1 h2 (by have:=h1.len;simp only[List.drop_zero];rw[<-this];exact List.take_length) (by have:=h2.len;simp only[List.drop_zero];rw[<-this];exact List.take_length) he
   unfold QF at this
   rw[this]
   simp only[Result.andThen_ok]
   cases r<;>rfl
end Go.Ref

namespace Go.Ref
open Go
variable {P:Program} {E:Env} {X:ax} {s:State} {a:Act} {o:Oper} {u:Out}
theorem ai4(hE:ap P E){op:BinOp}{T:TypeId}{x y:SV}{vx vy:Value}{px py:List Nat->Place}{l:List SV}(w:World)(xo yo:Operand)(hx:aA X px x vx)(hy:aA X py y vy)(h:qO E op T x y some=some l):
 ∃b:Bool,l=bl b/\(eqGuard op T xo yo vx vy).run P w= .ok () w/\(Go.binOp op T vx vy).run P w= .ok (.bool b) w:=by
 unfold qO at h
 split at h
 case h_2=>cases h
 rename_i t ht
 split at h
 ·cases h
 rename_i YE
 obtain⟨m,h,hm⟩:=zy h
 obtain⟨n,h,hn⟩:=zy h
 split at h
 case h_2=>cases h
 rename_i r hr
 obtain⟨c1,r1,e1⟩:=hm X px vx hx
 obtain⟨c2,r2,e2⟩:=hn X py vy hy
 have hd:t.depth<=10000:=by
  have:Nat.ble t.depth 1000=true:=by simpa using YE
  have:=Nat.le_of_ble_eq_true this
  omega
 have heq:=K6 hE w 10000 t T ht hd m n c1 c2 r r1 r2 hr
 have hu:=(hE.ty T t ht).dj
 have hg:(eqGuard op T xo yo vx vy).run P w= .ok () w:=by
  cases t
  case bool=>rw[e1,e2,vr r1,vr r2];exact zqn ..
  case int=>rw[e1,e2,lB r1,lB r2];exact RM ..
  case str=>rw[e1,e2,nw r1,nw r2];exact za9 ..
  case sl=>simp [dC] at hr
  case arr=>
   obtain⟨fs,_,_,hq⟩:=hu
   rw[e1,e2,jx rfl,jx rfl]
   cases op<;>simp [eqGuard,hq]
  case aJ=>simp [dC] at hr
  all_goals
   obtain⟨fs,_,_,_,hq⟩:=hu
   rw[e1,e2,jx rfl,jx rfl]
   cases op<;>simp [eqGuard,hq]
 split at h
 ·cases h
  refine⟨r,rfl,hg,?_⟩
  rw[e1,e2]
  cases t
  case int=>rw[lB r1,lB r2];simp only[dC,Option.some.injEq] at hr;subst hr;simp only[Go.binOp,ne_eq,not_true_eq_false,if_false];rfl
  case str=>rw[nw r1,nw r2];simp only[dC,Option.some.injEq] at hr;subst hr;simp only[Go.binOp,Op.stringOp,VC];rfl
  case bool=>rw[vr r1,vr r2] at heq⊢;simp only[Go.binOp,Sem.run_bind,Op.equal,Op.maxDepth,heq,Result.andThen_ok,Sem.run_pure]
  case sl=>simp [dC] at hr
  case aJ=>simp [dC] at hr
  all_goals
   rw[jx rfl,jx rfl] at heq⊢
   simp only[Go.binOp,Sem.run_bind,Op.equal,Op.maxDepth,heq,Result.andThen_ok,Sem.run_pure]
 ·cases h
  refine⟨!r,rfl,hg,?_⟩
  rw[e1,e2]
  cases t
  case int=>rw[lB r1,lB r2];simp only[dC,Option.some.injEq] at hr;subst hr;simp only[Go.binOp,ne_eq,not_true_eq_false,if_false];rfl
  case str=>rw[nw r1,nw r2];simp only[dC,Option.some.injEq] at hr;subst hr;simp only[Go.binOp,Op.stringOp,VC];rfl
  case bool=>rw[vr r1,vr r2] at heq⊢;simp only[Go.binOp,Sem.run_bind,Op.equal,Op.maxDepth,heq,Result.andThen_ok,Sem.run_pure]
  case sl=>simp [dC] at hr
  case aJ=>simp [dC] at hr
  all_goals
   rw[jx rfl,jx rfl] at heq⊢
   simp only[Go.binOp,Sem.run_bind,Op.equal,Op.maxDepth,heq,Result.andThen_ok,Sem.run_pure]
 ·cases h
theorem RN(op:BinOp)(T:TypeId)(x y:Operand)(p q:Option Addr)(w:World):(eqGuard op T x y (.pointer p) (.pointer q)).run P w= .ok () w:=by
 cases op<;>simp [eqGuard]
theorem ajt(d:Nat){T e:TypeId}(hu:P.underlying T=some (.pointer e))(w:World)(ad:Addr):(Op.equalIn (d+1) T (.pointer (some ad)) (.pointer none)).run P w= .ok false w:=by
 unfold Op.equalIn
 simp only[Sem.run_bind,run_underlying hu,Result.andThen_ok,Sem.run_pure]
theorem ajs(d:Nat){T e:TypeId}(hu:P.underlying T=some (.pointer e))(w:World):(Op.equalIn (d+1) T (.pointer none) (.pointer none)).run P w= .ok true w:=by
 unfold Op.equalIn
 simp only[Sem.run_bind,run_underlying hu,Result.andThen_ok,Sem.run_pure]
 rfl
theorem LG{t:Ty}{p:List Nat}{r:Nat}{v:Value}(h:(t.bF&& !t.eF)=false)(hv:np t p r v):∃ad,v= .pointer (some ad):=by
 cases hs:t.bF with
 |false=>exact⟨_,((qq hs).1 hv).1⟩
 |true=>
  rw[hs,Bool.true_and,Bool.not_eq_false'] at h
  unfold Ty.eF at h
  split at h
  ·exact⟨_,hv.1⟩
  ·cases h
theorem alY(hE:ap P E){op:BinOp}{T:TypeId}{x y:SV}{vx vy:Value}{px py:List Nat->Place}{u:Out}(w:World)(xo yo:Operand)(hx:aA X px x vx)(hy:aA X py y vy)(h:bin E op T x y (fun v=>some ({v:=v}:Out))=some u):
 ∃sv v,u={v:=[sv]}/\(eqGuard op T xo yo vx vy).run P w= .ok () w/\(Go.binOp op T vx vy).run P w= .ok v w/\(∀X pl,aA X pl sv v)/\∀id t p,sv≠ .ptr id t p:=by
 unfold bin at h
 split at h
 ·rename_i k m o1 k' n o2
  rw[AO hx,AO hy]
  obtain⟨l,h1,h2⟩:=jD zq2 h
  obtain⟨sv,v,rfl,hv,_,hr,hp⟩:=zq3 (T:=T) w h1
  cases h2
  exact⟨sv,v,rfl,RM ..,hv,hr,hp⟩
 ·rename_i m o1 n o2
  rw[zic hx,zic hy]
  obtain⟨l,h1,h2⟩:=jD zq4 h
  obtain⟨sv,v,rfl,hv,_,hr,hp⟩:=ai5 (T:=T) w h1
  cases h2
  exact⟨sv,v,rfl,za9 ..,hv,hr,hp⟩
 ·obtain⟨r,_,hpv⟩:=hx
  have Zm:vy= .pointer none:=hy
  subst Zm
  split at h
  ·cases h
  rename_i lf
  rw[Bool.not_eq_true,Bool.or_eq_false_iff,Bool.not_eq_false'] at lf
  obtain⟨ad,rfl⟩:=LG lf.1 hpv
  obtain⟨e,hu⟩:=hE.pt T lf.2
  have heq:∀ad,(Op.equal T (.pointer (some ad)) (.pointer none)).run P w= .ok false w:=fun ad=>ajt 9999 hu w ad
  split at h
  ·cases h
   exact⟨_,_,rfl,RN ..,by(simp only[Go.binOp,Sem.run_bind,heq,Result.andThen_ok,Sem.run_pure];try rfl),fun _ _=>nv,by simp⟩
  ·cases h
   exact⟨_,_,rfl,RN ..,by(simp only[Go.binOp,Sem.run_bind,heq,Result.andThen_ok,Sem.run_pure];try rfl),fun _ _=>nv,by simp⟩
  ·cases h
 ·have JU:vx= .pointer none:=hx
  have Zm:vy= .pointer none:=hy
  subst JU Zm
  split at h
  ·cases h
  rename_i lf
  obtain⟨e,hu⟩:=hE.pt T (by simpa using lf)
  have heq:(Op.equal T (.pointer none) (.pointer none)).run P w= .ok true w:=ajs 9999 hu w
  split at h
  ·cases h
   exact⟨_,_,rfl,RN ..,by(simp only[Go.binOp,Sem.run_bind,heq,Result.andThen_ok,Sem.run_pure];try rfl),fun _ _=>nv,by simp⟩
  ·cases h
   exact⟨_,_,rfl,RN ..,by(simp only[Go.binOp,Sem.run_bind,heq,Result.andThen_ok,Sem.run_pure];try rfl),fun _ _=>nv,by simp⟩
  ·cases h
 ·obtain⟨l,h1,h2⟩:=jD zq1 h
  obtain⟨b,rfl,hg,hv⟩:=ai4 hE w xo yo hx hy h1
  cases h2
  exact⟨_,_,rfl,hg,hv,fun _ _=>nv,by simp⟩
theorem ajl(hE:ap P E)(hr:Rel X s a){ops:List Oper}{op:BinOp}{T T':TypeId}{x y:Operand}(ho:o.op= .binOp op T x y T'){C:FuncId->bU Out}(h:act E C ops o s some=some u):aH P X s a o u:=by
 unfold act at h
 simp only[ho] at h
 obtain⟨sv,v,rfl,hg,hv,aL,hp⟩:=alY hE X.w x y (hr.aG x) (hr.aG y) h
 exact aH.plain hr (by simp only[execOp,ho,Sem.run_bind,hg,hv,Result.andThen_ok,Sem.run_pure]) (aL _ _) (fun id t p e=>absurd e (hp id t p)) (amt aL)
end Go.Ref

namespace Go.Ref
open Go
variable {P:Program} {E:Env} {X:ax} {s:State} {a:Act} {o:Oper} {u:Out}
theorem P2(ad:Addr)(h:ad.spot=none)(m n:Nat):(ad.add m).add n=ad.add (m+n):=by
 unfold Addr.add
 by_cases h1:m=0<;>by_cases h2:n=0<;>simp [h1,h2,Nat.add_assoc]
theorem AX{ad:Addr}(h:ad.spot=none)(m:Nat):(ad.add m).spot=none:=by
 unfold Addr.add
 split
 ·exact h
 ·rfl
theorem iC(g i j:Nat):(⟨g,i,none⟩:Addr).add j=⟨g,i+j,none⟩:=by
 unfold Addr.add
 split<;>simp_all
theorem FV:∀(t:Ty) (p q:List Nat) (u:Ty),t.at_ p=some u->t.off (p++q)=t.off p+u.off q:=by
 intro t
 induction t with
 |arr n t ih=>
  intro p q u h
  cases p with
  |nil=>simp only[Ty.at_,Option.some.injEq] at h;subst h;simp [Ty.off]
  |cons i p=>
   simp only[Ty.at_] at h
   simp only[List.cons_append,Ty.off,ih p q u h]
   omega
 |pair x y JZ J0=>
  intro p q u h
  cases p with
  |nil=>simp only[Ty.at_,Option.some.injEq] at h;subst h;simp [Ty.off]
  |cons i p=>
   cases i with
   |zero=>simp only[Ty.at_] at h;simp only[List.cons_append,Ty.off,JZ p q u h]
   |succ i=>
    simp only[Ty.at_] at h
    have:=J0 (i::p) q u h
    simp only[List.cons_append,Ty.off] at this⊢
    omega
 |_=>
  intro p q u h
  cases p with
  |nil=>simp only[Ty.at_,Option.some.injEq] at h;subst h;simp [Ty.off]
  |cons i p=>simp [Ty.at_] at h
theorem OU:∀(t:Ty) (p q:List Nat) (u:Ty),t.at_ p=some u->t.eE p->u.eE q->t.eE (p++q):=by
 intro t
 induction t with
 |arr n t ih=>
  intro p q u h hp hq
  cases p with
  |nil=>simp only[Ty.at_,Option.some.injEq] at h;subst h;exact hq
  |cons i p=>exact⟨hp.1,ih p q u h hp.2 hq⟩
 |pair x y JZ J0=>
  intro p q u h hp hq
  cases p with
  |nil=>simp only[Ty.at_,Option.some.injEq] at h;subst h;exact hq
  |cons i p=>
   cases i with
   |zero=>exact JZ p q u h hp hq
   |succ i=>exact J0 (i::p) q u h hp hq
 |_=>
  intro p q u h hp hq
  cases p with
  |nil=>simp only[Ty.at_,Option.some.injEq] at h;subst h;exact hq
  |cons i p=>simp [Ty.at_] at h
theorem getD_some{α:Type}{xs:List α}{i:Nat}(d:α)(h:i<xs.length):xs[i]? =some (xs.getD i d):=by
 simp [List.getD_eq_getElem?_getD,List.getElem?_eq_getElem h]
theorem P7{X:ax}:∀{t:Ty} {p:List Nat} {x:El t} {cs:List Value} {u:Ty} {y:El u},bg X t x cs->t.eE p->El.get t p x=some ⟨u,y⟩->
 t.at_ p=some u/\t.off p+u.cells<=t.cells/\bg X u y ((cs.drop (t.off p)).take u.cells):=by
 intro t
 induction t with
 |arr n t ih=>
  intro p x cs u y hr hp h
  cases p with
  |nil=>
   simp only[El.get,Option.some.injEq,Sigma.mk.injEq] at h
   obtain⟨rfl,h⟩:=h
   cases h
   refine⟨rfl,by simp [Ty.off],?_⟩
   have:=hr.len
   simp only[Ty.off,List.drop_zero]
   rw[<-this,List.take_length]
   exact hr
  |cons i p=>
   obtain⟨hi,hp⟩:=hp
   obtain⟨h1,h2,h3⟩:=hr
   simp only[El.get] at h
   obtain⟨k1,k2,k3⟩:=ih (h3 i _ (getD_some (El.bT t) (by omega))) hp h
   have hn:(i+1)*t.cells<=n*t.cells:=Nat.mul_le_mul_right _ hi
   rw[Nat.add_mul,Nat.one_mul] at hn
   refine⟨k1,by simp only[Ty.off,Ty.cells];omega,?_⟩
   simp only[Ty.off]
   rw[List.drop_take,List.take_take,List.drop_drop,Nat.min_eq_left (by omega)] at k3
   exact k3
 |pair ta tb lY lZ=>
  intro p x cs u y hr hp h
  cases p with
  |nil=>
   simp only[El.get,Option.some.injEq,Sigma.mk.injEq] at h
   obtain⟨rfl,h⟩:=h
   cases h
   refine⟨rfl,by simp [Ty.off],?_⟩
   have:=hr.len
   simp only[Ty.off,List.drop_zero]
   rw[<-this,List.take_length]
   exact hr
  |cons i p=>
   obtain⟨c1,c2,rfl,r1,r2⟩:=hr
   have l1:=r1.len
   have l2:=r2.len
   cases i with
   |zero=>
    obtain⟨k1,k2,k3⟩:=lY r1 hp h
    refine⟨k1,by simp only[Ty.off,Ty.cells];omega,?_⟩
    simp only[Ty.off]
    rw[List.drop_append_of_le_length (by omega),List.take_append_of_le_length (by rw[List.length_drop];omega)]
    exact k3
   |succ i=>
    obtain⟨k1,k2,k3⟩:=lZ r2 hp h
    refine⟨k1,by simp only[Ty.off,Ty.cells];omega,?_⟩
    simp only[Ty.off]
    rw[<-List.drop_drop,<-l1,List.drop_left]
    exact k3
 |_=>
  intro p x cs u y hr hp h
  cases p with
  |nil=>
   simp only[El.get,Option.some.injEq,Sigma.mk.injEq] at h
   obtain⟨rfl,h⟩:=h
   cases h
   refine⟨rfl,by simp [Ty.off],?_⟩
   have:=hr.len
   simp only[Ty.off,List.drop_zero]
   rw[<-this,List.take_length]
   exact hr
  |cons i p=>simp [El.get] at h
theorem P5:∀(fl:List Field) (t:Ty) (off j:Nat) (ft:Ty),jh E fl t off->t.df=true->t.at_ [j]=some ft->∃f,fl[j]? =some f/\f.offset=off+t.off [j]/\E.ty f.type=some ft/\t.eE [j]:=by
 intro fl
 induction fl with
 |nil=>intro t off j ft hf hp h;cases t<;>simp [jh,Ty.df] at hf hp
 |cons f fl ih=>
  intro t off j ft hf hp h
  cases t<;>simp only[jh] at hf<;>try exact hf.elim
  rename_i ta tb
  obtain⟨h1,h2,h3,h4⟩:=hf
  cases j with
  |zero=>
   simp only[Ty.at_,Option.some.injEq] at h
   subst h
   exact⟨f,rfl,by simp [Ty.off,h1],h2,by simp [Ty.eE]⟩
  |succ j=>
   simp only[Ty.at_] at h
   cases htb:tb.df with
   |true=>
    obtain⟨g,g1,g2,g3,g4⟩:=ih tb (off+ta.cells) j ft h4 htb h
    exact⟨g,g1,by simp only[Ty.off];omega,g3,g4⟩
   |false=>
    cases fl with
    |nil=>cases tb<;>simp [jh,Ty.at_] at h4 h
    |cons g fl=>cases tb<;>simp [jh,Ty.df] at h4 htb
theorem R0(hE:ap P E){T:TypeId}{t:Ty}(ht:E.ty T=some t)(hp:t.df=true):∃fs,P.underlying T=some (.struct fs)/\jh E fs.toList t 0:=by
 have hu:=(hE.ty T t ht).dj
 cases t<;>simp [Ty.df] at hp
 obtain⟨fs,h1,h2,_⟩:=hu
 exact⟨fs,h1,h2⟩
theorem z6s(hE:ap P E){f:Field}{ft:Ty}(hf:E.ty f.type=some ft)(hc:ft.cells≠0)(ad:Addr)(w:World):(fieldPlace ad f).run P w= .ok (ad.add f.offset) w:=by
 simp [fieldPlace,lA hE hf,hc]
theorem QH:∀(t:Ty) (p:List Nat) (x:El t) (u:Ty) (y:El u),El.get t p x=some ⟨u,y⟩->t.at_ p=some u:=by
 intro t
 induction t with
 |arr n t ih=>
  intro p x u y h
  cases p with
  |nil=>simp only[El.get,Option.some.injEq,Sigma.mk.injEq] at h;rw[Ty.at_,h.1]
  |cons i p=>exact ih p _ u y h
 |pair a b lY lZ=>
  intro p x u y h
  cases p with
  |nil=>simp only[El.get,Option.some.injEq,Sigma.mk.injEq] at h;rw[Ty.at_,h.1]
  |cons i p=>
   cases i with
   |zero=>exact lY p _ u y h
   |succ i=>exact lZ (i::p) _ u y h
 |_=>
  intro p x u y h
  cases p with
  |nil=>simp only[El.get,Option.some.injEq,Sigma.mk.injEq] at h;rw[Ty.at_,h.1]
  |cons i p=>simp [El.get] at h
theorem ab1(hE:ap P E)(hr:Rel X s a){T:TypeId}{x:Operand}{j:Nat}{ta tb:Ty}(ho:o.op= .fieldAddr T x j)(hg:E.gr T=some (ta,tb))(h:GG (s.aG x) j ta tb some=some u):aH P X s a o u:=by
 have hx:=hr.aG x
 unfold GG at h
 split at h
 case h_2=>cases h
 rename_i id c d e
 rw[e] at hx
 obtain⟨r,hb,hv,_⟩:=hx
 split at h
 case isFalse=>cases h
 rename_i hcd
 rw[Bool.and_eq_true] at hcd
 have:=Ty.aI hcd.1
 subst this
 cases hj:Nat.ble j 2 with
 |false=>rw[hj] at h;cases h
 |true=>
  rw[hj] at h
  cases h
  have hj:=Nat.le_of_ble_eq_true hj
  obtain⟨fs,hu,hf⟩:=hE.gr T _ _ hg
  obtain⟨f,i,g1,g2,g3,g4⟩:=hf j hj
  refine aH.plain hr (v:= .pointer (some ⟨r,mV c [j],none⟩)) ?_ ⟨r,hb,rfl,?_⟩ (fun bc t' p' e'=> ?_)
  ·have hp:∀(ad:Addr) (w:World),(fieldPlace ad f).run P w= .ok (ad.add f.offset) w:=fun ad w=>by simp [fieldPlace,sizeOf,typeInfo,g3,g4]
   simp only[execOp,ho,Sem.run_bind,Instr.fieldAt,run_underlying hu,Result.andThen_ok,g1,hv,Instr.sureAddr,Sem.run_pure,hp]
   rw[iC,g2]
   simp [mV]
  ·match j,hj with
   |0,_=>simp [gIn,Ty.eE]
   |1,_=>trivial
   |2,_=>trivial
  ·injection e' with e1 e2 e3
   subst e1
   exact sd hr e
theorem abA(hE:ap P E)(hr:Rel X s a){T:TypeId}{x:Operand}{j:Nat}{u0:Ty}{id:Nat}{t:Ty}{p:List Nat}(ho:o.op= .fieldAddr T x j)(hT:E.ty T=some u0)(e:s.aG x= .ptr id t p)(h:Gl u0 id t p j some=some u):aH P X s a o u:=by
 have hx:=hr.aG x
 rw[e] at hx
 obtain⟨r,hb,hx⟩:=hx
 unfold Gl at h
 split at h
 case h_2=>cases h
 rename_i ta tb q
 obtain⟨hv,dh⟩:=hx
 have hv:a.eval x= .pointer (some ⟨r,ta.off q,none⟩):=hv
 have dh:ta.eE q:=dh
 split at h
 case h_2=>cases h
 rename_i u'' ci
 split at h
 case isFalse=>cases h
 rename_i iU
 rw[Bool.and_eq_true] at iU
 obtain⟨heq,eV⟩:=iU
 have:=Ty.aI heq
 subst this
 split at h
 case h_2=>cases h
 rename_i ft Fx
 split at h
 ·cases h
 rename_i dI
 cases h
 have hc:ft.cells≠0:=fun e=>dI (by rw[e];rfl)
 obtain⟨fs,im,iI⟩:=R0 hE hT eV
 obtain⟨f,g1,g2,g3,g4⟩:=P5 fs.toList u0 0 j ft iI eV Fx
 refine aH.plain hr (v:= .pointer (some ⟨r,ta.off (q++ [j]),none⟩)) ?_ ⟨r,hb,rfl,OU ta q [j] u0 ci dh g4⟩ (fun bc t' p' e'=> ?_)
 ·have gM:fs[j]? =some f:=by rw[<-Array.getElem?_toList];exact g1
  simp only[execOp,ho,Sem.run_bind,Instr.fieldAt,run_underlying im,Result.andThen_ok,gM,hv,Instr.sureAddr,Sem.run_pure,z6s hE g3 hc]
  rw[iC,FV ta q [j] u0 ci,g2,Nat.zero_add]
 ·injection e' with e1 e2 e3
  subst e1
  exact sd hr e
theorem aa5(hE:ap P E)(hr:Rel X s a){ops:List Oper}{T:TypeId}{x:Operand}{j:Nat}(ho:o.op= .fieldAddr T x j){C:FuncId->bU Out}(h:act E C ops o s some=some u):aH P X s a o u:=by
 unfold act at h
 simp only[ho] at h
 have hx:=hr.aG x
 split at h
 ·rename_i ta tb hg
  exact ab1 hE hr ho hg h
 unfold QG at h
 split at h
 ·rename_i t u' id root p hT e
  rw[e] at hx
  obtain⟨r,hb,hx⟩:=hx
  split at h
  ·exact abA hE hr ho hT e h
  rename_i dY
  have dY:root.bF=false:=by simpa using dY
  obtain⟨hv,dh⟩:=(qq dY).1 hx
  split at h
  case h_2=>cases h
  rename_i u'' ci
  split at h
  case isFalse=>cases h
  rename_i iU
  rw[Bool.and_eq_true] at iU
  obtain⟨heq,eV⟩:=iU
  have:=Ty.aI heq
  subst this
  split at h
  case h_2=>cases h
  rename_i ft Fx
  split at h
  ·cases h
  rename_i dI
  cases h
  have hc:ft.cells≠0:=fun e=>dI (by rw[e];rfl)
  obtain⟨fs,im,iI⟩:=R0 hE hT eV
  obtain⟨f,g1,g2,g3,g4⟩:=P5 fs.toList u' 0 j ft iI eV Fx
  refine aH.plain hr (v:= .pointer (some ⟨r,root.off (p++ [j]),none⟩)) ?_ ⟨r,hb,(qq dY).2 ⟨rfl,OU root p [j] u' ci dh g4⟩⟩ (fun bc t' p' e'=> ?_)
  ·have gM:fs[j]? =some f:=by rw[<-Array.getElem?_toList];exact g1
   simp only[execOp,ho,Sem.run_bind,Instr.fieldAt,run_underlying im,Result.andThen_ok,gM,hv,Instr.sureAddr,Sem.run_pure,z6s hE g3 hc]
   rw[iC,FV root p [j] u' ci,g2,Nat.zero_add]
  ·injection e' with e1 e2 e3
   subst e1
   exact sd hr e
 ·rename_i t u' root y hT e
  rw[e] at hx
  obtain⟨ad,cs,hv,mm,aL,dZ⟩:=hx
  split at h
  case isFalse=>cases h
  rename_i iU
  rw[Bool.and_eq_true] at iU
  obtain⟨heq,eV⟩:=iU
  have:=Ty.aI heq
  subst this
  split at h
  case h_2=>cases h
  rename_i ft z Fx
  split at h
  ·cases h
  rename_i dI
  cases h
  have hc:ft.cells≠0:=fun e=>dI (by rw[e];rfl)
  obtain⟨fs,im,iI⟩:=R0 hE hT eV
  have ci:u'.at_ [j]=some ft:=QH u' [j] y ft z Fx
  obtain⟨f,g1,g2,g3,g4⟩:=P5 fs.toList u' 0 j ft iI eV ci
  obtain⟨k1,k2,k3⟩:=P7 aL g4 Fx
  refine aH.plain hr (v:= .pointer (some (ad.add (u'.off [j])))) ?_ ⟨ad.add (u'.off [j]),_,rfl,AX mm _,k3,fun i v hi=> ?_⟩ (fun bc t' p' e'=>by cases e')
  ·have gM:fs[j]? =some f:=by rw[<-Array.getElem?_toList];exact g1
   simp only[execOp,ho,Sem.run_bind,Instr.fieldAt,run_underlying im,Result.andThen_ok,gM,hv,Instr.sureAddr,Sem.run_pure,z6s hE g3 hc]
   rw[g2,Nat.zero_add]
  ·rw[P2 _ mm]
   refine dZ _ v ?_
   rw[List.getElem?_take] at hi
   split at hi
   ·rw[List.getElem?_drop] at hi;exact hi
   ·cases hi
 ·cases h
end Go.Ref

namespace Go.Ref
open Go
variable {P:Program} {E:Env} {X:ax} {s:State} {a:Act} {o:Oper} {u:Out}
theorem vj{R:Type}{i:Int}{n:Nat}{x:Option R}{z:R}(h:zd i n x=some z):0<=i/\i<(n:Int)/\x=some z:=by
 unfold zd at h
 cases h1:decide (0<=i)<;>rw[h1] at h
 ·cases h
 ·cases h2:decide (i<(n:Int))<;>rw[h2] at h
  ·cases h
  ·exact⟨of_decide_eq_true h1,of_decide_eq_true h2,h⟩
theorem XS{e:TypeId}{t:Ty}{xs:List (El t)}{cs:List Value}(h:bg X (.sl e t) xs cs):∃A c,dL (.sl e t) cs= .slice A xs.length c/\xs.length<=c/\
 ∀(j:Nat) x,xs[j]? =some x->∃ad eD,A=some ad/\ad.spot=none/\bg X t x eD/\∀(i:Nat) v,eD[i]? =some v->X.az (ad.add (j*t.cells+i)) v:=by
 obtain⟨A,c,rfl,h1,h2⟩:=h
 exact⟨A,c,rfl,h1,h2⟩
theorem bg.xD{e:TypeId}{t:Ty}{xs:List (El t)}{A:Option Addr}{n c:Nat}(hn:xs.length=n)(h1:n<=c)(h2:∀(j:Nat) x,xs[j]? =some x->∃ad eD,A=some ad/\ad.spot=none/\bg X t x eD/\∀(i:Nat) v,eD[i]? =some v->X.az (ad.add (j*t.cells+i)) v):bg X (.sl e t) xs [.slice A n c]:=by
 subst hn
 exact⟨A,c,rfl,h1,h2⟩
theorem zqh{R:Type}{s:SV}{K:Int->Option R}{z:R}(h:s.num K=some z):∃n k,K n=some z/\∀(X:ax) pl v,aA X pl s v->v= .int k n:=by
 unfold SV.num at h
 split at h
 ·rename_i k n w
  refine⟨n,k,h,fun X pl v hv=> ?_⟩
  obtain⟨cs,h1,h2,_⟩:=hv
  rw[h2,lB h1]
 ·cases h
theorem abB(hE:ap P E)(hr:Rel X s a){T:TypeId}{x i:Operand}{m:Nat}{t:Ty}{n:Int}{ik:IntKind}{id:Nat}{root:Ty}{p:List Nat}(ho:o.op= .indexAddr T x i)(ei:a.eval i= .int ik n)(hT:E.ty T=some (.arr m t))(dy:s.aG x= .ptr id root p)(hx:aA X (xw x) (.ptr id root p) (a.eval x))(h:Gp m t n id root p some=some u):aH P X s a o u:=by
 obtain⟨r,hb,hx⟩:=hx
 unfold Gp at h
 split at h
 case h_2=>cases h
 rename_i ta tb q
 obtain⟨hv,dh⟩:=hx
 have hv:a.eval x= .pointer (some ⟨r,ta.off q,none⟩):=hv
 have dh:ta.eE q:=dh
 split at h
 case h_2=>cases h
 rename_i u'' ci
 split at h
 case isFalse=>cases h
 rename_i heq
 have:=Ty.aI heq
 subst this
 obtain⟨h0,h1,h⟩:=vj h
 cases h
 obtain⟨e,im,iI,_⟩:=(hE.ty T _ hT).dj
 have aq:n.toNat<m:=by omega
 refine aH.plain hr (v:= .pointer (some ⟨r,ta.off (q++ [n.toNat]),none⟩)) ?_ ⟨r,hb,rfl,OU ta q [n.toNat] _ ci dh ⟨aq,by simp [Ty.eE]⟩⟩ (fun bc t' p' e'=> ?_)
 ·simp only[execOp,ho,Sem.run_bind,Instr.indexAt,ei,hv,asIntOf,Sem.run_pure,Result.andThen_ok,run_underlying im,Instr.sureAddr,Sem.run_ite,h0,h1,and_self,if_true,lA hE iI]
  rw[iC,FV ta q [n.toNat] _ ci]
  simp [Ty.off]
 ·injection e' with e1 e2 e3
  subst e1
  exact sd hr dy
theorem aa6(hE:ap P E)(hr:Rel X s a){ops:List Oper}{T:TypeId}{x i:Operand}(ho:o.op= .indexAddr T x i){C:FuncId->bU Out}(h:act E C ops o s some=some u):aH P X s a o u:=by
 unfold act at h
 simp only[ho] at h
 have hx:=hr.aG x
 have hi:=hr.aG i
 unfold QI at h
 obtain⟨n,ik,h,hn⟩:=zqh h
 have ei:=hn X _ _ hi
 split at h
 ·rename_i e t t' xs w hT dy
  rw[dy] at hx
  obtain⟨ys,h,uh⟩:=zy h
  obtain⟨h0,h1,h⟩:=vj h
  cases h
  obtain⟨cs,lu,ev⟩:=uh X (xw x) _ hx.bare
  obtain⟨A,c,hm,hle,fH⟩:=XS lu
  rw[hm] at ev
  have aq:n.toNat<List.length ys:=by omega
  obtain⟨ad,eD,rfl,mm,aL,dZ⟩:=fH n.toNat _ (getD_some (El.bT t) aq)
  have hu:=(hE.ty T _ hT).dj
  refine aH.plain hr (v:= .pointer (some (ad.add (n.toNat*t.cells)))) ?_ ⟨ad.add (n.toNat*t.cells),eD,rfl,AX mm _,aL,fun j v hj=> ?_⟩ (fun _ _ _ e'=>by cases e')
  ·simp only[execOp,ho,Sem.run_bind,Instr.indexAt,ei,ev,asIntOf,Sem.run_pure,Result.andThen_ok,run_underlying hu.1,Sem.run_ite,h0,h1,and_self,if_true,lA hE hu.2]
  ·rw[P2 _ mm];exact dZ j v hj
 ·rename_i m t id root p hT dy
  rw[dy] at hx
  obtain⟨r,hb,hx⟩:=hx
  split at h
  ·exact abB hE hr ho ei hT dy ⟨r,hb,hx⟩ h
  rename_i dY
  have dY:root.bF=false:=by simpa using dY
  obtain⟨hv,dh⟩:=(qq dY).1 hx
  split at h
  case h_2=>cases h
  rename_i u'' ci
  split at h
  case isFalse=>cases h
  rename_i heq
  have:=Ty.aI heq
  subst this
  obtain⟨h0,h1,h⟩:=vj h
  cases h
  obtain⟨e,im,iI,_⟩:=(hE.ty T _ hT).dj
  have aq:n.toNat<m:=by omega
  refine aH.plain hr (v:= .pointer (some ⟨r,root.off (p++ [n.toNat]),none⟩)) ?_ ⟨r,hb,(qq dY).2 ⟨rfl,OU root p [n.toNat] _ ci dh ⟨aq,by simp [Ty.eE]⟩⟩⟩ (fun bc t' p' e'=> ?_)
  ·simp only[execOp,ho,Sem.run_bind,Instr.indexAt,ei,hv,asIntOf,Sem.run_pure,Result.andThen_ok,run_underlying im,Instr.sureAddr,Sem.run_ite,h0,h1,and_self,if_true,lA hE iI]
   rw[iC,FV root p [n.toNat] _ ci]
   simp [Ty.off]
  ·injection e' with e1 e2 e3
   subst e1
   exact sd hr dy
 ·rename_i m t t' xs hT dy
  rw[dy] at hx
  obtain⟨ad,cs,hv,mm,aL,dZ⟩:=hx
  simp only[SV.el] at h
  split at h
  case isFalse=>cases h
  rename_i heq
  have:=Ty.aI heq
  subst this
  obtain⟨h0,h1,h⟩:=vj h
  cases h
  obtain⟨e,im,iI,_⟩:=(hE.ty T _ hT).dj
  obtain⟨l1,l2,l3⟩:=aL
  have aq:n.toNat<m:=by omega
  have Fz:=l3 n.toNat _ (getD_some (El.bT t) (by omega))
  refine aH.plain hr (v:= .pointer (some (ad.add (n.toNat*t.cells)))) ?_ ⟨ad.add (n.toNat*t.cells),_,rfl,AX mm _,Fz,fun j v hj=> ?_⟩ (fun _ _ _ e'=>by cases e')
  ·simp only[execOp,ho,Sem.run_bind,Instr.indexAt,ei,hv,asIntOf,Sem.run_pure,Result.andThen_ok,run_underlying im,Instr.sureAddr,Sem.run_ite,h0,h1,and_self,if_true,lA hE iI]
  ·rw[P2 _ mm]
   refine dZ _ v ?_
   rw[List.getElem?_take] at hj
   split at hj
   ·rw[List.getElem?_drop] at hj;exact hj
   ·cases hj
 ·rename_i e0 t id r p hT dy
  rw[dy] at hx
  unfold Pb at h
  split at h
  case h_2=>cases h
  rename_i m ta tb
  split at h
  case isFalse=>cases h
  rename_i heq
  have:=Ty.aI heq
  subst this
  obtain⟨h0,h1,h⟩:=vj h
  cases h
  obtain⟨r0,hb,cap,hv,mZ⟩:=hx
  have hu:=(hE.ty T _ hT).dj
  refine aH.plain hr (v:= .pointer (some ⟨r0,n.toNat*ta.cells,none⟩)) ?_ ⟨r0,hb,rfl⟩ (fun bc t' p' e'=> ?_)
  ·simp only[execOp,ho,Sem.run_bind,Instr.indexAt,ei,hv,asIntOf,Sem.run_pure,Result.andThen_ok,run_underlying hu.1,Sem.run_ite,h0,h1,and_self,if_true,lA hE hu.2]
   rw[iC,Nat.zero_add]
  ·injection e' with e1 e2 e3
   subst e1
   exact sd hr dy
 ·rename_i id ta tb hT dy
  rw[dy] at hx
  obtain⟨r0,hb,hv,_⟩:=hx
  split at h
  case isFalse=>cases h
  rename_i hga
  obtain⟨h0,h1,h⟩:=vj h
  cases h
  obtain⟨e,i',hu,xc,dx⟩:=hE.ga T hga
  have aq:n.toNat<2:=by omega
  refine aH.plain hr (v:= .pointer (some ⟨r0,mV ta [1,n.toNat],none⟩)) ?_ ⟨r0,hb,rfl,aq⟩ (fun bc t' p' e'=> ?_)
  ·have ij:(sizeOf e).run P X.w= .ok 1 X.w:=by simp [sizeOf,typeInfo,xc,dx]
   have Yt:n<((2:Nat):Int):=h1
   simp only[execOp,ho,Sem.run_bind,Instr.indexAt,ei,hv,asIntOf,Sem.run_pure,Result.andThen_ok,run_underlying hu,Instr.sureAddr,Sem.run_ite,h0,Yt,and_self,if_true,ij]
   rw[iC,Nat.mul_one]
   rfl
  ·injection e' with e1 e2 e3
   subst e1
   exact sd hr dy
 ·cases h
theorem A8{pl:List Nat->Place}{t:Ty}{x:El t}{cs:List Value}(h:bg X t x cs):aA X pl (.aj t x []) (dL t cs):=⟨cs,h,rfl,mu⟩
theorem acT(hE:ap P E)(hr:Rel X s a){ops:List Oper}{T:TypeId}{x i:Operand}(ho:o.op= .index T x i){C:FuncId->bU Out}(h:act E C ops o s some=some u):aH P X s a o u:=by
 unfold act at h
 simp only[ho] at h
 have hx:=hr.aG x
 have hi:=hr.aG i
 unfold QJ at h
 obtain⟨n,ik,h,hn⟩:=zqh h
 have ei:=hn X _ _ hi
 split at h
 ·rename_i hT
  obtain⟨st,h,bS⟩:=zy h
  obtain⟨h0,h1,h⟩:=vj h
  cases h
  obtain⟨cs,Kk,ev⟩:=bS X _ _ hx
  rw[nw Kk] at ev
  have hu:=(hE.ty T _ hT).dj
  have aq:n.toNat<st.size:=by omega
  refine aH.plain hr (v:= .int .u8 (ze st n.toNat)) ?_ jg (fun _ _ _ e'=>by cases e')
  have cB:st[n.toNat]? =some (st[n.toNat]'aq):=getElem?_pos st n.toNat aq
  simp only[execOp,ho,Sem.run_bind,Instr.index,ei,ev,asIntOf,Sem.run_pure,Result.andThen_ok,run_underlying hu,h0,if_true,cB]
  simp [ze,aq]
 ·rename_i m t hT
  obtain⟨ys,h,uh⟩:=zy h
  obtain⟨h0,h1,h⟩:=vj h
  cases h
  obtain⟨cs,lu,ev⟩:=uh X _ _ hx
  rw[jx rfl] at ev
  obtain⟨e,im,iI,_⟩:=(hE.ty T _ hT).dj
  obtain⟨l1,l2,l3⟩:=lu
  have aq:n.toNat<m:=by omega
  have Fz:=l3 n.toNat _ (getD_some (El.bT t) (by omega))
  refine aH.plain hr ?_ (A8 Fz) (fun _ _ _ e'=>by cases e')
  have hp:=Et hE iI Fz (all:=cs.toArray) (off:=n.toNat*t.cells) rfl X.w
  simp only[execOp,ho,Sem.run_bind,Instr.index,ei,ev,asIntOf,Sem.run_pure,Result.andThen_ok,run_underlying im,h0,h1,and_self,if_true,lA hE iI,hp]
 ·cases h
theorem acS(hE:ap P E)(hr:Rel X s a){ops:List Oper}{T:TypeId}{x:Operand}{j:Nat}(ho:o.op= .field T x j){C:FuncId->bU Out}(h:act E C ops o s some=some u):aH P X s a o u:=by
 unfold act at h
 simp only[ho] at h
 have hx:=hr.aG x
 split at h
 case h_2=>cases h
 rename_i t hT
 split at h
 ·cases h
 rename_i eV
 have eV:t.df=true:=by simpa using eV
 obtain⟨y,h,hy⟩:=zy h
 split at h
 case h_2=>cases h
 rename_i ft z hg
 cases h
 obtain⟨cs,rep,ev⟩:=hy X _ _ hx
 have qV:t.agg=true:=by cases t<;>simp_all [Ty.df,Ty.agg]
 rw[jx qV] at ev
 obtain⟨fs,im,iI⟩:=R0 hE hT eV
 obtain⟨f,g1,g2,g3,dh⟩:=P5 fs.toList t 0 j ft iI eV (QH t [j] y ft z hg)
 obtain⟨k1,k2,k3⟩:=P7 rep dh hg
 have gM:fs[j]? =some f:=by rw[<-Array.getElem?_toList];exact g1
 refine aH.plain hr ?_ (A8 k3) (fun _ _ _ e'=>by cases e')
 have hp:=Et hE g3 k3 (all:=cs.toArray) (off:=f.offset) (by rw[g2,Nat.zero_add]) X.w
 simp only[execOp,ho,Sem.run_bind,Instr.field,run_underlying im,Result.andThen_ok,gM,ev,asAgg,Sem.run_pure,hp]
theorem ajo(hE:ap P E)(hr:Rel X s a){ops:List Oper}{x:Operand}{T:TypeId}{dH:Array Operand}{ts:Array TypeId}(ho:o.op= .call ⟨.builtin .len,dH,ts⟩){C:FuncId->bU Out}(h:act E C ops o s some=some u):aH P X s a o u:=by
 unfold act at h
 simp only[ho] at h
 split at h
 case h_2=>cases h
 rename_i x T rS BK
 have has:dH= #[x]:=by rw[<-Array.toArray_toList (xs:=dH),rS]
 have kq:ts= #[T]:=by rw[<-Array.toArray_toList (xs:=ts),BK]
 subst has kq
 have hx:=hr.aG x
 unfold uo at h
 split at h
 ·rename_i hT
  obtain⟨st,h,bS⟩:=zy h
  cases h
  obtain⟨cs,Kk,ev⟩:=bS X _ _ hx
  rw[nw Kk] at ev
  have hu:=(hE.ty T _ hT).dj
  refine aH.plain hr (v:= .int .i64 st.size) ?_ jg (fun _ _ _ e'=>by cases e')
  simp [execOp,ho,resolve,invoke,builtin,Builtin.len_,ev,run_underlying hu,goInt]
 ·rename_i e t hT
  have hu:=(hE.ty T _ hT).dj
  split at h
  ·rename_i id n ta tb dy
   cases h
   rw[dy] at hx
   obtain⟨r0,hb,cap,ev,mZ⟩:=hx
   refine aH.plain hr (v:= .int .i64 n) ?_ jg (fun _ _ _ e'=>by cases e')
   simp [execOp,ho,resolve,invoke,builtin,Builtin.len_,ev,run_underlying hu.1,goInt]
  ·obtain⟨xs,h,Zl⟩:=zy h
   cases h
   obtain⟨cs,Cv,ev⟩:=Zl X _ _ hx
   obtain⟨A,c,hm,_,_⟩:=XS Cv
   rw[hm] at ev
   refine aH.plain hr (v:= .int .i64 (List.length xs)) ?_ jg (fun _ _ _ e'=>by cases e')
   simp [execOp,ho,resolve,invoke,builtin,Builtin.len_,ev,run_underlying hu.1,goInt]
 ·rename_i n t hT
  cases h
  obtain⟨e,im,iI,_⟩:=(hE.ty T _ hT).dj
  refine aH.plain hr (v:= .int .i64 n) ?_ jg (fun _ _ _ e'=>by cases e')
  simp [execOp,ho,resolve,invoke,builtin,Builtin.len_,run_underlying im,goInt]
 ·cases h
theorem KY(hr:Rel X s a){ops:List Oper}{g:Bool}{dH:Array Operand}{ts:Array TypeId}(ho:o.op= .call ⟨.builtin (if g then .max else .min),dH,ts⟩){C:FuncId->bU Out}(h:act E C ops o s some=some u):aH P X s a o u:=by
 have key:∀x y,dH= #[x,y]->kc g (s.aG x) (s.aG y) some=some u->aH P X s a o u:=by
  intro x y has h
  subst has
  have hx:=hr.aG x
  have hy:=hr.aG y
  unfold kc at h
  split at h
  case h_2=>cases h
  rename_i k m _ k' n _ e1 e2
  rw[e1] at hx
  rw[e2] at hy
  have vx:=AO hx
  have vy:=AO hy
  cases h
  refine aH.plain hr (v:= .int k (bif g then(if(m:Int)<n then n else m) else(if(n:Int)<m then n else m))) ?_ jg (fun _ _ _ e'=>by cases e')
  cases g
  ·simp [execOp,ho,resolve,invoke,builtin,Builtin.min_,Builtin.min2,vx,vy]
  ·simp [execOp,ho,resolve,invoke,builtin,Builtin.max_,Builtin.max2,vx,vy]
 unfold act at h
 cases g with
 |true=>
  simp only[ho,if_true] at h
  split at h
  ·rename_i x y e
   exact key x y (by rw[<-Array.toArray_toList (xs:=dH),e]) h
  ·cases h
 |false=>
  simp only[ho,Bool.false_eq_true,if_false] at h
  split at h
  ·rename_i x y e
   exact key x y (by rw[<-Array.toArray_toList (xs:=dH),e]) h
  ·cases h
theorem al5(hr:Rel X s a){ops:List Oper}{op:UnOp}{T:TypeId}{x:Operand}(ho:o.op= .unOp op T x){C:FuncId->bU Out}(h:act E C ops o s some=some u):aH P X s a o u:=by
 unfold act at h
 simp only[ho] at h
 have hx:=hr.aG x
 unfold Kv at h
 split at h
 ·rename_i b w e
  rw[e] at hx
  cases h
  refine aH.plain hr (v:= .bool (!b)) ?_ nv (fun _ _ _ e'=>by cases e')
  simp [execOp,ho,OK hx,Op.unary]
 ·rename_i k n w e
  rw[e] at hx
  cases h
  refine aH.plain hr (v:= .int k (k.wrap (0-n))) ?_ jg (fun _ _ _ e'=>by cases e')
  simp [execOp,ho,AO hx,Op.unary,Op.intArith]
 ·cases h
theorem abe(hr:Rel X s a){ops:List Oper}{x:Operand}(ho:o.op= .nilCheck x){C:FuncId->bU Out}(h:act E C ops o s some=some u):aH P X s a o u:=by
 unfold act at h
 simp only[ho] at h
 have hx:=hr.aG x
 split at h
 ·rename_i id t p e
  rw[e] at hx
  split at h
  ·cases h
  rename_i dY
  have dY:(t.bF&& !t.eF)=false:=by simpa using dY
  cases h
  obtain⟨r,h1,hx⟩:=hx
  obtain⟨ad,h2⟩:=LG dY hx
  refine aH.plain hr (v:= .pointer (some ad)) ?_ ⟨r,h1,h2▸hx⟩ (fun bc t' p' e'=> ?_)
  ·simp [execOp,ho,h2]
  ·injection e' with e1 e2 e3
   subst e1
   exact sd hr e
 ·rename_i t y e
  rw[e] at hx
  cases h
  obtain⟨ad,cs,h1,h2⟩:=hx
  refine aH.plain hr (v:= .pointer (some ad)) ?_ ⟨ad,cs,rfl,h2⟩ (fun _ _ _ e'=>by cases e')
  simp [execOp,ho,h1]
 ·cases h
theorem abz(hr:Rel X s a){ops:List Oper}{x:Operand}{j:Nat}(ho:o.op= .extract x j){C:FuncId->bU Out}(h:act E C ops o s some=some u):aH P X s a o u:=by
 unfold act at h
 simp only[ho] at h
 split at h
 case h_2=>cases h
 rename_i t
 have hs:=hr.slot t
 split at h
 ·rename_i hlen
  split at h
  case h_2=>cases h
  rename_i tZ
  cases h
  have Rk:=hr.aG (.tmp t)
  rw[show s.aG (.tmp t)=SV.over from tZ] at Rk
  have Rk:a.eval (.tmp t)= .tuple #[.bool false]:=Rk
  refine aH.plain hr (v:= .bool false) ?_ nv (fun _ _ _ e'=>by cases e')
  simp [execOp,ho,Rk,Instr.extract]
 rename_i hlen
 have Ak:(s.slot t).length≠1:=fun e=>hlen (by rw[e];rfl)
 have Cd:∃vs:Array Value,a.tmps.getD t Go.undef= .tuple vs/\vs.size=(s.slot t).length/\∀(j:Nat) sv v,(s.slot t)[j]? =some sv->vs[j]? =some v->aA X (.c t j) sv v:=by
  match hm:s.slot t with
  | [sv]=>rw[hm] at Ak;exact absurd rfl Ak
  | []=>rw[hm] at hs;exact hs
  |_::_::_=>rw[hm] at hs;exact hs
 obtain⟨vs,h1,h2,h3⟩:=Cd
 have aV:∀v,vs[j]? =some v->(execOp a.eval o).run P X.w= .ok (.value v) X.w:=by
  intro v hv
  simp only[execOp,ho,Act.eval,h1,Sem.run_bind,Instr.extract,hv,Sem.run_pure,Result.andThen_ok]
 have hv:∀sv,(s.slot t)[j]? =some sv->∃v,vs[j]? =some v:=by
  intro sv jz
  have:=(List.getElem?_eq_some_iff.1 jz).1
  exact⟨_,Array.getElem?_eq_getElem (by omega)⟩
 split at h
 ·rename_i ut y w e
  cases h
  obtain⟨v,hv⟩:=hv _ e
  cases w with
  |nil=>exact aH.plain hr (aV v hv) (h3 j _ v e hv).bare (fun _ _ _ h=>by cases h)
  |cons p w=>exact aH.AA hr (aV v hv) (h3 j _ v e hv)
 ·cases h
 ·cases h
 ·rename_i sv h4 h5 h6 e
  cases h
  obtain⟨v,hv⟩:=hv _ e
  have fI:Plain sv:=by
   cases sv with
   |aj ut y w=>exact(h4 ut y w rfl).elim
   |bz id c b n=>first|exact(h5 id c b n rfl).elim|exact(h6 id c b n rfl).elim
   |_=>trivial
  refine aH.plain hr (aV v hv) ((h3 j _ v e hv).place fI) (fun id ty p e'=> ?_) fI.om
  ·by_cases aq:t<s.sl.length
   ·refine hr.live t _ id ty p (qt aq) ?_
    rw[<-e'];exact List.mem_of_getElem? e
   ·have:s.slot t=[.undef]:=by simp [State.slot,List.getElem?_eq_none (Nat.le_of_not_lt aq)]
    rw[this] at Ak
    exact absurd rfl Ak
 ·cases h
end Go.Ref

namespace Go.Ref
open Go
variable {P:Program} {E:Env} {X:ax} {s:State} {a:Act} {o:Oper} {u:Out}
def nM(v:Option SV)(n:Nat)(d:Nat):Prop:=match v with
 |none=>n=d
 |some v=>∀(X:ax) pl val,aA X pl v val->val= .int .i64 (n:Int)
theorem MT{l:Int}{m:Nat}(h1:0<=l)(h2:l<=(m:Int)):l.toNat<=m:=by omega
theorem zvs{l:Int}(h1:0<=l):((l.toNat:Nat):Int)=l:=by omega
theorem zaj{R:Type}{lo:Option SV}{m:Nat}{G:Nat->Option R}{z:R}(h:xZ lo m G=some z):∃l,G l=some z/\l<=m/\nM lo l 0:=by
 unfold xZ at h
 cases lo with
 |none=>exact⟨0,h,Nat.zero_le _,rfl⟩
 |some v=>
  obtain⟨l,h,hl⟩:=zy h
  cases h1:decide (0<=l)<;>rw[h1] at h
  ·cases h
  ·cases h2:decide (l<=(m:Int))<;>rw[h2] at h
   ·cases h
   ·have h1:=of_decide_eq_true h1
    have h2:=of_decide_eq_true h2
    refine⟨l.toNat,h,MT h1 h2,fun X pl val hv=> ?_⟩
    obtain⟨cs,r,e⟩:=hl X pl val hv
    rw[e,lB r,zvs h1]
theorem zun{R:Type}{lo hi:Option SV}{n:Nat}{F:Nat->Nat->Option R}{z:R}(h:cutAt lo hi n F=some z):∃l m,F l m=some z/\l<=m/\m<=n/\nM lo l 0/\nM hi m n:=by
 unfold cutAt at h
 cases hi with
 |none=>
  obtain⟨l,h1,h2,h3⟩:=zaj h
  exact⟨l,n,h1,h2,Nat.le_refl _,h3,rfl⟩
 |some v=>
  obtain⟨m,h,hm⟩:=zy h
  cases h1:decide (0<=m)<;>rw[h1] at h
  ·cases h
  ·cases h2:decide (m<=(n:Int))<;>rw[h2] at h
   ·cases h
   ·have h1:=of_decide_eq_true h1
    have h2:=of_decide_eq_true h2
    have h:xZ lo (Int.toNat m) (fun l=>F l (Int.toNat m))=some z:=h
    obtain⟨l,g1,g2,g3⟩:=zaj h
    refine⟨l,m.toNat,g1,g2,MT h1 h2,g3,fun X pl val hv=> ?_⟩
    obtain⟨cs,r,e⟩:=hm X pl val hv
    rw[e,lB r,zvs h1]
theorem nM.val(hr:Rel X s a){x:Option Operand}{n d:Nat}(h:nM (x.map s.aG) n d):(x=none/\n=d)\/x.map a.eval=some (.int .i64 (n:Int)):=by
 cases x with
 |none=>exact .inl ⟨rfl,h⟩
 |some x=>exact .inr (by rw[Option.map_some,h X _ _ (hr.aG x)])
theorem zdb(hr:Rel X s a){isS:Bool}{lo hi:Option Operand}{l m n c:Nat}(hl:nM (lo.map s.aG) l 0)(hm:nM (hi.map s.aG) m n)(h1:l<=m)(h2:m<=n)(h3:n<=c)(w:World):
 (Instr.sliceBounds isS n c (lo.map a.eval) (hi.map a.eval) none).run P w= .ok (l,m,c) w:=by
 have sb:∀(i y:Nat) (code:BoundsCode),i<=y->(Instr.sliceBound (.int .i64 (i:Int)) y code).run P w= .ok i w:=by
  intro i y code h
  rw[run_sliceBound (P:=P) (w:=w) .i64 (i:Int) y code (by omega) (by omega)]
  simp
 rcases hl.val hr with⟨rfl,rfl⟩|hl<;>rcases hm.val hr with⟨rfl,rfl⟩|hm
 ·simp [Instr.sliceBounds]
 ·simp [Instr.sliceBounds,hm,sb m c _ (by omega)]
 ·simp [Instr.sliceBounds,hl,sb l m _ h1]
 ·simp [Instr.sliceBounds,hl,hm,sb l m _ h1,sb m c _ (by omega)]
theorem afO(hE:ap P E)(hr:Rel X s a){T:TypeId}{x:Operand}{lo hi:Option Operand}(ho:o.op= .slice T x lo hi none)(h:qS E T (s.aG x) (lo.map s.aG) (hi.map s.aG) some=some u):aH P X s a o u:=by
 have hx:=hr.aG x
 unfold qS at h
 split at h
 ·rename_i hT
  obtain⟨st,h,bS⟩:=zy h
  obtain⟨l,m,h,h1,h2,hl,hm⟩:=zun h
  cases h
  obtain⟨cs,Kk,ev⟩:=bS X _ _ hx
  rw[nw Kk] at ev
  have hu:=(hE.ty T _ hT).dj
  refine aH.plain hr (v:= .string (st.extract l m)) ?_ AZ (fun _ _ _ e'=>by cases e')
  simp only[execOp,ho,Sem.run_bind,Instr.sliceAt,run_underlying hu,Result.andThen_ok,Instr.slice,ev,Option.map_none,Option.isSome_none,Bool.false_eq_true,if_false,zdb hr hl hm h1 h2 (Nat.le_refl _),Sem.run_pure]
 ·rename_i e t hT
  obtain⟨xs,h,rS⟩:=zy h
  obtain⟨l,m,h,h1,h2,hl,hm⟩:=zun h
  cases h
  obtain⟨cs,Cv,ev⟩:=rS X _ _ hx
  obtain⟨A,c,gN,hle,fH⟩:=XS Cv
  rw[gN] at ev
  have hu:=(hE.ty T _ hT).dj
  have hlen:((List.take m xs).drop l).length=m-l:=by rw[List.length_drop,List.length_take,Nat.min_eq_left h2]
  refine aH.plain hr (v:= .slice (if c=l then A else A.map (·.add (l*t.cells))) (m-l) (c-l)) ?_ ⟨_,bg.xD (A:=if c=l then A else A.map (·.add (l*t.cells))) (n:=m-l) (c:=c-l) hlen (by omega) (fun j y hj=> ?_),rfl,mu⟩ (fun _ _ _ e'=>by cases e')
  ·simp only[execOp,ho,Sem.run_bind,Instr.sliceAt,run_underlying hu.1,Result.andThen_ok,Instr.slice,ev,Option.map_none,zdb hr hl hm h1 h2 hle,Sem.run_pure,lA hE hu.2]
  ·have tP:=(List.getElem?_eq_some_iff.1 hj).1
   rw[hlen] at tP
   have Jr:xs[l+j]? =some y:=by
    rw[List.getElem?_drop,List.getElem?_take,if_pos (by omega)] at hj
    exact hj
   obtain⟨ad,eD,rfl,mm,aL,dZ⟩:=fH (l+j) y Jr
   rw[if_neg (by omega)]
   refine⟨ad.add (l*t.cells),eD,rfl,AX mm _,aL,fun i v hi=> ?_⟩
   rw[P2 _ mm,<-Nat.add_assoc,<-Nat.add_mul]
   exact dZ i v hi
 ·cases h
theorem acQ(hE:ap P E)(hr:Rel X s a){S T:TypeId}{x:Operand}(ho:o.op= .convert S T x)(h:kX E S T (s.aG x) some=some u):aH P X s a o u:=by
 have hx:=hr.aG x
 unfold kX at h
 split at h
 ·rename_i k k' hS hT
  obtain⟨n,h,hn⟩:=zy h
  cases h
  obtain⟨cs,rn,ev⟩:=hn X _ _ hx
  rw[lB rn] at ev
  have hu:=(hE.ty S _ hS).dj
  have hv:=(hE.ty T _ hT).dj
  refine aH.plain hr (v:= .int k' (k'.wrap n)) ?_ jg (fun _ _ _ e'=>by cases e')
  simp [execOp,ho,ev,convert,run_underlying hu,run_underlying hv,Conv.intToInt]
 ·rename_i hS hT
  obtain⟨st,h,bS⟩:=zy h
  cases h
  obtain⟨cs,rn,ev⟩:=bS X _ _ hx
  rw[nw rn] at ev
  have hu:=(hE.ty S _ hS).dj
  have hv:=(hE.ty T _ hT).dj
  refine aH.plain hr (v:= .string st) ?_ AZ (fun _ _ _ e'=>by cases e')
  simp [execOp,ho,ev,convert,run_underlying hu,run_underlying hv]
 ·rename_i e hS hT
  obtain⟨xs,h,rS⟩:=zy h
  cases h
  obtain⟨cs,Cv,ev⟩:=rS X _ _ hx
  obtain⟨A,c,gN,hle,fH⟩:=XS Cv
  rw[gN] at ev
  have hu:=(hE.ty S _ hS).dj
  have he:=(hE.ty e _ hu.2).dj
  have hv:=(hE.ty T _ hT).dj
  refine aH.plain hr (v:= .string (strOf xs)) ?_ AZ (fun _ _ _ e'=>by cases e')
  have key:(convert S T (.slice A (List.length xs) c)).run P X.w= .ok (.string (strOf xs)) X.w:=by
   cases A with
   |none=>
    have tX:xs=[]:=by
     cases xs with
     |nil=>rfl
     |cons y ys=>obtain⟨ad,_,h,_⟩:=fH 0 y rfl;cases h
    rw[run_convert_bytes_nil X.w S e hu.1 he _ _ T hv,tX]
    rfl
   |some ad=>
    rw[run_convert_bytes_string X.w S T e _ _ c hu.1 he hv]
    have jY:(loadCells ad (List.length xs)).run P X.w= .ok (List.map (Value.int .u8) xs).toArray X.w:=by
     have:=run_loadCells_list (P:=P) X.w ad (List.map (Value.int .u8) xs) (fun j v hj=>by
      obtain⟨y,hy,rfl⟩:=List.getElem?_map .. ▸hj|>Option.map_eq_some_iff.1
      obtain⟨qb,eD,h1,mm,aL,dZ⟩:=fH j y hy
      cases h1
      have hc:eD=[.int .u8 y]:=aL
      have:=dZ 0 (.int .u8 y) (by rw[hc];rfl)
      have h2:=this.2.1
      simpa [Ty.cells] using h2)
     rw[List.length_map] at this
     exact this
    rw[run_bytesToString X.w ad _ c xs jY,foldl_push_bytes]
    simp [strOf,ByteArray.empty,ByteArray.emptyWithCapacity]
    rfl
  simp only[execOp,ho,Sem.run_bind,ev,key,Result.andThen_ok,Sem.run_pure]
 ·cases h
def ax.new(X:ax)(cs:Array Value)(T:TypeId)(w:Ow)(β:Nat->Option Nat):ax:={w:=X.w.alloc (.cells cs T),ow:=fun g=>if g=X.w.heap.size then w else X.ow g,β}
theorem Pc(X:ax)(s:State)(cs:Array Value)(T:TypeId)(w:Ow)(β:Nat->Option Nat)(hβ0:β 0=X.β 0)(hβ:∀(id:Nat) B,s.bs[id]? =some (some B)->β id=X.β id):eJ s X (X.new cs T w β) where
 size:=by simp [ax.new]
 os:=rfl
 tape:=rfl
 output:=rfl
 mQ:=fun g hg=>⟨by simp only[ax.new];rw[if_neg (by omega)],RowKit.Below.heap_alloc _ _ _ hg⟩
 β0:=hβ0
 β:=hβ
theorem O4(X:ax)(cs:Array Value)(T:TypeId)(w:Ow)(β:Nat->Option Nat):(X.new cs T w β).w.heap[X.w.heap.size]? =some (.cells cs T (0,0))/\(X.new cs T w β).ow X.w.heap.size=w:=⟨heap_alloc_new X.w _,by simp [ax.new]⟩
theorem OV(T:TypeId)(v:Value)(w:World):(newVar T v).run P w= .ok ⟨w.heap.size,0,none⟩ (w.alloc (.cells v.cells T)):=by
 simp [newVar,newRow]
theorem Rel.fj{Y:ax}(hr:Rel Y s a){d r:Nat}{B:bB}(hd:d<s.bs.length)(hb:s.bs[d]? =some none)(hβ:Y.β d=some r)(h:bC Y d r B):Rel Y (s.aC (some (d,B))) a where
 size:=hr.size
 gB:=by simpa [State.aC] using hr.gB
 bP:=hr.bP
 boxes:=fun id B' er=>by
  simp only[State.aC,List.getElem?_set] at er
  by_cases e:d=id
  ·subst e
   rw[if_pos rfl,if_pos hd] at er
   cases er;exact⟨r,hβ,h⟩
  ·rw[if_neg e] at er
   exact hr.boxes id B' er
 live:=fun i l id t p hi hm=>by
  obtain⟨B',er⟩:=hr.live i l id t p hi hm
  simp only[State.aC,List.getElem?_set]
  by_cases e:d=id
  ·subst e;rw[hb] at er;cases er
  ·rw[if_neg e];exact⟨B',er⟩
 defers:=hr.defers
 bz:=hr.bz.aC (hr.bz.none fun a b x own h=>by rw[hb] at h;cases h)
theorem z28{d:Nat}{B:bB}(h:s.box d=some B):s.bs[d]? =some (some B):=by
 unfold State.box at h
 rw[List.getD_eq_getElem?_getD] at h
 cases hg:s.bs[d]? with
 |none=>rw[hg] at h;cases h
 |some x=>rw[hg] at h;simp at h;rw[h]
theorem C4(hr:Rel X s a){x:Operand}{t:Ty}{R:Type}{K:El t->Option R}{z:R}(h:(s.aG x).el t K=some z){c:List (Nat×Nat)}(hc:c=src x\/((s.aG x).own=[]/\c=[])):
 ∃y,K y=some z/\∀q:List Nat->Place,∃Y cs,Y.w=X.w/\Ext X Y/\Rel Y (s.close c) a/\bg Y t y cs/\a.eval x=dL t cs/\bk Y q t y cs (s.aG x).own/\Y.β=X.β/\dS (s.close c) X Y/\lH X Y:=by
 have hx:=hr.aG x
 cases hs:s.aG x with
 |aj t' y' w=>
  rw[hs] at hx h hc
  simp only[SV.el] at h
  split at h
  case isFalse=>cases h
  rename_i heq
  have:=Ty.aI heq
  subst this
  refine⟨y',h,fun q=> ?_⟩
  have plain:w=[]->∃Y cs,Y.w=X.w/\Ext X Y/\Rel Y (s.close c) a/\bg Y t' y' cs/\a.eval x=dL t' cs/\bk Y q t' y' cs (SV.aj t' y' w).own/\Y.β=X.β/\dS (s.close c) X Y/\lH X Y:=by
   intro hw
   subst hw
   obtain⟨cs,h1,h2,_⟩:=hx
   exact⟨X,cs,rfl,Ext.refl X,hr.close _,h1,h2,mu,rfl,dS.refl _ _,lH.refl X⟩
  rcases hc with hc|⟨hw,_⟩
  ·cases x with
   |tmp i=>
    obtain⟨Y,h1,h2,h3,⟨cs,h4,h5,h6⟩,h7,h8,h9⟩:=hr.take hx q
    subst hc
    exact⟨Y,cs,h1,h2,h3,h4,h5,h6,h7,h8,h9⟩
   |const v=>exact plain (zhn (show A6 v= .aj t' y' w from hs))
   |_=>simp [State.aG,State.xr,one] at hs
  ·exact plain hw
 |cF=>
  rw[hs] at hx h
  cases t<;>simp only[SV.el] at h<;>try(cases h;done)
  rename_i e t
  refine⟨[],h,fun q=>⟨X,[.slice none 0 0],rfl,Ext.refl X,hr.close _,⟨none,0,rfl,Nat.le_refl _,fun j x hj=>by simp at hj⟩,hx,fun p hp=> ?_,rfl,dS.refl _ _,lH.refl X⟩⟩
  have hp:p=[]:=by simpa [SV.own] using hp
  subst hp
  exact⟨e,t,[],_,by simp [Ty.eE],rfl,rfl,.inl ⟨rfl,rfl⟩⟩
 |_=>rw[hs] at h;simp [SV.el] at h
theorem aH.fj{P:Program}(hr:Rel X s a){d:Nat}{T:TypeId}{t:Ty}{y:El t}{cs:List Value}{own:List (List Nat)}{c:List (Nat×Nat)}{W:ax}
 (dY:t.bF=false) (hd:o.dst=some d) (hb:s.bs[d+1]? =some none) (hW:W.w=X.w) (hX:Ext X W) (Rm:Rel W (s.close c) a) (aL:bg W t y cs)
 (bR:bk W (.b (d+1)) t y cs own)
 (aV:(execOp a.eval o).run P X.w= .ok (.value (.pointer (some ⟨X.w.heap.size,0,none⟩))) (X.w.alloc (.cells cs.toArray T))):aH P X s a o {v:=[.ptr (d+1) t []],bx:=some (d+1,⟨t,y,own⟩),cl:=c}:=by
 let β:Nat->Option Nat:=fun id=>if id=d+1 then some W.w.heap.size else W.β id
 have aq:d+1<s.bs.length:=(List.getElem?_eq_some_iff.1 hb).1
 have iT:(s.close c).bs[d+1]? =some none:=by rw[xQ];exact hb
 have hk:eJ (s.close c) W (W.new cs.toArray T (.box (d+1)) β):=Pc W _ _ _ _ _ (by show(if _ then _ else _)=_;rw[if_neg (by omega)]) (fun id B hB=>by
  show(if id=d+1 then _ else _)=_
  rw[if_neg (fun e=>by rw[e,iT] at hB;cases hB)])
 obtain⟨n1,n2⟩:=O4 W cs.toArray T (.box (d+1)) β
 have bG:bC (W.new cs.toArray T (.box (d+1)) β) (d+1) W.w.heap.size ⟨t,y,own⟩:=
  ⟨n2,dp.of dY n1 (by simpa using aL.ai (fun _ _=>hk.az)) (by simpa using bR.dm hk)⟩
 have hβd:β (d+1)=some W.w.heap.size:=by show(if d+1=d+1 then _ else _)=_;rw[if_pos rfl]
 have eW:=(Rm.dm hk).fj (by rw[xQ];exact aq) iT hβd bG
 refine⟨W.new cs.toArray T (.box (d+1)) β,.pointer (some ⟨X.w.heap.size,0,none⟩),.inl ?_,hX.trans hk.ext,?_⟩
 ·rw[aV];simp [ax.new,hW]
 ·rw[hd]
  refine eW.put (fun d' e=> ?_) (fun id t' p hm=> ?_)
  ·cases e
   refine⟨W.w.heap.size,hβd,(qq dY).2 ⟨?_,by simp [Ty.eE]⟩⟩
   rw[hW]
   simp [Ty.off]
  ·have:id=d+1:=by have:=hm;simp at this;exact this.1
   subst this
   exact⟨⟨t,y,own⟩,by simp [State.aC,List.getElem?_set,xQ,aq]⟩
theorem SA(hE:ap P E){T:TypeId}{t:Ty}(ht:E.ty T=some t)(w:World):(zeroValue T).run P w= .ok (dL t (zp t)) w:=by
 obtain⟨i,h1,_,_,h2⟩:=(hE.ty T t ht).info
 simp [zeroValue,typeInfo,h1,h2]
theorem Ly(X:ax)(pl:List Nat->Place):∀t:Ty,bk X pl t (El.bT t) (zp t) (xR t):=by
 intro t
 induction t generalizing pl with
 |sl e t=>
  intro p hp
  have hp:p=[]:=by simpa [xR] using hp
  subst hp
  exact⟨e,t,[],.slice none 0 0,by simp [Ty.eE],rfl,rfl,.inl ⟨rfl,rfl⟩⟩
 |pair ta tb lY lZ=>
  intro p hp
  simp only[xR,List.mem_append,List.mem_map,List.mem_filterMap] at hp
  rcases hp with⟨q,hq,rfl⟩|⟨q,hq,he⟩
  ·obtain⟨e,t',xs,v,g0,g1,g2,g3⟩:=lY (fun q=>pl (0::q)) q hq
   refine⟨e,t',xs,v,g0,g1,?_,g3⟩
   have hl:=(List.getElem?_eq_some_iff.1 g2).1
   simp only[Ty.off,zp]
   rw[List.getElem?_append_left hl]
   exact g2
  ·cases q with
   |nil=>simp [bump] at he
   |cons j q=>
    simp only[bump,Option.some.injEq] at he
    subst he
    obtain⟨e,t',xs,v,g0,g1,g2,g3⟩:=lZ (fun q=>match q with| []=>pl []|j::q=>pl ((j+1)::q)) (j::q) hq
    refine⟨e,t',xs,v,g0,g1,?_,g3⟩
    simp only[Ty.off,zp]
    rw[List.getElem?_append_right (by rw[uP];omega),uP,Nat.add_sub_cancel_left]
    exact g2
 |_=>intro p hp;simp [xR] at hp
theorem aH.Ce{P:Program}(hr:Rel X s a){d:Nat}{T e:TypeId}(hd:o.dst=some d)(hb:s.bs[d+1]? =some none)
 (aV:(execOp a.eval o).run P X.w= .ok (.value (.pointer (some ⟨X.w.heap.size,0,none⟩))) (X.w.alloc (.cells #[.pointer none,.slice none 0 0] T))):
 aH P X s a o {v:=[.ptr (d+1) (.aJ (.gn T e) .unit .unit) []],bx:=some (d+1,⟨.aJ (.gn T e) .unit .unit,(⟨#[]⟩:ByteArray),[[]]⟩)}:=by
 let β:Nat->Option Nat:=fun id=>if id=d+1 then some X.w.heap.size else X.β id
 have aq:d+1<s.bs.length:=(List.getElem?_eq_some_iff.1 hb).1
 have hk:eJ s X (X.new #[.pointer none,.slice none 0 0] T (.box (d+1)) β):=Pc X _ _ _ _ _ (by show(if _ then _ else _)=_;rw[if_neg (by omega)]) (fun id B hB=>by
  show(if id=d+1 then _ else _)=_
  rw[if_neg (fun e=>by rw[e,hb] at hB;cases hB)])
 obtain⟨n1,n2⟩:=O4 X #[.pointer none,.slice none 0 0] T (.box (d+1)) β
 have bG:bC (X.new #[.pointer none,.slice none 0 0] T (.box (d+1)) β) (d+1) X.w.heap.size ⟨.aJ (.gn T e) .unit .unit,(⟨#[]⟩:ByteArray),[[]]⟩:=
  ⟨n2,⟨_,n1⟩,fun _=>⟨.slice none 0 0,⟨.inl n1,⟨rfl,.inl ⟨rfl,rfl⟩⟩,by simp [Value.ownBlock]⟩,fun g hg=>by simp [Value.ownBlock] at hg⟩⟩
 have hβd:β (d+1)=some X.w.heap.size:=by show(if d+1=d+1 then _ else _)=_;rw[if_pos rfl]
 have eW:=(hr.dm hk).fj aq hb hβd bG
 refine⟨X.new #[.pointer none,.slice none 0 0] T (.box (d+1)) β,.pointer (some ⟨X.w.heap.size,0,none⟩),.inl aV,hk.ext,?_⟩
 rw[hd]
 refine eW.put (fun d' e=> ?_) (fun id t' p hm=> ?_)
 ·cases e
  exact⟨X.w.heap.size,hβd,(Pe rfl).2 ⟨by simp [Ty.off],by simp [Ty.eE]⟩⟩
 ·have:id=d+1:=by have:=hm;simp at this;exact this.1
  subst this
  exact⟨_,by simp [State.aC,List.getElem?_set,aq];rfl⟩
theorem aH.Cf{P:Program}(hr:Rel X s a){d:Nat}{T:TypeId}{ta tb:Ty}(hd:o.dst=some d)(hb:s.bs[d+1]? =some none)
 (aV:(execOp a.eval o).run P X.w= .ok (.value (.pointer (some ⟨X.w.heap.size,0,none⟩))) (X.w.alloc (.cells (zp ta++ [Value.pointer none,Value.pointer none,Value.int .i64 0]).toArray T))):aH P X s a o {v:=[.ptr (d+1) (.aJ .bN ta tb) []],bx:=some (d+1,⟨.aJ .bN ta tb,(El.bT ta,(none,none),(0:Int)),[]::z21⟩)}:=by
 let β:Nat->Option Nat:=fun id=>if id=d+1 then some X.w.heap.size else X.β id
 have aq:d+1<s.bs.length:=(List.getElem?_eq_some_iff.1 hb).1
 have hk:eJ s X (X.new (zp ta++ [Value.pointer none,Value.pointer none,Value.int .i64 0]).toArray T (.box (d+1)) β):=Pc X _ _ _ _ _ (by show(if _ then _ else _)=_;rw[if_neg (by omega)]) (fun id B hB=>by
  show(if id=d+1 then _ else _)=_
  rw[if_neg (fun e=>by rw[e,hb] at hB;cases hB)])
 obtain⟨n1,n2⟩:=O4 X (zp ta++ [Value.pointer none,Value.pointer none,Value.int .i64 0]).toArray T (.box (d+1)) β
 have bG:bC (X.new (zp ta++ [Value.pointer none,Value.pointer none,Value.int .i64 0]).toArray T (.box (d+1)) β) (d+1) X.w.heap.size ⟨.aJ .bN ta tb,(El.bT ta,(none,none),(0:Int)),[]::z21⟩:=
  ⟨n2,⟨_,n1⟩,fun _=>⟨zp ta,.pointer none,.pointer none,T,n1,(rZ X ta).ai (fun _ _=>hk.az),rfl,rfl⟩⟩
 have hβd:β (d+1)=some X.w.heap.size:=by show(if d+1=d+1 then _ else _)=_;rw[if_pos rfl]
 have eW:=(hr.dm hk).fj aq hb hβd bG
 refine⟨X.new _ T (.box (d+1)) β,.pointer (some ⟨X.w.heap.size,0,none⟩),.inl aV,hk.ext,?_⟩
 rw[hd]
 refine eW.put (fun d' e=> ?_) (fun id t' p hm=> ?_)
 ·cases e
  exact⟨X.w.heap.size,hβd,rfl,trivial⟩
 ·have:id=d+1:=by have:=hm;simp at this;exact this.1
  subst this
  exact⟨⟨.aJ .bN ta tb,(El.bT ta,(none,none),(0:Int)),[]::z21⟩,by simp [State.aC,List.getElem?_set,aq]⟩
theorem acL(hE:ap P E)(hr:Rel X s a){ops:List Oper}{T:TypeId}(ho:o.op= .alloc T){C:FuncId->bU Out}(h:act E C ops o s some=some u):aH P X s a o u:=by
 unfold act at h
 simp only[ho] at h
 split at h
 case h_3=>cases h
 case h_2=>
  rename_i d hT hd
  split at h
  ·rename_i ta tb BU
   split at h
   case h_2=>cases h
   rename_i hb
   cases h
   obtain⟨i,h1,h2⟩:=hE.gz T ta tb BU
   refine aH.Cf hr hd hb (T:=T) ?_
   have hz:(zeroValue T).run P X.w= .ok (.agg (zp ta++ [Value.pointer none,Value.pointer none,Value.int .i64 0]).toArray) X.w:=by simp [zeroValue,typeInfo,h1,h2]
   simp only[execOp,ho,Sem.run_bind,Instr.alloc,hz,Result.andThen_ok,OV,Sem.run_pure]
   rfl
  split at h
  case h_2=>cases h
  rename_i e Re
  split at h
  case h_2=>cases h
  rename_i hb
  cases h
  obtain⟨i,h1,h2⟩:=hE.bl T e Re
  refine aH.Ce hr hd hb ?_
  have hz:(zeroValue T).run P X.w= .ok (.agg #[.pointer none,.slice none 0 0]) X.w:=by simp [zeroValue,typeInfo,h1,h2]
  simp only[execOp,ho,Sem.run_bind,Instr.alloc,hz,Result.andThen_ok,OV,Sem.run_pure]
  rfl
 rename_i t d hT hd
 split at h
 case h_2=>cases h
 rename_i hb
 cases h
 have aL:=rZ X t
 refine aH.fj (T:=T) (cs:=zp t) (W:=X) (c:=[]) hr (hE.iL hT) hd hb rfl (Ext.refl X) hr aL (Ly X _ t) ?_
 simp only[execOp,ho,Sem.run_bind,Instr.alloc,SA hE hT,Result.andThen_ok,OV,vm aL,Sem.run_pure]
theorem ajm(hE:ap P E)(hr:Rel X s a){ops:List Oper}{T:TypeId}{x:Operand}(ho:o.op= .box T x){C:FuncId->bU Out}(h:act E C ops o s some=some u):aH P X s a o u:=by
 unfold act at h
 simp only[ho] at h
 split at h
 case h_2=>cases h
 rename_i t d hT hd
 split at h
 case h_2=>cases h
 rename_i hb
 obtain⟨y,h,hy⟩:=C4 hr h (.inl rfl)
 cases h
 obtain⟨W,cs,h1,h2,h3,h4,h5,h6,_,_,_⟩:=hy (.b (d+1))
 refine aH.fj (T:=T) (cs:=cs) (W:=W) hr (hE.iL hT) hd hb h1 h2 h3 h4 h6 ?_
 simp only[execOp,ho,Sem.run_bind,Instr.box,OV,Result.andThen_ok,Sem.run_pure,h5,vm h4]
end Go.Ref

namespace Go.Ref
open Go
variable {P:Program} {E:Env} {X:ax} {s:State} {a:Act} {o:Oper} {u:Out}
theorem AQ(hE:ap P E){T:TypeId}{t:Ty}(ht:E.ty T=some t){x:El t}{cs:List Value}(hr:bg X t x cs){ad:Addr}{w:World}(hc:∀(i:Nat) v,cs[i]? =some v->w.cell? (ad.add i)=some v):(loadVar T ad).run P w= .ok (dL t cs) w:=by
 have hl:=hr.len
 unfold loadVar
 simp only[Sem.run_bind,Lp hE ht,Result.andThen_ok]
 cases hg:t.agg with
 |true=>
  have:=run_loadCells_list (P:=P) w ad cs hc
  rw[hl] at this
  simp only[if_true,Sem.run_bind,lA hE ht,Result.andThen_ok,this,Sem.run_pure,jx hg]
 |false=>
  have h1:t.cells=1:=by cases t<;>simp_all [Ty.agg,Ty.cells]
  rw[h1] at hl
  match cs,hl with
  | [c],_=>
    rw[Qa hg]
    have:=hc 0 c rfl
    have h0:ad.add 0=ad:=by simp [Addr.add]
    rw[h0] at this
    simp only[Bool.false_eq_true,if_false,run_load,this]
theorem AR{own:List (List Nat)}{p:List Nat}(h:gA own p=true):p∈own:=by
 unfold gA at h
 obtain⟨q,hq,he⟩:=List.any_eq_true.1 h
 rw[<-eq_of_beq he]
 exact hq
theorem zak{own:List (List Nat)}{p q:List Nat}(h:q∈xW own p):q∈own/\p.isPrefixOf q=false:=by
 unfold xW at h
 rw[List.mem_filter] at h
 exact⟨h.1,by simpa using h.2⟩
theorem Qb{t:Ty}(h:t.bF=false):t.eF=false:=by cases t<;>first|rfl|cases h
theorem Rel.om(hr:Rel X s a){id:Nat}{B:bB}(hb:s.bs[id]? =some (some B))(hg:B.t.eF=false\/ []∈B.own):∀(i:Nat) (l:List SV) a b j,s.sl[i]? =some l->SV.bz id a b j∈l->False:=hr.bz.none fun c d x own h=>by
 rw[hb] at h
 cases h
 exact hg.resolve_left fun e=>by cases e
theorem Rel.l8{Y:ax}(hr:Rel Y s a){id r:Nat}{B B':bB}(hb:s.bs[id]? =some (some B))(hβ:Y.β id=some r)(h:bC Y id r B')(hg:B.t.eF=false\/ []∈B.own):Rel Y (s.aC (some (id,B'))) a where
 size:=hr.size
 gB:=by simpa [State.aC] using hr.gB
 bP:=hr.bP
 boxes:=fun bc B2 cT=>by
  have aq:id<s.bs.length:=(List.getElem?_eq_some_iff.1 hb).1
  simp only[State.aC,List.getElem?_set] at cT
  by_cases e:id=bc
  ·subst e
   rw[if_pos rfl,if_pos aq] at cT
   cases cT;exact⟨r,hβ,h⟩
  ·rw[if_neg e] at cT
   exact hr.boxes bc B2 cT
 live:=fun i l bc t p hi hm=>by
  have aq:id<s.bs.length:=(List.getElem?_eq_some_iff.1 hb).1
  obtain⟨B2,cT⟩:=hr.live i l bc t p hi hm
  simp only[State.aC,List.getElem?_set]
  by_cases e:id=bc
  ·subst e;exact⟨B',by rw[if_pos rfl,if_pos aq]⟩
  ·rw[if_neg e];exact⟨B2,cT⟩
 defers:=hr.defers
 bz:=hr.bz.aC (hr.bz.none fun c d x own h=>by
  rw[hb] at h
  cases h
  exact hg.resolve_left fun e=>by cases e)
theorem RY{id:Nat}{B B':bB}(hb:s.bs[id]? =some (some B)):(s.aC (some (id,B'))).bs[id]? =some (some B'):=by
 have aq:id<s.bs.length:=(List.getElem?_eq_some_iff.1 hb).1
 simp [State.aC,List.getElem?_set,aq]
theorem Ss{r off i:Nat}{cs:Array Value}{T:TypeId}{w:World}(h:w.heap[r]? =some (.cells cs T (0,0))){k:Nat}{v:Value}(hv:((cs.toList.drop off).take k)[i]? =some v):w.cell? ((⟨r,off,none⟩:Addr).add i)=some v:=by
 rw[iC]
 rw[List.getElem?_take] at hv
 split at hv
 ·rw[List.getElem?_drop] at hv
  simpa [World.cell?,h] using hv
 ·cases hv
theorem eQ:∀(t:Ty) (p:List Nat) (u:Ty),t.at_ p=some u->t.eE p->t.off p+u.cells<=t.cells:=by
 intro t
 induction t with
 |arr n t ih=>
  intro p u h hp
  cases p with
  |nil=>simp only[Ty.at_,Option.some.injEq] at h;subst h;simp [Ty.off]
  |cons i p=>
   have:=ih p u h hp.2
   have hn:(i+1)*t.cells<=n*t.cells:=Nat.mul_le_mul_right _ hp.1
   rw[Nat.add_mul,Nat.one_mul] at hn
   simp only[Ty.off,Ty.cells]
   omega
 |pair x y JZ J0=>
  intro p u h hp
  cases p with
  |nil=>simp only[Ty.at_,Option.some.injEq] at h;subst h;simp [Ty.off]
  |cons i p=>
   cases i with
   |zero=>have:=JZ p u h hp;simp only[Ty.off,Ty.cells];omega
   |succ i=>have:=J0 (i::p) u h hp;simp only[Ty.off,Ty.cells];omega
 |_=>
  intro p u h hp
  cases p with
  |nil=>simp only[Ty.at_,Option.some.injEq] at h;subst h;simp [Ty.off]
  |cons i p=>simp [Ty.at_] at h
theorem anX{t:Ty}{p:List Nat}{e:TypeId}{t':Ty}(h:t.eE p)(ci:t.at_ p=some (.sl e t')):t.off p<t.cells:=by
 have:=eQ t p _ ci h
 simp only[Ty.cells] at this
 omega
theorem ac1:∀{t:Ty} {p q:List Nat} {x:El t} {u:Ty} {y:El u} {r:(u:Ty)×El u},El.get t p x=some ⟨u,y⟩->t.eE (p++q)->El.get t (p++q) x=some r->u.eE q/\El.get u q y=some r:=by
 intro t
 induction t with
 |arr n t ih=>
  intro p q x u y r h1 h2 h3
  cases p with
  |nil=>simp only[El.get,Option.some.injEq,Sigma.mk.injEq] at h1;obtain⟨rfl,h1⟩:=h1;cases h1;exact⟨h2,h3⟩
  |cons i p=>exact ih h1 h2.2 h3
 |pair ta tb lY lZ=>
  intro p q x u y r h1 h2 h3
  cases p with
  |nil=>simp only[El.get,Option.some.injEq,Sigma.mk.injEq] at h1;obtain⟨rfl,h1⟩:=h1;cases h1;exact⟨h2,h3⟩
  |cons i p=>
   cases i with
   |zero=>exact lY h1 h2 h3
   |succ i=>exact lZ (p:=i::p) h1 h2 h3
 |_=>
  intro p q x u y r h1 h2 h3
  cases p with
  |nil=>simp only[El.get,Option.some.injEq,Sigma.mk.injEq] at h1;obtain⟨rfl,h1⟩:=h1;cases h1;exact⟨h2,h3⟩
  |cons i p=>simp [El.get] at h1
def ax.gF(X:ax)(id:Nat)(p:List Nat)(q:List Nat->Place):ax:=
 {X with ow:=fun g=>match X.ow g with
  | .row (.b bc p') n=>if bc=id/\p.isPrefixOf p'=true then .row (q (p'.drop p.length)) n else .row (.b bc p') n
  |w=>w}
theorem zvv{s:State}{X:ax}{id:Nat}{p:List Nat}{q:List Nat->Place}(h:∀p',¬cU s (.b id (p++p'))):dS s X (X.gF id p q):=by
 refine⟨rfl,rfl,fun g=> ?_⟩
 simp only[ax.gF]
 cases hg:X.ow g with
 |row pl n=>
  cases pl with
  |b bc p'=>
   by_cases e:bc=id/\p.isPrefixOf p'=true
   ·obtain⟨rfl,hp⟩:=e
    obtain⟨r,rfl⟩:=List.isPrefixOf_iff_prefix.1 hp
    exact .inr ⟨_,n,q r,rfl,h r,by simp⟩
   ·exact .inl (if_neg e)
  |_=>exact .inl rfl
 |_=>exact .inl rfl
theorem bp.qn{X:ax}{id:Nat}{p r:List Nat}{q:List Nat->Place}{e:TypeId}{k n:Nat}{v:Value}(h:bp X (.b id (p++r)) e k n v):bp (X.gF id p q) (q r) e k n v:=by
 rcases h with h|⟨g,cap,cur,h1,h2,h3,h4,h5,h6⟩
 ·exact .inl h
 ·exact .inr ⟨g,cap,cur,h1,h2,h3,h4,h5,by simp [ax.gF,h6]⟩
theorem EU(hr:Rel X s a){id:Nat}{t b:Ty}{B:bB}(hB:s.box id=some B)(h:B.t.cp (.aJ .row t b)=true):s.bs[id]? =some (some B)/\∃r,X.β id=some r/\X.ow r= .box id/\∃cs T,X.w.heap[r]? =some (.cells cs T (0,0))/\cs.size=List.length (Ty.cast h B.x:List (El t))*t.cells/\
 ∀(j:Nat) (x:El t),(Ty.cast h B.x:List (El t))[j]? =some x->bg X t x ((cs.toList.drop (j*t.cells)).take t.cells):=by
 have hb:=z28 hB
 obtain⟨r,h1,h2,h3⟩:=hr.boxes id B hb
 refine⟨hb,r,h1,h2,?_⟩
 obtain⟨bt,bx,bo⟩:=B
 have e:=Ty.aI h
 simp only at e
 subst e
 obtain⟨cs,T,g1,g2,g3⟩:=h3
 exact⟨cs,T,g1,g2,g3⟩
theorem acP(hE:ap P E)(hr:Rel X s a){S T:TypeId}{x:Operand}(ho:o.op= .convert S T x){id n:Nat}{ta tb:Ty}(dy:s.aG x= .ptr id (.aJ (.iG n) ta tb) [])(h:jV E S T s id n ta tb some=some u):aH P X s a o u:=by
 have hx:=hr.aG x
 rw[dy] at hx
 obtain⟨r0,hβ,cap,hv,mZ⟩:=hx
 unfold jV at h
 split at h
 case h_2=>cases h
 rename_i e hS hT
 split at h
 case isFalse=>cases h
 rename_i heq
 have:=Ty.aI heq
 subst this
 split at h
 case h_2=>cases h
 rename_i B hB
 split at h
 case isFalse=>cases h
 rename_i dg
 obtain⟨hb,r,h1,h2,cs,T',aD,dx,fH⟩:=EU hr hB dg
 rw[hβ] at h1
 cases h1
 generalize(Ty.cast dg B.x:List Int)=xs at*
 cases hn:Nat.beq n (List.length xs) with
 |false=>rw[hn] at h;cases h
 |true=>
  rw[hn] at h
  cases h
  have hn:=Nat.eq_of_beq_eq_true hn
  subst hn
  have hu:=(hE.ty S _ hS).dj
  have he:=(hE.ty e _ hu.2).dj
  have hT:=(hE.ty T _ hT).dj
  refine aH.plain hr (v:= .string (strOf xs)) ?_ AZ (fun _ _ _ e'=>by cases e')
  have key:(convert S T (.slice (some ⟨r0,0,none⟩) (List.length xs) cap)).run P X.w= .ok (.string (strOf xs)) X.w:=by
   rw[run_convert_bytes_string X.w S T e _ _ cap hu.1 he hT]
   have jY:(loadCells ⟨r0,0,none⟩ (List.length xs)).run P X.w= .ok (List.map (Value.int .u8) xs).toArray X.w:=by
    have:=run_loadCells_list (P:=P) X.w ⟨r0,0,none⟩ (List.map (Value.int .u8) xs) (fun j v hj=>by
     obtain⟨y,hy,rfl⟩:=List.getElem?_map .. ▸hj|>Option.map_eq_some_iff.1
     have hc:(cs.toList.drop (j*1)).take 1=[.int .u8 y]:=fH j y hy
     have h0:=congrArg (fun l=>l[0]?) hc
     simp only[List.getElem?_take,List.getElem?_drop] at h0
     simp only[Nat.zero_lt_one,if_true,Nat.mul_one,Nat.add_zero,List.getElem?_cons_zero] at h0
     rw[iC,Nat.zero_add]
     simpa [World.cell?,aD] using h0)
    rw[List.length_map] at this
    exact this
   rw[run_bytesToString X.w _ _ cap xs jY,foldl_push_bytes]
   simp [strOf,ByteArray.empty,ByteArray.emptyWithCapacity]
   rfl
  simp only[execOp,ho,Sem.run_bind,hv,key,Result.andThen_ok,Sem.run_pure]
theorem afM(hE:ap P E)(hr:Rel X s a){ops:List Oper}{S T:TypeId}{x:Operand}(ho:o.op= .convert S T x){C:FuncId->bU Out}(h:act E C ops o s some=some u):aH P X s a o u:=by
 unfold act at h
 simp only[ho] at h
 split at h
 ·rename_i id n ta tb dy
  exact acP hE hr ho dy h
 ·exact acQ hE hr ho h
theorem ER(hr:Rel X s a){id:Nat}{ta tb:Ty}{R:Type}{K:El (.aJ .bN ta tb)->List (List Nat)->Option R}{z:R}(h:nI s id ta tb K=some z):
 ∃(x:El (.aJ .bN ta tb)) (own:List (List Nat)) (r:Nat),s.bs[id]? =some (some ⟨.aJ .bN ta tb,x,own⟩)/\K x own=some z/\(∀p∈z21,p∈own)/\X.β id=some r/\X.ow r= .box id/\gZ X r (.b id) ta tb x:=by
 unfold nI at h
 split at h
 case h_2=>cases h
 rename_i B hB
 split at h
 case isFalse=>cases h
 rename_i dg
 have hb:=z28 hB
 obtain⟨bt,bx,bo⟩:=B
 have e:=Ty.aI dg
 simp only at e
 subst e
 cases ho:z21.all (gA bo) with
 |false=>simp only[ho] at h;cases h
 |true=>
  simp only[ho,cond_true] at h
  have bR:∀p∈z21,p∈bo:=fun p hp=>by
   have:=List.all_eq_true.1 ho p hp
   unfold gA at this
   obtain⟨q,h1,h2⟩:=List.any_eq_true.1 this
   have:q=p:=by simpa using h2
   rw[<-this];exact h1
  obtain⟨r,h1,h2,h3⟩:=hr.boxes id _ hb
  exact⟨bx,bo,r,hb,h,bR,h1,h2,h3.2 bR⟩
theorem zq8{w:World}{r k:Nat}{l:List Value}{T:TypeId}{v:Value}(h:w.heap[r]? =some (.cells l.toArray T (0,0)))(hv:l[k]? =some v):w.cell? ⟨r,k,none⟩=some v:=by
 simp only[World.cell?,h]
 simpa using hv
theorem Rel.Cp(hr:Rel X s a){d:Option Nat}{id j:Nat}{ta tb:Ty}{x:El (.aJ .bN ta tb)}{own:List (List Nat)}{v:Value}(hb:s.bs[id]? =some (some ⟨.aJ .bN ta tb,x,own⟩))(ho: []∉own)
 (nD:∀(i:Nat) (l:List SV) a b j,s.sl[i]? =some l->SV.bz id a b j∈l->False) (hv:∀pl,aA X pl (.bz id ta tb j) v):Rel X (s.au d [.bz id ta tb j]) (a.put d v):=by
 cases d with
 |none=>exact hr
 |some d=>
  have eb:∀(i:Nat) (l:List SV),(s.au (some d) [.bz id ta tb j]).sl[i]? =some l->(i=d/\l=[.bz id ta tb j])\/(i≠d/\s.sl[i]? =some l):=fun i l hi=>by
   simp only[State.au,List.getElem?_set] at hi
   by_cases e:d=i
   ·rw[if_pos e] at hi
    split at hi
    ·cases hi;exact .inl ⟨e.symm,rfl⟩
    ·cases hi
   ·rw[if_neg e] at hi
    exact .inr ⟨fun h=>e h.symm,hi⟩
  refine⟨by simpa [State.au,Act.put] using hr.size,by simpa [State.au] using hr.gB,fun i l v' hi iX=> ?_,hr.boxes,fun i l bc t p hi hm=> ?_,hr.defers,fun i l bc a' b' j' hi hm=> ?_⟩
  ·simp only[Act.put,Array.getElem?_setIfInBounds] at iX
   rcases eb i l hi with⟨rfl,rfl⟩|⟨bI,hi⟩
   ·rw[if_pos rfl] at iX
    split at iX
    ·cases iX;exact hv (.c i 0)
    ·cases iX
   ·rw[if_neg (fun e=>bI e.symm)] at iX
    exact hr.bP i l v' hi iX
  ·rcases eb i l hi with⟨rfl,rfl⟩|⟨_,hi⟩
   ·simp at hm
   ·exact hr.live i l bc t p hi hm
  ·rcases eb i l hi with⟨rfl,rfl⟩|⟨bI,tO⟩
   ·simp only[List.mem_singleton,SV.bz.injEq] at hm
    obtain⟨rfl,rfl,rfl,rfl⟩:=hm
    refine⟨rfl,⟨x,own,hb,ho⟩,fun i' l' a' b' j' xc rP=> ?_⟩
    rcases eb i' l' xc with⟨e1,_⟩|⟨_,YJ⟩
    ·exact e1
    ·exact(nD i' l' a' b' j' YJ rP).elim
   ·obtain⟨g1,g2,g3⟩:=hr.bz i l bc a' b' j' tO hm
    refine⟨g1,g2,fun i' l' a'' b'' j'' xc rP=> ?_⟩
    rcases eb i' l' xc with⟨_,e2⟩|⟨_,YJ⟩
    ·rw[e2] at rP
     simp only[List.mem_singleton,SV.bz.injEq] at rP
     obtain⟨e3,_,_,_⟩:=rP
     rw[e3] at hm
     exact(nD i l a' b' j' tO hm).elim
    ·exact g3 i' l' a'' b'' j'' YJ rP
theorem acU(hE:ap P E)(hr:Rel X s a){T:TypeId}{x:Operand}(ho:o.op= .load T x)(h:kb E T s (s.aG x) some=some u):aH P X s a o u:=by
 have hx:=hr.aG x
 unfold kb at h
 split at h
 case h_2=>cases h
 rename_i id ta tb j dy
 rw[dy] at hx
 obtain⟨r0,hβ,hv,hj⟩:=hx
 have hv:a.eval x= .pointer (some ⟨r0,ta.cells+j,none⟩):=hv
 have hj:j<2:=hj
 split at h
 case isFalse=>cases h
 rename_i lf
 obtain⟨e,hu⟩:=hE.pt T lf
 obtain⟨x0,own,r,hb,h,bR,h1,how,c,p0,p1,T',aD,aL,rQ,rR⟩:=ER hr h
 rw[hβ] at h1
 cases h1
 cases gN:gA own [] with
 |false=>rw[gN] at h;cases h
 |true=>
 rw[gN,cond_true] at h
 cases h
 have gN:=AR gN
 obtain⟨v,dI⟩:∃v,(c++ [p0,p1,Value.int .i64 x0.2.2])[ta.cells+j]? =some v:=by
  rw[List.getElem?_append_right (by rw[aL.len];omega),aL.len,Nat.add_sub_cancel_left]
  match j,hj with
  |0,_=>exact⟨_,rfl⟩
  |1,_=>exact⟨_,rfl⟩
 have hc:=zq8 aD dI
 have aV:(execOp a.eval o).run P X.w= .ok (.value v) X.w:=by
  have hl:(loadVar T ⟨r0,ta.cells+j,none⟩).run P X.w= .ok v X.w:=by
   unfold loadVar
   have hag:(isAgg T).run P X.w= .ok false X.w:=by simp [isAgg,run_underlying hu]
   simp only[Sem.run_bind,hag,Result.andThen_ok,Bool.false_eq_true,if_false,run_load,hc]
  simp only[execOp,ho,Sem.run_bind,Instr.loadAt,hv,Instr.sureAddr,Sem.run_pure,Result.andThen_ok,hl]
 have hg:gZ X r0 (.b id) ta tb x0:=⟨c,p0,p1,T',aD,aL,rQ,rR⟩
 have ig:=hr.bz.none (d:=id) fun a' b' x' ju h=>by rw[hb] at h;cases h;exact gN
 have eL:=hr.l8 (B':=⟨.aJ .bN ta tb,x0,own.filter fun q=> !q.isEmpty⟩) hb hβ ⟨how,⟨_,aD⟩,fun _=>hg⟩ (.inr gN)
 refine⟨X,v,.inl aV,Ext.refl X,eL.Cp (RY hb) (fun hm=> ?_) ig fun pl=>⟨r0,hβ,how,hc⟩⟩
 have:=(List.mem_filter.1 hm).2
 simp at this
theorem abD(hE:ap P E)(hr:Rel X s a){T:TypeId}{u':Ty}{x:Operand}(ho:o.op= .load T x)(hT:E.ty T=some u'){id:Nat}{t:Ty}{p:List Nat}(dy:s.aG x= .ptr id t p)(h:ES u' s id t p some=some u):aH P X s a o u:=by
 have hx:=hr.aG x
 rw[dy] at hx
 obtain⟨r0,hβ,hv⟩:=hx
 unfold ES at h
 split at h
 case h_4=>cases h
 case h_2=>
  rename_i ta tb
  split at h
  case isFalse=>cases h
  rename_i heq
  have:=Ty.aI heq
  subst this
  obtain⟨x0,own,r,hb,h,_,h1,h2,c,p0,p1,T',aD,aL,_⟩:=ER hr h
  rw[hβ] at h1
  cases h1
  cases h
  have hv:a.eval x= .pointer (some ⟨r0,0,none⟩):=by
   have:=hv.1
   rw[this];simp [mV,Ty.off]
  refine aH.plain hr ?_ (A8 aL) (fun _ _ _ e'=>by cases e')
  have hl:=AQ hE hT aL (ad:=⟨r0,0,none⟩) (w:=X.w) (fun j v hj=>by
   rw[iC,Nat.zero_add]
   refine zq8 aD ?_
   rw[List.getElem?_append_left ((List.getElem?_eq_some_iff.1 hj).1)];exact hj)
  simp only[execOp,ho,Sem.run_bind,Instr.loadAt,hv,Instr.sureAddr,Sem.run_pure,Result.andThen_ok,hl]
 case h_3=>
  rename_i ta tb
  split at h
  case isFalse=>cases h
  rename_i heq
  have:=Ty.aI heq
  subst this
  obtain⟨x0,own,r,hb,h,_,h1,h2,c,p0,p1,T',aD,aL,_⟩:=ER hr h
  rw[hβ] at h1
  cases h1
  cases h
  have hv:a.eval x= .pointer (some ⟨r0,ta.cells+2,none⟩):=hv.1
  have hl:=AQ (P:=P) hE hT (X:=X) (x:=x0.2.2) (cs:=[.int .i64 x0.2.2]) rfl (ad:=⟨r0,ta.cells+2,none⟩) (w:=X.w) (fun j v hj=>by
   cases j with
   |succ j=>simp at hj
   |zero=>
    rw[iC,Nat.add_zero]
    refine zq8 aD ?_
    rw[List.getElem?_append_right (by rw[aL.len];omega),aL.len,Nat.add_sub_cancel_left]
    exact hj)
  refine aH.plain hr (v:=dL (.int .i64) [.int .i64 x0.2.2]) ?_ jg (fun _ _ _ e'=>by cases e')
  simp only[execOp,ho,Sem.run_bind,Instr.loadAt,hv,Instr.sureAddr,Sem.run_pure,Result.andThen_ok,hl]
 rename_i ta tb i
 split at h
 case h_2=>cases h
 rename_i B hB
 split at h
 case isFalse=>cases h
 rename_i dg
 split at h
 case isFalse=>cases h
 rename_i heq
 have:=Ty.aI heq
 subst this
 obtain⟨hb,r,h1,h2,cs,T',aD,dx,fH⟩:=EU hr hB dg
 rw[hβ] at h1
 cases h1
 generalize(Ty.cast dg B.x:List (El u'))=xs at*
 cases hn:Nat.ble (i+1) (List.length xs) with
 |false=>rw[hn] at h;cases h
 |true=>
  rw[hn] at h
  cases h
  have aq:i<List.length xs:=Nat.le_of_ble_eq_true hn
  have aL:=fH i _ (getD_some (El.bT u') aq)
  have hv:a.eval x= .pointer (some ⟨r0,i*u'.cells,none⟩):=hv
  refine aH.plain hr ?_ (A8 aL) (fun _ _ _ e'=>by cases e')
  have hl:=AQ hE hT aL (ad:=⟨r0,i*u'.cells,none⟩) (w:=X.w) (fun j v hj=>Ss aD hj)
  simp only[execOp,ho,Sem.run_bind,Instr.loadAt,hv,Instr.sureAddr,Sem.run_pure,Result.andThen_ok,hl]
theorem abC(hE:ap P E)(hr:Rel X s a){T:TypeId}{u':Ty}{x:Operand}(ho:o.op= .load T x)(hT:E.ty T=some u'){id:Nat}{t:Ty}{p:List Nat}(dy:s.aG x= .ptr id t p){B:bB}(hB:s.box id=some B)(h:Gq u' B t p some=some u):aH P X s a o u:=by
 have hx:=hr.aG x
 rw[dy] at hx
 obtain⟨r0,hβ,hv⟩:=hx
 unfold Gq at h
 split at h
 case h_2=>cases h
 rename_i n e
 split at h
 case isFalse=>cases h
 rename_i dg
 split at h
 case isFalse=>cases h
 rename_i heq
 have:=Ty.aI heq
 subst this
 obtain⟨hb,r,h1,h2,cs,T',aD,dx,fH⟩:=EU hr hB dg
 rw[hβ] at h1
 cases h1
 generalize(Ty.cast dg B.x:List (El e))=xs at*
 cases hn:Nat.beq n (List.length xs) with
 |false=>rw[hn] at h;cases h
 |true=>
  rw[hn] at h
  cases h
  have hn:=Nat.eq_of_beq_eq_true hn
  have aL:bg X (.arr n e) xs cs.toList:=⟨hn.symm,by rw[hn];simpa using dx,fH⟩
  have hv:=((qq rfl).1 hv).1
  have hv:a.eval x= .pointer (some ⟨r0,0,none⟩):=by rw[hv];rfl
  refine aH.plain hr ?_ (A8 aL) (fun _ _ _ e'=>by cases e')
  have hl:=AQ hE hT aL (ad:=⟨r0,0,none⟩) (w:=X.w) (fun j v hj=>Ss (off:=0) (k:=cs.toList.length) aD (by rw[List.drop_zero,List.take_length];exact hj))
  simp only[execOp,ho,Sem.run_bind,Instr.loadAt,hv,Instr.sureAddr,Sem.run_pure,Result.andThen_ok,hl]
theorem afP(hE:ap P E)(hr:Rel X s a){ops:List Oper}{T:TypeId}{x:Operand}(ho:o.op= .load T x){C:FuncId->bU Out}(h:act E C ops o s some=some u):aH P X s a o u:=by
 unfold act at h
 simp only[ho] at h
 have hx:=hr.aG x
 unfold load at h
 split at h
 case h_2=>exact acU hE hr ho h
 rename_i u' hT
 split at h
 ·rename_i t y e
  rw[e] at hx
  obtain⟨ad,cs,hv,mm,aL,dZ⟩:=hx
  split at h
  case isFalse=>cases h
  rename_i heq
  have:=Ty.aI heq
  subst this
  cases h
  refine aH.plain hr ?_ (A8 aL) (fun _ _ _ e'=>by cases e')
  have hl:=AQ hE hT aL (ad:=ad) (w:=X.w) (fun i v hi=>(dZ i v hi).2.1)
  simp only[execOp,ho,Sem.run_bind,Instr.loadAt,hv,Instr.sureAddr,Sem.run_pure,Result.andThen_ok,hl]
 ·rename_i id t p e
  rw[e] at hx
  obtain⟨r,hβ,hx⟩:=hx
  split at h
  ·exact abD hE hr ho hT e h
  rename_i dY
  have dY:t.bF=false:=by simpa using dY
  obtain⟨hv,dh⟩:=(qq dY).1 hx
  split at h
  case h_2=>cases h
  rename_i B hB
  split at h
  case isFalse=>exact abC hE hr ho hT e hB h
  rename_i heq
  have dg:=Ty.aI heq
  split at h
  case h_2=>cases h
  rename_i ut y cB
  split at h
  case isFalse=>cases h
  rename_i BQ
  have:=Ty.aI BQ
  subst this
  have hb:=z28 hB
  obtain⟨r',hβ',tG⟩:=hr.boxes id B hb
  rw[hβ] at hβ'
  cases hβ'
  subst dg
  obtain⟨cs,T',aD,aL,how,bR⟩:=tG.cells dY
  obtain⟨k1,k2,k3⟩:=P7 aL dh cB
  have hl:=AQ hE hT k3 (ad:=⟨r,B.t.off p,none⟩) (w:=X.w) (fun i v hi=>Ss aD hi)
  have aV:(execOp a.eval o).run P X.w= .ok (.value (dL u' ((cs.toList.drop (B.t.off p)).take u'.cells))) X.w:=by
   simp only[execOp,ho,Sem.run_bind,Instr.loadAt,hv,Instr.sureAddr,Sem.run_pure,Result.andThen_ok,hl]
  cases hc:XP ops o.dst||Ay E ops o.dst||Ox ops o.dst with
  |false=>
   rw[hc] at h
   cases h
   exact aH.plain hr aV (A8 k3) (fun _ _ _ e'=>by cases e')
  |true=>
   rw[hc] at h
   cases h
   have eL:Rel X (s.aC (some (id,{B with own:=xW B.own p}))) a:=hr.l8 hb hβ ⟨how,dp.of dY aD aL fun q hq=>bR q (zak hq).1⟩ (.inl (Qb dY))
   have FD:∀q,¬cU (s.aC (some (id,{B with own:=xW B.own p}))) (.b id (p++q)):=by
    rintro q ⟨B2,cT,hp⟩
    rw[RY hb] at cT
    cases cT
    have:=(zak hp).2
    rw[List.isPrefixOf_iff_prefix.2 (List.prefix_append p q)] at this
    cases this
   have mj:=zvv (X:=X) (q:= .c (o.dst.getD 0) 0) FD
   refine⟨X.gF id p (.c (o.dst.getD 0) 0),_,.inl aV,mj.ext,(eL.mod mj.mod).fin ⟨_,k3.ai (fun _ _=>mj.az.1),rfl,?_⟩ (fun id t p hm=>by simp at hm)⟩
   intro q hq
   obtain⟨q0,hq0,rfl⟩:=List.mem_map.1 hq
   obtain⟨hq1,Y4⟩:=List.mem_filter.1 hq0
   obtain⟨q,rfl⟩:=List.isPrefixOf_iff_prefix.1 Y4
   rw[List.drop_left]
   obtain⟨e',t',xs,v,h0,h1,h2,h3⟩:=bR _ hq1
   obtain⟨j1,j2⟩:=ac1 cB h0 h1
   have hle:=anX j1 (QH _ _ _ _ _ j2)
   refine⟨e',t',xs,v,j1,j2,?_,h3.qn⟩
   rw[FV _ _ _ _ k1] at h2
   rw[List.getElem?_take,if_pos hle,List.getElem?_drop]
   exact h2
 ·cases h
theorem zig{cs c:List Value}{off:Nat}(h:off+c.length<=cs.length)(j k:Nat):(∀h1:j+k<=off\/off+c.length<=j,((cs.take off++c++cs.drop (off+c.length)).drop j).take k=(cs.drop j).take k):=by
 intro h1
 apply List.ext_getElem?
 intro q
 simp only[List.getElem?_take,List.getElem?_drop]
 split
 ·rename_i hq
  rw[List.append_assoc]
  rcases h1 with h1|h1
  ·rw[List.getElem?_append_left (by rw[List.length_take];omega),List.getElem?_take,if_pos (by omega)]
  ·rw[List.getElem?_append_right (by rw[List.length_take];omega),List.length_take,Nat.min_eq_left (by omega),List.getElem?_append_right (by omega),List.getElem?_drop]
   congr 1
   omega
 ·rfl
theorem fm{X:ax}:∀{t:Ty} {p:List Nat} {x:El t} {cs:List Value} {u:Ty} {y:El u} {z:El t} {c:List Value},bg X t x cs->t.eE p->t.at_ p=some u->El.set t p x u y=some z->bg X u y c->
 bg X t z (cs.take (t.off p)++c++cs.drop (t.off p+c.length)):=by
 intro t
 induction t with
 |arr n t ih=>
  intro p x cs u y z c hr hp ci h hc
  have ff:=hc.len
  cases p with
  |nil=>
   simp only[Ty.at_,Option.some.injEq] at ci
   subst ci
   simp only[El.set,Ty.cj,dite_true,Option.some.injEq] at h
   subst h
   have hl:=hr.len
   simp only[Ty.off,Nat.zero_add,List.take_zero,List.nil_append]
   rw[ff,<-hl,List.drop_length,List.append_nil]
   exact hc
  |cons i p=>
   obtain⟨hi,hp⟩:=hp
   obtain⟨h1,h2,h3⟩:=hr
   simp only[El.set] at h
   obtain⟨z',nb,rfl⟩:=Option.map_eq_some_iff.1 h
   have mX:t.at_ p=some u:=ci
   have hle:=eQ t p u mX hp
   have hn:(i+1)*t.cells<=n*t.cells:=Nat.mul_le_mul_right _ hi
   rw[Nat.add_mul,Nat.one_mul] at hn
   have xc:=ih (h3 i _ (getD_some (El.bT t) (by omega))) hp mX nb hc
   have dd:i*t.cells+t.off p+c.length<=cs.length:=by rw[ff,h2];omega
   refine⟨by simpa using h1,?_,fun j w hj=> ?_⟩
   ·simp only[Ty.off,List.length_append,List.length_take,List.length_drop];omega
   ·simp only[Ty.off]
    by_cases e:j=i
    ·subst e
     rw[List.getElem?_set_self (by omega)] at hj
     cases hj
     have hL:((cs.take (j*t.cells+t.off p)++c++cs.drop (j*t.cells+t.off p+c.length)).drop (j*t.cells)).take t.cells=
      ((cs.drop (j*t.cells)).take t.cells).take (t.off p)++c++((cs.drop (j*t.cells)).take t.cells).drop (t.off p+c.length):=by
      apply List.ext_getElem?
      intro q
      rw[List.append_assoc,List.append_assoc]
      simp only[List.getElem?_take,List.getElem?_drop,List.getElem?_append,List.length_take,List.length_drop]
      rw[Nat.min_eq_left (show j*t.cells+t.off p<=cs.length by omega),Nat.min_eq_left (show t.cells<=cs.length-j*t.cells by omega),Nat.min_eq_left (show t.off p<=t.cells by omega)]
      by_cases q1:q<t.cells
      ·by_cases q2:q<t.off p
       ·rw[if_pos q1,if_pos (by omega),if_pos (by omega),if_pos q2,if_pos q2,if_pos q1]
       ·by_cases q3:q-t.off p<c.length
        ·rw[if_pos q1,if_neg (by omega),if_pos (by omega),if_neg q2,if_pos q3]
         congr 1
         omega
        ·rw[if_pos q1,if_neg (by omega),if_neg (by omega),if_neg q2,if_neg q3,if_pos (by omega)]
         congr 1
         omega
      ·rw[if_neg q1,if_neg (by omega),if_neg (by omega),if_neg (by omega)]
     rw[hL]
     exact xc
    ·rw[List.getElem?_set_ne (Ne.symm e)] at hj
     have tP:=(List.getElem?_eq_some_iff.1 hj).1
     rw[zig dd (j*t.cells) t.cells ?_]
     ·exact h3 j w hj
     ·rcases Nat.lt_or_gt_of_ne e with aq|hgt
      ·have:(j+1)*t.cells<=i*t.cells:=Nat.mul_le_mul_right _ aq
       rw[Nat.add_mul,Nat.one_mul] at this
       exact .inl (by omega)
      ·have:(i+1)*t.cells<=j*t.cells:=Nat.mul_le_mul_right _ hgt
       rw[Nat.add_mul,Nat.one_mul] at this
       exact .inr (by omega)
 |pair ta tb lY lZ=>
  intro p x cs u y z c hr hp ci h hc
  have ff:=hc.len
  cases p with
  |nil=>
   simp only[Ty.at_,Option.some.injEq] at ci
   subst ci
   simp only[El.set,Ty.cj,dite_true,Option.some.injEq] at h
   subst h
   have hl:=hr.len
   simp only[Ty.off,Nat.zero_add,List.take_zero,List.nil_append]
   rw[ff,<-hl,List.drop_length,List.append_nil]
   exact hc
  |cons i p=>
   obtain⟨c1,c2,rfl,r1,r2⟩:=hr
   have l1:=r1.len
   have l2:=r2.len
   cases i with
   |zero=>
    simp only[El.set] at h
    obtain⟨z',nb,rfl⟩:=Option.map_eq_some_iff.1 h
    have mX:ta.at_ p=some u:=ci
    have hle:=eQ ta p u mX hp
    have:=lY r1 hp mX nb hc
    refine⟨_,c2,?_,this,r2⟩
    simp only[Ty.off]
    rw[List.take_append_of_le_length (by omega),List.drop_append_of_le_length (by omega)]
    simp [List.append_assoc]
   |succ i=>
    simp only[El.set] at h
    obtain⟨z',nb,rfl⟩:=Option.map_eq_some_iff.1 h
    have mX:tb.at_ (i::p)=some u:=ci
    have hle:=eQ tb (i::p) u mX hp
    have:=lZ r2 hp mX nb hc
    refine⟨c1,_,?_,r1,this⟩
    simp only[Ty.off]
    rw[<-l1,List.take_length_add_append,Nat.add_assoc,List.drop_length_add_append]
    simp [List.append_assoc]
 |_=>
  intro p x cs u y z c hr hp ci h hc
  have ff:=hc.len
  cases p with
  |nil=>
   simp only[Ty.at_,Option.some.injEq] at ci
   subst ci
   simp only[El.set,Ty.cj,dite_true,Option.some.injEq] at h
   first|subst h|skip
   have hl:=hr.len
   simp only[Ty.off,Nat.zero_add,List.take_zero,List.nil_append]
   rw[ff,<-hl,List.drop_length,List.append_nil]
   exact hc
  |cons i p=>simp [Ty.at_] at ci
end Go.Ref

namespace Go.Ref
open Go
variable {P:Program} {E:Env} {X:ax} {s:State} {a:Act} {o:Oper} {u:Out}
theorem abg:∀{t:Ty} {p q:List Nat} {x:El t} {u:Ty} {y:El u} {z:El t} {e:TypeId} {t':Ty} {xs:El (.sl e t')},El.set t p x u y=some z->t.at_ p=some u->t.eE p->t.eE q->p.isPrefixOf q=false->El.get t q x=some ⟨.sl e t',xs⟩->
 El.get t q z=some ⟨.sl e t',xs⟩/\(t.off q+1<=t.off p\/t.off p+u.cells<=t.off q):=by
 intro t
 induction t with
 |arr n t ih=>
  intro p q x u y z e t' xs hs ci hp hq fX hg
  cases p with
  |nil=>simp at fX
  |cons i p=>
   cases q with
   |nil=>simp [El.get] at hg
   |cons j q=>
    simp only[El.set] at hs
    obtain⟨z',nb,rfl⟩:=Option.map_eq_some_iff.1 hs
    by_cases Yi:i=j
    ·subst Yi
     have m6:p.isPrefixOf q=false:=by simpa [List.isPrefixOf] using fX
     obtain⟨h1,h2⟩:=ih nb ci hp.2 hq.2 m6 hg
     refine⟨?_,by simp only[Ty.off];omega⟩
     simp only[El.get]
     by_cases hl:i<List.length x
     ·rw[List.getD_eq_getElem?_getD,List.getElem?_set_self hl]
      exact h1
     ·have fg:List.set x i z'=x:=by rw[List.set_eq_of_length_le (Nat.le_of_not_lt hl)]
      rw[fg];exact hg
    ·refine⟨?_,?_⟩
     ·simp only[El.get] at hg⊢
      rw[List.getD_eq_getElem?_getD,List.getElem?_set_ne Yi,<-List.getD_eq_getElem?_getD]
      exact hg
     ·have a1:=eQ t p u ci hp.2
      have a2:t.off q+1<=t.cells:=by
       have:=eQ t q _ (QH t q _ _ _ hg) hq.2
       simpa [Ty.cells] using this
      simp only[Ty.off]
      rcases Nat.lt_or_gt_of_ne Yi with h|h
      ·have:(i+1)*t.cells<=j*t.cells:=Nat.mul_le_mul_right _ h
       rw[Nat.add_mul,Nat.one_mul] at this
       omega
      ·have:(j+1)*t.cells<=i*t.cells:=Nat.mul_le_mul_right _ h
       rw[Nat.add_mul,Nat.one_mul] at this
       omega
 |pair ta tb lY lZ=>
  intro p q x u y z e t' xs hs ci hp hq fX hg
  cases p with
  |nil=>simp at fX
  |cons i p=>
   cases q with
   |nil=>simp [El.get] at hg
   |cons j q=>
    cases i with
    |zero=>
     simp only[El.set] at hs
     obtain⟨z',nb,rfl⟩:=Option.map_eq_some_iff.1 hs
     cases j with
     |zero=>
      have m6:p.isPrefixOf q=false:=by simpa [List.isPrefixOf] using fX
      obtain⟨h1,h2⟩:=lY nb ci hp hq m6 hg
      exact⟨h1,by simp only[Ty.off];omega⟩
     |succ j=>
      have a1:=eQ ta p u ci hp
      exact⟨hg,by simp only[Ty.off];omega⟩
    |succ i=>
     simp only[El.set] at hs
     obtain⟨z',nb,rfl⟩:=Option.map_eq_some_iff.1 hs
     cases j with
     |zero=>
      have a2:ta.off q+1<=ta.cells:=by
       have:=eQ ta q _ (QH ta q _ _ _ hg) hq
       simpa [Ty.cells] using this
      exact⟨hg,by simp only[Ty.off];omega⟩
     |succ j=>
      have m6:(i::p).isPrefixOf (j::q)=false:=by
       simp [List.isPrefixOf] at fX⊢
       exact fX
      obtain⟨h1,h2⟩:=lZ nb ci hp hq m6 hg
      exact⟨h1,by simp only[Ty.off];omega⟩
 |_=>
  intro p q x u y z e t' xs hs ci hp hq fX hg
  cases p with
  |nil=>simp at fX
  |cons i p=>simp [Ty.at_] at ci
def ax.row(X:ax)(r:Nat)(cs:Array Value):ax:={X with w:=X.w.setRow r cs}
theorem mw{r id:Nat}{cs:Array Value}(h:X.ow r= .box id){ad:Addr}{v:Value}(hs:X.az ad v):(X.row r cs).az ad v:=by
 have bI:ad.block≠r:=fun e=>by
  have:=hs.2.2
  rw[e,h] at this
  exact this
 refine⟨hs.1,?_,hs.2.2⟩
 have:=hs.2.1
 simp only[World.cell?,ax.row] at this⊢
 rw[setRow_other X.w r ad.block cs bI]
 exact this
theorem EV{r id:Nat}{cs:Array Value}(h:X.ow r= .box id):Ext X (X.row r cs) where
 az:=fun _ _=>mw h
 size:=by simp [ax.row]
 os:=rfl
 tape:=rfl
 output:=rfl
 β0:=rfl
 still:=fun g _ bS=>by
  have bI:g≠r:=fun e=>by rw[e,h] at bS;exact bS
  exact⟨rfl,setRow_other X.w r g cs bI⟩
theorem bp.row{r id:Nat}{cs:Array Value}(h:X.ow r= .box id){pl:Place}{e:TypeId}{k n:Nat}{v:Value}(ho:bp X pl e k n v):bp (X.row r cs) pl e k n v:=by
 rcases ho with ho|⟨g,cap,cur,h1,h2,h3,h4,h5,h6⟩
 ·exact .inl ho
 ·have bI:g≠r:=fun e=>by rw[e,h] at h6;cases h6
  exact .inr ⟨g,cap,cur,h1,(setRow_other X.w r g cs bI).trans h2,h3,h4,h5,h6⟩
theorem bk.row{r id:Nat}{cs:Array Value}(h:X.ow r= .box id){pl:List Nat->Place}{t:Ty}{x:El t}{c:List Value}{own:List (List Nat)}(ho:bk X pl t x c own):bk (X.row r cs) pl t x c own:=fun p hp=>by
 obtain⟨e,t',xs,v,g0,g1,g2,g3⟩:=ho p hp
 exact⟨e,t',xs,v,g0,g1,g2,g3.row h⟩
theorem aA.row{r id:Nat}{cs:Array Value}(h:X.ow r= .box id){pl:List Nat->Place}{sv:SV}{v:Value}(hk:∀bc a b j,sv= .bz bc a b j->bc≠id)(hr:aA X pl sv v):aA (X.row r cs) pl sv v:=by
 cases sv with
 |undef=>trivial
 |skip=>exact hr
 |cF=>exact hr
 |dN=>exact hr
 |over=>exact hr
 |aj t x own=>
  obtain⟨c,h1,h2,h3⟩:=hr
  exact⟨c,h1.ai (fun _ _=>mw h),h2,h3.row h⟩
 |ptr id t p=>exact hr
 |view t x=>
  obtain⟨ad,c,h1,h2,h3,h4⟩:=hr
  exact⟨ad,c,h1,h2,h3.ai (fun _ _=>mw h),fun i u hi=>mw h (h4 i u hi)⟩
 |cap f t x u y=>exact rC (fun _ _=>mw h) hr
 |bz bc a b j=>
  obtain⟨r',h1,h2,h3⟩:=hr
  have bI:r'≠r:=fun e=>by rw[e,h] at h2;injection h2 with h2;exact hk bc a b j rfl h2.symm
  refine⟨r',h1,h2,?_⟩
  simp only[World.cell?] at h3⊢
  rw[show(X.row r cs).w.heap[r']? =X.w.heap[r']? from setRow_other X.w r r' cs bI];exact h3
theorem Rel.row{r id:Nat}{B B':bB}{cs:Array Value}(hr:Rel X s a)(hb:s.bs[id]? =some (some B))(hβ:X.β id=some r)(h:X.ow r= .box id)(hB:bC (X.row r cs) id r B')(hg:B.t.eF=false\/ []∈B.own):Rel (X.row r cs) (s.aC (some (id,B'))) a where
 size:=hr.size
 gB:=by simpa [State.aC] using hr.gB
 bP:=fun i l v hl hv=>(hr.bP i l v hl hv).iJ fun j sv u hm jz=>jz.row h (fun bc a b k e e2=>hr.om hb hg i l a b k hl (e2▸e▸List.mem_of_getElem? hm))
 boxes:=fun bc B2 cT=>by
  have aq:id<s.bs.length:=(List.getElem?_eq_some_iff.1 hb).1
  simp only[State.aC,List.getElem?_set] at cT
  by_cases e:id=bc
  ·subst e
   rw[if_pos rfl,if_pos aq] at cT
   cases cT;exact⟨r,hβ,hB⟩
  ·rw[if_neg e] at cT
   obtain⟨r',h1,h4,h2⟩:=hr.boxes bc B2 cT
   have bI:r'≠r:=fun e2=>by rw[e2,h] at h4;cases h4;exact e rfl
   exact⟨r',h1,h4,h2.move (fun _ _=>mw h) (setRow_other X.w r r' cs bI) (fun cs h5=>h5.row h) fun _ _ g o _ ho hw=>⟨(setRow_other X.w r g cs (fun e3=>by rw[e3,h] at hw;cases hw)).trans ho,hw⟩⟩
 live:=fun i l bc t p hi hm=>by
  have aq:id<s.bs.length:=(List.getElem?_eq_some_iff.1 hb).1
  obtain⟨B2,cT⟩:=hr.live i l bc t p hi hm
  simp only[State.aC,List.getElem?_set]
  by_cases e:id=bc
  ·subst e;exact⟨B',by rw[if_pos rfl,if_pos aq]⟩
  ·rw[if_neg e];exact⟨B2,cT⟩
 defers:=hr.defers
 bz:=hr.bz.aC (hr.om hb hg)
theorem FQ(hE:ap P E){T:TypeId}{t:Ty}(ht:E.ty T=some t){x:El t}{cs:List Value}(hr:bg X t x cs){r off:Nat}{cur:Array Value}{T':TypeId}{w:World}(hg:w.heap[r]? =some (.cells cur T' (0,0)))(hf:off+t.cells<=cur.size):
 (storeVar T ⟨r,off,none⟩ (dL t cs)).run P w= .ok () (w.setRow r (cur.toList.take off++cs++cur.toList.drop (off+cs.length)).toArray):=by
 have hl:=hr.len
 have bS:=run_storeCells_at P r off T' cs 0 cur w hg (by omega) hr.one
 simp only[Nat.add_zero] at bS
 unfold storeVar
 simp only[Sem.run_bind,lA hE ht,Result.andThen_ok,vm hr]
 rw[if_neg (by simp [hl])]
 exact bS
theorem ab8:∀{t:Ty} {p q:List Nat} {x:El t} {u:Ty} {y:El u} {z:El t} {r:(u:Ty)×El u} {X:ax} {cs:List Value},bg X t x cs->El.set t p x u y=some z->t.at_ p=some u->t.eE p->El.get u q y=some r->El.get t (p++q) z=some r:=by
 intro t
 induction t with
 |arr n t ih=>
  intro p q x u y z r X cs hr hs ci hp hg
  cases p with
  |nil=>
   simp only[Ty.at_,Option.some.injEq] at ci
   subst ci
   simp only[El.set,Ty.cj,dite_true,Option.some.injEq] at hs
   subst hs
   exact hg
  |cons i p=>
   simp only[El.set] at hs
   obtain⟨z',nb,rfl⟩:=Option.map_eq_some_iff.1 hs
   obtain⟨h1,h2,h3⟩:=hr
   have hi:i<List.length x:=by rw[h1];exact hp.1
   simp only[El.get,List.cons_append]
   rw[List.getD_eq_getElem?_getD,List.getElem?_set_self hi]
   exact ih (h3 i _ (getD_some _ hi)) nb ci hp.2 hg
 |pair ta tb lY lZ=>
  intro p q x u y z r X cs hr hs ci hp hg
  cases p with
  |nil=>
   simp only[Ty.at_,Option.some.injEq] at ci
   subst ci
   simp only[El.set,Ty.cj,dite_true,Option.some.injEq] at hs
   subst hs
   exact hg
  |cons i p=>
   obtain⟨c1,c2,_,r1,r2⟩:=hr
   cases i with
   |zero=>
    simp only[El.set] at hs
    obtain⟨z',nb,rfl⟩:=Option.map_eq_some_iff.1 hs
    exact lY r1 nb ci hp hg
   |succ i=>
    simp only[El.set] at hs
    obtain⟨z',nb,rfl⟩:=Option.map_eq_some_iff.1 hs
    exact lZ (p:=i::p) r2 nb ci hp hg
 |_=>
  intro p q x u y z r X cs hr hs ci hp hg
  cases p with
  |nil=>
   simp only[Ty.at_,Option.some.injEq] at ci
   subst ci
   simp only[El.set,Ty.cj,dite_true,Option.some.injEq] at hs
   first|subst hs|skip
   exact hg
  |cons i p=>simp [Ty.at_] at ci
theorem NS{t u:Ty}{p:List Nat}{x z:El t}{y:El u}{cs cv:List Value}{own oy:List (List Nat)}{pl:List Nat->Place}(hr:bg X t x cs)(dh:t.eE p)(ci:t.at_ p=some u)(fg:El.set t p x u y=some z)(rep:bg X u y cv)
 (ho:bk X pl t x cs own) (hy:bk X (fun q=>pl (p++q)) u y cv oy):bk X pl t z (cs.take (t.off p)++cv++cs.drop (t.off p+cv.length)) (oy.map (fun q=>p++q)++xW own p):=by
 have ff:=rep.len
 have hle:=eQ t p u ci dh
 have ey:=hr.len
 intro q hq
 rcases List.mem_append.1 hq with hq|hq
 ·obtain⟨q,Y4,rfl⟩:=List.mem_map.1 hq
  obtain⟨e,t',xs,v,g0,g1,g2,g3⟩:=hy q Y4
  have aq:=(List.getElem?_eq_some_iff.1 g2).1
  refine⟨e,t',xs,v,OU t p q u ci dh g0,ab8 hr fg ci dh g1,?_,g3⟩
  rw[FV t p q u ci,List.append_assoc,List.getElem?_append_right (by rw[List.length_take];omega),List.length_take,Nat.min_eq_left (by omega),Nat.add_sub_cancel_left,List.getElem?_append_left aq]
  exact g2
 ·obtain⟨hqm,fX⟩:=zak hq
  obtain⟨e,t',xs,v,g0,g1,g2,g3⟩:=ho q hqm
  obtain⟨k1,k2⟩:=abg fg ci dh g0 fX g1
  refine⟨e,t',xs,v,g0,k1,?_,g3⟩
  have mm:=zig (cs:=cs) (c:=cv) (off:=t.off p) (by omega) (t.off q) 1 (by rw[ff];omega)
  have h0:=congrArg (fun l=>l[0]?) mm
  simp only[List.getElem?_take,List.getElem?_drop] at h0
  simp only[Nat.zero_lt_one,if_true,Nat.add_zero] at h0
  rw[h0];exact g2
theorem abf(hE:ap P E)(hr:Rel X s a){T:TypeId}{u0:Ty}{x y:Operand}(ho:o.op= .store T x y)(hT:E.ty T=some u0){id:Nat}{t:Ty}{p:List Nat}(dy:s.aG x= .ptr id t p)(h:Eu u0 s id t p (s.aG y) some=some u):aH P X s a o u:=by
 have hx:=hr.aG x
 rw[dy] at hx
 obtain⟨r0,hβ,hv⟩:=hx
 unfold Eu at h
 split at h
 case h_4=>cases h
 case h_2=>
  rename_i ta tb q
  split at h
  case h_2=>cases h
  rename_i u' ci
  split at h
  case isFalse=>cases h
  rename_i heq
  have:=Ty.aI heq
  subst this
  obtain⟨x0,own,r,hb,h,bR,h1,how,c,p0,p1,T',aD,aL,rQ,rR⟩:=ER hr h
  rw[hβ] at h1
  cases h1
  obtain⟨yv,h,hy⟩:=zy h
  split at h
  case h_2=>cases h
  rename_i z hz
  cases gN:gA own [] with
  |false=>rw[gN] at h;cases h
  |true=>
  rw[gN,cond_true] at h
  cases h
  have gN:=AR gN
  obtain⟨cv,rep,ev⟩:=hy X _ _ (hr.aG y)
  have dh:ta.eE q:=hv.2
  have hv:a.eval x= .pointer (some ⟨r0,ta.off q,none⟩):=hv.1
  have ff:=aL.len
  have hle:=eQ ta q u' ci dh
  have hvl:=rep.len
  have bS:=FQ (P:=P) hE hT rep (off:=ta.off q) (w:=X.w) (r:=r0) (T':=T') aD (by simp;omega)
  have fw:(c++ [p0,p1,Value.int .i64 x0.2.2]).take (ta.off q)++cv++(c++ [p0,p1,Value.int .i64 x0.2.2]).drop (ta.off q+cv.length)=(c.take (ta.off q)++cv++c.drop (ta.off q+cv.length))++ [p0,p1,Value.int .i64 x0.2.2]:=by
   rw[List.take_append_of_le_length (by omega),List.drop_append_of_le_length (by omega)]
   simp only[List.append_assoc]
  have aV:(execOp a.eval o).run P X.w= .ok .skip ((X.row r0 ((c.take (ta.off q)++cv++c.drop (ta.off q+cv.length))++ [p0,p1,Value.int .i64 x0.2.2]).toArray).w):=by
   simp only[execOp,ho,Sem.run_bind,Instr.storeAt,hv,Instr.sureAddr,Sem.run_pure,Result.andThen_ok,ev,bS]
   have e2:(List.take (ta.off q) (c++ [p0,p1,Value.int .i64 x0.2.2]).toArray.toList++cv++List.drop (ta.off q+cv.length) (c++ [p0,p1,Value.int .i64 x0.2.2]).toArray.toList)=(c.take (ta.off q)++cv++c.drop (ta.off q+cv.length))++ [p0,p1,Value.int .i64 x0.2.2]:=fw
   rw[e2]
   rfl
  have bG:bC (X.row r0 ((c.take (ta.off q)++cv++c.drop (ta.off q+cv.length))++ [p0,p1,Value.int .i64 x0.2.2]).toArray) id r0 ⟨.aJ .bN ta tb,(z,x0.2),own⟩:=by
   have hg:∀p∈z21,∀g o k,X.w.heap[g]? =some o->X.ow g= .row (.b id p) k->(X.row r0 ((c.take (ta.off q)++cv++c.drop (ta.off q+cv.length))++ [p0,p1,Value.int .i64 x0.2.2]).toArray).w.heap[g]? =some o/\(X.row r0 ((c.take (ta.off q)++cv++c.drop (ta.off q+cv.length))++ [p0,p1,Value.int .i64 x0.2.2]).toArray).ow g= .row (.b id p) k:=fun p _ g o k hg hw=>by
    have bI:g≠r0:=fun e=>by rw[e,how] at hw;cases hw
    exact⟨(setRow_other X.w r0 g _ bI).trans hg,hw⟩
   refine⟨how,⟨_,setRow_heap X.w r0 _ _ T' (0,0) aD⟩,fun _=>⟨c.take (ta.off q)++cv++c.drop (ta.off q+cv.length),p0,p1,T',setRow_heap X.w r0 _ _ T' (0,0) aD,(fm aL dh ci hz rep).ai (fun _ _=>mw how),rQ.move (fun _ _=>mw how) fun p hp=> ?_,rR.move (fun _ _=>mw how) fun p hp=> ?_⟩⟩
   ·rcases hp with rfl|rfl<;>exact hg _ (by simp [z21])
   ·rcases hp with rfl|rfl<;>exact hg _ (by simp [z21])
  exact⟨X.row r0 _,Go.undef,.inr ⟨aV,rfl⟩,EV how,(hr.row (cs:=_) hb hβ how bG (.inr gN)).skip o.dst⟩
 case h_3=>
  rename_i ta tb
  split at h
  case isFalse=>cases h
  rename_i heq
  have:=Ty.aI heq
  subst this
  obtain⟨x0,own,r,hb,h,bR,h1,how,c,p0,p1,T',aD,aL,rQ,rR⟩:=ER hr h
  rw[hβ] at h1
  cases h1
  obtain⟨n,h,hy⟩:=zy h
  cases gN:gA own [] with
  |false=>rw[gN] at h;cases h
  |true=>
  rw[gN,cond_true] at h
  cases h
  have gN:=AR gN
  obtain⟨cv,rep,ev⟩:=hy X _ _ (hr.aG y)
  have rep:cv=[.int .i64 n]:=rep
  subst rep
  have hv:a.eval x= .pointer (some ⟨r0,ta.cells+2,none⟩):=hv.1
  have ff:=aL.len
  have bS:=FQ (P:=P) hE hT (X:=X) (x:=n) (cs:=[.int .i64 n]) rfl (off:=ta.cells+2) (w:=X.w) (r:=r0) (T':=T') aD (by simp [Ty.cells];omega)
  have fw:(c++ [p0,p1,Value.int .i64 x0.2.2]).take (ta.cells+2)++ [Value.int .i64 n]++(c++ [p0,p1,Value.int .i64 x0.2.2]).drop (ta.cells+2+1)=c++ [p0,p1,Value.int .i64 n]:=by
   rw[<-ff,List.take_append,List.drop_append]
   simp [List.take_of_length_le,List.drop_eq_nil_of_le]
   omega
  have aV:(execOp a.eval o).run P X.w= .ok .skip ((X.row r0 (c++ [p0,p1,Value.int .i64 n]).toArray).w):=by
   simp only[execOp,ho,Sem.run_bind,Instr.storeAt,hv,Instr.sureAddr,Sem.run_pure,Result.andThen_ok,ev,bS]
   have e2:(List.take (ta.cells+2) (c++ [p0,p1,Value.int .i64 x0.2.2]).toArray.toList++ [Value.int .i64 n]++List.drop (ta.cells+2+ [Value.int .i64 n].length) (c++ [p0,p1,Value.int .i64 x0.2.2]).toArray.toList)=c++ [p0,p1,Value.int .i64 n]:=fw
   rw[e2]
   rfl
  have bG:bC (X.row r0 (c++ [p0,p1,Value.int .i64 n]).toArray) id r0 ⟨.aJ .bN ta tb,(x0.1,x0.2.1,n),own⟩:=by
   have hm:gZ X r0 (.b id) ta tb x0:=⟨c,p0,p1,T',aD,aL,rQ,rR⟩
   have hg:∀p∈z21,∀g o k,X.w.heap[g]? =some o->X.ow g= .row (.b id p) k->(X.row r0 (c++ [p0,p1,Value.int .i64 n]).toArray).w.heap[g]? =some o/\(X.row r0 (c++ [p0,p1,Value.int .i64 n]).toArray).ow g= .row (.b id p) k:=fun p _ g o k hg hw=>by
    have bI:g≠r0:=fun e=>by rw[e,how] at hw;cases hw
    exact⟨(setRow_other X.w r0 g _ bI).trans hg,hw⟩
   refine⟨how,⟨_,setRow_heap X.w r0 _ _ T' (0,0) aD⟩,fun _=>⟨c,p0,p1,T',setRow_heap X.w r0 _ _ T' (0,0) aD,aL.ai (fun _ _=>mw how),rQ.move (fun _ _=>mw how) fun p hp=> ?_,rR.move (fun _ _=>mw how) fun p hp=> ?_⟩⟩
   ·rcases hp with rfl|rfl<;>exact hg _ (by simp [z21])
   ·rcases hp with rfl|rfl<;>exact hg _ (by simp [z21])
  exact⟨X.row r0 _,Go.undef,.inr ⟨aV,rfl⟩,EV how,(hr.row (cs:=_) hb hβ how bG (.inr gN)).skip o.dst⟩
 rename_i ta tb i
 split at h
 case h_2=>cases h
 rename_i B hB
 split at h
 case isFalse=>cases h
 rename_i dg
 split at h
 case isFalse=>cases h
 rename_i heq
 have:=Ty.aI heq
 subst this
 obtain⟨hb,r,h1,how,cs,T',aD,dx,fH⟩:=EU hr hB dg
 rw[hβ] at h1
 cases h1
 obtain⟨yv,h,hy⟩:=zy h
 obtain⟨cv,rep,ev⟩:=hy X _ _ (hr.aG y)
 generalize(Ty.cast dg B.x:List (El ta))=xs at*
 cases hn:Nat.ble (i+1) (List.length xs) with
 |false=>rw[hn] at h;cases h
 |true=>
  rw[hn] at h
  cases h
  have aq:i<List.length xs:=Nat.le_of_ble_eq_true hn
  have hv:a.eval x= .pointer (some ⟨r0,i*ta.cells,none⟩):=hv
  have ff:=rep.len
  have hmul:(i+1)*ta.cells<=List.length xs*ta.cells:=Nat.mul_le_mul_right _ aq
  rw[Nat.add_mul,Nat.one_mul] at hmul
  have dd:i*ta.cells+ta.cells<=cs.size:=by omega
  have tM:i*ta.cells+cv.length<=cs.toList.length:=by simp;omega
  let new:=(cs.toList.take (i*ta.cells)++cv++cs.toList.drop (i*ta.cells+cv.length)).toArray
  have gO:new.toList=cs.toList.take (i*ta.cells)++cv++cs.toList.drop (i*ta.cells+cv.length):=rfl
  have aV:(execOp a.eval o).run P X.w= .ok .skip ((X.row r0 new).w):=by
   have bS:=FQ (P:=P) hE hT rep (off:=i*ta.cells) (w:=X.w) (r:=r0) (cur:=cs) (T':=T') aD dd
   simp only[execOp,ho,Sem.run_bind,Instr.storeAt,hv,Instr.sureAddr,Sem.run_pure,Result.andThen_ok,ev,bS]
   rfl
  have b6:new.size=cs.size:=by
   have:new.toList.length=cs.toList.length:=by rw[gO];simp;omega
   simpa using this
  have bG:bC (X.row r0 new) id r0 ⟨.aJ .row ta tb,(List.set xs i yv:List (El ta)),[]⟩:=by
   refine⟨how,new,T',setRow_heap X.w r0 cs new T' (0,0) aD,?_,fun j z hj=> ?_⟩
   ·rw[b6,dx]
    show _=List.length (List.set xs i yv)*_
    rw[List.length_set]
   ·refine bg.ai (fun _ _=>mw (cs:=new) how) ?_
    have hj:(List.set xs i yv)[j]? =some z:=hj
    rw[gO]
    by_cases e:i=j
    ·subst e
     rw[List.getElem?_set_self aq] at hj
     cases hj
     have:((cs.toList.take (i*ta.cells)++cv++cs.toList.drop (i*ta.cells+cv.length)).drop (i*ta.cells)).take ta.cells=cv:=by
      rw[List.append_assoc,List.drop_append_of_le_length (by rw[List.length_take];omega),List.drop_eq_nil_of_le (by rw[List.length_take];omega),List.nil_append,<-ff,List.take_left]
     rw[this]
     exact rep
    ·rw[List.getElem?_set_ne e] at hj
     rw[zig (cs:=cs.toList) (c:=cv) (off:=i*ta.cells) tM (j*ta.cells) ta.cells ?_]
     ·exact fH j z hj
     ·rcases Nat.lt_or_gt_of_ne e with h|h
      ·have:(i+1)*ta.cells<=j*ta.cells:=Nat.mul_le_mul_right _ h
       rw[Nat.add_mul,Nat.one_mul] at this
       right;omega
      ·have:(j+1)*ta.cells<=i*ta.cells:=Nat.mul_le_mul_right _ h
       rw[Nat.add_mul,Nat.one_mul] at this
       left;omega
  exact⟨X.row r0 new,Go.undef,.inr ⟨aV,rfl⟩,EV how,(hr.row (cs:=new) hb hβ how bG (.inl (by rw[Ty.aI dg];rfl))).skip o.dst⟩
theorem acW(hE:ap P E)(hr:Rel X s a){ops:List Oper}{T:TypeId}{x y:Operand}(ho:o.op= .store T x y){C:FuncId->bU Out}(h:act E C ops o s some=some u):aH P X s a o u:=by
 unfold act at h
 simp only[ho] at h
 have hx:=hr.aG x
 unfold store at h
 split at h
 case h_2=>cases h
 rename_i u0 hT
 split at h
 case h_2=>cases h
 rename_i id t p e
 rw[e] at hx
 obtain⟨r,hβ,hx⟩:=hx
 split at h
 ·exact abf hE hr ho hT e h
 rename_i dY
 have dY:t.bF=false:=by simpa using dY
 obtain⟨hv,dh⟩:=(qq dY).1 hx
 split at h
 case h_2=>cases h
 rename_i B hB
 split at h
 case isFalse=>cases h
 rename_i heq
 have dg:=Ty.aI heq
 subst dg
 split at h
 case h_2=>cases h
 rename_i u' ci
 split at h
 case isFalse=>cases h
 rename_i BQ
 have:=Ty.aI BQ
 subst this
 have hb:=z28 hB
 obtain⟨yv,h,hy⟩:=C4 hr h (.inl rfl)
 split at h
 case h_2=>cases h
 rename_i z fg
 cases h
 obtain⟨W,cv,hW,hX,Rm,rep,ev,hO,hβ2,mj,_⟩:=hy (fun q=> .b id (p++q))
 obtain⟨r',hβW,tG⟩:=Rm.boxes id B (by rw[xQ];exact hb)
 obtain⟨cs,T2,aD,aL,how,bR⟩:=tG.cells dY
 have hrr:r'=r:=by
  rw[hβ2,hβ] at hβW
  exact(Option.some.inj hβW).symm
 subst hrr
 have dd:B.t.off p+u'.cells<=cs.size:=by
  have:=eQ B.t p u' ci dh
  have hl:=aL.len
  simp at hl
  omega
 let new:=(cs.toList.take (B.t.off p)++cv++cs.toList.drop (B.t.off p+cv.length)).toArray
 have aV:(execOp a.eval o).run P X.w= .ok .skip ((W.row r' new).w):=by
  have bS:=FQ (P:=P) hE hT rep (off:=B.t.off p) (w:=X.w) (r:=r') (cur:=cs) (T':=T2) (by rw[<-hW];exact aD) dd
  simp only[execOp,ho,Sem.run_bind,Instr.storeAt,hv,Instr.sureAddr,Sem.run_pure,Result.andThen_ok,ev,bS]
  rw[<-hW];rfl
 have ua:=NS aL dh ci fg rep bR hO
 have bG:bC (W.row r' new) id r' {t:=B.t,x:=z,own:=(s.aG y).own.map (fun q=>p++q)++xW B.own p}:=by
  refine⟨how,dp.of dY (setRow_heap W.w r' cs new T2 (0,0) aD) ?_ ?_⟩
  ·have:=(fm aL dh ci fg rep).ai (fun _ _=>mw (cs:=new) how)
   simpa [new] using this
  ·have:=ua.row (cs:=new) how
   simpa [new] using this
 have eW:=Rm.row (cs:=new) (by rw[xQ];exact hb) hβW how bG (.inl (Qb dY))
 exact⟨W.row r' new,Go.undef,.inr ⟨aV,rfl⟩,hX.trans (EV how),eW.skip o.dst⟩
end Go.Ref

namespace Go.Ref
open Go
variable {P:Program} {E:Env} {X:ax} {s:State} {a:Act} {o:Oper} {u:Out}
theorem Ml(off:Nat):∀(l:List Value) (k:Nat) (cs:Array Value),off+k+l.length<=cs.size->
 ((l.zipIdx k).foldl (fun cs p=>cs.setIfInBounds (off+p.2) p.1) cs).toList=cs.toList.take (off+k)++l++cs.toList.drop (off+k+l.length)
 | [],k,cs,h=>by simp
 |v::r,k,cs,h=>by
  simp only[List.length_cons] at h
  simp only[List.zipIdx_cons,List.foldl_cons]
  rw[Ml off r (k+1) _ (by simp;omega)]
  simp only[Array.toList_setIfInBounds,List.length_cons]
  apply List.ext_getElem?
  intro q
  simp only[List.getElem?_append,List.getElem?_take,List.getElem?_drop,List.length_append,List.length_take,List.length_set,Array.length_toList,List.getElem?_set,List.length_cons,List.getElem?_cons]
  rw[Nat.min_eq_left (show off+(k+1)<=cs.size by omega),Nat.min_eq_left (show off+k<=cs.size by omega)]
  by_cases h1:q<off+k
  ·rw[if_pos (by omega),if_pos (by omega),if_pos (by omega),if_neg (by omega),if_pos (by omega),if_pos (by omega),if_pos (by omega)]
  ·by_cases h2:q=off+k
   ·subst h2
    rw[if_pos (by omega),if_pos (by omega),if_pos (by omega),if_pos rfl,if_pos (by omega),if_pos (by omega),if_neg (by omega),if_pos (by omega)]
   ·by_cases h3:q<off+(k+1)+r.length
    ·rw[if_pos (by omega),if_neg (by omega),if_pos (by omega),if_neg (by omega),if_neg (by omega)]
     try(congr 1<;>omega)
    ·rw[if_neg (by omega),if_neg (by omega),if_neg (by omega)]
     first|done|(congr 1;omega)
theorem zqc(off:Nat)(l:List Value)(cs:Array Value)(h:off+l.length<=cs.size):
 ((l.toArray.zipIdx).foldl (fun cs (p:Value×Nat)=>cs.setIfInBounds (off+p.2) p.1) cs).toList=cs.toList.take off++l++cs.toList.drop (off+l.length):=by
 have:=Ml off l 0 cs (by omega)
 rw[<-Array.foldl_toList,Array.toList_zipIdx]
 simpa using this
theorem z175(hr:Rel X s a){t:Ty}{pl:Nat->Option (Nat×Nat)}(fI:∀i ft,t.at_ [i]=some ft->t.kE i=true->t.eE [i]/\pl i=some (t.off [i],ft.cells)){R:Type}{K:El t->List (List Nat)->Option R}{z:R}:
 ∀(parts:List (Nat×Operand)) (x:El t) (own:List (List Nat)) (cs:Array Value),bg X t x cs.toList->rF t x own (parts.map fun p=>(p.1,s.aG p.2,[])) K=some z->
  ∃y ju cells,K y ju=some z/\Instr.fill pl cs (parts.map fun p=>(p.1,a.eval p.2))=some cells/\bg X t y cells.toList
 | [],x,own,cs,rep,h=>⟨x,own,cs,h,rfl,rep⟩
 |(i,p)::r,x,own,cs,rep,h=>by
  simp only[List.map_cons,rF] at h
  split at h
  case isTrue=>cases h
  rename_i hb
  have hb:t.kE i=true:=by cases tH:t.kE i<;>simp_all
  split at h
  case h_2=>cases h
  rename_i ft ci
  obtain⟨y,h,hy⟩:=zy h
  split at h
  case h_2=>cases h
  rename_i x' fg
  obtain⟨c,rc,ec⟩:=hy X _ _ (hr.aG p)
  obtain⟨dh,hp⟩:=fI i ft ci hb
  have ff:=rc.len
  have ey:=rep.len
  have hle:=eQ t [i] ft ci dh
  have ue:=fm rep dh ci fg rc
  have dd:t.off [i]+c.length<=cs.size:=by rw[ff];simp at ey;omega
  have ld:=zqc (t.off [i]) c cs dd
  obtain⟨y2,kg,cells,h1,h2,h3⟩:=z175 hr fI r x' _ _ (by rw[ld];exact ue) h
  refine⟨y2,kg,cells,h1,?_,h3⟩
  simp only[List.map_cons,Instr.fill,hp,ec,vm rc]
  rw[if_neg (by simp only[List.size_toArray,ff];simp;simp at ey;omega)]
  exact h2
theorem Sa{t:Ty}{pl:Nat->Option (Nat×Nat)}(fI:∀i ft,t.at_ [i]=some ft->t.kE i=true->t.eE [i]/\pl i=some (t.off [i],ft.cells)){R:Type}{K:El t->List (List Nat)->Option R}{z:R}:
 ∀(parts:List (Nat×Operand)) (X:ax) (s:State) (x:El t) (own:List (List Nat)) (cs:Array Value),Rel X s a->bg X t x cs.toList->bk X (.r 0) t x cs.toList own->rF t x own (my s parts).1 K=some z->
  ∃y ju cells Y,K y ju=some z/\Y.w=X.w/\Ext X Y/\Rel Y (s.close (my s parts).2) a/\Instr.fill pl cs (parts.map fun p=>(p.1,a.eval p.2))=some cells/\bg Y t y cells.toList/\bk Y (.r 0) t y cells.toList ju
 | [],X,s,x,own,cs,hr,rep,ho,h=>⟨x,own,cs,X,h,rfl,Ext.refl X,hr,rfl,rep,ho⟩
 |(i,p)::r,X,s,x,own,cs,hr,rep,ho,h=>by
  simp only[my,rF] at h
  split at h
  case isTrue=>cases h
  rename_i hb
  have hb:t.kE i=true:=by cases tH:t.kE i<;>simp_all
  split at h
  case h_2=>cases h
  rename_i ft ci
  have hc:xV (s.aG p).own p=src p\/((s.aG p).own=[]/\xV (s.aG p).own p=[]):=by
   cases bR:(s.aG p).own with
   |nil=>exact .inr ⟨rfl,rfl⟩
   |cons _ _=>exact .inl rfl
  obtain⟨y,h,hy⟩:=C4 hr h hc
  split at h
  case h_2=>cases h
  rename_i x' fg
  obtain⟨Y,c,hw,aZ,bu,rc,ec,hO,hβ,hT,bS⟩:=hy (fun q=> .r 0 ([i]++q))
  obtain⟨dh,hp⟩:=fI i ft ci hb
  have ff:=rc.len
  have ey:=rep.len
  have hle:=eQ t [i] ft ci dh
  have Ki:=rep.mono aZ
  have hoY:=ho.stay bS (by simp)
  have ue:=fm Ki dh ci fg rc
  have ua:=NS Ki dh ci fg rc hoY hO
  have dd:t.off [i]+c.length<=cs.size:=by rw[ff];simp at ey;omega
  have ld:=zqc (t.off [i]) c cs dd
  obtain⟨y2,kg,cells,Z,h1,vh,cf,cY,h2,h3,h4⟩:=Sa fI r Y _ x' _ _ bu (by rw[ld];exact ue) (by rw[ld];exact ua) h
  refine⟨y2,kg,cells,Z,h1,vh.trans hw,aZ.trans cf,?_,?_,h3,h4⟩
  ·simp only[my,zhk]
   exact cY
  ·simp only[List.map_cons,Instr.fill,hp,ec,vm rc]
   rw[if_neg (by simp only[List.size_toArray,ff];simp;simp at ey;omega)]
   exact h2
theorem CX(hE:ap P E):∀(fl:List Field) (t:Ty) (off:Nat),jh E fl t off->∃places,fl.mapM (fun(f:Field)=>(P.info? f.type).map fun i=>(f.offset,i.size))=some places/\
 ∀(j:Nat) (f:Field) (ft:Ty),fl[j]? =some f->E.ty f.type=some ft->places[j]? =some (f.offset,ft.cells)
 | [],t,off,h=>⟨[],rfl,fun j f ft hj=>by simp at hj⟩
 |f::r,t,off,h=>by
  cases t<;>simp only[jh] at h<;>try exact h.elim
  rename_i ta tb
  obtain⟨h1,h2,h3,h4⟩:=h
  obtain⟨places,g1,g2⟩:=CX hE r tb _ h4
  obtain⟨i,i1,i2,_⟩:=(hE.ty _ _ h2).info
  refine⟨(f.offset,i.size)::places,?_,fun j g gt hj hg=> ?_⟩
  ·simp [List.mapM_cons,i1,g1]
  ·cases j with
   |zero=>
    simp only[List.getElem?_cons_zero,Option.some.injEq] at hj
    subst hj
    rw[h2] at hg
    cases hg
    simp [i2]
   |succ j=>
    simp only[List.getElem?_cons_succ] at hj⊢
    exact g2 j g gt hj hg
theorem afx(hE:ap P E)(hr:Rel X s a){T:TypeId}{t:Ty}(hT:E.ty T=some t)(qV:t.agg=true){R:Type}{K:El t->List (List Nat)->Option R}{z:R}(parts:Array (Nat×Operand))
 (h:rF t (El.bT t) (xR t) (my s parts.toList).1 K=some z):
 ∃y own cs Y,K y own=some z/\Y.w=X.w/\Ext X Y/\Rel Y (s.close (my s parts.toList).2) a/\bg Y t y cs/\bk Y (.r 0) t y cs own/\(Instr.build T (parts.map fun(i,x)=>(i,a.eval x))).run P X.w= .ok (dL t cs) X.w:=by
 have hf:=hE.ty T t hT
 obtain⟨i,i1,i2,i3,i4⟩:=hf.info
 have hz:=rZ X t
 have hn:=Ly X (.r 0) t
 have JX:(dL t (zp t)).cells=(zp t).toArray:=vm hz
 have kD:(parts.map fun(i,x)=>(i,a.eval x)).toList=parts.toList.map fun p=>(p.1,a.eval p.2):=by simp
 cases t with
 |arr n t=>
  obtain⟨e,hu,he,_⟩:=hf.dj
  obtain⟨ie,j1,j2,_⟩:=(hE.ty e t he).info
  obtain⟨y,own,cells,Y,k1,hw,aZ,bu,k2,k3,k4⟩:=Sa (pl:=fun i=>some (i*ie.size,ie.size)) (fun i ft ci hb=>by
   simp only[Ty.at_,Option.some.injEq] at ci
   subst ci
   have hb:i+1<=n:=by simpa [Ty.kE] using hb
   exact⟨⟨hb,by simp [Ty.eE]⟩,by simp [Ty.off,j2]⟩) parts.toList X s (El.bT (.arr n t)) _ (zp (.arr n t)).toArray hr (by simpa using hz) (by simpa using hn) h
  refine⟨y,own,cells.toList,Y,k1,hw,aZ,bu,k3,k4,?_⟩
  rw[jx rfl]
  refine run_build X.w T _ cells.toList.toArray ?_
  unfold Program.built
  simp only[i1,hu,i4,j1,JX,kD]
  simpa using k2
 |pair ta tb=>
  obtain⟨fs,hu,dd,_⟩:=hf.dj
  obtain⟨places,p1,p2⟩:=CX hE fs.toList _ 0 dd
  obtain⟨y,own,cells,Y,k1,hw,aZ,bu,k2,k3,k4⟩:=Sa (pl:=(places.toArray[·]?)) (fun i ft ci hb=>by
   obtain⟨f,g1,g2,g3,g4⟩:=P5 fs.toList _ 0 i ft dd rfl ci
   refine⟨g4,?_⟩
   have:=p2 i f ft g1 g3
   simp only[List.getElem?_toArray,this,g2,Nat.zero_add]) parts.toList X s (El.bT (.pair ta tb)) _ (zp (.pair ta tb)).toArray hr (by simpa using hz) (by simpa using hn) h
  refine⟨y,own,cells.toList,Y,k1,hw,aZ,bu,k3,k4,?_⟩
  rw[jx rfl]
  refine run_build X.w T _ cells.toList.toArray ?_
  unfold Program.built
  simp only[i1,hu,i4,p1,JX,kD]
  simpa using k2
 |unit=>
  obtain⟨fs,hu,dd,_⟩:=hf.dj
  obtain⟨places,p1,p2⟩:=CX hE fs.toList _ 0 dd
  obtain⟨y,own,cells,Y,k1,hw,aZ,bu,k2,k3,k4⟩:=Sa (pl:=(places.toArray[·]?)) (fun i ft ci hb=>by simp [Ty.at_] at ci) parts.toList X s (El.bT .unit) _ (zp .unit).toArray hr (by simpa using hz) (by simpa using hn) h
  refine⟨y,own,cells.toList,Y,k1,hw,aZ,bu,k3,k4,?_⟩
  rw[jx rfl]
  refine run_build X.w T _ cells.toList.toArray ?_
  unfold Program.built
  simp only[i1,hu,i4,p1,JX,kD]
  simpa using k2
 |aJ k a b=>exact absurd (hE.iL hT) (by simp [Ty.bF])
 |_=>simp [Ty.agg] at qV
def ax.nr(X:ax)(j:Nat)(q:List Nat->Place):ax:=
 {X with ow:=fun g=>match X.ow g with
  | .row (.r j' p) n=>if j'=j then .row (q p) n else .row (.r j' p) n
  |w=>w}
theorem adv{s:State}{X:ax}{j:Nat}{q:List Nat->Place}:dS s X (X.nr j q):=by
 refine⟨rfl,rfl,fun g=> ?_⟩
 simp only[ax.nr]
 cases hg:X.ow g with
 |row pl n=>
  cases pl with
  |r j' p=>
   by_cases e:j'=j
   ·subst e
    exact .inr ⟨_,n,q p,rfl,fun h=>h,by simp⟩
   ·exact .inl (if_neg e)
  |_=>exact .inl rfl
 |_=>exact .inl rfl
theorem bk.xI{X:ax}{j:Nat}{q:List Nat->Place}{t:Ty}{x:El t}{cs:List Value}{own:List (List Nat)}(h:bk X (.r j) t x cs own):bk (X.nr j q) q t x cs own:=fun p hp=>by
 obtain⟨e,t',xs,v,g0,g1,g2,g3⟩:=h p hp
 refine⟨e,t',xs,v,g0,g1,g2,?_⟩
 rcases g3 with h|⟨g,cap,cur,h1,h2,h3,h4,h5,h6⟩
 ·exact .inl h
 ·exact .inr ⟨g,cap,cur,h1,h2,h3,h4,h5,by simp [ax.nr,h6]⟩
theorem acM(hE:ap P E)(hr:Rel X s a){ops:List Oper}{T:TypeId}{parts:Array (Nat×Operand)}(ho:o.op= .build T parts){C:FuncId->bU Out}(h:act E C ops o s some=some u):aH P X s a o u:=by
 unfold act at h
 simp only[ho] at h
 split at h
 case h_2=>cases h
 rename_i t hT
 split at h
 case isTrue=>cases h
 rename_i qV
 have qV:t.agg=true:=by cases tH:t.agg<;>simp_all
 obtain⟨y,own,cs,Y,h,hw,aZ,bu,rep,hO,aV⟩:=afx hE hr hT qV parts h
 cases h
 have mj:=adv (s:=s.close (my s parts.toList).2) (X:=Y) (j:=0) (q:= .c (o.dst.getD 0) 0)
 refine⟨Y.nr 0 (.c (o.dst.getD 0) 0),dL t cs,.inl ?_,aZ.trans mj.ext,(bu.mod mj.mod).fin ⟨cs,rep.ai (fun _ _=>mj.az.1),rfl,hO.xI⟩ (fun id t p hm=>by simp at hm)⟩
 rw[mj.w,hw]
 simp only[execOp,ho,Sem.run_bind,aV,Result.andThen_ok,Sem.run_pure]
end Go.Ref

namespace Go.Ref
open Go
variable {P:Program} {E:Env} {X:ax} {s:State} {a:Act} {o:Oper} {u:Out}
theorem ai1{t:Ty}{x:El t}{xs:List (El t)}{n:Nat}{c cs:List Value}(h1:bg X t x c)(h2:bg X (.arr n t) xs cs):bg X (.arr (n+1) t) (x::xs:List (El t)) (c++cs):=by
 obtain⟨k1,k2,k3⟩:=h2
 have hl:=h1.len
 refine⟨by simp;exact k1,by simp [k2,hl,Nat.add_mul];omega,fun j y hj=> ?_⟩
 cases j with
 |zero=>
  simp only[List.getElem?_cons_zero,Option.some.injEq] at hj
  subst hj
  rw[Nat.zero_mul,List.drop_zero,<-hl,List.take_left]
  exact h1
 |succ j=>
  simp only[List.getElem?_cons_succ] at hj
  have hd:(c++cs).drop ((j+1)*t.cells)=cs.drop (j*t.cells):=by
   rw[Nat.add_mul,Nat.one_mul,Nat.add_comm,<-List.drop_drop,<-hl,List.drop_left]
  rw[hd]
  exact k3 j y hj
theorem FT{t:Ty}{xs ys:List (El t)}{n m:Nat}{c d:List Value}(h1:bg X (.arr n t) xs c)(h2:bg X (.arr m t) ys d):bg X (.arr (n+m) t) (xs++ys:List (El t)) (c++d):=by
 obtain⟨j1,j2,j3⟩:=h1
 obtain⟨k1,k2,k3⟩:=h2
 refine⟨by rw[List.length_append,j1,k1],by rw[List.length_append,j2,k2,Nat.add_mul],fun j y hj=> ?_⟩
 by_cases aq:j<n
 ·rw[List.getElem?_append_left (by rw[j1];exact aq)] at hj
  have hle:(j+1)*t.cells<=n*t.cells:=Nat.mul_le_mul_right _ aq
  rw[Nat.add_mul,Nat.one_mul] at hle
  rw[List.drop_append_of_le_length (by omega),List.take_append_of_le_length (by rw[List.length_drop];omega)]
  exact j3 j y hj
 ·rw[List.getElem?_append_right (by rw[j1];omega),j1] at hj
  have hd:(c++d).drop (j*t.cells)=d.drop ((j-n)*t.cells):=by
   have hm:j*t.cells=c.length+(j-n)*t.cells:=by
    rw[j2,<-Nat.add_mul]
    congr 1
    omega
   rw[hm,List.drop_length_add_append]
  rw[hd]
  exact k3 _ y hj
theorem zvp{t:Ty}{ad:Addr}(hs:ad.spot=none):∀(xs:List (El t)) (p:Nat),(∀(j:Nat) x,xs[j]? =some x->∃eD,bg X t x eD/\∀(i:Nat) v,eD[i]? =some v->X.az (ad.add (p+(j*t.cells+i))) v)->
 ∃cs,bg X (.arr xs.length t) xs cs/\∀(i:Nat) v,cs[i]? =some v->X.az (ad.add (p+i)) v
 | [],p,h=>⟨[],⟨rfl,by simp,fun j x hj=>by simp at hj⟩,fun i v hi=>by simp at hi⟩
 |x::xs,p,h=>by
  obtain⟨c,r1,s1⟩:=h 0 x rfl
  obtain⟨cs,r2,s2⟩:=zvp hs xs (p+t.cells) (fun j y hj=>by
   obtain⟨c',r',s'⟩:=h (j+1) y hj
   refine⟨c',r',fun i v hi=> ?_⟩
   have:=s' i v hi
   rw[show p+((j+1)*t.cells+i)=p+t.cells+(j*t.cells+i) by rw[Nat.add_mul];omega] at this
   exact this)
  have hl:=r1.len
  refine⟨c++cs,ai1 r1 r2,fun i v hi=> ?_⟩
  rw[List.getElem?_append] at hi
  split at hi
  ·have:=s1 i v hi
   rwa [show p+(0*t.cells+i)=p+i by omega] at this
  ·have:=s2 _ v hi
   rwa [show p+t.cells+(i-c.length)=p+i by omega] at this
theorem zaq{e:TypeId}{t:Ty}{xs:List (El t)}{A:Option Addr}{n c:Nat}(h:bg X (.sl e t) xs [.slice A n c]):n=xs.length/\xs.length<=c/\
 ∃cs,bg X (.arr xs.length t) xs cs/\(A=none->xs=[])/\∀ad,A=some ad->∀(i:Nat) v,cs[i]? =some v->X.az (ad.add i) v:=by
 obtain⟨A',c',h1,h2,h3⟩:=h
 simp only[List.cons.injEq,Value.slice.injEq,and_true] at h1
 obtain⟨rfl,rfl,rfl⟩:=h1
 refine⟨rfl,h2,?_⟩
 cases xs with
 |nil=>exact⟨[],⟨rfl,by simp,fun j x hj=>by simp at hj⟩,fun _=>rfl,fun ad _ i v hi=>by simp at hi⟩
 |cons x r=>
  obtain⟨ad,_,hA,hs,_⟩:=h3 0 x rfl
  subst hA
  obtain⟨cs,k1,k2⟩:=zvp (X:=X) hs (x::r) 0 (fun j y hj=>by
   obtain⟨qb,c',e1,_,g1,g2⟩:=h3 j y hj
   cases e1
   exact⟨c',g1,fun i v hi=>by rw[Nat.zero_add];exact g2 i v hi⟩)
  refine⟨cs,k1,(fun e=>by cases e),fun qb e i v hi=> ?_⟩
  cases e
  have:=k2 i v hi
  rwa [Nat.zero_add] at this
theorem zih{e:TypeId}{t:Ty}{xs:List (El t)}{g cap:Nat}{pl:Place}{cur:Array Value}{cs:List Value}(hg:X.w.heap[g]? =some (.cells cur e (0,0)))(how:X.ow g= .row pl (xs.length*t.cells))
 (m9:cur.toList.take (xs.length*t.cells)=cs) (aL:bg X (.arr xs.length t) xs cs) (mZ:xs.length<=cap):bg X (.sl e t) xs [.slice (some ⟨g,0,none⟩) xs.length cap]:=by
 refine⟨_,cap,rfl,mZ,fun j x hj=>⟨_,_,rfl,rfl,aL.2.2 j x hj,fun i v hi=> ?_⟩⟩
 have tP:=(List.getElem?_eq_some_iff.1 hj).1
 have hle:(j+1)*t.cells<=xs.length*t.cells:=Nat.mul_le_mul_right _ tP
 rw[Nat.add_mul,Nat.one_mul] at hle
 rw[List.getElem?_take] at hi
 split at hi
 case isFalse=>cases hi
 rename_i Rh
 rw[List.getElem?_drop,<-m9,List.getElem?_take,if_pos (by omega)] at hi
 refine⟨AX rfl _,?_,?_⟩
 ·rw[iC,Nat.zero_add]
  simp only[World.cell?,hg]
  simpa using hi
 ·rw[iC,Nat.zero_add]
  show Ow.used (X.ow g) _
  rw[how]
  show j*t.cells+i<_
  omega
end Go.Ref

namespace Go.Ref
open Go
variable {P:Program} {E:Env} {X:ax} {s:State} {a:Act} {o:Oper} {u:Out}
theorem z124{R:Type}{t:Ty}{n:Nat}{K:List (El t)->Option R}:∀(parts:List (Nat×SV)) (xs:List (El t)) (own:List (List Nat)),xs.length=n->Bb t xs parts K=rF (.arr n t) xs own (parts.map fun p=>(p.1,p.2,[])) (fun y _=>K y)
 | [],xs,own,h=>rfl
 |(i,v)::r,xs,own,h=>by
  subst h
  simp only[Bb,List.map_cons,rF,Ty.kE,Ty.at_,El.set,Ty.cj,dite_true,Option.map_some]
  congr 1
  refine congrArg (v.el t) (funext fun y=> ?_)
  exact z124 r (xs.set i y) _ (by simp)
theorem aha{t:Ty}(n:Nat)(hk:0<t.cells):((Array.range (n*t.cells)).map fun i=>(zp t).toArray[i % (zp t).toArray.size]!).toList=(List.replicate n (zp t)).flatten:=by
 have hz:=uP t
 apply List.ext_getElem?
 intro q
 have hlen:((List.replicate n (zp t)).flatten).length=n*t.cells:=by simp [hz]
 by_cases hq:q<n*t.cells
 ·have h1:q/t.cells<n:=(Nat.div_lt_iff_lt_mul hk).2 hq
  have h2:=z9c hz n (q/t.cells) h1
  have h3:=congrArg (fun l=>l[q % t.cells]?) h2
  simp only[List.getElem?_take,List.getElem?_drop,if_pos (Nat.mod_lt q hk)] at h3
  rw[Nat.mul_comm,Nat.div_add_mod] at h3
  rw[h3]
  have hm:q % t.cells<(zp t).length:=by rw[hz];exact Nat.mod_lt q hk
  rw[List.getElem?_eq_getElem hm]
  simp [hq,hz,hm]
  rw[List.getElem?_eq_getElem hm]
  rfl
 ·rw[List.getElem?_eq_none (by simp;omega),List.getElem?_eq_none (by omega)]
theorem NQ{X:ax}{pl:List Nat->Place}{e:TypeId}{t:Ty}{xs:List (El t)}{v:Value}(h:bp X (pl []) e t.cells xs.length v):bk X pl (.sl e t) xs [v] [[]]:=fun p hp=>by
 have hp:p=[]:=by simpa using hp
 subst hp
 exact⟨e,t,xs,v,by simp [Ty.eE],rfl,rfl,h⟩
theorem zuo(hE:ap P E)(hr:Rel X s a){ops:List Oper}{T:TypeId}{n:Nat}{parts:Array (Nat×Operand)}(ho:o.op= .buildSlice T n parts){C:FuncId->bU Out}(h:act E C ops o s some=some u):aH P X s a o u:=by
 unfold act at h
 simp only[ho] at h
 split at h
 case h_2=>cases h
 rename_i e t hT
 split at h
 case isTrue=>cases h
 rename_i Aj
 have hk:0<t.cells:=by rcases Nat.eq_zero_or_pos t.cells with h0|h0<;>simp_all
 cases hb:Nat.ble (n*t.cells) 16777216 with
 |false=>rw[hb] at h;cases h
 |true=>
  rw[hb] at h
  simp only[cond_true] at h
  have uf:n*t.cells<=16777216:=Nat.le_of_ble_eq_true hb
  rw[z124 (n:=n) _ _ [] (by simp),List.map_map] at h
  obtain⟨hu,he⟩:=(hE.ty T _ hT).dj
  have dx:=lA (P:=P) hE he X.w
  have hzr:=SA (P:=P) hE he X.w
  have Zo:=rZ X (.arr n t)
  obtain⟨y,ju,cells,k1,k2,k3⟩:=z175 (pl:=fun i=>some (i*t.cells,t.cells)) hr (fun i ft ci hb=>by
   simp only[Ty.at_,Option.some.injEq] at ci
   subst ci
   have hb:i+1<=n:=by simpa [Ty.kE] using hb
   exact⟨⟨hb,by simp [Ty.eE]⟩,by simp [Ty.off]⟩) parts.toList (El.bT (.arr n t)) [] (zp (.arr n t)).toArray (by simpa using Zo) h
  cases k1
  have hy:List.length y=n:=k3.1
  have ey:cells.size=n*t.cells:=by have:=k3.2.1;simpa using this
  have hn:n<=n*t.cells:=Nat.le_mul_of_pos_right n hk
  let Y:=X.new cells e (.row (.c (o.dst.getD 0) 0 []) (n*t.cells)) X.β
  have xd:eJ s X Y:=Pc X s cells e _ _ rfl (fun _ _ _=>rfl)
  obtain⟨n1,n2⟩:=O4 X cells e (.row (.c (o.dst.getD 0) 0 []) (n*t.cells)) X.β
  refine⟨Y,.slice (some ⟨X.w.heap.size,0,none⟩) n n,.inl ?_,xd.ext,?_⟩
  ·have hcz:(Array.map (fun x=>(dL t (zp t)).cells[x % (dL t (zp t)).cells.size]!) (Array.range (n*t.cells)))=(zp (.arr n t)).toArray:=by
    apply Array.ext'
    rw[vm (rZ X t),aha n hk]
    rfl
   have kD:(parts.map fun(i,x)=>(i,a.eval x)).toList=parts.toList.map fun p=>(p.1,a.eval p.2):=by simp
   by_cases hn0:n*t.cells=0
   ·have YQ:n=0:=by
     rcases Nat.mul_eq_zero.1 hn0 with h0|h0
     ·exact h0
     ·omega
    subst YQ
    have k2':Instr.fill (fun i=>some (i*t.cells,t.cells)) #[] (parts.toList.map fun p=>(p.1,a.eval p.2))=some cells:=k2
    have aoi:(parts.map fun x=>(x.1,a.eval x.2)).toList=parts.toList.map fun p=>(p.1,a.eval p.2):=by simp
    simp [execOp,ho,Instr.buildSlice,run_underlying hu,dx,newRow,Y,ax.new]
    rw[show(Array.map (fun x=>default) (Array.range 0):Array Value)= #[] by simp,k2']
    simp
   ·have hc:=hcz
    simp [execOp,ho,Instr.buildSlice,run_underlying hu,dx,hzr,hn0,newRow,Y,ax.new,Nat.not_lt.2 uf]
    rw[hcz,k2]
    simp
  ·refine(hr.dm xd).fin ?_ (fun id t p hm=>by simp at hm)
   refine⟨[.slice (some ⟨X.w.heap.size,0,none⟩) n n],?_,rfl,NQ ?_⟩
   ·rw[<-hy]
    refine zih (pl:= .c (o.dst.getD 0) 0 []) (cur:=cells) (cs:=cells.toList) n1 (by rw[hy];exact n2) ?_ ?_ (Nat.le_refl _)
    ·rw[hy,List.take_of_length_le (by simp [ey])]
    ·rw[hy];exact k3.ai (fun _ _=>xd.az)
   ·refine .inr ⟨X.w.heap.size,n,cells,by rw[hy],n1,by rw[hy];exact Nat.le_refl _,?_,ey,by rw[hy];exact n2⟩
    simp only[maxLen]
    omega
end Go.Ref

