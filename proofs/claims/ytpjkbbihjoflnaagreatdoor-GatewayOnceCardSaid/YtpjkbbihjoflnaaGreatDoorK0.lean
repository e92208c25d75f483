/- No condition. -/
import Derived.Orders
import Derived.Below
import Derived.Maps.AppendAt
import Derived.WalkKit
import Derived.Lib.AppendStr
import Derived.Shelf.Strings.BuilderF
set_option linter.unusedVariables false
set_option linter.unusedSimpArgs false
set_option maxRecDepth 100000
namespace Go.Ref
open Go
structure ve(T e:TypeId)(b:Nat)(v:Value)(bs:List Value)(w:World):Prop where
 mW:w.heap[b]? =some (.cells #[.pointer none,v] T (0,0))\/w.heap[b]? =some (.cells #[.pointer (some ⟨b,0,none⟩),v] T (0,0))
 own:w.ownsRow 0 e 1 v bs.length bs
 ne:v.ownBlock≠some b
theorem ve.lt{T e:TypeId}{b:Nat}{v:Value}{bs:List Value}{w:World}(h:ve T e b v bs w):b<w.heap.size:=by
 rcases Nat.lt_or_ge b w.heap.size with h'|h'
 ·exact h'
 ·rcases h.mW with h|h<;>simp [Array.getElem?_eq_none h'] at h
theorem ve.same{T e:TypeId}{b:Nat}{v:Value}{bs:List Value}{w w':World}(h:ve T e b v bs w)(hb:w'.heap[b]? =w.heap[b]?)(hg:∀g o,v.ownBlock=some g->w.heap[g]? =some o->w'.heap[g]? =some o):ve T e b v bs w':=by
 refine⟨by rw[hb];exact h.mW,⟨h.own.1,?_⟩,h.ne⟩
 rcases h.own.2 with hn|⟨g,cap,cur,hv,h0,Cc,rest⟩
 ·exact .inl hn
 ·exact .inr ⟨g,cap,cur,hv,h0,hg g _ (by rw[hv];rfl) Cc,rest⟩
inductive YJ where
 |iter
 |mp
 |row
 |iQ (n:Nat)
 |gH (T e:Nat)
 |own
 |rW (f:Nat)
 |bB
 deriving DecidableEq,Inhabited
@[reducible] def wh:YJ->Type->Type->Type
  | .iter,_,_=>ByteArray×Nat
  | .mp,a,b=>List (a×b)
  | .row,a,_=>List a
  | .iQ _,_,_=>Unit
  | .gH _ _,_,_=>ByteArray
  | .own,a,_=>Option a
  | .rW _,_,_=>Unit
  | .bB,a,b=>a×(Option b×Option b)×Int
def wh.bV:(k:YJ)->(a b:Type)->a->wh k a b
 | .iter,_,_,_=>((⟨#[]⟩:ByteArray),(0:Nat))
 | .mp,_,_,_=>[]
 | .row,_,_,_=>[]
 | .iQ _,_,_,_=>()
 | .gH _ _,_,_,_=>(⟨#[]⟩:ByteArray)
 | .own,_,_,_=>none
 | .rW _,_,_,_=>()
 | .bB,_,_,x=>(x,(none,none),(0:Int))
inductive Ty where
 |bool
 |int (k:IntKind)
 |str
 |sl (e:TypeId) (t:Ty)
 |arr (n:Nat) (t:Ty)
 |unit
 |pair (a b:Ty)
 |aG (k:YJ) (a b:Ty)
 deriving Inhabited
@[reducible] def El:Ty->Type
  | .bool=>Bool
  | .int _=>Int
  | .str=>ByteArray
  | .sl _ t=>List (El t)
  | .arr _ t=>List (El t)
  | .unit=>Unit
  | .pair a b=>El a×El b
  | .aG k a b=>wh k (El a) (El b)
def El.bV:(t:Ty)->El t
 | .bool=>false
 | .int _=>(0:Int)
 | .str=>(⟨#[]⟩:ByteArray)
 | .sl _ _=>[]
 | .arr n t=>List.replicate n (El.bV t)
 | .unit=>()
 | .pair a b=>(El.bV a,El.bV b)
 | .aG k a b=>wh.bV k (El a) (El b) (El.bV a)
def Ty.cn:Ty->Ty->Bool
 | .bool,.bool=>true
 | .str,.str=>true
 | .unit,.unit=>true
 | .int j,.int k=>decide (j=k)
 | .sl e t,.sl f u=>Nat.beq e f&&Ty.cn t u
 | .arr n t,.arr m u=>Nat.beq n m&&Ty.cn t u
 | .pair a b,.pair c d=>Ty.cn a c&&Ty.cn b d
 | .aG k a b,.aG j c d=>decide (k=j)&&(Ty.cn a c&&Ty.cn b d)
 |_,_=>false
theorem Ty.aJ:∀{t u:Ty},t.cn u=true->t=u:=by
 intro t
 induction t with
 |bool=>intro u h;cases u<;>simp_all [Ty.cn]
 |int k=>intro u h;cases u<;>simp_all [Ty.cn]
 |str=>intro u h;cases u<;>simp_all [Ty.cn]
 |unit=>intro u h;cases u<;>simp_all [Ty.cn]
 |sl e t ih=>
  intro u h
  cases u<;>simp [Ty.cn] at h
  obtain⟨h1,h2⟩:=h
  rw[ih h2,h1]
 |arr e t ih=>
  intro u h
  cases u<;>simp [Ty.cn] at h
  obtain⟨h1,h2⟩:=h
  rw[ih h2,h1]
 |pair a b mg mh=>
  intro u h
  cases u<;>simp [Ty.cn] at h
  rw[mg h.1,mh h.2]
 |aG k a b mg mh=>
  intro u h
  cases u<;>simp [Ty.cn] at h
  rw[h.1,mg h.2.1,mh h.2.2]
theorem Ty.ci:∀t:Ty,t.cn t=true
 | .bool=>rfl
 | .str=>rfl
 | .unit=>rfl
 | .int k=>by simp [Ty.cn]
 | .sl e t=>by simp [Ty.cn,Ty.ci t]
 | .arr e t=>by simp [Ty.cn,Ty.ci t]
 | .pair a b=>by simp [Ty.cn,Ty.ci a,Ty.ci b]
 | .aG k a b=>by simp [Ty.cn,Ty.ci a,Ty.ci b]
def Ty.cast{t u:Ty}(h:t.cn u=true)(x:El t):El u:=Ty.aJ h▸x
def Ty.cells:Ty->Nat
 | .arr n t=>n*t.cells
 | .unit=>0
 | .pair a b=>a.cells+b.cells
 | .aG _ _ _=>0
 |_=>1
def Ty.agg:Ty->Bool
 | .arr .. | .unit| .pair .. | .aG .. =>true
 |_=>false
def Ty.at_:Ty->List Nat->Option Ty
 |t,[]=>some t
 | .arr _ t,_::p=>t.at_ p
 | .pair a _,0::p=>a.at_ p
 | .pair _ b,(j+1)::p=>b.at_ (j::p)
 |_,_=>none
def Ty.off:Ty->List Nat->Nat
 |_,[]=>0
 | .arr _ t,i::p=>i*t.cells+t.off p
 | .pair a _,0::p=>a.off p
 | .pair a b,(j+1)::p=>a.cells+b.off (j::p)
 |_,_=>0
def El.get:(t:Ty)->List Nat->El t->Option ((u:Ty)×El u)
 |t,[],x=>some ⟨t,x⟩
 | .arr _ t,i::p,xs=>El.get t p (xs.getD i (El.bV t))
 | .pair a _,0::p,x=>El.get a p x.1
 | .pair _ b,(j+1)::p,x=>El.get b (j::p) x.2
 |_,_::_,_=>none
def El.set:(t:Ty)->List Nat->El t->(u:Ty)->El u->Option (El t)
 |t,[],_,u,y=>if h:u.cn t=true then some (Ty.cast h y) else none
 | .arr _ t,i::p,xs,u,y=>(El.set t p (xs.getD i (El.bV t)) u y).map fun z=>List.set xs i z
 | .pair a _,0::p,x,u,y=>(El.set a p x.1 u y).map fun z=>(z,x.2)
 | .pair _ b,(j+1)::p,x,u,y=>(El.set b (j::p) x.2 u y).map fun z=>(x.1,z)
 |_,_::_,_,_,_=>none
def Ty.eI:Ty->List Nat->Prop
 |_,[]=>True
 | .arr n t,i::p=>i<n/\t.eI p
 | .pair a _,0::p=>a.eI p
 | .pair _ b,(j+1)::p=>b.eI (j::p)
 |_,_=>False
inductive Place where
 |c (i j:Nat) (p:List Nat)
 |b (id:Nat) (p:List Nat)
 |r (j:Nat) (p:List Nat)
inductive Ow where
 |all
 |ro (n:Nat)
 |box (id:Nat)
 |row (pl:Place) (n:Nat)
def Ow.used:Ow->Nat->Prop
 | .all,_=>True
 | .ro n,o=>o<n
 | .box _,_=>False
 | .row _ n,o=>o<n
def Ow.still:Ow->Prop
 | .all| .ro _=>True
 |_=>False
structure ax where
 w:World
 ow:Nat->Ow
 β:Nat->Option Nat
def ax.az(X:ax)(a:Addr)(v:Value):Prop:=a.spot=none/\X.w.cell? a=some v/\(X.ow a.block).used a.off
structure Ext(X Y:ax):Prop where
 az:∀a v,X.az a v->Y.az a v
 size:X.w.heap.size<=Y.w.heap.size
 os:Y.w.os=X.w.os
 tape:Y.w.tape=X.w.tape
 output:Y.w.output=X.w.output
 β0:Y.β 0=X.β 0
 still:∀g,g<X.w.heap.size->(X.ow g).still->Y.ow g=X.ow g/\Y.w.heap[g]? =X.w.heap[g]?
theorem Ext.refl(X:ax):Ext X X:=⟨fun _ _ h=>h,Nat.le_refl _,rfl,rfl,rfl,rfl,fun _ _ _=>⟨rfl,rfl⟩⟩
theorem Ext.trans{X Y Z:ax}(h:Ext X Y)(k:Ext Y Z):Ext X Z:=
 ⟨fun a v hs=>k.az a v (h.az a v hs),Nat.le_trans h.size k.size,k.os.trans h.os,k.tape.trans h.tape,k.output.trans h.output,k.β0.trans h.β0,
  fun g hg bR=>by
   obtain⟨h1,h2⟩:=h.still g hg bR
   obtain⟨k1,k2⟩:=k.still g (Nat.lt_of_lt_of_le hg h.size) (by rw[h1];exact bR)
   exact⟨k1.trans h1,k2.trans h2⟩⟩
theorem ax.iI{X:ax}{a:Addr}{v:Value}(h:X.az a v):a.block<X.w.heap.size:=World.block_lt_of_cell? X.w a h.2.1
def bh(X:ax):(t:Ty)->El t->List Value->Prop
 | .bool,b,cs=>cs=[.bool b]
 | .int k,n,cs=>cs=[.int k n]
 | .str,s,cs=>cs=[.string s]
 | .sl _ t,xs,cs=>∃A c,cs=[.slice A xs.length c]/\xs.length<=c/\
    ∀j x,xs[j]? =some x->∃ad eH,A=some ad/\ad.spot=none/\bh X t x eH/\∀i v,eH[i]? =some v->X.az (ad.add (j*t.cells+i)) v
 | .arr n t,xs,cs=>xs.length=n/\cs.length=n*t.cells/\∀j x,xs[j]? =some x->bh X t x ((cs.drop (j*t.cells)).take t.cells)
 | .unit,_,cs=>cs=[]
 | .pair a b,x,cs=>∃c1 c2,cs=c1++c2/\bh X a x.1 c1/\bh X b x.2 c2
 | .aG _ _ _,_,cs=>cs=[]
theorem bh.aj{X Y:ax}(h:∀a v,X.az a v->Y.az a v):∀{t:Ty} {x:El t} {cs:List Value},bh X t x cs->bh Y t x cs
 | .bool,_,_,hr=>hr
 | .int _,_,_,hr=>hr
 | .str,_,_,hr=>hr
 | .unit,_,_,hr=>hr
 | .sl _ t,xs,cs,⟨A,c,h1,h2,h3⟩=>⟨A,c,h1,h2,fun j x hj=>by
    obtain⟨ad,eH,h4,h5,h6,h7⟩:=h3 j x hj
    exact⟨ad,eH,h4,h5,bh.aj h h6,fun i v hi=>h _ _ (h7 i v hi)⟩⟩
 | .arr n t,xs,cs,⟨h1,h2,h3⟩=>⟨h1,h2,fun j x hj=>bh.aj h (h3 j x hj)⟩
 | .pair a b,x,cs,⟨c1,c2,h1,h2,h3⟩=>⟨c1,c2,h1,bh.aj h h2,bh.aj h h3⟩
 | .aG _ _ _,_,_,hr=>hr
theorem bh.mono{X Y:ax}(h:Ext X Y){t:Ty}{x:El t}{cs:List Value}(hr:bh X t x cs):bh Y t x cs:=bh.aj h.az hr
theorem bh.len{X:ax}:∀{t:Ty} {x:El t} {cs:List Value},bh X t x cs->cs.length=t.cells
 | .bool,_,_,hr=>by cases hr;rfl
 | .int _,_,_,hr=>by cases hr;rfl
 | .str,_,_,hr=>by cases hr;rfl
 | .unit,_,_,hr=>by cases hr;rfl
 | .sl _ t,xs,cs,⟨A,c,h1,_⟩=>by cases h1;rfl
 | .arr n t,xs,cs,⟨h1,h2,h3⟩=>h2
 | .pair a b,x,cs,⟨c1,c2,h1,h2,h3⟩=>by rw[h1,List.length_append,h2.len,h3.len];rfl
 | .aG _ _ _,_,_,hr=>by cases hr;rfl
theorem abM{cs:List Value}{n k:Nat}{u:Value}(hu:u∈cs)(hk:cs.length=n*k):∃j,j<n/\u∈(cs.drop (j*k)).take k:=by
 obtain⟨q,hq,rfl⟩:=List.mem_iff_getElem.1 hu
 have Av:0<k:=by
  rcases Nat.eq_zero_or_pos k with h|h
  ·subst h;simp at hk;subst hk;simp at hq
  ·exact h
 refine⟨q/k,by rw[Nat.div_lt_iff_lt_mul Av,<-hk];exact hq,?_⟩
 rw[List.mem_iff_getElem?]
 refine⟨q % k,?_⟩
 rw[List.getElem?_take,if_pos (Nat.mod_lt _ Av),List.getElem?_drop,Nat.mul_comm,Nat.div_add_mod,List.getElem?_eq_getElem hq]
theorem bh.one{X:ax}:∀{t:Ty} {x:El t} {cs:List Value},bh X t x cs->∀u∈cs,u.oneCell'=true
 | .bool,_,_,hr,u,hu=>by cases hr;simp at hu;subst hu;rfl
 | .int _,_,_,hr,u,hu=>by cases hr;simp at hu;subst hu;rfl
 | .str,_,_,hr,u,hu=>by cases hr;simp at hu;subst hu;rfl
 | .unit,_,_,hr,u,hu=>by cases hr;simp at hu
 | .sl _ t,xs,cs,⟨A,c,h1,_⟩,u,hu=>by cases h1;simp at hu;subst hu;rfl
 | .arr n t,xs,cs,⟨h1,h2,h3⟩,u,hu=>by
   obtain⟨j,hj,hm⟩:=abM hu h2
   exact bh.one (h3 j _ (List.getElem?_eq_getElem (by omega))) u hm
 | .pair a b,x,cs,⟨c1,c2,h1,h2,h3⟩,u,hu=>by
   rw[h1] at hu
   rcases List.mem_append.1 hu with hu|hu
   ·exact h2.one u hu
   ·exact h3.one u hu
 | .aG _ _ _,_,_,hr,u,hu=>by cases hr;simp at hu
end Go.Ref

namespace Go.Ref
open Go Go.Shelf Go.RowKit Go.Proofs
variable {P:Program} {ρ:Ren}
structure gF(b:Nat)(g:Option Nat)(w w':World):Prop where
 os:w'.os=w.os
 tape:w'.tape=w.tape
 output:w'.output=w.output
 size:w.heap.size<=w'.heap.size
 block:∀k,k<w.heap.size->k≠b->some k≠g->w'.heap[k]? =w.heap[k]?
theorem gF.of{b:Nat}{g:Option Nat}{w w':World}(h:w.grownBy w' g):gF b g w w':=⟨h.os,h.tape,h.output,h.size,fun k hk _ hg=>h.block k hk hg⟩
theorem gF.trans{b:Nat}{g:Option Nat}{u v w:World}(h:gF b g u v)(k:gF b g v w):gF b g u w:=
 ⟨k.os.trans h.os,k.tape.trans h.tape,k.output.trans h.output,Nat.le_trans h.size k.size,fun i hi h1 h2=>(k.block i (Nat.lt_of_lt_of_le hi h.size) h1 h2).trans (h.block i hi h1 h2)⟩
theorem gF.refl{b:Nat}{g:Option Nat}(w:World):gF b g w w:=⟨rfl,rfl,rfl,Nat.le_refl _,fun _ _ _ _=>rfl⟩
theorem gF.setCell{b:Nat}{g:Option Nat}(w:World)(a:Addr)(ha:a.block=b)(u:Value):gF b g w (w.setCell a u):=
 ⟨rfl,rfl,rfl,by simp [World.setCell],fun k _ hk _=>Below.heap_setCell _ _ _ _ (by rw[ha];exact hk)⟩
theorem afI{w:World}(t u ty e:TypeId)(i:TypeInfo)(ht:P.underlying t=some (.slice e))(hu:P.underlying u=some .string)(hi:P.info? e=some i)(hz:i.zero=some (.int .u8 0))(b8:i.size=1)(nG:i.bytes=1)
 (v:Value) (n:Nat) (xs:List Value) (bU:w.ownsRow 0 e 1 v n xs) (s:ByteArray) (An:n+s.size<=maxLen) (gh:n+s.size<=140737488355328) {v':Value} {w':World}
 (h:(Builtin.append_ #[t,u] ty #[v,.string s]).run P w= .ok v' w'):∀g,v'.ownBlock=some g->v.ownBlock=some g\/g=w.heap.size:=by
 have AK:xs.length=n:=by simpa using bU.1
 have uv:n+s.size<=9223372036854775807:=by simp only[maxLen] at An;omega
 intro g0 Cb
 rcases bU.2 with⟨rfl,rfl⟩|⟨g,cap,cur,rfl,Zc,hg,Kc,rX,eD,ni⟩
 ·by_cases hm:s.size=0
  ·have hf:=Lib.run_firstCells_string (P:=P) w 1 s
   rw[hm] at hf
   simp [Builtin.append_,run_underlying ht,run_underlying hu,sizeOf,typeInfo,hi,b8,Builtin.lenOf,hm,hf] at h
   rw[<-h.1] at Cb
   simp [Value.ownBlock] at Cb
  ·have hr:=run_append_nil_string (P:=P) w t u ty e i (.int .u8 0) ht hu hi hz s (by omega) (by omega) (by rw[nG];omega)
   rw[hr] at h
   cases h
   simp [Value.ownBlock] at Cb
   exact .inr Cb.symm
 ·by_cases nh:n+s.size<=cap
  ·have aoR:cur.size=cap:=by simpa using eD
   have hr:=Lib.run_append_room_string (P:=P) w t u ty e i ht hu hi b8 g n cap cur hg s nh (by omega)
   rw[hr] at h
   cases h
   exact .inl Cb
  ·have holds:∀j u,xs[j]? =some u->w.cell? ((⟨g,0,none⟩:Addr).add j)=some u:=bU.cells (g:=g) rfl
   have hr:=Lib.run_append_grow_string (P:=P) w t u ty e i (.int .u8 0) ht hu hi hz ⟨g,0,none⟩ n cap xs (by rw[b8];simpa using AK) holds s (by omega) (by omega) (by rw[nG];exact growslice_fits (by omega) (by omega))
   rw[hr] at h
   cases h
   simp [Value.ownBlock] at Cb
   exact .inr Cb.symm
theorem adY{ops:Array Oper}{rest:List Oper}{o:Oper}{a:Act}{w:World}{Q:Exit->Act->World->Prop}(F9:o.guard=none)(sl x:Operand)(t u:TypeId)
 (ho:o.op= .call {callee:= .builtin .append,args:= #[sl,x],argTypes:= #[t,u]})
 (e:TypeId) (i:TypeInfo) (ht:P.underlying t=some (.slice e)) (hu:P.underlying u=some .string) (hi:P.info? e=some i) (hz:i.zero=some (.int .u8 0))
 (b8:i.size=1) (nG:i.bytes=1)
 (v:Value) (n:Nat) (xs:List Value) (hs:a.eval sl=v) (bU:w.ownsRow 0 e 1 v n xs) (s:ByteArray) (hx:a.eval x= .string s)
 (An:n+s.size<=maxLen) (gh:n+s.size<=140737488355328)
 (h:∀v' w',w'.ownsRow 0 e 1 v' (n+s.size) (xs++Lib.strCells s)->w.grownBy w' v.ownBlock->(∀g,v'.ownBlock=some g->v.ownBlock=some g\/g=w.heap.size)->wpList P ops Q rest (a.put o.dst v') w'):wpList P ops Q (o::rest) a w:=by
 refine wpList_plain F9 fun K hK=> ?_
 obtain⟨v',w',hr,h2,h3,h4⟩:=Lib.run_append_own_string (P:=P) w 0 t u o.type e i ht hu hi hz b8 nG v n xs bU s An gh (Nat.zero_le _)
 unfold Oper.wp execOp
 simp only[ho,resolve,invoke,builtin,Sem.run_bind,Sem.run_pure,Result.andThen_ok,List.map_toArray,List.map_cons,List.map_nil,hs,hx,hr]
 exact hK _ _ (h v' w' h2 h3 (afI t u o.type e i ht hu hi hz b8 nG v n xs bU s An gh hr))
theorem afT(L:Lays.n240 P ρ)(X:Builder.X72 P ρ)(b:Nat)(v:Value)(bs:List Value)(w:World)(h:ve (ρ.t 72) (ρ.t 5) b v bs w):
 Calls P (ρ.f 240) #[.pointer (some ⟨b,0,none⟩)] w fun e w'=>e= .returned (.tuple #[])/\(w'.heap[b]? =some (.cells #[.pointer (some ⟨b,0,none⟩),v] (ρ.t 72) (0,0))/\w'.ownsRow 0 (ρ.t 5) 1 v bs.length bs)/\(gF b none w w'/\w'.heap.size=w.heap.size):=by
 rcases h.mW with hb|hb
 ·have hA:Lib.BuilderAt (ρ.t 72) (ρ.t 5) 0 b (.pointer none) bs w:=⟨Nat.zero_le _,v,hb,h.own,h.ne⟩
  refine(Any.Builder_copyCheck_fresh L X b w hA.cell0 hA.shape hA.frozen0).mono ?_
  rintro e w' ⟨rfl,rfl⟩
  have hu:=hA.used (.pointer (some ⟨b,0,none⟩))
  obtain⟨_,v',tV,nb,_⟩:=hu
  have hv:v'=v:=by
   have:(w.setCell ⟨b,0,none⟩ (.pointer (some ⟨b,0,none⟩))).heap[b]? =some (.cells #[.pointer (some ⟨b,0,none⟩),v] (ρ.t 72) (0,0)):=heap_setCell_same w b 0 _ _ _ hb
   rw[tV] at this
   simp at this
   exact this
  subst hv
  exact⟨rfl,⟨tV,nb⟩,gF.setCell w ⟨b,0,none⟩ rfl _,by simp [World.setCell]⟩
 ·have hA:Lib.BuilderAt (ρ.t 72) (ρ.t 5) 0 b (.pointer (some ⟨b,0,none⟩)) bs w:=⟨Nat.zero_le _,v,hb,h.own,h.ne⟩
  refine(Any.Builder_copyCheck_used L X b w hA.cell0).mono ?_
  rintro e w' ⟨rfl,rfl⟩
  exact⟨rfl,⟨hb,h.own⟩,gF.refl _,rfl⟩
set_option maxHeartbeats 2000000 in
set_option maxRecDepth 100000 in
theorem afU(L:Lays.n166 P ρ)(X:Builder.Extra P ρ)(b:Nat)(v0:Value)(bs:List Value)(s:ByteArray)(w:World)(h:ve (ρ.t 72) (ρ.t 5) b v0 bs w)(hlen:bs.length+s.size<=140737488355328):
 Calls P (ρ.f 166) #[.pointer (some ⟨b,0,none⟩),.string s] w fun e w'=>e= .returned (.tuple #[.int .i64 s.size,.nilIface])/\∃v',ve (ρ.t 72) (ρ.t 5) b v' (bs++Lib.strCells s) w'/\gF b v0.ownBlock w w'/\∀g,v'.ownBlock=some g->v0.ownBlock=some g\/w.heap.size<=g:=by
 obtain⟨i0,hi,R9,Sa,Z2⟩:=info_parts X.infoByte
 have ar:=h.lt
 have mixed:=L.mixed
 have t72:=L.t72;have a72:=L.a72;have z72:=L.z72;have v72:=L.v72;have u72:=run_underlying L.t72
 have t70:=L.t70;have a70:=L.a70;have z70:=L.z70;have v70:=L.v70;have u70:=run_underlying L.t70
 have t37:=L.t37;have a37:=L.a37;have z37:=L.z37;have v37:=L.v37;have u37:=run_underlying L.t37
 have t3:=L.t3;have a3:=L.a3;have z3:=L.z3;have v3:=L.v3;have u3:=run_underlying L.t3
 have t9:=L.t9;have a9:=L.a9;have z9:=L.z9;have v9:=L.v9;have u9:=run_underlying L.t9
 have t4:=L.t4;have a4:=L.a4;have z4:=L.z4;have v4:=L.v4;have u4:=run_underlying L.t4
 have t164:=L.t164;have a164:=L.a164;have z164:=L.z164;have v164:=L.v164;have aoW:=run_underlying L.t164
 have t5:=X.t5;have a5:=X.a5;have z5:=X.z5;have v5:=X.v5;have u5:=run_underlying X.t5
 have aoP:∀args w,(callFunc (ρ.f 240) args).run P w= .ok (.enter (ρ.f 240) args) w:=enters_of L.f240 (by kernel_rfl) rfl
 go_enter L.f166,Body.n166_ntmps ρ
 go_wp2_with (go_at_fn (ρ.f 240);refine(afT {L with} X.toX72 b v0 bs _ h).mono ?_)
 rintro e w1 ⟨rfl,⟨xh,bU⟩,nF,Cr⟩
 have bM:=h.ne
 have c0:w1.cell? ⟨b,0,none⟩=some (.pointer (some ⟨b,0,none⟩)):=by rw[Lib.cell_of_heap xh];rfl
 have c1:w1.cell? ⟨b,1,none⟩=some v0:=by rw[Lib.cell_of_heap xh];rfl
 go_wp2_with (at_builtin;refine adY rfl _ _ (ρ.t 37) (ρ.t 9) rfl (ρ.t 5) i0 L.t37 L.t9 hi R9 Sa Z2 _ _ _ rfl bU s rfl ?c3 ?c4 ?_)
 case c3=>unfold maxLen;omega
 case c4=>omega
 intro v' w2 nb Au gZ
 have xn:b<w1.heap.size:=by rw[Cr];exact ar
 have kc:w2.heap[b]? =some (.cells #[.pointer (some ⟨b,0,none⟩),v0] (ρ.t 72) (0,0)):=by
  rw[Au.block b xn (fun e=>bM e.symm)]
  exact xh
 have d0:w2.cell? ⟨b,0,none⟩=some (.pointer (some ⟨b,0,none⟩)):=by rw[Lib.cell_of_heap kc];rfl
 have d1:w2.cell? ⟨b,1,none⟩=some v0:=by rw[Lib.cell_of_heap kc];rfl
 have f1:w2.frozen? ⟨b,1,none⟩=false:=Lib.frozen_of_heap kc 1
 obtain⟨ao,n',cap,rfl⟩:∃ao n' cap,v'= .slice ao n' cap:=by
  rcases nb.2 with⟨hv,_⟩|⟨g,cap,cur,hv,_⟩
  ·exact⟨_,_,_,hv⟩
  ·exact⟨_,_,_,hv⟩
 go_wp2
 go_ret2
 have Kd:(Value.slice ao n' cap).ownBlock≠some b:=fun e=>by
  rcases gZ b e with h1|h1
  ·exact bM h1
  ·omega
 have fo:(w2.setCell ⟨b,1,none⟩ (.slice ao n' cap)).heap[b]? =some (.cells #[.pointer (some ⟨b,0,none⟩),.slice ao n' cap] (ρ.t 72) (0,0)):=heap_setCell_same w2 b 1 _ _ _ kc
 refine⟨rfl,_,⟨.inr fo,?_,Kd⟩,?_,fun g hg=> ?_⟩
 ·have hl:(bs++Lib.strCells s).length=bs.length+s.size:=by rw[List.length_append,Lib.strCells_length]
  rw[hl]
  refine⟨nb.1,?_⟩
  rcases nb.2 with hn|⟨g,xb,cur,hv,Zc,hg,rest⟩
  ·exact .inl hn
  ·refine .inr ⟨g,xb,cur,hv,Zc,?_,rest⟩
   rw[Below.heap_setCell _ _ _ _ (fun e=>Kd (by rw[hv,Value.ownBlock];exact congrArg some e))]
   exact hg
 ·refine gF.trans ⟨nF.os,nF.tape,nF.output,nF.size,fun k hk h1 h2=>nF.block k hk h1 (by simp)⟩ (gF.trans (gF.of Au) (gF.setCell w2 ⟨b,1,none⟩ rfl _))
 ·rcases gZ g hg with h1|h1
  ·exact .inl h1
  ·exact .inr (by omega)
theorem gF.freeze{b:Nat}{g:Nat}(w:World)(a:Addr)(ha:a.block=g)(n:Nat):gF b (some g) w (w.freeze a n):=by
 unfold World.freeze
 split
 ·exact gF.refl _
 ·refine⟨rfl,rfl,rfl,by simp,fun k hk h1 h2=> ?_⟩
  simp only[Array.getElem?_modify]
  rw[if_neg]
  intro e
  exact h2 (by rw[<-e,ha])
theorem gF.drew{b:Nat}{g:Option Nat}(w:World):gF b g w w.drew:=⟨rfl,rfl,rfl,Nat.le_refl _,fun _ _ _ _=>rfl⟩
theorem gF.alloc{b:Nat}{g:Option Nat}(w:World)(o:Obj):gF b g w (w.alloc o):=⟨rfl,rfl,rfl,by simp,fun k hk _ _=>Below.heap_alloc _ _ _ hk⟩
set_option maxHeartbeats 2000000 in
set_option maxRecDepth 100000 in
theorem ajw(L:Lays.n169 P ρ)(X:Builder.Extra P ρ)(b:Nat)(v0:Value)(l:List UInt8)(w:World)(h:ve (ρ.t 72) (ρ.t 5) b v0 (Lib.byteCells l) w):
 Calls P (ρ.f 169) #[.pointer (some ⟨b,0,none⟩)] w fun e w'=>e= .returned (.string ⟨l.toArray⟩)/\gF b v0.ownBlock w w':=by
 obtain⟨p,xh⟩:∃p,w.heap[b]? =some (.cells #[p,v0] (ρ.t 72) (0,0)):=by
  rcases h.mW with h|h
  ·exact⟨_,h⟩
  ·exact⟨_,h⟩
 have bU:=h.own
 have ar:=h.lt
 rw[Lib.byteCells_length] at bU
 have mixed:=L.mixed
 have t72:=L.t72;have a72:=L.a72;have z72:=L.z72;have v72:=L.v72;have u72:=run_underlying L.t72
 have t70:=L.t70;have a70:=L.a70;have z70:=L.z70;have v70:=L.v70;have u70:=run_underlying L.t70
 have t37:=L.t37;have a37:=L.a37;have z37:=L.z37;have v37:=L.v37;have u37:=run_underlying L.t37
 have t127:=L.t127;have a127:=L.a127;have z127:=L.z127;have v127:=L.v127;have aoV:=run_underlying L.t127
 have t3:=L.t3;have a3:=L.a3;have z3:=L.z3;have v3:=L.v3;have u3:=run_underlying L.t3
 have t9:=L.t9;have a9:=L.a9;have z9:=L.z9;have v9:=L.v9;have u9:=run_underlying L.t9
 have t5:=X.t5;have a5:=X.a5;have z5:=X.z5;have v5:=X.v5;have u5:=run_underlying X.t5
 rcases bU.2 with⟨rfl,hz⟩|⟨g,cap,cur,rfl,Zc,hg,Kc,rX,eD,ni⟩
 ·have hl:l=[]:=List.eq_nil_of_length_eq_zero hz
  subst hl
  have Za:=Any.unsafeString_none L X
  have c1:w.drew.cell? ⟨b,1,none⟩=some (.slice none 0 0):=by
   have:w.drew.heap[b]? =some (.cells #[p,.slice none 0 0] (ρ.t 72) (0,0)):=xh
   rw[Lib.cell_of_heap this];rfl
  have Y8:(Builtin.unsafeSliceData_ #[(ρ.t 37)] (ρ.t 127) #[.slice none 0 0]).run P w.drew= .ok (.pointer none) w.drew:=rfl
  go_enter L.f169,Body.n169_ntmps ρ
  go_wp2
  go_region_o
  all_goals(go_wp2;go_ret;exact⟨rfl,gF.drew w⟩)
 ·by_cases J5:l.length=0
  ·have hl:l=[]:=List.eq_nil_of_length_eq_zero J5
   subst hl
   by_cases Zd:cap=0
   ·subst Zd
    have Za:=Any.unsafeString_none L X
    have c1:w.drew.cell? ⟨b,1,none⟩=some (.slice (some ⟨g,0,none⟩) 0 0):=by
     have:w.drew.heap[b]? =some (.cells #[p,.slice (some ⟨g,0,none⟩) 0 0] (ρ.t 72) (0,0)):=xh
     rw[Lib.cell_of_heap this];rfl
    have Y8:(Builtin.unsafeSliceData_ #[(ρ.t 37)] (ρ.t 127) #[.slice (some ⟨g,0,none⟩) 0 0]).run P w.drew= .ok (.pointer (some ⟨w.drew.heap.size,0,none⟩)) (w.drew.alloc (.view ⟨g,0,none⟩ (ρ.t 5))):=
     Lib.run_unsafeSliceData_zero w.drew _ _ (ρ.t 5) L.t127 ⟨g,0,none⟩ 0 ((ρ.t 5),cur.size) (by have F8:w.drew.heap[g]? =some (.cells cur (ρ.t 5) (0,0)):=hg;simp [World.shape?,F8])
    have c2:(w.drew.alloc (.view ⟨g,0,none⟩ (ρ.t 5))).cell? ⟨b,1,none⟩=some (.slice (some ⟨g,0,none⟩) 0 0):=by
     have:(w.drew.alloc (.view ⟨g,0,none⟩ (ρ.t 5))).heap[b]? =_:=(Lib.alloc_old w.drew _ b ar).trans xh
     rw[Lib.cell_of_heap this];rfl
    have c3:(w.alloc (.view ⟨g,0,none⟩ (ρ.t 5))).drew.cell? ⟨b,1,none⟩=some (.slice (some ⟨g,0,none⟩) 0 0):=c2
    have c0:w.cell? ⟨b,1,none⟩=some (.slice (some ⟨g,0,none⟩) 0 0):=c1
    go_enter L.f169,Body.n169_ntmps ρ
    go_wp2
    go_region_o
    all_goals(go_wp2;go_ret;exact⟨rfl,(gF.drew w).trans (gF.alloc _ _)⟩)
   ·have Za:=Any.unsafeString_none L X
    have c1:w.drew.cell? ⟨b,1,none⟩=some (.slice (some ⟨g,0,none⟩) 0 cap):=by
     have:w.drew.heap[b]? =some (.cells #[p,.slice (some ⟨g,0,none⟩) 0 cap] (ρ.t 72) (0,0)):=xh
     rw[Lib.cell_of_heap this];rfl
    have Y8:(Builtin.unsafeSliceData_ #[(ρ.t 37)] (ρ.t 127) #[.slice (some ⟨g,0,none⟩) 0 cap]).run P w.drew= .ok (.pointer (some ⟨g,0,none⟩)) w.drew:=
     Lib.run_unsafeSliceData_row _ _ _ _ _ _ Zd
    clear Zd
    go_enter L.f169,Body.n169_ntmps ρ
    go_wp2
    go_region_o
    all_goals(go_wp2;go_ret;exact⟨rfl,gF.drew w⟩)
  ·have h0:l≠ []:=fun e=>J5 (by rw[e];rfl)
   have c1:w.drew.cell? ⟨b,1,none⟩=some (.slice (some ⟨g,0,none⟩) l.length cap):=by
    have:w.drew.heap[b]? =some (.cells #[p,.slice (some ⟨g,0,none⟩) l.length cap] (ρ.t 72) (0,0)):=xh
    rw[Lib.cell_of_heap this];rfl
   have Y8:(Builtin.unsafeSliceData_ #[(ρ.t 37)] (ρ.t 127) #[.slice (some ⟨g,0,none⟩) l.length cap]).run P w.drew= .ok (.pointer (some ⟨g,0,none⟩)) w.drew:=
    Lib.run_unsafeSliceData_row _ _ _ _ _ _ (by omega)
   have Za:(Builtin.unsafeString_ #[(ρ.t 127),(ρ.t 3)] (ρ.t 9) #[.pointer (some ⟨g,0,none⟩),.int .i64 l.length]).run P w.drew= .ok (.string ⟨l.toArray⟩) (w.drew.freeze ⟨g,0,none⟩ l.length):=by
    refine Lib.run_unsafeString_row w.drew (ρ.t 127) (ρ.t 3) (ρ.t 9) (ρ.t 5) L.t127 X.cellsByte g cur.size (by have F8:w.drew.heap[g]? =some (.cells cur (ρ.t 5) (0,0)):=hg;simp [World.shape?,F8]) l h0 (by omega) (by unfold maxLen at rX;omega) ?_
    intro j x hx
    have:=bU.cells (g:=g) rfl j (.int .u8 x.toNat) (by simp [Lib.byteCells,hx])
    exact this
   go_enter L.f169,Body.n169_ntmps ρ
   go_wp2
   go_region_o
   all_goals(go_wp2;go_ret;exact⟨rfl,(gF.drew w).trans (gF.freeze _ _ rfl _)⟩)
end Go.Ref

namespace Go.Ref
open Go
inductive SV where
 |undef
 |skip
 |cF
 |dS
 |ak (t:Ty) (x:El t) (own:List (List Nat))
 |ptr (id:Nat) (t:Ty) (p:List Nat)
 |view (t:Ty) (x:El t)
 |cap (f:Nat) (t:Ty) (x:El t) (u:Ty) (y:El u)
 |over
 |bz (id:Nat) (a b:Ty) (j:Nat)
def Ty.qt:Ty->Bool
 | .aG (.gH _ _) _ _=>false
 | .aG _ _ _=>true
 |_=>false
def Ty.bI:Ty->Bool
 | .aG _ _ _=>true
 |_=>false
def SV.bO:SV->Bool
 | .bz _ _ _ _=>true
 |_=>false
structure bE where
 t:Ty
 x:El t
 own:List (List Nat)
structure State where
 sl:List (List SV)
 bs:List (Option bE)
def m4(a:Ty):List Nat->Nat
 |0::q=>a.off q
 | [1]=>a.cells
 | [1,i]=>a.cells+i
 | [2]=>a.cells+2
 |_=>0
def gIn(a:Ty):List Nat->Prop
 | []=>True
 |0::q=>a.eI q
 | [1]=>True
 | [1,i]=>i<2
 | [2]=>True
 |_=>False
def Br:List (List Nat):=[[2]]
def z24:List (List Nat):=[[0],[1],[0,2],[1,2]]
def Ty.eJ:Ty->Bool
 | .aG .bB _ _=>true
 |_=>false
structure Env where
 ty:TypeId->Option Ty
 bytes:TypeId->Nat
 pt:TypeId->Bool
 dv:Nat->List Nat
 lv:Nat->List Nat
 outs:List Nat
 ps:List Ty
 mp:TypeId->Option (TypeId×TypeId):=fun _=>none
 join:Nat->Option (List Nat):=fun _=>none
 fz:Nat->Option (Nat×TypeId):=fun _=>none
 dr:Nat->List Nat:=fun _=>[]
 sh:List Nat:=[]
 ro:Bool:=false
 mv:List Nat:=[]
 fr:Nat->List Nat:=fun _=>[]
 bl:TypeId->Option TypeId:=fun _=>none
 gr:TypeId->Option (Ty×Ty):=fun _=>none
 ga:TypeId->Bool:=fun _=>false
 sg:Option (Nat×Nat×Nat):=none
 sp:Option (Nat×Nat×Nat×Nat):=none
def Ty.hJ:Ty->Bool
 | .unit=>true
 | .pair (.int _) b=>b.hJ
 |_=>false
def Ty.isKey:Ty->Bool
 | .bool| .int _| .str=>true
 | .pair a b=>(Ty.pair a b).hJ
 |_=>false
def vj:(t:Ty)->El t->El t->Bool
 | .pair (.int _) b,x,y=>decide (x.1=y.1)&&vj b x.2 y.2
 |_,_,_=>true
def gd:(t:Ty)->El t->El t->Bool
 | .bool,x,y=>decide (x=y)
 | .int _,x,y=>decide (x=y)
 | .str,x,y=>decide (x=y)
 | .pair a b,x,y=>vj (.pair a b) x y
 |_,_,_=>false
def fe{K V:Type}(eq:K->K->Bool)(d:V):List (K×V)->K->V
 | [],_=>d
 |q::r,k=>bif eq k q.1 then q.2 else fe eq d r k
def ff{K V:Type}(eq:K->K->Bool):List (K×V)->K->Bool
 | [],_=>false
 |q::r,k=>bif eq k q.1 then true else ff eq r k
section
variable {R:Type}
abbrev bW(R:Type):=List SV->Option bE->(List SV->Option bE->Option R)->Option R
def SV.el(s:SV)(u:Ty)(K:El u->Option R):Option R:=
 match s with
 | .ak t x _=>if h:t.cn u=true then K (Ty.cast h x) else none
 | .cF=>match u with
   | .sl _ _=>K []
   |_=>none
 |_=>none
def Bi:Value->SV
 | .bool b=> .ak .bool b []
 | .int k n=> .ak (.int k) n []
 | .string s=> .ak .str s []
 | .slice none 0 0=> .cF
 | .pointer none=> .dS
 |_=> .undef
def State.slot(s:State)(t:Nat):List SV:=s.sl.getD t [.undef]
def State.xG(s:State):Operand->List SV
 | .tmp t=>s.slot t
 | .const v=>[Bi v]
 |_=>[.undef]
def one:List SV->SV
 | [x]=>x
 |_=> .undef
def State.aH(s:State)(x:Operand):SV:=one (s.xG x)
def State.box(s:State)(id:Nat):Option bE:=(s.bs.getD id none)
def SV.shut:SV->SV
 | .ak t x _=> .ak t x []
 | .bz _ _ _ _=> .undef
 |v=>v
def SV.own:SV->List (List Nat)
 | .ak _ _ o=>o
 | .cF=>[[]]
 |_=>[]
def bQ:List SV->Nat->List SV
 | [],_=>[]
 |v::r,0=>v.shut::r
 |v::r,j+1=>v::bQ r j
structure Out where
 v:List SV
 bx:Option (Nat×bE):=none
 cl:List (Nat×Nat):=[]
def State.close(s:State):List (Nat×Nat)->State
 | []=>s
 |(i,j)::r=>State.close {s with sl:=s.sl.set i (bQ (s.slot i) j)} r
def State.aC(s:State):Option (Nat×bE)->State
 |some (id,B)=>{s with bs:=s.bs.set id (some B)}
 |none=>s
def State.av(s:State):Option Nat->List SV->State
 |some d,v=>{s with sl:=s.sl.set d v}
 |none,_=>s
def State.apply(s:State)(dst:Option Nat)(o:Out):State:=((s.close o.cl).aC o.bx).av dst o.v
def uN:Operand->Option Nat
 | .tmp t=>some t
 |_=>none
def src:Operand->List (Nat×Nat)
 | .tmp t=>[(t,0)]
 |_=>[]
def aQ(op:BinOp)(k:IntKind)(a b:Int):Int:=
 match op with
 | .and=>k.wrap ((BitVec.ofInt k.bits a&&&BitVec.ofInt k.bits b).toNat:Nat)
 | .or=>k.wrap ((BitVec.ofInt k.bits a|||BitVec.ofInt k.bits b).toNat:Nat)
 | .xor=>k.wrap ((BitVec.ofInt k.bits a^^^BitVec.ofInt k.bits b).toNat:Nat)
 |_=>k.wrap ((BitVec.ofInt k.bits a&&& ~~~ BitVec.ofInt k.bits b).toNat:Nat)
def dI:(t:Ty)->El t->El t->Option Bool
 | .bool,x,y=>some (x==y)
 | .int _,x,y=>some (decide (x=y))
 | .str,x,y=>some (decide (x=y))
 | .unit,_,_=>some true
 | .arr _ (.int _),x,y=>some (decide ((x:List Int)=y))
 | .pair a b,x,y=>match dI a x.1 y.1,dI b x.2 y.2 with
   |some p,some q=>some (p&&q)
   |_,_=>none
 |_,_,_=>none
def i64(n:Int):List SV:=[.ak (.int .i64) n []]
def bl(b:Bool):List SV:=[.ak .bool b []]
def q7(op:BinOp)(k:IntKind)(a:Int)(k':IntKind)(b:Int)(K:List SV->Option R):Option R:=
 match op with
 | .shl=>bif decide (b<0) then none else K [.ak (.int k) (k.wrap (a*2^min b.toNat k.bits)) []]
 | .shr=>bif decide (b<0) then none else K [.ak (.int k) (a.fdiv (2^min b.toNat k.bits)) []]
 |_=>if k=k' then
  match op with
  | .add=>K [.ak (.int k) (k.wrap (a+b)) []]
  | .sub=>K [.ak (.int k) (k.wrap (a-b)) []]
  | .mul=>K [.ak (.int k) (k.wrap (a*b)) []]
  | .quo=>bif decide (b=0) then none else K [.ak (.int k) (k.wrap (a.tdiv b)) []]
  | .rem=>bif decide (b=0) then none else K [.ak (.int k) (a.tmod b) []]
  | .and| .or| .xor| .andNot=>K [.ak (.int k) (aQ op k a b) []]
  | .eql=>K (bl (decide (a=b)))
  | .neq=>K (bl (!decide (a=b)))
  | .lss=>K (bl (decide (a<b)))
  | .leq=>K (bl (decide (a<=b)))
  | .gtr=>K (bl (decide (b<a)))
  | .geq=>K (bl (decide (b<=a)))
  |_=>none
  else none
def q9(op:BinOp)(a b:ByteArray)(K:List SV->Option R):Option R:=
 match op with
 | .add=>bif decide (a.size+b.size<=9223372036854775807) then K [.ak .str (a++b) []] else none
 | .eql=>K (bl (decide (a=b)))
 | .neq=>K (bl (!decide (a=b)))
 | .lss=>K (bl (Op.bytesLess a.toList b.toList))
 | .leq=>K (bl (Op.bytesLess a.toList b.toList||decide (a=b)))
 | .gtr=>K (bl (!(Op.bytesLess a.toList b.toList||decide (a=b))))
 | .geq=>K (bl (!(Op.bytesLess a.toList b.toList)))
 |_=>none
def Ty.depth:Ty->Nat
 | .arr _ t=>t.depth+1
 | .pair a b=>max (a.depth+1) b.depth
 |_=>1
def qZ(E:Env)(op:BinOp)(T:TypeId)(x y:SV)(K:List SV->Option R):Option R:=
 match E.ty T with
 |some t=>if Nat.ble t.depth 1000=false then none else x.el t fun a=>y.el t fun b=>match dI t a b with
  |some r=>match op with
   | .eql=>K (bl r)
   | .neq=>K (bl (!r))
   |_=>none
  |none=>none
 |none=>none
def bin(E:Env)(op:BinOp)(T:TypeId)(x y:SV)(K:List SV->Option R):Option R:=
 match x,y with
 | .ak (.int k) a _,.ak (.int k') b _=>q7 op k a k' b K
 | .ak .str a _,.ak .str b _=>q9 op a b K
 | .ptr _ t _,.dS=>if((t.bI&& !t.eJ)|| !E.pt T)=true then none else match op with
   | .eql=>K (bl false)
   | .neq=>K (bl true)
   |_=>none
 | .dS,.dS=>if E.pt T=false then none else match op with
   | .eql=>K (bl true)
   | .neq=>K (bl false)
   |_=>none
 |x,y=>qZ E op T x y K
def ze(s:ByteArray)(i:Nat):Int:=if h:i<s.size then((s[i]'h).toNat:Int) else 0
def strOf(xs:List Int):ByteArray:=⟨(xs.map fun x=>UInt8.ofNat x.toNat).toArray⟩
def zd(i:Int)(n:Nat)(K:Option R):Option R:=bif decide (0<=i) then bif decide (i<(n:Int)) then K else none else none
def yd(lo:Option SV)(h:Nat)(K:Nat->Option R):Option R:=
 match lo with
 |none=>K 0
 |some v=>v.el (.int .i64) fun l=>bif decide (0<=l) then bif decide (l<=(h:Int)) then K l.toNat else none else none
def cutAt(lo hi:Option SV)(n:Nat)(K:Nat->Nat->Option R):Option R:=
 match hi with
 |none=>yd lo n fun l=>K l n
 |some v=>v.el (.int .i64) fun h=>bif decide (0<=h) then bif decide (h<=(n:Int)) then yd lo h.toNat (fun l=>K l h.toNat) else none else none
def Ty.kP:Ty->Nat->Bool
 | .arr n _,i=>Nat.ble (i+1) n
 |_,_=>true
def ya(own:List (List Nat))(p:List Nat):List (List Nat):=own.filter fun q=> !(p.isPrefixOf q)
def gL(own:List (List Nat))(p:List Nat):Bool:=own.any fun q=>q==p
def RC(own:List (List Nat))(p:List Nat):List (List Nat):=(own.filter fun q=>p.isPrefixOf q).map fun q=>q.drop p.length
def bump:List Nat->Option (List Nat)
 | []=>none
 |j::p=>some ((j+1)::p)
def z40:Ty->List (List Nat)
 | .sl _ _=>[[]]
 | .pair a b=>(z40 a).map (fun p=>0::p)++(z40 b).filterMap bump
 |_=>[]
def rQ(t:Ty):El t->List (List Nat)->List (Nat×SV×List (List Nat))->(El t->List (List Nat)->Option R)->Option R
 |x,own,[],K=>K x own
 |x,own,(i,v,ov)::r,K=>if t.kP i=false then none else match t.at_ [i] with
  |some u=>v.el u fun y=>match El.set t [i] x u y with
   |some z=>rQ t z (ov.map (fun p=>i::p)++ya own [i]) r K
   |none=>none
  |none=>none
def x9(o:List (List Nat))(x:Operand):List (Nat×Nat):=
 match o with
 | []=>[]
 |_::_=>src x
def z21:State->List (Nat×Operand)->List (Nat×SV×List (List Nat))×List (Nat×Nat)
 |_,[]=>([],[])
 |s,(i,x)::r=>((i,s.aH x,(s.aH x).own)::(z21 (s.close (x9 (s.aH x).own x)) r).1,x9 (s.aH x).own x++(z21 (s.close (x9 (s.aH x).own x)) r).2)
def Bp(t:Ty):List (El t)->List (Nat×SV)->(List (El t)->Option R)->Option R
 |xs,[],K=>K xs
 |xs,(i,v)::r,K=>if Nat.ble (i+1) xs.length=false then none else v.el t fun y=>Bp t (xs.set i y) r K
def Ys(ops:List Oper)(d:Option Nat):Bool:=
 match d with
 |some d=>ops.any fun o=>match o.op with
  | .call ⟨.builtin .append,args,_⟩=>match args.toList with
    | .tmp t::_=>Nat.beq t d
    |_=>false
  |_=>false
 |none=>false
def Ph(ops:List Oper)(d:Option Nat):Bool:=
 match d with
 |some d=>ops.any fun o=>match o.op,o.dst with
  | .indexAddr _ (.tmp t) _,some a=>Nat.beq t d&&ops.any fun q=>match q.op with
    | .store _ (.tmp b) _=>Nat.beq a b
    |_=>false
  |_,_=>false
 |none=>false
def AN(E:Env)(ops:List Oper)(d:Option Nat):Bool:=
 match d with
 |some d=>ops.any fun o=>match o.op with
  | .store _ (.tmp r) (.tmp t)=>Nat.beq t d&&E.outs.any (Nat.beq r)
  |_=>false
 |none=>false
def getM{α:Type}(j:Nat)(m:Option α×Option α):Option α:=bif Nat.beq j 0 then m.1 else bif Nat.beq j 1 then m.2 else none
def fL{α:Type}(j:Nat)(y:Option α)(m:Option α×Option α):Option α×Option α:=bif Nat.beq j 0 then(y,m.2) else(m.1,y)
def nN(s:State)(id:Nat)(a b:Ty)(K:El (.aG .bB a b)->List (List Nat)->Option R):Option R:=
 match s.box id with
 |some B=>if h:B.t.cn (.aG .bB a b)=true then bif z24.all (gL B.own) then K (Ty.cast h B.x) B.own else none else none
 |none=>none
def Fw(u':Ty)(s:State)(id:Nat)(t:Ty)(p:List Nat)(K:Out->Option R):Option R:=
 match t,p with
 | .aG .row a b,[i]=>match s.box id with
   |some B=>if h:B.t.cn (.aG .row a b)=true then if u'.cn a=true then
     bif Nat.ble (i+1) (List.length (Ty.cast h B.x:List (El a))) then K {v:=[.ak a (List.getD (Ty.cast h B.x:List (El a)) i (El.bV a)) []]} else none
    else none else none
   |none=>none
 | .aG .bB a b,[0]=>if u'.cn a=true then nN s id a b fun x _=>K {v:=[.ak a x.1 []]} else none
 | .aG .bB a b,[2]=>if u'.cn (.int .i64)=true then nN s id a b fun x _=>K {v:=i64 x.2.2} else none
 |_,_=>none
def E7(u:Ty)(s:State)(id:Nat)(t:Ty)(p:List Nat)(v:SV)(K:Out->Option R):Option R:=
 match t,p with
 | .aG .row a b,[i]=>match s.box id with
   |some B=>if h:B.t.cn (.aG .row a b)=true then if a.cn u=true then
     v.el a fun y=>bif Nat.ble (i+1) (List.length (Ty.cast h B.x:List (El a))) then K {v:=[.skip],bx:=some (id,⟨.aG .row a b,(List.set (Ty.cast h B.x:List (El a)) i y:List (El a)),[]⟩)} else none
    else none else none
   |none=>none
 | .aG .bB a b,0::q=>match a.at_ q with
   |some u'=>if u'.cn u=true then nN s id a b fun x own=>v.el u fun y=>match El.set a q x.1 u y with
     |some z=>bif gL own [] then K {v:=[.skip],bx:=some (id,⟨.aG .bB a b,(z,x.2),own⟩)} else none
     |none=>none
    else none
   |none=>none
 | .aG .bB a b,[2]=>if u.cn (.int .i64)=true then nN s id a b fun x own=>v.el (.int .i64) fun n=>bif gL own [] then K {v:=[.skip],bx:=some (id,⟨.aG .bB a b,(x.1,x.2.1,n),own⟩)} else none else none
 |_,_=>none
def Hl(v:SV)(j:Nat)(ta tb:Ty)(K:Out->Option R):Option R:=
 match v with
 | .ptr id (.aG .bB a b) []=>if(a.cn ta&&b.cn tb)=true then bif Nat.ble j 2 then K {v:=[.ptr id (.aG .bB a b) [j]]} else none else none
 |_=>none
def PW(t:Ty)(n:Int)(id:Nat)(r:Ty)(p:List Nat)(K:Out->Option R):Option R:=
 match r,p with
 | .aG (.iQ m) a b,[]=>if a.cn t=true then zd n m (K {v:=[.ptr id (.aG .row a b) [n.toNat]]}) else none
 |_,_=>none
def G8(u':Ty)(B:bE)(t:Ty)(p:List Nat)(K:Out->Option R):Option R:=
 match t,p with
 | .arr n e,[]=>if h:B.t.cn (.aG .row e .unit)=true then if u'.cn (.arr n e)=true then
    bif Nat.beq n (List.length (Ty.cast h B.x:List (El e))) then K {v:=[.ak (.arr n e) (Ty.cast h B.x:List (El e)) []]} else none
   else none else none
 |_,_=>none
def ko(E:Env)(T:TypeId)(s:State)(v:SV)(K:Out->Option R):Option R:=
 match v with
 | .ptr id (.aG .bB a b) [1,j]=>if E.pt T=true then nN s id a b fun x own=>bif gL own [] then K {v:=[.bz id a b j],bx:=some (id,⟨.aG .bB a b,x,own.filter fun q=> !q.isEmpty⟩)} else none else none
 |_=>none
def load(E:Env)(T:TypeId)(s:State)(la:Bool)(a:SV)(K:Out->Option R):Option R:=
 match E.ty T with
 |some u'=>match a with
  | .view t x=>if u'.cn t=true then K {v:=[.ak t x []]} else none
  | .ptr id t p=>if t.bI=true then Fw u' s id t p K else match s.box id with
    |some B=>if B.t.cn t=true then
      match El.get B.t p B.x with
      |some ⟨u,y⟩=>if u'.cn u=true then
        bif la then K {v:=[.ak u y (RC B.own p)],bx:=some (id,{B with own:=ya B.own p})} else K {v:=[.ak u y []]}
       else none
      |none=>none
     else G8 u' B t p K
    |none=>none
  |_=>none
 |none=>ko E T s a K
def store(E:Env)(T:TypeId)(s:State)(a:SV)(vo:Operand)(K:Out->Option R):Option R:=
 match E.ty T with
 |some u=>match a with
  | .ptr id t p=>if t.bI=true then E7 u s id t p (s.aH vo) K else match s.box id with
    |some B=>if B.t.cn t=true then
      match t.at_ p with
      |some u'=>if u'.cn u=true then
        (s.aH vo).el u fun y=>match El.set B.t p B.x u y with
        |some z=>K {v:=[.skip],bx:=some (id,{t:=B.t,x:=z,own:=(s.aH vo).own.map (fun q=>p++q)++ya B.own p}),cl:=src vo}
        |none=>none
       else none
      |none=>none
     else none
    |none=>none
  |_=>none
 |none=>none
def Ty.dj:Ty->Bool
 | .pair .. =>true
 |_=>false
def G4(u:Ty)(id:Nat)(t:Ty)(p:List Nat)(j:Nat)(K:Out->Option R):Option R:=
 match t,p with
 | .aG .bB a b,0::q=>match a.at_ q with
   |some u'=>if(u.cn u'&&u.dj)=true then match u.at_ [j] with
     |some f=>if Nat.beq f.cells 0=true then none else K {v:=[.ptr id (.aG .bB a b) (0::(q++ [j]))]}
     |none=>none
    else none
   |none=>none
 |_,_=>none
def G7(m:Nat)(t:Ty)(n:Int)(id:Nat)(r:Ty)(p:List Nat)(K:Out->Option R):Option R:=
 match r,p with
 | .aG .bB a b,0::q=>match a.at_ q with
   |some u=>if u.cn (.arr m t)=true then zd n m (K {v:=[.ptr id (.aG .bB a b) (0::(q++ [n.toNat]))]}) else none
   |none=>none
 |_,_=>none
def Rw(t?:Option Ty)(a:SV)(j:Nat)(K:Out->Option R):Option R:=
 match t?,a with
 |some u,.ptr id t p=>if t.bI=true then G4 u id t p j K else match t.at_ p with
  |some u'=>if(u.cn u'&&u.dj)=true then match u.at_ [j] with
    |some f=>if Nat.beq f.cells 0=true then none else K {v:=[.ptr id t (p++ [j])]}
    |none=>none
   else none
  |none=>none
 |some u,.view t x=>if(u.cn t&&u.dj)=true then match El.get t [j] x with
   |some ⟨f,y⟩=>if Nat.beq f.cells 0=true then none else K {v:=[.view f y]}
   |none=>none
  else none
 |_,_=>none
def SV.num(s:SV)(K:Int->Option R):Option R:=
 match s with
 | .ak (.int _) n _=>K n
 |_=>none
def Ry(E:Env)(T:TypeId)(a i:SV)(K:Out->Option R):Option R:=
 i.num fun n=>match E.ty T,a with
  |some (.sl e t),.ak t' xs _=>(SV.ak t' xs []).el (.sl e t) fun ys=>zd n ys.length (K {v:=[.view t (List.getD ys n.toNat (El.bV t))]})
  |some (.arr m t),.ptr id r p=>if r.bI=true then G7 m t n id r p K else match r.at_ p with
   |some u=>if u.cn (.arr m t)=true then zd n m (K {v:=[.ptr id r (p++ [n.toNat])]}) else none
   |none=>none
  |some (.arr m t),.view t' xs=>(SV.ak t' xs []).el (.arr m t) fun ys=>zd n m (K {v:=[.view t (List.getD ys n.toNat (El.bV t))]})
  |some (.sl _ t),.ptr id r p=>PW t n id r p K
  |none,.ptr id (.aG .bB a b) [1]=>if E.ga T=true then zd n 2 (K {v:=[.ptr id (.aG .bB a b) [1,n.toNat]]}) else none
  |_,_=>none
def Rz(E:Env)(T:TypeId)(a i:SV)(K:Out->Option R):Option R:=
 i.num fun n=>match E.ty T with
  |some .str=>a.el .str fun s=>zd n s.size (K {v:=[.ak (.int .u8) (ze s n.toNat) []]})
  |some (.arr m t)=>a.el (.arr m t) fun ys=>zd n m (K {v:=[.ak t (List.getD ys n.toNat (El.bV t)) []]})
  |_=>none
def rf(E:Env)(T:TypeId)(a:SV)(lo hi:Option SV)(K:Out->Option R):Option R:=
 match E.ty T with
 |some .str=>a.el .str fun s=>cutAt lo hi s.size fun l h=>K {v:=[.ak .str (s.extract l h) []]}
 |some (.sl e t)=>a.el (.sl e t) fun xs=>cutAt lo hi (List.length xs) fun l h=>K {v:=[.ak (.sl e t) ((List.take h xs).drop l) []]}
 |_=>none
def QJ(E:Env)(T U:TypeId)(bo:Operand)(b x:SV)(K:Out->Option R):Option R:=
 if Nat.beq T U=false then none else
 match E.ty T with
 |some (.sl e t)=>if(Nat.beq (E.bytes e) 0||Nat.beq t.cells 0)=true then none else match b with
  | .cF=>x.el (.sl e t) fun ys=>bif decide (List.length ys*E.bytes e<=140737488355328) then K {v:=[.ak (.sl e t) ys [[]]]} else none
  | .ak t' xs o=>if gL o []=false then none else(SV.ak t' xs o).el (.sl e t) fun xs=>x.el (.sl e t) fun ys=>
    bif decide ((List.length xs+List.length ys)*E.bytes e<=140737488355328) then K {v:=[.ak (.sl e t) (xs++ys:List (El t)) [[]]],cl:=src bo} else none
  |_=>none
 |_=>none
def uB(E:Env)(T:TypeId)(x:SV)(K:Out->Option R):Option R:=
 match E.ty T with
 |some .str=>x.el .str fun s=>K {v:=i64 (s.size:Int)}
 |some (.sl e t)=>match x with
  | .ptr _ (.aG (.iQ n) _ _) []=>K {v:=i64 (n:Int)}
  |x=>x.el (.sl e t) fun xs=>K {v:=i64 (List.length xs:Int)}
 |some (.arr n _)=>K {v:=i64 (n:Int)}
 |_=>none
def lp(E:Env)(S T:TypeId)(x:SV)(K:Out->Option R):Option R:=
 match E.ty S,E.ty T with
 |some (.int k),some (.int k')=>x.el (.int k) fun n=>K {v:=[.ak (.int k') (k'.wrap n) []]}
 |some .str,some .str=>x.el .str fun s=>K {v:=[.ak .str s []]}
 |some (.sl e (.int .u8)),some .str=>x.el (.sl e (.int .u8)) fun xs=>K {v:=[.ak .str (strOf xs) []]}
 |_,_=>none
def j9(E:Env)(S T:TypeId)(s:State)(id n:Nat)(a b:Ty)(K:Out->Option R):Option R:=
 match E.ty S,E.ty T with
 |some (.sl _ (.int .u8)),some .str=>if a.cn (.int .u8)=true then match s.box id with
  |some B=>if h:B.t.cn (.aG .row (.int .u8) b)=true then bif Nat.beq n (List.length (Ty.cast h B.x:List Int)) then K {v:=[.ak .str (strOf (Ty.cast h B.x:List Int)) []]} else none else none
  |none=>none else none
 |_,_=>none
def np(E:Env)(T:TypeId):Option (Ty×Ty):=
 match E.mp T with
 |some (k,e)=>match E.ty k,E.ty e with
  |some kt,some vt=>if kt.isKey=true then some (kt,vt) else none
  |_,_=>none
 |none=>none
def kq(s:State)(dst:Option Nat)(t:Ty)(x:El t)(p:Ty)(K:Out->Option R):Option R:=
 match dst with
 |some d=>match s.bs[d+1]? with
  |some none=>K {v:=[.ptr (d+1) p []],bx:=some (d+1,⟨t,x,[]⟩)}
  |_=>none
 |none=>none
def vJ(s:State)(m:SV)(kt vt:Ty)(K:Nat->List (El kt×El vt)->Option R):Option R:=
 match m with
 | .ptr id (.aG .mp Z6 vt') []=>if((Ty.aG .mp Z6 vt').cn (.aG .mp kt vt))=true then match s.box id with
   |some B=>if h:B.t.cn (.aG .mp kt vt)=true then K id (Ty.cast h B.x) else none
   |none=>none else none
 |_=>none
def ly(E:Env)(T:TypeId)(s:State)(m i:SV)(K:Out->Option R):Option R:=
 match np E T with
 |some (kt,vt)=>vJ s m kt vt fun _ xs=>i.el kt fun k=>K {v:=[.ak vt (fe (gd kt) (El.bV vt) xs k) []]}
 |none=>none
def mr(E:Env)(T:TypeId)(s:State)(m i v:SV)(K:Out->Option R):Option R:=
 match np E T with
 |some (kt,vt)=>vJ s m kt vt fun id xs=>i.el kt fun k=>v.el vt fun y=>bif ff (gd kt) xs k then none else K {v:=[.skip],bx:=some (id,⟨.aG .mp kt vt,(xs++ [(k,y)]:List (El kt×El vt)),[]⟩)}
 |none=>none
def kh:Ty:= .aG .iter .unit .unit
def lB(s:State)(m:SV)(K:Out->Option R):Option R:=
 match m with
 | .ptr id (.aG .iter .unit .unit) []=>match s.box id with
   |some B=>if h:B.t.cn kh=true then
     bif decide ((Ty.cast h B.x:ByteArray×Nat).2<(Ty.cast h B.x:ByteArray×Nat).1.size) then
      K {v:=[.ak .bool true [],.ak (.int .i64) ((Ty.cast h B.x:ByteArray×Nat).2:Int) [],.ak (.int .i32) ((Utf8.decode (Ty.cast h B.x:ByteArray×Nat).1 (Ty.cast h B.x:ByteArray×Nat).2).1:Int) []],
         bx:=some (id,⟨kh,((Ty.cast h B.x:ByteArray×Nat).1,(Ty.cast h B.x:ByteArray×Nat).2+(Utf8.decode (Ty.cast h B.x:ByteArray×Nat).1 (Ty.cast h B.x:ByteArray×Nat).2).2),[]⟩)}
     else K {v:=[.over]}
    else none
   |none=>none
 |_=>none
def Ov:Operand->Bool
 | .const _=>true
 |_=>false
def lA(E:Env)(T:TypeId)(s:State)(dst:Option Nat)(lo:Operand)(l c:SV)(K:Out->Option R):Option R:=
 match E.ty T with
 |some (.sl e t)=>if(Nat.beq (E.bytes e) 0||Nat.beq t.cells 0)=true then none else l.el (.int .i64) fun n=>c.el (.int .i64) fun m=>
  bif Ov lo then
   bif decide (n=0) then bif decide (0<=m) then bif decide (m*E.bytes e<=140737488355328) then K {v:=[.ak (.sl e t) ([]:List (El t)) [[]]]} else none else none else none
  else bif decide (n=m) then bif decide (0<=n) then bif decide (n*E.bytes e<=140737488355328) then kq s dst (.aG .row t .unit) (List.replicate n.toNat (El.bV t):List (El t)) (.aG (.iQ n.toNat) t .unit) K else none else none else none
 |_=>none
def K7(op:UnOp)(x:SV)(K:Out->Option R):Option R:=
 match op,x with
 | .not,.ak .bool b _=>K {v:=bl (!b)}
 | .neg,.ak (.int k) n _=>K {v:=[.ak (.int k) (k.wrap (0-n)) []]}
 |_,_=>none
def mX(f:FuncId)(x:SV)(K:Out->Option R):Option R:=
 match x with
 | .ptr id u []=>if u.qt=true then none else K {v:=[.ptr id (.aG (.rW f) u .unit) []]}
 |_=>none
def tO(n id:Nat)(a b:Ty)(lo hi:Option SV)(K:Out->Option R):Option R:=
 match hi with
 |some _=>none
 |none=>yd lo n fun l=>K {v:=[.ptr id (.aG (.iQ n) a b) [l]]}
def re(E:Env)(T:TypeId)(s:State)(id n:Nat)(t:Ty)(lo hi:Option SV)(K:Out->Option R):Option R:=
 match E.ty T,lo,hi with
 |some u,none,none=>if u.cn (.arr n t)=true then match s.box id with
  |some B=>if h:B.t.cn (.arr n t)=true then K {v:=[.ptr id (.aG (.iQ n) t .unit) []],bx:=some (id,⟨.aG .row t .unit,(Ty.cast h B.x:List (El t)),[]⟩)} else none
  |none=>none else none
 |_,_,_=>none
def nM(s:ByteArray):List Int:=s.data.toList.map fun c=>(c.toNat:Int)
def b6{α:Type}(xs ys:List α)(lo:Nat):List α:=xs.take lo++(ys++xs.drop (lo+ys.length))
def iw(t:Ty)(s:State)(id n lo:Nat)(a b:Ty)(x:SV)(e:TypeId)(K:Out->Option R):Option R:=
 if a.cn t=true then x.el (.sl e t) fun(ys:List (El t))=>match s.box id with
  |some B=>if h:B.t.cn (.aG .row t b)=true then
    bif Nat.beq n (List.length (Ty.cast h B.x:List (El t))) then bif Nat.ble lo n then
     K {v:=i64 ((ys.take (n-lo)).length:Int),bx:=some (id,⟨.aG .row t b,(b6 (Ty.cast h B.x:List (El t)) (ys.take (n-lo)) lo:List (El t)),[]⟩)}
    else none else none
   else none
  |none=>none else none
def ka(t:Ty)(s:State)(id n:Nat)(a b:Ty)(y:ByteArray)(K:Out->Option R):Option R:=
 if t.cn (.int .u8)=true then if a.cn (.int .u8)=true then match s.box id with
  |some B=>if h:B.t.cn (.aG .row (.int .u8) b)=true then
    bif Nat.beq n (List.length (Ty.cast h B.x:List Int)) then
     K {v:=i64 ((List.take n (nM y)).length:Int),bx:=some (id,⟨.aG .row (.int .u8) b,(b6 (Ty.cast h B.x:List Int) (List.take n (nM y)) 0:List Int),[]⟩)}
    else none
   else none
  |none=>none else none else none
def copyV(E:Env)(T:TypeId)(s:State)(d x:SV)(K:Out->Option R):Option R:=
 match E.ty T,d with
 |some (.sl e t),.ptr id (.aG (.iQ n) a b) []=>(match x with
  | .ak .str y _=>ka t s id n a b y K
  |x=>iw t s id n 0 a b x e K)
 |some (.sl e t),.ptr id (.aG (.iQ n) a b) [l]=>iw t s id n l a b x e K
 |_,_=>none
def KH(t b:Ty):Bool:=
 b.cn t||(match t with
  | .aG (.rW _) u _=>b.cn u
  |_=>false)
def jv(s:State):List SV->Option (List SV×Option (Nat×bE))
 | []=>some ([],none)
 |v::r=>match jv s r with
  |none=>none
  |some (l,b)=>match v,b with
   | .ak t x _,b=>some (.ak t x []::l,b)
   | .cF,b=>some (.cF::l,b)
   | .view t x,b=>some (.view t x::l,b)
   | .ptr id t [],none=>match s.box id with
     |some B=>if KH t B.t=true then some (.ptr 0 t []::l,some (id,B)) else none
     |none=>none
   |_,_=>none
def SV.gx(id:Nat):SV->SV
 | .ptr _ t p=> .ptr id t p
 |v=>v
def FM(s:State):List Operand->Option (Nat×Nat×Ty×Ty×Nat×List Operand)
 | .tmp t::r=>match s.slot t with
   | [.bz id a b j]=>some (t,id,a,b,j,r)
   |_=>none
 |_=>none
def j7(C:FuncId->bW R)(s:State)(f:FuncId)(t id:Nat)(a b:Ty)(j:Nat)(vs:List SV)(K:Out->Option R):Option R:=
 if b.bI=true then none else match jv s vs with
 |some (l,none)=>nN s id a b fun x own=>match getM j x.2.1 with
  |some y=>C f (.ptr 0 b []::l) (some ⟨b,y,Br⟩) fun r B'=>match B' with
   |some B'=>if h:B'.t.cn b=true then bif gL B'.own [2] then K {v:=r,bx:=some (id,⟨.aG .bB a b,(x.1,fL j (some (Ty.cast h B'.x)) x.2.1,x.2.2),[]::own⟩),cl:=[(t,0)]} else none else none
   |none=>none
  |none=>none
 |_=>none
def fW(C:FuncId->bW R)(s:State)(dst:Option Nat)(f:FuncId)(vs:List SV)(K:Out->Option R):Option R:=
 match jv s vs with
 |some (l,none)=>C f l none fun r B=>match B with
  |none=>K {v:=r}
  |some B=>match dst with
   |some d=>match s.bs[d+1]? with
    |some none=>K {v:=r.map (SV.gx (d+1)),bx:=some (d+1,B)}
    |_=>none
   |none=>none
 |some (l,some (id,B))=>if(B.t.eJ&& !gL B.own [])=true then none else C f l (some B) fun r B'=>match B' with
  |some B'=>if B'.t.cn B.t=true then K {v:=r,bx:=some (id,B')} else none
  |none=>none
 |none=>none
def kp(g:Bool)(x y:SV)(K:Out->Option R):Option R:=
 match x,y with
 | .ak (.int k) m _,.ak (.int _) n _=>K {v:=[.ak (.int k) (bif g then(if m<n then n else m) else(if n<m then n else m)) []]}
 |_,_=>none
def oH(E:Env)(T:TypeId)(K:Out->Option R):Option R:=
 match E.ty T with
 |some (.sl e t)=>K {v:=[.ak (.sl e t) ([]:List (El t)) [[]]]}
 |_=>K {v:=[.cF]}
def nx(s:State):Operand->Option (Nat×List SV)
 | .tmp t=>bif Nat.beq (s.slot t).length 1 then none else some (t,s.slot t)
 |_=>none
def kz(t:Nat):Nat->List (Nat×Nat)
 |0=>[]
 |n+1=>(t,n)::kz t n
def fE(E:Env)(d:Option Nat):Bool:=
 match d with
 |some d=>E.sh.any (Nat.beq d)
 |none=>false
def takes(E:Env)(d:Option Nat):Bool:=
 match d with
 |some d=>E.mv.any (Nat.beq d)
 |none=>false
def Out.shut(u:Out):Out:={u with v:=u.v.map SV.shut}
def tM(f:FuncId)(x y:SV)(K:Out->Option R):Option R:=
 match x,y with
 | .view t a,.view u b=>K {v:=[.cap f t a u b]}
 |_,_=>none
def act(E:Env)(C:FuncId->bW R)(ops:List Oper)(o:Oper)(s:State)(K:Out->Option R):Option R:=
 match o.op with
 | .move x=>match nx s x with
   |some (t,l)=>bif fE E o.dst then K {v:=l.map SV.shut} else K {v:=l,cl:=bif l.all fun v=>v.own.isEmpty then [] else kz t l.length}
   |none=>match s.aH x with
    | .ak t y w=>bif Ys ops o.dst||takes E o.dst then K {v:=[.ak t y w],cl:=x9 w x} else K {v:=[.ak t y []]}
    | .undef=>none
    | .bz _ _ _ _=>none
    | .cF=>oH E o.type K
    |v=>K {v:=[v]}
 | .assign x=>match s.aH x with
   | .ak t y w=>K {v:=[.ak t y w],cl:=x9 w x}
   | .undef=>none
   | .bz _ _ _ _=>none
   | .cF=>oH E o.type K
   |v=>K {v:=[v]}
 | .pick c a b=>match s.aH c with
   | .ak .bool p _=>bif p then K {v:=[(s.aH a).shut]} else K {v:=[(s.aH b).shut]}
   |_=>none
 | .binOp op T x y _=>bin E op T (s.aH x) (s.aH y) fun v=>K {v}
 | .unOp op _ x=>K7 op (s.aH x) K
 | .convert S T x=>match s.aH x with
   | .ptr id (.aG (.iQ n) a b) []=>j9 E S T s id n a b K
   |v=>lp E S T v K
 | .load T a=>load E T s (Ys ops o.dst||AN E ops o.dst||Ph ops o.dst) (s.aH a) K
 | .store T a x=>store E T s (s.aH a) x K
 | .nilCheck x=>match s.aH x with
   | .ptr id t p=>if(t.bI&& !t.eJ)=true then none else K {v:=[.ptr id t p]}
   | .view t y=>K {v:=[.view t y]}
   |_=>none
 | .fieldAddr T x j=>match E.gr T with
   |some (ta,tb)=>Hl (s.aH x) j ta tb K
   |none=>Rw (E.ty T) (s.aH x) j K
 | .indexAddr T x i=>Ry E T (s.aH x) (s.aH i) K
 | .index T x i=>Rz E T (s.aH x) (s.aH i) K
 | .field T x j=>match E.ty T with
   |some t=>if t.dj=false then none else(s.aH x).el t fun y=>match El.get t [j] y with
    |some ⟨u,z⟩=>K {v:=[.ak u z []]}
    |none=>none
   |none=>none
 | .slice T x lo hi none=>match s.aH x with
   | .ptr id (.aG (.iQ n) a b) []=>(match E.ty T with
     |some (.sl _ t)=>if a.cn t=true then tO n id a b (lo.map s.aH) (hi.map s.aH) K else none
     |_=>none)
   | .ptr id (.arr n t) []=>re E T s id n t (lo.map s.aH) (hi.map s.aH) K
   |v=>rf E T v (lo.map s.aH) (hi.map s.aH) K
 | .makeFunc (.func f) first captured=>match first.toList,captured.toList with
   | [],[x]=>mX f (s.aH x) K
   | [],[x,y]=>tM f (s.aH x) (s.aH y) K
   |_,_=>none
 | .alloc T=>match E.ty T,o.dst with
   |some t,some d=>match s.bs[d+1]? with
    |some none=>K {v:=[.ptr (d+1) t []],bx:=some (d+1,⟨t,El.bV t,z40 t⟩)}
    |_=>none
   |none,some d=>(match E.gr T with
    |some (ta,tb)=>match s.bs[d+1]? with
     |some none=>K {v:=[.ptr (d+1) (.aG .bB ta tb) []],bx:=some (d+1,⟨.aG .bB ta tb,(El.bV ta,(none,none),(0:Int)),[]::z24⟩)}
     |_=>none
    |none=>match E.bl T with
    |some e=>match s.bs[d+1]? with
     |some none=>K {v:=[.ptr (d+1) (.aG (.gH T e) .unit .unit) []],bx:=some (d+1,⟨.aG (.gH T e) .unit .unit,(⟨#[]⟩:ByteArray),[[]]⟩)}
     |_=>none
    |none=>none)
   |_,_=>none
 | .box T x=>match E.ty T,o.dst with
   |some t,some d=>match s.bs[d+1]? with
    |some none=>(s.aH x).el t fun y=>K {v:=[.ptr (d+1) t []],bx:=some (d+1,⟨t,y,(s.aH x).own⟩),cl:=src x}
    |_=>none
   |_,_=>none
 | .build T parts=>match E.ty T with
   |some t=>if t.agg=false then none else rQ t (El.bV t) (z40 t) (z21 s parts.toList).1 fun y own=>K {v:=[.ak t y own],cl:=(z21 s parts.toList).2}
   |none=>none
 | .buildSlice T n parts=>match E.ty T with
   |some (.sl e t)=>if Nat.beq t.cells 0=true then none else bif Nat.ble (n*t.cells) 16777216 then Bp t (List.replicate n (El.bV t)) (parts.toList.map fun p=>(p.1,s.aH p.2)) fun y=>K {v:=[.ak (.sl e t) y [[]]]} else none
   |_=>none
 | .extract x j=>match x with
   | .tmp t=>if Nat.beq (s.slot t).length 1=true then(match one (s.slot t),j with
      | .over,0=>K {v:=bl false}
      |_,_=>none) else match(s.slot t)[j]? with
     |some (.ak u y w)=>K {v:=[.ak u y w],cl:=bif w.isEmpty then [] else [(t,j)]}
     |some .undef=>none
     |some (.bz _ _ _ _)=>none
     |some v=>K {v:=[v]}
     |none=>none
   |_=>none
 | .makeMap T none=>match np E T with
   |some (kt,vt)=>kq s o.dst (.aG .mp kt vt) ([]:List (El kt×El vt)) (.aG .mp kt vt) K
   |none=>none
 | .lookup T x i false=>ly E T s (s.aH x) (s.aH i) K
 | .mapUpdate T m k x=>mr E T s (s.aH m) (s.aH k) (s.aH x) K
 | .insert T m k x=>mr E T s (s.aH m) (s.aH k) (s.aH x) K
 | .range T x=>match E.ty T with
   |some .str=>(s.aH x).el .str fun y=>kq s o.dst kh ((y,0):ByteArray×Nat) kh K
   |_=>none
 | .next x true=>lB s (s.aH x) K
 | .makeSlice T l c=>lA E T s o.dst l (s.aH l) (s.aH c) K
 | .call ⟨.value (.func f),args,_⟩=>match FM s args.toList with
   |some (t,id,a,b,j,r)=>j7 C s f t id a b j (r.map s.aH) K
   |none=>fW C s o.dst f (args.toList.map s.aH) fun u=>K (bif fE E o.dst then u.shut else u)
 | .call ⟨.value (.tmp y),args,_⟩=>match s.aH (.tmp y) with
   | .ptr id (.aG (.rW f) u _) []=>if u.qt=true then none else fW C s o.dst f (args.toList.map s.aH++ [.ptr id u []]) K
   | .cap f t x u y=>fW C s o.dst f (args.toList.map s.aH++ [.view t x,.view u y]) K
   |_=>none
 | .call ⟨.builtin .copy,args,argTypes⟩=>match args.toList,argTypes.toList with
   | [d,x],T::_=>copyV E T s (s.aH d) (s.aH x) K
   |_,_=>none
 | .call ⟨.builtin .len,args,argTypes⟩=>match args.toList,argTypes.toList with
   | [x],[T]=>uB E T (s.aH x) K
   |_,_=>none
 | .call ⟨.builtin .append,args,argTypes⟩=>match args.toList,argTypes.toList with
   | [b,x],[T,U]=>QJ E T U b (s.aH b) (s.aH x) K
   |_,_=>none
 | .call ⟨.builtin .max,args,_⟩=>match args.toList with
   | [x,y]=>kp true (s.aH x) (s.aH y) K
   |_=>none
 | .call ⟨.builtin .min,args,_⟩=>match args.toList with
   | [x,y]=>kp false (s.aH x) (s.aH y) K
   |_=>none
 |_=>none
def QP(ops:List Oper)(g:Nat):Option Nat:=(ops[g]?).bind (·.dst)
def step(E:Env)(C:FuncId->bW R)(ops:List Oper)(o:Oper)(s:State)(K:State->Option R):Option R:=
 let go (s:State):Option R:=act E C ops o s fun u=>K (s.apply o.dst u)
 let pass (s:State):Option R:=K (s.av o.dst [.skip])
 match o.guard with
 |none=>go s
 |some (g,want)=>match QP ops g with
  |none=>none
  |some d=>match s.slot d with
   | [.ak .bool p []]=>bif p then(let s:=s.av (some d) (bl true);bif want then go s else pass s) else(let s:=s.av (some d) (bl false);bif want then pass s else go s)
   | [.skip]=>pass s
   |_=>none
def steps(E:Env)(C:FuncId->bW R)(ops:List Oper):List Oper->State->(State->Option R)->Option R
 | [],s,K=>K s
 |o::r,s,K=>step E C ops o s fun s=>steps E C ops r s K
structure dV where
 i:Nat
 r:Nat
 w:Nat
 br:Nat
 bw:Nat
def bit(i:Nat):Nat:=1<<<i
def jl:List Nat->Nat
 | []=>0
 |i::r=>bit i|||jl r
def rS:List Operand->List Nat
 | []=>[]
 | .tmp t::r=>t::rS r
 |_::r=>rS r
def looks(ops:List Oper)(o:Oper):List Nat:=rS o.op.operands.toList++(match o.guard with
 |some (g,_)=>(QP ops g).toList
 |none=>[])
def cm:SV->List Nat
 | .ptr id _ _=>[id]
 | .bz id _ _ _=>[id]
 |_=>[]
def zv(s:State)(o:Oper):List Nat:=
 match o.op with
 | .load _ a=>cm (s.aH a)
 | .store _ a _=>cm (s.aH a)
 | .alloc _| .box _ _| .makeMap _ _| .range _ _| .makeSlice _ _ _=>o.dst.toList.map fun d=>d+1
 | .convert _ _ x=>cm (s.aH x)
 | .slice _ x _ _ _=>cm (s.aH x)
 | .lookup _ x _ _=>cm (s.aH x)
 | .mapUpdate _ m _ _=>cm (s.aH m)
 | .insert _ m _ _=>cm (s.aH m)
 | .next x _=>cm (s.aH x)
 | .call ⟨.value y,args,_⟩=>(args.toList.flatMap fun x=>cm (s.aH x))++(cm (s.aH y)++o.dst.toList.map fun d=>d+1)
 | .call ⟨.builtin .copy,args,_⟩=>args.toList.flatMap fun x=>cm (s.aH x)
 |_=>[]
def gE(ops:List Oper)(o:Oper)(i:Nat)(s:State)(u:Out):dV:=
 ⟨i,jl (looks ops o),jl (o.dst.toList++u.cl.map (·.1)),jl (zv s o),jl (u.bx.toList.map (·.1))⟩
def dV.apart(a b:dV):Bool:=
 Nat.beq (a.w&&&(b.r|||b.w)) 0&&(Nat.beq (b.w&&&a.r) 0&&(Nat.beq (a.bw&&&(b.br|||b.bw)) 0&&Nat.beq (b.bw&&&a.br) 0))
def zx:List Edge->Nat
 | []=>0
 |e::r=>bif Region.binds .any e then bit e.on|||zx r else zx r
def jq(ops:List Oper):Nat->Nat->Nat
 |0,m=>m
 |i+1,m=>jq ops i (match ops[i]? with
  |some o=>bif m.testBit i then m|||zx o.after.toList else m
  |none=>m)
def fits(ops:List Oper)(m:Nat)(f:dV)(tr:List dV):Bool:=Nat.ble (m+1) (bit f.i)&&tr.all fun a=>m.testBit a.i||(a.apart f||(jq ops f.i m).testBit a.i)
def lH(E:Env)(C:FuncId->bW R)(ops:List Oper)(o:Oper)(i:Nat)(s:State)(tr:List dV)(K:State->List dV->Option R):Option R:=
 let go (s:State):Option R:=act E C ops o s fun u=>bif fits ops (zx o.after.toList) (gE ops o i s u) tr then K (s.apply o.dst u) (gE ops o i s u::tr) else none
 let pass (s:State):Option R:=bif fits ops (zx o.after.toList) (gE ops o i s {v:=[.skip]}) tr then K (s.apply o.dst {v:=[.skip]}) (gE ops o i s {v:=[.skip]}::tr) else none
 match o.guard with
 |none=>go s
 |some (g,want)=>match QP ops g with
  |none=>none
  |some d=>match s.slot d with
   | [.ak .bool p []]=>bif p then(let s:=s.av (some d) (bl true);bif want then go s else pass s) else(let s:=s.av (some d) (bl false);bif want then pass s else go s)
   | [.skip]=>pass s
   |_=>none
def yj(E:Env)(C:FuncId->bW R)(ops:List Oper):List Oper->Nat->State->List dV->(State->Option R)->Option R
 | [],_,s,_,K=>K s
 |o::r,i,s,tr,K=>lH E C ops o i s tr fun s tr=>yj E C ops r (i+1) s tr K
inductive Ex where
 |normal
 |exit (id:Nat)
 |ret
def uX:Code->Nat
 | .region id _ _=>id
 | .seq a _=>uX a
 | .cond _ a _=>uX a
 | .block _ b=>uX b
 | .loop b=>uX b
 |_=>0
def gk{α:Type}(z:α)(l:List Nat):Nat->List α->List α
 |_,[]=>[]
 |i,x::r=>(bif l.any (Nat.beq i) then x else z)::gk z l (i+1) r
def SV.roots(l:List Nat):SV->Bool
 | .ptr 0 _ _=>true
 | .ptr (id+1) _ _=>l.any (Nat.beq id)
 | .bz 0 _ _ _=>true
 | .bz (id+1) _ _ _=>l.any (Nat.beq id)
 |_=>true
def Z8:List Nat->List Nat->Bool
 | [],[]=>false
 | [],_::_=>true
 |_::_,[]=>false
 |a::p,b::q=>Nat.ble (a+1) b||(Nat.beq a b&&Z8 p q)
def uy(p:List Nat):List (List Nat)->List (List Nat)
 | []=>[p]
 |q::r=>bif Z8 q p then q::uy p r else p::q::r
def nu:List (List Nat)->List (List Nat)
 | []=>[]
 |p::r=>uy p (nu r)
def SV.norm:SV->SV
 | .ak t x own=> .ak t x (nu own)
 |v=>v
def bE.norm(B:bE):bE:={B with own:=nu B.own}
def State.norm(s:State):State:=⟨s.sl.map fun v=>v.map SV.norm,s.bs.map fun b=>b.map bE.norm⟩
def rR(l:List Nat)(s:State)(K:State->Option R):Option R:=
 let sl:=gk [.undef] l 0 s.sl
 bif sl.all (fun v=>v.all (SV.roots l)) then K (State.norm ⟨sl,s.bs.headD none::gk none l 0 s.bs.tail⟩) else none
def cI(k:Nat)(f:Unit->Option R):Option R:=
 match k with
 |0=>none
 |_+1=>f ()
def nq(E:Env)(k r:Nat)(s:State)(K:State->Option R):Option R:=
 match E.join r with
 |none=>K s
 |some l=>rR l s fun s=>cI k fun _=>K s
def l8(id:Nat)(l:List SV):List SV:=l.map fun v=>match v with
 | .ptr j _ _=>bif Nat.beq j id then .undef else v
 |v=>v
def rI(E:Env)(r:Nat)(s:State)(K:State->Option R):Option R:=
 match E.fz r with
 |none=>K s
 |some (d,T)=>match s.slot d,E.ty T with
  | [.ptr id (.aG (.iQ n) a b) []],some (.sl e t)=>if a.cn t=true then match s.box id with
    |some B=>if h:B.t.cn (.aG .row t b)=true then
      bif Nat.beq n (List.length (Ty.cast h B.x:List (El t))) then K {sl:=(s.sl.map (l8 id)).set d [.ak (.sl e t) (Ty.cast h B.x:List (El t)) []],bs:=s.bs.set id none} else none
     else none
    |none=>none else none
  |_,_=>none
def rT(id:Nat)(B:bE)(v:SV):SV:=
 match v with
 | .ptr j t p=>bif Nat.beq j id then(if t.cn B.t=true then match El.get B.t p B.x with
    |some ⟨u,y⟩=> .view u y
    |none=> .undef else .undef) else .ptr j t p
 |v=>v
def V1(id:Nat)(s:State)(K:State->Option R):Option R:=
 match s.box id with
 |some B=>if B.t.bI=true then none else K {sl:=s.sl.map fun l=>l.map (rT id B),bs:=s.bs.set id none}
 |none=>none
def G5:List Nat->State->(State->Option R)->Option R
 | [],s,K=>K s
 |id::r,s,K=>V1 id s fun s=>G5 r s K
def jd(l:List Nat):Nat->List (Option bE)->List (Option bE)
 |_,[]=>[]
 |i,b::r=>(bif l.any (Nat.beq i) then b.map (fun B=>{B with own:=[]}) else b)::jd l (i+1) r
def State.drop(l:List Nat)(s:State):State:={s with bs:=jd l 0 s.bs}
def aB(body:State->(Ex->State->Option R)->Option R)(l lx:List Nat):Nat->State->(Ex->State->Option R)->Option R
 |0,_,_=>none
 |k+1,s,K=>body s fun e s=>match e with
  | .normal=>rR l s fun s=>aB body l lx k s K
  |e=>rR lx s fun s=>K e s
def Ty.flat:Ty->Bool
 | .sl _ _=>false
 | .aG _ _ _=>false
 | .arr _ t=>t.flat
 | .pair a b=>a.flat&&b.flat
 |_=>true
def SV.flat:SV->Bool
 | .ak t _ own=>t.flat&&own.isEmpty
 | .ptr _ _ _| .view _ _| .cap _ _ _ _ _| .bz _ _ _ _=>false
 |_=>true
def lq(o:Nat):Nat->List (List SV)->Bool
 |_,[]=>true
 |i,l::r=>(Nat.beq i o||l.all SV.flat)&&lq o (i+1) r
def kj:Nat->Nat->List (List SV)->List (List SV)
 |0,_,sl=>sl
 |n+1,m,sl=>kj n (m+1) (sl.set m [.undef])
def isDst(o:Oper)(d:Nat):Bool:=
 match o.dst,o.guard with
 |some d',none=>Nat.beq d' d
 |_,_=>false
def fD(x:Operand)(i:Nat):Bool:=
 match x with
 | .tmp j=>Nat.beq j i
 |_=>false
def xC(E:Env)(T:TypeId):Bool:=
 match E.ty T with
 |some (.int .u8)=>true
 |_=>false
def V2(E:Env)(T:TypeId):Bool:=
 match E.ty T with
 |some (.sl _ (.int .u8))=>true
 |_=>false
def FL(o:Oper)(d x:Nat):Bool:=isDst o d&&(match o.op with
 | .move y=>fD y x
 |_=>false)
def isLen(E:Env)(o:Oper)(d x:Nat):Bool:=isDst o d&&(match o.op with
 | .call ⟨.builtin .len,dM,ts⟩=>match dM.toList,ts.toList with
   | [y],[T]=>fD y x&&V2 E T
   |_,_=>false
 |_=>false)
def Yt(o:Oper)(d x:Nat):Bool:=isDst o d&&(match o.op with
 | .binOp .sub _ y (.const (.int .i64 c)) _=>fD y x&&decide (c=1)
 |_=>false)
def xB(E:Env)(o:Oper)(d x i:Nat):Bool:=isDst o d&&(match o.op with
 | .indexAddr T y j=>fD y x&&(fD j i&&V2 E T)
 |_=>false)
def EI(E:Env)(o:Oper)(d x:Nat):Bool:=isDst o d&&(match o.op with
 | .load T y=>fD y x&&xC E T
 |_=>false)
def uA(o:Oper)(d x y:Nat):Bool:=isDst o d&&(match o.op with
 | .binOp .add _ u v _=>fD u x&&fD v y
 |_=>false)
def uz(E:Env)(o:Oper)(x y:Nat):Bool:=(match o.dst,o.guard with
 |none,none=>true
 |_,_=>false)&&(match o.op with
 | .store T u v=>fD u x&&(fD v y&&xC E T)
 |_=>false)
def EM(E:Env)(o x m:Nat)(ops:List Oper):Bool:=
 match ops with
 | [a0,a1,a2,a3,a4,a5,a6,a7,a8,a9,BJ,BK,a12,JD]=>FL a0 m o&&(FL a1 (m+1) o&&(isLen E a2 (m+2) (m+1)&&(Yt a3 (m+3) (m+2)&&(FL a4 (m+4) o&&(FL a5 (m+5) o&&(isLen E a6 (m+6) (m+5)&&(Yt a7 (m+7) (m+6)&&(xB E a8 (m+8) (m+4) (m+7)&&(EI E a9 (m+9) (m+8)&&(FL BJ (m+10) x&&(uA BK (m+11) (m+9) (m+10)&&(xB E a12 (m+12) m (m+3)&&uz E JD (m+12) (m+11)))))))))))))
 |_=>false
def AZ(e:TypeId)(xs:List Int)(y:Int)(own:List (List Nat)):List SV:=[.ak (.sl e (.int .u8)) (xs.set (IntKind.i64.wrap ((xs.length:Int)-1)).toNat (IntKind.u8.wrap (xs.getD (IntKind.i64.wrap ((xs.length:Int)-1)).toNat 0+y)):List Int) own]
def lI(E:Env)(q:Nat×Nat×Nat)(ops:List Oper)(s:State)(K:State->Option R):Option R:=
 bif EM E q.1 q.2.1 q.2.2 ops then
  bif Nat.ble (q.1+1) q.2.2&&(Nat.ble (q.2.1+1) q.2.2&&(!(Nat.beq q.1 q.2.1)&&Nat.ble (q.2.2+13) s.sl.length)) then
   match s.slot q.1,s.slot q.2.1 with
   | [.ak (.sl e (.int .u8)) xs own],[.ak (.int .u8) y _]=>
     bif gL own [] then
      bif lq q.1 0 (kj 13 q.2.2 s.sl)&&s.bs.all Option.isNone then
       zd (IntKind.i64.wrap ((List.length (xs:List Int):Int)-1)) (List.length (xs:List Int)) (K ⟨(kj 13 q.2.2 s.sl).set q.1 (AZ e xs y own),s.bs⟩)
      else none
     else none
   |_,_=>none
  else none
 else none
def xc(own:List (List Nat)):List (List Nat):=own.filterMap fun p=>match p with
 |(j+1)::p=>some (j::p)
 |_=>none
def Ty.cJ:Ty->List (List Nat)->Bool
 | .sl _ t,own=>t.flat&&gL own []
 | .pair a b,own=>a.cJ (RC own [0])&&b.cJ (xc own)
 | .aG _ _ _,_=>false
 | .arr _ t,_=>t.flat
 |_,_=>true
def bE.cJ(B:bE):Bool:= !B.t.bI&&B.t.cJ B.own
def SV.cJ(bs:List (Option bE)):SV->Bool
 | .ak t _ own=>t.cJ own
 | .view _ _| .cap _ _ _ _ _| .bz _ _ _ _=>false
 | .ptr id _ _=>match bs.getD id none with
   |some B=>B.cJ
   |none=>false
 |_=>true
def hold(bs:List (Option bE))(l:List SV):List SV:=bif l.all (SV.cJ bs) then l else [.undef]
def Yx:Option bE->Option bE
 |some B=>bif B.cJ then some B else none
 |none=>none
def State.cJ(x:Nat)(s:State):State:=⟨(s.sl.set x [.undef]).map (hold s.bs),s.bs.map Yx⟩
def uF(E:Env)(x d:Nat)(T T':TypeId)(i vo:Operand)(s:State)(K:State->Option R):Option R:=
 match s.slot x with
 | [.ak (.sl e t) xs own]=>bif gL own [] then
     match E.ty T,E.ty T' with
     |some u,some w=>bif u.cn (.sl e t)&&(w.cn t&&Nat.ble (d+1) s.sl.length) then
       (s.aH i).num fun n=>((s.av (some d) [.undef]).aH vo).el t fun _=>zd n (List.length (xs:List (El t))) (K ((s.av (some d) [.undef]).cJ x))
      else none
     |_,_=>none
   else none
 |_=>none
def lC(o:Oper):Bool:=
 match o.dst,o.guard with
 |none,none=>true
 |_,_=>false
def jo(E:Env)(oA oS:Oper)(s:State)(K:State->Option R):Option R:=
 match oA.op,oS.op with
 | .indexAddr T (.tmp x) i,.store T' (.tmp d) vo=>bif isDst oA d&&(!(Nat.beq x d)&&lC oS) then uF E x d T T' i vo s K else none
 |_,_=>none
def V5{α:Type}:List α->Option (List α×α×α)
 | []=>none
 | [_]=>none
 | [a,b]=>some ([],a,b)
 |a::r=>match V5 r with
  |some (l,x,y)=>some (a::l,x,y)
  |none=>none
def lE(E:Env)(C:FuncId->bW R)(ops:List Oper)(s:State)(K:State->Option R):Option R:=
 match V5 ops with
 |some (l,oA,oS)=>steps E C ops l s fun s=>jo E oA oS s K
 |none=>none
def SK{α:Type}:List α->Option (List α×α×α×α)
 | []=>none
 | [_]=>none
 | [_,_]=>none
 | [a,b,c]=>some ([],a,b,c)
 |a::r=>match SK r with
  |some (l,x,y,z)=>some (a::l,x,y,z)
  |none=>none
def aae(s:State)(d1 d2 d3:Nat)(ta tb:Ty)(y:El ta):State:=
 (((s.av (some d1) [.undef]).aC (some (d2+1,⟨.aG .bB ta tb,(y,(none,none),(0:Int)),[]::z24⟩))).av (some d2) [.undef]).av (some d3) [.ptr (d2+1) (.aG .bB ta tb) []]
def rD(E:Env)(oB oX oA:Oper)(s:State)(K:State->Option R):Option R:=
 match oB.op,oX.op,oA.op with
 | .build T parts,.box T' (.tmp e1),.assign (.tmp e2)=>match oB.dst,oX.dst,oA.dst with
   |some d1,some d2,some d3=>bif Nat.beq T T'&&(Nat.beq d1 e1&&(Nat.beq d2 e2&&(isDst oB d1&&(isDst oX d2&&(isDst oA d3&&(Nat.ble (d1+1) s.sl.length&&Nat.ble (d2+1) s.sl.length)))))) then
     match parts.toList,E.gr T with
     | [(0,x)],some (ta,tb)=>(s.aH x).el ta fun y=>match s.bs[d2+1]? with
       |some none=>K (aae s d1 d2 d3 ta tb y)
       |_=>none
     |_,_=>none
    else none
   |_,_,_=>none
 |_,_,_=>none
def Gi(E:Env)(C:FuncId->bW R)(ops:List Oper)(s:State)(K:State->Option R):Option R:=
 match SK ops with
 |some (l,oB,oX,oA)=>steps E C ops l s fun s=>rD E oB oX oA s K
 |none=>none
def nm(s:State)(id m j:Nat)(ta tb:Ty)(x:El (.aG .bB ta tb))(own:List (List Nat))(y:El tb):State:=
 ⟨s.sl.map (l8 m),(s.bs.set m none).set id (some ⟨.aG .bB ta tb,(x.1,fL j (some y) x.2.1,x.2.2),own⟩)⟩
def km(E:Env)(oS:Oper)(s:State)(K:State->Option R):Option R:=
 match oS.op with
 | .store T (.tmp x) (.tmp y)=>bif lC oS then if E.pt T=true then match s.slot x with
    | [.ptr id (.aG .bB ta tb) [1,j]]=>nN s id ta tb fun z own=>bif gL own [] then match s.slot y with
      | [.ptr m tb' []]=>match s.box m with
        |some B=>if h:B.t.cn tb=true then bif tb'.cn tb&&(!tb.bI&&(gL B.own [2]&& !(Nat.beq id m))) then K (nm s id m j ta tb z own (Ty.cast h B.x)) else none else none
        |none=>none
      | [.dS]=>K (s.aC (some (id,⟨.aG .bB ta tb,(z.1,fL j none z.2.1,z.2.2),own⟩)))
      |_=>none
      else none
    |_=>none
    else none else none
 |_=>none
def V4{α:Type}:List α->Option (List α×α)
 | []=>none
 | [a]=>some ([],a)
 |a::r=>match V4 r with
  |some (l,x)=>some (a::l,x)
  |none=>none
def rC(E:Env)(C:FuncId->bW R)(k:Nat)(ops:List Oper)(s:State)(K:State->Option R):Option R:=
 match V4 ops with
 |some (l,oS)=>match ops[k]? with
  |some oD=>match oD.op,oD.dst with
   | .extract (.tmp t) j,some d=>bif isDst oD d&&(Nat.ble (k+1) l.length&&(Nat.ble (zx oS.after.toList+1) (bit l.length)&&Nat.beq (jq ops l.length (zx oS.after.toList)|||bit k) (bit l.length-1))) then
      yj E C ops l 0 s [] fun s=>bif Nat.ble (j+1) (s.slot t).length&& !(Nat.beq (s.slot t).length 1) then km E oS (s.av (some d) [.undef]) K else none
     else none
   |_,_=>none
  |none=>none
 |none=>none
def Fx(E:Env)(C:FuncId->bW R)(i:Nat)(ops:Array Oper)(d:Bool)(s:State)(K:State->Option R):Option R:=
 rI E i s fun s=>G5 (E.fr i) s fun s=>bif d then yj E C ops.toList ops.toList 0 s [] K else steps E C ops.toList ops.toList s K
def ev(E:Env)(C:FuncId->bW R)(k:Nat):Code->State->(Ex->State->Option R)->Option R
 | .skip,s,K=>K .normal s
 | .region i ops d,s,K=>match E.sp with
   |some (j,q)=>bif Nat.beq i j then(match d with
    |true=>none
    |false=>bif Nat.beq q.2.2 0 then lE E C ops.toList s (K .normal) else lI E q ops.toList s (K .normal)) else Fx E C i ops d s (K .normal)
   |none=>match E.sg with
    |none=>Fx E C i ops d s (K .normal)
    |some (m,l,k)=>bif Nat.beq i m then(match d with
     |true=>none
     |false=>Gi E C ops.toList s (K .normal)) else bif Nat.beq i l then(match d with
     |true=>rC E C k ops.toList s (K .normal)
     |false=>none) else Fx E C i ops d s (K .normal)
 | .seq a b,s,K=>ev E C k a s fun e s=>match e with
   | .normal=>nq E k (uX b) s fun s=>ev E C k b s K
   |e=>K e s
 | .cond c a b,s,K=>match s.aH c with
   | .ak .bool p _=>bif p then ev E C k a (s.av (uN c) (bl true)) K else ev E C k b (s.av (uN c) (bl false)) K
   |_=>none
 | .block id b,s,K=>ev E C k b s fun e s=>match e with
   | .exit j=>bif Nat.beq j id then K .normal s else K (.exit j) s
   |e=>K e s
 | .loop b,s,K=>rR (E.dv (uX b)) (s.drop (E.dr (uX b))) fun s=>aB (ev E C k b) (E.dv (uX b)) (E.lv (uX b)) k s K
 | .exit id,s,K=>K (.exit id) s
 | .ret,s,K=>K .ret s
 |_,_,_=>none
def gO(E:Env):State->List ResultVar->Option (List SV×State)
 |s,[]=>some ([],s)
 |s,.tmp t::r=>if(one (s.slot t)).bO=true then none else match gO E (s.close [(t,0)]) r with
  |some (l,s')=>some (one (s.slot t)::l,s')
  |none=>none
 |s,.cell p T::r=>match s.slot p,E.ty T with
  | [.ptr id u []],some t=>match s.box id with
    |some B=>if(t.cn B.t&& !u.bI)=true then match gO E (s.aC (some (id,{B with own:=[]}))) r with
      |some (l,s')=>some (.ak B.t B.x B.own::l,s')
      |none=>none
     else none
    |none=>none
  |_,_=>none
def Bs:List SV->List Nat
 | []=>[]
 | .ptr id _ _::r=>id::Bs r
 |_::r=>Bs r
def Hm(s:State)(bx:Option bE)(l:List SV)(K:List SV->Option bE->Option R):Option R:=
 match bx,Bs l with
 |some _,[]=>match s.box 0 with
  |some B=>K l (some B)
  |none=>none
 |none,[]=>K l none
 |none,[id]=>match s.box id with
  |some B=>K (l.map (SV.gx 0)) (some B)
  |none=>none
 |_,_=>none
def gN(E:Env)(l:List SV):List SV:=bif E.ro then l.map SV.shut else l
def aM:List Ty->List SV->List SV
 | .sl e t::r,.cF::q=> .ak (.sl e t) ([]:List (El t)) []::aM r q
 |_::r,v::q=>v.shut::aM r q
 | [],q=>q
 |_,[]=>[]
def jC(E:Env)(C:FuncId->bW R)(k:Nat)(fn:Func)(code:Code)(vs:List SV)(bx:Option bE)(K:List SV->Option bE->Option R):Option R:=
 bif E.sp.isSome&&bx.isSome then none else
 let n:=fn.ntmps-vs.length
 let s:State:=⟨(aM E.ps vs).map (fun v=>[v])++List.replicate n [.undef],bx::List.replicate (vs.length+n) none⟩
 ev E C k code s fun e s=>match e with
  | .exit _=>none
  |_=>match gO E s fn.results.toList with
   |some (l,s')=>Hm s' bx (gN E l) K
   |none=>none
end
end Go.Ref

namespace Go.Ref
open Go
theorem zr{R S:Type}{sv:SV}{t:Ty}{F:El t->Option R}{G:El t->Option S}{K:S->Option R}(h:∀y,F y=(G y).bind K):sv.el t F=(sv.el t G).bind K:=by
 cases sv with
 |ak t' x own=>
  simp only[SV.el]
  split
  ·exact h _
  ·rfl
 |cF=>cases t<;>simp only[SV.el]<;>first|rfl|exact h _
 |_=>rfl
theorem zl{R S:Type}{b:Bool}{x y:Option R}{x' y':Option S}{K:S->Option R}(h:x=x'.bind K)(k:y=y'.bind K):(bif b then x else y)=(bif b then x' else y').bind K:=by
 cases b
 ·exact k
 ·exact h
theorem zo{R S:Type}{c:Prop}[Decidable c]{x y:Option R}{x' y':Option S}{K:S->Option R}(h:x=x'.bind K)(k:y=y'.bind K):(if c then x else y)=(if c then x' else y').bind K:=by
 split
 ·exact h
 ·exact k
section
variable {R:Type}
theorem zqj{op:BinOp}{k k':IntKind}{m n:Int}{K:List SV->Option R}:q7 op k m k' n K=(q7 op k m k' n some).bind K:=by
 unfold q7
 cases op<;>simp only<;>repeat(first|rfl|refine zl ?_ ?_|refine zo ?_ ?_)
theorem zql{op:BinOp}{m n:ByteArray}{K:List SV->Option R}:q9 op m n K=(q9 op m n some).bind K:=by
 unfold q9
 cases op<;>simp only<;>repeat(first|rfl|refine zl ?_ ?_|refine zo ?_ ?_)
theorem zqi{E:Env}{op:BinOp}{T:TypeId}{x y:SV}{K:List SV->Option R}:qZ E op T x y K=(qZ E op T x y some).bind K:=by
 unfold qZ
 split
 ·refine zo rfl (zr fun a=>zr fun b=> ?_)
  split
  ·cases op<;>rfl
  ·rfl
 ·rfl
theorem aml{E:Env}{op:BinOp}{T:TypeId}{x y:SV}{S:Type}{F:List SV->Option R}{G:List SV->Option S}{K:S->Option R}(h:∀l,F l=(G l).bind K):bin E op T x y F=(bin E op T x y G).bind K:=by
 unfold bin
 split
 ·rw[zqj,zqj (K:=G),Option.bind_assoc];congr;funext l;exact h l
 ·rw[zql,zql (K:=G),Option.bind_assoc];congr;funext l;exact h l
 ·refine zo rfl ?_;cases op<;>simp only<;>first|exact h _|rfl
 ·refine zo rfl ?_;cases op<;>simp only<;>first|exact h _|rfl
 ·rw[zqi,zqi (K:=G),Option.bind_assoc];congr;funext l;exact h l
theorem A9{S:Type}{i:Int}{n:Nat}{x:Option R}{x':Option S}{K:S->Option R}(h:x=x'.bind K):zd i n x=(zd i n x').bind K:=by
 unfold zd
 exact zl (zl h rfl) rfl
theorem zdo{S:Type}{lo:Option SV}{m:Nat}{F:Nat->Option R}{G:Nat->Option S}{K:S->Option R}(h:∀l,F l=(G l).bind K):yd lo m F=(yd lo m G).bind K:=by
 unfold yd
 cases lo with
 |none=>exact h _
 |some v=>exact zr fun y=>zl (zl (h _) rfl) rfl
theorem Lt{S:Type}{lo hi:Option SV}{n:Nat}{F:Nat->Nat->Option R}{G:Nat->Nat->Option S}{K:S->Option R}(h:∀l h,F l h=(G l h).bind K):cutAt lo hi n F=(cutAt lo hi n G).bind K:=by
 unfold cutAt
 cases hi with
 |none=>exact zdo fun l=>h _ _
 |some w=>exact zr fun y=>zl (zl (zdo fun l=>h _ _) rfl) rfl
theorem zv6{S:Type}{t:Ty}{F:El t->List (List Nat)->Option R}{G:El t->List (List Nat)->Option S}{K:S->Option R}(h:∀y o,F y o=(G y o).bind K):∀(l:List (Nat×SV×List (List Nat))) (x:El t) (own:List (List Nat)),rQ t x own l F=(rQ t x own l G).bind K
 | [],x,own=>by simpa [rQ] using h x own
 |(i,v,ov)::r,x,own=>by
  simp only[rQ]
  refine zo rfl ?_
  split
  ·refine zr fun y=> ?_
   split
   ·exact zv6 h r _ _
   ·rfl
  ·rfl
theorem zv7{S:Type}{t:Ty}{F:List (El t)->Option R}{G:List (El t)->Option S}{K:S->Option R}(h:∀y,F y=(G y).bind K):∀(l:List (Nat×SV)) (x:List (El t)),Bp t x l F=(Bp t x l G).bind K
 | [],x=>by simpa [Bp] using h x
 |(i,v)::r,x=>by
  simp only[Bp]
  exact zo rfl (zr fun y=>zv7 h r _)
variable {S:Type} {F:Out->Option R} {G:Out->Option S} {K:S->Option R}
theorem ES{s:State}{id:Nat}{a b:Ty}{F':El (.aG .bB a b)->List (List Nat)->Option R}{G':El (.aG .bB a b)->List (List Nat)->Option S}{K:S->Option R}(h:∀x o,F' x o=(G' x o).bind K):nN s id a b F'=(nN s id a b G').bind K:=by
 unfold nN
 split
 ·split
  ·exact zl (h _ _) rfl
  ·rfl
 ·rfl
theorem acL{u:Ty}{s:State}{id:Nat}{t:Ty}{p:List Nat}(h:∀y,F y=(G y).bind K):Fw u s id t p F=(Fw u s id t p G).bind K:=by
 unfold Fw
 split
 ·split
  ·split
   ·exact zo (zl (h _) rfl) rfl
   ·rfl
  ·rfl
 ·exact zo (ES fun x o=>h _) rfl
 ·exact zo (ES fun x o=>h _) rfl
 ·rfl
theorem acg{u:Ty}{s:State}{id:Nat}{t:Ty}{p:List Nat}{v:SV}(h:∀y,F y=(G y).bind K):E7 u s id t p v F=(E7 u s id t p v G).bind K:=by
 unfold E7
 split
 ·split
  ·split
   ·exact zo (zr fun y=>zl (h _) rfl) rfl
   ·rfl
  ·rfl
 ·split
  ·refine zo (ES fun x o=>zr fun y=> ?_) rfl
   split
   ·exact zl (h _) rfl
   ·rfl
  ·rfl
 ·exact zo (ES fun x o=>zr fun y=>zl (h _) rfl) rfl
 ·rfl
theorem acD{u:Ty}{id:Nat}{t:Ty}{p:List Nat}{j:Nat}{F:Out->Option R}{G:Out->Option S}{K:S->Option R}(h:∀y,F y=(G y).bind K):G4 u id t p j F=(G4 u id t p j G).bind K:=by
 unfold G4
 split
 ·split
  ·refine zo ?_ rfl
   split
   ·exact zo rfl (h _)
   ·rfl
  ·rfl
 ·rfl
theorem acH{m:Nat}{t:Ty}{n:Int}{id:Nat}{r:Ty}{p:List Nat}{F:Out->Option R}{G:Out->Option S}{K:S->Option R}(h:∀y,F y=(G y).bind K):G7 m t n id r p F=(G7 m t n id r p G).bind K:=by
 unfold G7
 split
 ·split
  ·exact zo (A9 (h _)) rfl
  ·rfl
 ·rfl
theorem ads{v:SV}{j:Nat}{ta tb:Ty}{F:Out->Option R}{G:Out->Option S}{K:S->Option R}(h:∀y,F y=(G y).bind K):Hl v j ta tb F=(Hl v j ta tb G).bind K:=by
 unfold Hl
 split
 ·exact zo (zl (h _) rfl) rfl
 ·rfl
theorem aca{t:Ty}{n:Int}{id:Nat}{r:Ty}{p:List Nat}(h:∀y,F y=(G y).bind K):PW t n id r p F=(PW t n id r p G).bind K:=by
 unfold PW
 split
 ·exact zo (A9 (h _)) rfl
 ·rfl
theorem acK{u:Ty}{B:bE}{t:Ty}{p:List Nat}(h:∀y,F y=(G y).bind K):G8 u B t p F=(G8 u B t p G).bind K:=by
 unfold G8
 split
 ·split
  ·exact zo (zl (h _) rfl) rfl
  ·rfl
 ·rfl
theorem agC{E:Env}{T:TypeId}{s:State}{v:SV}(h:∀y,F y=(G y).bind K):ko E T s v F=(ko E T s v G).bind K:=by
 unfold ko
 split
 ·exact zo (ES fun x o=>zl (h _) rfl) rfl
 ·rfl
theorem aj8{E:Env}{T:TypeId}{s:State}{la:Bool}{v:SV}(h:∀y,F y=(G y).bind K):load E T s la v F=(load E T s la v G).bind K:=by
 unfold load
 split
 ·split
  ·exact zo (h _) rfl
  ·refine zo (acL h) ?_
   split
   ·refine zo ?_ (acK h)
    split
    ·exact zo (zl (h _) (h _)) rfl
    ·rfl
   ·rfl
  ·rfl
 ·exact agC h
theorem ahd{E:Env}{T:TypeId}{s:State}{v:SV}{x:Operand}(h:∀y,F y=(G y).bind K):store E T s v x F=(store E T s v x G).bind K:=by
 unfold store
 split
 ·split
  ·refine zo (acg h) ?_
   split
   ·refine zo ?_ rfl
    split
    ·refine zo (zr fun y=> ?_) rfl
     split
     ·exact h _
     ·rfl
    ·rfl
   ·rfl
  ·rfl
 ·rfl
theorem adr{t:Option Ty}{v:SV}{j:Nat}(h:∀y,F y=(G y).bind K):Rw t v j F=(Rw t v j G).bind K:=by
 unfold Rw
 split
 ·refine zo (acD h) ?_
  split
  ·refine zo ?_ rfl
   split
   ·exact zo rfl (h _)
   ·rfl
  ·rfl
 ·refine zo ?_ rfl
  split
  ·exact zo rfl (h _)
  ·rfl
 ·rfl
theorem Dv{v:SV}{F':Int->Option R}{G':Int->Option S}{K:S->Option R}(h:∀n,F' n=(G' n).bind K):v.num F'=(v.num G').bind K:=by
 unfold SV.num
 split
 ·exact h _
 ·rfl
theorem ady{E:Env}{T:TypeId}{v i:SV}(h:∀y,F y=(G y).bind K):Ry E T v i F=(Ry E T v i G).bind K:=by
 unfold Ry
 refine Dv fun n=> ?_
 split
 ·exact zr fun y=>A9 (h _)
 ·refine zo (acH h) ?_
  split
  ·exact zo (A9 (h _)) rfl
  ·rfl
 ·exact zr fun y=>A9 (h _)
 ·exact aca h
 ·exact zo (A9 (h _)) rfl
 ·rfl
theorem adz{E:Env}{T:TypeId}{v i:SV}(h:∀y,F y=(G y).bind K):Rz E T v i F=(Rz E T v i G).bind K:=by
 unfold Rz
 refine Dv fun n=> ?_
 split
 ·exact zr fun y=>A9 (h _)
 ·exact zr fun y=>A9 (h _)
 ·rfl
theorem ajF{E:Env}{T:TypeId}{v:SV}{lo hi:Option SV}(h:∀y,F y=(G y).bind K):rf E T v lo hi F=(rf E T v lo hi G).bind K:=by
 unfold rf
 split
 ·exact zr fun y=>Lt fun _ _=>h _
 ·exact zr fun y=>Lt fun _ _=>h _
 ·rfl
theorem aco{E:Env}{T U:TypeId}{bo:Operand}{b x:SV}(h:∀y,F y=(G y).bind K):QJ E T U bo b x F=(QJ E T U bo b x G).bind K:=by
 unfold QJ
 refine zo rfl ?_
 split
 ·refine zo rfl ?_
  split
  ·exact zr fun y=>zl (h _) rfl
  ·exact zo rfl (zr fun y=>zr fun z=>zl (h _) rfl)
  ·rfl
 ·rfl
theorem aj4{E:Env}{T:TypeId}{x:SV}(h:∀y,F y=(G y).bind K):uB E T x F=(uB E T x G).bind K:=by
 unfold uB
 split
 ·exact zr fun y=>h _
 ·split
  ·exact h _
  ·exact zr fun y=>h _
 ·exact h _
 ·rfl
theorem af6{E:Env}{S' T:TypeId}{x:SV}(h:∀y,F y=(G y).bind K):lp E S' T x F=(lp E S' T x G).bind K:=by
 unfold lp
 split
 ·exact zr fun y=>h _
 ·exact zr fun y=>h _
 ·exact zr fun y=>h _
 ·rfl
theorem af5{E:Env}{S' T:TypeId}{s:State}{id n:Nat}{a b:Ty}(h:∀y,F y=(G y).bind K):j9 E S' T s id n a b F=(j9 E S' T s id n a b G).bind K:=by
 unfold j9
 split
 ·refine zo ?_ rfl
  split
  ·split
   ·exact zl (h _) rfl
   ·rfl
  ·rfl
 ·rfl
theorem zqu{s:State}{dst:Option Nat}{t:Ty}{x:El t}{p:Ty}(h:∀y,F y=(G y).bind K):kq s dst t x p F=(kq s dst t x p G).bind K:=by
 unfold kq
 split
 ·split
  ·exact h _
  ·rfl
 ·rfl
theorem zvt{s:State}{m:SV}{kt vt:Ty}{F:Nat->List (El kt×El vt)->Option R}{G:Nat->List (El kt×El vt)->Option S}{K:S->Option R}(h:∀n y,F n y=(G n y).bind K):vJ s m kt vt F=(vJ s m kt vt G).bind K:=by
 unfold vJ
 split
 ·refine zo ?_ rfl
  split
  ·split
   ·exact h _ _
   ·rfl
  ·rfl
 ·rfl
theorem agD{E:Env}{T:TypeId}{s:State}{m i:SV}(h:∀y,F y=(G y).bind K):ly E T s m i F=(ly E T s m i G).bind K:=by
 unfold ly
 split
 ·exact zvt fun _ _=>zr fun _=>h _
 ·rfl
theorem NG{E:Env}{T:TypeId}{s:State}{m i v:SV}(h:∀y,F y=(G y).bind K):mr E T s m i v F=(mr E T s m i v G).bind K:=by
 unfold mr
 split
 ·exact zvt fun _ _=>zr fun _=>zr fun _=>zl rfl (h _)
 ·rfl
theorem agI{s:State}{m:SV}(h:∀y,F y=(G y).bind K):lB s m F=(lB s m G).bind K:=by
 unfold lB
 split
 ·split
  ·split
   ·exact zl (h _) (h _)
   ·rfl
  ·rfl
 ·rfl
theorem agF{E:Env}{T:TypeId}{s:State}{dst:Option Nat}{lo:Operand}{l c:SV}(h:∀y,F y=(G y).bind K):lA E T s dst lo l c F=(lA E T s dst lo l c G).bind K:=by
 unfold lA
 split
 ·exact zo rfl (zr fun n=>zr fun m=>zl (zl (zl (zl (h _) rfl) rfl) rfl) (zl (zl (zl (zqu h) rfl) rfl) rfl))
 ·rfl
theorem amZ{op:UnOp}{x:SV}(h:∀y,F y=(G y).bind K):K7 op x F=(K7 op x G).bind K:=by
 unfold K7
 split
 ·exact h _
 ·exact h _
 ·rfl
end
abbrev ah:=(R:Type)->FuncId->bW R
def ah.Nat(C:ah):Prop:=∀(R S:Type) (f:FuncId) l b (F:List SV->Option bE->Option R) (G:List SV->Option bE->Option S) (K:S->Option R),(∀r b,F r b=(G r b).bind K)->C R f l b F=(C S f l b G).bind K
section
variable {R S:Type} {F:Out->Option R} {G:Out->Option S} {K:S->Option R} {C:ah}
theorem SF(hC:C.Nat){s:State}{dst:Option Nat}{f:FuncId}{vs:List SV}(h:∀y,F y=(G y).bind K):fW (C R) s dst f vs F=(fW (C S) s dst f vs G).bind K:=by
 unfold fW
 split
 ·refine hC R S f _ _ _ _ K fun r b=> ?_
  split
  ·exact h _
  ·split
   ·split
    ·exact h _
    ·rfl
   ·rfl
 ·refine zo rfl (hC R S f _ _ _ _ K fun r b=> ?_)
  split
  ·exact zo (h _) rfl
  ·rfl
 ·rfl
theorem af0(hC:C.Nat){s:State}{f:FuncId}{t id:Nat}{a b:Ty}{j:Nat}{vs:List SV}(h:∀y,F y=(G y).bind K):j7 (C R) s f t id a b j vs F=(j7 (C S) s f t id a b j vs G).bind K:=by
 unfold j7
 refine zo rfl ?_
 split
 ·refine ES fun x o=> ?_
  split
  ·refine hC R S f _ _ _ _ K fun r b=> ?_
   split
   ·split
    ·exact zl (h _) rfl
    ·rfl
   ·rfl
  ·rfl
 ·rfl
theorem af3{f:FuncId}{x:SV}(h:∀y,F y=(G y).bind K):mX f x F=(mX f x G).bind K:=by
 unfold mX
 split
 ·exact zo rfl (h _)
 ·rfl
theorem ajA{f:FuncId}{x y:SV}(h:∀y,F y=(G y).bind K):tM f x y F=(tM f x y G).bind K:=by
 unfold tM
 split
 ·exact h _
 ·rfl
theorem ajE{n id:Nat}{a b:Ty}{lo hi:Option SV}(h:∀y,F y=(G y).bind K):tO n id a b lo hi F=(tO n id a b lo hi G).bind K:=by
 unfold tO
 split
 ·rfl
 ·exact zdo fun l=>h _
theorem z124{t:Ty}{s:State}{id n lo:Nat}{a b:Ty}{x:SV}{e:TypeId}(h:∀y,F y=(G y).bind K):iw t s id n lo a b x e F=(iw t s id n lo a b x e G).bind K:=by
 unfold iw
 refine zo (zr fun ys=> ?_) rfl
 split
 ·split
  ·exact zl (zl (h _) rfl) rfl
  ·rfl
 ·rfl
theorem ajD{E:Env}{T:TypeId}{s:State}{id n:Nat}{t:Ty}{lo hi:Option SV}(h:∀y,F y=(G y).bind K):re E T s id n t lo hi F=(re E T s id n t lo hi G).bind K:=by
 unfold re
 split
 ·refine zo ?_ rfl
  split
  ·split
   ·exact h _
   ·rfl
  ·rfl
 ·rfl
theorem af7{t:Ty}{s:State}{id n:Nat}{a b:Ty}{y:ByteArray}(h:∀y,F y=(G y).bind K):ka t s id n a b y F=(ka t s id n a b y G).bind K:=by
 unfold ka
 refine zo (zo ?_ rfl) rfl
 split
 ·split
  ·exact zl (h _) rfl
  ·rfl
 ·rfl
theorem af8{E:Env}{T:TypeId}{s:State}{d x:SV}(h:∀y,F y=(G y).bind K):copyV E T s d x F=(copyV E T s d x G).bind K:=by
 unfold copyV
 split
 ·split
  ·exact af7 h
  ·exact z124 h
 ·exact z124 h
 ·rfl
theorem L6{g:Bool}{x y:SV}(h:∀y,F y=(G y).bind K):kp g x y F=(kp g x y G).bind K:=by
 unfold kp
 split
 ·exact h _
 ·rfl
theorem Nl{E:Env}{T:TypeId}(h:∀y,F y=(G y).bind K):oH E T F=(oH E T G).bind K:=by
 unfold oH
 split
 ·exact h _
 ·exact h _
theorem x8(hC:C.Nat){E:Env}{ops:List Oper}{o:Oper}{s:State}(h:∀y,F y=(G y).bind K):act E (C R) ops o s F=(act E (C S) ops o s G).bind K:=by
 unfold act
 split
 ·split
  ·exact zl (h _) (h _)
  ·split
   ·exact zl (h _) (h _)
   ·rfl
   ·rfl
   ·exact Nl h
   ·exact h _
 ·split
  ·exact h _
  ·rfl
  ·rfl
  ·exact Nl h
  ·exact h _
 ·split
  ·exact zl (h _) (h _)
  ·rfl
 ·exact aml fun l=>h _
 ·exact amZ h
 ·split
  ·exact af5 h
  ·exact af6 h
 ·exact aj8 h
 ·exact ahd h
 ·split
  ·exact zo rfl (h _)
  ·exact h _
  ·rfl
 ·split
  ·exact ads h
  ·exact adr h
 ·exact ady h
 ·exact adz h
 ·split
  ·refine zo rfl (zr fun y=> ?_)
   split
   ·exact h _
   ·rfl
  ·rfl
 ·split
  ·split
   ·exact zo (ajE h) rfl
   ·rfl
  ·exact ajD h
  ·exact ajF h
 ·split
  ·exact af3 h
  ·exact ajA h
  ·rfl
 ·split
  ·split
   ·exact h _
   ·rfl
  ·split
   ·split
    ·exact h _
    ·rfl
   ·split
    ·split
     ·exact h _
     ·rfl
    ·rfl
  ·rfl
 ·split
  ·split
   ·exact zr fun y=>h _
   ·rfl
  ·rfl
 ·split
  ·exact zo rfl (zv6 (fun y o=>h _) _ _ _)
  ·rfl
 ·split
  ·exact zo rfl (zl (zv7 (fun y=>h _) _ _) rfl)
  ·rfl
 ·split
  ·refine zo ?_ ?_
   ·split
    ·exact h _
    ·rfl
   split
   ·exact h _
   ·rfl
   ·rfl
   ·exact h _
   ·rfl
  ·rfl
 ·split
  ·exact zqu h
  ·rfl
 ·exact agD h
 ·exact NG h
 ·exact NG h
 ·split
  ·exact zr fun y=>zqu h
  ·rfl
 ·exact agI h
 ·exact agF h
 ·split
  ·exact af0 hC h
  ·exact SF hC fun u=>h _
 ·split
  ·exact zo rfl (SF hC h)
  ·exact SF hC h
  ·rfl
 ·split
  ·exact af8 h
  ·rfl
 ·split
  ·exact aj4 h
  ·rfl
 ·split
  ·exact aco h
  ·rfl
 ·split
  ·exact L6 h
  ·rfl
 ·split
  ·exact L6 h
  ·rfl
 ·rfl
end
section
variable {R S:Type} {F:State->Option R} {G:State->Option S} {K:S->Option R} {C:ah}
theorem zr4(hC:C.Nat){E:Env}{ops:List Oper}{o:Oper}{s:State}(h:∀y,F y=(G y).bind K):step E (C R) ops o s F=(step E (C S) ops o s G).bind K:=by
 unfold step
 simp only
 split
 ·exact x8 hC fun y=>h _
 ·split
  ·rfl
  ·split
   ·exact zl (zl (x8 hC fun y=>h _) (h _)) (zl (h _) (x8 hC fun y=>h _))
   ·exact h _
   ·rfl
theorem E2(hC:C.Nat){E:Env}{ops:List Oper}(h:∀y,F y=(G y).bind K):∀(l:List Oper) (s:State),steps E (C R) ops l s F=(steps E (C S) ops l s G).bind K
 | [],s=>h s
 |o::r,s=>by
  simp only[steps]
  exact zr4 hC fun s=>E2 hC h r s
theorem ahb(hC:C.Nat){E:Env}{ops:List Oper}{o:Oper}{i:Nat}{s:State}{tr:List dV}{F:State->List dV->Option R}{G:State->List dV->Option S}(h:∀y t,F y t=(G y t).bind K):lH E (C R) ops o i s tr F=(lH E (C S) ops o i s tr G).bind K:=by
 unfold lH
 simp only
 split
 ·exact x8 hC fun y=>zl (h _ _) rfl
 ·split
  ·rfl
  ·split
   ·exact zl (zl (x8 hC fun y=>zl (h _ _) rfl) (zl (h _ _) rfl)) (zl (zl (h _ _) rfl) (x8 hC fun y=>zl (h _ _) rfl))
   ·exact zl (h _ _) rfl
   ·rfl
theorem PI(hC:C.Nat){E:Env}{ops:List Oper}(h:∀y,F y=(G y).bind K):∀(l:List Oper) (i:Nat) (s:State) (tr:List dV),yj E (C R) ops l i s tr F=(yj E (C S) ops l i s tr G).bind K
 | [],i,s,tr=>h s
 |o::r,i,s,tr=>by
  simp only[yj]
  exact ahb hC fun s tr=>PI hC h r (i+1) s tr
theorem PD{l:List Nat}{s:State}(h:∀y,F y=(G y).bind K):rR l s F=(rR l s G).bind K:=by
 unfold rR
 exact zl (h _) rfl
end
theorem agy{R S:Type}{k:Nat}{F:Unit->Option R}{G:Unit->Option S}{K:S->Option R}(h:F ()=(G ()).bind K):cI k F=(cI k G).bind K:=by
 unfold cI
 cases k
 ·rfl
 ·exact h
theorem aj9{R S:Type}{F:State->Option R}{G:State->Option S}{K:S->Option R}{E:Env}{k r:Nat}{s:State}(h:∀y,F y=(G y).bind K):nq E k r s F=(nq E k r s G).bind K:=by
 unfold nq
 split
 ·exact h _
 ·exact PD fun s=>agy (h _)
theorem akA{R S:Type}{F:State->Option R}{G:State->Option S}{K:S->Option R}{E:Env}{r:Nat}{s:State}(h:∀y,F y=(G y).bind K):rI E r s F=(rI E r s G).bind K:=by
 unfold rI
 split
 ·exact h _
 ·split
  ·refine zo ?_ rfl
   split
   ·split
    ·exact zl (h _) rfl
    ·rfl
   ·rfl
  ·rfl
theorem zof{R S:Type}{F:State->Option R}{G:State->Option S}{K:S->Option R}(h:∀y,F y=(G y).bind K):∀(l:List Nat) (s:State),G5 l s F=(G5 l s G).bind K
 | [],s=>h s
 |id::r,s=>by
  simp only[G5]
  unfold V1
  split
  ·exact zo rfl (zof h r _)
  ·rfl
section
variable {R S:Type} {F:Ex->State->Option R} {G:Ex->State->Option S} {K:S->Option R} {C:ah}
theorem L5{body:State->(Ex->State->Option R)->Option R}{body':State->(Ex->State->Option S)->Option S}{l lx:List Nat}
 (hb:∀(F:Ex->State->Option R) (G:Ex->State->Option S),(∀e s,F e s=(G e s).bind K)->∀s,body s F=(body' s G).bind K) (h:∀e s,F e s=(G e s).bind K):
 ∀(k:Nat) (s:State),aB body l lx k s F=(aB body' l lx k s G).bind K
 |0,_=>rfl
 |k+1,s=>by
  simp only[aB]
  refine hb _ _ (fun e s=> ?_) s
  cases e with
  |normal=>exact PD fun s=>L5 hb h k s
  |exit id=>exact PD fun s=>h _ _
  |ret=>exact PD fun s=>h _ _
theorem NC{E:Env}{q:Nat×Nat×Nat}{ops:List Oper}{s:State}{F:State->Option R}{G:State->Option S}{K:S->Option R}(h:∀s,F s=(G s).bind K):lI E q ops s F=(lI E q ops s G).bind K:=by
 unfold lI
 refine zl (zl ?_ rfl) rfl
 split
 ·refine zl (zl ?_ rfl) rfl
  unfold zd
  exact zl (zl (h _) rfl) rfl
 ·rfl
theorem agR{E:Env}{oA oS:Oper}{s:State}{F:State->Option R}{G:State->Option S}{K:S->Option R}(h:∀s,F s=(G s).bind K):jo E oA oS s F=(jo E oA oS s G).bind K:=by
 unfold jo
 split
 ·refine zl ?_ rfl
  unfold uF
  split
  ·refine zl ?_ rfl
   split
   ·refine zl (Dv fun n=>zr fun y=> ?_) rfl
    unfold zd
    exact zl (zl (h _) rfl) rfl
   ·rfl
  ·rfl
 ·rfl
theorem Nu(hC:C.Nat){E:Env}{ops:List Oper}{s:State}{F:State->Option R}{G:State->Option S}(h:∀s,F s=(G s).bind K):lE E (C R) ops s F=(lE E (C S) ops s G).bind K:=by
 unfold lE
 split
 ·exact E2 hC (fun s=>agR h) _ _
 ·rfl
theorem Oz(hC:C.Nat){E:Env}{ops:List Oper}{s:State}{F:State->Option R}{G:State->Option S}(h:∀s,F s=(G s).bind K):Gi E (C R) ops s F=(Gi E (C S) ops s G).bind K:=by
 unfold Gi
 split
 ·refine E2 hC (fun s=> ?_) _ _
  unfold rD
  split
  ·split
   ·refine zl ?_ rfl
    split
    ·refine zr fun y=> ?_
     split
     ·exact h _
     ·rfl
    ·rfl
   ·rfl
  ·rfl
 ·rfl
theorem Ng(hC:C.Nat){E:Env}{k:Nat}{ops:List Oper}{s:State}{F:State->Option R}{G:State->Option S}(h:∀s,F s=(G s).bind K):rC E (C R) k ops s F=(rC E (C S) k ops s G).bind K:=by
 unfold rC
 split
 ·split
  ·split
   ·refine zl (PI hC (fun s=> ?_) _ _ _ _) rfl
    refine zl ?_ rfl
    unfold km
    split
    ·refine zl (zo ?_ rfl) rfl
     split
     ·refine ES fun z own=>zl ?_ rfl
      split
      ·split
       ·split
        ·exact zl (h _) rfl
        ·rfl
       ·rfl
      ·exact h _
      ·rfl
     ·rfl
    ·rfl
   ·rfl
  ·rfl
 ·rfl
theorem vI(hC:C.Nat){E:Env}{k:Nat}:∀(c:Code) (F:Ex->State->Option R) (G:Ex->State->Option S),(∀e s,F e s=(G e s).bind K)->∀s,ev E (C R) k c s F=(ev E (C S) k c s G).bind K
 | .skip,F,G,h,s=>h _ _
 | .region i ops d,F,G,h,s=>by
   simp only[ev]
   have key:Fx E (C R) i ops d s (F .normal)=(Fx E (C S) i ops d s (G .normal)).bind K:=akA fun s=>zof (fun s=>zl (PI hC (fun s=>h _ _) _ _ _ _) (E2 hC (fun s=>h _ _) _ _)) _ _
   split
   ·refine zl ?_ key
    cases d with
    |true=>rfl
    |false=>exact zl (Nu hC fun s=>h _ _) (NC fun s=>h _ _)
   ·split
    ·exact key
    ·refine zl ?_ (zl ?_ key)
     ·cases d with
      |true=>rfl
      |false=>exact Oz hC fun s=>h _ _
     ·cases d with
      |true=>exact Ng hC fun s=>h _ _
      |false=>rfl
 | .seq a b,F,G,h,s=>by
   simp only[ev]
   refine vI hC a _ _ (fun e s=> ?_) s
   cases e with
   |normal=>exact aj9 fun s=>vI hC b _ _ h s
   |exit id=>exact h _ _
   |ret=>exact h _ _
 | .cond c a b,F,G,h,s=>by
   simp only[ev]
   split
   ·exact zl (vI hC a _ _ h _) (vI hC b _ _ h _)
   ·rfl
 | .block id b,F,G,h,s=>by
   simp only[ev]
   refine vI hC b _ _ (fun e s=> ?_) s
   cases e with
   |normal=>exact h _ _
   |exit j=>exact zl (h _ _) (h _ _)
   |ret=>exact h _ _
 | .loop b,F,G,h,s=>by
   simp only[ev]
   exact PD fun s=>L5 (fun F G h s=>vI hC b F G h s) h k s
 | .exit id,F,G,h,s=>h _ _
 | .ret,F,G,h,s=>h _ _
 | .rangeFunc ..,F,G,h,s=>rfl
 | .scope _,F,G,h,s=>rfl
 | .label _,F,G,h,s=>rfl
 | .goto _,F,G,h,s=>rfl
 | .refuse _,F,G,h,s=>rfl
end
theorem jP{R S:Type}{x:Option R}{y:Option S}{K:S->Option R}(h:x=y.bind K){z:R}(hz:x=some z):∃w,y=some w/\K w=some z:=by
 rw[h] at hz
 exact Option.bind_eq_some_iff.1 hz
end Go.Ref

namespace Go.Ref
open Go
def dR(t:Ty)(cs:List Value):Value:=if t.agg=true then .agg cs.toArray else cs.headD undef
def bq(X:ax)(pl:Place)(e:TypeId)(k n:Nat)(v:Value):Prop:=
 (v= .slice none 0 0/\n=0)\/∃g cap cur,v= .slice (some ⟨g,0,none⟩) n cap/\X.w.heap[g]? =some (.cells cur e (0,0))/\n<=cap/\cap<=maxLen/\cur.size=cap*k/\X.ow g= .row pl (n*k)
def bm(X:ax)(pl:List Nat->Place)(t:Ty)(x:El t)(cs:List Value)(own:List (List Nat)):Prop:=
 ∀p∈own,∃e t' xs v,t.eI p/\El.get t p x=some ⟨.sl e t',xs⟩/\cs[t.off p]? =some v/\bq X (pl p) e t'.cells (List.length xs) v
def nv(t:Ty)(p:List Nat)(r:Nat)(v:Value):Prop:=
 match t,p with
 | .aG .mp _ _,_=>v= .map (some r)
 | .aG (.iQ n) _ _,[]=>∃cap,v= .slice (some ⟨r,0,none⟩) n cap/\n<=cap
 | .aG (.iQ n) a _,[l]=>∃cap off,v= .slice (some ⟨r,off,none⟩) (n-l) cap/\n-l<=cap/\l<=n/\((n=l/\off=0)\/off=l*a.cells)
 | .aG (.rW f) _ _,[]=>v= .func (.func f) #[] #[.pointer (some ⟨r,0,none⟩)]
 | .aG .row a _,[i]=>v= .pointer (some ⟨r,i*a.cells,none⟩)
 | .aG .bB a _,p=>v= .pointer (some ⟨r,m4 a p,none⟩)/\gIn a p
 |t,p=>v= .pointer (some ⟨r,t.off p,none⟩)/\t.eI p
theorem qA{t:Ty}{p:List Nat}{r:Nat}{v:Value}(h:t.bI=false):nv t p r v↔v= .pointer (some ⟨r,t.off p,none⟩)/\t.eI p:=by
 unfold nv
 split
 all_goals first
  |exact Iff.rfl
  |simp [Ty.bI] at h
theorem PZ{t:Ty}{p:List Nat}{r:Nat}{v:Value}(h:t.qt=false):nv t p r v↔v= .pointer (some ⟨r,t.off p,none⟩)/\t.eI p:=by
 unfold nv
 split
 all_goals first
  |exact Iff.rfl
  |simp [Ty.qt] at h
def aA(X:ax)(pl:List Nat->Place):SV->Value->Prop
 | .undef,_=>True
 | .skip,v=>v=Go.undef
 | .cF,v=>v= .slice none 0 0
 | .dS,v=>v= .pointer none
 | .ak t x own,v=>∃cs,bh X t x cs/\v=dR t cs/\bm X pl t x cs own
 | .ptr id t p,v=>∃r,X.β id=some r/\nv t p r v
 | .view t x,v=>∃ad cs,v= .pointer (some ad)/\ad.spot=none/\bh X t x cs/\∀i u,cs[i]? =some u->X.az (ad.add i) u
 | .cap f t x u y,v=>∃ad qo cs eH,v= .func (.func f) #[] #[.pointer (some ad),.pointer (some qo)]/\(ad.spot=none/\bh X t x cs/\∀i w,cs[i]? =some w->X.az (ad.add i) w)/\(qo.spot=none/\bh X u y eH/\∀i w,eH[i]? =some w->X.az (qo.add i) w)
 | .over,v=>v= .tuple #[.bool false]
 | .bz id a _ j,v=>∃r,X.β id=some r/\X.ow r= .box id/\X.w.cell? ⟨r,a.cells+j,none⟩=some v
theorem rN{X Y:ax}{pl gu:List Nat->Place}(h:∀a v,X.az a v->Y.az a v){f:Nat}{t u:Ty}{x:El t}{y:El u}{v:Value}(hr:aA X pl (.cap f t x u y) v):aA Y gu (.cap f t x u y) v:=by
 obtain⟨ad,qo,cs,eH,h1,⟨h2,h3,h4⟩,h5,h6,h7⟩:=hr
 exact⟨ad,qo,cs,eH,h1,⟨h2,h3.aj h,fun i w hi=>h _ _ (h4 i w hi)⟩,h5,h6.aj h,fun i w hi=>h _ _ (h7 i w hi)⟩
def cM(X:ax)(pl:Nat->List Nat->Place)(l:List SV)(v:Value):Prop:=
 match l with
 | [s]=>aA X (pl 0) s v
 |l=>∃vs:Array Value,v= .tuple vs/\vs.size=l.length/\∀(j:Nat) s u,l[j]? =some s->vs[j]? =some u->aA X (pl j) s u
def eB(X:ax)(t:Ty)(x:El t)(v:Value):Prop:=∃cs,bh X t x cs/\v=dR t cs
def dz(X:ax)(pl:List Nat->Place)(b:Ty)(m:Option (El b))(v:Value):Prop:=
 match m with
 |none=>v= .pointer none
 |some y=>∃g cs T,v= .pointer (some ⟨g,0,none⟩)/\X.w.heap[g]? =some (.cells cs T (0,0))/\X.ow g= .row (pl []) 0/\bh X b y cs.toList/\bm X pl b y cs.toList Br
def ig(X:ax)(r:Nat)(pl:List Nat->Place)(a b:Ty)(x:El (.aG .bB a b)):Prop:=
 ∃c p0 p1 T,X.w.heap[r]? =some (.cells (c++ [p0,p1,.int .i64 x.2.2]).toArray T (0,0))/\bh X a x.1 c/\dz X (fun p=>pl (0::p)) b x.2.1.1 p0/\dz X (fun p=>pl (1::p)) b x.2.1.2 p1
def dy(X:ax)(r:Nat)(pl:List Nat->Place):(t:Ty)->El t->List (List Nat)->Prop
 | .aG .iter _ _,x,_=>X.w.heap[r]? =some (.stringIter x.1 x.2)
 | .aG .mp kt vt,x,_=>∃es clock,X.w.heap[r]? =some (.map es clock)/\es.size=List.length x/\∀(i:Nat) (q:El kt×El vt) (e:MapEntry),x[i]? =some q->es[i]? =some e->eB X kt q.1 e.key/\eB X vt q.2 e.val
 | .aG .row t _,xs,_=>∃cs T,X.w.heap[r]? =some (.cells cs T (0,0))/\cs.size=List.length xs*t.cells/\∀(j:Nat) (x:El t),xs[j]? =some x->bh X t x ((cs.toList.drop (j*t.cells)).take t.cells)
 | .aG (.gH T e) _ _,x,own=>(∃o,X.w.heap[r]? =some o)/\([]∈own->∃v,ve T e r v (Lib.strCells x) X.w/\∀g,v.ownBlock=some g->X.ow g= .row (pl []) 0)
 | .aG .bB a b,x,own=>(∃o,X.w.heap[r]? =some o)/\((∀p∈z24,p∈own)->ig X r pl a b x)
 | .aG _ _ _,_,_=>False
 |t,x,own=>∃cs T,X.w.heap[r]? =some (.cells cs T (0,0))/\bh X t x cs.toList/\bm X pl t x cs.toList own
theorem dy.plain{X:ax}{r:Nat}{pl:List Nat->Place}{t:Ty}{x:El t}{own:List (List Nat)}(hs:t.bI=false):dy X r pl t x own↔∃cs T,X.w.heap[r]? =some (.cells cs T (0,0))/\bh X t x cs.toList/\bm X pl t x cs.toList own:=by
 cases t<;>first|exact Iff.rfl|simp [Ty.bI] at hs
theorem dy.of{X:ax}{r:Nat}{pl:List Nat->Place}{t:Ty}{x:El t}{own:List (List Nat)}{cs:Array Value}{T:TypeId}(hs:t.bI=false)(h1:X.w.heap[r]? =some (.cells cs T (0,0)))(h2:bh X t x cs.toList)(h3:bm X pl t x cs.toList own):dy X r pl t x own:=(dy.plain hs).2 ⟨cs,T,h1,h2,h3⟩
theorem eB.mono{X Y:ax}(h:∀a v,X.az a v->Y.az a v){t:Ty}{x:El t}{v:Value}(hr:eB X t x v):eB Y t x v:=by
 obtain⟨cs,h1,h2⟩:=hr
 exact⟨cs,h1.aj h,h2⟩
theorem dy.lt{X:ax}{r:Nat}{pl:List Nat->Place}{t:Ty}{x:El t}{own:List (List Nat)}(h:dy X r pl t x own):r<X.w.heap.size:=by
 have key:∀o,X.w.heap[r]? =some o->r<X.w.heap.size:=fun o ho=>(Array.getElem?_eq_some_iff.1 ho).1
 unfold dy at h
 split at h
 ·exact key _ h
 ·obtain⟨es,c,h1,_⟩:=h;exact key _ h1
 ·obtain⟨cs,T,h1,_⟩:=h;exact key _ h1
 ·obtain⟨⟨o,ho⟩,_⟩:=h;exact key _ ho
 ·obtain⟨⟨o,ho⟩,_⟩:=h;exact key _ ho
 ·exact h.elim
 ·obtain⟨cs,T,h1,_⟩:=h;exact key _ h1
theorem dz.move{X Y:ax}{pl gu:List Nat->Place}{b:Ty}{m:Option (El b)}{v:Value}(hs:∀a v,X.az a v->Y.az a v)
 (hg:∀p,p=[]\/p=[2]->∀g o n,X.w.heap[g]? =some o->X.ow g= .row (pl p) n->Y.w.heap[g]? =some o/\Y.ow g= .row (gu p) n) (h:dz X pl b m v):dz Y gu b m v:=by
 cases m with
 |none=>exact h
 |some y=>
  obtain⟨g,cs,T,h1,h2,h3,h4,h5⟩:=h
  obtain⟨k1,k2⟩:=hg [] (.inl rfl) g _ _ h2 h3
  refine⟨g,cs,T,h1,k1,k2,h4.aj hs,fun p hp=> ?_⟩
  have:p=[2]:=by simpa [Br] using hp
  subst this
  obtain⟨e,t',xs,v,g0,g1,g2,g3⟩:=h5 [2] hp
  refine⟨e,t',xs,v,g0,g1,g2,?_⟩
  rcases g3 with g3|⟨g',cap,cur,q1,q2,q3,q4,q5,q6⟩
  ·exact .inl g3
  ·obtain⟨j1,j2⟩:=hg [2] (.inr rfl) g' _ _ q2 q6
   exact .inr ⟨g',cap,cur,q1,j1,q3,q4,q5,j2⟩
theorem ig.move{X Y:ax}{r:Nat}{pl gu:List Nat->Place}{a b:Ty}{x:El (.aG .bB a b)}(hs:∀a v,X.az a v->Y.az a v)(hh:Y.w.heap[r]? =X.w.heap[r]?)
 (hg:∀p∈z24,∀g o n,X.w.heap[g]? =some o->X.ow g= .row (pl p) n->Y.w.heap[g]? =some o/\Y.ow g= .row (gu p) n) (h:ig X r pl a b x):ig Y r gu a b x:=by
 obtain⟨c,p0,p1,T,h1,h2,h3,h4⟩:=h
 refine⟨c,p0,p1,T,hh.trans h1,h2.aj hs,h3.move hs fun p hp=> ?_,h4.move hs fun p hp=> ?_⟩
 ·rcases hp with rfl|rfl<;>exact hg _ (by simp [z24])
 ·rcases hp with rfl|rfl<;>exact hg _ (by simp [z24])
theorem dy.move{X Y:ax}{r:Nat}{pl gu:List Nat->Place}{t:Ty}{x:El t}{own:List (List Nat)}(hs:∀a v,X.az a v->Y.az a v)(hh:Y.w.heap[r]? =X.w.heap[r]?)
 (ho:∀cs,bm X pl t x cs own->bm Y gu t x cs own) (hg:∀p∈own,∀g o n,X.w.heap[g]? =some o->X.ow g= .row (pl p) n->Y.w.heap[g]? =some o/\Y.ow g= .row (gu p) n) (h:dy X r pl t x own):dy Y r gu t x own:=by
 unfold dy at h⊢
 split at h
 ·exact hh.trans h
 ·obtain⟨es,c,h1,h2,h3⟩:=h
  exact⟨es,c,hh.trans h1,h2,fun i q e hq he=>⟨(h3 i q e hq he).1.mono hs,(h3 i q e hq he).2.mono hs⟩⟩
 ·obtain⟨cs,T,h1,h2,h3⟩:=h
  exact⟨cs,T,hh.trans h1,h2,fun j x hj=>(h3 j x hj).aj hs⟩
 ·obtain⟨⟨o,h1⟩,h2⟩:=h
  refine⟨⟨o,hh.trans h1⟩,fun hm=> ?_⟩
  obtain⟨v,h3,h4⟩:=h2 hm
  refine⟨v,h3.same hh (fun g o hv ho=>(hg _ hm g o _ ho (h4 g hv)).1),fun g hv=> ?_⟩
  obtain⟨cap,cur,Cc⟩:∃cap cur,X.w.heap[g]? =some (.cells cur cap (0,0)):=by
   rcases h3.own.2 with⟨hn,_⟩|⟨g',cap,cur,ji,_,Cc,_⟩
   ·rw[hn] at hv;simp [Value.ownBlock] at hv
   ·rw[ji] at hv
    simp [Value.ownBlock] at hv
    subst hv
    exact⟨_,_,Cc⟩
  exact(hg _ hm g _ _ Cc (h4 g hv)).2
 ·obtain⟨⟨o,h1⟩,h2⟩:=h
  exact⟨⟨o,hh.trans h1⟩,fun hp=>(h2 hp).move hs hh fun p hm=>hg p (hp p hm)⟩
 ·exact h.elim
 ·obtain⟨cs,T,h1,h2,h3⟩:=h
  exact⟨cs,T,hh.trans h1,h2.aj hs,ho _ h3⟩
def bF(X:ax)(id r:Nat)(B:bE):Prop:=X.ow r= .box id/\dy X r (.b id) B.t B.x B.own
theorem bF.cells{X:ax}{id r:Nat}{B:bE}(h:bF X id r B)(hs:B.t.bI=false):∃cs T,X.w.heap[r]? =some (.cells cs T (0,0))/\bh X B.t B.x cs.toList/\X.ow r= .box id/\bm X (.b id) B.t B.x cs.toList B.own:=by
 obtain⟨cs,T,h1,h2,h3⟩:=(dy.plain hs).1 h.2
 exact⟨cs,T,h1,h2,h.1,h3⟩
def ii(s:State):Prop:=∀(i:Nat) l id a b j,s.sl[i]? =some l->SV.bz id a b j∈l->l=[.bz id a b j]/\(∃x own,s.bs[id]? =some (some ⟨.aG .bB a b,x,own⟩)/\ []∉own)/\
 ∀(i':Nat) l' a' b' j',s.sl[i']? =some l'->SV.bz id a' b' j'∈l'->i'=i
theorem ii.less{s s':State}(h:ii s)(hs:∀(i:Nat) l id a b j,s'.sl[i]? =some l->SV.bz id a b j∈l->∃l0,s.sl[i]? =some l0/\SV.bz id a b j∈l0/\(l0=[.bz id a b j]->l=[.bz id a b j]))
 (hb:∀(id:Nat) a b x own,(∃(i:Nat) (l:List SV) (j:Nat),s'.sl[i]? =some l/\SV.bz id a b j∈l)->s.bs[id]? =some (some ⟨.aG .bB a b,x,own⟩)-> []∉own->∃x' jF,s'.bs[id]? =some (some ⟨.aG .bB a b,x',jF⟩)/\ []∉jF):ii s':=fun i l id a b j hl hm=>by
 obtain⟨l0,h1,h2,h3⟩:=hs i l id a b j hl hm
 obtain⟨g1,⟨x,own,g2,g3⟩,g4⟩:=h i l0 id a b j h1 h2
 refine⟨h3 g1,hb id a b x own ⟨i,l,j,hl,hm⟩ g2 g3,fun i' l' a' b' j' kN rZ=> ?_⟩
 obtain⟨l1,k1,k2,_⟩:=hs i' l' id a' b' j' kN rZ
 exact g4 i' l1 a' b' j' k1 k2
theorem ii.aC{s:State}(h:ii s){d:Nat}{B:bE}(hn:∀(i:Nat) (l:List SV) a b j,s.sl[i]? =some l->SV.bz d a b j∈l->False):ii (s.aC (some (d,B))):=
 h.less (fun i l id a b j hl hm=>⟨l,hl,hm,fun h=>h⟩) fun id a b x own hex hb ho=>by
  obtain⟨i,l,j,hl,hm⟩:=hex
  refine⟨x,own,?_,ho⟩
  simp only[State.aC,List.getElem?_set]
  rw[if_neg (fun e=>by subst e;exact hn i l a b j hl hm)]
  exact hb
theorem ii.none{s:State}(h:ii s){d:Nat}(hb:∀a b x own,s.bs[d]? =some (some ⟨.aG .bB a b,x,own⟩)-> []∈own):∀(i:Nat) (l:List SV) a b j,s.sl[i]? =some l->SV.bz d a b j∈l->False:=fun i l a b j hl hm=>by
 obtain⟨_,⟨x,own,h1,h2⟩,_⟩:=h i l d a b j hl hm
 exact h2 (hb a b x own h1)
theorem Yu{l:List SV}(h:l.any SV.bO=false){id:Nat}{a b:Ty}{j:Nat}(hm:SV.bz id a b j∈l):False:=by
 have:=List.any_eq_false.1 h _ hm
 exact this rfl
structure Rel(X:ax)(s:State)(a:Act):Prop where
 size:s.sl.length=a.tmps.size
 gM:s.bs.length=s.sl.length+1
 bS:∀(i:Nat) l v,s.sl[i]? =some l->a.tmps[i]? =some v->cM X (.c i) l v
 boxes:∀(id:Nat) B,s.bs[id]? =some (some B)->∃r,X.β id=some r/\bF X id r B
 live:∀(i:Nat) l id t p,s.sl[i]? =some l->SV.ptr id t p∈l->∃B,s.bs[id]? =some (some B)
 defers:a.defers=[]
 bz:ii s
theorem vE{w:World}{g:Nat}{o:Obj}(h:w.heap[g]? =some o):g<w.heap.size:=(Array.getElem?_eq_some_iff.1 h).1
theorem cM.iT{X Y:ax}{pl gu:Nat->List Nat->Place}{l:List SV}{v:Value}(hr:cM X pl l v)(h:∀(j:Nat) s u,l[j]? =some s->aA X (pl j) s u->aA Y (gu j) s u):cM Y gu l v:=by
 match l,hr with
 | [s],hr=>exact h 0 s v (by simp) hr
 | [],⟨vs,h1,h2,h3⟩=>exact⟨vs,h1,h2,fun j s u hs hu=>h j s u hs (h3 j s u hs hu)⟩
 |x::y::r,⟨vs,h1,h2,h3⟩=>exact⟨vs,h1,h2,fun j s u hs hu=>h j s u hs (h3 j s u hs hu)⟩
def cV(s:State):Place->Prop
 | .c i j p=>∃l t x own,s.sl[i]? =some l/\l[j]? =some (.ak t x own)/\p∈own
 | .b id p=>∃B,s.bs[id]? =some (some B)/\p∈B.own
 | .r _ _=>False
structure Mod(s:State)(X Y:ax):Prop where
 az:∀a v,X.az a v->Y.az a v
 size:X.w.heap.size<=Y.w.heap.size
 os:Y.w.os=X.w.os
 tape:Y.w.tape=X.w.tape
 output:Y.w.output=X.w.output
 β0:Y.β 0=X.β 0
 β:∀(id:Nat) B,s.bs[id]? =some (some B)->Y.β id=X.β id
 mW:∀g,g<X.w.heap.size->(Y.ow g=X.ow g/\Y.w.heap[g]? =X.w.heap[g]?)\/∃pl n,X.ow g= .row pl n/\¬cV s pl
theorem Mod.ext{s:State}{X Y:ax}(h:Mod s X Y):Ext X Y:=
 ⟨h.az,h.size,h.os,h.tape,h.output,h.β0,fun g hg bR=>by
   rcases h.mW g hg with e|⟨pl,n,h1,_⟩
   ·exact e
   ·rw[h1] at bR;exact bR.elim⟩
theorem Mod.refl(s:State)(X:ax):Mod s X X:=⟨fun _ _ h=>h,Nat.le_refl _,rfl,rfl,rfl,rfl,fun _ _ _=>rfl,fun _ _=> .inl ⟨rfl,rfl⟩⟩
theorem bq.mod{s:State}{X Y:ax}(h:Mod s X Y){pl:Place}{e:TypeId}{k n:Nat}{v:Value}(hf:cV s pl)(ho:bq X pl e k n v):bq Y pl e k n v:=by
 rcases ho with ho|⟨g,cap,cur,h1,h2,h3,h4,h5,h6⟩
 ·exact .inl ho
 ·rcases h.mW g (vE h2) with⟨k1,k2⟩|⟨gu,n',k1,k2⟩
  ·exact .inr ⟨g,cap,cur,h1,k2.trans h2,h3,h4,h5,k1.trans h6⟩
  ·rw[h6] at k1;injection k1 with k1;rw[k1] at hf;exact absurd hf k2
theorem bm.mod{s:State}{X Y:ax}(h:Mod s X Y){pl:List Nat->Place}{t:Ty}{x:El t}{cs:List Value}{own:List (List Nat)}(hf:∀p∈own,cV s (pl p))(ho:bm X pl t x cs own):bm Y pl t x cs own:=fun p hp=>by
 obtain⟨e,t',xs,v,g0,g1,g2,g3⟩:=ho p hp
 exact⟨e,t',xs,v,g0,g1,g2,g3.mod h (hf p hp)⟩
theorem aA.mod{s:State}{X Y:ax}(h:Mod s X Y){pl:List Nat->Place}{sv:SV}{v:Value}(hf:∀t x own,sv= .ak t x own->∀p∈own,cV s (pl p))(hl:∀id t p,sv= .ptr id t p->∃B,s.bs[id]? =some (some B))(hk:∀id a b j,sv= .bz id a b j->∃B,s.bs[id]? =some (some B))(hr:aA X pl sv v):aA Y pl sv v:=by
 cases sv with
 |undef=>trivial
 |skip=>exact hr
 |cF=>exact hr
 |dS=>exact hr
 |over=>exact hr
 |ak t x own=>
  obtain⟨cs,h1,h2,h3⟩:=hr
  exact⟨cs,h1.aj h.az,h2,h3.mod h (hf t x own rfl)⟩
 |ptr id t p=>
  obtain⟨r,h1,h2⟩:=hr
  obtain⟨B,hB⟩:=hl id t p rfl
  exact⟨r,(h.β id B hB).trans h1,h2⟩
 |view t x=>
  obtain⟨ad,cs,h1,h2,h3,h4⟩:=hr
  exact⟨ad,cs,h1,h2,h3.aj h.az,fun i u hi=>h.az _ _ (h4 i u hi)⟩
 |cap f t x u y=>exact rN h.az hr
 |bz id a b j=>
  obtain⟨r,h1,h2,h3⟩:=hr
  obtain⟨B,hB⟩:=hk id a b j rfl
  have ar:r<X.w.heap.size:=World.block_lt_of_cell? X.w _ h3
  rcases h.mW r ar with⟨k1,k2⟩|⟨gu,n',k1,_⟩
  ·refine⟨r,(h.β id B hB).trans h1,k1.trans h2,?_⟩
   simp only[World.cell?] at h3⊢
   rw[k2];exact h3
  ·rw[h2] at k1;cases k1
theorem Rel.mod{s:State}{X Y:ax}{a:Act}(hr:Rel X s a)(h:Mod s X Y):Rel Y s a where
 size:=hr.size
 gM:=hr.gM
 bS:=fun i l v hl hv=>(hr.bS i l v hl hv).iT fun j sv u hm jM=>jM.mod h (fun t x own e p hp=>⟨l,t,x,own,hl,e▸hm,hp⟩) (fun id t p e=>hr.live i l id t p hl (e▸List.mem_of_getElem? hm)) (fun id a b j e=>by
  obtain⟨_,⟨x,own,hb,_⟩,_⟩:=hr.bz i l id a b j hl (e▸List.mem_of_getElem? hm)
  exact⟨_,hb⟩)
 boxes:=fun id B hB=>by
  obtain⟨r,h1,h4,h2⟩:=hr.boxes id B hB
  have hk:Y.ow r=X.ow r/\Y.w.heap[r]? =X.w.heap[r]? :=by
   rcases h.mW r h2.lt with hk|⟨gu,n',k1,k2⟩
   ·exact hk
   ·rw[h4] at k1;cases k1
  exact⟨r,(h.β id B hB).trans h1,hk.1.trans h4,h2.move h.az hk.2 (fun cs h5=>h5.mod h fun p hp=>⟨B,hB,hp⟩) fun p hm g o n ho hw=>by
   rcases h.mW g (vE ho) with e|⟨pl,n',e1,e2⟩
   ·exact⟨e.2.trans ho,e.1.trans hw⟩
   ·rw[hw] at e1;injection e1 with e1;exact absurd (e1▸(⟨B,hB,hm⟩:cV s (.b id p))) e2⟩
 live:=hr.live
 defers:=hr.defers
 bz:=hr.bz
structure eN(s:State)(X Y:ax):Prop where
 size:X.w.heap.size<=Y.w.heap.size
 os:Y.w.os=X.w.os
 tape:Y.w.tape=X.w.tape
 output:Y.w.output=X.w.output
 mW:∀g,g<X.w.heap.size->Y.ow g=X.ow g/\Y.w.heap[g]? =X.w.heap[g]?
 β0:Y.β 0=X.β 0
 β:∀(id:Nat) B,s.bs[id]? =some (some B)->Y.β id=X.β id
theorem eN.az{s:State}{X Y:ax}(h:eN s X Y){a:Addr}{v:Value}(hs:X.az a v):Y.az a v:=by
 have ar:=ax.iI hs
 obtain⟨h1,h2⟩:=h.mW _ ar
 refine⟨hs.1,?_,?_⟩
 ·have:=hs.2.1
  simp only[World.cell?] at this⊢
  rw[h2];exact this
 ·rw[h1];exact hs.2.2
theorem eN.mod{s:State}{X Y:ax}(h:eN s X Y):Mod s X Y:=
 ⟨fun _ _=>h.az,h.size,h.os,h.tape,h.output,h.β0,h.β,fun g hg=> .inl (h.mW g hg)⟩
theorem eN.ext{s:State}{X Y:ax}(h:eN s X Y):Ext X Y:=h.mod.ext
theorem bq.dv{s:State}{X Y:ax}(h:eN s X Y){pl:Place}{e:TypeId}{k n:Nat}{v:Value}(ho:bq X pl e k n v):bq Y pl e k n v:=by
 rcases ho with ho|⟨g,cap,cur,h1,h2,h3,h4,h5,h6⟩
 ·exact .inl ho
 ·obtain⟨k1,k2⟩:=h.mW g (vE h2)
  exact .inr ⟨g,cap,cur,h1,k2.trans h2,h3,h4,h5,k1.trans h6⟩
theorem bm.dv{s:State}{X Y:ax}(h:eN s X Y){pl:List Nat->Place}{t:Ty}{x:El t}{cs:List Value}{own:List (List Nat)}(ho:bm X pl t x cs own):bm Y pl t x cs own:=fun p hp=>by
 obtain⟨e,t',xs,v,g0,g1,g2,g3⟩:=ho p hp
 exact⟨e,t',xs,v,g0,g1,g2,g3.dv h⟩
theorem Rel.dv{s:State}{X Y:ax}{a:Act}(hr:Rel X s a)(h:eN s X Y):Rel Y s a:=hr.mod h.mod
theorem Rel.put{X:ax}{s:State}{a:Act}(hr:Rel X s a){d:Option Nat}{l:List SV}{v:Value}(h:∀d',d=some d'->cM X (.c d') l v)(hl:∀id t p,SV.ptr id t p∈l->∃B,s.bs[id]? =some (some B))(hn:l.any SV.bO=false:=by rfl):Rel X (s.av d l) (a.put d v):=by
 cases d with
 |none=>exact hr
 |some d=>
  refine⟨by simpa [State.av,Act.put] using hr.size,by simpa [State.av] using hr.gM,fun i l' v' hi hv=> ?_,hr.boxes,fun i l' id t p hi hm=> ?_,hr.defers,hr.bz.less (fun i l' id a b j hi hm=> ?_) (fun id a b x own _ hb ho=>⟨x,own,hb,ho⟩)⟩
  ·simp only[State.av,List.getElem?_set] at hi
   simp only[Act.put,Array.getElem?_setIfInBounds] at hv
   by_cases e:d=i
   ·subst e
    simp only[if_true] at hi hv
    split at hi
    ·split at hv
     ·cases hi;cases hv;exact h d rfl
     ·cases hv
    ·cases hi
   ·rw[if_neg e] at hi hv
    exact hr.bS i l' v' hi hv
  ·simp only[State.av,List.getElem?_set] at hi
   split at hi
   ·split at hi
    ·cases hi;exact hl id t p hm
    ·cases hi
   ·exact hr.live i l' id t p hi hm
  ·simp only[State.av,List.getElem?_set] at hi
   split at hi
   ·split at hi
    ·cases hi;exact(Yu hn hm).elim
    ·cases hi
   ·exact⟨l',hi,hm,fun h=>h⟩
theorem Rel.skip{X:ax}{s:State}{a:Act}(hr:Rel X s a)(d:Option Nat):Rel X (s.av d [.skip]) (a.put d Go.undef):=
 hr.put (fun _ _=>rfl) (fun id t p h=>by simp at h)
structure dX(s:State)(X Y:ax):Prop where
 w:Y.w=X.w
 β:Y.β=X.β
 ow:∀g,Y.ow g=X.ow g\/∃pl n q,X.ow g= .row pl n/\¬cV s pl/\Y.ow g= .row q n
theorem dX.az{s:State}{X Y:ax}(h:dX s X Y){a:Addr}{v:Value}:X.az a v↔Y.az a v:=by
 unfold ax.az
 rw[h.w]
 rcases h.ow a.block with e|⟨pl,n,q,h1,_,h2⟩
 ·rw[e]
 ·rw[h1,h2];rfl
theorem dX.mod{s:State}{X Y:ax}(h:dX s X Y):Mod s X Y:=
 ⟨fun _ _=>h.az.1,by rw[h.w];exact Nat.le_refl _,by rw[h.w],by rw[h.w],by rw[h.w],by rw[h.β],fun _ _ _=>by rw[h.β],fun g _=>by
   rcases h.ow g with e|⟨pl,n,q,h1,h2,_⟩
   ·exact .inl ⟨e,by rw[h.w]⟩
   ·exact .inr ⟨pl,n,h1,h2⟩⟩
theorem dX.ext{s:State}{X Y:ax}(h:dX s X Y):Ext X Y:=h.mod.ext
theorem dX.refl(s:State)(X:ax):dX s X X:=⟨rfl,rfl,fun _=> .inl rfl⟩
theorem Ta{v:SV}{id:Nat}{t:Ty}{p:List Nat}:v.shut= .ptr id t p->v= .ptr id t p:=by cases v<;>simp [SV.shut]
theorem aA.shut{X:ax}{pl gu:List Nat->Place}{sv:SV}{v:Value}(hr:aA X pl sv v):aA X gu sv.shut v:=by
 cases sv with
 |ak t x own=>
  obtain⟨cs,h1,h2,_⟩:=hr
  exact⟨cs,h1,h2,fun p hp=>by cases hp⟩
 |bz id a b j=>trivial
 |_=>exact hr
theorem z7s:∀(l:List SV) (j:Nat),(bQ l j).length=l.length
 | [],_=>rfl
 |_::_,0=>rfl
 |_::r,j+1=>by simp [bQ,z7s r j]
theorem PH:∀(l:List SV) (j i:Nat),(bQ l j)[i]? =if i=j then(l[i]?).map SV.shut else l[i]?
 | [],j,i=>by simp [bQ]
 |v::r,0,0=>by simp [bQ]
 |v::r,0,i+1=>by simp [bQ]
 |v::r,j+1,0=>by simp [bQ]
 |v::r,j+1,i+1=>by
  simp only[bQ,List.getElem?_cons_succ,PH r j i]
  simp
theorem cM.bQ{X:ax}{pl:Nat->List Nat->Place}{l:List SV}{v:Value}(hr:cM X pl l v)(j:Nat):cM X pl (bQ l j) v:=by
 match l,hr with
 | [s],hr=>
   cases j with
   |zero=>exact hr.shut
   |succ j=>exact hr
 | [],hr=>exact hr
 |x::y::r,⟨vs,h1,h2,h3⟩=>
  have hlen:∃x' y' r',Ref.bQ (x::y::r) j=x'::y'::r':=by
   match j with
   |0=>exact⟨_,_,_,rfl⟩
   |1=>exact⟨_,_,_,rfl⟩
   |j+2=>exact⟨_,_,_,rfl⟩
  obtain⟨x',y',r',he⟩:=hlen
  have hl:=z7s (x::y::r) j
  have hg:=PH (x::y::r) j
  rw[he] at hl hg⊢
  refine⟨vs,h1,by rw[hl];exact h2,fun i s u hs hu=> ?_⟩
  rw[hg] at hs
  split at hs
  ·obtain⟨s0,fb,rfl⟩:=Option.map_eq_some_iff.1 hs
   exact(h3 i s0 u fb hu).shut
  ·exact h3 i s u hs hu
theorem adM{l:List SV}{j:Nat}{id:Nat}{t:Ty}{p:List Nat}(h:SV.ptr id t p∈bQ l j):SV.ptr id t p∈l:=by
 obtain⟨i,hi⟩:=List.mem_iff_getElem?.1 h
 rw[PH] at hi
 split at hi
 ·obtain⟨s0,fb,he⟩:=Option.map_eq_some_iff.1 hi
  rw[Ta he] at fb
  exact List.mem_of_getElem? fb
 ·exact List.mem_of_getElem? hi
theorem qC{s:State}{i:Nat}(h:i<s.sl.length):s.sl[i]? =some (s.slot i):=by
 simp [State.slot,List.getD_eq_getElem?_getD,List.getElem?_eq_getElem h]
theorem adL{l:List SV}{j:Nat}{id:Nat}{a b:Ty}{i:Nat}(h:SV.bz id a b i∈bQ l j):SV.bz id a b i∈l/\(l=[.bz id a b i]->bQ l j=[.bz id a b i]):=by
 obtain⟨k,hk⟩:=List.mem_iff_getElem?.1 h
 have Av:=hk
 rw[PH] at hk
 split at hk
 ·obtain⟨s0,fb,he⟩:=Option.map_eq_some_iff.1 hk
  cases s0<;>simp [SV.shut] at he
 ·refine⟨List.mem_of_getElem? hk,fun e=> ?_⟩
  subst e
  cases j with
  |zero=>simp [bQ,SV.shut] at h
  |succ j=>rfl
def State.cf(s:State)(i j:Nat):State:={s with sl:=s.sl.set i (bQ (s.slot i) j)}
theorem ER{s:State}{i j:Nat}{r:List (Nat×Nat)}:s.close ((i,j)::r)=(s.cf i j).close r:=rfl
theorem zhv{r:List (Nat×Nat)}:∀(l:List (Nat×Nat)) (s:State),s.close (l++r)=(s.close l).close r
 | [],s=>rfl
 |(i,j)::l,s=>by
  rw[List.cons_append,ER,ER]
  exact zhv l _
theorem Rel.cf{X:ax}{s:State}{a:Act}(hr:Rel X s a)(i j:Nat):Rel X (s.cf i j) a:=by
 refine⟨by simpa [State.cf] using hr.size,by simpa [State.cf] using hr.gM,fun k l v hl hv=> ?_,hr.boxes,fun k l id t p hl hm=> ?_,hr.defers,hr.bz.less (fun k l id a b n hl hm=> ?_) (fun id a b x own _ hb ho=>⟨x,own,hb,ho⟩)⟩
 ·simp only[State.cf,List.getElem?_set] at hl
  split at hl
  ·rename_i e
   subst e
   split at hl
   ·rename_i ar
    cases hl
    exact(hr.bS i _ v (qC ar) hv).bQ j
   ·cases hl
  ·exact hr.bS k l v hl hv
 ·simp only[State.cf,List.getElem?_set] at hl
  split at hl
  ·rename_i e
   subst e
   split at hl
   ·rename_i ar
    cases hl
    exact hr.live i _ id t p (qC ar) (adM hm)
   ·cases hl
  ·exact hr.live k l id t p hl hm
 ·simp only[State.cf,List.getElem?_set] at hl
  split at hl
  ·rename_i e
   subst e
   split at hl
   ·rename_i ar
    cases hl
    obtain⟨h1,h2⟩:=adL hm
    exact⟨_,qC ar,h1,h2⟩
   ·cases hl
  ·exact⟨l,hl,hm,fun h=>h⟩
theorem Rel.close{X:ax}{a:Act}:∀(c:List (Nat×Nat)) {s:State},Rel X s a->Rel X (s.close c) a
 | [],s,hr=>hr
 |(i,j)::r,s,hr=>Rel.close r (hr.cf i j)
theorem x5:∀{c:List (Nat×Nat)} {s:State},(s.close c).bs=s.bs
 | [],s=>rfl
 |(i,j)::r,s=>(x5 (c:=r) (s:=s.cf i j))
theorem PM:∀{c:List (Nat×Nat)} {s:State},(s.close c).sl.length=s.sl.length
 | [],s=>rfl
 |(i,j)::r,s=>by rw[ER,PM (c:=r)];simp [State.cf]
theorem cV.rE{s:State}{i j:Nat}{pl:Place}(h:cV (s.cf i j) pl):cV s pl/\∀p,pl≠ .c i j p:=by
 cases pl with
 |r j p=>exact h.elim
 |b id p=>exact⟨h,fun p=>by simp⟩
 |c i' j' p=>
  obtain⟨l,t,x,own,hl,hx,hp⟩:=h
  simp only[State.cf,List.getElem?_set] at hl
  split at hl
  ·rename_i e
   subst e
   split at hl
   ·rename_i ar
    cases hl
    rw[PH] at hx
    split at hx
    ·obtain⟨s0,_,he⟩:=Option.map_eq_some_iff.1 hx
     cases s0<;>simp [SV.shut] at he
     obtain⟨rfl,_,rfl⟩:=he
     cases hp
    ·rename_i bM
     exact⟨⟨_,t,x,own,qC ar,hx,hp⟩,fun q e=>by cases e;exact bM rfl⟩
   ·cases hl
  ·rename_i bM
   exact⟨⟨l,t,x,own,hl,hx,hp⟩,fun q e=>by cases e;exact bM rfl⟩
theorem cV.kr{pl:Place}:∀{c:List (Nat×Nat)} {s:State},cV (s.close c) pl->cV s pl/\∀i j,(i,j)∈c->∀p,pl≠ .c i j p
 | [],s,h=>⟨h,fun i j hm=>by cases hm⟩
 |(i,j)::r,s,h=>by
  obtain⟨h1,h2⟩:=cV.kr (c:=r) (s:=s.cf i j) h
  obtain⟨h3,h4⟩:=cV.rE h1
  refine⟨h3,fun i' j' hm p=> ?_⟩
  rcases List.mem_cons.1 hm with e|hm
  ·cases e;exact h4 p
  ·exact h2 i' j' hm p
theorem cV.close{s:State}{i j:Nat}{p:List Nat}:¬cV (s.close [(i,j)]) (.c i j p):=fun h=>(cV.kr h).2 i j (by simp) p rfl
def ax.turn(X:ax)(i j:Nat)(q:List Nat->Place):ax:=
 {X with ow:=fun g=>match X.ow g with
  | .row (.c i' j' p) n=>if i'=i/\j'=j then .row (q p) n else .row (.c i' j' p) n
  |w=>w}
theorem Mv{s:State}{X:ax}{i j:Nat}{q:List Nat->Place}(h:∀p,¬cV s (.c i j p)):dX s X (X.turn i j q):=by
 refine⟨rfl,rfl,fun g=> ?_⟩
 simp only[ax.turn]
 cases hg:X.ow g with
 |row pl n=>
  cases pl with
  |c i' j' p=>
   by_cases e:i'=i/\j'=j
   ·obtain⟨rfl,rfl⟩:=e
    exact .inr ⟨_,n,q p,rfl,h p,by simp⟩
   ·exact .inl (by simp [e])
  |_=>exact .inl rfl
 |_=>exact .inl rfl
theorem bq.mo{X:ax}{i j:Nat}{q:List Nat->Place}{p:List Nat}{e:TypeId}{k n:Nat}{v:Value}(h:bq X (.c i j p) e k n v):bq (X.turn i j q) (q p) e k n v:=by
 rcases h with h|⟨g,cap,cur,h1,h2,h3,h4,h5,h6⟩
 ·exact .inl h
 ·exact .inr ⟨g,cap,cur,h1,h2,h3,h4,h5,by simp [ax.turn,h6]⟩
theorem bm.mo{X:ax}{i j:Nat}{q:List Nat->Place}{t:Ty}{x:El t}{cs:List Value}{own:List (List Nat)}(h:bm X (.c i j) t x cs own):bm (X.turn i j q) q t x cs own:=fun p hp=>by
 obtain⟨e,t',xs,v,g0,g1,g2,g3⟩:=h p hp
 exact⟨e,t',xs,v,g0,g1,g2,g3.mo⟩
def lT(X Y:ax):Prop:=Y.w=X.w/\∀g pl n,X.ow g= .row pl n->(∀i j p,pl≠ .c i j p)->Y.ow g= .row pl n
theorem ahj{X:ax}{i j:Nat}{q:List Nat->Place}:lT X (X.turn i j q):=⟨rfl,fun g pl n h hp=>by
 simp only[ax.turn,h]
 cases pl with
 |c i' j' p=>exact absurd rfl (hp i' j' p)
 |_=>rfl⟩
theorem lT.refl(X:ax):lT X X:=⟨rfl,fun _ _ _ h _=>h⟩
theorem bm.stay{X Y:ax}(h:lT X Y){pl:List Nat->Place}(hp:∀r i j p,pl r≠ .c i j p){t:Ty}{x:El t}{cs:List Value}{own:List (List Nat)}(ho:bm X pl t x cs own):bm Y pl t x cs own:=fun p hm=>by
 obtain⟨e,t',xs,v,g0,g1,g2,g3⟩:=ho p hm
 refine⟨e,t',xs,v,g0,g1,g2,?_⟩
 rcases g3 with h0|⟨g,cap,cur,h1,h2,h3,h4,h5,h6⟩
 ·exact .inl h0
 ·exact .inr ⟨g,cap,cur,h1,by rw[h.1];exact h2,h3,h4,h5,h.2 g _ _ h6 (hp p)⟩
theorem Rel.take{X:ax}{s:State}{a:Act}(hr:Rel X s a){i j:Nat}{t:Ty}{x:El t}{w:List (List Nat)}{v:Value}(h:aA X (.c i j) (.ak t x w) v)(q:List Nat->Place):
 ∃Y,Y.w=X.w/\Ext X Y/\Rel Y (s.close [(i,j)]) a/\aA Y q (.ak t x w) v/\Y.β=X.β/\dX (s.close [(i,j)]) X Y/\lT X Y:=by
 obtain⟨cs,h1,h2,h3⟩:=h
 have hT:dX (s.close [(i,j)]) X (X.turn i j q):=Mv fun p=>cV.close
 exact⟨X.turn i j q,rfl,hT.ext,(hr.close _).mod hT.mod,⟨cs,h1.aj (fun _ _=>hT.az.1),h2,h3.mo⟩,rfl,hT,ahj⟩
def ax.dT(X:ax)(i d:Nat):ax:=
 {X with ow:=fun g=>match X.ow g with
  | .row (.c i' j' p) n=>if i'=i then .row (.c d j' p) n else .row (.c i' j' p) n
  |w=>w}
theorem z141(t:Nat):∀(n j:Nat),j<n->(t,j)∈kz t n
 |0,j,h=>absurd h (Nat.not_lt_zero j)
 |n+1,j,h=>by
  rcases Nat.lt_or_ge j n with h1|h1
  ·exact List.mem_cons_of_mem _ (z141 t n j h1)
  ·have:j=n:=by omega
   subst this
   simp [kz]
theorem cV.closeAll{s:State}{t j:Nat}{p:List Nat}:¬cV (s.close (kz t (s.slot t).length)) (.c t j p):=fun h=>by
 obtain⟨h1,h2⟩:=cV.kr h
 obtain⟨l,ty,x,own,g1,g2,g3⟩:=h1
 have hl:s.slot t=l:=by simp [State.slot,g1]
 have hj:j<l.length:=(List.getElem?_eq_some_iff.1 g2).1
 exact h2 t j (z141 t _ j (by rw[hl];exact hj)) p rfl
theorem acj{s:State}{X:ax}{i d:Nat}(h:∀j p,¬cV s (.c i j p)):dX s X (X.dT i d):=by
 refine⟨rfl,rfl,fun g=> ?_⟩
 simp only[ax.dT]
 cases hg:X.ow g with
 |row pl n=>
  cases pl with
  |c i' j' p=>
   by_cases e:i'=i
   ·subst e
    exact .inr ⟨_,n,.c d j' p,rfl,h j' p,by simp⟩
   ·exact .inl (by simp [e])
  |_=>exact .inl rfl
 |_=>exact .inl rfl
theorem bq.ja{X:ax}{i d j:Nat}{p:List Nat}{e:TypeId}{k n:Nat}{v:Value}(h:bq X (.c i j p) e k n v):bq (X.dT i d) (.c d j p) e k n v:=by
 rcases h with h|⟨g,cap,cur,h1,h2,h3,h4,h5,h6⟩
 ·exact .inl h
 ·exact .inr ⟨g,cap,cur,h1,h2,h3,h4,h5,by simp [ax.dT,h6]⟩
theorem aA.ja{s:State}{X:ax}{i d j:Nat}{sv:SV}{v:Value}(hT:dX s X (X.dT i d))(h:aA X (.c i j) sv v):aA (X.dT i d) (.c d j) sv v:=by
 cases sv with
 |ak t x own=>
  obtain⟨cs,h1,h2,h3⟩:=h
  refine⟨cs,h1.aj (fun _ _=>hT.az.1),h2,fun p hp=> ?_⟩
  obtain⟨e,t',xs,v,g0,g1,g2,g3⟩:=h3 p hp
  exact⟨e,t',xs,v,g0,g1,g2,g3.ja⟩
 |view t x=>
  obtain⟨ad,cs,h1,h2,h3,h4⟩:=h
  exact⟨ad,cs,h1,h2,h3.aj (fun _ _=>hT.az.1),fun i u hi=>hT.az.1 (h4 i u hi)⟩
 |cap f t x u y=>exact rN (fun _ _=>hT.az.1) h
 |bz id a b k=>
  obtain⟨r,h1,h2,h3⟩:=h
  exact⟨r,h1,by simp [ax.dT,h2],h3⟩
 |_=>exact h
theorem Rel.xP{X:ax}{s:State}{a:Act}(hr:Rel X s a){t:Nat}{v:Value}(h:cM X (.c t) (s.slot t) v)(d:Nat):
 ∃Y,Y.w=X.w/\Ext X Y/\Rel Y (s.close (kz t (s.slot t).length)) a/\cM Y (.c d) (s.slot t) v:=by
 have hT:dX (s.close (kz t (s.slot t).length)) X (X.dT t d):=acj fun j p=>cV.closeAll
 exact⟨X.dT t d,rfl,hT.ext,(hr.close _).mod hT.mod,h.iT fun j sv u hj hu=>hu.ja hT⟩
def zp:Ty->List Value
 | .bool=>[.bool false]
 | .int k=>[.int k 0]
 | .str=>[.string ⟨#[]⟩]
 | .sl _ _=>[.slice none 0 0]
 | .arr n t=>(List.replicate n (zp t)).flatten
 | .unit=>[]
 | .pair a b=>zp a++zp b
 | .aG _ _ _=>[]
def ju(E:Env):List Field->Ty->Nat->Prop
 | [],.unit,_=>True
 |f::r,.pair a b,off=>f.offset=off/\E.ty f.type=some a/\f.name≠ "_" /\ju E r b (off+a.cells)
 |_,_,_=>False
def O7(P:Program)(E:Env)(T:TypeId):Ty->Prop
 | .bool=>P.underlying T=some .bool
 | .int k=>P.underlying T=some (.int k)
 | .str=>P.underlying T=some .string
 | .sl e t=>P.underlying T=some (.slice e)/\E.ty e=some t
 | .arr n t=>∃e,P.underlying T=some (.array n e)/\E.ty e=some t/\P.eqGuardType P.depth T=false
 | .aG _ _ _=>False
 |t=>∃fs,P.underlying T=some (.struct fs)/\ju E fs.toList t 0/\P.stoodInHeld T=false/\P.eqGuardType P.depth T=false
structure lV(P:Program)(E:Env)(T:TypeId)(t:Ty):Prop where
 info:∃i,P.info? T=some i/\i.size=t.cells/\i.bytes=E.bytes T/\i.zero=some (dR t (zp t))
 dt:O7 P E T t
structure ap(P:Program)(E:Env):Prop where
 ty:∀T t,E.ty T=some t->lV P E T t
 pt:∀T,E.pt T=true->∃e,P.underlying T=some (.pointer e)
 p1:∀T,E.pt T=true->∃i,P.info? T=some i/\i.size=1
 mp:∀T k e,E.mp T=some (k,e)->P.underlying T=some (.map k e)
 bl:∀T e,E.bl T=some e->∃i,P.info? T=some i/\i.zero=some (.agg #[.pointer none,.slice none 0 0])
 gr:∀T a b,E.gr T=some (a,b)->∃fs,P.underlying T=some (.struct fs)/\∀j,j<=2->∃f i,fs[j]? =some f/\f.offset=m4 a [j]/\P.info? f.type=some i/\i.size≠0
 gz:∀T a b,E.gr T=some (a,b)->∃i,P.info? T=some i/\i.zero=some (.agg (zp a++ [Value.pointer none,Value.pointer none,Value.int .i64 0]).toArray)
 g3:∀T a b,E.gr T=some (a,b)->∃fs f,P.underlying T=some (.struct fs)/\fs[0]? =some f/\f.offset=0/\E.ty f.type=some a/\∀f∈fs.toList,∃i,P.info? f.type=some i
 ga:∀T,E.ga T=true->∃e i,P.underlying T=some (.array 2 e)/\P.info? e=some i/\i.size=1
theorem ap.iW{P:Program}{E:Env}(hE:ap P E){T:TypeId}{t:Ty}(h:E.ty T=some t):t.bI=false:=by
 have:=(hE.ty T t h).dt
 cases t<;>first|rfl|exact this.elim
theorem uZ:∀t:Ty,(zp t).length=t.cells
 | .bool=>rfl
 | .int _=>rfl
 | .str=>rfl
 | .sl _ _=>rfl
 | .unit=>rfl
 | .arr n t=>by simp [zp,Ty.cells,uZ t]
 | .pair a b=>by simp [zp,Ty.cells,uZ a,uZ b]
 | .aG _ _ _=>rfl
theorem z9j{l:List Value}{k:Nat}(hl:l.length=k):∀(n j:Nat),j<n->(((List.replicate n l).flatten).drop (j*k)).take k=l
 |0,j,h=>by omega
 |n+1,0,_=>by
  simp only[List.replicate_succ,List.flatten_cons,Nat.zero_mul,List.drop_zero]
  rw[<-hl];exact List.take_left
 |n+1,j+1,h=>by
  simp only[List.replicate_succ,List.flatten_cons]
  rw[Nat.add_mul,Nat.one_mul,Nat.add_comm,<-List.drop_drop]
  rw[show List.drop k (l++(List.replicate n l).flatten)=(List.replicate n l).flatten by rw[<-hl];exact List.drop_left]
  exact z9j hl n j (by omega)
theorem sr(X:ax):∀t:Ty,bh X t (El.bV t) (zp t)
 | .bool=>rfl
 | .int _=>rfl
 | .str=>rfl
 | .unit=>rfl
 | .sl _ t=>⟨none,0,rfl,Nat.le_refl _,fun j x h=>by simp [El.bV] at h⟩
 | .arr n t=>by
   refine⟨by simp [El.bV],by simp [zp,uZ],fun j x h=> ?_⟩
   have hj:j<n:=by
    have:=(List.getElem?_eq_some_iff.1 h).1
    simpa [El.bV] using this
   have hx:x=El.bV t:=by
    simp only[El.bV,List.getElem?_replicate] at h
    rw[if_pos hj] at h
    exact(Option.some.inj h).symm
   subst hx
   have:=z9j (uZ t) n j hj
   simp only[zp]
   rw[this]
   exact sr X t
 | .pair a b=>⟨zp a,zp b,rfl,sr X a,sr X b⟩
 | .aG _ _ _=>rfl
theorem QQ{t:Ty}{c:Value}(h:t.agg=false):dR t [c]=c:=by simp [dR,h]
theorem jJ{t:Ty}{cs:List Value}(h:t.agg=true):dR t cs= .agg cs.toArray:=by simp [dR,h]
theorem vw{t:Ty}{X:ax}{x:El t}{cs:List Value}(h:bh X t x cs):(dR t cs).cells=cs.toArray:=by
 cases ht:t.agg with
 |true=>rw[jJ ht];rfl
 |false=>
  have hl:=h.len
  have h1:=h.one
  have hc:t.cells=1:=by cases t<;>simp_all [Ty.agg,Ty.cells]
  rw[hc] at hl
  match cs,hl with
  | [c],_=>
    rw[QQ ht]
    have:=h1 c (by simp)
    cases c<;>simp_all [Value.oneCell',Value.cells]
theorem zy{R:Type}{s:SV}{u:Ty}{K:El u->Option R}{z:R}(h:s.el u K=some z):
 ∃y,K y=some z/\∀(X:ax) pl v,aA X pl s v->∃cs,bh X u y cs/\v=dR u cs:=by
 cases s with
 |ak t x own=>
  simp only[SV.el] at h
  split at h
  ·rename_i he
   have e:=Ty.aJ he
   subst e
   exact⟨x,h,fun X pl v hv=>by obtain⟨cs,h1,h2,_⟩:=hv;exact⟨cs,h1,h2⟩⟩
  ·cases h
 |cF=>
  cases u<;>simp only[SV.el] at h<;>first|cases h|skip
  rename_i e t
  refine⟨[],h,fun X pl v hv=>⟨[.slice none 0 0],⟨none,0,rfl,Nat.le_refl _,fun j x hj=>by simp at hj⟩,hv⟩⟩
 |_=>simp [SV.el] at h
theorem lM{X:ax}{k:IntKind}{n:Int}{cs:List Value}(h:bh X (.int k) n cs):dR (.int k) cs= .int k n:=by cases h;rfl
theorem vC{X:ax}{b:Bool}{cs:List Value}(h:bh X .bool b cs):dR .bool cs= .bool b:=by cases h;rfl
theorem z28{X:ax}{s:ByteArray}{cs:List Value}(h:bh X .str s cs):dR .str cs= .string s:=by cases h;rfl
theorem mE{X:ax}{pl:List Nat->Place}{t:Ty}{x:El t}{cs:List Value}:bm X pl t x cs []:=fun p hp=>by cases hp
theorem js{X:ax}{pl:List Nat->Place}{k:IntKind}{n:Int}:aA X pl (.ak (.int k) n []) (.int k n):=⟨[.int k n],rfl,rfl,mE⟩
theorem nC{X:ax}{pl:List Nat->Place}{b:Bool}:aA X pl (.ak .bool b []) (.bool b):=⟨[.bool b],rfl,rfl,mE⟩
theorem Bd{X:ax}{pl:List Nat->Place}{s:ByteArray}:aA X pl (.ak .str s []) (.string s):=⟨[.string s],rfl,rfl,mE⟩
theorem A4{X:ax}{pl:List Nat->Place}{k:IntKind}{n:Int}{o:List (List Nat)}{v:Value}(h:aA X pl (.ak (.int k) n o) v):v= .int k n:=by
 obtain⟨cs,h1,h2,_⟩:=h
 rw[h2,lM h1]
theorem Pv{X:ax}{pl:List Nat->Place}{b:Bool}{o:List (List Nat)}{v:Value}(h:aA X pl (.ak .bool b o) v):v= .bool b:=by
 obtain⟨cs,h1,h2,_⟩:=h
 rw[h2,vC h1]
theorem zin{X:ax}{pl:List Nat->Place}{s:ByteArray}{o:List (List Nat)}{v:Value}(h:aA X pl (.ak .str s o) v):v= .string s:=by
 obtain⟨cs,h1,h2,_⟩:=h
 rw[h2,z28 h1]
def xJ:Operand->List Nat->Place
 | .tmp t=> .c t 0
 |_=> .r 0
theorem acs(X:ax)(pl:List Nat->Place)(v:Value):aA X pl (Bi v) v:=by
 unfold Bi
 split
 ·exact nC
 ·exact js
 ·exact Bd
 ·rfl
 ·rfl
 ·trivial
theorem Rel.slot{X:ax}{s:State}{a:Act}(hr:Rel X s a)(t:Nat):cM X (.c t) (s.slot t) (a.tmps.getD t Go.undef):=by
 by_cases h:t<s.sl.length
 ·refine hr.bS t _ _ (qC h) ?_
  have:=hr.size
  simp [Array.getElem?_eq_getElem (show t<a.tmps.size by omega)]
 ·have:s.slot t=[.undef]:=by simp [State.slot,List.getElem?_eq_none (show s.sl.length<=t by omega)]
  rw[this]
  trivial
theorem Rel.aH{X:ax}{s:State}{a:Act}(hr:Rel X s a)(x:Operand):aA X (xJ x) (s.aH x) (a.eval x):=by
 cases x with
 |tmp t=>
  have h:=hr.slot t
  unfold State.aH State.xG
  simp only[xJ,Act.eval]
  match hl:s.slot t with
  | []=>trivial
  | [sv]=>rw[hl] at h;exact h
  |_::_::_=>trivial
 |const v=>exact acs X _ v
 |_=>trivial
theorem su{X:ax}{s:State}{a:Act}(hr:Rel X s a){x:Operand}{id:Nat}{t:Ty}{p:List Nat}(h:s.aH x= .ptr id t p):∃B,s.bs[id]? =some (some B):=by
 cases x with
 |tmp i=>
  unfold State.aH State.xG at h
  simp only at h
  by_cases hi:i<s.sl.length
  ·refine hr.live i _ id t p (qC hi) ?_
   match hl:s.slot i,h with
   | [sv],h=>have:sv= .ptr id t p:=h;simp [this]
   | [],h=>simp [one] at h
   |_::_::_,h=>simp [one] at h
  ·have:s.slot i=[.undef]:=by simp [State.slot,List.getElem?_eq_none (Nat.le_of_not_lt hi)]
   rw[this] at h
   simp [one] at h
 |const v=>unfold State.aH State.xG Bi at h;simp only[one] at h;split at h<;>simp at h
 |_=>simp [State.aH,State.xG,one] at h
theorem Rel.fin{Y:ax}{s:State}{a:Act}(hr:Rel Y s a){dst:Option Nat}{l:List SV}{v:Value}(h:cM Y (.c (dst.getD 0)) l v)(hl:∀id t p,SV.ptr id t p∈l->∃B,s.bs[id]? =some (some B))(hn:l.any SV.bO=false:=by rfl):Rel Y (s.av dst l) (a.put dst v):=
 hr.put (fun d' e=>by subst e;exact h) hl hn
def aI(P:Program)(X:ax)(s:State)(a:Act)(o:Oper)(u:Out):Prop:=
 ∃Y v,((execOp a.eval o).run P X.w= .ok (.value v) Y.w\/((execOp a.eval o).run P X.w= .ok .skip Y.w/\v=Go.undef))/\Ext X Y/\Rel Y (s.apply o.dst u) (a.put o.dst v)
theorem aI.plain{P:Program}{X:ax}{s:State}{a:Act}{o:Oper}(hr:Rel X s a){sv:SV}{v:Value}
 (h:(execOp a.eval o).run P X.w= .ok (.value v) X.w) (hv:aA X (.c (o.dst.getD 0) 0) sv v) (hl:∀id t p,sv= .ptr id t p->∃B,s.bs[id]? =some (some B)) (hn:sv.bO=false:=by rfl):aI P X s a o {v:=[sv]}:=
 ⟨X,v,.inl h,Ext.refl X,hr.fin hv (fun id t p hm=>hl id t p (by have h':=hm;simp at h';exact h'.symm)) (by simp [hn])⟩
theorem aI.AP{P:Program}{X:ax}{s:State}{a:Act}{o:Oper}(hr:Rel X s a){i j:Nat}{t:Ty}{x:El t}{w:List (List Nat)}{v:Value}
 (h:(execOp a.eval o).run P X.w= .ok (.value v) X.w) (hv:aA X (.c i j) (.ak t x w) v):aI P X s a o {v:=[.ak t x w],cl:=[(i,j)]}:=by
 obtain⟨Y,h1,h2,h3,h4,_,_,_⟩:=hr.take hv (.c (o.dst.getD 0) 0)
 refine⟨Y,v,.inl (by rw[h1];exact h),h2,?_⟩
 exact h3.fin h4 (fun id t p hm=>by simp at hm)
variable {P:Program} {E:Env} {X:ax} {s:State} {a:Act} {o:Oper} {u:Out}
def Plain:SV->Prop
 | .ak _ _ (_::_)=>False
 | .bz _ _ _ _=>False
 |_=>True
theorem Plain.oI{sv:SV}(h:Plain sv):sv.bO=false:=by cases sv<;>first|rfl|exact h.elim
theorem zr3(sv:SV):sv.shut.bO=false:=by cases sv<;>rfl
theorem zir(l:List SV):(l.map SV.shut).any SV.bO=false:=List.any_eq_false.2 fun v hv=>by
 obtain⟨w,_,rfl⟩:=List.mem_map.1 hv
 simp [zr3]
theorem amS{sv:SV}{v:Value}(h:∀X pl,aA X pl sv v):sv.bO=false:=by
 cases sv with
 |bz id a b j=>
  obtain⟨r,h1,_⟩:=h ⟨default,fun _=> .all,fun _=>none⟩ (fun _=> .r 0 [])
  cases h1
 |_=>rfl
theorem zj0(hr:Rel X s a){t:Nat}(hb:Nat.beq (s.slot t).length 1=false):(s.slot t).any SV.bO=false:=List.any_eq_false.2 fun v hv=>by
 cases v with
 |bz id c b j=>
  exfalso
  by_cases ar:t<s.sl.length
  ·obtain⟨e,_⟩:=hr.bz t _ id c b j (qC ar) hv
   rw[e] at hb;simp at hb
  ·have:s.slot t=[.undef]:=by simp [State.slot,List.getElem?_eq_none (Nat.le_of_not_lt ar)]
   rw[this] at hv
   simp at hv
 |_=>simp [SV.bO]
theorem aA.place{pl gu:List Nat->Place}{sv:SV}{v:Value}(h:aA X pl sv v)(hp:Plain sv):aA X gu sv v:=by
 cases sv with
 |ak t x w=>
  cases w with
  |nil=>
   obtain⟨cs,h1,h2,_⟩:=h
   exact⟨cs,h1,h2,mE⟩
  |cons p w=>exact hp.elim
 |_=>exact h
theorem aA.bare{pl gu:List Nat->Place}{t:Ty}{x:El t}{w:List (List Nat)}{v:Value}(h:aA X pl (.ak t x w) v):aA X gu (.ak t x []) v:=by
 obtain⟨cs,h1,h2,_⟩:=h
 exact⟨cs,h1,h2,mE⟩
theorem zhy{v:Value}{t:Ty}{y:El t}{w:List (List Nat)}(h:Bi v= .ak t y w):w=[]:=by
 unfold Bi at h
 split at h<;>simp at h
 ·obtain⟨rfl,_,rfl⟩:=h;rfl
 ·obtain⟨rfl,_,rfl⟩:=h;rfl
 ·obtain⟨rfl,_,rfl⟩:=h;rfl
theorem amQ{x:Operand}{t:Ty}{y:El t}{w:List (List Nat)}(h:s.aH x= .ak t y w)(hw:w≠ []):∃i,x= .tmp i:=by
 cases x with
 |tmp i=>exact⟨i,rfl⟩
 |const v=>exact absurd (zhy h) hw
 |_=>simp [State.aH,State.xG,one] at h
theorem Mg(hr:Rel X s a){x:Operand}(h:(execOp a.eval o).run P X.w= .ok (.value (a.eval x)) X.w)(hp:Plain (s.aH x)):aI P X s a o {v:=[s.aH x]}:=
 aI.plain hr h ((hr.aH x).place hp) (fun id t p e=>su hr e) hp.oI
theorem Lu(hr:Rel X s a){x:Operand}{t:Ty}{y:El t}{w:List (List Nat)}(aX:(execOp a.eval o).run P X.w= .ok (.value (a.eval x)) X.w)(e:s.aH x= .ak t y w):aI P X s a o {v:=[.ak t y w],cl:=x9 w x}:=by
 have cC:=hr.aH x
 rw[e] at cC
 cases hw:w with
 |nil=>
  subst hw
  exact aI.plain hr aX cC.bare (fun _ _ _ h=>by cases h)
 |cons p w'=>
 rw[<-hw]
 have fk:x9 w x=src x:=by rw[hw];rfl
 rw[fk]
 clear hw
 cases x with
 |tmp i=>exact aI.AP hr aX cC
 |const v=>
  have hw:=zhy (show Bi v= .ak t y w from e)
  subst hw
  exact aI.plain hr aX cC.bare (fun _ _ _ h=>by cases h)
 |_=>simp [State.aH,State.xG,one] at e
theorem Nn(hr:Rel X s a){T:TypeId}{v:Value}{pl:List Nat->Place}(aX:(execOp a.eval o).run P X.w= .ok (.value v) X.w)(hv:aA X pl .cF v)(h:oH E T some=some u):aI P X s a o u:=by
 unfold oH at h
 split at h
 ·cases h
  refine aI.plain hr aX ⟨[.slice none 0 0],⟨none,0,rfl,Nat.le_refl _,fun j x hj=>by simp at hj⟩,hv,fun p hp=> ?_⟩ (fun _ _ _ e=>by cases e)
  rename_i e t _
  have hp:p=[]:=by simpa using hp
  subst hp
  exact⟨e,t,[],_,by simp [Ty.eI],rfl,rfl,.inl ⟨rfl,rfl⟩⟩
 ·cases h
  exact aI.plain hr aX hv (fun _ _ _ e=>by cases e)
theorem aA.fE{pl gu:List Nat->Place}{sv:SV}{v:Value}(hr:aA X pl sv v):aA X gu sv.shut v:=by
 cases sv with
 |ak t x own=>
  obtain⟨cs,h1,h2,_⟩:=hr
  exact⟨cs,h1,h2,mE⟩
 |bz id a b j=>trivial
 |_=>exact hr
theorem cM.fE{pl gu:Nat->List Nat->Place}{l:List SV}{v:Value}(hr:cM X pl l v):cM X gu (l.map SV.shut) v:=by
 match l,hr with
 | [s],hr=>exact aA.fE hr
 | [],⟨vs,h1,h2,h3⟩=>exact⟨vs,h1,h2,fun j s u hs=>by simp at hs⟩
 |x::y::r,⟨vs,h1,h2,h3⟩=>
  refine⟨vs,h1,by simpa using h2,fun j s u hs hu=> ?_⟩
  have hs:((x::y::r).map SV.shut)[j]? =some s:=hs
  rw[List.getElem?_map] at hs
  obtain⟨s0,fb,rfl⟩:=Option.map_eq_some_iff.1 hs
  exact aA.fE (h3 j s0 u fb hu)
theorem agh(hr:Rel X s a){ops:List Oper}{x:Operand}(ho:o.op= .move x){C:FuncId->bW Out}(h:act E C ops o s some=some u):aI P X s a o u:=by
 have aX:(execOp a.eval o).run P X.w= .ok (.value (a.eval x)) X.w:=by simp [execOp,ho]
 unfold act at h
 simp only[ho] at h
 have cC:=hr.aH x
 cases ht:nx s x with
 |some tl=>
  obtain⟨t,l⟩:=tl
  rw[ht] at h
  cases x with
  |tmp i=>
   change(bif Nat.beq (s.slot i).length 1 then none else some (i,s.slot i))=some (t,l) at ht
   cases hb:Nat.beq (s.slot i).length 1 with
   |true=>rw[hb] at ht;cases ht
   |false=>
    rw[hb] at ht
    cases ht
    have J8:∀id ty p,SV.ptr id ty p∈s.slot t->∃B,s.bs[id]? =some (some B):=fun id ty p hm=>by
     by_cases ar:t<s.sl.length
     ·exact hr.live t _ id _ p (qC ar) hm
     ·have:s.slot t=[.undef]:=by simp [State.slot,List.getElem?_eq_none (Nat.le_of_not_lt ar)]
      rw[this] at hm
      simp at hm
    cases Gf:Go.Ref.fE E o.dst with
    |true=>
     rw[Gf] at h
     cases h
     refine⟨X,_,.inl aX,Ext.refl X,?_⟩
     refine Rel.fin hr (cM.fE (hr.slot t)) (fun id ty p hm=> ?_) (zir _)
     obtain⟨s0,fb,he⟩:=List.mem_map.1 hm
     rw[Ta he] at fb
     exact J8 id ty p fb
    |false=>
    rw[Gf] at h
    cases h
    cases bU:(s.slot t).all fun v=>v.own.isEmpty with
    |true=>
     refine⟨X,_,.inl aX,Ext.refl X,?_⟩
     refine Rel.fin hr ((hr.slot t).iT fun j sv u hj hu=> ?_) (fun id ty p hm=> ?_) (zj0 hr hb)
     ·have:=List.all_eq_true.1 bU sv (List.mem_of_getElem? hj)
      refine hu.place ?_
      cases sv with
      |ak ty y w=>
       cases w with
       |nil=>trivial
       |cons p w=>simp [SV.own] at this
      |bz id a b j=>exact(Yu (zj0 hr hb) (List.mem_of_getElem? hj)).elim
      |_=>trivial
     ·by_cases ar:t<s.sl.length
      ·exact hr.live t _ id _ p (qC ar) hm
      ·have:s.slot t=[.undef]:=by simp [State.slot,List.getElem?_eq_none (Nat.le_of_not_lt ar)]
       rw[this] at hm
       simp at hm
    |false=>
    obtain⟨Y,h1,h2,h3,h4⟩:=hr.xP (hr.slot t) (o.dst.getD 0)
    refine⟨Y,_,.inl (by rw[h1];exact aX),h2,?_⟩
    refine h3.fin h4 (fun id ty p hm=> ?_) (zj0 hr hb)
    by_cases ar:t<s.sl.length
    ·obtain⟨B,hB⟩:=hr.live t _ id _ p (qC ar) hm
     exact⟨B,by rw[x5];exact hB⟩
    ·have:s.slot t=[.undef]:=by simp [State.slot,List.getElem?_eq_none (Nat.le_of_not_lt ar)]
     rw[this] at hm
     simp at hm
  |_=>cases ht
 |none=>
 rw[ht] at h
 simp only at h
 split at h
 ·rename_i t y w e
  rw[e] at cC
  cases hb:(Ys ops o.dst||takes E o.dst) with
  |true=>
   rw[hb] at h
   cases h
   exact Lu hr aX e
  |false=>
   rw[hb] at h
   cases h
   exact aI.plain hr aX cC.bare (fun _ _ _ h=>by cases h)
 ·cases h
 ·cases h
 ·rename_i e
  rw[e] at cC
  exact Nn hr aX cC h
 ·rename_i h1 h2 h3 h4
  cases h
  refine Mg hr aX ?_
  cases hx:s.aH x with
  |ak t y w=>exact absurd hx (h1 t y w)
  |bz id c b j=>first|exact absurd hx (h2 id c b j)|exact absurd hx (h3 id c b j)
  |_=>trivial
theorem acx(hr:Rel X s a){ops:List Oper}{x:Operand}(ho:o.op= .assign x){C:FuncId->bW Out}(h:act E C ops o s some=some u):aI P X s a o u:=by
 have aX:(execOp a.eval o).run P X.w= .ok (.value (a.eval x)) X.w:=by simp [execOp,ho]
 unfold act at h
 simp only[ho] at h
 have cC:=hr.aH x
 split at h
 ·rename_i t y w e
  rw[e] at cC
  cases h
  exact Lu hr aX e
 ·cases h
 ·cases h
 ·rename_i e
  rw[e] at cC
  exact Nn hr aX cC h
 ·rename_i h1 h2 h3 h4
  cases h
  refine Mg hr aX ?_
  cases hx:s.aH x with
  |ak t y w=>exact absurd hx (h1 t y w)
  |bz id c b j=>first|exact absurd hx (h2 id c b j)|exact absurd hx (h3 id c b j)
  |_=>trivial
theorem agj(hr:Rel X s a){ops:List Oper}{c x y:Operand}(ho:o.op= .pick c x y){C:FuncId->bW Out}(h:act E C ops o s some=some u):aI P X s a o u:=by
 unfold act at h
 simp only[ho] at h
 have hc:=hr.aH c
 split at h
 ·rename_i p w e
  rw[e] at hc
  have hv:=Pv hc
  have key:∀z,aI P X s a o {v:=[(s.aH z).shut]}\/(execOp a.eval o).run P X.w≠ .ok (.value (a.eval z)) X.w:=by
   intro z
   by_cases hz:(execOp a.eval o).run P X.w= .ok (.value (a.eval z)) X.w
   ·refine .inl (aI.plain hr hz (hr.aH z).shut (fun id t p e=> ?_) (zr3 _))
    exact su hr (Ta e)
   ·exact .inr hz
  cases p with
  |true=>
   cases h
   exact(key x).resolve_right (by simp [execOp,ho,hv,asBool])
  |false=>
   cases h
   exact(key y).resolve_right (by simp [execOp,ho,hv,asBool])
 ·cases h
theorem z49(op:BinOp)(T:TypeId)(x y:Operand)(k k':IntKind)(m n:Int)(w:World):(eqGuard op T x y (.int k m) (.int k' n)).run P w= .ok () w:=by
 cases op<;>simp [eqGuard]
theorem zag(op:BinOp)(T:TypeId)(x y:Operand)(m n:ByteArray)(w:World):(eqGuard op T x y (.string m) (.string n)).run P w= .ok () w:=by
 cases op<;>simp [eqGuard]
theorem zr2(op:BinOp)(T:TypeId)(x y:Operand)(m n:Bool)(w:World):(eqGuard op T x y (.bool m) (.bool n)).run P w= .ok () w:=by
 cases op<;>simp [eqGuard]
theorem zqk{op:BinOp}{T:TypeId}{k k':IntKind}{m n:Int}{l:List SV}(w:World)(h:q7 op k m k' n some=some l):
 ∃sv v,l=[sv]/\(Go.binOp op T (.int k m) (.int k' n)).run P w= .ok v w/\Plain sv/\(∀X pl,aA X pl sv v)/\∀id t p,sv≠ .ptr id t p:=by
 have done:∀{sv:SV} {v:Value},l=[sv]->(Go.binOp op T (.int k m) (.int k' n)).run P w= .ok v w->Plain sv->(∀X pl,aA X pl sv v)->(∀id t p,sv≠ .ptr id t p)->∃sv v,l=[sv]/\(Go.binOp op T (.int k m) (.int k' n)).run P w= .ok v w/\Plain sv/\(∀X pl,aA X pl sv v)/\∀id t p,sv≠ .ptr id t p:=fun h1 h2 h3 h4 h5=>⟨_,_,h1,h2,h3,h4,h5⟩
 have pi:∀{k:IntKind} {n:Int},Plain (.ak (.int k) n []):=trivial
 have pb:∀{b:Bool},Plain (.ak .bool b []):=trivial
 unfold q7 at h
 cases op
 case shl=>
  simp only at h
  cases hd:decide (n<0) with
  |true=>rw[hd] at h;cases h
  |false=>
   rw[hd] at h;cases h
   have:¬n<0:=of_decide_eq_false hd
   exact done rfl (by simp [Go.binOp,Op.shift,this]) pi (fun _ _=>js) (by simp)
 case shr=>
  simp only at h
  cases hd:decide (n<0) with
  |true=>rw[hd] at h;cases h
  |false=>
   rw[hd] at h;cases h
   have:¬n<0:=of_decide_eq_false hd
   exact done rfl (by simp [Go.binOp,Op.shift,this]) pi (fun _ _=>js) (by simp)
 all_goals
  simp only at h
  split at h
  case isFalse=>cases h
  rename_i hk
  subst hk
 case quo=>
  cases hd:decide (n=0) with
  |true=>rw[hd] at h;cases h
  |false=>
   rw[hd] at h;cases h
   have:¬n=0:=of_decide_eq_false hd
   exact done rfl (by simp [Go.binOp,Op.intDiv,this]) pi (fun _ _=>js) (by simp)
 case rem=>
  cases hd:decide (n=0) with
  |true=>rw[hd] at h;cases h
  |false=>
   rw[hd] at h;cases h
   have:¬n=0:=of_decide_eq_false hd
   exact done rfl (by simp [Go.binOp,Op.intDiv,this]) pi (fun _ _=>js) (by simp)
 case add=>cases h;exact done rfl (by simp [Go.binOp,Op.intArith]) pi (fun _ _=>js) (by simp)
 case sub=>cases h;exact done rfl (by simp [Go.binOp,Op.intArith]) pi (fun _ _=>js) (by simp)
 case mul=>cases h;exact done rfl (by simp [Go.binOp,Op.intArith]) pi (fun _ _=>js) (by simp)
 case and=>cases h;exact done rfl (by simp only[Go.binOp,ne_eq,not_true_eq_false,if_false];rfl) pi (fun _ _=>js) (by simp)
 case or=>cases h;exact done rfl (by simp only[Go.binOp,ne_eq,not_true_eq_false,if_false];rfl) pi (fun _ _=>js) (by simp)
 case xor=>cases h;exact done rfl (by simp only[Go.binOp,ne_eq,not_true_eq_false,if_false];rfl) pi (fun _ _=>js) (by simp)
 case andNot=>cases h;exact done rfl (by simp only[Go.binOp,ne_eq,not_true_eq_false,if_false];rfl) pi (fun _ _=>js) (by simp)
 case eql=>cases h;exact done rfl (by simp only[Go.binOp,ne_eq,not_true_eq_false,if_false];rfl) pb (fun _ _=>nC) (by simp)
 case neq=>cases h;exact done rfl (by simp only[Go.binOp,ne_eq,not_true_eq_false,if_false];rfl) pb (fun _ _=>nC) (by simp)
 case lss=>cases h;exact done rfl (by simp only[Go.binOp,ne_eq,not_true_eq_false,if_false];rfl) pb (fun _ _=>nC) (by simp)
 case leq=>cases h;exact done rfl (by simp only[Go.binOp,ne_eq,not_true_eq_false,if_false];rfl) pb (fun _ _=>nC) (by simp)
 case gtr=>cases h;exact done rfl (by simp only[Go.binOp,ne_eq,not_true_eq_false,if_false];rfl) pb (fun _ _=>nC) (by simp)
 case geq=>cases h;exact done rfl (by simp only[Go.binOp,ne_eq,not_true_eq_false,if_false];rfl) pb (fun _ _=>nC) (by simp)
end Go.Ref

namespace Go.Ref
open Go
variable {P:Program} {E:Env} {X:ax} {s:State} {a:Act} {o:Oper} {u:Out}
theorem Wb(x y:ByteArray):(x.toList==y.toList)=decide (x=y):=by
 rw[ByteArray.toList_eq,ByteArray.toList_eq]
 by_cases h:x=y
 ·subst h;simp
 ·have:¬x.data.toList=y.data.toList:=fun e=>h (by
   cases x;cases y
   congr
   exact Array.toList_inj.1 e)
  rw[beq_eq_false_iff_ne.2 this,decide_eq_false h]
theorem ajv{op:BinOp}{T:TypeId}{m n:ByteArray}{l:List SV}(w:World)(h:q9 op m n some=some l):
 ∃sv v,l=[sv]/\(Go.binOp op T (.string m) (.string n)).run P w= .ok v w/\Plain sv/\(∀X pl,aA X pl sv v)/\∀id t p,sv≠ .ptr id t p:=by
 have pb:∀{b:Bool},Plain (.ak .bool b []):=trivial
 unfold q9 at h
 cases op<;>simp only at h<;>first|(cases h;done)|skip
 case add=>
  cases hd:decide (m.size+n.size<=9223372036854775807) with
  |false=>rw[hd] at h;cases h
  |true=>
   rw[hd] at h;cases h
   have h1:=of_decide_eq_true hd
   have h2:¬((((m.size+n.size:Nat)):Int)>IntKind.i64.max):=by
    show¬((((m.size+n.size:Nat)):Int)>9223372036854775807)
    omega
   refine⟨_,_,rfl,?_,trivial,fun _ _=>Bd,by simp⟩
   simp only[Go.binOp,Op.stringOp]
   rw[if_neg h2]
   rfl
 all_goals
  cases h
  refine⟨_,_,rfl,?_,pb,fun _ _=>nC,by simp⟩
  simp only[Go.binOp,Op.stringOp,Wb]
  rfl
theorem LZ(hE:ap P E){T:TypeId}{t:Ty}(ht:E.ty T=some t)(w:World):(isAgg T).run P w= .ok t.agg w:=by
 have hu:=(hE.ty T t ht).dt
 cases t
 case bool=>simp [isAgg,run_underlying hu,Ty.agg]
 case int=>simp [isAgg,run_underlying hu,Ty.agg]
 case str=>simp [isAgg,run_underlying hu,Ty.agg]
 case sl=>simp [isAgg,run_underlying hu.1,Ty.agg]
 case arr=>obtain⟨e,h1,_⟩:=hu;simp [isAgg,run_underlying h1,Ty.agg]
 case unit=>obtain⟨fs,h1,_⟩:=hu;simp [isAgg,run_underlying h1,Ty.agg]
 case pair=>obtain⟨fs,h1,_⟩:=hu;simp [isAgg,run_underlying h1,Ty.agg]
 case aG=>exact hu.elim
theorem lK(hE:ap P E){T:TypeId}{t:Ty}(ht:E.ty T=some t)(w:World):(sizeOf T).run P w= .ok t.cells w:=by
 obtain⟨i,h1,h2,_⟩:=(hE.ty T t ht).info
 simp [sizeOf,typeInfo,h1,h2]
theorem E6(hE:ap P E){T:TypeId}{t:Ty}(ht:E.ty T=some t){x:El t}{cs:List Value}(hr:bh X t x cs){all:Array Value}{off:Nat}(ha:(all.toList.drop off).take t.cells=cs)(w:World):
 (part T all off).run P w= .ok (dR t cs) w:=by
 have hl:=hr.len
 unfold part
 simp only[Sem.run_bind,LZ hE ht,Result.andThen_ok]
 cases hg:t.agg with
 |true=>
  simp only[if_true,Sem.run_bind,lK hE ht,Result.andThen_ok,Sem.run_pure,jJ hg]
  congr 2
  apply Array.ext'
  rw[<-ha,Array.toList_extract,List.extract_eq_take_drop]
  simp
 |false=>
  simp only[Bool.false_eq_true,if_false]
  have hc:t.cells=1:=by cases t<;>simp_all [Ty.agg,Ty.cells]
  rw[hc] at hl ha
  match cs,hl with
  | [c],_=>
    rw[QQ hg]
    have cB:all[off]? =some c:=by
     have h1:(all.toList.drop off)[0]? =some c:=by
      have:=congrArg (fun l=>l[0]?) ha
      simpa [List.getElem?_take] using this
     simpa using h1
    simp [cB]
def Rv(d:Nat)(xs ys:Array Value)(f:Field)(_:Option Bool×Unit):Sem (ForInStep (Option Bool×Unit)):=
 if f.name≠ "_" then do
  let __do_lift<-part f.type xs f.offset
  let __do_lift_1<-part f.type ys f.offset
  let __do_lift<-Op.equalIn d f.type __do_lift __do_lift_1
  if(!__do_lift)=true then pure (ForInStep.done (some false,()))
   else pure (ForInStep.yield (none,()))
 else pure (ForInStep.yield (none,()))
theorem zv4(hE:ap P E){d:Nat}{xs ys:Array Value}(w:World)
 (ih:∀(t:Ty) (T:TypeId),E.ty T=some t->t.depth<=d->∀(x y:El t) (c1 c2:List Value) (r:Bool),bh X t x c1->bh X t y c2->dI t x y=some r->(Op.equalIn d T (dR t c1) (dR t c2)).run P w= .ok r w):
 ∀(fl:List Field) (t:Ty) (off:Nat),ju E fl t off->t.depth<=d+1->∀(x y:El t) (c1 c2:List Value) (r:Bool),bh X t x c1->bh X t y c2->(xs.toList.drop off).take t.cells=c1->(ys.toList.drop off).take t.cells=c2->dI t x y=some r->
  (forIn fl (none,()) (Rv d xs ys)).run P w= .ok (if r=true then(none,()) else(some false,())) w:=by
 intro fl
 induction fl with
 |nil=>
  intro t off hf hd x y c1 c2 r h1 h2 h3 h4 he
  cases t<;>simp only[ju] at hf<;>try exact hf.elim
  simp only[dI,Option.some.injEq] at he
  subst he
  simp [List.forIn_nil]
 |cons f fl Z5=>
  intro t off hf hd x y c1 c2 r h1 h2 h3 h4 he
  cases t<;>simp only[ju] at hf<;>try exact hf.elim
  rename_i ta tb
  obtain⟨ho,Gh,hn,bH⟩:=hf
  obtain⟨ca,cb,e1,ra,rb⟩:=h1
  obtain⟨da,db,e2,sa,sb⟩:=h2
  simp only[dI] at he
  split at he
  case h_2=>cases he
  rename_i p q hp hq
  cases he
  simp only[Ty.depth] at hd
  have la:=ra.len
  have lb:=rb.len
  have ma:=sa.len
  have mb:=sb.len
  have t1:(xs.toList.drop off).take ta.cells=ca:=by
   have:=congrArg (fun l=>l.take ta.cells) (h3.trans e1)
   simp only[List.take_take,Ty.cells] at this
   rw[Nat.min_eq_left (Nat.le_add_right _ _),<-la,List.take_left] at this
   rw[<-la];exact this
  have t2:(ys.toList.drop off).take ta.cells=da:=by
   have:=congrArg (fun l=>l.take ta.cells) (h4.trans e2)
   simp only[List.take_take,Ty.cells] at this
   rw[Nat.min_eq_left (Nat.le_add_right _ _),<-ma,List.take_left] at this
   rw[<-ma];exact this
  have u1:(xs.toList.drop (off+ta.cells)).take tb.cells=cb:=by
   have:=congrArg (fun l=>l.drop ta.cells) (h3.trans e1)
   simp only[Ty.cells] at this
   rw[List.drop_take,Nat.add_sub_cancel_left,List.drop_drop,<-la,List.drop_left] at this
   rw[<-la];exact this
  have u2:(ys.toList.drop (off+ta.cells)).take tb.cells=db:=by
   have:=congrArg (fun l=>l.drop ta.cells) (h4.trans e2)
   simp only[Ty.cells] at this
   rw[List.drop_take,Nat.add_sub_cancel_left,List.drop_drop,<-ma,List.drop_left] at this
   rw[<-ma];exact this
  have ot:=E6 hE Gh ra (all:=xs) (off:=f.offset) (by rw[ho];exact t1) w
  have Cm:=E6 hE Gh sa (all:=ys) (off:=f.offset) (by rw[ho];exact t2) w
  have heq:=ih ta f.type Gh (by omega) x.1 y.1 ca da p ra sa hp
  have Kq:(Rv d xs ys f (none,())).run P w= .ok (if p=true then ForInStep.yield (none,()) else ForInStep.done (some false,())) w:=by
   unfold Rv
   rw[if_pos hn]
   simp only[Sem.run_bind,ot,Cm,heq,Result.andThen_ok]
   cases p<;>rfl
  rw[List.forIn_cons]
  simp only[Sem.run_bind,Kq,Result.andThen_ok]
  cases p with
  |false=>rfl
  |true=>
   simp only[if_true,Bool.true_and]
   exact Z5 tb (off+ta.cells) bH (by omega) x.2 y.2 cb db q rb sb u1 u2 hq
theorem agm(hE:ap P E)(w:World){d n:Nat}{k:IntKind}{T e:TypeId}(ht:P.underlying T=some (.array n e))(he:E.ty e=some (.int k)){x y:List Int}{c1 c2:List Value}(r1:bh X (.arr n (.int k)) x c1)(r2:bh X (.arr n (.int k)) y c2):
 (Op.equalIn (d+2) T (.agg c1.toArray) (.agg c2.toArray)).run P w= .ok (decide (x=y)) w:=by
 obtain⟨l1,m1,e1⟩:=r1
 obtain⟨l2,m2,e2⟩:=r2
 have l1:x.length=n:=l1
 have l2:y.length=n:=l2
 have key:decide (x=y)=(List.range n).all fun i=>decide (x.getD i 0=y.getD i 0):=by
  by_cases AL:x=y
  ·rw[decide_eq_true AL]
   exact(List.all_eq_true.2 fun i _=>by rw[AL];simp).symm
  ·rw[decide_eq_false AL]
   cases ha:(List.range n).all fun i=>decide (x.getD i 0=y.getD i 0) with
   |false=>rfl
   |true=>
    refine absurd (List.ext_getElem (l1.trans l2.symm) fun i h1 h2=> ?_) AL
    have:=of_decide_eq_true (List.all_eq_true.1 ha i (List.mem_range.2 (by omega)))
    simpa [List.getD_eq_getElem?_getD,List.getElem?_eq_getElem h1,List.getElem?_eq_getElem h2] using this
 rw[key,List.range_eq_range',Op.equalIn]
 simp only[Sem.run_bind,run_underlying ht,Result.andThen_ok,lK hE he,Std.Legacy.Range.forIn_eq_forIn_range',Std.Legacy.Range.size,Nat.sub_zero,Nat.add_sub_cancel,Nat.div_one]
 have hl:∀i∈List.range' 0 n 1,i<n:=fun i hi=>by simpa using(List.mem_range'_1.1 hi).2
 generalize List.range' 0 n 1=l at hl⊢
 induction l with
 |nil=>simp
 |cons i l ih=>
  have hi:i<n:=hl i (by simp)
  have g1:x[i]? =some (x.getD i 0):=by rw[List.getD_eq_getElem?_getD,List.getElem?_eq_getElem (by omega)];rfl
  have g2:y[i]? =some (y.getD i 0):=by rw[List.getD_eq_getElem?_getD,List.getElem?_eq_getElem (by omega)];rfl
  have p1:=e1 i (x.getD i 0) g1
  have p2:=e2 i (y.getD i 0) g2
  have px:=E6 hE he p1 (all:=c1.toArray) (off:=i*(Ty.int k).cells) rfl w
  have py:=E6 hE he p2 (all:=c2.toArray) (off:=i*(Ty.int k).cells) rfl w
  rw[lM p1] at px
  rw[lM p2] at py
  have pe:(Op.equalIn (d+1) e (.int k (x.getD i 0)) (.int k (y.getD i 0))).run P w= .ok (decide (x.getD i 0=y.getD i 0)) w:=by
   have hu:P.underlying e=some (.int k):=(hE.ty e _ he).dt
   unfold Op.equalIn
   simp only[Sem.run_bind,run_underlying hu,Result.andThen_ok,if_true,Sem.run_pure]
   rfl
  simp only[List.forIn_cons,Sem.run_bind,px,py,pe,Result.andThen_ok,List.all_cons]
  cases hb:decide (x.getD i 0=y.getD i 0)
  ·simp
  ·simp only[Bool.not_true,Bool.false_eq_true,if_false,Sem.run_pure,Result.andThen_ok,Bool.true_and]
   exact ih fun j hj=>hl j (by simp [hj])
theorem LH(hE:ap P E)(w:World):∀(d:Nat) (t:Ty) (T:TypeId),E.ty T=some t->t.depth<=d->∀(x y:El t) (c1 c2:List Value) (r:Bool),bh X t x c1->bh X t y c2->dI t x y=some r->(Op.equalIn d T (dR t c1) (dR t c2)).run P w= .ok r w:=by
 intro d
 induction d with
 |zero=>intro t T ht hd;cases t<;>simp only[Ty.depth] at hd<;>omega
 |succ d ih=>
  intro t T ht hd x y c1 c2 r h1 h2 he
  have hu:=(hE.ty T t ht).dt
  cases t with
  |bool=>
   rw[vC h1,vC h2]
   simp only[dI,Option.some.injEq] at he
   subst he
   unfold Op.equalIn
   simp only[Sem.run_bind,run_underlying hu,Result.andThen_ok,Sem.run_pure]
  |int k=>
   rw[lM h1,lM h2]
   simp only[dI,Option.some.injEq] at he
   subst he
   unfold Op.equalIn
   simp only[Sem.run_bind,run_underlying hu,Result.andThen_ok,if_true,Sem.run_pure]
   rfl
  |str=>
   rw[z28 h1,z28 h2]
   simp only[dI,Option.some.injEq] at he
   subst he
   unfold Op.equalIn
   simp only[Sem.run_bind,run_underlying hu,Result.andThen_ok,Sem.run_pure]
   rw[beq_toListBytes,Wb]
  |sl e t=>simp [dI] at he
  |arr n t=>
   cases t<;>simp only[dI,Option.some.injEq,reduceCtorEq] at he
   rename_i k
   subst he
   obtain⟨e,iD,iS,_⟩:=hu
   obtain⟨d,rfl⟩:∃d',d=d'+1:=⟨d-1,by simp only[Ty.depth] at hd;omega⟩
   rw[jJ rfl,jJ rfl]
   exact agm hE w iD iS h1 h2
  |aG _ _ _=>exact hu.elim
  |unit=>
   obtain⟨fs,iD,iS,R4,_⟩:=hu
   rw[jJ rfl,jJ rfl]
   unfold Op.equalIn
   simp only[Sem.run_bind,run_underlying iD,Result.andThen_ok,run_program,R4,Bool.false_eq_true,if_false]
   rw[<-Array.forIn_toList]
   have:=zv4 (X:=X) hE (d:=d) (xs:=c1.toArray) (ys:=c2.toArray) w ih fs.toList .unit 0 iS hd x y c1 c2 r h1 h2 (by have:=h1.len;simp [Ty.cells] at this⊢;subst this;rfl) (by have:=h2.len;simp [Ty.cells] at this⊢;subst this;rfl) he
   unfold Rv at this
   rw[this]
   simp only[Result.andThen_ok]
   cases r<;>rfl
  |pair ta tb=>
   obtain⟨fs,iD,iS,R4,_⟩:=hu
   rw[jJ rfl,jJ rfl]
   unfold Op.equalIn
   simp only[Sem.run_bind,run_underlying iD,Result.andThen_ok,run_program,R4,Bool.false_eq_true,if_false]
   rw[<-Array.forIn_toList]
   have:=zv4 (X:=X) hE (d:=d) (xs:=c1.toArray) (ys:=c2.toArray) w ih fs.toList (.pair ta tb) 0 iS hd x y c1 c2 r h1 h2 (by have:=h1.len;simp only[List.drop_zero];rw[<-this];exact List.take_length) (by have:=h2.len;simp only[List.drop_zero];rw[<-this];exact List.take_length) he
   unfold Rv at this
   rw[this]
   simp only[Result.andThen_ok]
   cases r<;>rfl
end Go.Ref

namespace Go.Ref
open Go
variable {P:Program} {E:Env} {X:ax} {s:State} {a:Act} {o:Oper} {u:Out}
theorem aju(hE:ap P E){op:BinOp}{T:TypeId}{x y:SV}{vx vy:Value}{px py:List Nat->Place}{l:List SV}(w:World)(xo yo:Operand)(hx:aA X px x vx)(hy:aA X py y vy)(h:qZ E op T x y some=some l):
 ∃b:Bool,l=bl b/\(eqGuard op T xo yo vx vy).run P w= .ok () w/\(Go.binOp op T vx vy).run P w= .ok (.bool b) w:=by
 unfold qZ at h
 split at h
 case h_2=>cases h
 rename_i t ht
 split at h
 ·cases h
 rename_i Zh
 obtain⟨m,h,hm⟩:=zy h
 obtain⟨n,h,hn⟩:=zy h
 split at h
 case h_2=>cases h
 rename_i r hr
 obtain⟨c1,r1,e1⟩:=hm X px vx hx
 obtain⟨c2,r2,e2⟩:=hn X py vy hy
 have hd:t.depth<=10000:=by
  have:Nat.ble t.depth 1000=true:=by simpa using Zh
  have:=Nat.le_of_ble_eq_true this
  omega
 have heq:=LH hE w 10000 t T ht hd m n c1 c2 r r1 r2 hr
 have hu:=(hE.ty T t ht).dt
 have hg:(eqGuard op T xo yo vx vy).run P w= .ok () w:=by
  cases t
  case bool=>rw[e1,e2,vC r1,vC r2];exact zr2 ..
  case int=>rw[e1,e2,lM r1,lM r2];exact z49 ..
  case str=>rw[e1,e2,z28 r1,z28 r2];exact zag ..
  case sl=>simp [dI] at hr
  case arr=>
   obtain⟨fs,_,_,hq⟩:=hu
   rw[e1,e2,jJ rfl,jJ rfl]
   cases op<;>simp [eqGuard,hq]
  case aG=>simp [dI] at hr
  all_goals
   obtain⟨fs,_,_,_,hq⟩:=hu
   rw[e1,e2,jJ rfl,jJ rfl]
   cases op<;>simp [eqGuard,hq]
 split at h
 ·cases h
  refine⟨r,rfl,hg,?_⟩
  rw[e1,e2]
  cases t
  case int=>rw[lM r1,lM r2];simp only[dI,Option.some.injEq] at hr;subst hr;simp only[Go.binOp,ne_eq,not_true_eq_false,if_false];rfl
  case str=>rw[z28 r1,z28 r2];simp only[dI,Option.some.injEq] at hr;subst hr;simp only[Go.binOp,Op.stringOp,Wb];rfl
  case bool=>rw[vC r1,vC r2] at heq⊢;simp only[Go.binOp,Sem.run_bind,Op.equal,Op.maxDepth,heq,Result.andThen_ok,Sem.run_pure]
  case sl=>simp [dI] at hr
  case aG=>simp [dI] at hr
  all_goals
   rw[jJ rfl,jJ rfl] at heq⊢
   simp only[Go.binOp,Sem.run_bind,Op.equal,Op.maxDepth,heq,Result.andThen_ok,Sem.run_pure]
 ·cases h
  refine⟨!r,rfl,hg,?_⟩
  rw[e1,e2]
  cases t
  case int=>rw[lM r1,lM r2];simp only[dI,Option.some.injEq] at hr;subst hr;simp only[Go.binOp,ne_eq,not_true_eq_false,if_false];rfl
  case str=>rw[z28 r1,z28 r2];simp only[dI,Option.some.injEq] at hr;subst hr;simp only[Go.binOp,Op.stringOp,Wb];rfl
  case bool=>rw[vC r1,vC r2] at heq⊢;simp only[Go.binOp,Sem.run_bind,Op.equal,Op.maxDepth,heq,Result.andThen_ok,Sem.run_pure]
  case sl=>simp [dI] at hr
  case aG=>simp [dI] at hr
  all_goals
   rw[jJ rfl,jJ rfl] at heq⊢
   simp only[Go.binOp,Sem.run_bind,Op.equal,Op.maxDepth,heq,Result.andThen_ok,Sem.run_pure]
 ·cases h
theorem Sm(op:BinOp)(T:TypeId)(x y:Operand)(p q:Option Addr)(w:World):(eqGuard op T x y (.pointer p) (.pointer q)).run P w= .ok () w:=by
 cases op<;>simp [eqGuard]
theorem ajP(d:Nat){T e:TypeId}(hu:P.underlying T=some (.pointer e))(w:World)(ad:Addr):(Op.equalIn (d+1) T (.pointer (some ad)) (.pointer none)).run P w= .ok false w:=by
 unfold Op.equalIn
 simp only[Sem.run_bind,run_underlying hu,Result.andThen_ok,Sem.run_pure]
theorem ajO(d:Nat){T e:TypeId}(hu:P.underlying T=some (.pointer e))(w:World):(Op.equalIn (d+1) T (.pointer none) (.pointer none)).run P w= .ok true w:=by
 unfold Op.equalIn
 simp only[Sem.run_bind,run_underlying hu,Result.andThen_ok,Sem.run_pure]
 rfl
theorem Mi{t:Ty}{p:List Nat}{r:Nat}{v:Value}(h:(t.bI&& !t.eJ)=false)(hv:nv t p r v):∃ad,v= .pointer (some ad):=by
 cases hs:t.bI with
 |false=>exact⟨_,((qA hs).1 hv).1⟩
 |true=>
  rw[hs,Bool.true_and,Bool.not_eq_false'] at h
  unfold Ty.eJ at h
  split at h
  ·exact⟨_,hv.1⟩
  ·cases h
theorem amm(hE:ap P E){op:BinOp}{T:TypeId}{x y:SV}{vx vy:Value}{px py:List Nat->Place}{u:Out}(w:World)(xo yo:Operand)(hx:aA X px x vx)(hy:aA X py y vy)(h:bin E op T x y (fun v=>some ({v:=v}:Out))=some u):
 ∃sv v,u={v:=[sv]}/\(eqGuard op T xo yo vx vy).run P w= .ok () w/\(Go.binOp op T vx vy).run P w= .ok v w/\(∀X pl,aA X pl sv v)/\∀id t p,sv≠ .ptr id t p:=by
 unfold bin at h
 split at h
 ·rename_i k m o1 k' n o2
  rw[A4 hx,A4 hy]
  obtain⟨l,h1,h2⟩:=jP zqj h
  obtain⟨sv,v,rfl,hv,_,hr,hp⟩:=zqk (T:=T) w h1
  cases h2
  exact⟨sv,v,rfl,z49 ..,hv,hr,hp⟩
 ·rename_i m o1 n o2
  rw[zin hx,zin hy]
  obtain⟨l,h1,h2⟩:=jP zql h
  obtain⟨sv,v,rfl,hv,_,hr,hp⟩:=ajv (T:=T) w h1
  cases h2
  exact⟨sv,v,rfl,zag ..,hv,hr,hp⟩
 ·obtain⟨r,_,hpv⟩:=hx
  have Z0:vy= .pointer none:=hy
  subst Z0
  split at h
  ·cases h
  rename_i kF
  rw[Bool.not_eq_true,Bool.or_eq_false_iff,Bool.not_eq_false'] at kF
  obtain⟨ad,rfl⟩:=Mi kF.1 hpv
  obtain⟨e,hu⟩:=hE.pt T kF.2
  have heq:∀ad,(Op.equal T (.pointer (some ad)) (.pointer none)).run P w= .ok false w:=fun ad=>ajP 9999 hu w ad
  split at h
  ·cases h
   exact⟨_,_,rfl,Sm ..,by(simp only[Go.binOp,Sem.run_bind,heq,Result.andThen_ok,Sem.run_pure];try rfl),fun _ _=>nC,by simp⟩
  ·cases h
   exact⟨_,_,rfl,Sm ..,by(simp only[Go.binOp,Sem.run_bind,heq,Result.andThen_ok,Sem.run_pure];try rfl),fun _ _=>nC,by simp⟩
  ·cases h
 ·have Ku:vx= .pointer none:=hx
  have Z0:vy= .pointer none:=hy
  subst Ku Z0
  split at h
  ·cases h
  rename_i kF
  obtain⟨e,hu⟩:=hE.pt T (by simpa using kF)
  have heq:(Op.equal T (.pointer none) (.pointer none)).run P w= .ok true w:=ajO 9999 hu w
  split at h
  ·cases h
   exact⟨_,_,rfl,Sm ..,by(simp only[Go.binOp,Sem.run_bind,heq,Result.andThen_ok,Sem.run_pure];try rfl),fun _ _=>nC,by simp⟩
  ·cases h
   exact⟨_,_,rfl,Sm ..,by(simp only[Go.binOp,Sem.run_bind,heq,Result.andThen_ok,Sem.run_pure];try rfl),fun _ _=>nC,by simp⟩
  ·cases h
 ·obtain⟨l,h1,h2⟩:=jP zqi h
  obtain⟨b,rfl,hg,hv⟩:=aju hE w xo yo hx hy h1
  cases h2
  exact⟨_,_,rfl,hg,hv,fun _ _=>nC,by simp⟩
theorem ajI(hE:ap P E)(hr:Rel X s a){ops:List Oper}{op:BinOp}{T T':TypeId}{x y:Operand}(ho:o.op= .binOp op T x y T'){C:FuncId->bW Out}(h:act E C ops o s some=some u):aI P X s a o u:=by
 unfold act at h
 simp only[ho] at h
 obtain⟨sv,v,rfl,hg,hv,aL,hp⟩:=amm hE X.w x y (hr.aH x) (hr.aH y) h
 exact aI.plain hr (by simp only[execOp,ho,Sem.run_bind,hg,hv,Result.andThen_ok,Sem.run_pure]) (aL _ _) (fun id t p e=>absurd e (hp id t p)) (amS aL)
end Go.Ref

namespace Go.Ref
open Go
variable {P:Program} {E:Env} {X:ax} {s:State} {a:Act} {o:Oper} {u:Out}
theorem QI(ad:Addr)(h:ad.spot=none)(m n:Nat):(ad.add m).add n=ad.add (m+n):=by
 unfold Addr.add
 by_cases h1:m=0<;>by_cases h2:n=0<;>simp [h1,h2,Nat.add_assoc]
theorem Bb{ad:Addr}(h:ad.spot=none)(m:Nat):(ad.add m).spot=none:=by
 unfold Addr.add
 split
 ·exact h
 ·rfl
theorem iM(g i j:Nat):(⟨g,i,none⟩:Addr).add j=⟨g,i+j,none⟩:=by
 unfold Addr.add
 split<;>simp_all
theorem Gs:∀(t:Ty) (p q:List Nat) (u:Ty),t.at_ p=some u->t.off (p++q)=t.off p+u.off q:=by
 intro t
 induction t with
 |arr n t ih=>
  intro p q u h
  cases p with
  |nil=>simp only[Ty.at_,Option.some.injEq] at h;subst h;simp [Ty.off]
  |cons i p=>
   simp only[Ty.at_] at h
   simp only[List.cons_append,Ty.off,ih p q u h]
   omega
 |pair x y Kz KA=>
  intro p q u h
  cases p with
  |nil=>simp only[Ty.at_,Option.some.injEq] at h;subst h;simp [Ty.off]
  |cons i p=>
   cases i with
   |zero=>simp only[Ty.at_] at h;simp only[List.cons_append,Ty.off,Kz p q u h]
   |succ i=>
    simp only[Ty.at_] at h
    have:=KA (i::p) q u h
    simp only[List.cons_append,Ty.off] at this⊢
    omega
 |_=>
  intro p q u h
  cases p with
  |nil=>simp only[Ty.at_,Option.some.injEq] at h;subst h;simp [Ty.off]
  |cons i p=>simp [Ty.at_] at h
theorem PF:∀(t:Ty) (p q:List Nat) (u:Ty),t.at_ p=some u->t.eI p->u.eI q->t.eI (p++q):=by
 intro t
 induction t with
 |arr n t ih=>
  intro p q u h hp hq
  cases p with
  |nil=>simp only[Ty.at_,Option.some.injEq] at h;subst h;exact hq
  |cons i p=>exact⟨hp.1,ih p q u h hp.2 hq⟩
 |pair x y Kz KA=>
  intro p q u h hp hq
  cases p with
  |nil=>simp only[Ty.at_,Option.some.injEq] at h;subst h;exact hq
  |cons i p=>
   cases i with
   |zero=>exact Kz p q u h hp hq
   |succ i=>exact KA (i::p) q u h hp hq
 |_=>
  intro p q u h hp hq
  cases p with
  |nil=>simp only[Ty.at_,Option.some.injEq] at h;subst h;exact hq
  |cons i p=>simp [Ty.at_] at h
theorem getD_some{α:Type}{xs:List α}{i:Nat}(d:α)(h:i<xs.length):xs[i]? =some (xs.getD i d):=by
 simp [List.getD_eq_getElem?_getD,List.getElem?_eq_getElem h]
theorem QO{X:ax}:∀{t:Ty} {p:List Nat} {x:El t} {cs:List Value} {u:Ty} {y:El u},bh X t x cs->t.eI p->El.get t p x=some ⟨u,y⟩->
 t.at_ p=some u/\t.off p+u.cells<=t.cells/\bh X u y ((cs.drop (t.off p)).take u.cells):=by
 intro t
 induction t with
 |arr n t ih=>
  intro p x cs u y hr hp h
  cases p with
  |nil=>
   simp only[El.get,Option.some.injEq,Sigma.mk.injEq] at h
   obtain⟨rfl,h⟩:=h
   cases h
   refine⟨rfl,by simp [Ty.off],?_⟩
   have:=hr.len
   simp only[Ty.off,List.drop_zero]
   rw[<-this,List.take_length]
   exact hr
  |cons i p=>
   obtain⟨hi,hp⟩:=hp
   obtain⟨h1,h2,h3⟩:=hr
   simp only[El.get] at h
   obtain⟨k1,k2,k3⟩:=ih (h3 i _ (getD_some (El.bV t) (by omega))) hp h
   have hn:(i+1)*t.cells<=n*t.cells:=Nat.mul_le_mul_right _ hi
   rw[Nat.add_mul,Nat.one_mul] at hn
   refine⟨k1,by simp only[Ty.off,Ty.cells];omega,?_⟩
   simp only[Ty.off]
   rw[List.drop_take,List.take_take,List.drop_drop,Nat.min_eq_left (by omega)] at k3
   exact k3
 |pair ta tb mg mh=>
  intro p x cs u y hr hp h
  cases p with
  |nil=>
   simp only[El.get,Option.some.injEq,Sigma.mk.injEq] at h
   obtain⟨rfl,h⟩:=h
   cases h
   refine⟨rfl,by simp [Ty.off],?_⟩
   have:=hr.len
   simp only[Ty.off,List.drop_zero]
   rw[<-this,List.take_length]
   exact hr
  |cons i p=>
   obtain⟨c1,c2,rfl,r1,r2⟩:=hr
   have l1:=r1.len
   have l2:=r2.len
   cases i with
   |zero=>
    obtain⟨k1,k2,k3⟩:=mg r1 hp h
    refine⟨k1,by simp only[Ty.off,Ty.cells];omega,?_⟩
    simp only[Ty.off]
    rw[List.drop_append_of_le_length (by omega),List.take_append_of_le_length (by rw[List.length_drop];omega)]
    exact k3
   |succ i=>
    obtain⟨k1,k2,k3⟩:=mh r2 hp h
    refine⟨k1,by simp only[Ty.off,Ty.cells];omega,?_⟩
    simp only[Ty.off]
    rw[<-List.drop_drop,<-l1,List.drop_left]
    exact k3
 |_=>
  intro p x cs u y hr hp h
  cases p with
  |nil=>
   simp only[El.get,Option.some.injEq,Sigma.mk.injEq] at h
   obtain⟨rfl,h⟩:=h
   cases h
   refine⟨rfl,by simp [Ty.off],?_⟩
   have:=hr.len
   simp only[Ty.off,List.drop_zero]
   rw[<-this,List.take_length]
   exact hr
  |cons i p=>simp [El.get] at h
theorem QM:∀(fl:List Field) (t:Ty) (off j:Nat) (ft:Ty),ju E fl t off->t.dj=true->t.at_ [j]=some ft->∃f,fl[j]? =some f/\f.offset=off+t.off [j]/\E.ty f.type=some ft/\t.eI [j]:=by
 intro fl
 induction fl with
 |nil=>intro t off j ft hf hp h;cases t<;>simp [ju,Ty.dj] at hf hp
 |cons f fl ih=>
  intro t off j ft hf hp h
  cases t<;>simp only[ju] at hf<;>try exact hf.elim
  rename_i ta tb
  obtain⟨h1,h2,h3,h4⟩:=hf
  cases j with
  |zero=>
   simp only[Ty.at_,Option.some.injEq] at h
   subst h
   exact⟨f,rfl,by simp [Ty.off,h1],h2,by simp [Ty.eI]⟩
  |succ j=>
   simp only[Ty.at_] at h
   cases htb:tb.dj with
   |true=>
    obtain⟨g,g1,g2,g3,g4⟩:=ih tb (off+ta.cells) j ft h4 htb h
    exact⟨g,g1,by simp only[Ty.off];omega,g3,g4⟩
   |false=>
    cases fl with
    |nil=>cases tb<;>simp [ju,Ty.at_] at h4 h
    |cons g fl=>cases tb<;>simp [ju,Ty.dj] at h4 htb
theorem SA(hE:ap P E){T:TypeId}{t:Ty}(ht:E.ty T=some t)(hp:t.dj=true):∃fs,P.underlying T=some (.struct fs)/\ju E fs.toList t 0:=by
 have hu:=(hE.ty T t ht).dt
 cases t<;>simp [Ty.dj] at hp
 obtain⟨fs,h1,h2,_⟩:=hu
 exact⟨fs,h1,h2⟩
theorem z71(hE:ap P E){f:Field}{ft:Ty}(hf:E.ty f.type=some ft)(hc:ft.cells≠0)(ad:Addr)(w:World):(fieldPlace ad f).run P w= .ok (ad.add f.offset) w:=by
 simp [fieldPlace,lK hE hf,hc]
theorem Rx:∀(t:Ty) (p:List Nat) (x:El t) (u:Ty) (y:El u),El.get t p x=some ⟨u,y⟩->t.at_ p=some u:=by
 intro t
 induction t with
 |arr n t ih=>
  intro p x u y h
  cases p with
  |nil=>simp only[El.get,Option.some.injEq,Sigma.mk.injEq] at h;rw[Ty.at_,h.1]
  |cons i p=>exact ih p _ u y h
 |pair a b mg mh=>
  intro p x u y h
  cases p with
  |nil=>simp only[El.get,Option.some.injEq,Sigma.mk.injEq] at h;rw[Ty.at_,h.1]
  |cons i p=>
   cases i with
   |zero=>exact mg p _ u y h
   |succ i=>exact mh (i::p) _ u y h
 |_=>
  intro p x u y h
  cases p with
  |nil=>simp only[El.get,Option.some.injEq,Sigma.mk.injEq] at h;rw[Ty.at_,h.1]
  |cons i p=>simp [El.get] at h
theorem acy(hE:ap P E)(hr:Rel X s a){T:TypeId}{x:Operand}{j:Nat}{ta tb:Ty}(ho:o.op= .fieldAddr T x j)(hg:E.gr T=some (ta,tb))(h:Hl (s.aH x) j ta tb some=some u):aI P X s a o u:=by
 have hx:=hr.aH x
 unfold Hl at h
 split at h
 case h_2=>cases h
 rename_i id c d e
 rw[e] at hx
 obtain⟨r,hb,hv,_⟩:=hx
 split at h
 case isFalse=>cases h
 rename_i hcd
 rw[Bool.and_eq_true] at hcd
 have:=Ty.aJ hcd.1
 subst this
 cases hj:Nat.ble j 2 with
 |false=>rw[hj] at h;cases h
 |true=>
  rw[hj] at h
  cases h
  have hj:=Nat.le_of_ble_eq_true hj
  obtain⟨fs,hu,hf⟩:=hE.gr T _ _ hg
  obtain⟨f,i,g1,g2,g3,g4⟩:=hf j hj
  refine aI.plain hr (v:= .pointer (some ⟨r,m4 c [j],none⟩)) ?_ ⟨r,hb,rfl,?_⟩ (fun bc t' p' e'=> ?_)
  ·have hp:∀(ad:Addr) (w:World),(fieldPlace ad f).run P w= .ok (ad.add f.offset) w:=fun ad w=>by simp [fieldPlace,sizeOf,typeInfo,g3,g4]
   simp only[execOp,ho,Sem.run_bind,Instr.fieldAt,run_underlying hu,Result.andThen_ok,g1,hv,Instr.sureAddr,Sem.run_pure,hp]
   rw[iM,g2]
   simp [m4]
  ·match j,hj with
   |0,_=>simp [gIn,Ty.eI]
   |1,_=>trivial
   |2,_=>trivial
  ·injection e' with e1 e2 e3
   subst e1
   exact su hr e
theorem ab2(hE:ap P E)(hr:Rel X s a){T:TypeId}{x:Operand}{j:Nat}{u0:Ty}{id:Nat}{t:Ty}{p:List Nat}(ho:o.op= .fieldAddr T x j)(hT:E.ty T=some u0)(e:s.aH x= .ptr id t p)(h:G4 u0 id t p j some=some u):aI P X s a o u:=by
 have hx:=hr.aH x
 rw[e] at hx
 obtain⟨r,hb,hx⟩:=hx
 unfold G4 at h
 split at h
 case h_2=>cases h
 rename_i ta tb q
 obtain⟨hv,dm⟩:=hx
 have hv:a.eval x= .pointer (some ⟨r,ta.off q,none⟩):=hv
 have dm:ta.eI q:=dm
 split at h
 case h_2=>cases h
 rename_i u'' cg
 split at h
 case isFalse=>cases h
 rename_i jf
 rw[Bool.and_eq_true] at jf
 obtain⟨heq,fa⟩:=jf
 have:=Ty.aJ heq
 subst this
 split at h
 case h_2=>cases h
 rename_i ft F7
 split at h
 ·cases h
 rename_i dN
 cases h
 have hc:ft.cells≠0:=fun e=>dN (by rw[e];rfl)
 obtain⟨fs,iD,iS⟩:=SA hE hT fa
 obtain⟨f,g1,g2,g3,g4⟩:=QM fs.toList u0 0 j ft iS fa F7
 refine aI.plain hr (v:= .pointer (some ⟨r,ta.off (q++ [j]),none⟩)) ?_ ⟨r,hb,rfl,PF ta q [j] u0 cg dm g4⟩ (fun bc t' p' e'=> ?_)
 ·have gX:fs[j]? =some f:=by rw[<-Array.getElem?_toList];exact g1
  simp only[execOp,ho,Sem.run_bind,Instr.fieldAt,run_underlying iD,Result.andThen_ok,gX,hv,Instr.sureAddr,Sem.run_pure,z71 hE g3 hc]
  rw[iM,Gs ta q [j] u0 cg,g2,Nat.zero_add]
 ·injection e' with e1 e2 e3
  subst e1
  exact su hr e
theorem abB(hE:ap P E)(hr:Rel X s a){ops:List Oper}{T:TypeId}{x:Operand}{j:Nat}(ho:o.op= .fieldAddr T x j){C:FuncId->bW Out}(h:act E C ops o s some=some u):aI P X s a o u:=by
 unfold act at h
 simp only[ho] at h
 have hx:=hr.aH x
 split at h
 ·rename_i ta tb hg
  exact acy hE hr ho hg h
 unfold Rw at h
 split at h
 ·rename_i t u' id root p hT e
  rw[e] at hx
  obtain⟨r,hb,hx⟩:=hx
  split at h
  ·exact ab2 hE hr ho hT e h
  rename_i eb
  have eb:root.bI=false:=by simpa using eb
  obtain⟨hv,dm⟩:=(qA eb).1 hx
  split at h
  case h_2=>cases h
  rename_i u'' cg
  split at h
  case isFalse=>cases h
  rename_i jf
  rw[Bool.and_eq_true] at jf
  obtain⟨heq,fa⟩:=jf
  have:=Ty.aJ heq
  subst this
  split at h
  case h_2=>cases h
  rename_i ft F7
  split at h
  ·cases h
  rename_i dN
  cases h
  have hc:ft.cells≠0:=fun e=>dN (by rw[e];rfl)
  obtain⟨fs,iD,iS⟩:=SA hE hT fa
  obtain⟨f,g1,g2,g3,g4⟩:=QM fs.toList u' 0 j ft iS fa F7
  refine aI.plain hr (v:= .pointer (some ⟨r,root.off (p++ [j]),none⟩)) ?_ ⟨r,hb,(qA eb).2 ⟨rfl,PF root p [j] u' cg dm g4⟩⟩ (fun bc t' p' e'=> ?_)
  ·have gX:fs[j]? =some f:=by rw[<-Array.getElem?_toList];exact g1
   simp only[execOp,ho,Sem.run_bind,Instr.fieldAt,run_underlying iD,Result.andThen_ok,gX,hv,Instr.sureAddr,Sem.run_pure,z71 hE g3 hc]
   rw[iM,Gs root p [j] u' cg,g2,Nat.zero_add]
  ·injection e' with e1 e2 e3
   subst e1
   exact su hr e
 ·rename_i t u' root y hT e
  rw[e] at hx
  obtain⟨ad,cs,hv,mB,aL,eg⟩:=hx
  split at h
  case isFalse=>cases h
  rename_i jf
  rw[Bool.and_eq_true] at jf
  obtain⟨heq,fa⟩:=jf
  have:=Ty.aJ heq
  subst this
  split at h
  case h_2=>cases h
  rename_i ft z F7
  split at h
  ·cases h
  rename_i dN
  cases h
  have hc:ft.cells≠0:=fun e=>dN (by rw[e];rfl)
  obtain⟨fs,iD,iS⟩:=SA hE hT fa
  have cg:u'.at_ [j]=some ft:=Rx u' [j] y ft z F7
  obtain⟨f,g1,g2,g3,g4⟩:=QM fs.toList u' 0 j ft iS fa cg
  obtain⟨k1,k2,k3⟩:=QO aL g4 F7
  refine aI.plain hr (v:= .pointer (some (ad.add (u'.off [j])))) ?_ ⟨ad.add (u'.off [j]),_,rfl,Bb mB _,k3,fun i v hi=> ?_⟩ (fun bc t' p' e'=>by cases e')
  ·have gX:fs[j]? =some f:=by rw[<-Array.getElem?_toList];exact g1
   simp only[execOp,ho,Sem.run_bind,Instr.fieldAt,run_underlying iD,Result.andThen_ok,gX,hv,Instr.sureAddr,Sem.run_pure,z71 hE g3 hc]
   rw[g2,Nat.zero_add]
  ·rw[QI _ mB]
   refine eg _ v ?_
   rw[List.getElem?_take] at hi
   split at hi
   ·rw[List.getElem?_drop] at hi;exact hi
   ·cases hi
 ·cases h
end Go.Ref

namespace Go.Ref
open Go
variable {P:Program} {E:Env} {X:ax} {s:State} {a:Act} {o:Oper} {u:Out}
theorem vu{R:Type}{i:Int}{n:Nat}{x:Option R}{z:R}(h:zd i n x=some z):0<=i/\i<(n:Int)/\x=some z:=by
 unfold zd at h
 cases h1:decide (0<=i)<;>rw[h1] at h
 ·cases h
 ·cases h2:decide (i<(n:Int))<;>rw[h2] at h
  ·cases h
  ·exact⟨of_decide_eq_true h1,of_decide_eq_true h2,h⟩
theorem Yv{e:TypeId}{t:Ty}{xs:List (El t)}{cs:List Value}(h:bh X (.sl e t) xs cs):∃A c,dR (.sl e t) cs= .slice A xs.length c/\xs.length<=c/\
 ∀(j:Nat) x,xs[j]? =some x->∃ad eH,A=some ad/\ad.spot=none/\bh X t x eH/\∀(i:Nat) v,eH[i]? =some v->X.az (ad.add (j*t.cells+i)) v:=by
 obtain⟨A,c,rfl,h1,h2⟩:=h
 exact⟨A,c,rfl,h1,h2⟩
theorem bh.xM{e:TypeId}{t:Ty}{xs:List (El t)}{A:Option Addr}{n c:Nat}(hn:xs.length=n)(h1:n<=c)(h2:∀(j:Nat) x,xs[j]? =some x->∃ad eH,A=some ad/\ad.spot=none/\bh X t x eH/\∀(i:Nat) v,eH[i]? =some v->X.az (ad.add (j*t.cells+i)) v):bh X (.sl e t) xs [.slice A n c]:=by
 subst hn
 exact⟨A,c,rfl,h1,h2⟩
theorem zqv{R:Type}{s:SV}{K:Int->Option R}{z:R}(h:s.num K=some z):∃n k,K n=some z/\∀(X:ax) pl v,aA X pl s v->v= .int k n:=by
 unfold SV.num at h
 split at h
 ·rename_i k n w
  refine⟨n,k,h,fun X pl v hv=> ?_⟩
  obtain⟨cs,h1,h2,_⟩:=hv
  rw[h2,lM h1]
 ·cases h
theorem ab3(hE:ap P E)(hr:Rel X s a){T:TypeId}{x i:Operand}{m:Nat}{t:Ty}{n:Int}{ik:IntKind}{id:Nat}{root:Ty}{p:List Nat}(ho:o.op= .indexAddr T x i)(ei:a.eval i= .int ik n)(hT:E.ty T=some (.arr m t))(dF:s.aH x= .ptr id root p)(hx:aA X (xJ x) (.ptr id root p) (a.eval x))(h:G7 m t n id root p some=some u):aI P X s a o u:=by
 obtain⟨r,hb,hx⟩:=hx
 unfold G7 at h
 split at h
 case h_2=>cases h
 rename_i ta tb q
 obtain⟨hv,dm⟩:=hx
 have hv:a.eval x= .pointer (some ⟨r,ta.off q,none⟩):=hv
 have dm:ta.eI q:=dm
 split at h
 case h_2=>cases h
 rename_i u'' cg
 split at h
 case isFalse=>cases h
 rename_i heq
 have:=Ty.aJ heq
 subst this
 obtain⟨h0,h1,h⟩:=vu h
 cases h
 obtain⟨e,iD,iS,_⟩:=(hE.ty T _ hT).dt
 have ar:n.toNat<m:=by omega
 refine aI.plain hr (v:= .pointer (some ⟨r,ta.off (q++ [n.toNat]),none⟩)) ?_ ⟨r,hb,rfl,PF ta q [n.toNat] _ cg dm ⟨ar,by simp [Ty.eI]⟩⟩ (fun bc t' p' e'=> ?_)
 ·simp only[execOp,ho,Sem.run_bind,Instr.indexAt,ei,hv,asIntOf,Sem.run_pure,Result.andThen_ok,run_underlying iD,Instr.sureAddr,Sem.run_ite,h0,h1,and_self,if_true,lK hE iS]
  rw[iM,Gs ta q [n.toNat] _ cg]
  simp [Ty.off]
 ·injection e' with e1 e2 e3
  subst e1
  exact su hr dF
theorem abC(hE:ap P E)(hr:Rel X s a){ops:List Oper}{T:TypeId}{x i:Operand}(ho:o.op= .indexAddr T x i){C:FuncId->bW Out}(h:act E C ops o s some=some u):aI P X s a o u:=by
 unfold act at h
 simp only[ho] at h
 have hx:=hr.aH x
 have hi:=hr.aH i
 unfold Ry at h
 obtain⟨n,ik,h,hn⟩:=zqv h
 have ei:=hn X _ _ hi
 split at h
 ·rename_i e t t' xs w hT dF
  rw[dF] at hx
  obtain⟨ys,h,ux⟩:=zy h
  obtain⟨h0,h1,h⟩:=vu h
  cases h
  obtain⟨cs,lG,ev⟩:=ux X (xJ x) _ hx.bare
  obtain⟨A,c,hm,hle,fN⟩:=Yv lG
  rw[hm] at ev
  have ar:n.toNat<List.length ys:=by omega
  obtain⟨ad,eH,rfl,mB,aL,eg⟩:=fN n.toNat _ (getD_some (El.bV t) ar)
  have hu:=(hE.ty T _ hT).dt
  refine aI.plain hr (v:= .pointer (some (ad.add (n.toNat*t.cells)))) ?_ ⟨ad.add (n.toNat*t.cells),eH,rfl,Bb mB _,aL,fun j v hj=> ?_⟩ (fun _ _ _ e'=>by cases e')
  ·simp only[execOp,ho,Sem.run_bind,Instr.indexAt,ei,ev,asIntOf,Sem.run_pure,Result.andThen_ok,run_underlying hu.1,Sem.run_ite,h0,h1,and_self,if_true,lK hE hu.2]
  ·rw[QI _ mB];exact eg j v hj
 ·rename_i m t id root p hT dF
  rw[dF] at hx
  obtain⟨r,hb,hx⟩:=hx
  split at h
  ·exact ab3 hE hr ho ei hT dF ⟨r,hb,hx⟩ h
  rename_i eb
  have eb:root.bI=false:=by simpa using eb
  obtain⟨hv,dm⟩:=(qA eb).1 hx
  split at h
  case h_2=>cases h
  rename_i u'' cg
  split at h
  case isFalse=>cases h
  rename_i heq
  have:=Ty.aJ heq
  subst this
  obtain⟨h0,h1,h⟩:=vu h
  cases h
  obtain⟨e,iD,iS,_⟩:=(hE.ty T _ hT).dt
  have ar:n.toNat<m:=by omega
  refine aI.plain hr (v:= .pointer (some ⟨r,root.off (p++ [n.toNat]),none⟩)) ?_ ⟨r,hb,(qA eb).2 ⟨rfl,PF root p [n.toNat] _ cg dm ⟨ar,by simp [Ty.eI]⟩⟩⟩ (fun bc t' p' e'=> ?_)
  ·simp only[execOp,ho,Sem.run_bind,Instr.indexAt,ei,hv,asIntOf,Sem.run_pure,Result.andThen_ok,run_underlying iD,Instr.sureAddr,Sem.run_ite,h0,h1,and_self,if_true,lK hE iS]
   rw[iM,Gs root p [n.toNat] _ cg]
   simp [Ty.off]
  ·injection e' with e1 e2 e3
   subst e1
   exact su hr dF
 ·rename_i m t t' xs hT dF
  rw[dF] at hx
  obtain⟨ad,cs,hv,mB,aL,eg⟩:=hx
  simp only[SV.el] at h
  split at h
  case isFalse=>cases h
  rename_i heq
  have:=Ty.aJ heq
  subst this
  obtain⟨h0,h1,h⟩:=vu h
  cases h
  obtain⟨e,iD,iS,_⟩:=(hE.ty T _ hT).dt
  obtain⟨l1,l2,l3⟩:=aL
  have ar:n.toNat<m:=by omega
  have F9:=l3 n.toNat _ (getD_some (El.bV t) (by omega))
  refine aI.plain hr (v:= .pointer (some (ad.add (n.toNat*t.cells)))) ?_ ⟨ad.add (n.toNat*t.cells),_,rfl,Bb mB _,F9,fun j v hj=> ?_⟩ (fun _ _ _ e'=>by cases e')
  ·simp only[execOp,ho,Sem.run_bind,Instr.indexAt,ei,hv,asIntOf,Sem.run_pure,Result.andThen_ok,run_underlying iD,Instr.sureAddr,Sem.run_ite,h0,h1,and_self,if_true,lK hE iS]
  ·rw[QI _ mB]
   refine eg _ v ?_
   rw[List.getElem?_take] at hj
   split at hj
   ·rw[List.getElem?_drop] at hj;exact hj
   ·cases hj
 ·rename_i e0 t id r p hT dF
  rw[dF] at hx
  unfold PW at h
  split at h
  case h_2=>cases h
  rename_i m ta tb
  split at h
  case isFalse=>cases h
  rename_i heq
  have:=Ty.aJ heq
  subst this
  obtain⟨h0,h1,h⟩:=vu h
  cases h
  obtain⟨r0,hb,cap,hv,m8⟩:=hx
  have hu:=(hE.ty T _ hT).dt
  refine aI.plain hr (v:= .pointer (some ⟨r0,n.toNat*ta.cells,none⟩)) ?_ ⟨r0,hb,rfl⟩ (fun bc t' p' e'=> ?_)
  ·simp only[execOp,ho,Sem.run_bind,Instr.indexAt,ei,hv,asIntOf,Sem.run_pure,Result.andThen_ok,run_underlying hu.1,Sem.run_ite,h0,h1,and_self,if_true,lK hE hu.2]
   rw[iM,Nat.zero_add]
  ·injection e' with e1 e2 e3
   subst e1
   exact su hr dF
 ·rename_i id ta tb hT dF
  rw[dF] at hx
  obtain⟨r0,hb,hv,_⟩:=hx
  split at h
  case isFalse=>cases h
  rename_i hga
  obtain⟨h0,h1,h⟩:=vu h
  cases h
  obtain⟨e,i',hu,xl,di⟩:=hE.ga T hga
  have ar:n.toNat<2:=by omega
  refine aI.plain hr (v:= .pointer (some ⟨r0,m4 ta [1,n.toNat],none⟩)) ?_ ⟨r0,hb,rfl,ar⟩ (fun bc t' p' e'=> ?_)
  ·have iB:(sizeOf e).run P X.w= .ok 1 X.w:=by simp [sizeOf,typeInfo,xl,di]
   have Y5:n<((2:Nat):Int):=h1
   simp only[execOp,ho,Sem.run_bind,Instr.indexAt,ei,hv,asIntOf,Sem.run_pure,Result.andThen_ok,run_underlying hu,Instr.sureAddr,Sem.run_ite,h0,Y5,and_self,if_true,iB]
   rw[iM,Nat.mul_one]
   rfl
  ·injection e' with e1 e2 e3
   subst e1
   exact su hr dF
 ·cases h
theorem Bk{pl:List Nat->Place}{t:Ty}{x:El t}{cs:List Value}(h:bh X t x cs):aA X pl (.ak t x []) (dR t cs):=⟨cs,h,rfl,mE⟩
theorem adn(hE:ap P E)(hr:Rel X s a){ops:List Oper}{T:TypeId}{x i:Operand}(ho:o.op= .index T x i){C:FuncId->bW Out}(h:act E C ops o s some=some u):aI P X s a o u:=by
 unfold act at h
 simp only[ho] at h
 have hx:=hr.aH x
 have hi:=hr.aH i
 unfold Rz at h
 obtain⟨n,ik,h,hn⟩:=zqv h
 have ei:=hn X _ _ hi
 split at h
 ·rename_i hT
  obtain⟨st,h,bR⟩:=zy h
  obtain⟨h0,h1,h⟩:=vu h
  cases h
  obtain⟨cs,KV,ev⟩:=bR X _ _ hx
  rw[z28 KV] at ev
  have hu:=(hE.ty T _ hT).dt
  have ar:n.toNat<st.size:=by omega
  refine aI.plain hr (v:= .int .u8 (ze st n.toNat)) ?_ js (fun _ _ _ e'=>by cases e')
  have cB:st[n.toNat]? =some (st[n.toNat]'ar):=getElem?_pos st n.toNat ar
  simp only[execOp,ho,Sem.run_bind,Instr.index,ei,ev,asIntOf,Sem.run_pure,Result.andThen_ok,run_underlying hu,h0,if_true,cB]
  simp [ze,ar]
 ·rename_i m t hT
  obtain⟨ys,h,ux⟩:=zy h
  obtain⟨h0,h1,h⟩:=vu h
  cases h
  obtain⟨cs,lG,ev⟩:=ux X _ _ hx
  rw[jJ rfl] at ev
  obtain⟨e,iD,iS,_⟩:=(hE.ty T _ hT).dt
  obtain⟨l1,l2,l3⟩:=lG
  have ar:n.toNat<m:=by omega
  have F9:=l3 n.toNat _ (getD_some (El.bV t) (by omega))
  refine aI.plain hr ?_ (Bk F9) (fun _ _ _ e'=>by cases e')
  have hp:=E6 hE iS F9 (all:=cs.toArray) (off:=n.toNat*t.cells) rfl X.w
  simp only[execOp,ho,Sem.run_bind,Instr.index,ei,ev,asIntOf,Sem.run_pure,Result.andThen_ok,run_underlying iD,h0,h1,and_self,if_true,lK hE iS,hp]
 ·cases h
theorem adl(hE:ap P E)(hr:Rel X s a){ops:List Oper}{T:TypeId}{x:Operand}{j:Nat}(ho:o.op= .field T x j){C:FuncId->bW Out}(h:act E C ops o s some=some u):aI P X s a o u:=by
 unfold act at h
 simp only[ho] at h
 have hx:=hr.aH x
 split at h
 case h_2=>cases h
 rename_i t hT
 split at h
 ·cases h
 rename_i fa
 have fa:t.dj=true:=by simpa using fa
 obtain⟨y,h,hy⟩:=zy h
 split at h
 case h_2=>cases h
 rename_i ft z hg
 cases h
 obtain⟨cs,rep,ev⟩:=hy X _ _ hx
 have rl:t.agg=true:=by cases t<;>simp_all [Ty.dj,Ty.agg]
 rw[jJ rl] at ev
 obtain⟨fs,iD,iS⟩:=SA hE hT fa
 obtain⟨f,g1,g2,g3,dm⟩:=QM fs.toList t 0 j ft iS fa (Rx t [j] y ft z hg)
 obtain⟨k1,k2,k3⟩:=QO rep dm hg
 have gX:fs[j]? =some f:=by rw[<-Array.getElem?_toList];exact g1
 refine aI.plain hr ?_ (Bk k3) (fun _ _ _ e'=>by cases e')
 have hp:=E6 hE g3 k3 (all:=cs.toArray) (off:=f.offset) (by rw[g2,Nat.zero_add]) X.w
 simp only[execOp,ho,Sem.run_bind,Instr.field,run_underlying iD,Result.andThen_ok,gX,ev,asAgg,Sem.run_pure,hp]
theorem ajL(hE:ap P E)(hr:Rel X s a){ops:List Oper}{x:Operand}{T:TypeId}{dM:Array Operand}{ts:Array TypeId}(ho:o.op= .call ⟨.builtin .len,dM,ts⟩){C:FuncId->bW Out}(h:act E C ops o s some=some u):aI P X s a o u:=by
 unfold act at h
 simp only[ho] at h
 split at h
 case h_2=>cases h
 rename_i x T se B3
 have has:dM= #[x]:=by rw[<-Array.toArray_toList (xs:=dM),se]
 have kG:ts= #[T]:=by rw[<-Array.toArray_toList (xs:=ts),B3]
 subst has kG
 have hx:=hr.aH x
 unfold uB at h
 split at h
 ·rename_i hT
  obtain⟨st,h,bR⟩:=zy h
  cases h
  obtain⟨cs,KV,ev⟩:=bR X _ _ hx
  rw[z28 KV] at ev
  have hu:=(hE.ty T _ hT).dt
  refine aI.plain hr (v:= .int .i64 st.size) ?_ js (fun _ _ _ e'=>by cases e')
  simp [execOp,ho,resolve,invoke,builtin,Builtin.len_,ev,run_underlying hu,goInt]
 ·rename_i e t hT
  have hu:=(hE.ty T _ hT).dt
  split at h
  ·rename_i id n ta tb dF
   cases h
   rw[dF] at hx
   obtain⟨r0,hb,cap,ev,m8⟩:=hx
   refine aI.plain hr (v:= .int .i64 n) ?_ js (fun _ _ _ e'=>by cases e')
   simp [execOp,ho,resolve,invoke,builtin,Builtin.len_,ev,run_underlying hu.1,goInt]
  ·obtain⟨xs,h,ZZ⟩:=zy h
   cases h
   obtain⟨cs,CM,ev⟩:=ZZ X _ _ hx
   obtain⟨A,c,hm,_,_⟩:=Yv CM
   rw[hm] at ev
   refine aI.plain hr (v:= .int .i64 (List.length xs)) ?_ js (fun _ _ _ e'=>by cases e')
   simp [execOp,ho,resolve,invoke,builtin,Builtin.len_,ev,run_underlying hu.1,goInt]
 ·rename_i n t hT
  cases h
  obtain⟨e,iD,iS,_⟩:=(hE.ty T _ hT).dt
  refine aI.plain hr (v:= .int .i64 n) ?_ js (fun _ _ _ e'=>by cases e')
  simp [execOp,ho,resolve,invoke,builtin,Builtin.len_,run_underlying iD,goInt]
 ·cases h
theorem Lx(hr:Rel X s a){ops:List Oper}{g:Bool}{dM:Array Operand}{ts:Array TypeId}(ho:o.op= .call ⟨.builtin (if g then .max else .min),dM,ts⟩){C:FuncId->bW Out}(h:act E C ops o s some=some u):aI P X s a o u:=by
 have key:∀x y,dM= #[x,y]->kp g (s.aH x) (s.aH y) some=some u->aI P X s a o u:=by
  intro x y has h
  subst has
  have hx:=hr.aH x
  have hy:=hr.aH y
  unfold kp at h
  split at h
  case h_2=>cases h
  rename_i k m _ k' n _ e1 e2
  rw[e1] at hx
  rw[e2] at hy
  have vx:=A4 hx
  have vy:=A4 hy
  cases h
  refine aI.plain hr (v:= .int k (bif g then(if(m:Int)<n then n else m) else(if(n:Int)<m then n else m))) ?_ js (fun _ _ _ e'=>by cases e')
  cases g
  ·simp [execOp,ho,resolve,invoke,builtin,Builtin.min_,Builtin.min2,vx,vy]
  ·simp [execOp,ho,resolve,invoke,builtin,Builtin.max_,Builtin.max2,vx,vy]
 unfold act at h
 cases g with
 |true=>
  simp only[ho,if_true] at h
  split at h
  ·rename_i x y e
   exact key x y (by rw[<-Array.toArray_toList (xs:=dM),e]) h
  ·cases h
 |false=>
  simp only[ho,Bool.false_eq_true,if_false] at h
  split at h
  ·rename_i x y e
   exact key x y (by rw[<-Array.toArray_toList (xs:=dM),e]) h
  ·cases h
theorem amt(hr:Rel X s a){ops:List Oper}{op:UnOp}{T:TypeId}{x:Operand}(ho:o.op= .unOp op T x){C:FuncId->bW Out}(h:act E C ops o s some=some u):aI P X s a o u:=by
 unfold act at h
 simp only[ho] at h
 have hx:=hr.aH x
 unfold K7 at h
 split at h
 ·rename_i b w e
  rw[e] at hx
  cases h
  refine aI.plain hr (v:= .bool (!b)) ?_ nC (fun _ _ _ e'=>by cases e')
  simp [execOp,ho,Pv hx,Op.unary]
 ·rename_i k n w e
  rw[e] at hx
  cases h
  refine aI.plain hr (v:= .int k (k.wrap (0-n))) ?_ js (fun _ _ _ e'=>by cases e')
  simp [execOp,ho,A4 hx,Op.unary,Op.intArith]
 ·cases h
theorem abH(hr:Rel X s a){ops:List Oper}{x:Operand}(ho:o.op= .nilCheck x){C:FuncId->bW Out}(h:act E C ops o s some=some u):aI P X s a o u:=by
 unfold act at h
 simp only[ho] at h
 have hx:=hr.aH x
 split at h
 ·rename_i id t p e
  rw[e] at hx
  split at h
  ·cases h
  rename_i eb
  have eb:(t.bI&& !t.eJ)=false:=by simpa using eb
  cases h
  obtain⟨r,h1,hx⟩:=hx
  obtain⟨ad,h2⟩:=Mi eb hx
  refine aI.plain hr (v:= .pointer (some ad)) ?_ ⟨r,h1,h2▸hx⟩ (fun bc t' p' e'=> ?_)
  ·simp [execOp,ho,h2]
  ·injection e' with e1 e2 e3
   subst e1
   exact su hr e
 ·rename_i t y e
  rw[e] at hx
  cases h
  obtain⟨ad,cs,h1,h2⟩:=hx
  refine aI.plain hr (v:= .pointer (some ad)) ?_ ⟨ad,cs,rfl,h2⟩ (fun _ _ _ e'=>by cases e')
  simp [execOp,ho,h1]
 ·cases h
theorem ab1(hr:Rel X s a){ops:List Oper}{x:Operand}{j:Nat}(ho:o.op= .extract x j){C:FuncId->bW Out}(h:act E C ops o s some=some u):aI P X s a o u:=by
 unfold act at h
 simp only[ho] at h
 split at h
 case h_2=>cases h
 rename_i t
 have hs:=hr.slot t
 split at h
 ·rename_i hlen
  split at h
  case h_2=>cases h
  rename_i uk
  cases h
  have RY:=hr.aH (.tmp t)
  rw[show s.aH (.tmp t)=SV.over from uk] at RY
  have RY:a.eval (.tmp t)= .tuple #[.bool false]:=RY
  refine aI.plain hr (v:= .bool false) ?_ nC (fun _ _ _ e'=>by cases e')
  simp [execOp,ho,RY,Instr.extract]
 rename_i hlen
 have Aw:(s.slot t).length≠1:=fun e=>hlen (by rw[e];rfl)
 have Cu:∃vs:Array Value,a.tmps.getD t Go.undef= .tuple vs/\vs.size=(s.slot t).length/\∀(j:Nat) sv v,(s.slot t)[j]? =some sv->vs[j]? =some v->aA X (.c t j) sv v:=by
  match hm:s.slot t with
  | [sv]=>rw[hm] at Aw;exact absurd rfl Aw
  | []=>rw[hm] at hs;exact hs
  |_::_::_=>rw[hm] at hs;exact hs
 obtain⟨vs,h1,h2,h3⟩:=Cu
 have aX:∀v,vs[j]? =some v->(execOp a.eval o).run P X.w= .ok (.value v) X.w:=by
  intro v hv
  simp only[execOp,ho,Act.eval,h1,Sem.run_bind,Instr.extract,hv,Sem.run_pure,Result.andThen_ok]
 have hv:∀sv,(s.slot t)[j]? =some sv->∃v,vs[j]? =some v:=by
  intro sv jM
  have:=(List.getElem?_eq_some_iff.1 jM).1
  exact⟨_,Array.getElem?_eq_getElem (by omega)⟩
 split at h
 ·rename_i ut y w e
  cases h
  obtain⟨v,hv⟩:=hv _ e
  cases w with
  |nil=>exact aI.plain hr (aX v hv) (h3 j _ v e hv).bare (fun _ _ _ h=>by cases h)
  |cons p w=>exact aI.AP hr (aX v hv) (h3 j _ v e hv)
 ·cases h
 ·cases h
 ·rename_i sv h4 h5 h6 e
  cases h
  obtain⟨v,hv⟩:=hv _ e
  have fO:Plain sv:=by
   cases sv with
   |ak ut y w=>exact(h4 ut y w rfl).elim
   |bz id c b n=>first|exact(h5 id c b n rfl).elim|exact(h6 id c b n rfl).elim
   |_=>trivial
  refine aI.plain hr (aX v hv) ((h3 j _ v e hv).place fO) (fun id ty p e'=> ?_) fO.oI
  ·by_cases ar:t<s.sl.length
   ·refine hr.live t _ id ty p (qC ar) ?_
    rw[<-e'];exact List.mem_of_getElem? e
   ·have:s.slot t=[.undef]:=by simp [State.slot,List.getElem?_eq_none (Nat.le_of_not_lt ar)]
    rw[this] at Aw
    exact absurd rfl Aw
 ·cases h
end Go.Ref

namespace Go.Ref
open Go
variable {P:Program} {E:Env} {X:ax} {s:State} {a:Act} {o:Oper} {u:Out}
def nU(v:Option SV)(n:Nat)(d:Nat):Prop:=match v with
 |none=>n=d
 |some v=>∀(X:ax) pl val,aA X pl v val->val= .int .i64 (n:Int)
theorem NF{l:Int}{m:Nat}(h1:0<=l)(h2:l<=(m:Int)):l.toNat<=m:=by omega
theorem zw7{l:Int}(h1:0<=l):((l.toNat:Nat):Int)=l:=by omega
theorem zaq{R:Type}{lo:Option SV}{m:Nat}{G:Nat->Option R}{z:R}(h:yd lo m G=some z):∃l,G l=some z/\l<=m/\nU lo l 0:=by
 unfold yd at h
 cases lo with
 |none=>exact⟨0,h,Nat.zero_le _,rfl⟩
 |some v=>
  obtain⟨l,h,hl⟩:=zy h
  cases h1:decide (0<=l)<;>rw[h1] at h
  ·cases h
  ·cases h2:decide (l<=(m:Int))<;>rw[h2] at h
   ·cases h
   ·have h1:=of_decide_eq_true h1
    have h2:=of_decide_eq_true h2
    refine⟨l.toNat,h,NF h1 h2,fun X pl val hv=> ?_⟩
    obtain⟨cs,r,e⟩:=hl X pl val hv
    rw[e,lM r,zw7 h1]
theorem zuz{R:Type}{lo hi:Option SV}{n:Nat}{F:Nat->Nat->Option R}{z:R}(h:cutAt lo hi n F=some z):∃l m,F l m=some z/\l<=m/\m<=n/\nU lo l 0/\nU hi m n:=by
 unfold cutAt at h
 cases hi with
 |none=>
  obtain⟨l,h1,h2,h3⟩:=zaq h
  exact⟨l,n,h1,h2,Nat.le_refl _,h3,rfl⟩
 |some v=>
  obtain⟨m,h,hm⟩:=zy h
  cases h1:decide (0<=m)<;>rw[h1] at h
  ·cases h
  ·cases h2:decide (m<=(n:Int))<;>rw[h2] at h
   ·cases h
   ·have h1:=of_decide_eq_true h1
    have h2:=of_decide_eq_true h2
    have h:yd lo (Int.toNat m) (fun l=>F l (Int.toNat m))=some z:=h
    obtain⟨l,g1,g2,g3⟩:=zaq h
    refine⟨l,m.toNat,g1,g2,NF h1 h2,g3,fun X pl val hv=> ?_⟩
    obtain⟨cs,r,e⟩:=hm X pl val hv
    rw[e,lM r,zw7 h1]
theorem nU.val(hr:Rel X s a){x:Option Operand}{n d:Nat}(h:nU (x.map s.aH) n d):(x=none/\n=d)\/x.map a.eval=some (.int .i64 (n:Int)):=by
 cases x with
 |none=>exact .inl ⟨rfl,h⟩
 |some x=>exact .inr (by rw[Option.map_some,h X _ _ (hr.aH x)])
theorem zdi(hr:Rel X s a){isS:Bool}{lo hi:Option Operand}{l m n c:Nat}(hl:nU (lo.map s.aH) l 0)(hm:nU (hi.map s.aH) m n)(h1:l<=m)(h2:m<=n)(h3:n<=c)(w:World):
 (Instr.sliceBounds isS n c (lo.map a.eval) (hi.map a.eval) none).run P w= .ok (l,m,c) w:=by
 have sb:∀(i y:Nat) (code:BoundsCode),i<=y->(Instr.sliceBound (.int .i64 (i:Int)) y code).run P w= .ok i w:=by
  intro i y code h
  rw[run_sliceBound (P:=P) (w:=w) .i64 (i:Int) y code (by omega) (by omega)]
  simp
 rcases hl.val hr with⟨rfl,rfl⟩|hl<;>rcases hm.val hr with⟨rfl,rfl⟩|hm
 ·simp [Instr.sliceBounds]
 ·simp [Instr.sliceBounds,hm,sb m c _ (by omega)]
 ·simp [Instr.sliceBounds,hl,sb l m _ h1]
 ·simp [Instr.sliceBounds,hl,hm,sb l m _ h1,sb m c _ (by omega)]
theorem age(hE:ap P E)(hr:Rel X s a){T:TypeId}{x:Operand}{lo hi:Option Operand}(ho:o.op= .slice T x lo hi none)(h:rf E T (s.aH x) (lo.map s.aH) (hi.map s.aH) some=some u):aI P X s a o u:=by
 have hx:=hr.aH x
 unfold rf at h
 split at h
 ·rename_i hT
  obtain⟨st,h,bR⟩:=zy h
  obtain⟨l,m,h,h1,h2,hl,hm⟩:=zuz h
  cases h
  obtain⟨cs,KV,ev⟩:=bR X _ _ hx
  rw[z28 KV] at ev
  have hu:=(hE.ty T _ hT).dt
  refine aI.plain hr (v:= .string (st.extract l m)) ?_ Bd (fun _ _ _ e'=>by cases e')
  simp only[execOp,ho,Sem.run_bind,Instr.sliceAt,run_underlying hu,Result.andThen_ok,Instr.slice,ev,Option.map_none,Option.isSome_none,Bool.false_eq_true,if_false,zdi hr hl hm h1 h2 (Nat.le_refl _),Sem.run_pure]
 ·rename_i e t hT
  obtain⟨xs,h,se⟩:=zy h
  obtain⟨l,m,h,h1,h2,hl,hm⟩:=zuz h
  cases h
  obtain⟨cs,CM,ev⟩:=se X _ _ hx
  obtain⟨A,c,gY,hle,fN⟩:=Yv CM
  rw[gY] at ev
  have hu:=(hE.ty T _ hT).dt
  have hlen:((List.take m xs).drop l).length=m-l:=by rw[List.length_drop,List.length_take,Nat.min_eq_left h2]
  refine aI.plain hr (v:= .slice (if c=l then A else A.map (·.add (l*t.cells))) (m-l) (c-l)) ?_ ⟨_,bh.xM (A:=if c=l then A else A.map (·.add (l*t.cells))) (n:=m-l) (c:=c-l) hlen (by omega) (fun j y hj=> ?_),rfl,mE⟩ (fun _ _ _ e'=>by cases e')
  ·simp only[execOp,ho,Sem.run_bind,Instr.sliceAt,run_underlying hu.1,Result.andThen_ok,Instr.slice,ev,Option.map_none,zdi hr hl hm h1 h2 hle,Sem.run_pure,lK hE hu.2]
  ·have ub:=(List.getElem?_eq_some_iff.1 hj).1
   rw[hlen] at ub
   have J2:xs[l+j]? =some y:=by
    rw[List.getElem?_drop,List.getElem?_take,if_pos (by omega)] at hj
    exact hj
   obtain⟨ad,eH,rfl,mB,aL,eg⟩:=fN (l+j) y J2
   rw[if_neg (by omega)]
   refine⟨ad.add (l*t.cells),eH,rfl,Bb mB _,aL,fun i v hi=> ?_⟩
   rw[QI _ mB,<-Nat.add_assoc,<-Nat.add_mul]
   exact eg i v hi
 ·cases h
theorem adj(hE:ap P E)(hr:Rel X s a){S T:TypeId}{x:Operand}(ho:o.op= .convert S T x)(h:lp E S T (s.aH x) some=some u):aI P X s a o u:=by
 have hx:=hr.aH x
 unfold lp at h
 split at h
 ·rename_i k k' hS hT
  obtain⟨n,h,hn⟩:=zy h
  cases h
  obtain⟨cs,rn,ev⟩:=hn X _ _ hx
  rw[lM rn] at ev
  have hu:=(hE.ty S _ hS).dt
  have hv:=(hE.ty T _ hT).dt
  refine aI.plain hr (v:= .int k' (k'.wrap n)) ?_ js (fun _ _ _ e'=>by cases e')
  simp [execOp,ho,ev,convert,run_underlying hu,run_underlying hv,Conv.intToInt]
 ·rename_i hS hT
  obtain⟨st,h,bR⟩:=zy h
  cases h
  obtain⟨cs,rn,ev⟩:=bR X _ _ hx
  rw[z28 rn] at ev
  have hu:=(hE.ty S _ hS).dt
  have hv:=(hE.ty T _ hT).dt
  refine aI.plain hr (v:= .string st) ?_ Bd (fun _ _ _ e'=>by cases e')
  simp [execOp,ho,ev,convert,run_underlying hu,run_underlying hv]
 ·rename_i e hS hT
  obtain⟨xs,h,se⟩:=zy h
  cases h
  obtain⟨cs,CM,ev⟩:=se X _ _ hx
  obtain⟨A,c,gY,hle,fN⟩:=Yv CM
  rw[gY] at ev
  have hu:=(hE.ty S _ hS).dt
  have he:=(hE.ty e _ hu.2).dt
  have hv:=(hE.ty T _ hT).dt
  refine aI.plain hr (v:= .string (strOf xs)) ?_ Bd (fun _ _ _ e'=>by cases e')
  have key:(convert S T (.slice A (List.length xs) c)).run P X.w= .ok (.string (strOf xs)) X.w:=by
   cases A with
   |none=>
    have uh:xs=[]:=by
     cases xs with
     |nil=>rfl
     |cons y ys=>obtain⟨ad,_,h,_⟩:=fN 0 y rfl;cases h
    rw[run_convert_bytes_nil X.w S e hu.1 he _ _ T hv,uh]
    rfl
   |some ad=>
    rw[run_convert_bytes_string X.w S T e _ _ c hu.1 he hv]
    have kd:(loadCells ad (List.length xs)).run P X.w= .ok (List.map (Value.int .u8) xs).toArray X.w:=by
     have:=run_loadCells_list (P:=P) X.w ad (List.map (Value.int .u8) xs) (fun j v hj=>by
      obtain⟨y,hy,rfl⟩:=List.getElem?_map .. ▸hj|>Option.map_eq_some_iff.1
      obtain⟨qo,eH,h1,mB,aL,eg⟩:=fN j y hy
      cases h1
      have hc:eH=[.int .u8 y]:=aL
      have:=eg 0 (.int .u8 y) (by rw[hc];rfl)
      have h2:=this.2.1
      simpa [Ty.cells] using h2)
     rw[List.length_map] at this
     exact this
    rw[run_bytesToString X.w ad _ c xs kd,foldl_push_bytes]
    simp [strOf,ByteArray.empty,ByteArray.emptyWithCapacity]
    rfl
  simp only[execOp,ho,Sem.run_bind,ev,key,Result.andThen_ok,Sem.run_pure]
 ·cases h
def ax.new(X:ax)(cs:Array Value)(T:TypeId)(w:Ow)(β:Nat->Option Nat):ax:={w:=X.w.alloc (.cells cs T),ow:=fun g=>if g=X.w.heap.size then w else X.ow g,β}
theorem PX(X:ax)(s:State)(cs:Array Value)(T:TypeId)(w:Ow)(β:Nat->Option Nat)(hβ0:β 0=X.β 0)(hβ:∀(id:Nat) B,s.bs[id]? =some (some B)->β id=X.β id):eN s X (X.new cs T w β) where
 size:=by simp [ax.new]
 os:=rfl
 tape:=rfl
 output:=rfl
 mW:=fun g hg=>⟨by simp only[ax.new];rw[if_neg (by omega)],RowKit.Below.heap_alloc _ _ _ hg⟩
 β0:=hβ0
 β:=hβ
theorem PN(X:ax)(cs:Array Value)(T:TypeId)(w:Ow)(β:Nat->Option Nat):(X.new cs T w β).w.heap[X.w.heap.size]? =some (.cells cs T (0,0))/\(X.new cs T w β).ow X.w.heap.size=w:=⟨heap_alloc_new X.w _,by simp [ax.new]⟩
theorem PG(T:TypeId)(v:Value)(w:World):(newVar T v).run P w= .ok ⟨w.heap.size,0,none⟩ (w.alloc (.cells v.cells T)):=by
 simp [newVar,newRow]
theorem Rel.fp{Y:ax}(hr:Rel Y s a){d r:Nat}{B:bE}(hd:d<s.bs.length)(hb:s.bs[d]? =some none)(hβ:Y.β d=some r)(h:bF Y d r B):Rel Y (s.aC (some (d,B))) a where
 size:=hr.size
 gM:=by simpa [State.aC] using hr.gM
 bS:=hr.bS
 boxes:=fun id B' eA=>by
  simp only[State.aC,List.getElem?_set] at eA
  by_cases e:d=id
  ·subst e
   rw[if_pos rfl,if_pos hd] at eA
   cases eA;exact⟨r,hβ,h⟩
  ·rw[if_neg e] at eA
   exact hr.boxes id B' eA
 live:=fun i l id t p hi hm=>by
  obtain⟨B',eA⟩:=hr.live i l id t p hi hm
  simp only[State.aC,List.getElem?_set]
  by_cases e:d=id
  ·subst e;rw[hb] at eA;cases eA
  ·rw[if_neg e];exact⟨B',eA⟩
 defers:=hr.defers
 bz:=hr.bz.aC (hr.bz.none fun a b x own h=>by rw[hb] at h;cases h)
theorem qB{d:Nat}{B:bE}(h:s.box d=some B):s.bs[d]? =some (some B):=by
 unfold State.box at h
 rw[List.getD_eq_getElem?_getD] at h
 cases hg:s.bs[d]? with
 |none=>rw[hg] at h;cases h
 |some x=>rw[hg] at h;simp at h;rw[h]
theorem DC(hr:Rel X s a){x:Operand}{t:Ty}{R:Type}{K:El t->Option R}{z:R}(h:(s.aH x).el t K=some z){c:List (Nat×Nat)}(hc:c=src x\/((s.aH x).own=[]/\c=[])):
 ∃y,K y=some z/\∀q:List Nat->Place,∃Y cs,Y.w=X.w/\Ext X Y/\Rel Y (s.close c) a/\bh Y t y cs/\a.eval x=dR t cs/\bm Y q t y cs (s.aH x).own/\Y.β=X.β/\dX (s.close c) X Y/\lT X Y:=by
 have hx:=hr.aH x
 cases hs:s.aH x with
 |ak t' y' w=>
  rw[hs] at hx h hc
  simp only[SV.el] at h
  split at h
  case isFalse=>cases h
  rename_i heq
  have:=Ty.aJ heq
  subst this
  refine⟨y',h,fun q=> ?_⟩
  have plain:w=[]->∃Y cs,Y.w=X.w/\Ext X Y/\Rel Y (s.close c) a/\bh Y t' y' cs/\a.eval x=dR t' cs/\bm Y q t' y' cs (SV.ak t' y' w).own/\Y.β=X.β/\dX (s.close c) X Y/\lT X Y:=by
   intro hw
   subst hw
   obtain⟨cs,h1,h2,_⟩:=hx
   exact⟨X,cs,rfl,Ext.refl X,hr.close _,h1,h2,mE,rfl,dX.refl _ _,lT.refl X⟩
  rcases hc with hc|⟨hw,_⟩
  ·cases x with
   |tmp i=>
    obtain⟨Y,h1,h2,h3,⟨cs,h4,h5,h6⟩,h7,h8,h9⟩:=hr.take hx q
    subst hc
    exact⟨Y,cs,h1,h2,h3,h4,h5,h6,h7,h8,h9⟩
   |const v=>exact plain (zhy (show Bi v= .ak t' y' w from hs))
   |_=>simp [State.aH,State.xG,one] at hs
  ·exact plain hw
 |cF=>
  rw[hs] at hx h
  cases t<;>simp only[SV.el] at h<;>try(cases h;done)
  rename_i e t
  refine⟨[],h,fun q=>⟨X,[.slice none 0 0],rfl,Ext.refl X,hr.close _,⟨none,0,rfl,Nat.le_refl _,fun j x hj=>by simp at hj⟩,hx,fun p hp=> ?_,rfl,dX.refl _ _,lT.refl X⟩⟩
  have hp:p=[]:=by simpa [SV.own] using hp
  subst hp
  exact⟨e,t,[],_,by simp [Ty.eI],rfl,rfl,.inl ⟨rfl,rfl⟩⟩
 |_=>rw[hs] at h;simp [SV.el] at h
theorem aI.fp{P:Program}(hr:Rel X s a){d:Nat}{T:TypeId}{t:Ty}{y:El t}{cs:List Value}{own:List (List Nat)}{c:List (Nat×Nat)}{W:ax}
 (eb:t.bI=false) (hd:o.dst=some d) (hb:s.bs[d+1]? =some none) (hW:W.w=X.w) (hX:Ext X W) (R0:Rel W (s.close c) a) (aL:bh W t y cs)
 (bU:bm W (.b (d+1)) t y cs own)
 (aX:(execOp a.eval o).run P X.w= .ok (.value (.pointer (some ⟨X.w.heap.size,0,none⟩))) (X.w.alloc (.cells cs.toArray T))):aI P X s a o {v:=[.ptr (d+1) t []],bx:=some (d+1,⟨t,y,own⟩),cl:=c}:=by
 let β:Nat->Option Nat:=fun id=>if id=d+1 then some W.w.heap.size else W.β id
 have ar:d+1<s.bs.length:=(List.getElem?_eq_some_iff.1 hb).1
 have je:(s.close c).bs[d+1]? =some none:=by rw[x5];exact hb
 have hk:eN (s.close c) W (W.new cs.toArray T (.box (d+1)) β):=PX W _ _ _ _ _ (by show(if _ then _ else _)=_;rw[if_neg (by omega)]) (fun id B hB=>by
  show(if id=d+1 then _ else _)=_
  rw[if_neg (fun e=>by rw[e,je] at hB;cases hB)])
 obtain⟨n1,n2⟩:=PN W cs.toArray T (.box (d+1)) β
 have bL:bF (W.new cs.toArray T (.box (d+1)) β) (d+1) W.w.heap.size ⟨t,y,own⟩:=
  ⟨n2,dy.of eb n1 (by simpa using aL.aj (fun _ _=>hk.az)) (by simpa using bU.dv hk)⟩
 have hβd:β (d+1)=some W.w.heap.size:=by show(if d+1=d+1 then _ else _)=_;rw[if_pos rfl]
 have eP:=(R0.dv hk).fp (by rw[x5];exact ar) je hβd bL
 refine⟨W.new cs.toArray T (.box (d+1)) β,.pointer (some ⟨X.w.heap.size,0,none⟩),.inl ?_,hX.trans hk.ext,?_⟩
 ·rw[aX];simp [ax.new,hW]
 ·rw[hd]
  refine eP.put (fun d' e=> ?_) (fun id t' p hm=> ?_)
  ·cases e
   refine⟨W.w.heap.size,hβd,(qA eb).2 ⟨?_,by simp [Ty.eI]⟩⟩
   rw[hW]
   simp [Ty.off]
  ·have:id=d+1:=by have:=hm;simp at this;exact this.1
   subst this
   exact⟨⟨t,y,own⟩,by simp [State.aC,List.getElem?_set,x5,ar]⟩
theorem Tc(hE:ap P E){T:TypeId}{t:Ty}(ht:E.ty T=some t)(w:World):(zeroValue T).run P w= .ok (dR t (zp t)) w:=by
 obtain⟨i,h1,_,_,h2⟩:=(hE.ty T t ht).info
 simp [zeroValue,typeInfo,h1,h2]
theorem L8(X:ax)(pl:List Nat->Place):∀t:Ty,bm X pl t (El.bV t) (zp t) (z40 t):=by
 intro t
 induction t generalizing pl with
 |sl e t=>
  intro p hp
  have hp:p=[]:=by simpa [z40] using hp
  subst hp
  exact⟨e,t,[],.slice none 0 0,by simp [Ty.eI],rfl,rfl,.inl ⟨rfl,rfl⟩⟩
 |pair ta tb mg mh=>
  intro p hp
  simp only[z40,List.mem_append,List.mem_map,List.mem_filterMap] at hp
  rcases hp with⟨q,hq,rfl⟩|⟨q,hq,he⟩
  ·obtain⟨e,t',xs,v,g0,g1,g2,g3⟩:=mg (fun q=>pl (0::q)) q hq
   refine⟨e,t',xs,v,g0,g1,?_,g3⟩
   have hl:=(List.getElem?_eq_some_iff.1 g2).1
   simp only[Ty.off,zp]
   rw[List.getElem?_append_left hl]
   exact g2
  ·cases q with
   |nil=>simp [bump] at he
   |cons j q=>
    simp only[bump,Option.some.injEq] at he
    subst he
    obtain⟨e,t',xs,v,g0,g1,g2,g3⟩:=mh (fun q=>match q with| []=>pl []|j::q=>pl ((j+1)::q)) (j::q) hq
    refine⟨e,t',xs,v,g0,g1,?_,g3⟩
    simp only[Ty.off,zp]
    rw[List.getElem?_append_right (by rw[uZ];omega),uZ,Nat.add_sub_cancel_left]
    exact g2
 |_=>intro p hp;simp [z40] at hp
theorem aI.Cw{P:Program}(hr:Rel X s a){d:Nat}{T e:TypeId}(hd:o.dst=some d)(hb:s.bs[d+1]? =some none)
 (aX:(execOp a.eval o).run P X.w= .ok (.value (.pointer (some ⟨X.w.heap.size,0,none⟩))) (X.w.alloc (.cells #[.pointer none,.slice none 0 0] T))):
 aI P X s a o {v:=[.ptr (d+1) (.aG (.gH T e) .unit .unit) []],bx:=some (d+1,⟨.aG (.gH T e) .unit .unit,(⟨#[]⟩:ByteArray),[[]]⟩)}:=by
 let β:Nat->Option Nat:=fun id=>if id=d+1 then some X.w.heap.size else X.β id
 have ar:d+1<s.bs.length:=(List.getElem?_eq_some_iff.1 hb).1
 have hk:eN s X (X.new #[.pointer none,.slice none 0 0] T (.box (d+1)) β):=PX X _ _ _ _ _ (by show(if _ then _ else _)=_;rw[if_neg (by omega)]) (fun id B hB=>by
  show(if id=d+1 then _ else _)=_
  rw[if_neg (fun e=>by rw[e,hb] at hB;cases hB)])
 obtain⟨n1,n2⟩:=PN X #[.pointer none,.slice none 0 0] T (.box (d+1)) β
 have bL:bF (X.new #[.pointer none,.slice none 0 0] T (.box (d+1)) β) (d+1) X.w.heap.size ⟨.aG (.gH T e) .unit .unit,(⟨#[]⟩:ByteArray),[[]]⟩:=
  ⟨n2,⟨_,n1⟩,fun _=>⟨.slice none 0 0,⟨.inl n1,⟨rfl,.inl ⟨rfl,rfl⟩⟩,by simp [Value.ownBlock]⟩,fun g hg=>by simp [Value.ownBlock] at hg⟩⟩
 have hβd:β (d+1)=some X.w.heap.size:=by show(if d+1=d+1 then _ else _)=_;rw[if_pos rfl]
 have eP:=(hr.dv hk).fp ar hb hβd bL
 refine⟨X.new #[.pointer none,.slice none 0 0] T (.box (d+1)) β,.pointer (some ⟨X.w.heap.size,0,none⟩),.inl aX,hk.ext,?_⟩
 rw[hd]
 refine eP.put (fun d' e=> ?_) (fun id t' p hm=> ?_)
 ·cases e
  exact⟨X.w.heap.size,hβd,(PZ rfl).2 ⟨by simp [Ty.off],by simp [Ty.eI]⟩⟩
 ·have:id=d+1:=by have:=hm;simp at this;exact this.1
  subst this
  exact⟨_,by simp [State.aC,List.getElem?_set,ar];rfl⟩
theorem aI.Cx{P:Program}(hr:Rel X s a){d:Nat}{T:TypeId}{ta tb:Ty}(hd:o.dst=some d)(hb:s.bs[d+1]? =some none)
 (aX:(execOp a.eval o).run P X.w= .ok (.value (.pointer (some ⟨X.w.heap.size,0,none⟩))) (X.w.alloc (.cells (zp ta++ [Value.pointer none,Value.pointer none,Value.int .i64 0]).toArray T))):aI P X s a o {v:=[.ptr (d+1) (.aG .bB ta tb) []],bx:=some (d+1,⟨.aG .bB ta tb,(El.bV ta,(none,none),(0:Int)),[]::z24⟩)}:=by
 let β:Nat->Option Nat:=fun id=>if id=d+1 then some X.w.heap.size else X.β id
 have ar:d+1<s.bs.length:=(List.getElem?_eq_some_iff.1 hb).1
 have hk:eN s X (X.new (zp ta++ [Value.pointer none,Value.pointer none,Value.int .i64 0]).toArray T (.box (d+1)) β):=PX X _ _ _ _ _ (by show(if _ then _ else _)=_;rw[if_neg (by omega)]) (fun id B hB=>by
  show(if id=d+1 then _ else _)=_
  rw[if_neg (fun e=>by rw[e,hb] at hB;cases hB)])
 obtain⟨n1,n2⟩:=PN X (zp ta++ [Value.pointer none,Value.pointer none,Value.int .i64 0]).toArray T (.box (d+1)) β
 have bL:bF (X.new (zp ta++ [Value.pointer none,Value.pointer none,Value.int .i64 0]).toArray T (.box (d+1)) β) (d+1) X.w.heap.size ⟨.aG .bB ta tb,(El.bV ta,(none,none),(0:Int)),[]::z24⟩:=
  ⟨n2,⟨_,n1⟩,fun _=>⟨zp ta,.pointer none,.pointer none,T,n1,(sr X ta).aj (fun _ _=>hk.az),rfl,rfl⟩⟩
 have hβd:β (d+1)=some X.w.heap.size:=by show(if d+1=d+1 then _ else _)=_;rw[if_pos rfl]
 have eP:=(hr.dv hk).fp ar hb hβd bL
 refine⟨X.new _ T (.box (d+1)) β,.pointer (some ⟨X.w.heap.size,0,none⟩),.inl aX,hk.ext,?_⟩
 rw[hd]
 refine eP.put (fun d' e=> ?_) (fun id t' p hm=> ?_)
 ·cases e
  exact⟨X.w.heap.size,hβd,rfl,trivial⟩
 ·have:id=d+1:=by have:=hm;simp at this;exact this.1
  subst this
  exact⟨⟨.aG .bB ta tb,(El.bV ta,(none,none),(0:Int)),[]::z24⟩,by simp [State.aC,List.getElem?_set,ar]⟩
theorem ade(hE:ap P E)(hr:Rel X s a){ops:List Oper}{T:TypeId}(ho:o.op= .alloc T){C:FuncId->bW Out}(h:act E C ops o s some=some u):aI P X s a o u:=by
 unfold act at h
 simp only[ho] at h
 split at h
 case h_3=>cases h
 case h_2=>
  rename_i d hT hd
  split at h
  ·rename_i ta tb Cd
   split at h
   case h_2=>cases h
   rename_i hb
   cases h
   obtain⟨i,h1,h2⟩:=hE.gz T ta tb Cd
   refine aI.Cx hr hd hb (T:=T) ?_
   have hz:(zeroValue T).run P X.w= .ok (.agg (zp ta++ [Value.pointer none,Value.pointer none,Value.int .i64 0]).toArray) X.w:=by simp [zeroValue,typeInfo,h1,h2]
   simp only[execOp,ho,Sem.run_bind,Instr.alloc,hz,Result.andThen_ok,PG,Sem.run_pure]
   rfl
  split at h
  case h_2=>cases h
  rename_i e JP
  split at h
  case h_2=>cases h
  rename_i hb
  cases h
  obtain⟨i,h1,h2⟩:=hE.bl T e JP
  refine aI.Cw hr hd hb ?_
  have hz:(zeroValue T).run P X.w= .ok (.agg #[.pointer none,.slice none 0 0]) X.w:=by simp [zeroValue,typeInfo,h1,h2]
  simp only[execOp,ho,Sem.run_bind,Instr.alloc,hz,Result.andThen_ok,PG,Sem.run_pure]
  rfl
 rename_i t d hT hd
 split at h
 case h_2=>cases h
 rename_i hb
 cases h
 have aL:=sr X t
 refine aI.fp (T:=T) (cs:=zp t) (W:=X) (c:=[]) hr (hE.iW hT) hd hb rfl (Ext.refl X) hr aL (L8 X _ t) ?_
 simp only[execOp,ho,Sem.run_bind,Instr.alloc,Tc hE hT,Result.andThen_ok,PG,vw aL,Sem.run_pure]
theorem ajJ(hE:ap P E)(hr:Rel X s a){ops:List Oper}{T:TypeId}{x:Operand}(ho:o.op= .box T x){C:FuncId->bW Out}(h:act E C ops o s some=some u):aI P X s a o u:=by
 unfold act at h
 simp only[ho] at h
 split at h
 case h_2=>cases h
 rename_i t d hT hd
 split at h
 case h_2=>cases h
 rename_i hb
 obtain⟨y,h,hy⟩:=DC hr h (.inl rfl)
 cases h
 obtain⟨W,cs,h1,h2,h3,h4,h5,h6,_,_,_⟩:=hy (.b (d+1))
 refine aI.fp (T:=T) (cs:=cs) (W:=W) hr (hE.iW hT) hd hb h1 h2 h3 h4 h6 ?_
 simp only[execOp,ho,Sem.run_bind,Instr.box,PG,Result.andThen_ok,Sem.run_pure,h5,vw h4]
end Go.Ref

namespace Go.Ref
open Go
variable {P:Program} {E:Env} {X:ax} {s:State} {a:Act} {o:Oper} {u:Out}
theorem A6(hE:ap P E){T:TypeId}{t:Ty}(ht:E.ty T=some t){x:El t}{cs:List Value}(hr:bh X t x cs){ad:Addr}{w:World}(hc:∀(i:Nat) v,cs[i]? =some v->w.cell? (ad.add i)=some v):(loadVar T ad).run P w= .ok (dR t cs) w:=by
 have hl:=hr.len
 unfold loadVar
 simp only[Sem.run_bind,LZ hE ht,Result.andThen_ok]
 cases hg:t.agg with
 |true=>
  have:=run_loadCells_list (P:=P) w ad cs hc
  rw[hl] at this
  simp only[if_true,Sem.run_bind,lK hE ht,Result.andThen_ok,this,Sem.run_pure,jJ hg]
 |false=>
  have h1:t.cells=1:=by cases t<;>simp_all [Ty.agg,Ty.cells]
  rw[h1] at hl
  match cs,hl with
  | [c],_=>
    rw[QQ hg]
    have:=hc 0 c rfl
    have h0:ad.add 0=ad:=by simp [Addr.add]
    rw[h0] at this
    simp only[Bool.false_eq_true,if_false,run_load,this]
theorem A7{own:List (List Nat)}{p:List Nat}(h:gL own p=true):p∈own:=by
 unfold gL at h
 obtain⟨q,hq,he⟩:=List.any_eq_true.1 h
 rw[<-eq_of_beq he]
 exact hq
theorem zar{own:List (List Nat)}{p q:List Nat}(h:q∈ya own p):q∈own/\p.isPrefixOf q=false:=by
 unfold ya at h
 rw[List.mem_filter] at h
 exact⟨h.1,by simpa using h.2⟩
theorem QS{t:Ty}(h:t.bI=false):t.eJ=false:=by cases t<;>first|rfl|cases h
theorem Rel.oI(hr:Rel X s a){id:Nat}{B:bE}(hb:s.bs[id]? =some (some B))(hg:B.t.eJ=false\/ []∈B.own):∀(i:Nat) (l:List SV) a b j,s.sl[i]? =some l->SV.bz id a b j∈l->False:=hr.bz.none fun c d x own h=>by
 rw[hb] at h
 cases h
 exact hg.resolve_left fun e=>by cases e
theorem Rel.mm{Y:ax}(hr:Rel Y s a){id r:Nat}{B B':bE}(hb:s.bs[id]? =some (some B))(hβ:Y.β id=some r)(h:bF Y id r B')(hg:B.t.eJ=false\/ []∈B.own):Rel Y (s.aC (some (id,B'))) a where
 size:=hr.size
 gM:=by simpa [State.aC] using hr.gM
 bS:=hr.bS
 boxes:=fun bc B2 cU=>by
  have ar:id<s.bs.length:=(List.getElem?_eq_some_iff.1 hb).1
  simp only[State.aC,List.getElem?_set] at cU
  by_cases e:id=bc
  ·subst e
   rw[if_pos rfl,if_pos ar] at cU
   cases cU;exact⟨r,hβ,h⟩
  ·rw[if_neg e] at cU
   exact hr.boxes bc B2 cU
 live:=fun i l bc t p hi hm=>by
  have ar:id<s.bs.length:=(List.getElem?_eq_some_iff.1 hb).1
  obtain⟨B2,cU⟩:=hr.live i l bc t p hi hm
  simp only[State.aC,List.getElem?_set]
  by_cases e:id=bc
  ·subst e;exact⟨B',by rw[if_pos rfl,if_pos ar]⟩
  ·rw[if_neg e];exact⟨B2,cU⟩
 defers:=hr.defers
 bz:=hr.bz.aC (hr.bz.none fun c d x own h=>by
  rw[hb] at h
  cases h
  exact hg.resolve_left fun e=>by cases e)
theorem Sz{id:Nat}{B B':bE}(hb:s.bs[id]? =some (some B)):(s.aC (some (id,B'))).bs[id]? =some (some B'):=by
 have ar:id<s.bs.length:=(List.getElem?_eq_some_iff.1 hb).1
 simp [State.aC,List.getElem?_set,ar]
theorem S1{r off i:Nat}{cs:Array Value}{T:TypeId}{w:World}(h:w.heap[r]? =some (.cells cs T (0,0))){k:Nat}{v:Value}(hv:((cs.toList.drop off).take k)[i]? =some v):w.cell? ((⟨r,off,none⟩:Addr).add i)=some v:=by
 rw[iM]
 rw[List.getElem?_take] at hv
 split at hv
 ·rw[List.getElem?_drop] at hv
  simpa [World.cell?,h] using hv
 ·cases hv
theorem eV:∀(t:Ty) (p:List Nat) (u:Ty),t.at_ p=some u->t.eI p->t.off p+u.cells<=t.cells:=by
 intro t
 induction t with
 |arr n t ih=>
  intro p u h hp
  cases p with
  |nil=>simp only[Ty.at_,Option.some.injEq] at h;subst h;simp [Ty.off]
  |cons i p=>
   have:=ih p u h hp.2
   have hn:(i+1)*t.cells<=n*t.cells:=Nat.mul_le_mul_right _ hp.1
   rw[Nat.add_mul,Nat.one_mul] at hn
   simp only[Ty.off,Ty.cells]
   omega
 |pair x y Kz KA=>
  intro p u h hp
  cases p with
  |nil=>simp only[Ty.at_,Option.some.injEq] at h;subst h;simp [Ty.off]
  |cons i p=>
   cases i with
   |zero=>have:=Kz p u h hp;simp only[Ty.off,Ty.cells];omega
   |succ i=>have:=KA (i::p) u h hp;simp only[Ty.off,Ty.cells];omega
 |_=>
  intro p u h hp
  cases p with
  |nil=>simp only[Ty.at_,Option.some.injEq] at h;subst h;simp [Ty.off]
  |cons i p=>simp [Ty.at_] at h
theorem aon{t:Ty}{p:List Nat}{e:TypeId}{t':Ty}(h:t.eI p)(cg:t.at_ p=some (.sl e t')):t.off p<t.cells:=by
 have:=eV t p _ cg h
 simp only[Ty.cells] at this
 omega
theorem adv:∀{t:Ty} {p q:List Nat} {x:El t} {u:Ty} {y:El u} {r:(u:Ty)×El u},El.get t p x=some ⟨u,y⟩->t.eI (p++q)->El.get t (p++q) x=some r->u.eI q/\El.get u q y=some r:=by
 intro t
 induction t with
 |arr n t ih=>
  intro p q x u y r h1 h2 h3
  cases p with
  |nil=>simp only[El.get,Option.some.injEq,Sigma.mk.injEq] at h1;obtain⟨rfl,h1⟩:=h1;cases h1;exact⟨h2,h3⟩
  |cons i p=>exact ih h1 h2.2 h3
 |pair ta tb mg mh=>
  intro p q x u y r h1 h2 h3
  cases p with
  |nil=>simp only[El.get,Option.some.injEq,Sigma.mk.injEq] at h1;obtain⟨rfl,h1⟩:=h1;cases h1;exact⟨h2,h3⟩
  |cons i p=>
   cases i with
   |zero=>exact mg h1 h2 h3
   |succ i=>exact mh (p:=i::p) h1 h2 h3
 |_=>
  intro p q x u y r h1 h2 h3
  cases p with
  |nil=>simp only[El.get,Option.some.injEq,Sigma.mk.injEq] at h1;obtain⟨rfl,h1⟩:=h1;cases h1;exact⟨h2,h3⟩
  |cons i p=>simp [El.get] at h1
def ax.gQ(X:ax)(id:Nat)(p:List Nat)(q:List Nat->Place):ax:=
 {X with ow:=fun g=>match X.ow g with
  | .row (.b bc p') n=>if bc=id/\p.isPrefixOf p'=true then .row (q (p'.drop p.length)) n else .row (.b bc p') n
  |w=>w}
theorem zwa{s:State}{X:ax}{id:Nat}{p:List Nat}{q:List Nat->Place}(h:∀p',¬cV s (.b id (p++p'))):dX s X (X.gQ id p q):=by
 refine⟨rfl,rfl,fun g=> ?_⟩
 simp only[ax.gQ]
 cases hg:X.ow g with
 |row pl n=>
  cases pl with
  |b bc p'=>
   by_cases e:bc=id/\p.isPrefixOf p'=true
   ·obtain⟨rfl,hp⟩:=e
    obtain⟨r,rfl⟩:=List.isPrefixOf_iff_prefix.1 hp
    exact .inr ⟨_,n,q r,rfl,h r,by simp⟩
   ·exact .inl (if_neg e)
  |_=>exact .inl rfl
 |_=>exact .inl rfl
theorem bq.qy{X:ax}{id:Nat}{p r:List Nat}{q:List Nat->Place}{e:TypeId}{k n:Nat}{v:Value}(h:bq X (.b id (p++r)) e k n v):bq (X.gQ id p q) (q r) e k n v:=by
 rcases h with h|⟨g,cap,cur,h1,h2,h3,h4,h5,h6⟩
 ·exact .inl h
 ·exact .inr ⟨g,cap,cur,h1,h2,h3,h4,h5,by simp [ax.gQ,h6]⟩
theorem Fy(hr:Rel X s a){id:Nat}{t b:Ty}{B:bE}(hB:s.box id=some B)(h:B.t.cn (.aG .row t b)=true):s.bs[id]? =some (some B)/\∃r,X.β id=some r/\X.ow r= .box id/\∃cs T,X.w.heap[r]? =some (.cells cs T (0,0))/\cs.size=List.length (Ty.cast h B.x:List (El t))*t.cells/\
 ∀(j:Nat) (x:El t),(Ty.cast h B.x:List (El t))[j]? =some x->bh X t x ((cs.toList.drop (j*t.cells)).take t.cells):=by
 have hb:=qB hB
 obtain⟨r,h1,h2,h3⟩:=hr.boxes id B hb
 refine⟨hb,r,h1,h2,?_⟩
 obtain⟨bt,bx,bo⟩:=B
 have e:=Ty.aJ h
 simp only at e
 subst e
 obtain⟨cs,T,g1,g2,g3⟩:=h3
 exact⟨cs,T,g1,g2,g3⟩
theorem adi(hE:ap P E)(hr:Rel X s a){S T:TypeId}{x:Operand}(ho:o.op= .convert S T x){id n:Nat}{ta tb:Ty}(dF:s.aH x= .ptr id (.aG (.iQ n) ta tb) [])(h:j9 E S T s id n ta tb some=some u):aI P X s a o u:=by
 have hx:=hr.aH x
 rw[dF] at hx
 obtain⟨r0,hβ,cap,hv,m8⟩:=hx
 unfold j9 at h
 split at h
 case h_2=>cases h
 rename_i e hS hT
 split at h
 case isFalse=>cases h
 rename_i heq
 have:=Ty.aJ heq
 subst this
 split at h
 case h_2=>cases h
 rename_i B hB
 split at h
 case isFalse=>cases h
 rename_i dk
 obtain⟨hb,r,h1,h2,cs,T',aE,di,fN⟩:=Fy hr hB dk
 rw[hβ] at h1
 cases h1
 generalize(Ty.cast dk B.x:List Int)=xs at*
 cases hn:Nat.beq n (List.length xs) with
 |false=>rw[hn] at h;cases h
 |true=>
  rw[hn] at h
  cases h
  have hn:=Nat.eq_of_beq_eq_true hn
  subst hn
  have hu:=(hE.ty S _ hS).dt
  have he:=(hE.ty e _ hu.2).dt
  have hT:=(hE.ty T _ hT).dt
  refine aI.plain hr (v:= .string (strOf xs)) ?_ Bd (fun _ _ _ e'=>by cases e')
  have key:(convert S T (.slice (some ⟨r0,0,none⟩) (List.length xs) cap)).run P X.w= .ok (.string (strOf xs)) X.w:=by
   rw[run_convert_bytes_string X.w S T e _ _ cap hu.1 he hT]
   have kd:(loadCells ⟨r0,0,none⟩ (List.length xs)).run P X.w= .ok (List.map (Value.int .u8) xs).toArray X.w:=by
    have:=run_loadCells_list (P:=P) X.w ⟨r0,0,none⟩ (List.map (Value.int .u8) xs) (fun j v hj=>by
     obtain⟨y,hy,rfl⟩:=List.getElem?_map .. ▸hj|>Option.map_eq_some_iff.1
     have hc:(cs.toList.drop (j*1)).take 1=[.int .u8 y]:=fN j y hy
     have h0:=congrArg (fun l=>l[0]?) hc
     simp only[List.getElem?_take,List.getElem?_drop] at h0
     simp only[Nat.zero_lt_one,if_true,Nat.mul_one,Nat.add_zero,List.getElem?_cons_zero] at h0
     rw[iM,Nat.zero_add]
     simpa [World.cell?,aE] using h0)
    rw[List.length_map] at this
    exact this
   rw[run_bytesToString X.w _ _ cap xs kd,foldl_push_bytes]
   simp [strOf,ByteArray.empty,ByteArray.emptyWithCapacity]
   rfl
  simp only[execOp,ho,Sem.run_bind,hv,key,Result.andThen_ok,Sem.run_pure]
theorem agc(hE:ap P E)(hr:Rel X s a){ops:List Oper}{S T:TypeId}{x:Operand}(ho:o.op= .convert S T x){C:FuncId->bW Out}(h:act E C ops o s some=some u):aI P X s a o u:=by
 unfold act at h
 simp only[ho] at h
 split at h
 ·rename_i id n ta tb dF
  exact adi hE hr ho dF h
 ·exact adj hE hr ho h
theorem Fv(hr:Rel X s a){id:Nat}{ta tb:Ty}{R:Type}{K:El (.aG .bB ta tb)->List (List Nat)->Option R}{z:R}(h:nN s id ta tb K=some z):
 ∃(x:El (.aG .bB ta tb)) (own:List (List Nat)) (r:Nat),s.bs[id]? =some (some ⟨.aG .bB ta tb,x,own⟩)/\K x own=some z/\(∀p∈z24,p∈own)/\X.β id=some r/\X.ow r= .box id/\ig X r (.b id) ta tb x:=by
 unfold nN at h
 split at h
 case h_2=>cases h
 rename_i B hB
 split at h
 case isFalse=>cases h
 rename_i dk
 have hb:=qB hB
 obtain⟨bt,bx,bo⟩:=B
 have e:=Ty.aJ dk
 simp only at e
 subst e
 cases ho:z24.all (gL bo) with
 |false=>simp only[ho] at h;cases h
 |true=>
  simp only[ho,cond_true] at h
  have bU:∀p∈z24,p∈bo:=fun p hp=>by
   have:=List.all_eq_true.1 ho p hp
   unfold gL at this
   obtain⟨q,h1,h2⟩:=List.any_eq_true.1 this
   have:q=p:=by simpa using h2
   rw[<-this];exact h1
  obtain⟨r,h1,h2,h3⟩:=hr.boxes id _ hb
  exact⟨bx,bo,r,hb,h,bU,h1,h2,h3.2 bU⟩
theorem zqo{w:World}{r k:Nat}{l:List Value}{T:TypeId}{v:Value}(h:w.heap[r]? =some (.cells l.toArray T (0,0)))(hv:l[k]? =some v):w.cell? ⟨r,k,none⟩=some v:=by
 simp only[World.cell?,h]
 simpa using hv
theorem Rel.CG(hr:Rel X s a){d:Option Nat}{id j:Nat}{ta tb:Ty}{x:El (.aG .bB ta tb)}{own:List (List Nat)}{v:Value}(hb:s.bs[id]? =some (some ⟨.aG .bB ta tb,x,own⟩))(ho: []∉own)
 (nJ:∀(i:Nat) (l:List SV) a b j,s.sl[i]? =some l->SV.bz id a b j∈l->False) (hv:∀pl,aA X pl (.bz id ta tb j) v):Rel X (s.av d [.bz id ta tb j]) (a.put d v):=by
 cases d with
 |none=>exact hr
 |some d=>
  have ej:∀(i:Nat) (l:List SV),(s.av (some d) [.bz id ta tb j]).sl[i]? =some l->(i=d/\l=[.bz id ta tb j])\/(i≠d/\s.sl[i]? =some l):=fun i l hi=>by
   simp only[State.av,List.getElem?_set] at hi
   by_cases e:d=i
   ·rw[if_pos e] at hi
    split at hi
    ·cases hi;exact .inl ⟨e.symm,rfl⟩
    ·cases hi
   ·rw[if_neg e] at hi
    exact .inr ⟨fun h=>e h.symm,hi⟩
  refine⟨by simpa [State.av,Act.put] using hr.size,by simpa [State.av] using hr.gM,fun i l v' hi ji=> ?_,hr.boxes,fun i l bc t p hi hm=> ?_,hr.defers,fun i l bc a' b' j' hi hm=> ?_⟩
  ·simp only[Act.put,Array.getElem?_setIfInBounds] at ji
   rcases ej i l hi with⟨rfl,rfl⟩|⟨bM,hi⟩
   ·rw[if_pos rfl] at ji
    split at ji
    ·cases ji;exact hv (.c i 0)
    ·cases ji
   ·rw[if_neg (fun e=>bM e.symm)] at ji
    exact hr.bS i l v' hi ji
  ·rcases ej i l hi with⟨rfl,rfl⟩|⟨_,hi⟩
   ·simp at hm
   ·exact hr.live i l bc t p hi hm
  ·rcases ej i l hi with⟨rfl,rfl⟩|⟨bM,oo⟩
   ·simp only[List.mem_singleton,SV.bz.injEq] at hm
    obtain⟨rfl,rfl,rfl,rfl⟩:=hm
    refine⟨rfl,⟨x,own,hb,ho⟩,fun i' l' a' b' j' xl rZ=> ?_⟩
    rcases ej i' l' xl with⟨e1,_⟩|⟨_,Zm⟩
    ·exact e1
    ·exact(nJ i' l' a' b' j' Zm rZ).elim
   ·obtain⟨g1,g2,g3⟩:=hr.bz i l bc a' b' j' oo hm
    refine⟨g1,g2,fun i' l' a'' b'' j'' xl rZ=> ?_⟩
    rcases ej i' l' xl with⟨_,e2⟩|⟨_,Zm⟩
    ·rw[e2] at rZ
     simp only[List.mem_singleton,SV.bz.injEq] at rZ
     obtain⟨e3,_,_,_⟩:=rZ
     rw[e3] at hm
     exact(nJ i l a' b' j' oo hm).elim
    ·exact g3 i' l' a'' b'' j'' Zm rZ
theorem ado(hE:ap P E)(hr:Rel X s a){T:TypeId}{x:Operand}(ho:o.op= .load T x)(h:ko E T s (s.aH x) some=some u):aI P X s a o u:=by
 have hx:=hr.aH x
 unfold ko at h
 split at h
 case h_2=>cases h
 rename_i id ta tb j dF
 rw[dF] at hx
 obtain⟨r0,hβ,hv,hj⟩:=hx
 have hv:a.eval x= .pointer (some ⟨r0,ta.cells+j,none⟩):=hv
 have hj:j<2:=hj
 split at h
 case isFalse=>cases h
 rename_i kF
 obtain⟨e,hu⟩:=hE.pt T kF
 obtain⟨x0,own,r,hb,h,bU,h1,how,c,p0,p1,T',aE,aL,sc,sd⟩:=Fv hr h
 rw[hβ] at h1
 cases h1
 cases gY:gL own [] with
 |false=>rw[gY] at h;cases h
 |true=>
 rw[gY,cond_true] at h
 cases h
 have gY:=A7 gY
 obtain⟨v,dN⟩:∃v,(c++ [p0,p1,Value.int .i64 x0.2.2])[ta.cells+j]? =some v:=by
  rw[List.getElem?_append_right (by rw[aL.len];omega),aL.len,Nat.add_sub_cancel_left]
  match j,hj with
  |0,_=>exact⟨_,rfl⟩
  |1,_=>exact⟨_,rfl⟩
 have hc:=zqo aE dN
 have aX:(execOp a.eval o).run P X.w= .ok (.value v) X.w:=by
  have hl:(loadVar T ⟨r0,ta.cells+j,none⟩).run P X.w= .ok v X.w:=by
   unfold loadVar
   have hag:(isAgg T).run P X.w= .ok false X.w:=by simp [isAgg,run_underlying hu]
   simp only[Sem.run_bind,hag,Result.andThen_ok,Bool.false_eq_true,if_false,run_load,hc]
  simp only[execOp,ho,Sem.run_bind,Instr.loadAt,hv,Instr.sureAddr,Sem.run_pure,Result.andThen_ok,hl]
 have hg:ig X r0 (.b id) ta tb x0:=⟨c,p0,p1,T',aE,aL,sc,sd⟩
 have iz:=hr.bz.none (d:=id) fun a' b' x' jF h=>by rw[hb] at h;cases h;exact gY
 have dQ:=hr.mm (B':=⟨.aG .bB ta tb,x0,own.filter fun q=> !q.isEmpty⟩) hb hβ ⟨how,⟨_,aE⟩,fun _=>hg⟩ (.inr gY)
 refine⟨X,v,.inl aX,Ext.refl X,dQ.CG (Sz hb) (fun hm=> ?_) iz fun pl=>⟨r0,hβ,how,hc⟩⟩
 have:=(List.mem_filter.1 hm).2
 simp at this
theorem ab5(hE:ap P E)(hr:Rel X s a){T:TypeId}{u':Ty}{x:Operand}(ho:o.op= .load T x)(hT:E.ty T=some u'){id:Nat}{t:Ty}{p:List Nat}(dF:s.aH x= .ptr id t p)(h:Fw u' s id t p some=some u):aI P X s a o u:=by
 have hx:=hr.aH x
 rw[dF] at hx
 obtain⟨r0,hβ,hv⟩:=hx
 unfold Fw at h
 split at h
 case h_4=>cases h
 case h_2=>
  rename_i ta tb
  split at h
  case isFalse=>cases h
  rename_i heq
  have:=Ty.aJ heq
  subst this
  obtain⟨x0,own,r,hb,h,_,h1,h2,c,p0,p1,T',aE,aL,_⟩:=Fv hr h
  rw[hβ] at h1
  cases h1
  cases h
  have hv:a.eval x= .pointer (some ⟨r0,0,none⟩):=by
   have:=hv.1
   rw[this];simp [m4,Ty.off]
  refine aI.plain hr ?_ (Bk aL) (fun _ _ _ e'=>by cases e')
  have hl:=A6 hE hT aL (ad:=⟨r0,0,none⟩) (w:=X.w) (fun j v hj=>by
   rw[iM,Nat.zero_add]
   refine zqo aE ?_
   rw[List.getElem?_append_left ((List.getElem?_eq_some_iff.1 hj).1)];exact hj)
  simp only[execOp,ho,Sem.run_bind,Instr.loadAt,hv,Instr.sureAddr,Sem.run_pure,Result.andThen_ok,hl]
 case h_3=>
  rename_i ta tb
  split at h
  case isFalse=>cases h
  rename_i heq
  have:=Ty.aJ heq
  subst this
  obtain⟨x0,own,r,hb,h,_,h1,h2,c,p0,p1,T',aE,aL,_⟩:=Fv hr h
  rw[hβ] at h1
  cases h1
  cases h
  have hv:a.eval x= .pointer (some ⟨r0,ta.cells+2,none⟩):=hv.1
  have hl:=A6 (P:=P) hE hT (X:=X) (x:=x0.2.2) (cs:=[.int .i64 x0.2.2]) rfl (ad:=⟨r0,ta.cells+2,none⟩) (w:=X.w) (fun j v hj=>by
   cases j with
   |succ j=>simp at hj
   |zero=>
    rw[iM,Nat.add_zero]
    refine zqo aE ?_
    rw[List.getElem?_append_right (by rw[aL.len];omega),aL.len,Nat.add_sub_cancel_left]
    exact hj)
  refine aI.plain hr (v:=dR (.int .i64) [.int .i64 x0.2.2]) ?_ js (fun _ _ _ e'=>by cases e')
  simp only[execOp,ho,Sem.run_bind,Instr.loadAt,hv,Instr.sureAddr,Sem.run_pure,Result.andThen_ok,hl]
 rename_i ta tb i
 split at h
 case h_2=>cases h
 rename_i B hB
 split at h
 case isFalse=>cases h
 rename_i dk
 split at h
 case isFalse=>cases h
 rename_i heq
 have:=Ty.aJ heq
 subst this
 obtain⟨hb,r,h1,h2,cs,T',aE,di,fN⟩:=Fy hr hB dk
 rw[hβ] at h1
 cases h1
 generalize(Ty.cast dk B.x:List (El u'))=xs at*
 cases hn:Nat.ble (i+1) (List.length xs) with
 |false=>rw[hn] at h;cases h
 |true=>
  rw[hn] at h
  cases h
  have ar:i<List.length xs:=Nat.le_of_ble_eq_true hn
  have aL:=fN i _ (getD_some (El.bV u') ar)
  have hv:a.eval x= .pointer (some ⟨r0,i*u'.cells,none⟩):=hv
  refine aI.plain hr ?_ (Bk aL) (fun _ _ _ e'=>by cases e')
  have hl:=A6 hE hT aL (ad:=⟨r0,i*u'.cells,none⟩) (w:=X.w) (fun j v hj=>S1 aE hj)
  simp only[execOp,ho,Sem.run_bind,Instr.loadAt,hv,Instr.sureAddr,Sem.run_pure,Result.andThen_ok,hl]
theorem ab4(hE:ap P E)(hr:Rel X s a){T:TypeId}{u':Ty}{x:Operand}(ho:o.op= .load T x)(hT:E.ty T=some u'){id:Nat}{t:Ty}{p:List Nat}(dF:s.aH x= .ptr id t p){B:bE}(hB:s.box id=some B)(h:G8 u' B t p some=some u):aI P X s a o u:=by
 have hx:=hr.aH x
 rw[dF] at hx
 obtain⟨r0,hβ,hv⟩:=hx
 unfold G8 at h
 split at h
 case h_2=>cases h
 rename_i n e
 split at h
 case isFalse=>cases h
 rename_i dk
 split at h
 case isFalse=>cases h
 rename_i heq
 have:=Ty.aJ heq
 subst this
 obtain⟨hb,r,h1,h2,cs,T',aE,di,fN⟩:=Fy hr hB dk
 rw[hβ] at h1
 cases h1
 generalize(Ty.cast dk B.x:List (El e))=xs at*
 cases hn:Nat.beq n (List.length xs) with
 |false=>rw[hn] at h;cases h
 |true=>
  rw[hn] at h
  cases h
  have hn:=Nat.eq_of_beq_eq_true hn
  have aL:bh X (.arr n e) xs cs.toList:=⟨hn.symm,by rw[hn];simpa using di,fN⟩
  have hv:=((qA rfl).1 hv).1
  have hv:a.eval x= .pointer (some ⟨r0,0,none⟩):=by rw[hv];rfl
  refine aI.plain hr ?_ (Bk aL) (fun _ _ _ e'=>by cases e')
  have hl:=A6 hE hT aL (ad:=⟨r0,0,none⟩) (w:=X.w) (fun j v hj=>S1 (off:=0) (k:=cs.toList.length) aE (by rw[List.drop_zero,List.take_length];exact hj))
  simp only[execOp,ho,Sem.run_bind,Instr.loadAt,hv,Instr.sureAddr,Sem.run_pure,Result.andThen_ok,hl]
theorem agf(hE:ap P E)(hr:Rel X s a){ops:List Oper}{T:TypeId}{x:Operand}(ho:o.op= .load T x){C:FuncId->bW Out}(h:act E C ops o s some=some u):aI P X s a o u:=by
 unfold act at h
 simp only[ho] at h
 have hx:=hr.aH x
 unfold load at h
 split at h
 case h_2=>exact ado hE hr ho h
 rename_i u' hT
 split at h
 ·rename_i t y e
  rw[e] at hx
  obtain⟨ad,cs,hv,mB,aL,eg⟩:=hx
  split at h
  case isFalse=>cases h
  rename_i heq
  have:=Ty.aJ heq
  subst this
  cases h
  refine aI.plain hr ?_ (Bk aL) (fun _ _ _ e'=>by cases e')
  have hl:=A6 hE hT aL (ad:=ad) (w:=X.w) (fun i v hi=>(eg i v hi).2.1)
  simp only[execOp,ho,Sem.run_bind,Instr.loadAt,hv,Instr.sureAddr,Sem.run_pure,Result.andThen_ok,hl]
 ·rename_i id t p e
  rw[e] at hx
  obtain⟨r,hβ,hx⟩:=hx
  split at h
  ·exact ab5 hE hr ho hT e h
  rename_i eb
  have eb:t.bI=false:=by simpa using eb
  obtain⟨hv,dm⟩:=(qA eb).1 hx
  split at h
  case h_2=>cases h
  rename_i B hB
  split at h
  case isFalse=>exact ab4 hE hr ho hT e hB h
  rename_i heq
  have dk:=Ty.aJ heq
  split at h
  case h_2=>cases h
  rename_i ut y cB
  split at h
  case isFalse=>cases h
  rename_i B9
  have:=Ty.aJ B9
  subst this
  have hb:=qB hB
  obtain⟨r',hβ',tT⟩:=hr.boxes id B hb
  rw[hβ] at hβ'
  cases hβ'
  subst dk
  obtain⟨cs,T',aE,aL,how,bU⟩:=tT.cells eb
  obtain⟨k1,k2,k3⟩:=QO aL dm cB
  have hl:=A6 hE hT k3 (ad:=⟨r,B.t.off p,none⟩) (w:=X.w) (fun i v hi=>S1 aE hi)
  have aX:(execOp a.eval o).run P X.w= .ok (.value (dR u' ((cs.toList.drop (B.t.off p)).take u'.cells))) X.w:=by
   simp only[execOp,ho,Sem.run_bind,Instr.loadAt,hv,Instr.sureAddr,Sem.run_pure,Result.andThen_ok,hl]
  cases hc:Ys ops o.dst||AN E ops o.dst||Ph ops o.dst with
  |false=>
   rw[hc] at h
   cases h
   exact aI.plain hr aX (Bk k3) (fun _ _ _ e'=>by cases e')
  |true=>
   rw[hc] at h
   cases h
   have dQ:Rel X (s.aC (some (id,{B with own:=ya B.own p}))) a:=hr.mm hb hβ ⟨how,dy.of eb aE aL fun q hq=>bU q (zar hq).1⟩ (.inl (QS eb))
   have Ge:∀q,¬cV (s.aC (some (id,{B with own:=ya B.own p}))) (.b id (p++q)):=by
    rintro q ⟨B2,cU,hp⟩
    rw[Sz hb] at cU
    cases cU
    have:=(zar hp).2
    rw[List.isPrefixOf_iff_prefix.2 (List.prefix_append p q)] at this
    cases this
   have mz:=zwa (X:=X) (q:= .c (o.dst.getD 0) 0) Ge
   refine⟨X.gQ id p (.c (o.dst.getD 0) 0),_,.inl aX,mz.ext,(dQ.mod mz.mod).fin ⟨_,k3.aj (fun _ _=>mz.az.1),rfl,?_⟩ (fun id t p hm=>by simp at hm)⟩
   intro q hq
   obtain⟨q0,hq0,rfl⟩:=List.mem_map.1 hq
   obtain⟨hq1,ZJ⟩:=List.mem_filter.1 hq0
   obtain⟨q,rfl⟩:=List.isPrefixOf_iff_prefix.1 ZJ
   rw[List.drop_left]
   obtain⟨e',t',xs,v,h0,h1,h2,h3⟩:=bU _ hq1
   obtain⟨j1,j2⟩:=adv cB h0 h1
   have hle:=aon j1 (Rx _ _ _ _ _ j2)
   refine⟨e',t',xs,v,j1,j2,?_,h3.qy⟩
   rw[Gs _ _ _ _ k1] at h2
   rw[List.getElem?_take,if_pos hle,List.getElem?_drop]
   exact h2
 ·cases h
theorem zis{cs c:List Value}{off:Nat}(h:off+c.length<=cs.length)(j k:Nat):(∀h1:j+k<=off\/off+c.length<=j,((cs.take off++c++cs.drop (off+c.length)).drop j).take k=(cs.drop j).take k):=by
 intro h1
 apply List.ext_getElem?
 intro q
 simp only[List.getElem?_take,List.getElem?_drop]
 split
 ·rename_i hq
  rw[List.append_assoc]
  rcases h1 with h1|h1
  ·rw[List.getElem?_append_left (by rw[List.length_take];omega),List.getElem?_take,if_pos (by omega)]
  ·rw[List.getElem?_append_right (by rw[List.length_take];omega),List.length_take,Nat.min_eq_left (by omega),List.getElem?_append_right (by omega),List.getElem?_drop]
   congr 1
   omega
 ·rfl
theorem fw{X:ax}:∀{t:Ty} {p:List Nat} {x:El t} {cs:List Value} {u:Ty} {y:El u} {z:El t} {c:List Value},bh X t x cs->t.eI p->t.at_ p=some u->El.set t p x u y=some z->bh X u y c->
 bh X t z (cs.take (t.off p)++c++cs.drop (t.off p+c.length)):=by
 intro t
 induction t with
 |arr n t ih=>
  intro p x cs u y z c hr hp cg h hc
  have fk:=hc.len
  cases p with
  |nil=>
   simp only[Ty.at_,Option.some.injEq] at cg
   subst cg
   simp only[El.set,Ty.ci,dite_true,Option.some.injEq] at h
   subst h
   have hl:=hr.len
   simp only[Ty.off,Nat.zero_add,List.take_zero,List.nil_append]
   rw[fk,<-hl,List.drop_length,List.append_nil]
   exact hc
  |cons i p=>
   obtain⟨hi,hp⟩:=hp
   obtain⟨h1,h2,h3⟩:=hr
   simp only[El.set] at h
   obtain⟨z',nj,rfl⟩:=Option.map_eq_some_iff.1 h
   have m6:t.at_ p=some u:=cg
   have hle:=eV t p u m6 hp
   have hn:(i+1)*t.cells<=n*t.cells:=Nat.mul_le_mul_right _ hi
   rw[Nat.add_mul,Nat.one_mul] at hn
   have xl:=ih (h3 i _ (getD_some (El.bV t) (by omega))) hp m6 nj hc
   have dg:i*t.cells+t.off p+c.length<=cs.length:=by rw[fk,h2];omega
   refine⟨by simpa using h1,?_,fun j w hj=> ?_⟩
   ·simp only[Ty.off,List.length_append,List.length_take,List.length_drop];omega
   ·simp only[Ty.off]
    by_cases e:j=i
    ·subst e
     rw[List.getElem?_set_self (by omega)] at hj
     cases hj
     have hL:((cs.take (j*t.cells+t.off p)++c++cs.drop (j*t.cells+t.off p+c.length)).drop (j*t.cells)).take t.cells=
      ((cs.drop (j*t.cells)).take t.cells).take (t.off p)++c++((cs.drop (j*t.cells)).take t.cells).drop (t.off p+c.length):=by
      apply List.ext_getElem?
      intro q
      rw[List.append_assoc,List.append_assoc]
      simp only[List.getElem?_take,List.getElem?_drop,List.getElem?_append,List.length_take,List.length_drop]
      rw[Nat.min_eq_left (show j*t.cells+t.off p<=cs.length by omega),Nat.min_eq_left (show t.cells<=cs.length-j*t.cells by omega),Nat.min_eq_left (show t.off p<=t.cells by omega)]
      by_cases q1:q<t.cells
      ·by_cases q2:q<t.off p
       ·rw[if_pos q1,if_pos (by omega),if_pos (by omega),if_pos q2,if_pos q2,if_pos q1]
       ·by_cases q3:q-t.off p<c.length
        ·rw[if_pos q1,if_neg (by omega),if_pos (by omega),if_neg q2,if_pos q3]
         congr 1
         omega
        ·rw[if_pos q1,if_neg (by omega),if_neg (by omega),if_neg q2,if_neg q3,if_pos (by omega)]
         congr 1
         omega
      ·rw[if_neg q1,if_neg (by omega),if_neg (by omega),if_neg (by omega)]
     rw[hL]
     exact xl
    ·rw[List.getElem?_set_ne (Ne.symm e)] at hj
     have ub:=(List.getElem?_eq_some_iff.1 hj).1
     rw[zis dg (j*t.cells) t.cells ?_]
     ·exact h3 j w hj
     ·rcases Nat.lt_or_gt_of_ne e with ar|hgt
      ·have:(j+1)*t.cells<=i*t.cells:=Nat.mul_le_mul_right _ ar
       rw[Nat.add_mul,Nat.one_mul] at this
       exact .inl (by omega)
      ·have:(i+1)*t.cells<=j*t.cells:=Nat.mul_le_mul_right _ hgt
       rw[Nat.add_mul,Nat.one_mul] at this
       exact .inr (by omega)
 |pair ta tb mg mh=>
  intro p x cs u y z c hr hp cg h hc
  have fk:=hc.len
  cases p with
  |nil=>
   simp only[Ty.at_,Option.some.injEq] at cg
   subst cg
   simp only[El.set,Ty.ci,dite_true,Option.some.injEq] at h
   subst h
   have hl:=hr.len
   simp only[Ty.off,Nat.zero_add,List.take_zero,List.nil_append]
   rw[fk,<-hl,List.drop_length,List.append_nil]
   exact hc
  |cons i p=>
   obtain⟨c1,c2,rfl,r1,r2⟩:=hr
   have l1:=r1.len
   have l2:=r2.len
   cases i with
   |zero=>
    simp only[El.set] at h
    obtain⟨z',nj,rfl⟩:=Option.map_eq_some_iff.1 h
    have m6:ta.at_ p=some u:=cg
    have hle:=eV ta p u m6 hp
    have:=mg r1 hp m6 nj hc
    refine⟨_,c2,?_,this,r2⟩
    simp only[Ty.off]
    rw[List.take_append_of_le_length (by omega),List.drop_append_of_le_length (by omega)]
    simp [List.append_assoc]
   |succ i=>
    simp only[El.set] at h
    obtain⟨z',nj,rfl⟩:=Option.map_eq_some_iff.1 h
    have m6:tb.at_ (i::p)=some u:=cg
    have hle:=eV tb (i::p) u m6 hp
    have:=mh r2 hp m6 nj hc
    refine⟨c1,_,?_,r1,this⟩
    simp only[Ty.off]
    rw[<-l1,List.take_length_add_append,Nat.add_assoc,List.drop_length_add_append]
    simp [List.append_assoc]
 |_=>
  intro p x cs u y z c hr hp cg h hc
  have fk:=hc.len
  cases p with
  |nil=>
   simp only[Ty.at_,Option.some.injEq] at cg
   subst cg
   simp only[El.set,Ty.ci,dite_true,Option.some.injEq] at h
   first|subst h|skip
   have hl:=hr.len
   simp only[Ty.off,Nat.zero_add,List.take_zero,List.nil_append]
   rw[fk,<-hl,List.drop_length,List.append_nil]
   exact hc
  |cons i p=>simp [Ty.at_] at cg
end Go.Ref

namespace Go.Ref
open Go
variable {P:Program} {E:Env} {X:ax} {s:State} {a:Act} {o:Oper} {u:Out}
theorem abJ:∀{t:Ty} {p q:List Nat} {x:El t} {u:Ty} {y:El u} {z:El t} {e:TypeId} {t':Ty} {xs:El (.sl e t')},El.set t p x u y=some z->t.at_ p=some u->t.eI p->t.eI q->p.isPrefixOf q=false->El.get t q x=some ⟨.sl e t',xs⟩->
 El.get t q z=some ⟨.sl e t',xs⟩/\(t.off q+1<=t.off p\/t.off p+u.cells<=t.off q):=by
 intro t
 induction t with
 |arr n t ih=>
  intro p q x u y z e t' xs hs cg hp hq gj hg
  cases p with
  |nil=>simp at gj
  |cons i p=>
   cases q with
   |nil=>simp [El.get] at hg
   |cons j q=>
    simp only[El.set] at hs
    obtain⟨z',nj,rfl⟩:=Option.map_eq_some_iff.1 hs
    by_cases YU:i=j
    ·subst YU
     have nf:p.isPrefixOf q=false:=by simpa [List.isPrefixOf] using gj
     obtain⟨h1,h2⟩:=ih nj cg hp.2 hq.2 nf hg
     refine⟨?_,by simp only[Ty.off];omega⟩
     simp only[El.get]
     by_cases hl:i<List.length x
     ·rw[List.getD_eq_getElem?_getD,List.getElem?_set_self hl]
      exact h1
     ·have fo:List.set x i z'=x:=by rw[List.set_eq_of_length_le (Nat.le_of_not_lt hl)]
      rw[fo];exact hg
    ·refine⟨?_,?_⟩
     ·simp only[El.get] at hg⊢
      rw[List.getD_eq_getElem?_getD,List.getElem?_set_ne YU,<-List.getD_eq_getElem?_getD]
      exact hg
     ·have a1:=eV t p u cg hp.2
      have a2:t.off q+1<=t.cells:=by
       have:=eV t q _ (Rx t q _ _ _ hg) hq.2
       simpa [Ty.cells] using this
      simp only[Ty.off]
      rcases Nat.lt_or_gt_of_ne YU with h|h
      ·have:(i+1)*t.cells<=j*t.cells:=Nat.mul_le_mul_right _ h
       rw[Nat.add_mul,Nat.one_mul] at this
       omega
      ·have:(j+1)*t.cells<=i*t.cells:=Nat.mul_le_mul_right _ h
       rw[Nat.add_mul,Nat.one_mul] at this
       omega
 |pair ta tb mg mh=>
  intro p q x u y z e t' xs hs cg hp hq gj hg
  cases p with
  |nil=>simp at gj
  |cons i p=>
   cases q with
   |nil=>simp [El.get] at hg
   |cons j q=>
    cases i with
    |zero=>
     simp only[El.set] at hs
     obtain⟨z',nj,rfl⟩:=Option.map_eq_some_iff.1 hs
     cases j with
     |zero=>
      have nf:p.isPrefixOf q=false:=by simpa [List.isPrefixOf] using gj
      obtain⟨h1,h2⟩:=mg nj cg hp hq nf hg
      exact⟨h1,by simp only[Ty.off];omega⟩
     |succ j=>
      have a1:=eV ta p u cg hp
      exact⟨hg,by simp only[Ty.off];omega⟩
    |succ i=>
     simp only[El.set] at hs
     obtain⟨z',nj,rfl⟩:=Option.map_eq_some_iff.1 hs
     cases j with
     |zero=>
      have a2:ta.off q+1<=ta.cells:=by
       have:=eV ta q _ (Rx ta q _ _ _ hg) hq
       simpa [Ty.cells] using this
      exact⟨hg,by simp only[Ty.off];omega⟩
     |succ j=>
      have nf:(i::p).isPrefixOf (j::q)=false:=by
       simp [List.isPrefixOf] at gj⊢
       exact gj
      obtain⟨h1,h2⟩:=mh nj cg hp hq nf hg
      exact⟨h1,by simp only[Ty.off];omega⟩
 |_=>
  intro p q x u y z e t' xs hs cg hp hq gj hg
  cases p with
  |nil=>simp at gj
  |cons i p=>simp [Ty.at_] at cg
def ax.row(X:ax)(r:Nat)(cs:Array Value):ax:={X with w:=X.w.setRow r cs}
theorem mF{r id:Nat}{cs:Array Value}(h:X.ow r= .box id){ad:Addr}{v:Value}(hs:X.az ad v):(X.row r cs).az ad v:=by
 have bM:ad.block≠r:=fun e=>by
  have:=hs.2.2
  rw[e,h] at this
  exact this
 refine⟨hs.1,?_,hs.2.2⟩
 have:=hs.2.1
 simp only[World.cell?,ax.row] at this⊢
 rw[setRow_other X.w r ad.block cs bM]
 exact this
theorem Fz{r id:Nat}{cs:Array Value}(h:X.ow r= .box id):Ext X (X.row r cs) where
 az:=fun _ _=>mF h
 size:=by simp [ax.row]
 os:=rfl
 tape:=rfl
 output:=rfl
 β0:=rfl
 still:=fun g _ bR=>by
  have bM:g≠r:=fun e=>by rw[e,h] at bR;exact bR
  exact⟨rfl,setRow_other X.w r g cs bM⟩
theorem bq.row{r id:Nat}{cs:Array Value}(h:X.ow r= .box id){pl:Place}{e:TypeId}{k n:Nat}{v:Value}(ho:bq X pl e k n v):bq (X.row r cs) pl e k n v:=by
 rcases ho with ho|⟨g,cap,cur,h1,h2,h3,h4,h5,h6⟩
 ·exact .inl ho
 ·have bM:g≠r:=fun e=>by rw[e,h] at h6;cases h6
  exact .inr ⟨g,cap,cur,h1,(setRow_other X.w r g cs bM).trans h2,h3,h4,h5,h6⟩
theorem bm.row{r id:Nat}{cs:Array Value}(h:X.ow r= .box id){pl:List Nat->Place}{t:Ty}{x:El t}{c:List Value}{own:List (List Nat)}(ho:bm X pl t x c own):bm (X.row r cs) pl t x c own:=fun p hp=>by
 obtain⟨e,t',xs,v,g0,g1,g2,g3⟩:=ho p hp
 exact⟨e,t',xs,v,g0,g1,g2,g3.row h⟩
theorem aA.row{r id:Nat}{cs:Array Value}(h:X.ow r= .box id){pl:List Nat->Place}{sv:SV}{v:Value}(hk:∀bc a b j,sv= .bz bc a b j->bc≠id)(hr:aA X pl sv v):aA (X.row r cs) pl sv v:=by
 cases sv with
 |undef=>trivial
 |skip=>exact hr
 |cF=>exact hr
 |dS=>exact hr
 |over=>exact hr
 |ak t x own=>
  obtain⟨c,h1,h2,h3⟩:=hr
  exact⟨c,h1.aj (fun _ _=>mF h),h2,h3.row h⟩
 |ptr id t p=>exact hr
 |view t x=>
  obtain⟨ad,c,h1,h2,h3,h4⟩:=hr
  exact⟨ad,c,h1,h2,h3.aj (fun _ _=>mF h),fun i u hi=>mF h (h4 i u hi)⟩
 |cap f t x u y=>exact rN (fun _ _=>mF h) hr
 |bz bc a b j=>
  obtain⟨r',h1,h2,h3⟩:=hr
  have bM:r'≠r:=fun e=>by rw[e,h] at h2;injection h2 with h2;exact hk bc a b j rfl h2.symm
  refine⟨r',h1,h2,?_⟩
  simp only[World.cell?] at h3⊢
  rw[show(X.row r cs).w.heap[r']? =X.w.heap[r']? from setRow_other X.w r r' cs bM];exact h3
theorem Rel.row{r id:Nat}{B B':bE}{cs:Array Value}(hr:Rel X s a)(hb:s.bs[id]? =some (some B))(hβ:X.β id=some r)(h:X.ow r= .box id)(hB:bF (X.row r cs) id r B')(hg:B.t.eJ=false\/ []∈B.own):Rel (X.row r cs) (s.aC (some (id,B'))) a where
 size:=hr.size
 gM:=by simpa [State.aC] using hr.gM
 bS:=fun i l v hl hv=>(hr.bS i l v hl hv).iT fun j sv u hm jM=>jM.row h (fun bc a b k e e2=>hr.oI hb hg i l a b k hl (e2▸e▸List.mem_of_getElem? hm))
 boxes:=fun bc B2 cU=>by
  have ar:id<s.bs.length:=(List.getElem?_eq_some_iff.1 hb).1
  simp only[State.aC,List.getElem?_set] at cU
  by_cases e:id=bc
  ·subst e
   rw[if_pos rfl,if_pos ar] at cU
   cases cU;exact⟨r,hβ,hB⟩
  ·rw[if_neg e] at cU
   obtain⟨r',h1,h4,h2⟩:=hr.boxes bc B2 cU
   have bM:r'≠r:=fun e2=>by rw[e2,h] at h4;cases h4;exact e rfl
   exact⟨r',h1,h4,h2.move (fun _ _=>mF h) (setRow_other X.w r r' cs bM) (fun cs h5=>h5.row h) fun _ _ g o _ ho hw=>⟨(setRow_other X.w r g cs (fun e3=>by rw[e3,h] at hw;cases hw)).trans ho,hw⟩⟩
 live:=fun i l bc t p hi hm=>by
  have ar:id<s.bs.length:=(List.getElem?_eq_some_iff.1 hb).1
  obtain⟨B2,cU⟩:=hr.live i l bc t p hi hm
  simp only[State.aC,List.getElem?_set]
  by_cases e:id=bc
  ·subst e;exact⟨B',by rw[if_pos rfl,if_pos ar]⟩
  ·rw[if_neg e];exact⟨B2,cU⟩
 defers:=hr.defers
 bz:=hr.bz.aC (hr.oI hb hg)
theorem Gm(hE:ap P E){T:TypeId}{t:Ty}(ht:E.ty T=some t){x:El t}{cs:List Value}(hr:bh X t x cs){r off:Nat}{cur:Array Value}{T':TypeId}{w:World}(hg:w.heap[r]? =some (.cells cur T' (0,0)))(hf:off+t.cells<=cur.size):
 (storeVar T ⟨r,off,none⟩ (dR t cs)).run P w= .ok () (w.setRow r (cur.toList.take off++cs++cur.toList.drop (off+cs.length)).toArray):=by
 have hl:=hr.len
 have bR:=run_storeCells_at P r off T' cs 0 cur w hg (by omega) hr.one
 simp only[Nat.add_zero] at bR
 unfold storeVar
 simp only[Sem.run_bind,lK hE ht,Result.andThen_ok,vw hr]
 rw[if_neg (by simp [hl])]
 exact bR
theorem acF:∀{t:Ty} {p q:List Nat} {x:El t} {u:Ty} {y:El u} {z:El t} {r:(u:Ty)×El u} {X:ax} {cs:List Value},bh X t x cs->El.set t p x u y=some z->t.at_ p=some u->t.eI p->El.get u q y=some r->El.get t (p++q) z=some r:=by
 intro t
 induction t with
 |arr n t ih=>
  intro p q x u y z r X cs hr hs cg hp hg
  cases p with
  |nil=>
   simp only[Ty.at_,Option.some.injEq] at cg
   subst cg
   simp only[El.set,Ty.ci,dite_true,Option.some.injEq] at hs
   subst hs
   exact hg
  |cons i p=>
   simp only[El.set] at hs
   obtain⟨z',nj,rfl⟩:=Option.map_eq_some_iff.1 hs
   obtain⟨h1,h2,h3⟩:=hr
   have hi:i<List.length x:=by rw[h1];exact hp.1
   simp only[El.get,List.cons_append]
   rw[List.getD_eq_getElem?_getD,List.getElem?_set_self hi]
   exact ih (h3 i _ (getD_some _ hi)) nj cg hp.2 hg
 |pair ta tb mg mh=>
  intro p q x u y z r X cs hr hs cg hp hg
  cases p with
  |nil=>
   simp only[Ty.at_,Option.some.injEq] at cg
   subst cg
   simp only[El.set,Ty.ci,dite_true,Option.some.injEq] at hs
   subst hs
   exact hg
  |cons i p=>
   obtain⟨c1,c2,_,r1,r2⟩:=hr
   cases i with
   |zero=>
    simp only[El.set] at hs
    obtain⟨z',nj,rfl⟩:=Option.map_eq_some_iff.1 hs
    exact mg r1 nj cg hp hg
   |succ i=>
    simp only[El.set] at hs
    obtain⟨z',nj,rfl⟩:=Option.map_eq_some_iff.1 hs
    exact mh (p:=i::p) r2 nj cg hp hg
 |_=>
  intro p q x u y z r X cs hr hs cg hp hg
  cases p with
  |nil=>
   simp only[Ty.at_,Option.some.injEq] at cg
   subst cg
   simp only[El.set,Ty.ci,dite_true,Option.some.injEq] at hs
   first|subst hs|skip
   exact hg
  |cons i p=>simp [Ty.at_] at cg
theorem OH{t u:Ty}{p:List Nat}{x z:El t}{y:El u}{cs cv:List Value}{own oy:List (List Nat)}{pl:List Nat->Place}(hr:bh X t x cs)(dm:t.eI p)(cg:t.at_ p=some u)(fo:El.set t p x u y=some z)(rep:bh X u y cv)
 (ho:bm X pl t x cs own) (hy:bm X (fun q=>pl (p++q)) u y cv oy):bm X pl t z (cs.take (t.off p)++cv++cs.drop (t.off p+cv.length)) (oy.map (fun q=>p++q)++ya own p):=by
 have fk:=rep.len
 have hle:=eV t p u cg dm
 have eD:=hr.len
 intro q hq
 rcases List.mem_append.1 hq with hq|hq
 ·obtain⟨q,ZJ,rfl⟩:=List.mem_map.1 hq
  obtain⟨e,t',xs,v,g0,g1,g2,g3⟩:=hy q ZJ
  have ar:=(List.getElem?_eq_some_iff.1 g2).1
  refine⟨e,t',xs,v,PF t p q u cg dm g0,acF hr fo cg dm g1,?_,g3⟩
  rw[Gs t p q u cg,List.append_assoc,List.getElem?_append_right (by rw[List.length_take];omega),List.length_take,Nat.min_eq_left (by omega),Nat.add_sub_cancel_left,List.getElem?_append_left ar]
  exact g2
 ·obtain⟨hqm,gj⟩:=zar hq
  obtain⟨e,t',xs,v,g0,g1,g2,g3⟩:=ho q hqm
  obtain⟨k1,k2⟩:=abJ fo cg dm g0 gj g1
  refine⟨e,t',xs,v,g0,k1,?_,g3⟩
  have mB:=zis (cs:=cs) (c:=cv) (off:=t.off p) (by omega) (t.off q) 1 (by rw[fk];omega)
  have h0:=congrArg (fun l=>l[0]?) mB
  simp only[List.getElem?_take,List.getElem?_drop] at h0
  simp only[Nat.zero_lt_one,if_true,Nat.add_zero] at h0
  rw[h0];exact g2
theorem abI(hE:ap P E)(hr:Rel X s a){T:TypeId}{u0:Ty}{x y:Operand}(ho:o.op= .store T x y)(hT:E.ty T=some u0){id:Nat}{t:Ty}{p:List Nat}(dF:s.aH x= .ptr id t p)(h:E7 u0 s id t p (s.aH y) some=some u):aI P X s a o u:=by
 have hx:=hr.aH x
 rw[dF] at hx
 obtain⟨r0,hβ,hv⟩:=hx
 unfold E7 at h
 split at h
 case h_4=>cases h
 case h_2=>
  rename_i ta tb q
  split at h
  case h_2=>cases h
  rename_i u' cg
  split at h
  case isFalse=>cases h
  rename_i heq
  have:=Ty.aJ heq
  subst this
  obtain⟨x0,own,r,hb,h,bU,h1,how,c,p0,p1,T',aE,aL,sc,sd⟩:=Fv hr h
  rw[hβ] at h1
  cases h1
  obtain⟨yv,h,hy⟩:=zy h
  split at h
  case h_2=>cases h
  rename_i z hz
  cases gY:gL own [] with
  |false=>rw[gY] at h;cases h
  |true=>
  rw[gY,cond_true] at h
  cases h
  have gY:=A7 gY
  obtain⟨cv,rep,ev⟩:=hy X _ _ (hr.aH y)
  have dm:ta.eI q:=hv.2
  have hv:a.eval x= .pointer (some ⟨r0,ta.off q,none⟩):=hv.1
  have fk:=aL.len
  have hle:=eV ta q u' cg dm
  have hvl:=rep.len
  have bR:=Gm (P:=P) hE hT rep (off:=ta.off q) (w:=X.w) (r:=r0) (T':=T') aE (by simp;omega)
  have fC:(c++ [p0,p1,Value.int .i64 x0.2.2]).take (ta.off q)++cv++(c++ [p0,p1,Value.int .i64 x0.2.2]).drop (ta.off q+cv.length)=(c.take (ta.off q)++cv++c.drop (ta.off q+cv.length))++ [p0,p1,Value.int .i64 x0.2.2]:=by
   rw[List.take_append_of_le_length (by omega),List.drop_append_of_le_length (by omega)]
   simp only[List.append_assoc]
  have aX:(execOp a.eval o).run P X.w= .ok .skip ((X.row r0 ((c.take (ta.off q)++cv++c.drop (ta.off q+cv.length))++ [p0,p1,Value.int .i64 x0.2.2]).toArray).w):=by
   simp only[execOp,ho,Sem.run_bind,Instr.storeAt,hv,Instr.sureAddr,Sem.run_pure,Result.andThen_ok,ev,bR]
   have e2:(List.take (ta.off q) (c++ [p0,p1,Value.int .i64 x0.2.2]).toArray.toList++cv++List.drop (ta.off q+cv.length) (c++ [p0,p1,Value.int .i64 x0.2.2]).toArray.toList)=(c.take (ta.off q)++cv++c.drop (ta.off q+cv.length))++ [p0,p1,Value.int .i64 x0.2.2]:=fC
   rw[e2]
   rfl
  have bL:bF (X.row r0 ((c.take (ta.off q)++cv++c.drop (ta.off q+cv.length))++ [p0,p1,Value.int .i64 x0.2.2]).toArray) id r0 ⟨.aG .bB ta tb,(z,x0.2),own⟩:=by
   have hg:∀p∈z24,∀g o k,X.w.heap[g]? =some o->X.ow g= .row (.b id p) k->(X.row r0 ((c.take (ta.off q)++cv++c.drop (ta.off q+cv.length))++ [p0,p1,Value.int .i64 x0.2.2]).toArray).w.heap[g]? =some o/\(X.row r0 ((c.take (ta.off q)++cv++c.drop (ta.off q+cv.length))++ [p0,p1,Value.int .i64 x0.2.2]).toArray).ow g= .row (.b id p) k:=fun p _ g o k hg hw=>by
    have bM:g≠r0:=fun e=>by rw[e,how] at hw;cases hw
    exact⟨(setRow_other X.w r0 g _ bM).trans hg,hw⟩
   refine⟨how,⟨_,setRow_heap X.w r0 _ _ T' (0,0) aE⟩,fun _=>⟨c.take (ta.off q)++cv++c.drop (ta.off q+cv.length),p0,p1,T',setRow_heap X.w r0 _ _ T' (0,0) aE,(fw aL dm cg hz rep).aj (fun _ _=>mF how),sc.move (fun _ _=>mF how) fun p hp=> ?_,sd.move (fun _ _=>mF how) fun p hp=> ?_⟩⟩
   ·rcases hp with rfl|rfl<;>exact hg _ (by simp [z24])
   ·rcases hp with rfl|rfl<;>exact hg _ (by simp [z24])
  exact⟨X.row r0 _,Go.undef,.inr ⟨aX,rfl⟩,Fz how,(hr.row (cs:=_) hb hβ how bL (.inr gY)).skip o.dst⟩
 case h_3=>
  rename_i ta tb
  split at h
  case isFalse=>cases h
  rename_i heq
  have:=Ty.aJ heq
  subst this
  obtain⟨x0,own,r,hb,h,bU,h1,how,c,p0,p1,T',aE,aL,sc,sd⟩:=Fv hr h
  rw[hβ] at h1
  cases h1
  obtain⟨n,h,hy⟩:=zy h
  cases gY:gL own [] with
  |false=>rw[gY] at h;cases h
  |true=>
  rw[gY,cond_true] at h
  cases h
  have gY:=A7 gY
  obtain⟨cv,rep,ev⟩:=hy X _ _ (hr.aH y)
  have rep:cv=[.int .i64 n]:=rep
  subst rep
  have hv:a.eval x= .pointer (some ⟨r0,ta.cells+2,none⟩):=hv.1
  have fk:=aL.len
  have bR:=Gm (P:=P) hE hT (X:=X) (x:=n) (cs:=[.int .i64 n]) rfl (off:=ta.cells+2) (w:=X.w) (r:=r0) (T':=T') aE (by simp [Ty.cells];omega)
  have fC:(c++ [p0,p1,Value.int .i64 x0.2.2]).take (ta.cells+2)++ [Value.int .i64 n]++(c++ [p0,p1,Value.int .i64 x0.2.2]).drop (ta.cells+2+1)=c++ [p0,p1,Value.int .i64 n]:=by
   rw[<-fk,List.take_append,List.drop_append]
   simp [List.take_of_length_le,List.drop_eq_nil_of_le]
   omega
  have aX:(execOp a.eval o).run P X.w= .ok .skip ((X.row r0 (c++ [p0,p1,Value.int .i64 n]).toArray).w):=by
   simp only[execOp,ho,Sem.run_bind,Instr.storeAt,hv,Instr.sureAddr,Sem.run_pure,Result.andThen_ok,ev,bR]
   have e2:(List.take (ta.cells+2) (c++ [p0,p1,Value.int .i64 x0.2.2]).toArray.toList++ [Value.int .i64 n]++List.drop (ta.cells+2+ [Value.int .i64 n].length) (c++ [p0,p1,Value.int .i64 x0.2.2]).toArray.toList)=c++ [p0,p1,Value.int .i64 n]:=fC
   rw[e2]
   rfl
  have bL:bF (X.row r0 (c++ [p0,p1,Value.int .i64 n]).toArray) id r0 ⟨.aG .bB ta tb,(x0.1,x0.2.1,n),own⟩:=by
   have hm:ig X r0 (.b id) ta tb x0:=⟨c,p0,p1,T',aE,aL,sc,sd⟩
   have hg:∀p∈z24,∀g o k,X.w.heap[g]? =some o->X.ow g= .row (.b id p) k->(X.row r0 (c++ [p0,p1,Value.int .i64 n]).toArray).w.heap[g]? =some o/\(X.row r0 (c++ [p0,p1,Value.int .i64 n]).toArray).ow g= .row (.b id p) k:=fun p _ g o k hg hw=>by
    have bM:g≠r0:=fun e=>by rw[e,how] at hw;cases hw
    exact⟨(setRow_other X.w r0 g _ bM).trans hg,hw⟩
   refine⟨how,⟨_,setRow_heap X.w r0 _ _ T' (0,0) aE⟩,fun _=>⟨c,p0,p1,T',setRow_heap X.w r0 _ _ T' (0,0) aE,aL.aj (fun _ _=>mF how),sc.move (fun _ _=>mF how) fun p hp=> ?_,sd.move (fun _ _=>mF how) fun p hp=> ?_⟩⟩
   ·rcases hp with rfl|rfl<;>exact hg _ (by simp [z24])
   ·rcases hp with rfl|rfl<;>exact hg _ (by simp [z24])
  exact⟨X.row r0 _,Go.undef,.inr ⟨aX,rfl⟩,Fz how,(hr.row (cs:=_) hb hβ how bL (.inr gY)).skip o.dst⟩
 rename_i ta tb i
 split at h
 case h_2=>cases h
 rename_i B hB
 split at h
 case isFalse=>cases h
 rename_i dk
 split at h
 case isFalse=>cases h
 rename_i heq
 have:=Ty.aJ heq
 subst this
 obtain⟨hb,r,h1,how,cs,T',aE,di,fN⟩:=Fy hr hB dk
 rw[hβ] at h1
 cases h1
 obtain⟨yv,h,hy⟩:=zy h
 obtain⟨cv,rep,ev⟩:=hy X _ _ (hr.aH y)
 generalize(Ty.cast dk B.x:List (El ta))=xs at*
 cases hn:Nat.ble (i+1) (List.length xs) with
 |false=>rw[hn] at h;cases h
 |true=>
  rw[hn] at h
  cases h
  have ar:i<List.length xs:=Nat.le_of_ble_eq_true hn
  have hv:a.eval x= .pointer (some ⟨r0,i*ta.cells,none⟩):=hv
  have fk:=rep.len
  have hmul:(i+1)*ta.cells<=List.length xs*ta.cells:=Nat.mul_le_mul_right _ ar
  rw[Nat.add_mul,Nat.one_mul] at hmul
  have dg:i*ta.cells+ta.cells<=cs.size:=by omega
  have tZ:i*ta.cells+cv.length<=cs.toList.length:=by simp;omega
  let new:=(cs.toList.take (i*ta.cells)++cv++cs.toList.drop (i*ta.cells+cv.length)).toArray
  have gZ:new.toList=cs.toList.take (i*ta.cells)++cv++cs.toList.drop (i*ta.cells+cv.length):=rfl
  have aX:(execOp a.eval o).run P X.w= .ok .skip ((X.row r0 new).w):=by
   have bR:=Gm (P:=P) hE hT rep (off:=i*ta.cells) (w:=X.w) (r:=r0) (cur:=cs) (T':=T') aE dg
   simp only[execOp,ho,Sem.run_bind,Instr.storeAt,hv,Instr.sureAddr,Sem.run_pure,Result.andThen_ok,ev,bR]
   rfl
  have b8:new.size=cs.size:=by
   have:new.toList.length=cs.toList.length:=by rw[gZ];simp;omega
   simpa using this
  have bL:bF (X.row r0 new) id r0 ⟨.aG .row ta tb,(List.set xs i yv:List (El ta)),[]⟩:=by
   refine⟨how,new,T',setRow_heap X.w r0 cs new T' (0,0) aE,?_,fun j z hj=> ?_⟩
   ·rw[b8,di]
    show _=List.length (List.set xs i yv)*_
    rw[List.length_set]
   ·refine bh.aj (fun _ _=>mF (cs:=new) how) ?_
    have hj:(List.set xs i yv)[j]? =some z:=hj
    rw[gZ]
    by_cases e:i=j
    ·subst e
     rw[List.getElem?_set_self ar] at hj
     cases hj
     have:((cs.toList.take (i*ta.cells)++cv++cs.toList.drop (i*ta.cells+cv.length)).drop (i*ta.cells)).take ta.cells=cv:=by
      rw[List.append_assoc,List.drop_append_of_le_length (by rw[List.length_take];omega),List.drop_eq_nil_of_le (by rw[List.length_take];omega),List.nil_append,<-fk,List.take_left]
     rw[this]
     exact rep
    ·rw[List.getElem?_set_ne e] at hj
     rw[zis (cs:=cs.toList) (c:=cv) (off:=i*ta.cells) tZ (j*ta.cells) ta.cells ?_]
     ·exact fN j z hj
     ·rcases Nat.lt_or_gt_of_ne e with h|h
      ·have:(i+1)*ta.cells<=j*ta.cells:=Nat.mul_le_mul_right _ h
       rw[Nat.add_mul,Nat.one_mul] at this
       right;omega
      ·have:(j+1)*ta.cells<=i*ta.cells:=Nat.mul_le_mul_right _ h
       rw[Nat.add_mul,Nat.one_mul] at this
       left;omega
  exact⟨X.row r0 new,Go.undef,.inr ⟨aX,rfl⟩,Fz how,(hr.row (cs:=new) hb hβ how bL (.inl (by rw[Ty.aJ dk];rfl))).skip o.dst⟩
theorem adq(hE:ap P E)(hr:Rel X s a){ops:List Oper}{T:TypeId}{x y:Operand}(ho:o.op= .store T x y){C:FuncId->bW Out}(h:act E C ops o s some=some u):aI P X s a o u:=by
 unfold act at h
 simp only[ho] at h
 have hx:=hr.aH x
 unfold store at h
 split at h
 case h_2=>cases h
 rename_i u0 hT
 split at h
 case h_2=>cases h
 rename_i id t p e
 rw[e] at hx
 obtain⟨r,hβ,hx⟩:=hx
 split at h
 ·exact abI hE hr ho hT e h
 rename_i eb
 have eb:t.bI=false:=by simpa using eb
 obtain⟨hv,dm⟩:=(qA eb).1 hx
 split at h
 case h_2=>cases h
 rename_i B hB
 split at h
 case isFalse=>cases h
 rename_i heq
 have dk:=Ty.aJ heq
 subst dk
 split at h
 case h_2=>cases h
 rename_i u' cg
 split at h
 case isFalse=>cases h
 rename_i B9
 have:=Ty.aJ B9
 subst this
 have hb:=qB hB
 obtain⟨yv,h,hy⟩:=DC hr h (.inl rfl)
 split at h
 case h_2=>cases h
 rename_i z fo
 cases h
 obtain⟨W,cv,hW,hX,R0,rep,ev,hO,hβ2,mz,_⟩:=hy (fun q=> .b id (p++q))
 obtain⟨r',hβW,tT⟩:=R0.boxes id B (by rw[x5];exact hb)
 obtain⟨cs,T2,aE,aL,how,bU⟩:=tT.cells eb
 have hrr:r'=r:=by
  rw[hβ2,hβ] at hβW
  exact(Option.some.inj hβW).symm
 subst hrr
 have dg:B.t.off p+u'.cells<=cs.size:=by
  have:=eV B.t p u' cg dm
  have hl:=aL.len
  simp at hl
  omega
 let new:=(cs.toList.take (B.t.off p)++cv++cs.toList.drop (B.t.off p+cv.length)).toArray
 have aX:(execOp a.eval o).run P X.w= .ok .skip ((W.row r' new).w):=by
  have bR:=Gm (P:=P) hE hT rep (off:=B.t.off p) (w:=X.w) (r:=r') (cur:=cs) (T':=T2) (by rw[<-hW];exact aE) dg
  simp only[execOp,ho,Sem.run_bind,Instr.storeAt,hv,Instr.sureAddr,Sem.run_pure,Result.andThen_ok,ev,bR]
  rw[<-hW];rfl
 have um:=OH aL dm cg fo rep bU hO
 have bL:bF (W.row r' new) id r' {t:=B.t,x:=z,own:=(s.aH y).own.map (fun q=>p++q)++ya B.own p}:=by
  refine⟨how,dy.of eb (setRow_heap W.w r' cs new T2 (0,0) aE) ?_ ?_⟩
  ·have:=(fw aL dm cg fo rep).aj (fun _ _=>mF (cs:=new) how)
   simpa [new] using this
  ·have:=um.row (cs:=new) how
   simpa [new] using this
 have eP:=R0.row (cs:=new) (by rw[x5];exact hb) hβW how bL (.inl (QS eb))
 exact⟨W.row r' new,Go.undef,.inr ⟨aX,rfl⟩,hX.trans (Fz how),eP.skip o.dst⟩
end Go.Ref

namespace Go.Ref
open Go
variable {P:Program} {E:Env} {X:ax} {s:State} {a:Act} {o:Oper} {u:Out}
theorem M5(off:Nat):∀(l:List Value) (k:Nat) (cs:Array Value),off+k+l.length<=cs.size->
 ((l.zipIdx k).foldl (fun cs p=>cs.setIfInBounds (off+p.2) p.1) cs).toList=cs.toList.take (off+k)++l++cs.toList.drop (off+k+l.length)
 | [],k,cs,h=>by simp
 |v::r,k,cs,h=>by
  simp only[List.length_cons] at h
  simp only[List.zipIdx_cons,List.foldl_cons]
  rw[M5 off r (k+1) _ (by simp;omega)]
  simp only[Array.toList_setIfInBounds,List.length_cons]
  apply List.ext_getElem?
  intro q
  simp only[List.getElem?_append,List.getElem?_take,List.getElem?_drop,List.length_append,List.length_take,List.length_set,Array.length_toList,List.getElem?_set,List.length_cons,List.getElem?_cons]
  rw[Nat.min_eq_left (show off+(k+1)<=cs.size by omega),Nat.min_eq_left (show off+k<=cs.size by omega)]
  by_cases h1:q<off+k
  ·rw[if_pos (by omega),if_pos (by omega),if_pos (by omega),if_neg (by omega),if_pos (by omega),if_pos (by omega),if_pos (by omega)]
  ·by_cases h2:q=off+k
   ·subst h2
    rw[if_pos (by omega),if_pos (by omega),if_pos (by omega),if_pos rfl,if_pos (by omega),if_pos (by omega),if_neg (by omega),if_pos (by omega)]
   ·by_cases h3:q<off+(k+1)+r.length
    ·rw[if_pos (by omega),if_neg (by omega),if_pos (by omega),if_neg (by omega),if_neg (by omega)]
     try(congr 1<;>omega)
    ·rw[if_neg (by omega),if_neg (by omega),if_neg (by omega)]
     first|done|(congr 1;omega)
theorem zqr(off:Nat)(l:List Value)(cs:Array Value)(h:off+l.length<=cs.size):
 ((l.toArray.zipIdx).foldl (fun cs (p:Value×Nat)=>cs.setIfInBounds (off+p.2) p.1) cs).toList=cs.toList.take off++l++cs.toList.drop (off+l.length):=by
 have:=M5 off l 0 cs (by omega)
 rw[<-Array.foldl_toList,Array.toList_zipIdx]
 simpa using this
theorem M1(hr:Rel X s a){t:Ty}{pl:Nat->Option (Nat×Nat)}(fO:∀i ft,t.at_ [i]=some ft->t.kP i=true->t.eI [i]/\pl i=some (t.off [i],ft.cells)){R:Type}{K:El t->List (List Nat)->Option R}{z:R}:
 ∀(parts:List (Nat×Operand)) (x:El t) (own:List (List Nat)) (cs:Array Value),bh X t x cs.toList->rQ t x own (parts.map fun p=>(p.1,s.aH p.2,[])) K=some z->
  ∃y jF cells,K y jF=some z/\Instr.fill pl cs (parts.map fun p=>(p.1,a.eval p.2))=some cells/\bh X t y cells.toList
 | [],x,own,cs,rep,h=>⟨x,own,cs,h,rfl,rep⟩
 |(i,p)::r,x,own,cs,rep,h=>by
  simp only[List.map_cons,rQ] at h
  split at h
  case isTrue=>cases h
  rename_i hb
  have hb:t.kP i=true:=by cases tV:t.kP i<;>simp_all
  split at h
  case h_2=>cases h
  rename_i ft cg
  obtain⟨y,h,hy⟩:=zy h
  split at h
  case h_2=>cases h
  rename_i x' fo
  obtain⟨c,rc,ec⟩:=hy X _ _ (hr.aH p)
  obtain⟨dm,hp⟩:=fO i ft cg hb
  have fk:=rc.len
  have eD:=rep.len
  have hle:=eV t [i] ft cg dm
  have uu:=fw rep dm cg fo rc
  have dg:t.off [i]+c.length<=cs.size:=by rw[fk];simp at eD;omega
  have lu:=zqr (t.off [i]) c cs dg
  obtain⟨y2,kv,cells,h1,h2,h3⟩:=M1 hr fO r x' _ _ (by rw[lu];exact uu) h
  refine⟨y2,kv,cells,h1,?_,h3⟩
  simp only[List.map_cons,Instr.fill,hp,ec,vw rc]
  rw[if_neg (by simp only[List.size_toArray,fk];simp;simp at eD;omega)]
  exact h2
theorem SH{t:Ty}{pl:Nat->Option (Nat×Nat)}(fO:∀i ft,t.at_ [i]=some ft->t.kP i=true->t.eI [i]/\pl i=some (t.off [i],ft.cells)){R:Type}{K:El t->List (List Nat)->Option R}{z:R}:
 ∀(parts:List (Nat×Operand)) (X:ax) (s:State) (x:El t) (own:List (List Nat)) (cs:Array Value),Rel X s a->bh X t x cs.toList->bm X (.r 0) t x cs.toList own->rQ t x own (z21 s parts).1 K=some z->
  ∃y jF cells Y,K y jF=some z/\Y.w=X.w/\Ext X Y/\Rel Y (s.close (z21 s parts).2) a/\Instr.fill pl cs (parts.map fun p=>(p.1,a.eval p.2))=some cells/\bh Y t y cells.toList/\bm Y (.r 0) t y cells.toList jF
 | [],X,s,x,own,cs,hr,rep,ho,h=>⟨x,own,cs,X,h,rfl,Ext.refl X,hr,rfl,rep,ho⟩
 |(i,p)::r,X,s,x,own,cs,hr,rep,ho,h=>by
  simp only[z21,rQ] at h
  split at h
  case isTrue=>cases h
  rename_i hb
  have hb:t.kP i=true:=by cases tV:t.kP i<;>simp_all
  split at h
  case h_2=>cases h
  rename_i ft cg
  have hc:x9 (s.aH p).own p=src p\/((s.aH p).own=[]/\x9 (s.aH p).own p=[]):=by
   cases bU:(s.aH p).own with
   |nil=>exact .inr ⟨rfl,rfl⟩
   |cons _ _=>exact .inl rfl
  obtain⟨y,h,hy⟩:=DC hr h hc
  split at h
  case h_2=>cases h
  rename_i x' fo
  obtain⟨Y,c,hw,aZ,bu,rc,ec,hO,hβ,hT,bR⟩:=hy (fun q=> .r 0 ([i]++q))
  obtain⟨dm,hp⟩:=fO i ft cg hb
  have fk:=rc.len
  have eD:=rep.len
  have hle:=eV t [i] ft cg dm
  have KT:=rep.mono aZ
  have hoY:=ho.stay bR (by simp)
  have uu:=fw KT dm cg fo rc
  have um:=OH KT dm cg fo rc hoY hO
  have dg:t.off [i]+c.length<=cs.size:=by rw[fk];simp at eD;omega
  have lu:=zqr (t.off [i]) c cs dg
  obtain⟨y2,kv,cells,Z,h1,vp,cc,c9,h2,h3,h4⟩:=SH fO r Y _ x' _ _ bu (by rw[lu];exact uu) (by rw[lu];exact um) h
  refine⟨y2,kv,cells,Z,h1,vp.trans hw,aZ.trans cc,?_,?_,h3,h4⟩
  ·simp only[z21,zhv]
   exact c9
  ·simp only[List.map_cons,Instr.fill,hp,ec,vw rc]
   rw[if_neg (by simp only[List.size_toArray,fk];simp;simp at eD;omega)]
   exact h2
theorem Dx(hE:ap P E):∀(fl:List Field) (t:Ty) (off:Nat),ju E fl t off->∃places,fl.mapM (fun(f:Field)=>(P.info? f.type).map fun i=>(f.offset,i.size))=some places/\
 ∀(j:Nat) (f:Field) (ft:Ty),fl[j]? =some f->E.ty f.type=some ft->places[j]? =some (f.offset,ft.cells)
 | [],t,off,h=>⟨[],rfl,fun j f ft hj=>by simp at hj⟩
 |f::r,t,off,h=>by
  cases t<;>simp only[ju] at h<;>try exact h.elim
  rename_i ta tb
  obtain⟨h1,h2,h3,h4⟩:=h
  obtain⟨places,g1,g2⟩:=Dx hE r tb _ h4
  obtain⟨i,i1,i2,_⟩:=(hE.ty _ _ h2).info
  refine⟨(f.offset,i.size)::places,?_,fun j g gt hj hg=> ?_⟩
  ·simp [List.mapM_cons,i1,g1]
  ·cases j with
   |zero=>
    simp only[List.getElem?_cons_zero,Option.some.injEq] at hj
    subst hj
    rw[h2] at hg
    cases hg
    simp [i2]
   |succ j=>
    simp only[List.getElem?_cons_succ] at hj⊢
    exact g2 j g gt hj hg
theorem afW(hE:ap P E)(hr:Rel X s a){T:TypeId}{t:Ty}(hT:E.ty T=some t)(rl:t.agg=true){R:Type}{K:El t->List (List Nat)->Option R}{z:R}(parts:Array (Nat×Operand))
 (h:rQ t (El.bV t) (z40 t) (z21 s parts.toList).1 K=some z):
 ∃y own cs Y,K y own=some z/\Y.w=X.w/\Ext X Y/\Rel Y (s.close (z21 s parts.toList).2) a/\bh Y t y cs/\bm Y (.r 0) t y cs own/\(Instr.build T (parts.map fun(i,x)=>(i,a.eval x))).run P X.w= .ok (dR t cs) X.w:=by
 have hf:=hE.ty T t hT
 obtain⟨i,i1,i2,i3,i4⟩:=hf.info
 have hz:=sr X t
 have hn:=L8 X (.r 0) t
 have Kx:(dR t (zp t)).cells=(zp t).toArray:=vw hz
 have kO:(parts.map fun(i,x)=>(i,a.eval x)).toList=parts.toList.map fun p=>(p.1,a.eval p.2):=by simp
 cases t with
 |arr n t=>
  obtain⟨e,hu,he,_⟩:=hf.dt
  obtain⟨ie,j1,j2,_⟩:=(hE.ty e t he).info
  obtain⟨y,own,cells,Y,k1,hw,aZ,bu,k2,k3,k4⟩:=SH (pl:=fun i=>some (i*ie.size,ie.size)) (fun i ft cg hb=>by
   simp only[Ty.at_,Option.some.injEq] at cg
   subst cg
   have hb:i+1<=n:=by simpa [Ty.kP] using hb
   exact⟨⟨hb,by simp [Ty.eI]⟩,by simp [Ty.off,j2]⟩) parts.toList X s (El.bV (.arr n t)) _ (zp (.arr n t)).toArray hr (by simpa using hz) (by simpa using hn) h
  refine⟨y,own,cells.toList,Y,k1,hw,aZ,bu,k3,k4,?_⟩
  rw[jJ rfl]
  refine run_build X.w T _ cells.toList.toArray ?_
  unfold Program.built
  simp only[i1,hu,i4,j1,Kx,kO]
  simpa using k2
 |pair ta tb=>
  obtain⟨fs,hu,dg,_⟩:=hf.dt
  obtain⟨places,p1,p2⟩:=Dx hE fs.toList _ 0 dg
  obtain⟨y,own,cells,Y,k1,hw,aZ,bu,k2,k3,k4⟩:=SH (pl:=(places.toArray[·]?)) (fun i ft cg hb=>by
   obtain⟨f,g1,g2,g3,g4⟩:=QM fs.toList _ 0 i ft dg rfl cg
   refine⟨g4,?_⟩
   have:=p2 i f ft g1 g3
   simp only[List.getElem?_toArray,this,g2,Nat.zero_add]) parts.toList X s (El.bV (.pair ta tb)) _ (zp (.pair ta tb)).toArray hr (by simpa using hz) (by simpa using hn) h
  refine⟨y,own,cells.toList,Y,k1,hw,aZ,bu,k3,k4,?_⟩
  rw[jJ rfl]
  refine run_build X.w T _ cells.toList.toArray ?_
  unfold Program.built
  simp only[i1,hu,i4,p1,Kx,kO]
  simpa using k2
 |unit=>
  obtain⟨fs,hu,dg,_⟩:=hf.dt
  obtain⟨places,p1,p2⟩:=Dx hE fs.toList _ 0 dg
  obtain⟨y,own,cells,Y,k1,hw,aZ,bu,k2,k3,k4⟩:=SH (pl:=(places.toArray[·]?)) (fun i ft cg hb=>by simp [Ty.at_] at cg) parts.toList X s (El.bV .unit) _ (zp .unit).toArray hr (by simpa using hz) (by simpa using hn) h
  refine⟨y,own,cells.toList,Y,k1,hw,aZ,bu,k3,k4,?_⟩
  rw[jJ rfl]
  refine run_build X.w T _ cells.toList.toArray ?_
  unfold Program.built
  simp only[i1,hu,i4,p1,Kx,kO]
  simpa using k2
 |aG k a b=>exact absurd (hE.iW hT) (by simp [Ty.bI])
 |_=>simp [Ty.agg] at rl
def ax.nz(X:ax)(j:Nat)(q:List Nat->Place):ax:=
 {X with ow:=fun g=>match X.ow g with
  | .row (.r j' p) n=>if j'=j then .row (q p) n else .row (.r j' p) n
  |w=>w}
theorem adU{s:State}{X:ax}{j:Nat}{q:List Nat->Place}:dX s X (X.nz j q):=by
 refine⟨rfl,rfl,fun g=> ?_⟩
 simp only[ax.nz]
 cases hg:X.ow g with
 |row pl n=>
  cases pl with
  |r j' p=>
   by_cases e:j'=j
   ·subst e
    exact .inr ⟨_,n,q p,rfl,fun h=>h,by simp⟩
   ·exact .inl (if_neg e)
  |_=>exact .inl rfl
 |_=>exact .inl rfl
theorem bm.xR{X:ax}{j:Nat}{q:List Nat->Place}{t:Ty}{x:El t}{cs:List Value}{own:List (List Nat)}(h:bm X (.r j) t x cs own):bm (X.nz j q) q t x cs own:=fun p hp=>by
 obtain⟨e,t',xs,v,g0,g1,g2,g3⟩:=h p hp
 refine⟨e,t',xs,v,g0,g1,g2,?_⟩
 rcases g3 with h|⟨g,cap,cur,h1,h2,h3,h4,h5,h6⟩
 ·exact .inl h
 ·exact .inr ⟨g,cap,cur,h1,h2,h3,h4,h5,by simp [ax.nz,h6]⟩
theorem adf(hE:ap P E)(hr:Rel X s a){ops:List Oper}{T:TypeId}{parts:Array (Nat×Operand)}(ho:o.op= .build T parts){C:FuncId->bW Out}(h:act E C ops o s some=some u):aI P X s a o u:=by
 unfold act at h
 simp only[ho] at h
 split at h
 case h_2=>cases h
 rename_i t hT
 split at h
 case isTrue=>cases h
 rename_i rl
 have rl:t.agg=true:=by cases tV:t.agg<;>simp_all
 obtain⟨y,own,cs,Y,h,hw,aZ,bu,rep,hO,aX⟩:=afW hE hr hT rl parts h
 cases h
 have mz:=adU (s:=s.close (z21 s parts.toList).2) (X:=Y) (j:=0) (q:= .c (o.dst.getD 0) 0)
 refine⟨Y.nz 0 (.c (o.dst.getD 0) 0),dR t cs,.inl ?_,aZ.trans mz.ext,(bu.mod mz.mod).fin ⟨cs,rep.aj (fun _ _=>mz.az.1),rfl,hO.xR⟩ (fun id t p hm=>by simp at hm)⟩
 rw[mz.w,hw]
 simp only[execOp,ho,Sem.run_bind,aX,Result.andThen_ok,Sem.run_pure]
end Go.Ref

namespace Go.Ref
open Go
variable {P:Program} {E:Env} {X:ax} {s:State} {a:Act} {o:Oper} {u:Out}
theorem ajr{t:Ty}{x:El t}{xs:List (El t)}{n:Nat}{c cs:List Value}(h1:bh X t x c)(h2:bh X (.arr n t) xs cs):bh X (.arr (n+1) t) (x::xs:List (El t)) (c++cs):=by
 obtain⟨k1,k2,k3⟩:=h2
 have hl:=h1.len
 refine⟨by simp;exact k1,by simp [k2,hl,Nat.add_mul];omega,fun j y hj=> ?_⟩
 cases j with
 |zero=>
  simp only[List.getElem?_cons_zero,Option.some.injEq] at hj
  subst hj
  rw[Nat.zero_mul,List.drop_zero,<-hl,List.take_left]
  exact h1
 |succ j=>
  simp only[List.getElem?_cons_succ] at hj
  have hd:(c++cs).drop ((j+1)*t.cells)=cs.drop (j*t.cells):=by
   rw[Nat.add_mul,Nat.one_mul,Nat.add_comm,<-List.drop_drop,<-hl,List.drop_left]
  rw[hd]
  exact k3 j y hj
theorem Gp{t:Ty}{xs ys:List (El t)}{n m:Nat}{c d:List Value}(h1:bh X (.arr n t) xs c)(h2:bh X (.arr m t) ys d):bh X (.arr (n+m) t) (xs++ys:List (El t)) (c++d):=by
 obtain⟨j1,j2,j3⟩:=h1
 obtain⟨k1,k2,k3⟩:=h2
 refine⟨by rw[List.length_append,j1,k1],by rw[List.length_append,j2,k2,Nat.add_mul],fun j y hj=> ?_⟩
 by_cases ar:j<n
 ·rw[List.getElem?_append_left (by rw[j1];exact ar)] at hj
  have hle:(j+1)*t.cells<=n*t.cells:=Nat.mul_le_mul_right _ ar
  rw[Nat.add_mul,Nat.one_mul] at hle
  rw[List.drop_append_of_le_length (by omega),List.take_append_of_le_length (by rw[List.length_drop];omega)]
  exact j3 j y hj
 ·rw[List.getElem?_append_right (by rw[j1];omega),j1] at hj
  have hd:(c++d).drop (j*t.cells)=d.drop ((j-n)*t.cells):=by
   have hm:j*t.cells=c.length+(j-n)*t.cells:=by
    rw[j2,<-Nat.add_mul]
    congr 1
    omega
   rw[hm,List.drop_length_add_append]
  rw[hd]
  exact k3 _ y hj
theorem zw5{t:Ty}{ad:Addr}(hs:ad.spot=none):∀(xs:List (El t)) (p:Nat),(∀(j:Nat) x,xs[j]? =some x->∃eH,bh X t x eH/\∀(i:Nat) v,eH[i]? =some v->X.az (ad.add (p+(j*t.cells+i))) v)->
 ∃cs,bh X (.arr xs.length t) xs cs/\∀(i:Nat) v,cs[i]? =some v->X.az (ad.add (p+i)) v
 | [],p,h=>⟨[],⟨rfl,by simp,fun j x hj=>by simp at hj⟩,fun i v hi=>by simp at hi⟩
 |x::xs,p,h=>by
  obtain⟨c,r1,s1⟩:=h 0 x rfl
  obtain⟨cs,r2,s2⟩:=zw5 hs xs (p+t.cells) (fun j y hj=>by
   obtain⟨c',r',s'⟩:=h (j+1) y hj
   refine⟨c',r',fun i v hi=> ?_⟩
   have:=s' i v hi
   rw[show p+((j+1)*t.cells+i)=p+t.cells+(j*t.cells+i) by rw[Nat.add_mul];omega] at this
   exact this)
  have hl:=r1.len
  refine⟨c++cs,ajr r1 r2,fun i v hi=> ?_⟩
  rw[List.getElem?_append] at hi
  split at hi
  ·have:=s1 i v hi
   rwa [show p+(0*t.cells+i)=p+i by omega] at this
  ·have:=s2 _ v hi
   rwa [show p+t.cells+(i-c.length)=p+i by omega] at this
theorem zay{e:TypeId}{t:Ty}{xs:List (El t)}{A:Option Addr}{n c:Nat}(h:bh X (.sl e t) xs [.slice A n c]):n=xs.length/\xs.length<=c/\
 ∃cs,bh X (.arr xs.length t) xs cs/\(A=none->xs=[])/\∀ad,A=some ad->∀(i:Nat) v,cs[i]? =some v->X.az (ad.add i) v:=by
 obtain⟨A',c',h1,h2,h3⟩:=h
 simp only[List.cons.injEq,Value.slice.injEq,and_true] at h1
 obtain⟨rfl,rfl,rfl⟩:=h1
 refine⟨rfl,h2,?_⟩
 cases xs with
 |nil=>exact⟨[],⟨rfl,by simp,fun j x hj=>by simp at hj⟩,fun _=>rfl,fun ad _ i v hi=>by simp at hi⟩
 |cons x r=>
  obtain⟨ad,_,hA,hs,_⟩:=h3 0 x rfl
  subst hA
  obtain⟨cs,k1,k2⟩:=zw5 (X:=X) hs (x::r) 0 (fun j y hj=>by
   obtain⟨qo,c',e1,_,g1,g2⟩:=h3 j y hj
   cases e1
   exact⟨c',g1,fun i v hi=>by rw[Nat.zero_add];exact g2 i v hi⟩)
  refine⟨cs,k1,(fun e=>by cases e),fun qo e i v hi=> ?_⟩
  cases e
  have:=k2 i v hi
  rwa [Nat.zero_add] at this
theorem zit{e:TypeId}{t:Ty}{xs:List (El t)}{g cap:Nat}{pl:Place}{cur:Array Value}{cs:List Value}(hg:X.w.heap[g]? =some (.cells cur e (0,0)))(how:X.ow g= .row pl (xs.length*t.cells))
 (ni:cur.toList.take (xs.length*t.cells)=cs) (aL:bh X (.arr xs.length t) xs cs) (m8:xs.length<=cap):bh X (.sl e t) xs [.slice (some ⟨g,0,none⟩) xs.length cap]:=by
 refine⟨_,cap,rfl,m8,fun j x hj=>⟨_,_,rfl,rfl,aL.2.2 j x hj,fun i v hi=> ?_⟩⟩
 have ub:=(List.getElem?_eq_some_iff.1 hj).1
 have hle:(j+1)*t.cells<=xs.length*t.cells:=Nat.mul_le_mul_right _ ub
 rw[Nat.add_mul,Nat.one_mul] at hle
 rw[List.getElem?_take] at hi
 split at hi
 case isFalse=>cases hi
 rename_i RV
 rw[List.getElem?_drop,<-ni,List.getElem?_take,if_pos (by omega)] at hi
 refine⟨Bb rfl _,?_,?_⟩
 ·rw[iM,Nat.zero_add]
  simp only[World.cell?,hg]
  simpa using hi
 ·rw[iM,Nat.zero_add]
  show Ow.used (X.ow g) _
  rw[how]
  show j*t.cells+i<_
  omega
end Go.Ref

namespace Go.Ref
open Go
variable {P:Program} {E:Env} {X:ax} {s:State} {a:Act} {o:Oper} {u:Out}
theorem LL{R:Type}{t:Ty}{n:Nat}{K:List (El t)->Option R}:∀(parts:List (Nat×SV)) (xs:List (El t)) (own:List (List Nat)),xs.length=n->Bp t xs parts K=rQ (.arr n t) xs own (parts.map fun p=>(p.1,p.2,[])) (fun y _=>K y)
 | [],xs,own,h=>rfl
 |(i,v)::r,xs,own,h=>by
  subst h
  simp only[Bp,List.map_cons,rQ,Ty.kP,Ty.at_,El.set,Ty.ci,dite_true,Option.map_some]
  congr 1
  refine congrArg (v.el t) (funext fun y=> ?_)
  exact LL r (xs.set i y) _ (by simp)
theorem ahy{t:Ty}(n:Nat)(hk:0<t.cells):((Array.range (n*t.cells)).map fun i=>(zp t).toArray[i % (zp t).toArray.size]!).toList=(List.replicate n (zp t)).flatten:=by
 have hz:=uZ t
 apply List.ext_getElem?
 intro q
 have hlen:((List.replicate n (zp t)).flatten).length=n*t.cells:=by simp [hz]
 by_cases hq:q<n*t.cells
 ·have h1:q/t.cells<n:=(Nat.div_lt_iff_lt_mul hk).2 hq
  have h2:=z9j hz n (q/t.cells) h1
  have h3:=congrArg (fun l=>l[q % t.cells]?) h2
  simp only[List.getElem?_take,List.getElem?_drop,if_pos (Nat.mod_lt q hk)] at h3
  rw[Nat.mul_comm,Nat.div_add_mod] at h3
  rw[h3]
  have hm:q % t.cells<(zp t).length:=by rw[hz];exact Nat.mod_lt q hk
  rw[List.getElem?_eq_getElem hm]
  simp [hq,hz,hm]
  rw[List.getElem?_eq_getElem hm]
  rfl
 ·rw[List.getElem?_eq_none (by simp;omega),List.getElem?_eq_none (by omega)]
theorem OE{X:ax}{pl:List Nat->Place}{e:TypeId}{t:Ty}{xs:List (El t)}{v:Value}(h:bq X (pl []) e t.cells xs.length v):bm X pl (.sl e t) xs [v] [[]]:=fun p hp=>by
 have hp:p=[]:=by simpa using hp
 subst hp
 exact⟨e,t,xs,v,by simp [Ty.eI],rfl,rfl,h⟩
theorem zv1(hE:ap P E)(hr:Rel X s a){ops:List Oper}{T:TypeId}{n:Nat}{parts:Array (Nat×Operand)}(ho:o.op= .buildSlice T n parts){C:FuncId->bW Out}(h:act E C ops o s some=some u):aI P X s a o u:=by
 unfold act at h
 simp only[ho] at h
 split at h
 case h_2=>cases h
 rename_i e t hT
 split at h
 case isTrue=>cases h
 rename_i Av
 have hk:0<t.cells:=by rcases Nat.eq_zero_or_pos t.cells with h0|h0<;>simp_all
 cases hb:Nat.ble (n*t.cells) 16777216 with
 |false=>rw[hb] at h;cases h
 |true=>
  rw[hb] at h
  simp only[cond_true] at h
  have uv:n*t.cells<=16777216:=Nat.le_of_ble_eq_true hb
  rw[LL (n:=n) _ _ [] (by simp),List.map_map] at h
  obtain⟨hu,he⟩:=(hE.ty T _ hT).dt
  have di:=lK (P:=P) hE he X.w
  have hzr:=Tc (P:=P) hE he X.w
  have R9:=sr X (.arr n t)
  obtain⟨y,jF,cells,k1,k2,k3⟩:=M1 (pl:=fun i=>some (i*t.cells,t.cells)) hr (fun i ft cg hb=>by
   simp only[Ty.at_,Option.some.injEq] at cg
   subst cg
   have hb:i+1<=n:=by simpa [Ty.kP] using hb
   exact⟨⟨hb,by simp [Ty.eI]⟩,by simp [Ty.off]⟩) parts.toList (El.bV (.arr n t)) [] (zp (.arr n t)).toArray (by simpa using R9) h
  cases k1
  have hy:List.length y=n:=k3.1
  have eD:cells.size=n*t.cells:=by have:=k3.2.1;simpa using this
  have hn:n<=n*t.cells:=Nat.le_mul_of_pos_right n hk
  let Y:=X.new cells e (.row (.c (o.dst.getD 0) 0 []) (n*t.cells)) X.β
  have xm:eN s X Y:=PX X s cells e _ _ rfl (fun _ _ _=>rfl)
  obtain⟨n1,n2⟩:=PN X cells e (.row (.c (o.dst.getD 0) 0 []) (n*t.cells)) X.β
  refine⟨Y,.slice (some ⟨X.w.heap.size,0,none⟩) n n,.inl ?_,xm.ext,?_⟩
  ·have hcz:(Array.map (fun x=>(dR t (zp t)).cells[x % (dR t (zp t)).cells.size]!) (Array.range (n*t.cells)))=(zp (.arr n t)).toArray:=by
    apply Array.ext'
    rw[vw (sr X t),ahy n hk]
    rfl
   have kO:(parts.map fun(i,x)=>(i,a.eval x)).toList=parts.toList.map fun p=>(p.1,a.eval p.2):=by simp
   by_cases hn0:n*t.cells=0
   ·have Zu:n=0:=by
     rcases Nat.mul_eq_zero.1 hn0 with h0|h0
     ·exact h0
     ·omega
    subst Zu
    have k2':Instr.fill (fun i=>some (i*t.cells,t.cells)) #[] (parts.toList.map fun p=>(p.1,a.eval p.2))=some cells:=k2
    have aoO:(parts.map fun x=>(x.1,a.eval x.2)).toList=parts.toList.map fun p=>(p.1,a.eval p.2):=by simp
    simp [execOp,ho,Instr.buildSlice,run_underlying hu,di,newRow,Y,ax.new]
    rw[show(Array.map (fun x=>default) (Array.range 0):Array Value)= #[] by simp,k2']
    simp
   ·have hc:=hcz
    simp [execOp,ho,Instr.buildSlice,run_underlying hu,di,hzr,hn0,newRow,Y,ax.new,Nat.not_lt.2 uv]
    rw[hcz,k2]
    simp
  ·refine(hr.dv xm).fin ?_ (fun id t p hm=>by simp at hm)
   refine⟨[.slice (some ⟨X.w.heap.size,0,none⟩) n n],?_,rfl,OE ?_⟩
   ·rw[<-hy]
    refine zit (pl:= .c (o.dst.getD 0) 0 []) (cur:=cells) (cs:=cells.toList) n1 (by rw[hy];exact n2) ?_ ?_ (Nat.le_refl _)
    ·rw[hy,List.take_of_length_le (by simp [eD])]
    ·rw[hy];exact k3.aj (fun _ _=>xm.az)
   ·refine .inr ⟨X.w.heap.size,n,cells,by rw[hy],n1,by rw[hy];exact Nat.le_refl _,?_,eD,by rw[hy];exact n2⟩
    simp only[maxLen]
    omega
end Go.Ref

