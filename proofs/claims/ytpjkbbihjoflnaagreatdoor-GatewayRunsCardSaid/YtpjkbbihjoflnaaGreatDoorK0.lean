/- No condition. -/
import Derived.Orders
import Derived.Below
import Derived.Maps.AppendAt
import Derived.WalkKit
import Derived.Lib.AppendStr
import Derived.Shelf.Strings.BuilderF
set_option linter.unusedVariables false
set_option linter.unusedSimpArgs false
set_option maxRecDepth 100000
open Array renaming getElem?_eq_getElem->XN,getElem?_toList->zad,toArray_toList->zaC,getElem?_setIfInBounds->zbF,range->zed,getElem?_eq_some_iff->zeQ
open BitVec renaming ofInt->zcy
open Bool renaming and_eq_true->nd,false_eq_true->zaW,true_and->zbC
open ByteArray renaming emptyWithCapacity->zeD
open ForInStep renaming yield->zdO
open Go renaming undef->zaj,binOp->za2
open Go.Builtin renaming unsafeSliceData_->zcH,len_->zeU
open Go.ByteArray renaming toList_eq->zgL
open Go.Instr renaming sliceBounds->zcI,indexAt->zcS,loadAt->zdf,storeAt->zdk,fill->zfD,fieldAt->zfM,alloc->zhD
open Go.Lib renaming cell_of_heap->zbL,strCells->zcO,run_unsafeSliceData_row->zeB
open Go.Op renaming equalIn->zbR,bytesLess->zf0,equal->zgI,intArith->zgK,stringOp->zgM,maxDepth->zgN
open Go.Program renaming built->zfN
open Go.Proofs.Any renaming unsafeString_none->zeh
open Go.Proofs.Body renaming n169_ntmps->zeA
open Go.Result renaming andThen_ok->fv
open Go.Sem renaming run_bind->BY,run_pure->GP,run_ite->zdJ
open Go.Value renaming ownBlock->zcE
open Go.World renaming cell?->zaP,block_lt_of_cell?->zcQ
open List renaming length->aa,getD->an,getD_eq_getElem?_getD->be,getElem?_eq_getElem->ks,length_cons->ls,replicate->so,length_append->th,getElem?_set->vc,getElem?_eq_some_iff->AS,drop_eq_nil_of_le->GA,drop_zero->GS,take->It,mem_of_getElem?->IH,getElem?_map->IN,getElem?_eq_none->IT,append_assoc->MM,mem_append->M2,length_take->Of,all_eq_true->OF,getElem?_append_right->zaa,mem_filter->zab,getElem?_take->zae,nil_append->zah,eq_nil_of_length_eq_zero->zam,getElem?_append_left->zap,map_cons->zaq,getElem?_drop->zas,mem_map->zau,getElem?_cons_succ->zax,append_nil->zay,getElem?_cons_zero->zaB,length_drop->zaD,ext_getElem?->zaF,take_length->zaH,set->za1,take_of_length_le->za6,any_eq_false->za9,take_zero->zbd,drop_append_of_le_length->zbg,mem_iff_getElem?->zbi,drop_drop->zbs,cons_append->zbM,drop_left->zbU,take_append_of_le_length->zbZ,getElem?_set_self->zcv,take_left->zcF,getElem?_append->zcG,take_take->zcY,drop_take->zcZ,isPrefixOf_iff_prefix->zdp,getElem?_set_ne->zdA,drop_length->zdH,replicate_succ->zdI,drop_length_add_append->zeE,isPrefixOf->zf1
open Nat renaming beq->xz,eq_of_beq_eq_true->DD,le_refl->zag,mul_le_mul_right->zai,zero_add->zat,add_mul->zaz,le_of_ble_eq_true->zaK,ble->zaL,min_eq_left->zaQ,add_sub_cancel_left->zaS,zero_le->zaX,one_mul->za5,le_of_not_lt->zbN,add_zero->zde,add_assoc->zdP,div_lt_iff_lt_mul->zeg,lt_or_gt_of_ne->zeV
open Option renaming map_eq_some_iff->nl,bind_assoc->zfC
open Option.some renaming injEq->AI
open Sigma.mk renaming injEq->zbV
namespace Go.Ref
open Go
structure xM(T e:TypeId)(b:Nat)(v:Value)(bs:List Value)(w:World):Prop where
 nJ:w.heap[b]? =some (.cells #[.pointer none,v] T (0,0))\/w.heap[b]? =some (.cells #[.pointer (some ⟨b,0,none⟩),v] T (0,0))
 own:w.ownsRow 0 e 1 v bs.length bs
 ne:v.ownBlock≠some b
theorem xM.lt{T e:TypeId}{b:Nat}{v:Value}{bs:List Value}{w:World}(h:xM T e b v bs w):b<w.heap.size:=by
 rcases Nat.lt_or_ge b w.heap.size with h'|h'
 ·exact h'
 ·rcases h.nJ with h|h<;>simp [Array.getElem?_eq_none h'] at h
theorem xM.same{T e:TypeId}{b:Nat}{v:Value}{bs:List Value}{w w':World}(h:xM T e b v bs w)(hb:w'.heap[b]? =w.heap[b]?)(hg:∀g o,v.ownBlock=some g->w.heap[g]? =some o->w'.heap[g]? =some o):xM T e b v bs w':=by
 refine⟨by rw[hb];exact h.nJ,⟨h.own.1,?_⟩,h.ne⟩;rcases h.own.2 with hn|⟨g,cap,cur,hv,h0,Gr,rest⟩
 ·exact .inl hn
 ·exact .inr ⟨g,cap,cur,hv,h0,hg g _ (by rw[hv];rfl) Gr,rest⟩
inductive Spc where
 |iter
 |mp
 |row
 |hJ (n:Nat)
 |kl (T e:Nat)
 |own
 |xW (f:Nat)
 |cX
 deriving DecidableEq,Inhabited
@[reducible] def yR:Spc->Type->Type->Type
  | .iter,_,_=>ByteArray×Nat
  | .mp,a,b=>List (a×b)
  | .row,a,_=>List a
  | .hJ _,_,_=>Unit
  | .kl _ _,_,_=>ByteArray
  | .own,a,_=>Option a
  | .xW _,_,_=>Unit
  | .cX,a,b=>a×(Option b×Option b)×Int
def yR.b9:(k:Spc)->(a b:Type)->a->yR k a b
 | .iter,_,_,_=>((⟨#[]⟩:ByteArray),(0:Nat))
 | .mp,_,_,_=>[]
 | .row,_,_,_=>[]
 | .hJ _,_,_,_=>()
 | .kl _ _,_,_,_=>(⟨#[]⟩:ByteArray)
 | .own,_,_,_=>none
 | .xW _,_,_,_=>()
 | .cX,_,_,x=>(x,(none,none),(0:Int))
inductive Ty where
 |bool
 |int (k:IntKind)
 |str
 |sl (e:TypeId) (t:Ty)
 |arr (n:Nat) (t:Ty)
 |unit
 |pair (a b:Ty)
 |aY (k:Spc) (a b:Ty)
 deriving Inhabited
@[reducible] def El:Ty->Type
  | .bool=>Bool
  | .int _=>Int
  | .str=>ByteArray
  | .sl _ t=>List (El t)
  | .arr _ t=>List (El t)
  | .unit=>Unit
  | .pair a b=>El a×El b
  | .aY k a b=>yR k (El a) (El b)
def El.b9:(t:Ty)->El t
 | .bool=>false
 | .int _=>(0:Int)
 | .str=>(⟨#[]⟩:ByteArray)
 | .sl _ _=>[]
 | .arr n t=>so n (El.b9 t)
 | .unit=>()
 | .pair a b=>(El.b9 a,El.b9 b)
 | .aY k a b=>yR.b9 k (El a) (El b) (El.b9 a)
def Ty.cB:Ty->Ty->Bool
 | .bool,.bool=>true
 | .str,.str=>true
 | .unit,.unit=>true
 | .int j,.int k=>decide (j=k)
 | .sl e t,.sl f u=>xz e f&&Ty.cB t u
 | .arr n t,.arr m u=>xz n m&&Ty.cB t u
 | .pair a b,.pair c d=>Ty.cB a c&&Ty.cB b d
 | .aY k a b,.aY j c d=>decide (k=j)&&(Ty.cB a c&&Ty.cB b d)
 |_,_=>false
theorem Ty.aK:∀{t u:Ty},t.cB u=true->t=u:=by
 intro t
 induction t with
 |bool=>intro u h;cases u<;>simp_all [Ty.cB]
 |int k=>intro u h;cases u<;>simp_all [Ty.cB]
 |str=>intro u h;cases u<;>simp_all [Ty.cB]
 |unit=>intro u h;cases u<;>simp_all [Ty.cB]
 |sl e t ih=>intro u h;cases u<;>simp [Ty.cB] at h;obtain⟨h1,h2⟩:=h;rw[ih h2,h1]
 |arr e t ih=>intro u h;cases u<;>simp [Ty.cB] at h;obtain⟨h1,h2⟩:=h;rw[ih h2,h1]
 |pair a b mZ m3=>intro u h;cases u<;>simp [Ty.cB] at h;rw[mZ h.1,m3 h.2]
 |aY k a b mZ m3=>intro u h;cases u<;>simp [Ty.cB] at h;rw[h.1,mZ h.2.1,m3 h.2.2]
theorem Ty.cw:∀t:Ty,t.cB t=true
 | .bool=>rfl
 | .str=>rfl
 | .unit=>rfl
 | .int k=>by simp [Ty.cB]
 | .sl e t=>by simp [Ty.cB,Ty.cw t]
 | .arr e t=>by simp [Ty.cB,Ty.cw t]
 | .pair a b=>by simp [Ty.cB,Ty.cw a,Ty.cw b]
 | .aY k a b=>by simp [Ty.cB,Ty.cw a,Ty.cw b]
def Ty.cast{t u:Ty}(h:t.cB u=true)(x:El t):El u:=Ty.aK h▸x
def Ty.cells:Ty->Nat
 | .arr n t=>n*t.cells
 | .unit=>0
 | .pair a b=>a.cells+b.cells
 | .aY _ _ _=>0
 |_=>1
def Ty.agg:Ty->Bool
 | .arr .. | .unit| .pair .. | .aY .. =>true
 |_=>false
def Ty.at_:Ty->List Nat->Option Ty
 |t,[]=>some t
 | .arr _ t,_::p=>t.at_ p
 | .pair a _,0::p=>a.at_ p
 | .pair _ b,(j+1)::p=>b.at_ (j::p)
 |_,_=>none
def Ty.off:Ty->List Nat->Nat
 |_,[]=>0
 | .arr _ t,i::p=>i*t.cells+t.off p
 | .pair a _,0::p=>a.off p
 | .pair a b,(j+1)::p=>a.cells+b.off (j::p)
 |_,_=>0
def El.get:(t:Ty)->List Nat->El t->Option ((u:Ty)×El u)
 |t,[],x=>some ⟨t,x⟩
 | .arr _ t,i::p,xs=>El.get t p (xs.getD i (El.b9 t))
 | .pair a _,0::p,x=>El.get a p x.1
 | .pair _ b,(j+1)::p,x=>El.get b (j::p) x.2
 |_,_::_,_=>none
def El.set:(t:Ty)->List Nat->El t->(u:Ty)->El u->Option (El t)
 |t,[],_,u,y=>if h:u.cB t=true then some (Ty.cast h y) else none
 | .arr _ t,i::p,xs,u,y=>(El.set t p (xs.getD i (El.b9 t)) u y).map λz=>za1 xs i z
 | .pair a _,0::p,x,u,y=>(El.set a p x.1 u y).map λz=>(z,x.2)
 | .pair _ b,(j+1)::p,x,u,y=>(El.set b (j::p) x.2 u y).map λz=>(x.1,z)
 |_,_::_,_,_,_=>none
def Ty.fe:Ty->List Nat->Prop
 |_,[]=>True
 | .arr n t,i::p=>i<n/\t.fe p
 | .pair a _,0::p=>a.fe p
 | .pair _ b,(j+1)::p=>b.fe (j::p)
 |_,_=>False
inductive Place where
 |c (i j:Nat) (p:List Nat)
 |b (id:Nat) (p:List Nat)
 |r (j:Nat) (p:List Nat)
inductive Ow where
 |all
 |ro (n:Nat)
 |box (id:Nat)
 |row (pl:Place) (n:Nat)
def Ow.used:Ow->Nat->Prop
 | .all,_=>True
 | .ro n,o=>o<n
 | .box _,_=>False
 | .row _ n,o=>o<n
def Ow.still:Ow->Prop
 | .all| .ro _=>True
 |_=>False
structure aw where
 w:World
 ow:Nat->Ow
 β:Nat->Option Nat
def aw.aB(X:aw)(a:Addr)(v:Value):Prop:=a.spot=none/\X.w.cell? a=some v/\(X.ow a.block).used a.off
structure Ext(X Y:aw):Prop where
 aB:∀a v,X.aB a v->Y.aB a v
 size:X.w.heap.size<=Y.w.heap.size
 os:Y.w.os=X.w.os
 tape:Y.w.tape=X.w.tape
 output:Y.w.output=X.w.output
 β0:Y.β 0=X.β 0
 still:∀g,g<X.w.heap.size->(X.ow g).still->Y.ow g=X.ow g/\Y.w.heap[g]? =X.w.heap[g]?
theorem Ext.refl(X:aw):Ext X X:=⟨λ_ _ h=>h,zag _,rfl,rfl,rfl,rfl,λ_ _ _=>⟨rfl,rfl⟩⟩
theorem Ext.trans{X Y Z:aw}(h:Ext X Y)(k:Ext Y Z):Ext X Z:=
 ⟨λa v hs=>k.aB a v (h.aB a v hs),Nat.le_trans h.size k.size,k.os.trans h.os,k.tape.trans h.tape,k.output.trans h.output,k.β0.trans h.β0,
  λg hg bY=>by obtain⟨h1,h2⟩:=h.still g hg bY;obtain⟨k1,k2⟩:=k.still g (Nat.lt_of_lt_of_le hg h.size) (by rw[h1];exact bY);exact⟨k1.trans h1,k2.trans h2⟩⟩
theorem aw.jn{X:aw}{a:Addr}{v:Value}(h:X.aB a v):a.block<X.w.heap.size:=zcQ X.w a h.2.1
def bm(X:aw):(t:Ty)->El t->List Value->Prop
 | .bool,b,cs=>cs=[.bool b]
 | .int k,n,cs=>cs=[.int k n]
 | .str,s,cs=>cs=[.string s]
 | .sl _ t,xs,cs=>∃A c,cs=[.slice A xs.length c]/\xs.length<=c/\
    ∀j x,xs[j]? =some x->∃ad fa,A=some ad/\ad.spot=none/\bm X t x fa/\∀i v,fa[i]? =some v->X.aB (ad.add (j*t.cells+i)) v
 | .arr n t,xs,cs=>xs.length=n/\cs.length=n*t.cells/\∀j x,xs[j]? =some x->bm X t x ((cs.drop (j*t.cells)).take t.cells)
 | .unit,_,cs=>cs=[]
 | .pair a b,x,cs=>∃c1 c2,cs=c1++c2/\bm X a x.1 c1/\bm X b x.2 c2
 | .aY _ _ _,_,cs=>cs=[]
theorem bm.aj{X Y:aw}(h:∀a v,X.aB a v->Y.aB a v):∀{t:Ty} {x:El t} {cs:List Value},bm X t x cs->bm Y t x cs
 | .bool,_,_,hr=>hr
 | .int _,_,_,hr=>hr
 | .str,_,_,hr=>hr
 | .unit,_,_,hr=>hr
 | .sl _ t,xs,cs,⟨A,c,h1,h2,h3⟩=>⟨A,c,h1,h2,λj x hj=>by obtain⟨ad,fa,h4,h5,h6,h7⟩:=h3 j x hj;exact⟨ad,fa,h4,h5,bm.aj h h6,λi v hi=>h _ _ (h7 i v hi)⟩⟩
 | .arr n t,xs,cs,⟨h1,h2,h3⟩=>⟨h1,h2,λj x hj=>bm.aj h (h3 j x hj)⟩
 | .pair a b,x,cs,⟨c1,c2,h1,h2,h3⟩=>⟨c1,c2,h1,bm.aj h h2,bm.aj h h3⟩
 | .aY _ _ _,_,_,hr=>hr
theorem bm.mono{X Y:aw}(h:Ext X Y){t:Ty}{x:El t}{cs:List Value}(hr:bm X t x cs):bm Y t x cs:=bm.aj h.aB hr
theorem bm.len{X:aw}:∀{t:Ty} {x:El t} {cs:List Value},bm X t x cs->cs.length=t.cells
 | .bool,_,_,hr=>by cases hr;rfl
 | .int _,_,_,hr=>by cases hr;rfl
 | .str,_,_,hr=>by cases hr;rfl
 | .unit,_,_,hr=>by cases hr;rfl
 | .sl _ t,xs,cs,⟨A,c,h1,_⟩=>by cases h1;rfl
 | .arr n t,xs,cs,⟨h1,h2,h3⟩=>h2
 | .pair a b,x,cs,⟨c1,c2,h1,h2,h3⟩=>by rw[h1,th,h2.len,h3.len];rfl
 | .aY _ _ _,_,_,hr=>by cases hr;rfl
theorem ac7{cs:List Value}{n k:Nat}{u:Value}(hu:u∈cs)(hk:cs.length=n*k):∃j,j<n/\u∈(cs.drop (j*k)).take k:=by
 obtain⟨q,hq,rfl⟩:=List.mem_iff_getElem.1 hu;have EI:0<k:=by
  rcases Nat.eq_zero_or_pos k with h|h
  ·subst h;simp at hk;subst hk;simp at hq
  ·exact h
 refine⟨q/k,by rw[zeg EI,<-hk];exact hq,?_⟩;rw[zbi];refine⟨q % k,?_⟩;rw[zae,if_pos (Nat.mod_lt _ EI),zas,Nat.mul_comm,Nat.div_add_mod,ks hq]
theorem bm.one{X:aw}:∀{t:Ty} {x:El t} {cs:List Value},bm X t x cs->∀u∈cs,u.oneCell'=true
 | .bool,_,_,hr,u,hu=>by cases hr;simp at hu;subst hu;rfl
 | .int _,_,_,hr,u,hu=>by cases hr;simp at hu;subst hu;rfl
 | .str,_,_,hr,u,hu=>by cases hr;simp at hu;subst hu;rfl
 | .unit,_,_,hr,u,hu=>by cases hr;simp at hu
 | .sl _ t,xs,cs,⟨A,c,h1,_⟩,u,hu=>by cases h1;simp at hu;subst hu;rfl
 | .arr n t,xs,cs,⟨h1,h2,h3⟩,u,hu=>by obtain⟨j,hj,hm⟩:=ac7 hu h2;exact bm.one (h3 j _ (ks (by omega))) u hm
 | .pair a b,x,cs,⟨c1,c2,h1,h2,h3⟩,u,hu=>by
   rw[h1] at hu;rcases M2.1 hu with hu|hu
   ·exact h2.one u hu
   ·exact h3.one u hu
 | .aY _ _ _,_,_,hr,u,hu=>by cases hr;simp at hu
end Go.Ref

namespace Go.Ref
open Go Go.Shelf Go.RowKit Go.Proofs
variable {P:Program} {ρ:Ren}
structure hI(b:Nat)(g:Option Nat)(w w':World):Prop where
 os:w'.os=w.os
 tape:w'.tape=w.tape
 output:w'.output=w.output
 size:w.heap.size<=w'.heap.size
 block:∀k,k<w.heap.size->k≠b->some k≠g->w'.heap[k]? =w.heap[k]?
theorem hI.of{b:Nat}{g:Option Nat}{w w':World}(h:w.grownBy w' g):hI b g w w':=⟨h.os,h.tape,h.output,h.size,λk hk _ hg=>h.block k hk hg⟩
theorem hI.trans{b:Nat}{g:Option Nat}{u v w:World}(h:hI b g u v)(k:hI b g v w):hI b g u w:=
 ⟨k.os.trans h.os,k.tape.trans h.tape,k.output.trans h.output,Nat.le_trans h.size k.size,λi hi h1 h2=>(k.block i (Nat.lt_of_lt_of_le hi h.size) h1 h2).trans (h.block i hi h1 h2)⟩
theorem hI.refl{b:Nat}{g:Option Nat}(w:World):hI b g w w:=⟨rfl,rfl,rfl,zag _,λ_ _ _ _=>rfl⟩
theorem hI.setCell{b:Nat}{g:Option Nat}(w:World)(a:Addr)(ha:a.block=b)(u:Value):hI b g w (w.setCell a u):=
 ⟨rfl,rfl,rfl,by simp [World.setCell],λk _ hk _=>Below.heap_setCell _ _ _ _ (by rw[ha];exact hk)⟩
theorem ahH{w:World}(t u ty e:TypeId)(i:TypeInfo)(ht:P.underlying t=some (.slice e))(hu:P.underlying u=some .string)(hi:P.info? e=some i)(hz:i.zero=some (.int .u8 0))(cm:i.size=1)(oM:i.bytes=1)
 (v:Value) (n:Nat) (xs:List Value) (b7:w.ownsRow 0 e 1 v n xs) (s:ByteArray) (EA:n+s.size<=maxLen) (gN:n+s.size<=140737488355328) {v':Value} {w':World}
 (h:(Builtin.append_ #[t,u] ty #[v,.string s]).run P w= .ok v' w'):∀g,v'.ownBlock=some g->v.ownBlock=some g\/g=w.heap.size:=by
 have EU:xs.length=n:=by simpa using b7.1
 have xb:n+s.size<=9223372036854775807:=by simp only[maxLen] at EA;omega
 intro g0 Gq;rcases b7.2 with⟨rfl,rfl⟩|⟨g,cap,cur,rfl,hbg,hg,Ry,uB,eU,nZ⟩
 ·by_cases hm:s.size=0
  ·have hf:=Lib.run_firstCells_string (P:=P) w 1 s;rw[hm] at hf;simp [Builtin.append_,run_underlying ht,run_underlying hu,sizeOf,typeInfo,hi,cm,Builtin.lenOf,hm,hf] at h;rw[<-h.1] at Gq;simp [zcE] at Gq
  ·have hr:=run_append_nil_string (P:=P) w t u ty e i (.int .u8 0) ht hu hi hz s (by omega) (by omega) (by rw[oM];omega);rw[hr] at h;cases h;simp [zcE] at Gq;exact .inr Gq.symm
 ·by_cases nY:n+s.size<=cap
  ·have ary:cur.size=cap:=by simpa using eU
   have hr:=Lib.run_append_room_string (P:=P) w t u ty e i ht hu hi cm g n cap cur hg s nY (by omega);rw[hr] at h;cases h;exact .inl Gq
  ·have holds:∀j u,xs[j]? =some u->w.cell? ((⟨g,0,none⟩:Addr).add j)=some u:=b7.cells (g:=g) rfl;have hr:=Lib.run_append_grow_string (P:=P) w t u ty e i (.int .u8 0) ht hu hi hz ⟨g,0,none⟩ n cap xs (by rw[cm];simpa using EU) holds s (by omega) (by omega) (by rw[oM];exact growslice_fits (by omega) (by omega));rw[hr] at h;cases h;simp [zcE] at Gq;exact .inr Gq.symm
theorem afz{ops:Array Oper}{rest:List Oper}{o:Oper}{a:Act}{w:World}{Q:Exit->Act->World->Prop}(Nv:o.guard=none)(sl x:Operand)(t u:TypeId)
 (ho:o.op= .call {callee:= .builtin .append,args:= #[sl,x],argTypes:= #[t,u]})
 (e:TypeId) (i:TypeInfo) (ht:P.underlying t=some (.slice e)) (hu:P.underlying u=some .string) (hi:P.info? e=some i) (hz:i.zero=some (.int .u8 0))
 (cm:i.size=1) (oM:i.bytes=1)
 (v:Value) (n:Nat) (xs:List Value) (hs:a.eval sl=v) (b7:w.ownsRow 0 e 1 v n xs) (s:ByteArray) (hx:a.eval x= .string s)
 (EA:n+s.size<=maxLen) (gN:n+s.size<=140737488355328)
 (h:∀v' w',w'.ownsRow 0 e 1 v' (n+s.size) (xs++zcO s)->w.grownBy w' v.ownBlock->(∀g,v'.ownBlock=some g->v.ownBlock=some g\/g=w.heap.size)->wpList P ops Q rest (a.put o.dst v') w'):wpList P ops Q (o::rest) a w:=by
 refine wpList_plain Nv λK hK=> ?_;obtain⟨v',w',hr,h2,h3,h4⟩:=Lib.run_append_own_string (P:=P) w 0 t u o.type e i ht hu hi hz cm oM v n xs b7 s EA gN (zaX _);unfold Oper.wp execOp;simp only[ho,resolve,invoke,builtin,BY,GP,fv,List.map_toArray,zaq,List.map_nil,hs,hx,hr];exact hK _ _ (h v' w' h2 h3 (ahH t u o.type e i ht hu hi hz cm oM v n xs b7 s EA gN hr))
theorem ahQ(L:Lays.n240 P ρ)(X:Builder.X72 P ρ)(b:Nat)(v:Value)(bs:List Value)(w:World)(h:xM (ρ.t 72) (ρ.t 5) b v bs w):
 Calls P (ρ.f 240) #[.pointer (some ⟨b,0,none⟩)] w λe w'=>e= .returned (.tuple #[])/\(w'.heap[b]? =some (.cells #[.pointer (some ⟨b,0,none⟩),v] (ρ.t 72) (0,0))/\w'.ownsRow 0 (ρ.t 5) 1 v bs.length bs)/\(hI b none w w'/\w'.heap.size=w.heap.size):=by
 rcases h.nJ with hb|hb
 ·have hA:Lib.BuilderAt (ρ.t 72) (ρ.t 5) 0 b (.pointer none) bs w:=⟨zaX _,v,hb,h.own,h.ne⟩
  refine(Any.Builder_copyCheck_fresh L X b w hA.cell0 hA.shape hA.frozen0).mono ?_;rintro e w' ⟨rfl,rfl⟩;have hu:=hA.used (.pointer (some ⟨b,0,none⟩));obtain⟨_,v',wG,nV,_⟩:=hu;have hv:v'=v:=by have:(w.setCell ⟨b,0,none⟩ (.pointer (some ⟨b,0,none⟩))).heap[b]? =some (.cells #[.pointer (some ⟨b,0,none⟩),v] (ρ.t 72) (0,0)):=heap_setCell_same w b 0 _ _ _ hb;rw[wG] at this;simp at this;exact this
  subst hv;exact⟨rfl,⟨wG,nV⟩,hI.setCell w ⟨b,0,none⟩ rfl _,by simp [World.setCell]⟩
 ·have hA:Lib.BuilderAt (ρ.t 72) (ρ.t 5) 0 b (.pointer (some ⟨b,0,none⟩)) bs w:=⟨zaX _,v,hb,h.own,h.ne⟩
  refine(Any.Builder_copyCheck_used L X b w hA.cell0).mono ?_;rintro e w' ⟨rfl,rfl⟩;exact⟨rfl,⟨hb,h.own⟩,hI.refl _,rfl⟩
set_option maxHeartbeats 2000000 in
set_option maxRecDepth 100000 in
theorem ahR(L:Lays.n166 P ρ)(X:Builder.Extra P ρ)(b:Nat)(v0:Value)(bs:List Value)(s:ByteArray)(w:World)(h:xM (ρ.t 72) (ρ.t 5) b v0 bs w)(hlen:bs.length+s.size<=140737488355328):
 Calls P (ρ.f 166) #[.pointer (some ⟨b,0,none⟩),.string s] w λe w'=>e= .returned (.tuple #[.int .i64 s.size,.nilIface])/\∃v',xM (ρ.t 72) (ρ.t 5) b v' (bs++zcO s) w'/\hI b v0.ownBlock w w'/\∀g,v'.ownBlock=some g->v0.ownBlock=some g\/w.heap.size<=g:=by
 obtain⟨i0,hi,NB,NC,hz2⟩:=info_parts X.infoByte;have ap:=h.lt;have mixed:=L.mixed;have t72:=L.t72;have a72:=L.a72;have z72:=L.z72;have v72:=L.v72;have u72:=run_underlying L.t72;have t70:=L.t70;have a70:=L.a70;have z70:=L.z70;have v70:=L.v70;have u70:=run_underlying L.t70;have t37:=L.t37;have a37:=L.a37;have z37:=L.z37;have v37:=L.v37;have u37:=run_underlying L.t37;have t3:=L.t3;have a3:=L.a3;have z3:=L.z3;have v3:=L.v3;have u3:=run_underlying L.t3;have t9:=L.t9;have a9:=L.a9;have z9:=L.z9;have v9:=L.v9;have u9:=run_underlying L.t9;have t4:=L.t4;have a4:=L.a4;have z4:=L.z4;have v4:=L.v4;have u4:=run_underlying L.t4;have t164:=L.t164;have a164:=L.a164;have z164:=L.z164;have v164:=L.v164;have arD:=run_underlying L.t164;have t5:=X.t5;have a5:=X.a5;have z5:=X.z5;have v5:=X.v5;have u5:=run_underlying X.t5;have arw:∀args w,(callFunc (ρ.f 240) args).run P w= .ok (.enter (ρ.f 240) args) w:=enters_of L.f240 (by kernel_rfl) rfl
 go_enter L.f166,Body.n166_ntmps ρ
 go_wp2_with (go_at_fn (ρ.f 240);refine(ahQ {L with} X.toX72 b v0 bs _ h).mono ?_)
 rintro e w1 ⟨rfl,⟨Al,b7⟩,oL,GK⟩;have bR:=h.ne;have c0:w1.cell? ⟨b,0,none⟩=some (.pointer (some ⟨b,0,none⟩)):=by rw[zbL Al];rfl
 have c1:w1.cell? ⟨b,1,none⟩=some v0:=by rw[zbL Al];rfl
 go_wp2_with (at_builtin;refine afz rfl _ _ (ρ.t 37) (ρ.t 9) rfl (ρ.t 5) i0 L.t37 L.t9 hi NB NC hz2 _ _ _ rfl b7 s rfl ?c3 ?c4 ?_)
 case c3=>unfold maxLen;omega
 case c4=>omega
 intro v' w2 nV EH ix;have pK:b<w1.heap.size:=by rw[GK];exact ap
 have lH:w2.heap[b]? =some (.cells #[.pointer (some ⟨b,0,none⟩),v0] (ρ.t 72) (0,0)):=by rw[EH.block b pK (λe=>bR e.symm)];exact Al
 have d0:w2.cell? ⟨b,0,none⟩=some (.pointer (some ⟨b,0,none⟩)):=by rw[zbL lH];rfl
 have d1:w2.cell? ⟨b,1,none⟩=some v0:=by rw[zbL lH];rfl
 have f1:w2.frozen? ⟨b,1,none⟩=false:=Lib.frozen_of_heap lH 1;obtain⟨ao,n',cap,rfl⟩:∃ao n' cap,v'= .slice ao n' cap:=by
  rcases nV.2 with⟨hv,_⟩|⟨g,cap,cur,hv,_⟩
  ·exact⟨_,_,_,hv⟩
  ·exact⟨_,_,_,hv⟩
 go_wp2
 go_ret2
 have Rz:(Value.slice ao n' cap).ownBlock≠some b:=λe=>by
  rcases ix b e with h1|h1
  ·exact bR h1
  ·omega
 have fO:(w2.setCell ⟨b,1,none⟩ (.slice ao n' cap)).heap[b]? =some (.cells #[.pointer (some ⟨b,0,none⟩),.slice ao n' cap] (ρ.t 72) (0,0)):=heap_setCell_same w2 b 1 _ _ _ lH;refine⟨rfl,_,⟨.inr fO,?_,Rz⟩,?_,λg hg=> ?_⟩
 ·have hl:(bs++zcO s).length=bs.length+s.size:=by rw[th,Lib.strCells_length]
  rw[hl];refine⟨nV.1,?_⟩;rcases nV.2 with hn|⟨g,Af,cur,hv,hbg,hg,rest⟩
  ·exact .inl hn
  ·refine .inr ⟨g,Af,cur,hv,hbg,?_,rest⟩;rw[Below.heap_setCell _ _ _ _ (λe=>Rz (by rw[hv,zcE];exact congrArg some e))];exact hg
 ·refine hI.trans ⟨oL.os,oL.tape,oL.output,oL.size,λk hk h1 h2=>oL.block k hk h1 (by simp)⟩ (hI.trans (hI.of EH) (hI.setCell w2 ⟨b,1,none⟩ rfl _))
 ·rcases ix g hg with h1|h1
  ·exact .inl h1
  ·exact .inr (by omega)
theorem hI.freeze{b:Nat}{g:Nat}(w:World)(a:Addr)(ha:a.block=g)(n:Nat):hI b (some g) w (w.freeze a n):=by
 unfold World.freeze;split
 ·exact hI.refl _
 ·refine⟨rfl,rfl,rfl,by simp,λk hk h1 h2=> ?_⟩;simp only[Array.getElem?_modify];rw[if_neg];intro e;exact h2 (by rw[<-e,ha])
theorem hI.drew{b:Nat}{g:Option Nat}(w:World):hI b g w w.drew:=⟨rfl,rfl,rfl,zag _,λ_ _ _ _=>rfl⟩
theorem hI.alloc{b:Nat}{g:Option Nat}(w:World)(o:Obj):hI b g w (w.alloc o):=⟨rfl,rfl,rfl,by simp,λk hk _ _=>Below.heap_alloc _ _ _ hk⟩
set_option maxHeartbeats 2000000 in
set_option maxRecDepth 100000 in
theorem ama(L:Lays.n169 P ρ)(X:Builder.Extra P ρ)(b:Nat)(v0:Value)(l:List UInt8)(w:World)(h:xM (ρ.t 72) (ρ.t 5) b v0 (Lib.byteCells l) w):
 Calls P (ρ.f 169) #[.pointer (some ⟨b,0,none⟩)] w λe w'=>e= .returned (.string ⟨l.toArray⟩)/\hI b v0.ownBlock w w':=by
 obtain⟨p,Al⟩:∃p,w.heap[b]? =some (.cells #[p,v0] (ρ.t 72) (0,0)):=by
  rcases h.nJ with h|h
  ·exact⟨_,h⟩
  ·exact⟨_,h⟩
 have b7:=h.own;have ap:=h.lt;rw[Lib.byteCells_length] at b7;have mixed:=L.mixed;have t72:=L.t72;have a72:=L.a72;have z72:=L.z72;have v72:=L.v72;have u72:=run_underlying L.t72;have t70:=L.t70;have a70:=L.a70;have z70:=L.z70;have v70:=L.v70;have u70:=run_underlying L.t70;have t37:=L.t37;have a37:=L.a37;have z37:=L.z37;have v37:=L.v37;have u37:=run_underlying L.t37;have t127:=L.t127;have a127:=L.a127;have z127:=L.z127;have v127:=L.v127;have arC:=run_underlying L.t127;have t3:=L.t3;have a3:=L.a3;have z3:=L.z3;have v3:=L.v3;have u3:=run_underlying L.t3;have t9:=L.t9;have a9:=L.a9;have z9:=L.z9;have v9:=L.v9;have u9:=run_underlying L.t9;have t5:=X.t5;have a5:=X.a5;have z5:=X.z5;have v5:=X.v5;have u5:=run_underlying X.t5;rcases b7.2 with⟨rfl,hz⟩|⟨g,cap,cur,rfl,hbg,hg,Ry,uB,eU,nZ⟩
 ·have hl:l=[]:=zam hz;subst hl;have hUS:=zeh L X;have c1:w.drew.cell? ⟨b,1,none⟩=some (.slice none 0 0):=by have:w.drew.heap[b]? =some (.cells #[p,.slice none 0 0] (ρ.t 72) (0,0)):=Al;rw[zbL this];rfl
  have hSD:(zcH #[(ρ.t 37)] (ρ.t 127) #[.slice none 0 0]).run P w.drew= .ok (.pointer none) w.drew:=rfl
  go_enter L.f169,zeA ρ
  go_wp2
  go_region_o
  all_goals(go_wp2;go_ret;exact⟨rfl,hI.drew w⟩)
 ·by_cases Rp:l.length=0
  ·have hl:l=[]:=zam Rp;subst hl;by_cases hc0:cap=0
   ·subst hc0;have hUS:=zeh L X;have c1:w.drew.cell? ⟨b,1,none⟩=some (.slice (some ⟨g,0,none⟩) 0 0):=by have:w.drew.heap[b]? =some (.cells #[p,.slice (some ⟨g,0,none⟩) 0 0] (ρ.t 72) (0,0)):=Al;rw[zbL this];rfl
    have hSD:(zcH #[(ρ.t 37)] (ρ.t 127) #[.slice (some ⟨g,0,none⟩) 0 0]).run P w.drew= .ok (.pointer (some ⟨w.drew.heap.size,0,none⟩)) (w.drew.alloc (.view ⟨g,0,none⟩ (ρ.t 5))):=
     Lib.run_unsafeSliceData_zero w.drew _ _ (ρ.t 5) L.t127 ⟨g,0,none⟩ 0 ((ρ.t 5),cur.size) (by have Nu:w.drew.heap[g]? =some (.cells cur (ρ.t 5) (0,0)):=hg;simp [World.shape?,Nu])
    have c2:(w.drew.alloc (.view ⟨g,0,none⟩ (ρ.t 5))).cell? ⟨b,1,none⟩=some (.slice (some ⟨g,0,none⟩) 0 0):=by have:(w.drew.alloc (.view ⟨g,0,none⟩ (ρ.t 5))).heap[b]? =_:=(Lib.alloc_old w.drew _ b ap).trans Al;rw[zbL this];rfl
    have c3:(w.alloc (.view ⟨g,0,none⟩ (ρ.t 5))).drew.cell? ⟨b,1,none⟩=some (.slice (some ⟨g,0,none⟩) 0 0):=c2;have c0:w.cell? ⟨b,1,none⟩=some (.slice (some ⟨g,0,none⟩) 0 0):=c1
    go_enter L.f169,zeA ρ
    go_wp2
    go_region_o
    all_goals(go_wp2;go_ret;exact⟨rfl,(hI.drew w).trans (hI.alloc _ _)⟩)
   ·have hUS:=zeh L X;have c1:w.drew.cell? ⟨b,1,none⟩=some (.slice (some ⟨g,0,none⟩) 0 cap):=by have:w.drew.heap[b]? =some (.cells #[p,.slice (some ⟨g,0,none⟩) 0 cap] (ρ.t 72) (0,0)):=Al;rw[zbL this];rfl
    have hSD:(zcH #[(ρ.t 37)] (ρ.t 127) #[.slice (some ⟨g,0,none⟩) 0 cap]).run P w.drew= .ok (.pointer (some ⟨g,0,none⟩)) w.drew:=
     zeB _ _ _ _ _ _ hc0
    clear hc0
    go_enter L.f169,zeA ρ
    go_wp2
    go_region_o
    all_goals(go_wp2;go_ret;exact⟨rfl,hI.drew w⟩)
  ·have h0:l≠ []:=λe=>Rp (by rw[e];rfl);have c1:w.drew.cell? ⟨b,1,none⟩=some (.slice (some ⟨g,0,none⟩) l.length cap):=by have:w.drew.heap[b]? =some (.cells #[p,.slice (some ⟨g,0,none⟩) l.length cap] (ρ.t 72) (0,0)):=Al;rw[zbL this];rfl
   have hSD:(zcH #[(ρ.t 37)] (ρ.t 127) #[.slice (some ⟨g,0,none⟩) l.length cap]).run P w.drew= .ok (.pointer (some ⟨g,0,none⟩)) w.drew:=
    zeB _ _ _ _ _ _ (by omega)
   have hUS:(Builtin.unsafeString_ #[(ρ.t 127),(ρ.t 3)] (ρ.t 9) #[.pointer (some ⟨g,0,none⟩),.int .i64 l.length]).run P w.drew= .ok (.string ⟨l.toArray⟩) (w.drew.freeze ⟨g,0,none⟩ l.length):=by refine Lib.run_unsafeString_row w.drew (ρ.t 127) (ρ.t 3) (ρ.t 9) (ρ.t 5) L.t127 X.cellsByte g cur.size (by have Nu:w.drew.heap[g]? =some (.cells cur (ρ.t 5) (0,0)):=hg;simp [World.shape?,Nu]) l h0 (by omega) (by unfold maxLen at uB;omega) ?_;intro j x hx;have:=b7.cells (g:=g) rfl j (.int .u8 x.toNat) (by simp [Lib.byteCells,hx]);exact this
   go_enter L.f169,zeA ρ
   go_wp2
   go_region_o
   all_goals(go_wp2;go_ret;exact⟨rfl,(hI.drew w).trans (hI.freeze _ _ rfl _)⟩)
end Go.Ref

namespace Go.Ref
open Go
inductive SV where
 |undef
 |skip
 |cR
 |ey
 |aq (t:Ty) (x:El t) (own:List (List Nat))
 |ptr (id:Nat) (t:Ty) (p:List Nat)
 |view (t:Ty) (x:El t)
 |cap (f:Nat) (t:Ty) (x:El t) (u:Ty) (y:El u)
 |over
 |bF (id:Nat) (a b:Ty) (j:Nat)
def Ty.sD:Ty->Bool
 | .aY (.kl _ _) _ _=>false
 | .aY _ _ _=>true
 |_=>false
def Ty.bO:Ty->Bool
 | .aY _ _ _=>true
 |_=>false
def SV.bW:SV->Bool
 | .bF _ _ _ _=>true
 |_=>false
structure bH where
 t:Ty
 x:El t
 own:List (List Nat)
structure State where
 sl:List (List SV)
 bs:List (Option bH)
def nN(a:Ty):List Nat->Nat
 |0::q=>a.off q
 | [1]=>a.cells
 | [1,i]=>a.cells+i
 | [2]=>a.cells+2
 |_=>0
def gIn(a:Ty):List Nat->Prop
 | []=>True
 |0::q=>a.fe q
 | [1]=>True
 | [1,i]=>i<2
 | [2]=>True
 |_=>False
def z91:List (List Nat):=[[2]]
def lX:List (List Nat):=[[0],[1],[0,2],[1,2]]
def Ty.ff:Ty->Bool
 | .aY .cX _ _=>true
 |_=>false
structure Env where
 ty:TypeId->Option Ty
 bytes:TypeId->Nat
 pt:TypeId->Bool
 dy:Nat->List Nat
 jT:Nat->List Nat
 outs:List Nat
 ps:List Ty
 mp:TypeId->Option (TypeId×TypeId):=λ_=>none
 join:Nat->Option (List Nat):=λ_=>none
 fz:Nat->Option (Nat×TypeId):=λ_=>none
 dr:Nat->List Nat:=λ_=>[]
 sh:List Nat:=[]
 ro:Bool:=false
 mv:List Nat:=[]
 fr:Nat->List Nat:=λ_=>[]
 bl:TypeId->Option TypeId:=λ_=>none
 gr:TypeId->Option (Ty×Ty):=λ_=>none
 ga:TypeId->Bool:=λ_=>false
 sg:Option (Nat×Nat×Nat):=none
 sp:Option (Nat×Nat×Nat×Nat):=none
def Ty.iD:Ty->Bool
 | .unit=>true
 | .pair (.int _) b=>b.iD
 |_=>false
def Ty.isKey:Ty->Bool
 | .bool| .int _| .str=>true
 | .pair a b=>(Ty.pair a b).iD
 |_=>false
def xX:(t:Ty)->El t->El t->Bool
 | .pair (.int _) b,x,y=>decide (x.1=y.1)&&xX b x.2 y.2
 |_,_,_=>true
def gL:(t:Ty)->El t->El t->Bool
 | .bool,x,y=>decide (x=y)
 | .int _,x,y=>decide (x=y)
 | .str,x,y=>decide (x=y)
 | .pair a b,x,y=>xX (.pair a b) x y
 |_,_,_=>false
def fG{K V:Type}(eq:K->K->Bool)(d:V):List (K×V)->K->V
 | [],_=>d
 |q::r,k=>bif eq k q.1 then q.2 else fG eq d r k
def fH{K V:Type}(eq:K->K->Bool):List (K×V)->K->Bool
 | [],_=>false
 |q::r,k=>bif eq k q.1 then true else fH eq r k
section
variable {R:Type}
abbrev cc(R:Type):=List SV->Option bH->(List SV->Option bH->Option R)->Option R
def SV.el(s:SV)(u:Ty)(K:El u->Option R):Option R:=
 match s with
 | .aq t x _=>if h:t.cB u=true then K (Ty.cast h x) else none
 | .cR=>match u with
   | .sl _ _=>K []
   |_=>none
 |_=>none
def FA:Value->SV
 | .bool b=> .aq .bool b []
 | .int k n=> .aq (.int k) n []
 | .string s=> .aq .str s []
 | .slice none 0 0=> .cR
 | .pointer none=> .ey
 |_=> .undef
def State.slot(s:State)(t:Nat):List SV:=s.sl.getD t [.undef]
def State.AN(s:State):Operand->List SV
 | .tmp t=>s.slot t
 | .const v=>[FA v]
 |_=>[.undef]
def one:List SV->SV
 | [x]=>x
 |_=> .undef
def State.aI(s:State)(x:Operand):SV:=one (s.AN x)
def State.box(s:State)(id:Nat):Option bH:=(s.bs.getD id none)
def SV.shut:SV->SV
 | .aq t x _=> .aq t x []
 | .bF _ _ _ _=> .undef
 |v=>v
def SV.own:SV->List (List Nat)
 | .aq _ _ o=>o
 | .cR=>[[]]
 |_=>[]
def bX:List SV->Nat->List SV
 | [],_=>[]
 |v::r,0=>v.shut::r
 |v::r,j+1=>v::bX r j
structure Out where
 v:List SV
 bx:Option (Nat×bH):=none
 cl:List (Nat×Nat):=[]
def State.close(s:State):List (Nat×Nat)->State
 | []=>s
 |(i,j)::r=>State.close {s with sl:=s.sl.set i (bX (s.slot i) j)} r
def State.aE(s:State):Option (Nat×bH)->State
 |some (id,B)=>{s with bs:=s.bs.set id (some B)}
 |none=>s
def State.au(s:State):Option Nat->List SV->State
 |some d,v=>{s with sl:=s.sl.set d v}
 |none,_=>s
def State.apply(s:State)(dst:Option Nat)(o:Out):State:=((s.close o.cl).aE o.bx).au dst o.v
def xq:Operand->Option Nat
 | .tmp t=>some t
 |_=>none
def src:Operand->List (Nat×Nat)
 | .tmp t=>[(t,0)]
 |_=>[]
def aU(op:BinOp)(k:IntKind)(a b:Int):Int:=
 match op with
 | .and=>k.wrap ((zcy k.bits a&&&zcy k.bits b).toNat:Nat)
 | .or=>k.wrap ((zcy k.bits a|||zcy k.bits b).toNat:Nat)
 | .xor=>k.wrap ((zcy k.bits a^^^zcy k.bits b).toNat:Nat)
 |_=>k.wrap ((zcy k.bits a&&& ~~~ zcy k.bits b).toNat:Nat)
def dV:(t:Ty)->El t->El t->Option Bool
 | .bool,x,y=>some (x==y)
 | .int _,x,y=>some (decide (x=y))
 | .str,x,y=>some (decide (x=y))
 | .unit,_,_=>some true
 | .arr _ (.int _),x,y=>some (decide ((x:List Int)=y))
 | .pair a b,x,y=>match dV a x.1 y.1,dV b x.2 y.2 with
   |some p,some q=>some (p&&q)
   |_,_=>none
 |_,_,_=>none
def i64(n:Int):List SV:=[.aq (.int .i64) n []]
def bl(b:Bool):List SV:=[.aq .bool b []]
def tA(op:BinOp)(k:IntKind)(a:Int)(k':IntKind)(b:Int)(K:List SV->Option R):Option R:=
 match op with
 | .shl=>bif decide (b<0) then none else K [.aq (.int k) (k.wrap (a*2^min b.toNat k.bits)) []]
 | .shr=>bif decide (b<0) then none else K [.aq (.int k) (a.fdiv (2^min b.toNat k.bits)) []]
 |_=>if k=k' then
  match op with
  | .add=>K [.aq (.int k) (k.wrap (a+b)) []]
  | .sub=>K [.aq (.int k) (k.wrap (a-b)) []]
  | .mul=>K [.aq (.int k) (k.wrap (a*b)) []]
  | .quo=>bif decide (b=0) then none else K [.aq (.int k) (k.wrap (a.tdiv b)) []]
  | .rem=>bif decide (b=0) then none else K [.aq (.int k) (a.tmod b) []]
  | .and| .or| .xor| .andNot=>K [.aq (.int k) (aU op k a b) []]
  | .eql=>K (bl (decide (a=b)))
  | .neq=>K (bl (!decide (a=b)))
  | .lss=>K (bl (decide (a<b)))
  | .leq=>K (bl (decide (a<=b)))
  | .gtr=>K (bl (decide (b<a)))
  | .geq=>K (bl (decide (b<=a)))
  |_=>none
  else none
def tC(op:BinOp)(a b:ByteArray)(K:List SV->Option R):Option R:=
 match op with
 | .add=>bif decide (a.size+b.size<=9223372036854775807) then K [.aq .str (a++b) []] else none
 | .eql=>K (bl (decide (a=b)))
 | .neq=>K (bl (!decide (a=b)))
 | .lss=>K (bl (zf0 a.toList b.toList))
 | .leq=>K (bl (zf0 a.toList b.toList||decide (a=b)))
 | .gtr=>K (bl (!(zf0 a.toList b.toList||decide (a=b))))
 | .geq=>K (bl (!(zf0 a.toList b.toList)))
 |_=>none
def Ty.depth:Ty->Nat
 | .arr _ t=>t.depth+1
 | .pair a b=>max (a.depth+1) b.depth
 |_=>1
def tz(E:Env)(op:BinOp)(T:TypeId)(x y:SV)(K:List SV->Option R):Option R:=
 match E.ty T with
 |some t=>if zaL t.depth 1000=false then none else x.el t λa=>y.el t λb=>match dV t a b with
  |some r=>match op with
   | .eql=>K (bl r)
   | .neq=>K (bl (!r))
   |_=>none
  |none=>none
 |none=>none
def bin(E:Env)(op:BinOp)(T:TypeId)(x y:SV)(K:List SV->Option R):Option R:=
 match x,y with
 | .aq (.int k) a _,.aq (.int k') b _=>tA op k a k' b K
 | .aq .str a _,.aq .str b _=>tC op a b K
 | .ptr _ t _,.ey=>if((t.bO&& !t.ff)|| !E.pt T)=true then none else match op with
   | .eql=>K (bl false)
   | .neq=>K (bl true)
   |_=>none
 | .ey,.ey=>if E.pt T=false then none else match op with
   | .eql=>K (bl true)
   | .neq=>K (bl false)
   |_=>none
 |x,y=>tz E op T x y K
def ze(s:ByteArray)(i:Nat):Int:=if h:i<s.size then((s[i]'h).toNat:Int) else 0
def strOf(xs:List Int):ByteArray:=⟨(xs.map λx=>UInt8.ofNat x.toNat).toArray⟩
def zd(i:Int)(n:Nat)(K:Option R):Option R:=bif decide (0<=i) then bif decide (i<(n:Int)) then K else none else none
def CL(lo:Option SV)(h:Nat)(K:Nat->Option R):Option R:=
 match lo with
 |none=>K 0
 |some v=>v.el (.int .i64) λl=>bif decide (0<=l) then bif decide (l<=(h:Int)) then K l.toNat else none else none
def cutAt(lo hi:Option SV)(n:Nat)(K:Nat->Nat->Option R):Option R:=
 match hi with
 |none=>CL lo n λl=>K l n
 |some v=>v.el (.int .i64) λh=>bif decide (0<=h) then bif decide (h<=(n:Int)) then CL lo h.toNat (λl=>K l h.toNat) else none else none
def Ty.lS:Ty->Nat->Bool
 | .arr n _,i=>zaL (i+1) n
 |_,_=>true
def CD(own:List (List Nat))(p:List Nat):List (List Nat):=own.filter λq=> !(p.isPrefixOf q)
def hP(own:List (List Nat))(p:List Nat):Bool:=own.any λq=>q==p
def zml(own:List (List Nat))(p:List Nat):List (List Nat):=(own.filter λq=>p.isPrefixOf q).map λq=>q.drop p.length
def bump:List Nat->Option (List Nat)
 | []=>none
 |j::p=>some ((j+1)::p)
def Cp:Ty->List (List Nat)
 | .sl _ _=>[[]]
 | .pair a b=>(Cp a).map (λp=>0::p)++(Cp b).filterMap bump
 |_=>[]
def uo(t:Ty):El t->List (List Nat)->List (Nat×SV×List (List Nat))->(El t->List (List Nat)->Option R)->Option R
 |x,own,[],K=>K x own
 |x,own,(i,v,ov)::r,K=>if t.lS i=false then none else match t.at_ [i] with
  |some u=>v.el u λy=>match El.set t [i] x u y with
   |some z=>uo t z (ov.map (λp=>i::p)++CD own [i]) r K
   |none=>none
  |none=>none
def CC(o:List (List Nat))(x:Operand):List (Nat×Nat):=
 match o with
 | []=>[]
 |_::_=>src x
def z24:State->List (Nat×Operand)->List (Nat×SV×List (List Nat))×List (Nat×Nat)
 |_,[]=>([],[])
 |s,(i,x)::r=>((i,s.aI x,(s.aI x).own)::(z24 (s.close (CC (s.aI x).own x)) r).1,CC (s.aI x).own x++(z24 (s.close (CC (s.aI x).own x)) r).2)
def FK(t:Ty):List (El t)->List (Nat×SV)->(List (El t)->Option R)->Option R
 |xs,[],K=>K xs
 |xs,(i,v)::r,K=>if zaL (i+1) xs.length=false then none else v.el t λy=>FK t (xs.set i y) r K
def Cc(ops:List Oper)(d:Option Nat):Bool:=
 match d with
 |some d=>ops.any λo=>match o.op with
  | .call ⟨.builtin .append,args,_⟩=>match args.toList with
    | .tmp t::_=>xz t d
    |_=>false
  |_=>false
 |none=>false
def YJ(ops:List Oper)(d:Option Nat):Bool:=
 match d with
 |some d=>ops.any λo=>match o.op,o.dst with
  | .indexAddr _ (.tmp t) _,some a=>xz t d&&ops.any λq=>match q.op with
    | .store _ (.tmp b) _=>xz a b
    |_=>false
  |_,_=>false
 |none=>false
def EX(E:Env)(ops:List Oper)(d:Option Nat):Bool:=
 match d with
 |some d=>ops.any λo=>match o.op with
  | .store _ (.tmp r) (.tmp t)=>xz t d&&E.outs.any (xz r)
  |_=>false
 |none=>false
def getM{α:Type}(j:Nat)(m:Option α×Option α):Option α:=bif xz j 0 then m.1 else bif xz j 1 then m.2 else none
def gy{α:Type}(j:Nat)(y:Option α)(m:Option α×Option α):Option α×Option α:=bif xz j 0 then(y,m.2) else(m.1,y)
def oU(s:State)(id:Nat)(a b:Ty)(K:El (.aY .cX a b)->List (List Nat)->Option R):Option R:=
 match s.box id with
 |some B=>if h:B.t.cB (.aY .cX a b)=true then bif lX.all (hP B.own) then K (Ty.cast h B.x) B.own else none else none
 |none=>none
def MG(u':Ty)(s:State)(id:Nat)(t:Ty)(p:List Nat)(K:Out->Option R):Option R:=
 match t,p with
 | .aY .row a b,[i]=>match s.box id with
   |some B=>if h:B.t.cB (.aY .row a b)=true then if u'.cB a=true then
     bif zaL (i+1) (aa (Ty.cast h B.x:List (El a))) then K {v:=[.aq a (an (Ty.cast h B.x:List (El a)) i (El.b9 a)) []]} else none
    else none else none
   |none=>none
 | .aY .cX a b,[0]=>if u'.cB a=true then oU s id a b λx _=>K {v:=[.aq a x.1 []]} else none
 | .aY .cX a b,[2]=>if u'.cB (.int .i64)=true then oU s id a b λx _=>K {v:=i64 x.2.2} else none
 |_,_=>none
def Mc(u:Ty)(s:State)(id:Nat)(t:Ty)(p:List Nat)(v:SV)(K:Out->Option R):Option R:=
 match t,p with
 | .aY .row a b,[i]=>match s.box id with
   |some B=>if h:B.t.cB (.aY .row a b)=true then if a.cB u=true then
     v.el a λy=>bif zaL (i+1) (aa (Ty.cast h B.x:List (El a))) then K {v:=[.skip],bx:=some (id,⟨.aY .row a b,(za1 (Ty.cast h B.x:List (El a)) i y:List (El a)),[]⟩)} else none
    else none else none
   |none=>none
 | .aY .cX a b,0::q=>match a.at_ q with
   |some u'=>if u'.cB u=true then oU s id a b λx own=>v.el u λy=>match El.set a q x.1 u y with
     |some z=>bif hP own [] then K {v:=[.skip],bx:=some (id,⟨.aY .cX a b,(z,x.2),own⟩)} else none
     |none=>none
    else none
   |none=>none
 | .aY .cX a b,[2]=>if u.cB (.int .i64)=true then oU s id a b λx own=>v.el (.int .i64) λn=>bif hP own [] then K {v:=[.skip],bx:=some (id,⟨.aY .cX a b,(x.1,x.2.1,n),own⟩)} else none else none
 |_,_=>none
def O0(v:SV)(j:Nat)(ta tb:Ty)(K:Out->Option R):Option R:=
 match v with
 | .ptr id (.aY .cX a b) []=>if(a.cB ta&&b.cB tb)=true then bif zaL j 2 then K {v:=[.ptr id (.aY .cX a b) [j]]} else none else none
 |_=>none
def Zq(t:Ty)(n:Int)(id:Nat)(r:Ty)(p:List Nat)(K:Out->Option R):Option R:=
 match r,p with
 | .aY (.hJ m) a b,[]=>if a.cB t=true then zd n m (K {v:=[.ptr id (.aY .row a b) [n.toNat]]}) else none
 |_,_=>none
def Oy(u':Ty)(B:bH)(t:Ty)(p:List Nat)(K:Out->Option R):Option R:=
 match t,p with
 | .arr n e,[]=>if h:B.t.cB (.aY .row e .unit)=true then if u'.cB (.arr n e)=true then
    bif xz n (aa (Ty.cast h B.x:List (El e))) then K {v:=[.aq (.arr n e) (Ty.cast h B.x:List (El e)) []]} else none
   else none else none
 |_,_=>none
def lv(E:Env)(T:TypeId)(s:State)(v:SV)(K:Out->Option R):Option R:=
 match v with
 | .ptr id (.aY .cX a b) [1,j]=>if E.pt T=true then oU s id a b λx own=>bif hP own [] then K {v:=[.bF id a b j],bx:=some (id,⟨.aY .cX a b,x,own.filter λq=> !q.isEmpty⟩)} else none else none
 |_=>none
def load(E:Env)(T:TypeId)(s:State)(la:Bool)(a:SV)(K:Out->Option R):Option R:=
 match E.ty T with
 |some u'=>match a with
  | .view t x=>if u'.cB t=true then K {v:=[.aq t x []]} else none
  | .ptr id t p=>if t.bO=true then MG u' s id t p K else match s.box id with
    |some B=>if B.t.cB t=true then
      match El.get B.t p B.x with
      |some ⟨u,y⟩=>if u'.cB u=true then
        bif la then K {v:=[.aq u y (zml B.own p)],bx:=some (id,{B with own:=CD B.own p})} else K {v:=[.aq u y []]}
       else none
      |none=>none
     else Oy u' B t p K
    |none=>none
  |_=>none
 |none=>lv E T s a K
def store(E:Env)(T:TypeId)(s:State)(a:SV)(vo:Operand)(K:Out->Option R):Option R:=
 match E.ty T with
 |some u=>match a with
  | .ptr id t p=>if t.bO=true then Mc u s id t p (s.aI vo) K else match s.box id with
    |some B=>if B.t.cB t=true then
      match t.at_ p with
      |some u'=>if u'.cB u=true then
        (s.aI vo).el u λy=>match El.set B.t p B.x u y with
        |some z=>K {v:=[.skip],bx:=some (id,{t:=B.t,x:=z,own:=(s.aI vo).own.map (λq=>p++q)++CD B.own p}),cl:=src vo}
        |none=>none
       else none
      |none=>none
     else none
    |none=>none
  |_=>none
 |none=>none
def Ty.dx:Ty->Bool
 | .pair .. =>true
 |_=>false
def Ou(u:Ty)(id:Nat)(t:Ty)(p:List Nat)(j:Nat)(K:Out->Option R):Option R:=
 match t,p with
 | .aY .cX a b,0::q=>match a.at_ q with
   |some u'=>if(u.cB u'&&u.dx)=true then match u.at_ [j] with
     |some f=>if xz f.cells 0=true then none else K {v:=[.ptr id (.aY .cX a b) (0::(q++ [j]))]}
     |none=>none
    else none
   |none=>none
 |_,_=>none
def Ox(m:Nat)(t:Ty)(n:Int)(id:Nat)(r:Ty)(p:List Nat)(K:Out->Option R):Option R:=
 match r,p with
 | .aY .cX a b,0::q=>match a.at_ q with
   |some u=>if u.cB (.arr m t)=true then zd n m (K {v:=[.ptr id (.aY .cX a b) (0::(q++ [n.toNat]))]}) else none
   |none=>none
 |_,_=>none
def zlp(t?:Option Ty)(a:SV)(j:Nat)(K:Out->Option R):Option R:=
 match t?,a with
 |some u,.ptr id t p=>if t.bO=true then Ou u id t p j K else match t.at_ p with
  |some u'=>if(u.cB u'&&u.dx)=true then match u.at_ [j] with
    |some f=>if xz f.cells 0=true then none else K {v:=[.ptr id t (p++ [j])]}
    |none=>none
   else none
  |none=>none
 |some u,.view t x=>if(u.cB t&&u.dx)=true then match El.get t [j] x with
   |some ⟨f,y⟩=>if xz f.cells 0=true then none else K {v:=[.view f y]}
   |none=>none
  else none
 |_,_=>none
def SV.num(s:SV)(K:Int->Option R):Option R:=
 match s with
 | .aq (.int _) n _=>K n
 |_=>none
def zlz(E:Env)(T:TypeId)(a i:SV)(K:Out->Option R):Option R:=
 i.num λn=>match E.ty T,a with
  |some (.sl e t),.aq t' xs _=>(SV.aq t' xs []).el (.sl e t) λys=>zd n ys.length (K {v:=[.view t (an ys n.toNat (El.b9 t))]})
  |some (.arr m t),.ptr id r p=>if r.bO=true then Ox m t n id r p K else match r.at_ p with
   |some u=>if u.cB (.arr m t)=true then zd n m (K {v:=[.ptr id r (p++ [n.toNat])]}) else none
   |none=>none
  |some (.arr m t),.view t' xs=>(SV.aq t' xs []).el (.arr m t) λys=>zd n m (K {v:=[.view t (an ys n.toNat (El.b9 t))]})
  |some (.sl _ t),.ptr id r p=>Zq t n id r p K
  |none,.ptr id (.aY .cX a b) [1]=>if E.ga T=true then zd n 2 (K {v:=[.ptr id (.aY .cX a b) [1,n.toNat]]}) else none
  |_,_=>none
def zm0(E:Env)(T:TypeId)(a i:SV)(K:Out->Option R):Option R:=
 i.num λn=>match E.ty T with
  |some .str=>a.el .str λs=>zd n s.size (K {v:=[.aq (.int .u8) (ze s n.toNat) []]})
  |some (.arr m t)=>a.el (.arr m t) λys=>zd n m (K {v:=[.aq t (an ys n.toNat (El.b9 t)) []]})
  |_=>none
def tE(E:Env)(T:TypeId)(a:SV)(lo hi:Option SV)(K:Out->Option R):Option R:=
 match E.ty T with
 |some .str=>a.el .str λs=>cutAt lo hi s.size λl h=>K {v:=[.aq .str (s.extract l h) []]}
 |some (.sl e t)=>a.el (.sl e t) λxs=>cutAt lo hi (aa xs) λl h=>K {v:=[.aq (.sl e t) ((It h xs).drop l) []]}
 |_=>none
def zez(E:Env)(T U:TypeId)(bo:Operand)(b x:SV)(K:Out->Option R):Option R:=
 if xz T U=false then none else
 match E.ty T with
 |some (.sl e t)=>if(xz (E.bytes e) 0||xz t.cells 0)=true then none else match b with
  | .cR=>x.el (.sl e t) λys=>bif decide (aa ys*E.bytes e<=140737488355328) then K {v:=[.aq (.sl e t) ys [[]]]} else none
  | .aq t' xs o=>if hP o []=false then none else(SV.aq t' xs o).el (.sl e t) λxs=>x.el (.sl e t) λys=>
    bif decide ((aa xs+aa ys)*E.bytes e<=140737488355328) then K {v:=[.aq (.sl e t) (xs++ys:List (El t)) [[]]],cl:=src bo} else none
  |_=>none
 |_=>none
def xg(E:Env)(T:TypeId)(x:SV)(K:Out->Option R):Option R:=
 match E.ty T with
 |some .str=>x.el .str λs=>K {v:=i64 (s.size:Int)}
 |some (.sl e t)=>match x with
  | .ptr _ (.aY (.hJ n) _ _) []=>K {v:=i64 (n:Int)}
  |x=>x.el (.sl e t) λxs=>K {v:=i64 (aa xs:Int)}
 |some (.arr n _)=>K {v:=i64 (n:Int)}
 |_=>none
def mg(E:Env)(S T:TypeId)(x:SV)(K:Out->Option R):Option R:=
 match E.ty S,E.ty T with
 |some (.int k),some (.int k')=>x.el (.int k) λn=>K {v:=[.aq (.int k') (k'.wrap n) []]}
 |some .str,some .str=>x.el .str λs=>K {v:=[.aq .str s []]}
 |some (.sl e (.int .u8)),some .str=>x.el (.sl e (.int .u8)) λxs=>K {v:=[.aq .str (strOf xs) []]}
 |_,_=>none
def kY(E:Env)(S T:TypeId)(s:State)(id n:Nat)(a b:Ty)(K:Out->Option R):Option R:=
 match E.ty S,E.ty T with
 |some (.sl _ (.int .u8)),some .str=>if a.cB (.int .u8)=true then match s.box id with
  |some B=>if h:B.t.cB (.aY .row (.int .u8) b)=true then bif xz n (aa (Ty.cast h B.x:List Int)) then K {v:=[.aq .str (strOf (Ty.cast h B.x:List Int)) []]} else none else none
  |none=>none else none
 |_,_=>none
def n8(E:Env)(T:TypeId):Option (Ty×Ty):=
 match E.mp T with
 |some (k,e)=>match E.ty k,E.ty e with
  |some kt,some vt=>if kt.isKey=true then some (kt,vt) else none
  |_,_=>none
 |none=>none
def lz(s:State)(dst:Option Nat)(t:Ty)(x:El t)(p:Ty)(K:Out->Option R):Option R:=
 match dst with
 |some d=>match s.bs[d+1]? with
  |some none=>K {v:=[.ptr (d+1) p []],bx:=some (d+1,⟨t,x,[]⟩)}
  |_=>none
 |none=>none
def yy(s:State)(m:SV)(kt vt:Ty)(K:Nat->List (El kt×El vt)->Option R):Option R:=
 match m with
 | .ptr id (.aY .mp kt' vt') []=>if((Ty.aY .mp kt' vt').cB (.aY .mp kt vt))=true then match s.box id with
   |some B=>if h:B.t.cB (.aY .mp kt vt)=true then K id (Ty.cast h B.x) else none
   |none=>none else none
 |_=>none
def ml(E:Env)(T:TypeId)(s:State)(m i:SV)(K:Out->Option R):Option R:=
 match n8 E T with
 |some (kt,vt)=>yy s m kt vt λ_ xs=>i.el kt λk=>K {v:=[.aq vt (fG (gL kt) (El.b9 vt) xs k) []]}
 |none=>none
def m8(E:Env)(T:TypeId)(s:State)(m i v:SV)(K:Out->Option R):Option R:=
 match n8 E T with
 |some (kt,vt)=>yy s m kt vt λid xs=>i.el kt λk=>v.el vt λy=>bif fH (gL kt) xs k then none else K {v:=[.skip],bx:=some (id,⟨.aY .mp kt vt,(xs++ [(k,y)]:List (El kt×El vt)),[]⟩)}
 |none=>none
def lm:Ty:= .aY .iter .unit .unit
def mo(s:State)(m:SV)(K:Out->Option R):Option R:=
 match m with
 | .ptr id (.aY .iter .unit .unit) []=>match s.box id with
   |some B=>if h:B.t.cB lm=true then
     bif decide ((Ty.cast h B.x:ByteArray×Nat).2<(Ty.cast h B.x:ByteArray×Nat).1.size) then
      K {v:=[.aq .bool true [],.aq (.int .i64) ((Ty.cast h B.x:ByteArray×Nat).2:Int) [],.aq (.int .i32) ((Utf8.decode (Ty.cast h B.x:ByteArray×Nat).1 (Ty.cast h B.x:ByteArray×Nat).2).1:Int) []],
         bx:=some (id,⟨lm,((Ty.cast h B.x:ByteArray×Nat).1,(Ty.cast h B.x:ByteArray×Nat).2+(Utf8.decode (Ty.cast h B.x:ByteArray×Nat).1 (Ty.cast h B.x:ByteArray×Nat).2).2),[]⟩)}
     else K {v:=[.over]}
    else none
   |none=>none
 |_=>none
def Xw:Operand->Bool
 | .const _=>true
 |_=>false
def mm(E:Env)(T:TypeId)(s:State)(dst:Option Nat)(lo:Operand)(l c:SV)(K:Out->Option R):Option R:=
 match E.ty T with
 |some (.sl e t)=>if(xz (E.bytes e) 0||xz t.cells 0)=true then none else l.el (.int .i64) λn=>c.el (.int .i64) λm=>
  bif Xw lo then
   bif decide (n=0) then bif decide (0<=m) then bif decide (m*E.bytes e<=140737488355328) then K {v:=[.aq (.sl e t) ([]:List (El t)) [[]]]} else none else none else none
  else bif decide (n=m) then bif decide (0<=n) then bif decide (n*E.bytes e<=140737488355328) then lz s dst (.aY .row t .unit) (so n.toNat (El.b9 t):List (El t)) (.aY (.hJ n.toNat) t .unit) K else none else none else none
 |_=>none
def Su(op:UnOp)(x:SV)(K:Out->Option R):Option R:=
 match op,x with
 | .not,.aq .bool b _=>K {v:=bl (!b)}
 | .neg,.aq (.int k) n _=>K {v:=[.aq (.int k) (k.wrap (0-n)) []]}
 |_,_=>none
def nK(f:FuncId)(x:SV)(K:Out->Option R):Option R:=
 match x with
 | .ptr id u []=>if u.sD=true then none else K {v:=[.ptr id (.aY (.xW f) u .unit) []]}
 |_=>none
def wv(n id:Nat)(a b:Ty)(lo hi:Option SV)(K:Out->Option R):Option R:=
 match hi with
 |some _=>none
 |none=>CL lo n λl=>K {v:=[.ptr id (.aY (.hJ n) a b) [l]]}
def tD(E:Env)(T:TypeId)(s:State)(id n:Nat)(t:Ty)(lo hi:Option SV)(K:Out->Option R):Option R:=
 match E.ty T,lo,hi with
 |some u,none,none=>if u.cB (.arr n t)=true then match s.box id with
  |some B=>if h:B.t.cB (.arr n t)=true then K {v:=[.ptr id (.aY (.hJ n) t .unit) []],bx:=some (id,⟨.aY .row t .unit,(Ty.cast h B.x:List (El t)),[]⟩)} else none
  |none=>none else none
 |_,_,_=>none
def oT(s:ByteArray):List Int:=s.data.toList.map λc=>(c.toNat:Int)
def ci{α:Type}(xs ys:List α)(lo:Nat):List α:=xs.take lo++(ys++xs.drop (lo+ys.length))
def iW(t:Ty)(s:State)(id n lo:Nat)(a b:Ty)(x:SV)(e:TypeId)(K:Out->Option R):Option R:=
 if a.cB t=true then x.el (.sl e t) λ(ys:List (El t))=>match s.box id with
  |some B=>if h:B.t.cB (.aY .row t b)=true then
    bif xz n (aa (Ty.cast h B.x:List (El t))) then bif zaL lo n then
     K {v:=i64 ((ys.take (n-lo)).length:Int),bx:=some (id,⟨.aY .row t b,(ci (Ty.cast h B.x:List (El t)) (ys.take (n-lo)) lo:List (El t)),[]⟩)}
    else none else none
   else none
  |none=>none else none
def kZ(t:Ty)(s:State)(id n:Nat)(a b:Ty)(y:ByteArray)(K:Out->Option R):Option R:=
 if t.cB (.int .u8)=true then if a.cB (.int .u8)=true then match s.box id with
  |some B=>if h:B.t.cB (.aY .row (.int .u8) b)=true then
    bif xz n (aa (Ty.cast h B.x:List Int)) then
     K {v:=i64 ((It n (oT y)).length:Int),bx:=some (id,⟨.aY .row (.int .u8) b,(ci (Ty.cast h B.x:List Int) (It n (oT y)) 0:List Int),[]⟩)}
    else none
   else none
  |none=>none else none else none
def copyV(E:Env)(T:TypeId)(s:State)(d x:SV)(K:Out->Option R):Option R:=
 match E.ty T,d with
 |some (.sl e t),.ptr id (.aY (.hJ n) a b) []=>(match x with
  | .aq .str y _=>kZ t s id n a b y K
  |x=>iW t s id n 0 a b x e K)
 |some (.sl e t),.ptr id (.aY (.hJ n) a b) [l]=>iW t s id n l a b x e K
 |_,_=>none
def R7(t b:Ty):Bool:=
 b.cB t||(match t with
  | .aY (.xW _) u _=>b.cB u
  |_=>false)
def ka(s:State):List SV->Option (List SV×Option (Nat×bH))
 | []=>some ([],none)
 |v::r=>match ka s r with
  |none=>none
  |some (l,b)=>match v,b with
   | .aq t x _,b=>some (.aq t x []::l,b)
   | .cR,b=>some (.cR::l,b)
   | .view t x,b=>some (.view t x::l,b)
   | .ptr id t [],none=>match s.box id with
     |some B=>if R7 t B.t=true then some (.ptr 0 t []::l,some (id,B)) else none
     |none=>none
   |_,_=>none
def SV.gV(id:Nat):SV->SV
 | .ptr _ t p=> .ptr id t p
 |v=>v
def Na(s:State):List Operand->Option (Nat×Nat×Ty×Ty×Nat×List Operand)
 | .tmp t::r=>match s.slot t with
   | [.bF id a b j]=>some (t,id,a,b,j,r)
   |_=>none
 |_=>none
def kV(C:FuncId->cc R)(s:State)(f:FuncId)(t id:Nat)(a b:Ty)(j:Nat)(vs:List SV)(K:Out->Option R):Option R:=
 if b.bO=true then none else match ka s vs with
 |some (l,none)=>oU s id a b λx own=>match getM j x.2.1 with
  |some y=>C f (.ptr 0 b []::l) (some ⟨b,y,z91⟩) λr B'=>match B' with
   |some B'=>if h:B'.t.cB b=true then bif hP B'.own [2] then K {v:=r,bx:=some (id,⟨.aY .cX a b,(x.1,gy j (some (Ty.cast h B'.x)) x.2.1,x.2.2),[]::own⟩),cl:=[(t,0)]} else none else none
   |none=>none
  |none=>none
 |_=>none
def gH(C:FuncId->cc R)(s:State)(dst:Option Nat)(f:FuncId)(vs:List SV)(K:Out->Option R):Option R:=
 match ka s vs with
 |some (l,none)=>C f l none λr B=>match B with
  |none=>K {v:=r}
  |some B=>match dst with
   |some d=>match s.bs[d+1]? with
    |some none=>K {v:=r.map (SV.gV (d+1)),bx:=some (d+1,B)}
    |_=>none
   |none=>none
 |some (l,some (id,B))=>if(B.t.ff&& !hP B.own [])=true then none else C f l (some B) λr B'=>match B' with
  |some B'=>if B'.t.cB B.t=true then K {v:=r,bx:=some (id,B')} else none
  |none=>none
 |none=>none
def ly(g:Bool)(x y:SV)(K:Out->Option R):Option R:=
 match x,y with
 | .aq (.int k) m _,.aq (.int _) n _=>K {v:=[.aq (.int k) (bif g then(if m<n then n else m) else(if n<m then n else m)) []]}
 |_,_=>none
def pR(E:Env)(T:TypeId)(K:Out->Option R):Option R:=
 match E.ty T with
 |some (.sl e t)=>K {v:=[.aq (.sl e t) ([]:List (El t)) [[]]]}
 |_=>K {v:=[.cR]}
def om(s:State):Operand->Option (Nat×List SV)
 | .tmp t=>bif xz (s.slot t).length 1 then none else some (t,s.slot t)
 |_=>none
def lE(t:Nat):Nat->List (Nat×Nat)
 |0=>[]
 |n+1=>(t,n)::lE t n
def gh(E:Env)(d:Option Nat):Bool:=
 match d with
 |some d=>E.sh.any (xz d)
 |none=>false
def takes(E:Env)(d:Option Nat):Bool:=
 match d with
 |some d=>E.mv.any (xz d)
 |none=>false
def Out.shut(u:Out):Out:={u with v:=u.v.map SV.shut}
def wu(f:FuncId)(x y:SV)(K:Out->Option R):Option R:=
 match x,y with
 | .view t a,.view u b=>K {v:=[.cap f t a u b]}
 |_,_=>none
def act(E:Env)(C:FuncId->cc R)(ops:List Oper)(o:Oper)(s:State)(K:Out->Option R):Option R:=
 match o.op with
 | .move x=>match om s x with
   |some (t,l)=>bif gh E o.dst then K {v:=l.map SV.shut} else K {v:=l,cl:=bif l.all λv=>v.own.isEmpty then [] else lE t l.length}
   |none=>match s.aI x with
    | .aq t y w=>bif Cc ops o.dst||takes E o.dst then K {v:=[.aq t y w],cl:=CC w x} else K {v:=[.aq t y []]}
    | .undef=>none
    | .bF _ _ _ _=>none
    | .cR=>pR E o.type K
    |v=>K {v:=[v]}
 | .assign x=>match s.aI x with
   | .aq t y w=>K {v:=[.aq t y w],cl:=CC w x}
   | .undef=>none
   | .bF _ _ _ _=>none
   | .cR=>pR E o.type K
   |v=>K {v:=[v]}
 | .pick c a b=>match s.aI c with
   | .aq .bool p _=>bif p then K {v:=[(s.aI a).shut]} else K {v:=[(s.aI b).shut]}
   |_=>none
 | .binOp op T x y _=>bin E op T (s.aI x) (s.aI y) λv=>K {v}
 | .unOp op _ x=>Su op (s.aI x) K
 | .convert S T x=>match s.aI x with
   | .ptr id (.aY (.hJ n) a b) []=>kY E S T s id n a b K
   |v=>mg E S T v K
 | .load T a=>load E T s (Cc ops o.dst||EX E ops o.dst||YJ ops o.dst) (s.aI a) K
 | .store T a x=>store E T s (s.aI a) x K
 | .nilCheck x=>match s.aI x with
   | .ptr id t p=>if(t.bO&& !t.ff)=true then none else K {v:=[.ptr id t p]}
   | .view t y=>K {v:=[.view t y]}
   |_=>none
 | .fieldAddr T x j=>match E.gr T with
   |some (ta,tb)=>O0 (s.aI x) j ta tb K
   |none=>zlp (E.ty T) (s.aI x) j K
 | .indexAddr T x i=>zlz E T (s.aI x) (s.aI i) K
 | .index T x i=>zm0 E T (s.aI x) (s.aI i) K
 | .field T x j=>match E.ty T with
   |some t=>if t.dx=false then none else(s.aI x).el t λy=>match El.get t [j] y with
    |some ⟨u,z⟩=>K {v:=[.aq u z []]}
    |none=>none
   |none=>none
 | .slice T x lo hi none=>match s.aI x with
   | .ptr id (.aY (.hJ n) a b) []=>(match E.ty T with
     |some (.sl _ t)=>if a.cB t=true then wv n id a b (lo.map s.aI) (hi.map s.aI) K else none
     |_=>none)
   | .ptr id (.arr n t) []=>tD E T s id n t (lo.map s.aI) (hi.map s.aI) K
   |v=>tE E T v (lo.map s.aI) (hi.map s.aI) K
 | .makeFunc (.func f) first captured=>match first.toList,captured.toList with
   | [],[x]=>nK f (s.aI x) K
   | [],[x,y]=>wu f (s.aI x) (s.aI y) K
   |_,_=>none
 | .alloc T=>match E.ty T,o.dst with
   |some t,some d=>match s.bs[d+1]? with
    |some none=>K {v:=[.ptr (d+1) t []],bx:=some (d+1,⟨t,El.b9 t,Cp t⟩)}
    |_=>none
   |none,some d=>(match E.gr T with
    |some (ta,tb)=>match s.bs[d+1]? with
     |some none=>K {v:=[.ptr (d+1) (.aY .cX ta tb) []],bx:=some (d+1,⟨.aY .cX ta tb,(El.b9 ta,(none,none),(0:Int)),[]::lX⟩)}
     |_=>none
    |none=>match E.bl T with
    |some e=>match s.bs[d+1]? with
     |some none=>K {v:=[.ptr (d+1) (.aY (.kl T e) .unit .unit) []],bx:=some (d+1,⟨.aY (.kl T e) .unit .unit,(⟨#[]⟩:ByteArray),[[]]⟩)}
     |_=>none
    |none=>none)
   |_,_=>none
 | .box T x=>match E.ty T,o.dst with
   |some t,some d=>match s.bs[d+1]? with
    |some none=>(s.aI x).el t λy=>K {v:=[.ptr (d+1) t []],bx:=some (d+1,⟨t,y,(s.aI x).own⟩),cl:=src x}
    |_=>none
   |_,_=>none
 | .build T parts=>match E.ty T with
   |some t=>if t.agg=false then none else uo t (El.b9 t) (Cp t) (z24 s parts.toList).1 λy own=>K {v:=[.aq t y own],cl:=(z24 s parts.toList).2}
   |none=>none
 | .buildSlice T n parts=>match E.ty T with
   |some (.sl e t)=>if xz t.cells 0=true then none else bif zaL (n*t.cells) 16777216 then FK t (so n (El.b9 t)) (parts.toList.map λp=>(p.1,s.aI p.2)) λy=>K {v:=[.aq (.sl e t) y [[]]]} else none
   |_=>none
 | .extract x j=>match x with
   | .tmp t=>if xz (s.slot t).length 1=true then(match one (s.slot t),j with
      | .over,0=>K {v:=bl false}
      |_,_=>none) else match(s.slot t)[j]? with
     |some (.aq u y w)=>K {v:=[.aq u y w],cl:=bif w.isEmpty then [] else [(t,j)]}
     |some .undef=>none
     |some (.bF _ _ _ _)=>none
     |some v=>K {v:=[v]}
     |none=>none
   |_=>none
 | .makeMap T none=>match n8 E T with
   |some (kt,vt)=>lz s o.dst (.aY .mp kt vt) ([]:List (El kt×El vt)) (.aY .mp kt vt) K
   |none=>none
 | .lookup T x i false=>ml E T s (s.aI x) (s.aI i) K
 | .mapUpdate T m k x=>m8 E T s (s.aI m) (s.aI k) (s.aI x) K
 | .insert T m k x=>m8 E T s (s.aI m) (s.aI k) (s.aI x) K
 | .range T x=>match E.ty T with
   |some .str=>(s.aI x).el .str λy=>lz s o.dst lm ((y,0):ByteArray×Nat) lm K
   |_=>none
 | .next x true=>mo s (s.aI x) K
 | .makeSlice T l c=>mm E T s o.dst l (s.aI l) (s.aI c) K
 | .call ⟨.value (.func f),args,_⟩=>match Na s args.toList with
   |some (t,id,a,b,j,r)=>kV C s f t id a b j (r.map s.aI) K
   |none=>gH C s o.dst f (args.toList.map s.aI) λu=>K (bif gh E o.dst then u.shut else u)
 | .call ⟨.value (.tmp y),args,_⟩=>match s.aI (.tmp y) with
   | .ptr id (.aY (.xW f) u _) []=>if u.sD=true then none else gH C s o.dst f (args.toList.map s.aI++ [.ptr id u []]) K
   | .cap f t x u y=>gH C s o.dst f (args.toList.map s.aI++ [.view t x,.view u y]) K
   |_=>none
 | .call ⟨.builtin .copy,args,argTypes⟩=>match args.toList,argTypes.toList with
   | [d,x],T::_=>copyV E T s (s.aI d) (s.aI x) K
   |_,_=>none
 | .call ⟨.builtin .len,args,argTypes⟩=>match args.toList,argTypes.toList with
   | [x],[T]=>xg E T (s.aI x) K
   |_,_=>none
 | .call ⟨.builtin .append,args,argTypes⟩=>match args.toList,argTypes.toList with
   | [b,x],[T,U]=>zez E T U b (s.aI b) (s.aI x) K
   |_,_=>none
 | .call ⟨.builtin .max,args,_⟩=>match args.toList with
   | [x,y]=>ly true (s.aI x) (s.aI y) K
   |_=>none
 | .call ⟨.builtin .min,args,_⟩=>match args.toList with
   | [x,y]=>ly false (s.aI x) (s.aI y) K
   |_=>none
 |_=>none
def zfc(ops:List Oper)(g:Nat):Option Nat:=(ops[g]?).bind (·.dst)
def step(E:Env)(C:FuncId->cc R)(ops:List Oper)(o:Oper)(s:State)(K:State->Option R):Option R:=
 let go (s:State):Option R:=act E C ops o s λu=>K (s.apply o.dst u);let pass (s:State):Option R:=K (s.au o.dst [.skip])
 match o.guard with
 |none=>go s
 |some (g,want)=>match zfc ops g with
  |none=>none
  |some d=>match s.slot d with
   | [.aq .bool p []]=>bif p then(let s:=s.au (some d) (bl true);bif want then go s else pass s) else(let s:=s.au (some d) (bl false);bif want then pass s else go s)
   | [.skip]=>pass s
   |_=>none
def steps(E:Env)(C:FuncId->cc R)(ops:List Oper):List Oper->State->(State->Option R)->Option R
 | [],s,K=>K s
 |o::r,s,K=>step E C ops o s λs=>steps E C ops r s K
structure eF where
 i:Nat
 r:Nat
 w:Nat
 br:Nat
 bw:Nat
def bit(i:Nat):Nat:=1<<<i
def jW:List Nat->Nat
 | []=>0
 |i::r=>bit i|||jW r
def ur:List Operand->List Nat
 | []=>[]
 | .tmp t::r=>t::ur r
 |_::r=>ur r
def looks(ops:List Oper)(o:Oper):List Nat:=ur o.op.operands.toList++(match o.guard with
 |some (g,_)=>(zfc ops g).toList
 |none=>[])
def cA:SV->List Nat
 | .ptr id _ _=>[id]
 | .bF id _ _ _=>[id]
 |_=>[]
def zx(s:State)(o:Oper):List Nat:=
 match o.op with
 | .load _ a=>cA (s.aI a)
 | .store _ a _=>cA (s.aI a)
 | .alloc _| .box _ _| .makeMap _ _| .range _ _| .makeSlice _ _ _=>o.dst.toList.map λd=>d+1
 | .convert _ _ x=>cA (s.aI x)
 | .slice _ x _ _ _=>cA (s.aI x)
 | .lookup _ x _ _=>cA (s.aI x)
 | .mapUpdate _ m _ _=>cA (s.aI m)
 | .insert _ m _ _=>cA (s.aI m)
 | .next x _=>cA (s.aI x)
 | .call ⟨.value y,args,_⟩=>(args.toList.flatMap λx=>cA (s.aI x))++(cA (s.aI y)++o.dst.toList.map λd=>d+1)
 | .call ⟨.builtin .copy,args,_⟩=>args.toList.flatMap λx=>cA (s.aI x)
 |_=>[]
def hG(ops:List Oper)(o:Oper)(i:Nat)(s:State)(u:Out):eF:=
 ⟨i,jW (looks ops o),jW (o.dst.toList++u.cl.map (·.1)),jW (zx s o),jW (u.bx.toList.map (·.1))⟩
def eF.apart(a b:eF):Bool:=
 xz (a.w&&&(b.r|||b.w)) 0&&(xz (b.w&&&a.r) 0&&(xz (a.bw&&&(b.br|||b.bw)) 0&&xz (b.bw&&&a.br) 0))
def zy:List Edge->Nat
 | []=>0
 |e::r=>bif Region.binds .any e then bit e.on|||zy r else zy r
def j5(ops:List Oper):Nat->Nat->Nat
 |0,m=>m
 |i+1,m=>j5 ops i (match ops[i]? with
  |some o=>bif m.testBit i then m|||zy o.after.toList else m
  |none=>m)
def fits(ops:List Oper)(m:Nat)(f:eF)(tr:List eF):Bool:=zaL (m+1) (bit f.i)&&tr.all λa=>m.testBit a.i||(a.apart f||(j5 ops f.i m).testBit a.i)
def mA(E:Env)(C:FuncId->cc R)(ops:List Oper)(o:Oper)(i:Nat)(s:State)(tr:List eF)(K:State->List eF->Option R):Option R:=
 let go (s:State):Option R:=act E C ops o s λu=>bif fits ops (zy o.after.toList) (hG ops o i s u) tr then K (s.apply o.dst u) (hG ops o i s u::tr) else none;let pass (s:State):Option R:=bif fits ops (zy o.after.toList) (hG ops o i s {v:=[.skip]}) tr then K (s.apply o.dst {v:=[.skip]}) (hG ops o i s {v:=[.skip]}::tr) else none
 match o.guard with
 |none=>go s
 |some (g,want)=>match zfc ops g with
  |none=>none
  |some d=>match s.slot d with
   | [.aq .bool p []]=>bif p then(let s:=s.au (some d) (bl true);bif want then go s else pass s) else(let s:=s.au (some d) (bl false);bif want then pass s else go s)
   | [.skip]=>pass s
   |_=>none
def CR(E:Env)(C:FuncId->cc R)(ops:List Oper):List Oper->Nat->State->List eF->(State->Option R)->Option R
 | [],_,s,_,K=>K s
 |o::r,i,s,tr,K=>mA E C ops o i s tr λs tr=>CR E C ops r (i+1) s tr K
inductive Ex where
 |normal
 |exit (id:Nat)
 |ret
def pY:Code->Nat
 | .region id _ _=>id
 | .seq a _=>pY a
 | .cond _ a _=>pY a
 | .block _ b=>pY b
 | .loop b=>pY b
 |_=>0
def gQ{α:Type}(z:α)(l:List Nat):Nat->List α->List α
 |_,[]=>[]
 |i,x::r=>(bif l.any (xz i) then x else z)::gQ z l (i+1) r
def SV.roots(l:List Nat):SV->Bool
 | .ptr 0 _ _=>true
 | .ptr (id+1) _ _=>l.any (xz id)
 | .bF 0 _ _ _=>true
 | .bF (id+1) _ _ _=>l.any (xz id)
 |_=>true
def ltL:List Nat->List Nat->Bool
 | [],[]=>false
 | [],_::_=>true
 |_::_,[]=>false
 |a::p,b::q=>zaL (a+1) b||(xz a b&&ltL p q)
def xd(p:List Nat):List (List Nat)->List (List Nat)
 | []=>[p]
 |q::r=>bif ltL q p then q::xd p r else p::q::r
def oe:List (List Nat)->List (List Nat)
 | []=>[]
 |p::r=>xd p (oe r)
def SV.norm:SV->SV
 | .aq t x own=> .aq t x (oe own)
 |v=>v
def bH.norm(B:bH):bH:={B with own:=oe B.own}
def State.norm(s:State):State:=⟨s.sl.map λv=>v.map SV.norm,s.bs.map λb=>b.map bH.norm⟩
def uq(l:List Nat)(s:State)(K:State->Option R):Option R:=
 let sl:=gQ [.undef] l 0 s.sl
 bif sl.all (λv=>v.all (SV.roots l)) then K (State.norm ⟨sl,s.bs.headD none::gQ none l 0 s.bs.tail⟩) else none
def bq(k:Nat)(f:Unit->Option R):Option R:=
 match k with
 |0=>none
 |_+1=>f ()
def n9(E:Env)(k r:Nat)(s:State)(K:State->Option R):Option R:=
 match E.join r with
 |none=>K s
 |some l=>uq l s λs=>bq k λ_=>K s
def mU(id:Nat)(l:List SV):List SV:=l.map λv=>match v with
 | .ptr j _ _=>bif xz j id then .undef else v
 |v=>v
def ua(E:Env)(r:Nat)(s:State)(K:State->Option R):Option R:=
 match E.fz r with
 |none=>K s
 |some (d,T)=>match s.slot d,E.ty T with
  | [.ptr id (.aY (.hJ n) a b) []],some (.sl e t)=>if a.cB t=true then match s.box id with
    |some B=>if h:B.t.cB (.aY .row t b)=true then
      bif xz n (aa (Ty.cast h B.x:List (El t))) then K {sl:=(s.sl.map (mU id)).set d [.aq (.sl e t) (Ty.cast h B.x:List (El t)) []],bs:=s.bs.set id none} else none
     else none
    |none=>none else none
  |_,_=>none
def uu(id:Nat)(B:bH)(v:SV):SV:=
 match v with
 | .ptr j t p=>bif xz j id then(if t.cB B.t=true then match El.get B.t p B.x with
    |some ⟨u,y⟩=> .view u y
    |none=> .undef else .undef) else .ptr j t p
 |v=>v
def zsm(id:Nat)(s:State)(K:State->Option R):Option R:=
 match s.box id with
 |some B=>if B.t.bO=true then none else K {sl:=s.sl.map λl=>l.map (uu id B),bs:=s.bs.set id none}
 |none=>none
def Ov:List Nat->State->(State->Option R)->Option R
 | [],s,K=>K s
 |id::r,s,K=>zsm id s λs=>Ov r s K
def jN(l:List Nat):Nat->List (Option bH)->List (Option bH)
 |_,[]=>[]
 |i,b::r=>(bif l.any (xz i) then b.map (λB=>{B with own:=[]}) else b)::jN l (i+1) r
def State.drop(l:List Nat)(s:State):State:={s with bs:=jN l 0 s.bs}
def gS(body:State->(Ex->State->Option R)->Option R)(l lx:List Nat):Nat->State->(Ex->State->Option R)->Option R
 |0,_,_=>none
 |k+1,s,K=>body s λe s=>match e with
  | .normal=>uq l s λs=>gS body l lx k s K
  |e=>uq lx s λs=>K e s
def Ty.flat:Ty->Bool
 | .sl _ _=>false
 | .aY _ _ _=>false
 | .arr _ t=>t.flat
 | .pair a b=>a.flat&&b.flat
 |_=>true
def SV.flat:SV->Bool
 | .aq t _ own=>t.flat&&own.isEmpty
 | .ptr _ _ _| .view _ _| .cap _ _ _ _ _| .bF _ _ _ _=>false
 |_=>true
def mh(o:Nat):Nat->List (List SV)->Bool
 |_,[]=>true
 |i,l::r=>(xz i o||l.all SV.flat)&&mh o (i+1) r
def lp:Nat->Nat->List (List SV)->List (List SV)
 |0,_,sl=>sl
 |n+1,m,sl=>lp n (m+1) (sl.set m [.undef])
def isDst(o:Oper)(d:Nat):Bool:=
 match o.dst,o.guard with
 |some d',none=>xz d' d
 |_,_=>false
def gd(x:Operand)(i:Nat):Bool:=
 match x with
 | .tmp j=>xz j i
 |_=>false
def Ay(E:Env)(T:TypeId):Bool:=
 match E.ty T with
 |some (.int .u8)=>true
 |_=>false
def zso(E:Env)(T:TypeId):Bool:=
 match E.ty T with
 |some (.sl _ (.int .u8))=>true
 |_=>false
def M9(o:Oper)(d x:Nat):Bool:=isDst o d&&(match o.op with
 | .move y=>gd y x
 |_=>false)
def isLen(E:Env)(o:Oper)(d x:Nat):Bool:=isDst o d&&(match o.op with
 | .call ⟨.builtin .len,ea,ts⟩=>match ea.toList,ts.toList with
   | [y],[T]=>gd y x&&zso E T
   |_,_=>false
 |_=>false)
def Cd(o:Oper)(d x:Nat):Bool:=isDst o d&&(match o.op with
 | .binOp .sub _ y (.const (.int .i64 c)) _=>gd y x&&decide (c=1)
 |_=>false)
def Ax(E:Env)(o:Oper)(d x i:Nat):Bool:=isDst o d&&(match o.op with
 | .indexAddr T y j=>gd y x&&(gd j i&&zso E T)
 |_=>false)
def LK(E:Env)(o:Oper)(d x:Nat):Bool:=isDst o d&&(match o.op with
 | .load T y=>gd y x&&Ay E T
 |_=>false)
def xf(o:Oper)(d x y:Nat):Bool:=isDst o d&&(match o.op with
 | .binOp .add _ u v _=>gd u x&&gd v y
 |_=>false)
def xe(E:Env)(o:Oper)(x y:Nat):Bool:=(match o.dst,o.guard with
 |none,none=>true
 |_,_=>false)&&(match o.op with
 | .store T u v=>gd u x&&(gd v y&&Ay E T)
 |_=>false)
def LS(E:Env)(o x m:Nat)(ops:List Oper):Bool:=
 match ops with
 | [a0,a1,a2,a3,a4,a5,a6,a7,a8,a9,F7,F8,a12,QJ]=>M9 a0 m o&&(M9 a1 (m+1) o&&(isLen E a2 (m+2) (m+1)&&(Cd a3 (m+3) (m+2)&&(M9 a4 (m+4) o&&(M9 a5 (m+5) o&&(isLen E a6 (m+6) (m+5)&&(Cd a7 (m+7) (m+6)&&(Ax E a8 (m+8) (m+4) (m+7)&&(LK E a9 (m+9) (m+8)&&(M9 F7 (m+10) x&&(xf F8 (m+11) (m+9) (m+10)&&(Ax E a12 (m+12) m (m+3)&&xe E QJ (m+12) (m+11)))))))))))))
 |_=>false
def Fe(e:TypeId)(xs:List Int)(y:Int)(own:List (List Nat)):List SV:=[.aq (.sl e (.int .u8)) (xs.set (IntKind.i64.wrap ((xs.length:Int)-1)).toNat (IntKind.u8.wrap (xs.getD (IntKind.i64.wrap ((xs.length:Int)-1)).toNat 0+y)):List Int) own]
def mB(E:Env)(q:Nat×Nat×Nat)(ops:List Oper)(s:State)(K:State->Option R):Option R:=
 bif LS E q.1 q.2.1 q.2.2 ops then
  bif zaL (q.1+1) q.2.2&&(zaL (q.2.1+1) q.2.2&&(!(xz q.1 q.2.1)&&zaL (q.2.2+13) s.sl.length)) then
   match s.slot q.1,s.slot q.2.1 with
   | [.aq (.sl e (.int .u8)) xs own],[.aq (.int .u8) y _]=>
     bif hP own [] then
      bif mh q.1 0 (lp 13 q.2.2 s.sl)&&s.bs.all Option.isNone then
       zd (IntKind.i64.wrap ((aa (xs:List Int):Int)-1)) (aa (xs:List Int)) (K ⟨(lp 13 q.2.2 s.sl).set q.1 (Fe e xs y own),s.bs⟩)
      else none
     else none
   |_,_=>none
  else none
 else none
def Ag(own:List (List Nat)):List (List Nat):=own.filterMap λp=>match p with
 |(j+1)::p=>some (j::p)
 |_=>none
def Ty.cU:Ty->List (List Nat)->Bool
 | .sl _ t,own=>t.flat&&hP own []
 | .pair a b,own=>a.cU (zml own [0])&&b.cU (Ag own)
 | .aY _ _ _,_=>false
 | .arr _ t,_=>t.flat
 |_,_=>true
def bH.cU(B:bH):Bool:= !B.t.bO&&B.t.cU B.own
def SV.cU(bs:List (Option bH)):SV->Bool
 | .aq t _ own=>t.cU own
 | .view _ _| .cap _ _ _ _ _| .bF _ _ _ _=>false
 | .ptr id _ _=>match bs.getD id none with
   |some B=>B.cU
   |none=>false
 |_=>true
def hold(bs:List (Option bH))(l:List SV):List SV:=bif l.all (SV.cU bs) then l else [.undef]
def Ch:Option bH->Option bH
 |some B=>bif B.cU then some B else none
 |none=>none
def State.cU(x:Nat)(s:State):State:=⟨(s.sl.set x [.undef]).map (hold s.bs),s.bs.map Ch⟩
def xi(E:Env)(x d:Nat)(T T':TypeId)(i vo:Operand)(s:State)(K:State->Option R):Option R:=
 match s.slot x with
 | [.aq (.sl e t) xs own]=>bif hP own [] then
     match E.ty T,E.ty T' with
     |some u,some w=>bif u.cB (.sl e t)&&(w.cB t&&zaL (d+1) s.sl.length) then
       (s.aI i).num λn=>((s.au (some d) [.undef]).aI vo).el t λ_=>zd n (aa (xs:List (El t))) (K ((s.au (some d) [.undef]).cU x))
      else none
     |_,_=>none
   else none
 |_=>none
def mr(o:Oper):Bool:=
 match o.dst,o.guard with
 |none,none=>true
 |_,_=>false
def jZ(E:Env)(oA oS:Oper)(s:State)(K:State->Option R):Option R:=
 match oA.op,oS.op with
 | .indexAddr T (.tmp x) i,.store T' (.tmp d) vo=>bif isDst oA d&&(!(xz x d)&&mr oS) then xi E x d T T' i vo s K else none
 |_,_=>none
def zsq{α:Type}:List α->Option (List α×α×α)
 | []=>none
 | [_]=>none
 | [a,b]=>some ([],a,b)
 |a::r=>match zsq r with
  |some (l,x,y)=>some (a::l,x,y)
  |none=>none
def mw(E:Env)(C:FuncId->cc R)(ops:List Oper)(s:State)(K:State->Option R):Option R:=
 match zsq ops with
 |some (l,oA,oS)=>steps E C ops l s λs=>jZ E oA oS s K
 |none=>none
def zc1{α:Type}:List α->Option (List α×α×α×α)
 | []=>none
 | [_]=>none
 | [_,_]=>none
 | [a,b,c]=>some ([],a,b,c)
 |a::r=>match zc1 r with
  |some (l,x,y,z)=>some (a::l,x,y,z)
  |none=>none
def aaP(s:State)(d1 d2 d3:Nat)(ta tb:Ty)(y:El ta):State:=
 (((s.au (some d1) [.undef]).aE (some (d2+1,⟨.aY .cX ta tb,(y,(none,none),(0:Int)),[]::lX⟩))).au (some d2) [.undef]).au (some d3) [.ptr (d2+1) (.aY .cX ta tb) []]
def tV(E:Env)(oB oX oA:Oper)(s:State)(K:State->Option R):Option R:=
 match oB.op,oX.op,oA.op with
 | .build T parts,.box T' (.tmp e1),.assign (.tmp e2)=>match oB.dst,oX.dst,oA.dst with
   |some d1,some d2,some d3=>bif xz T T'&&(xz d1 e1&&(xz d2 e2&&(isDst oB d1&&(isDst oX d2&&(isDst oA d3&&(zaL (d1+1) s.sl.length&&zaL (d2+1) s.sl.length)))))) then
     match parts.toList,E.gr T with
     | [(0,x)],some (ta,tb)=>(s.aI x).el ta λy=>match s.bs[d2+1]? with
       |some none=>K (aaP s d1 d2 d3 ta tb y)
       |_=>none
     |_,_=>none
    else none
   |_,_,_=>none
 |_,_,_=>none
def NE(E:Env)(C:FuncId->cc R)(ops:List Oper)(s:State)(K:State->Option R):Option R:=
 match zc1 ops with
 |some (l,oB,oX,oA)=>steps E C ops l s λs=>tV E oB oX oA s K
 |none=>none
def n7(s:State)(id m j:Nat)(ta tb:Ty)(x:El (.aY .cX ta tb))(own:List (List Nat))(y:El tb):State:=
 ⟨s.sl.map (mU m),(s.bs.set m none).set id (some ⟨.aY .cX ta tb,(x.1,gy j (some y) x.2.1,x.2.2),own⟩)⟩
def lu(E:Env)(oS:Oper)(s:State)(K:State->Option R):Option R:=
 match oS.op with
 | .store T (.tmp x) (.tmp y)=>bif mr oS then if E.pt T=true then match s.slot x with
    | [.ptr id (.aY .cX ta tb) [1,j]]=>oU s id ta tb λz own=>bif hP own [] then match s.slot y with
      | [.ptr m tb' []]=>match s.box m with
        |some B=>if h:B.t.cB tb=true then bif tb'.cB tb&&(!tb.bO&&(hP B.own [2]&& !(xz id m))) then K (n7 s id m j ta tb z own (Ty.cast h B.x)) else none else none
        |none=>none
      | [.ey]=>K (s.aE (some (id,⟨.aY .cX ta tb,(z.1,gy j none z.2.1,z.2.2),own⟩)))
      |_=>none
      else none
    |_=>none
    else none else none
 |_=>none
def zsp{α:Type}:List α->Option (List α×α)
 | []=>none
 | [a]=>some ([],a)
 |a::r=>match zsp r with
  |some (l,x)=>some (a::l,x)
  |none=>none
def tT(E:Env)(C:FuncId->cc R)(k:Nat)(ops:List Oper)(s:State)(K:State->Option R):Option R:=
 match zsp ops with
 |some (l,oS)=>match ops[k]? with
  |some oD=>match oD.op,oD.dst with
   | .extract (.tmp t) j,some d=>bif isDst oD d&&(zaL (k+1) l.length&&(zaL (zy oS.after.toList+1) (bit l.length)&&xz (j5 ops l.length (zy oS.after.toList)|||bit k) (bit l.length-1))) then
      CR E C ops l 0 s [] λs=>bif zaL (j+1) (s.slot t).length&& !(xz (s.slot t).length 1) then lu E oS (s.au (some d) [.undef]) K else none
     else none
   |_,_=>none
  |none=>none
 |none=>none
def MH(E:Env)(C:FuncId->cc R)(i:Nat)(ops:Array Oper)(d:Bool)(s:State)(K:State->Option R):Option R:=
 ua E i s λs=>Ov (E.fr i) s λs=>bif d then CR E C ops.toList ops.toList 0 s [] K else steps E C ops.toList ops.toList s K
def ev(E:Env)(C:FuncId->cc R)(k:Nat):Code->State->(Ex->State->Option R)->Option R
 | .skip,s,K=>K .normal s
 | .region i ops d,s,K=>match E.sp with
   |some (j,q)=>bif xz i j then(match d with
    |true=>none
    |false=>bif xz q.2.2 0 then mw E C ops.toList s (K .normal) else mB E q ops.toList s (K .normal)) else MH E C i ops d s (K .normal)
   |none=>match E.sg with
    |none=>MH E C i ops d s (K .normal)
    |some (m,l,k)=>bif xz i m then(match d with
     |true=>none
     |false=>NE E C ops.toList s (K .normal)) else bif xz i l then(match d with
     |true=>tT E C k ops.toList s (K .normal)
     |false=>none) else MH E C i ops d s (K .normal)
 | .seq a b,s,K=>ev E C k a s λe s=>match e with
   | .normal=>n9 E k (pY b) s λs=>ev E C k b s K
   |e=>K e s
 | .cond c a b,s,K=>match s.aI c with
   | .aq .bool p _=>bif p then ev E C k a (s.au (xq c) (bl true)) K else ev E C k b (s.au (xq c) (bl false)) K
   |_=>none
 | .block id b,s,K=>ev E C k b s λe s=>match e with
   | .exit j=>bif xz j id then K .normal s else K (.exit j) s
   |e=>K e s
 | .loop b,s,K=>uq (E.dy (pY b)) (s.drop (E.dr (pY b))) λs=>gS (ev E C k b) (E.dy (pY b)) (E.jT (pY b)) k s K
 | .exit id,s,K=>K (.exit id) s
 | .ret,s,K=>K .ret s
 |_,_,_=>none
def ic(E:Env):State->List ResultVar->Option (List SV×State)
 |s,[]=>some ([],s)
 |s,.tmp t::r=>if(one (s.slot t)).bW=true then none else match ic E (s.close [(t,0)]) r with
  |some (l,s')=>some (one (s.slot t)::l,s')
  |none=>none
 |s,.cell p T::r=>match s.slot p,E.ty T with
  | [.ptr id u []],some t=>match s.box id with
    |some B=>if(t.cB B.t&& !u.bO)=true then match ic E (s.aE (some (id,{B with own:=[]}))) r with
      |some (l,s')=>some (.aq B.t B.x B.own::l,s')
      |none=>none
     else none
    |none=>none
  |_,_=>none
def FM:List SV->List Nat
 | []=>[]
 | .ptr id _ _::r=>id::FM r
 |_::r=>FM r
def O1(s:State)(bx:Option bH)(l:List SV)(K:List SV->Option bH->Option R):Option R:=
 match bx,FM l with
 |some _,[]=>match s.box 0 with
  |some B=>K l (some B)
  |none=>none
 |none,[]=>K l none
 |none,[id]=>match s.box id with
  |some B=>K (l.map (SV.gV 0)) (some B)
  |none=>none
 |_,_=>none
def ib(E:Env)(l:List SV):List SV:=bif E.ro then l.map SV.shut else l
def aR:List Ty->List SV->List SV
 | .sl e t::r,.cR::q=> .aq (.sl e t) ([]:List (El t)) []::aR r q
 |_::r,v::q=>v.shut::aR r q
 | [],q=>q
 |_,[]=>[]
def kq(E:Env)(C:FuncId->cc R)(k:Nat)(fn:Func)(code:Code)(vs:List SV)(bx:Option bH)(K:List SV->Option bH->Option R):Option R:=
 bif E.sp.isSome&&bx.isSome then none else
 let n:=fn.ntmps-vs.length;let s:State:=⟨(aR E.ps vs).map (λv=>[v])++so n [.undef],bx::so (vs.length+n) none⟩
 ev E C k code s λe s=>match e with
  | .exit _=>none
  |_=>match ic E s fn.results.toList with
   |some (l,s')=>O1 s' bx (ib E l) K
   |none=>none
end
end Go.Ref

namespace Go.Ref
open Go
theorem zv{R S:Type}{sv:SV}{t:Ty}{F:El t->Option R}{G:El t->Option S}{K:S->Option R}(h:∀y,F y=(G y).bind K):sv.el t F=(sv.el t G).bind K:=by
 cases sv with
 |aq t' x own=>
  simp only[SV.el];split
  ·exact h _
  ·rfl
 |cR=>cases t<;>simp only[SV.el]<;>first|rfl|exact h _
 |_=>rfl
theorem zm{R S:Type}{b:Bool}{x y:Option R}{x' y':Option S}{K:S->Option R}(h:x=x'.bind K)(k:y=y'.bind K):(bif b then x else y)=(bif b then x' else y').bind K:=by
 cases b
 ·exact k
 ·exact h
theorem zp{R S:Type}{c:Prop}[Decidable c]{x y:Option R}{x' y':Option S}{K:S->Option R}(h:x=x'.bind K)(k:y=y'.bind K):(if c then x else y)=(if c then x' else y').bind K:=by
 split
 ·exact h
 ·exact k
section
variable {R:Type}
theorem zvy{op:BinOp}{k k':IntKind}{m n:Int}{K:List SV->Option R}:tA op k m k' n K=(tA op k m k' n some).bind K:=by unfold tA;cases op<;>simp only<;>repeat(first|rfl|refine zm ?_ ?_|refine zp ?_ ?_)
theorem zw0{op:BinOp}{m n:ByteArray}{K:List SV->Option R}:tC op m n K=(tC op m n some).bind K:=by unfold tC;cases op<;>simp only<;>repeat(first|rfl|refine zm ?_ ?_|refine zp ?_ ?_)
theorem zvx{E:Env}{op:BinOp}{T:TypeId}{x y:SV}{K:List SV->Option R}:tz E op T x y K=(tz E op T x y some).bind K:=by
 unfold tz;split
 ·refine zp rfl (zv λa=>zv λb=> ?_);split
  ·cases op<;>rfl
  ·rfl
 ·rfl
theorem apl{E:Env}{op:BinOp}{T:TypeId}{x y:SV}{S:Type}{F:List SV->Option R}{G:List SV->Option S}{K:S->Option R}(h:∀l,F l=(G l).bind K):bin E op T x y F=(bin E op T x y G).bind K:=by
 unfold bin;split
 ·rw[zvy,zvy (K:=G),zfC];congr;funext l;exact h l
 ·rw[zw0,zw0 (K:=G),zfC];congr;funext l;exact h l
 ·refine zp rfl ?_;cases op<;>simp only<;>first|exact h _|rfl
 ·refine zp rfl ?_;cases op<;>simp only<;>first|exact h _|rfl
 ·rw[zvx,zvx (K:=G),zfC];congr;funext l;exact h l
theorem Fp{S:Type}{i:Int}{n:Nat}{x:Option R}{x':Option S}{K:S->Option R}(h:x=x'.bind K):zd i n x=(zd i n x').bind K:=by unfold zd;exact zm (zm h rfl) rfl
theorem zg9{S:Type}{lo:Option SV}{m:Nat}{F:Nat->Option R}{G:Nat->Option S}{K:S->Option R}(h:∀l,F l=(G l).bind K):CL lo m F=(CL lo m G).bind K:=by
 unfold CL;cases lo with
 |none=>exact h _
 |some v=>exact zv λy=>zm (zm (h _) rfl) rfl
theorem TT{S:Type}{lo hi:Option SV}{n:Nat}{F:Nat->Nat->Option R}{G:Nat->Nat->Option S}{K:S->Option R}(h:∀l h,F l h=(G l h).bind K):cutAt lo hi n F=(cutAt lo hi n G).bind K:=by
 unfold cutAt;cases hi with
 |none=>exact zg9 λl=>h _ _
 |some w=>exact zv λy=>zm (zm (zg9 λl=>h _ _) rfl) rfl
theorem z124{S:Type}{t:Ty}{F:El t->List (List Nat)->Option R}{G:El t->List (List Nat)->Option S}{K:S->Option R}(h:∀y o,F y o=(G y o).bind K):∀(l:List (Nat×SV×List (List Nat))) (x:El t) (own:List (List Nat)),uo t x own l F=(uo t x own l G).bind K
 | [],x,own=>by simpa [uo] using h x own
 |(i,v,ov)::r,x,own=>by
  simp only[uo];refine zp rfl ?_;split
  ·refine zv λy=> ?_;split
   ·exact z124 h r _ _
   ·rfl
  ·rfl
theorem SO{S:Type}{t:Ty}{F:List (El t)->Option R}{G:List (El t)->Option S}{K:S->Option R}(h:∀y,F y=(G y).bind K):∀(l:List (Nat×SV)) (x:List (El t)),FK t x l F=(FK t x l G).bind K
 | [],x=>by simpa [FK] using h x
 |(i,v)::r,x=>by simp only[FK];exact zp rfl (zv λy=>SO h r _)
variable {S:Type} {F:Out->Option R} {G:Out->Option S} {K:S->Option R}
theorem LY{s:State}{id:Nat}{a b:Ty}{F':El (.aY .cX a b)->List (List Nat)->Option R}{G':El (.aY .cX a b)->List (List Nat)->Option S}{K:S->Option R}(h:∀x o,F' x o=(G' x o).bind K):oU s id a b F'=(oU s id a b G').bind K:=by
 unfold oU;split
 ·split
  ·exact zm (h _ _) rfl
  ·rfl
 ·rfl
theorem aem{u:Ty}{s:State}{id:Nat}{t:Ty}{p:List Nat}(h:∀y,F y=(G y).bind K):MG u s id t p F=(MG u s id t p G).bind K:=by
 unfold MG;split
 ·split
  ·split
   ·exact zp (zm (h _) rfl) rfl
   ·rfl
  ·rfl
 ·exact zp (LY λx o=>h _) rfl
 ·exact zp (LY λx o=>h _) rfl
 ·rfl
theorem adK{u:Ty}{s:State}{id:Nat}{t:Ty}{p:List Nat}{v:SV}(h:∀y,F y=(G y).bind K):Mc u s id t p v F=(Mc u s id t p v G).bind K:=by
 unfold Mc;split
 ·split
  ·split
   ·exact zp (zv λy=>zm (h _) rfl) rfl
   ·rfl
  ·rfl
 ·split
  ·refine zp (LY λx o=>zv λy=> ?_) rfl;split
   ·exact zm (h _) rfl
   ·rfl
  ·rfl
 ·exact zp (LY λx o=>zv λy=>zm (h _) rfl) rfl
 ·rfl
theorem aed{u:Ty}{id:Nat}{t:Ty}{p:List Nat}{j:Nat}{F:Out->Option R}{G:Out->Option S}{K:S->Option R}(h:∀y,F y=(G y).bind K):Ou u id t p j F=(Ou u id t p j G).bind K:=by
 unfold Ou;split
 ·split
  ·refine zp ?_ rfl;split
   ·exact zp rfl (h _)
   ·rfl
  ·rfl
 ·rfl
theorem aei{m:Nat}{t:Ty}{n:Int}{id:Nat}{r:Ty}{p:List Nat}{F:Out->Option R}{G:Out->Option S}{K:S->Option R}(h:∀y,F y=(G y).bind K):Ox m t n id r p F=(Ox m t n id r p G).bind K:=by
 unfold Ox;split
 ·split
  ·exact zp (Fp (h _)) rfl
  ·rfl
 ·rfl
theorem ae2{v:SV}{j:Nat}{ta tb:Ty}{F:Out->Option R}{G:Out->Option S}{K:S->Option R}(h:∀y,F y=(G y).bind K):O0 v j ta tb F=(O0 v j ta tb G).bind K:=by
 unfold O0;split
 ·exact zp (zm (h _) rfl) rfl
 ·rfl
theorem adC{t:Ty}{n:Int}{id:Nat}{r:Ty}{p:List Nat}(h:∀y,F y=(G y).bind K):Zq t n id r p F=(Zq t n id r p G).bind K:=by
 unfold Zq;split
 ·exact zp (Fp (h _)) rfl
 ·rfl
theorem ael{u:Ty}{B:bH}{t:Ty}{p:List Nat}(h:∀y,F y=(G y).bind K):Oy u B t p F=(Oy u B t p G).bind K:=by
 unfold Oy;split
 ·split
  ·exact zp (zm (h _) rfl) rfl
  ·rfl
 ·rfl
theorem aix{E:Env}{T:TypeId}{s:State}{v:SV}(h:∀y,F y=(G y).bind K):lv E T s v F=(lv E T s v G).bind K:=by
 unfold lv;split
 ·exact zp (LY λx o=>zm (h _) rfl) rfl
 ·rfl
theorem amH{E:Env}{T:TypeId}{s:State}{la:Bool}{v:SV}(h:∀y,F y=(G y).bind K):load E T s la v F=(load E T s la v G).bind K:=by
 unfold load;split
 ·split
  ·exact zp (h _) rfl
  ·refine zp (aem h) ?_;split
   ·refine zp ?_ (ael h);split
    ·exact zp (zm (h _) (h _)) rfl
    ·rfl
   ·rfl
  ·rfl
 ·exact aix h
theorem ai9{E:Env}{T:TypeId}{s:State}{v:SV}{x:Operand}(h:∀y,F y=(G y).bind K):store E T s v x F=(store E T s v x G).bind K:=by
 unfold store;split
 ·split
  ·refine zp (adK h) ?_;split
   ·refine zp ?_ rfl;split
    ·refine zp (zv λy=> ?_) rfl;split
     ·exact h _
     ·rfl
    ·rfl
   ·rfl
  ·rfl
 ·rfl
theorem ae1{t:Option Ty}{v:SV}{j:Nat}(h:∀y,F y=(G y).bind K):zlp t v j F=(zlp t v j G).bind K:=by
 unfold zlp;split
 ·refine zp (aed h) ?_;split
  ·refine zp ?_ rfl;split
   ·exact zp rfl (h _)
   ·rfl
  ·rfl
 ·refine zp ?_ rfl;split
  ·exact zp rfl (h _)
  ·rfl
 ·rfl
theorem z193{v:SV}{F':Int->Option R}{G':Int->Option S}{K:S->Option R}(h:∀n,F' n=(G' n).bind K):v.num F'=(v.num G').bind K:=by
 unfold SV.num;split
 ·exact h _
 ·rfl
theorem ae9{E:Env}{T:TypeId}{v i:SV}(h:∀y,F y=(G y).bind K):zlz E T v i F=(zlz E T v i G).bind K:=by
 unfold zlz;refine z193 λn=> ?_;split
 ·exact zv λy=>Fp (h _)
 ·refine zp (aei h) ?_;split
  ·exact zp (Fp (h _)) rfl
  ·rfl
 ·exact zv λy=>Fp (h _)
 ·exact adC h
 ·exact zp (Fp (h _)) rfl
 ·rfl
theorem afa{E:Env}{T:TypeId}{v i:SV}(h:∀y,F y=(G y).bind K):zm0 E T v i F=(zm0 E T v i G).bind K:=by
 unfold zm0;refine z193 λn=> ?_;split
 ·exact zv λy=>Fp (h _)
 ·exact zv λy=>Fp (h _)
 ·rfl
theorem amg{E:Env}{T:TypeId}{v:SV}{lo hi:Option SV}(h:∀y,F y=(G y).bind K):tE E T v lo hi F=(tE E T v lo hi G).bind K:=by
 unfold tE;split
 ·exact zv λy=>TT λ_ _=>h _
 ·exact zv λy=>TT λ_ _=>h _
 ·rfl
theorem ad0{E:Env}{T U:TypeId}{bo:Operand}{b x:SV}(h:∀y,F y=(G y).bind K):zez E T U bo b x F=(zez E T U bo b x G).bind K:=by
 unfold zez;refine zp rfl ?_;split
 ·refine zp rfl ?_;split
  ·exact zv λy=>zm (h _) rfl
  ·exact zp rfl (zv λy=>zv λz=>zm (h _) rfl)
  ·rfl
 ·rfl
theorem amD{E:Env}{T:TypeId}{x:SV}(h:∀y,F y=(G y).bind K):xg E T x F=(xg E T x G).bind K:=by
 unfold xg;split
 ·exact zv λy=>h _
 ·split
  ·exact h _
  ·exact zv λy=>h _
 ·exact h _
 ·rfl
theorem ah2{E:Env}{S' T:TypeId}{x:SV}(h:∀y,F y=(G y).bind K):mg E S' T x F=(mg E S' T x G).bind K:=by
 unfold mg;split
 ·exact zv λy=>h _
 ·exact zv λy=>h _
 ·exact zv λy=>h _
 ·rfl
theorem ah1{E:Env}{S' T:TypeId}{s:State}{id n:Nat}{a b:Ty}(h:∀y,F y=(G y).bind K):kY E S' T s id n a b F=(kY E S' T s id n a b G).bind K:=by
 unfold kY;split
 ·refine zp ?_ rfl;split
  ·split
   ·exact zm (h _) rfl
   ·rfl
  ·rfl
 ·rfl
theorem zwb{s:State}{dst:Option Nat}{t:Ty}{x:El t}{p:Ty}(h:∀y,F y=(G y).bind K):lz s dst t x p F=(lz s dst t x p G).bind K:=by
 unfold lz;split
 ·split
  ·exact h _
  ·rfl
 ·rfl
theorem S7{s:State}{m:SV}{kt vt:Ty}{F:Nat->List (El kt×El vt)->Option R}{G:Nat->List (El kt×El vt)->Option S}{K:S->Option R}(h:∀n y,F n y=(G n y).bind K):yy s m kt vt F=(yy s m kt vt G).bind K:=by
 unfold yy;split
 ·refine zp ?_ rfl;split
  ·split
   ·exact h _ _
   ·rfl
  ·rfl
 ·rfl
theorem aiy{E:Env}{T:TypeId}{s:State}{m i:SV}(h:∀y,F y=(G y).bind K):ml E T s m i F=(ml E T s m i G).bind K:=by
 unfold ml;split
 ·exact S7 λ_ _=>zv λ_=>h _
 ·rfl
theorem Ws{E:Env}{T:TypeId}{s:State}{m i v:SV}(h:∀y,F y=(G y).bind K):m8 E T s m i v F=(m8 E T s m i v G).bind K:=by
 unfold m8;split
 ·exact S7 λ_ _=>zv λ_=>zv λ_=>zm rfl (h _)
 ·rfl
theorem aiD{s:State}{m:SV}(h:∀y,F y=(G y).bind K):mo s m F=(mo s m G).bind K:=by
 unfold mo;split
 ·split
  ·split
   ·exact zm (h _) (h _)
   ·rfl
  ·rfl
 ·rfl
theorem aiA{E:Env}{T:TypeId}{s:State}{dst:Option Nat}{lo:Operand}{l c:SV}(h:∀y,F y=(G y).bind K):mm E T s dst lo l c F=(mm E T s dst lo l c G).bind K:=by
 unfold mm;split
 ·exact zp rfl (zv λn=>zv λm=>zm (zm (zm (zm (h _) rfl) rfl) rfl) (zm (zm (zm (zwb h) rfl) rfl) rfl))
 ·rfl
theorem ap1{op:UnOp}{x:SV}(h:∀y,F y=(G y).bind K):Su op x F=(Su op x G).bind K:=by
 unfold Su;split
 ·exact h _
 ·exact h _
 ·rfl
end
abbrev ai:=(R:Type)->FuncId->cc R
def ai.Nat(C:ai):Prop:=∀(R S:Type) (f:FuncId) l b (F:List SV->Option bH->Option R) (G:List SV->Option bH->Option S) (K:S->Option R),(∀r b,F r b=(G r b).bind K)->C R f l b F=(C S f l b G).bind K
section
variable {R S:Type} {F:Out->Option R} {G:Out->Option S} {K:S->Option R} {C:ai}
theorem zbw(hC:C.Nat){s:State}{dst:Option Nat}{f:FuncId}{vs:List SV}(h:∀y,F y=(G y).bind K):gH (C R) s dst f vs F=(gH (C S) s dst f vs G).bind K:=by
 unfold gH;split
 ·refine hC R S f _ _ _ _ K λr b=> ?_;split
  ·exact h _
  ·split
   ·split
    ·exact h _
    ·rfl
   ·rfl
 ·refine zp rfl (hC R S f _ _ _ _ K λr b=> ?_);split
  ·exact zp (h _) rfl
  ·rfl
 ·rfl
theorem ahX(hC:C.Nat){s:State}{f:FuncId}{t id:Nat}{a b:Ty}{j:Nat}{vs:List SV}(h:∀y,F y=(G y).bind K):kV (C R) s f t id a b j vs F=(kV (C S) s f t id a b j vs G).bind K:=by
 unfold kV;refine zp rfl ?_;split
 ·refine LY λx o=> ?_;split
  ·refine hC R S f _ _ _ _ K λr b=> ?_;split
   ·split
    ·exact zm (h _) rfl
    ·rfl
   ·rfl
  ·rfl
 ·rfl
theorem ahZ{f:FuncId}{x:SV}(h:∀y,F y=(G y).bind K):nK f x F=(nK f x G).bind K:=by
 unfold nK;split
 ·exact zp rfl (h _)
 ·rfl
theorem z212{f:FuncId}{x y:SV}(h:∀y,F y=(G y).bind K):wu f x y F=(wu f x y G).bind K:=by
 unfold wu;split
 ·exact h _
 ·rfl
theorem amf{n id:Nat}{a b:Ty}{lo hi:Option SV}(h:∀y,F y=(G y).bind K):wv n id a b lo hi F=(wv n id a b lo hi G).bind K:=by
 unfold wv;split
 ·rfl
 ·exact zg9 λl=>h _
theorem TR{t:Ty}{s:State}{id n lo:Nat}{a b:Ty}{x:SV}{e:TypeId}(h:∀y,F y=(G y).bind K):iW t s id n lo a b x e F=(iW t s id n lo a b x e G).bind K:=by
 unfold iW;refine zp (zv λys=> ?_) rfl;split
 ·split
  ·exact zm (zm (h _) rfl) rfl
  ·rfl
 ·rfl
theorem ame{E:Env}{T:TypeId}{s:State}{id n:Nat}{t:Ty}{lo hi:Option SV}(h:∀y,F y=(G y).bind K):tD E T s id n t lo hi F=(tD E T s id n t lo hi G).bind K:=by
 unfold tD;split
 ·refine zp ?_ rfl;split
  ·split
   ·exact h _
   ·rfl
  ·rfl
 ·rfl
theorem ah3{t:Ty}{s:State}{id n:Nat}{a b:Ty}{y:ByteArray}(h:∀y,F y=(G y).bind K):kZ t s id n a b y F=(kZ t s id n a b y G).bind K:=by
 unfold kZ;refine zp (zp ?_ rfl) rfl;split
 ·split
  ·exact zm (h _) rfl
  ·rfl
 ·rfl
theorem ah4{E:Env}{T:TypeId}{s:State}{d x:SV}(h:∀y,F y=(G y).bind K):copyV E T s d x F=(copyV E T s d x G).bind K:=by
 unfold copyV;split
 ·split
  ·exact ah3 h
  ·exact TR h
 ·exact TR h
 ·rfl
theorem Ux{g:Bool}{x y:SV}(h:∀y,F y=(G y).bind K):ly g x y F=(ly g x y G).bind K:=by
 unfold ly;split
 ·exact h _
 ·rfl
theorem V2{E:Env}{T:TypeId}(h:∀y,F y=(G y).bind K):pR E T F=(pR E T G).bind K:=by
 unfold pR;split
 ·exact h _
 ·exact h _
theorem CB(hC:C.Nat){E:Env}{ops:List Oper}{o:Oper}{s:State}(h:∀y,F y=(G y).bind K):act E (C R) ops o s F=(act E (C S) ops o s G).bind K:=by
 unfold act;split
 ·split
  ·exact zm (h _) (h _)
  ·split
   ·exact zm (h _) (h _)
   ·rfl
   ·rfl
   ·exact V2 h
   ·exact h _
 ·split
  ·exact h _
  ·rfl
  ·rfl
  ·exact V2 h
  ·exact h _
 ·split
  ·exact zm (h _) (h _)
  ·rfl
 ·exact apl λl=>h _
 ·exact ap1 h
 ·split
  ·exact ah1 h
  ·exact ah2 h
 ·exact amH h
 ·exact ai9 h
 ·split
  ·exact zp rfl (h _)
  ·exact h _
  ·rfl
 ·split
  ·exact ae2 h
  ·exact ae1 h
 ·exact ae9 h
 ·exact afa h
 ·split
  ·refine zp rfl (zv λy=> ?_);split
   ·exact h _
   ·rfl
  ·rfl
 ·split
  ·split
   ·exact zp (amf h) rfl
   ·rfl
  ·exact ame h
  ·exact amg h
 ·split
  ·exact ahZ h
  ·exact z212 h
  ·rfl
 ·split
  ·split
   ·exact h _
   ·rfl
  ·split
   ·split
    ·exact h _
    ·rfl
   ·split
    ·split
     ·exact h _
     ·rfl
    ·rfl
  ·rfl
 ·split
  ·split
   ·exact zv λy=>h _
   ·rfl
  ·rfl
 ·split
  ·exact zp rfl (z124 (λy o=>h _) _ _ _)
  ·rfl
 ·split
  ·exact zp rfl (zm (SO (λy=>h _) _ _) rfl)
  ·rfl
 ·split
  ·refine zp ?_ ?_
   ·split
    ·exact h _
    ·rfl
   split
   ·exact h _
   ·rfl
   ·rfl
   ·exact h _
   ·rfl
  ·rfl
 ·split
  ·exact zwb h
  ·rfl
 ·exact aiy h
 ·exact Ws h
 ·exact Ws h
 ·split
  ·exact zv λy=>zwb h
  ·rfl
 ·exact aiD h
 ·exact aiA h
 ·split
  ·exact ahX hC h
  ·exact zbw hC λu=>h _
 ·split
  ·exact zp rfl (zbw hC h)
  ·exact zbw hC h
  ·rfl
 ·split
  ·exact ah4 h
  ·rfl
 ·split
  ·exact amD h
  ·rfl
 ·split
  ·exact ad0 h
  ·rfl
 ·split
  ·exact Ux h
  ·rfl
 ·split
  ·exact Ux h
  ·rfl
 ·rfl
end
section
variable {R S:Type} {F:State->Option R} {G:State->Option S} {K:S->Option R} {C:ai}
theorem zwl(hC:C.Nat){E:Env}{ops:List Oper}{o:Oper}{s:State}(h:∀y,F y=(G y).bind K):step E (C R) ops o s F=(step E (C S) ops o s G).bind K:=by
 unfold step;simp only;split
 ·exact CB hC λy=>h _
 ·split
  ·rfl
  ·split
   ·exact zm (zm (CB hC λy=>h _) (h _)) (zm (h _) (CB hC λy=>h _))
   ·exact h _
   ·rfl
theorem L8(hC:C.Nat){E:Env}{ops:List Oper}(h:∀y,F y=(G y).bind K):∀(l:List Oper) (s:State),steps E (C R) ops l s F=(steps E (C S) ops l s G).bind K
 | [],s=>h s
 |o::r,s=>by simp only[steps];exact zwl hC λs=>L8 hC h r s
theorem ai7(hC:C.Nat){E:Env}{ops:List Oper}{o:Oper}{i:Nat}{s:State}{tr:List eF}{F:State->List eF->Option R}{G:State->List eF->Option S}(h:∀y t,F y t=(G y t).bind K):mA E (C R) ops o i s tr F=(mA E (C S) ops o i s tr G).bind K:=by
 unfold mA;simp only;split
 ·exact CB hC λy=>zm (h _ _) rfl
 ·split
  ·rfl
  ·split
   ·exact zm (zm (CB hC λy=>zm (h _ _) rfl) (zm (h _ _) rfl)) (zm (zm (h _ _) rfl) (CB hC λy=>zm (h _ _) rfl))
   ·exact zm (h _ _) rfl
   ·rfl
theorem Zc(hC:C.Nat){E:Env}{ops:List Oper}(h:∀y,F y=(G y).bind K):∀(l:List Oper) (i:Nat) (s:State) (tr:List eF),CR E (C R) ops l i s tr F=(CR E (C S) ops l i s tr G).bind K
 | [],i,s,tr=>h s
 |o::r,i,s,tr=>by simp only[CR];exact ai7 hC λs tr=>Zc hC h r (i+1) s tr
theorem Y7{l:List Nat}{s:State}(h:∀y,F y=(G y).bind K):uq l s F=(uq l s G).bind K:=by unfold uq;exact zm (h _) rfl
end
theorem ait{R S:Type}{k:Nat}{F:Unit->Option R}{G:Unit->Option S}{K:S->Option R}(h:F ()=(G ()).bind K):bq k F=(bq k G).bind K:=by
 unfold bq;cases k
 ·rfl
 ·exact h
theorem amI{R S:Type}{F:State->Option R}{G:State->Option S}{K:S->Option R}{E:Env}{k r:Nat}{s:State}(h:∀y,F y=(G y).bind K):n9 E k r s F=(n9 E k r s G).bind K:=by
 unfold n9;split
 ·exact h _
 ·exact Y7 λs=>ait (h _)
theorem am2{R S:Type}{F:State->Option R}{G:State->Option S}{K:S->Option R}{E:Env}{r:Nat}{s:State}(h:∀y,F y=(G y).bind K):ua E r s F=(ua E r s G).bind K:=by
 unfold ua;split
 ·exact h _
 ·split
  ·refine zp ?_ rfl;split
   ·split
    ·exact zm (h _) rfl
    ·rfl
   ·rfl
  ·rfl
theorem ztc{R S:Type}{F:State->Option R}{G:State->Option S}{K:S->Option R}(h:∀y,F y=(G y).bind K):∀(l:List Nat) (s:State),Ov l s F=(Ov l s G).bind K
 | [],s=>h s
 |id::r,s=>by
  simp only[Ov];unfold zsm;split
  ·exact zp rfl (ztc h r _)
  ·rfl
section
variable {R S:Type} {F:Ex->State->Option R} {G:Ex->State->Option S} {K:S->Option R} {C:ai}
theorem Uw{body:State->(Ex->State->Option R)->Option R}{body':State->(Ex->State->Option S)->Option S}{l lx:List Nat}
 (hb:∀(F:Ex->State->Option R) (G:Ex->State->Option S),(∀e s,F e s=(G e s).bind K)->∀s,body s F=(body' s G).bind K) (h:∀e s,F e s=(G e s).bind K):
 ∀(k:Nat) (s:State),gS body l lx k s F=(gS body' l lx k s G).bind K
 |0,_=>rfl
 |k+1,s=>by
  simp only[gS];refine hb _ _ (λe s=> ?_) s;cases e with
  |normal=>exact Y7 λs=>Uw hb h k s
  |exit id=>exact Y7 λs=>h _ _
  |ret=>exact Y7 λs=>h _ _
theorem Wo{E:Env}{q:Nat×Nat×Nat}{ops:List Oper}{s:State}{F:State->Option R}{G:State->Option S}{K:S->Option R}(h:∀s,F s=(G s).bind K):mB E q ops s F=(mB E q ops s G).bind K:=by
 unfold mB;refine zm (zm ?_ rfl) rfl;split
 ·refine zm (zm ?_ rfl) rfl;unfold zd;exact zm (zm (h _) rfl) rfl
 ·rfl
theorem aiL{E:Env}{oA oS:Oper}{s:State}{F:State->Option R}{G:State->Option S}{K:S->Option R}(h:∀s,F s=(G s).bind K):jZ E oA oS s F=(jZ E oA oS s G).bind K:=by
 unfold jZ;split
 ·refine zm ?_ rfl;unfold xi;split
  ·refine zm ?_ rfl;split
   ·refine zm (z193 λn=>zv λy=> ?_) rfl;unfold zd;exact zm (zm (h _) rfl) rfl
   ·rfl
  ·rfl
 ·rfl
theorem Wa(hC:C.Nat){E:Env}{ops:List Oper}{s:State}{F:State->Option R}{G:State->Option S}(h:∀s,F s=(G s).bind K):mw E (C R) ops s F=(mw E (C S) ops s G).bind K:=by
 unfold mw;split
 ·exact L8 hC (λs=>aiL h) _ _
 ·rfl
theorem XA(hC:C.Nat){E:Env}{ops:List Oper}{s:State}{F:State->Option R}{G:State->Option S}(h:∀s,F s=(G s).bind K):NE E (C R) ops s F=(NE E (C S) ops s G).bind K:=by
 unfold NE;split
 ·refine L8 hC (λs=> ?_) _ _;unfold tV;split
  ·split
   ·refine zm ?_ rfl;split
    ·refine zv λy=> ?_;split
     ·exact h _
     ·rfl
    ·rfl
   ·rfl
  ·rfl
 ·rfl
theorem VW(hC:C.Nat){E:Env}{k:Nat}{ops:List Oper}{s:State}{F:State->Option R}{G:State->Option S}(h:∀s,F s=(G s).bind K):tT E (C R) k ops s F=(tT E (C S) k ops s G).bind K:=by
 unfold tT;split
 ·split
  ·split
   ·refine zm (Zc hC (λs=> ?_) _ _ _ _) rfl;refine zm ?_ rfl;unfold lu;split
    ·refine zm (zp ?_ rfl) rfl;split
     ·refine LY λz own=>zm ?_ rfl;split
      ·split
       ·split
        ·exact zm (h _) rfl
        ·rfl
       ·rfl
      ·exact h _
      ·rfl
     ·rfl
    ·rfl
   ·rfl
  ·rfl
 ·rfl
theorem yx(hC:C.Nat){E:Env}{k:Nat}:∀(c:Code) (F:Ex->State->Option R) (G:Ex->State->Option S),(∀e s,F e s=(G e s).bind K)->∀s,ev E (C R) k c s F=(ev E (C S) k c s G).bind K
 | .skip,F,G,h,s=>h _ _
 | .region i ops d,F,G,h,s=>by
   simp only[ev];have key:MH E (C R) i ops d s (F .normal)=(MH E (C S) i ops d s (G .normal)).bind K:=am2 λs=>ztc (λs=>zm (Zc hC (λs=>h _ _) _ _ _ _) (L8 hC (λs=>h _ _) _ _)) _ _;split
   ·refine zm ?_ key;cases d with
    |true=>rfl
    |false=>exact zm (Wa hC λs=>h _ _) (Wo λs=>h _ _)
   ·split
    ·exact key
    ·refine zm ?_ (zm ?_ key)
     ·cases d with
      |true=>rfl
      |false=>exact XA hC λs=>h _ _
     ·cases d with
      |true=>exact VW hC λs=>h _ _
      |false=>rfl
 | .seq a b,F,G,h,s=>by
   simp only[ev];refine yx hC a _ _ (λe s=> ?_) s;cases e with
   |normal=>exact amI λs=>yx hC b _ _ h s
   |exit id=>exact h _ _
   |ret=>exact h _ _
 | .cond c a b,F,G,h,s=>by
   simp only[ev];split
   ·exact zm (yx hC a _ _ h _) (yx hC b _ _ h _)
   ·rfl
 | .block id b,F,G,h,s=>by
   simp only[ev];refine yx hC b _ _ (λe s=> ?_) s;cases e with
   |normal=>exact h _ _
   |exit j=>exact zm (h _ _) (h _ _)
   |ret=>exact h _ _
 | .loop b,F,G,h,s=>by simp only[ev];exact Y7 λs=>Uw (λF G h s=>yx hC b F G h s) h k s
 | .exit id,F,G,h,s=>h _ _
 | .ret,F,G,h,s=>h _ _
 | .rangeFunc ..,F,G,h,s=>rfl
 | .scope _,F,G,h,s=>rfl
 | .label _,F,G,h,s=>rfl
 | .goto _,F,G,h,s=>rfl
 | .refuse _,F,G,h,s=>rfl
end
theorem kE{R S:Type}{x:Option R}{y:Option S}{K:S->Option R}(h:x=y.bind K){z:R}(hz:x=some z):∃w,y=some w/\K w=some z:=by rw[h] at hz;exact Option.bind_eq_some_iff.1 hz
end Go.Ref

namespace Go.Ref
open Go
def er(t:Ty)(cs:List Value):Value:=if t.agg=true then .agg cs.toArray else cs.headD undef
def bB(X:aw)(pl:Place)(e:TypeId)(k n:Nat)(v:Value):Prop:=
 (v= .slice none 0 0/\n=0)\/∃g cap cur,v= .slice (some ⟨g,0,none⟩) n cap/\X.w.heap[g]? =some (.cells cur e (0,0))/\n<=cap/\cap<=maxLen/\cur.size=cap*k/\X.ow g= .row pl (n*k)
def bp(X:aw)(pl:List Nat->Place)(t:Ty)(x:El t)(cs:List Value)(own:List (List Nat)):Prop:=
 ∀p∈own,∃e t' xs v,t.fe p/\El.get t p x=some ⟨.sl e t',xs⟩/\cs[t.off p]? =some v/\bB X (pl p) e t'.cells (aa xs) v
def oi(t:Ty)(p:List Nat)(r:Nat)(v:Value):Prop:=
 match t,p with
 | .aY .mp _ _,_=>v= .map (some r)
 | .aY (.hJ n) _ _,[]=>∃cap,v= .slice (some ⟨r,0,none⟩) n cap/\n<=cap
 | .aY (.hJ n) a _,[l]=>∃cap off,v= .slice (some ⟨r,off,none⟩) (n-l) cap/\n-l<=cap/\l<=n/\((n=l/\off=0)\/off=l*a.cells)
 | .aY (.xW f) _ _,[]=>v= .func (.func f) #[] #[.pointer (some ⟨r,0,none⟩)]
 | .aY .row a _,[i]=>v= .pointer (some ⟨r,i*a.cells,none⟩)
 | .aY .cX a _,p=>v= .pointer (some ⟨r,nN a p,none⟩)/\gIn a p
 |t,p=>v= .pointer (some ⟨r,t.off p,none⟩)/\t.fe p
theorem sL{t:Ty}{p:List Nat}{r:Nat}{v:Value}(h:t.bO=false):oi t p r v↔v= .pointer (some ⟨r,t.off p,none⟩)/\t.fe p:=by
 unfold oi;split
 all_goals first
  |exact Iff.rfl
  |simp [Ty.bO] at h
theorem Zt{t:Ty}{p:List Nat}{r:Nat}{v:Value}(h:t.sD=false):oi t p r v↔v= .pointer (some ⟨r,t.off p,none⟩)/\t.fe p:=by
 unfold oi;split
 all_goals first
  |exact Iff.rfl
  |simp [Ty.sD] at h
def aC(X:aw)(pl:List Nat->Place):SV->Value->Prop
 | .undef,_=>True
 | .skip,v=>v=zaj
 | .cR,v=>v= .slice none 0 0
 | .ey,v=>v= .pointer none
 | .aq t x own,v=>∃cs,bm X t x cs/\v=er t cs/\bp X pl t x cs own
 | .ptr id t p,v=>∃r,X.β id=some r/\oi t p r v
 | .view t x,v=>∃ad cs,v= .pointer (some ad)/\ad.spot=none/\bm X t x cs/\∀i u,cs[i]? =some u->X.aB (ad.add i) u
 | .cap f t x u y,v=>∃ad ss cs fa,v= .func (.func f) #[] #[.pointer (some ad),.pointer (some ss)]/\(ad.spot=none/\bm X t x cs/\∀i w,cs[i]? =some w->X.aB (ad.add i) w)/\(ss.spot=none/\bm X u y fa/\∀i w,fa[i]? =some w->X.aB (ss.add i) w)
 | .over,v=>v= .tuple #[.bool false]
 | .bF id a _ j,v=>∃r,X.β id=some r/\X.ow r= .box id/\X.w.cell? ⟨r,a.cells+j,none⟩=some v
theorem uf{X Y:aw}{pl gU:List Nat->Place}(h:∀a v,X.aB a v->Y.aB a v){f:Nat}{t u:Ty}{x:El t}{y:El u}{v:Value}(hr:aC X pl (.cap f t x u y) v):aC Y gU (.cap f t x u y) v:=by obtain⟨ad,ss,cs,fa,h1,⟨h2,h3,h4⟩,h5,h6,h7⟩:=hr;exact⟨ad,ss,cs,fa,h1,⟨h2,h3.aj h,λi w hi=>h _ _ (h4 i w hi)⟩,h5,h6.aj h,λi w hi=>h _ _ (h7 i w hi)⟩
def cW(X:aw)(pl:Nat->List Nat->Place)(l:List SV)(v:Value):Prop:=
 match l with
 | [s]=>aC X (pl 0) s v
 |l=>∃vs:Array Value,v= .tuple vs/\vs.size=l.length/\∀(j:Nat) s u,l[j]? =some s->vs[j]? =some u->aC X (pl j) s u
def eV(X:aw)(t:Ty)(x:El t)(v:Value):Prop:=∃cs,bm X t x cs/\v=er t cs
def dO(X:aw)(pl:List Nat->Place)(b:Ty)(m:Option (El b))(v:Value):Prop:=
 match m with
 |none=>v= .pointer none
 |some y=>∃g cs T,v= .pointer (some ⟨g,0,none⟩)/\X.w.heap[g]? =some (.cells cs T (0,0))/\X.ow g= .row (pl []) 0/\bm X b y cs.toList/\bp X pl b y cs.toList z91
def iM(X:aw)(r:Nat)(pl:List Nat->Place)(a b:Ty)(x:El (.aY .cX a b)):Prop:=
 ∃c p0 p1 T,X.w.heap[r]? =some (.cells (c++ [p0,p1,.int .i64 x.2.2]).toArray T (0,0))/\bm X a x.1 c/\dO X (λp=>pl (0::p)) b x.2.1.1 p0/\dO X (λp=>pl (1::p)) b x.2.1.2 p1
def dN(X:aw)(r:Nat)(pl:List Nat->Place):(t:Ty)->El t->List (List Nat)->Prop
 | .aY .iter _ _,x,_=>X.w.heap[r]? =some (.stringIter x.1 x.2)
 | .aY .mp kt vt,x,_=>∃es clock,X.w.heap[r]? =some (.map es clock)/\es.size=aa x/\∀(i:Nat) (q:El kt×El vt) (e:MapEntry),x[i]? =some q->es[i]? =some e->eV X kt q.1 e.key/\eV X vt q.2 e.val
 | .aY .row t _,xs,_=>∃cs T,X.w.heap[r]? =some (.cells cs T (0,0))/\cs.size=aa xs*t.cells/\∀(j:Nat) (x:El t),xs[j]? =some x->bm X t x ((cs.toList.drop (j*t.cells)).take t.cells)
 | .aY (.kl T e) _ _,x,own=>(∃o,X.w.heap[r]? =some o)/\([]∈own->∃v,xM T e r v (zcO x) X.w/\∀g,v.ownBlock=some g->X.ow g= .row (pl []) 0)
 | .aY .cX a b,x,own=>(∃o,X.w.heap[r]? =some o)/\((∀p∈lX,p∈own)->iM X r pl a b x)
 | .aY _ _ _,_,_=>False
 |t,x,own=>∃cs T,X.w.heap[r]? =some (.cells cs T (0,0))/\bm X t x cs.toList/\bp X pl t x cs.toList own
theorem dN.plain{X:aw}{r:Nat}{pl:List Nat->Place}{t:Ty}{x:El t}{own:List (List Nat)}(hs:t.bO=false):dN X r pl t x own↔∃cs T,X.w.heap[r]? =some (.cells cs T (0,0))/\bm X t x cs.toList/\bp X pl t x cs.toList own:=by cases t<;>first|exact Iff.rfl|simp [Ty.bO] at hs
theorem dN.of{X:aw}{r:Nat}{pl:List Nat->Place}{t:Ty}{x:El t}{own:List (List Nat)}{cs:Array Value}{T:TypeId}(hs:t.bO=false)(h1:X.w.heap[r]? =some (.cells cs T (0,0)))(h2:bm X t x cs.toList)(h3:bp X pl t x cs.toList own):dN X r pl t x own:=(dN.plain hs).2 ⟨cs,T,h1,h2,h3⟩
theorem eV.mono{X Y:aw}(h:∀a v,X.aB a v->Y.aB a v){t:Ty}{x:El t}{v:Value}(hr:eV X t x v):eV Y t x v:=by obtain⟨cs,h1,h2⟩:=hr;exact⟨cs,h1.aj h,h2⟩
theorem dN.lt{X:aw}{r:Nat}{pl:List Nat->Place}{t:Ty}{x:El t}{own:List (List Nat)}(h:dN X r pl t x own):r<X.w.heap.size:=by
 have key:∀o,X.w.heap[r]? =some o->r<X.w.heap.size:=λo ho=>(zeQ.1 ho).1;unfold dN at h;split at h
 ·exact key _ h
 ·obtain⟨es,c,h1,_⟩:=h;exact key _ h1
 ·obtain⟨cs,T,h1,_⟩:=h;exact key _ h1
 ·obtain⟨⟨o,ho⟩,_⟩:=h;exact key _ ho
 ·obtain⟨⟨o,ho⟩,_⟩:=h;exact key _ ho
 ·exact h.elim
 ·obtain⟨cs,T,h1,_⟩:=h;exact key _ h1
theorem dO.move{X Y:aw}{pl gU:List Nat->Place}{b:Ty}{m:Option (El b)}{v:Value}(hs:∀a v,X.aB a v->Y.aB a v)
 (hg:∀p,p=[]\/p=[2]->∀g o n,X.w.heap[g]? =some o->X.ow g= .row (pl p) n->Y.w.heap[g]? =some o/\Y.ow g= .row (gU p) n) (h:dO X pl b m v):dO Y gU b m v:=by
 cases m with
 |none=>exact h
 |some y=>
  obtain⟨g,cs,T,h1,h2,h3,h4,h5⟩:=h;obtain⟨k1,k2⟩:=hg [] (.inl rfl) g _ _ h2 h3;refine⟨g,cs,T,h1,k1,k2,h4.aj hs,λp hp=> ?_⟩;have:p=[2]:=by simpa [z91] using hp
  subst this;obtain⟨e,t',xs,v,g0,g1,g2,g3⟩:=h5 [2] hp;refine⟨e,t',xs,v,g0,g1,g2,?_⟩;rcases g3 with g3|⟨g',cap,cur,q1,q2,q3,q4,q5,q6⟩
  ·exact .inl g3
  ·obtain⟨j1,j2⟩:=hg [2] (.inr rfl) g' _ _ q2 q6;exact .inr ⟨g',cap,cur,q1,j1,q3,q4,q5,j2⟩
theorem iM.move{X Y:aw}{r:Nat}{pl gU:List Nat->Place}{a b:Ty}{x:El (.aY .cX a b)}(hs:∀a v,X.aB a v->Y.aB a v)(hh:Y.w.heap[r]? =X.w.heap[r]?)
 (hg:∀p∈lX,∀g o n,X.w.heap[g]? =some o->X.ow g= .row (pl p) n->Y.w.heap[g]? =some o/\Y.ow g= .row (gU p) n) (h:iM X r pl a b x):iM Y r gU a b x:=by
 obtain⟨c,p0,p1,T,h1,h2,h3,h4⟩:=h;refine⟨c,p0,p1,T,hh.trans h1,h2.aj hs,h3.move hs λp hp=> ?_,h4.move hs λp hp=> ?_⟩
 ·rcases hp with rfl|rfl<;>exact hg _ (by simp [lX])
 ·rcases hp with rfl|rfl<;>exact hg _ (by simp [lX])
theorem dN.move{X Y:aw}{r:Nat}{pl gU:List Nat->Place}{t:Ty}{x:El t}{own:List (List Nat)}(hs:∀a v,X.aB a v->Y.aB a v)(hh:Y.w.heap[r]? =X.w.heap[r]?)
 (ho:∀cs,bp X pl t x cs own->bp Y gU t x cs own) (hg:∀p∈own,∀g o n,X.w.heap[g]? =some o->X.ow g= .row (pl p) n->Y.w.heap[g]? =some o/\Y.ow g= .row (gU p) n) (h:dN X r pl t x own):dN Y r gU t x own:=by
 unfold dN at h⊢;split at h
 ·exact hh.trans h
 ·obtain⟨es,c,h1,h2,h3⟩:=h;exact⟨es,c,hh.trans h1,h2,λi q e hq he=>⟨(h3 i q e hq he).1.mono hs,(h3 i q e hq he).2.mono hs⟩⟩
 ·obtain⟨cs,T,h1,h2,h3⟩:=h;exact⟨cs,T,hh.trans h1,h2,λj x hj=>(h3 j x hj).aj hs⟩
 ·obtain⟨⟨o,h1⟩,h2⟩:=h;refine⟨⟨o,hh.trans h1⟩,λhm=> ?_⟩;obtain⟨v,h3,h4⟩:=h2 hm;refine⟨v,h3.same hh (λg o hv ho=>(hg _ hm g o _ ho (h4 g hv)).1),λg hv=> ?_⟩;obtain⟨cap,cur,Gr⟩:∃cap cur,X.w.heap[g]? =some (.cells cur cap (0,0)):=by
   rcases h3.own.2 with⟨hn,_⟩|⟨g',cap,cur,jS,_,Gr,_⟩
   ·rw[hn] at hv;simp [zcE] at hv
   ·rw[jS] at hv;simp [zcE] at hv;subst hv;exact⟨_,_,Gr⟩
  exact(hg _ hm g _ _ Gr (h4 g hv)).2
 ·obtain⟨⟨o,h1⟩,h2⟩:=h;exact⟨⟨o,hh.trans h1⟩,λhp=>(h2 hp).move hs hh λp hm=>hg p (hp p hm)⟩
 ·exact h.elim
 ·obtain⟨cs,T,h1,h2,h3⟩:=h;exact⟨cs,T,hh.trans h1,h2.aj hs,ho _ h3⟩
def bK(X:aw)(id r:Nat)(B:bH):Prop:=X.ow r= .box id/\dN X r (.b id) B.t B.x B.own
theorem bK.cells{X:aw}{id r:Nat}{B:bH}(h:bK X id r B)(hs:B.t.bO=false):∃cs T,X.w.heap[r]? =some (.cells cs T (0,0))/\bm X B.t B.x cs.toList/\X.ow r= .box id/\bp X (.b id) B.t B.x cs.toList B.own:=by obtain⟨cs,T,h1,h2,h3⟩:=(dN.plain hs).1 h.2;exact⟨cs,T,h1,h2,h.1,h3⟩
def iN(s:State):Prop:=∀(i:Nat) l id a b j,s.sl[i]? =some l->SV.bF id a b j∈l->l=[.bF id a b j]/\(∃x own,s.bs[id]? =some (some ⟨.aY .cX a b,x,own⟩)/\ []∉own)/\
 ∀(i':Nat) l' a' b' j',s.sl[i']? =some l'->SV.bF id a' b' j'∈l'->i'=i
theorem iN.less{s s':State}(h:iN s)(hs:∀(i:Nat) l id a b j,s'.sl[i]? =some l->SV.bF id a b j∈l->∃l0,s.sl[i]? =some l0/\SV.bF id a b j∈l0/\(l0=[.bF id a b j]->l=[.bF id a b j]))
 (hb:∀(id:Nat) a b x own,(∃(i:Nat) (l:List SV) (j:Nat),s'.sl[i]? =some l/\SV.bF id a b j∈l)->s.bs[id]? =some (some ⟨.aY .cX a b,x,own⟩)-> []∉own->∃x' kv,s'.bs[id]? =some (some ⟨.aY .cX a b,x',kv⟩)/\ []∉kv):iN s':=λi l id a b j hl hm=>by
 obtain⟨l0,h1,h2,h3⟩:=hs i l id a b j hl hm;obtain⟨g1,⟨x,own,g2,g3⟩,g4⟩:=h i l0 id a b j h1 h2;refine⟨h3 g1,hb id a b x own ⟨i,l,j,hl,hm⟩ g2 g3,λi' l' a' b' j' lQ uD=> ?_⟩;obtain⟨l1,k1,k2,_⟩:=hs i' l' id a' b' j' lQ uD;exact g4 i' l1 a' b' j' k1 k2
theorem iN.aE{s:State}(h:iN s){d:Nat}{B:bH}(hn:∀(i:Nat) (l:List SV) a b j,s.sl[i]? =some l->SV.bF d a b j∈l->False):iN (s.aE (some (d,B))):=
 h.less (λi l id a b j hl hm=>⟨l,hl,hm,λh=>h⟩) λid a b x own hex hb ho=>by obtain⟨i,l,j,hl,hm⟩:=hex;refine⟨x,own,?_,ho⟩;simp only[State.aE,vc];rw[if_neg (λe=>by subst e;exact hn i l a b j hl hm)];exact hb
theorem iN.none{s:State}(h:iN s){d:Nat}(hb:∀a b x own,s.bs[d]? =some (some ⟨.aY .cX a b,x,own⟩)-> []∈own):∀(i:Nat) (l:List SV) a b j,s.sl[i]? =some l->SV.bF d a b j∈l->False:=λi l a b j hl hm=>by obtain⟨_,⟨x,own,h1,h2⟩,_⟩:=h i l d a b j hl hm;exact h2 (hb a b x own h1)
theorem Ce{l:List SV}(h:l.any SV.bW=false){id:Nat}{a b:Ty}{j:Nat}(hm:SV.bF id a b j∈l):False:=by have:=za9.1 h _ hm;exact this rfl
structure Rel(X:aw)(s:State)(a:Act):Prop where
 size:s.sl.length=a.tmps.size
 ia:s.bs.length=s.sl.length+1
 bZ:∀(i:Nat) l v,s.sl[i]? =some l->a.tmps[i]? =some v->cW X (.c i) l v
 boxes:∀(id:Nat) B,s.bs[id]? =some (some B)->∃r,X.β id=some r/\bK X id r B
 live:∀(i:Nat) l id t p,s.sl[i]? =some l->SV.ptr id t p∈l->∃B,s.bs[id]? =some (some B)
 defers:a.defers=[]
 bF:iN s
theorem yp{w:World}{g:Nat}{o:Obj}(h:w.heap[g]? =some o):g<w.heap.size:=(zeQ.1 h).1
theorem cW.jD{X Y:aw}{pl gU:Nat->List Nat->Place}{l:List SV}{v:Value}(hr:cW X pl l v)(h:∀(j:Nat) s u,l[j]? =some s->aC X (pl j) s u->aC Y (gU j) s u):cW Y gU l v:=by
 match l,hr with
 | [s],hr=>exact h 0 s v (by simp) hr
 | [],⟨vs,h1,h2,h3⟩=>exact⟨vs,h1,h2,λj s u hs hu=>h j s u hs (h3 j s u hs hu)⟩
 |x::y::r,⟨vs,h1,h2,h3⟩=>exact⟨vs,h1,h2,λj s u hs hu=>h j s u hs (h3 j s u hs hu)⟩
def dg(s:State):Place->Prop
 | .c i j p=>∃l t x own,s.sl[i]? =some l/\l[j]? =some (.aq t x own)/\p∈own
 | .b id p=>∃B,s.bs[id]? =some (some B)/\p∈B.own
 | .r _ _=>False
structure Mod(s:State)(X Y:aw):Prop where
 aB:∀a v,X.aB a v->Y.aB a v
 size:X.w.heap.size<=Y.w.heap.size
 os:Y.w.os=X.w.os
 tape:Y.w.tape=X.w.tape
 output:Y.w.output=X.w.output
 β0:Y.β 0=X.β 0
 β:∀(id:Nat) B,s.bs[id]? =some (some B)->Y.β id=X.β id
 nJ:∀g,g<X.w.heap.size->(Y.ow g=X.ow g/\Y.w.heap[g]? =X.w.heap[g]?)\/∃pl n,X.ow g= .row pl n/\¬dg s pl
theorem Mod.ext{s:State}{X Y:aw}(h:Mod s X Y):Ext X Y:=
 ⟨h.aB,h.size,h.os,h.tape,h.output,h.β0,λg hg bY=>by
   rcases h.nJ g hg with e|⟨pl,n,h1,_⟩
   ·exact e
   ·rw[h1] at bY;exact bY.elim⟩
theorem Mod.refl(s:State)(X:aw):Mod s X X:=⟨λ_ _ h=>h,zag _,rfl,rfl,rfl,rfl,λ_ _ _=>rfl,λ_ _=> .inl ⟨rfl,rfl⟩⟩
theorem bB.mod{s:State}{X Y:aw}(h:Mod s X Y){pl:Place}{e:TypeId}{k n:Nat}{v:Value}(hf:dg s pl)(ho:bB X pl e k n v):bB Y pl e k n v:=by
 rcases ho with ho|⟨g,cap,cur,h1,h2,h3,h4,h5,h6⟩
 ·exact .inl ho
 ·rcases h.nJ g (yp h2) with⟨k1,k2⟩|⟨gU,n',k1,k2⟩
  ·exact .inr ⟨g,cap,cur,h1,k2.trans h2,h3,h4,h5,k1.trans h6⟩
  ·rw[h6] at k1;injection k1 with k1;rw[k1] at hf;exact absurd hf k2
theorem bp.mod{s:State}{X Y:aw}(h:Mod s X Y){pl:List Nat->Place}{t:Ty}{x:El t}{cs:List Value}{own:List (List Nat)}(hf:∀p∈own,dg s (pl p))(ho:bp X pl t x cs own):bp Y pl t x cs own:=λp hp=>by obtain⟨e,t',xs,v,g0,g1,g2,g3⟩:=ho p hp;exact⟨e,t',xs,v,g0,g1,g2,g3.mod h (hf p hp)⟩
theorem aC.mod{s:State}{X Y:aw}(h:Mod s X Y){pl:List Nat->Place}{sv:SV}{v:Value}(hf:∀t x own,sv= .aq t x own->∀p∈own,dg s (pl p))(hl:∀id t p,sv= .ptr id t p->∃B,s.bs[id]? =some (some B))(hk:∀id a b j,sv= .bF id a b j->∃B,s.bs[id]? =some (some B))(hr:aC X pl sv v):aC Y pl sv v:=by
 cases sv with
 |undef=>trivial
 |skip=>exact hr
 |cR=>exact hr
 |ey=>exact hr
 |over=>exact hr
 |aq t x own=>obtain⟨cs,h1,h2,h3⟩:=hr;exact⟨cs,h1.aj h.aB,h2,h3.mod h (hf t x own rfl)⟩
 |ptr id t p=>obtain⟨r,h1,h2⟩:=hr;obtain⟨B,hB⟩:=hl id t p rfl;exact⟨r,(h.β id B hB).trans h1,h2⟩
 |view t x=>obtain⟨ad,cs,h1,h2,h3,h4⟩:=hr;exact⟨ad,cs,h1,h2,h3.aj h.aB,λi u hi=>h.aB _ _ (h4 i u hi)⟩
 |cap f t x u y=>exact uf h.aB hr
 |bF id a b j=>
  obtain⟨r,h1,h2,h3⟩:=hr;obtain⟨B,hB⟩:=hk id a b j rfl;have ap:r<X.w.heap.size:=zcQ X.w _ h3;rcases h.nJ r ap with⟨k1,k2⟩|⟨gU,n',k1,_⟩
  ·refine⟨r,(h.β id B hB).trans h1,k1.trans h2,?_⟩;simp only[zaP] at h3⊢;rw[k2];exact h3
  ·rw[h2] at k1;cases k1
theorem Rel.mod{s:State}{X Y:aw}{a:Act}(hr:Rel X s a)(h:Mod s X Y):Rel Y s a where
 size:=hr.size
 ia:=hr.ia
 bZ:=λi l v hl hv=>(hr.bZ i l v hl hv).jD λj sv u hm kB=>kB.mod h (λt x own e p hp=>⟨l,t,x,own,hl,e▸hm,hp⟩) (λid t p e=>hr.live i l id t p hl (e▸IH hm)) (λid a b j e=>by obtain⟨_,⟨x,own,hb,_⟩,_⟩:=hr.bF i l id a b j hl (e▸IH hm);exact⟨_,hb⟩)
 boxes:=λid B hB=>by
  obtain⟨r,h1,h4,h2⟩:=hr.boxes id B hB;have hk:Y.ow r=X.ow r/\Y.w.heap[r]? =X.w.heap[r]? :=by
   rcases h.nJ r h2.lt with hk|⟨gU,n',k1,k2⟩
   ·exact hk
   ·rw[h4] at k1;cases k1
  exact⟨r,(h.β id B hB).trans h1,hk.1.trans h4,h2.move h.aB hk.2 (λcs h5=>h5.mod h λp hp=>⟨B,hB,hp⟩) λp hm g o n ho hw=>by
   rcases h.nJ g (yp ho) with e|⟨pl,n',e1,e2⟩
   ·exact⟨e.2.trans ho,e.1.trans hw⟩
   ·rw[hw] at e1;injection e1 with e1;exact absurd (e1▸(⟨B,hB,hm⟩:dg s (.b id p))) e2⟩
 live:=hr.live
 defers:=hr.defers
 bF:=hr.bF
structure fq(s:State)(X Y:aw):Prop where
 size:X.w.heap.size<=Y.w.heap.size
 os:Y.w.os=X.w.os
 tape:Y.w.tape=X.w.tape
 output:Y.w.output=X.w.output
 nJ:∀g,g<X.w.heap.size->Y.ow g=X.ow g/\Y.w.heap[g]? =X.w.heap[g]?
 β0:Y.β 0=X.β 0
 β:∀(id:Nat) B,s.bs[id]? =some (some B)->Y.β id=X.β id
theorem fq.aB{s:State}{X Y:aw}(h:fq s X Y){a:Addr}{v:Value}(hs:X.aB a v):Y.aB a v:=by
 have ap:=aw.jn hs;obtain⟨h1,h2⟩:=h.nJ _ ap;refine⟨hs.1,?_,?_⟩
 ·have:=hs.2.1;simp only[zaP] at this⊢;rw[h2];exact this
 ·rw[h1];exact hs.2.2
theorem fq.mod{s:State}{X Y:aw}(h:fq s X Y):Mod s X Y:=
 ⟨λ_ _=>h.aB,h.size,h.os,h.tape,h.output,h.β0,h.β,λg hg=> .inl (h.nJ g hg)⟩
theorem fq.ext{s:State}{X Y:aw}(h:fq s X Y):Ext X Y:=h.mod.ext
theorem bB.dy{s:State}{X Y:aw}(h:fq s X Y){pl:Place}{e:TypeId}{k n:Nat}{v:Value}(ho:bB X pl e k n v):bB Y pl e k n v:=by
 rcases ho with ho|⟨g,cap,cur,h1,h2,h3,h4,h5,h6⟩
 ·exact .inl ho
 ·obtain⟨k1,k2⟩:=h.nJ g (yp h2);exact .inr ⟨g,cap,cur,h1,k2.trans h2,h3,h4,h5,k1.trans h6⟩
theorem bp.dy{s:State}{X Y:aw}(h:fq s X Y){pl:List Nat->Place}{t:Ty}{x:El t}{cs:List Value}{own:List (List Nat)}(ho:bp X pl t x cs own):bp Y pl t x cs own:=λp hp=>by obtain⟨e,t',xs,v,g0,g1,g2,g3⟩:=ho p hp;exact⟨e,t',xs,v,g0,g1,g2,g3.dy h⟩
theorem Rel.dy{s:State}{X Y:aw}{a:Act}(hr:Rel X s a)(h:fq s X Y):Rel Y s a:=hr.mod h.mod
theorem Rel.put{X:aw}{s:State}{a:Act}(hr:Rel X s a){d:Option Nat}{l:List SV}{v:Value}(h:∀d',d=some d'->cW X (.c d') l v)(hl:∀id t p,SV.ptr id t p∈l->∃B,s.bs[id]? =some (some B))(hn:l.any SV.bW=false:=by rfl):Rel X (s.au d l) (a.put d v):=by
 cases d with
 |none=>exact hr
 |some d=>
  refine⟨by simpa [State.au,Act.put] using hr.size,by simpa [State.au] using hr.ia,λi l' v' hi hv=> ?_,hr.boxes,λi l' id t p hi hm=> ?_,hr.defers,hr.bF.less (λi l' id a b j hi hm=> ?_) (λid a b x own _ hb ho=>⟨x,own,hb,ho⟩)⟩
  ·simp only[State.au,vc] at hi;simp only[Act.put,zbF] at hv;by_cases e:d=i
   ·subst e;simp only[if_true] at hi hv;split at hi
    ·split at hv
     ·cases hi;cases hv;exact h d rfl
     ·cases hv
    ·cases hi
   ·rw[if_neg e] at hi hv;exact hr.bZ i l' v' hi hv
  ·simp only[State.au,vc] at hi;split at hi
   ·split at hi
    ·cases hi;exact hl id t p hm
    ·cases hi
   ·exact hr.live i l' id t p hi hm
  ·simp only[State.au,vc] at hi;split at hi
   ·split at hi
    ·cases hi;exact(Ce hn hm).elim
    ·cases hi
   ·exact⟨l',hi,hm,λh=>h⟩
theorem Rel.skip{X:aw}{s:State}{a:Act}(hr:Rel X s a)(d:Option Nat):Rel X (s.au d [.skip]) (a.put d zaj):=
 hr.put (λ_ _=>rfl) (λid t p h=>by simp at h)
structure eI(s:State)(X Y:aw):Prop where
 w:Y.w=X.w
 β:Y.β=X.β
 ow:∀g,Y.ow g=X.ow g\/∃pl n q,X.ow g= .row pl n/\¬dg s pl/\Y.ow g= .row q n
theorem eI.aB{s:State}{X Y:aw}(h:eI s X Y){a:Addr}{v:Value}:X.aB a v↔Y.aB a v:=by
 unfold aw.aB;rw[h.w];rcases h.ow a.block with e|⟨pl,n,q,h1,_,h2⟩
 ·rw[e]
 ·rw[h1,h2];rfl
theorem eI.mod{s:State}{X Y:aw}(h:eI s X Y):Mod s X Y:=
 ⟨λ_ _=>h.aB.1,by rw[h.w];exact zag _,by rw[h.w],by rw[h.w],by rw[h.w],by rw[h.β],λ_ _ _=>by rw[h.β],λg _=>by
   rcases h.ow g with e|⟨pl,n,q,h1,h2,_⟩
   ·exact .inl ⟨e,by rw[h.w]⟩
   ·exact .inr ⟨pl,n,h1,h2⟩⟩
theorem eI.ext{s:State}{X Y:aw}(h:eI s X Y):Ext X Y:=h.mod.ext
theorem eI.refl(s:State)(X:aw):eI s X X:=⟨rfl,rfl,λ_=> .inl rfl⟩
theorem zgj{v:SV}{id:Nat}{t:Ty}{p:List Nat}:v.shut= .ptr id t p->v= .ptr id t p:=by cases v<;>simp [SV.shut]
theorem aC.shut{X:aw}{pl gU:List Nat->Place}{sv:SV}{v:Value}(hr:aC X pl sv v):aC X gU sv.shut v:=by
 cases sv with
 |aq t x own=>obtain⟨cs,h1,h2,_⟩:=hr;exact⟨cs,h1,h2,λp hp=>by cases hp⟩
 |bF id a b j=>trivial
 |_=>exact hr
theorem z97:∀(l:List SV) (j:Nat),(bX l j).length=l.length
 | [],_=>rfl
 |_::_,0=>rfl
 |_::r,j+1=>by simp [bX,z97 r j]
theorem Zb:∀(l:List SV) (j i:Nat),(bX l j)[i]? =if i=j then(l[i]?).map SV.shut else l[i]?
 | [],j,i=>by simp [bX]
 |v::r,0,0=>by simp [bX]
 |v::r,0,i+1=>by simp [bX]
 |v::r,j+1,0=>by simp [bX]
 |v::r,j+1,i+1=>by simp only[bX,zax,Zb r j i];simp
theorem cW.bX{X:aw}{pl:Nat->List Nat->Place}{l:List SV}{v:Value}(hr:cW X pl l v)(j:Nat):cW X pl (bX l j) v:=by
 match l,hr with
 | [s],hr=>
   cases j with
   |zero=>exact hr.shut
   |succ j=>exact hr
 | [],hr=>exact hr
 |x::y::r,⟨vs,h1,h2,h3⟩=>
  have hlen:∃x' y' r',Ref.bX (x::y::r) j=x'::y'::r':=by
   match j with
   |0=>exact⟨_,_,_,rfl⟩
   |1=>exact⟨_,_,_,rfl⟩
   |j+2=>exact⟨_,_,_,rfl⟩
  obtain⟨x',y',r',he⟩:=hlen;have hl:=z97 (x::y::r) j;have hg:=Zb (x::y::r) j;rw[he] at hl hg⊢;refine⟨vs,h1,by rw[hl];exact h2,λi s u hs hu=> ?_⟩;rw[hg] at hs;split at hs
  ·obtain⟨s0,fF,rfl⟩:=nl.1 hs;exact(h3 i s0 u fF hu).shut
  ·exact h3 i s u hs hu
theorem afm{l:List SV}{j:Nat}{id:Nat}{t:Ty}{p:List Nat}(h:SV.ptr id t p∈bX l j):SV.ptr id t p∈l:=by
 obtain⟨i,hi⟩:=zbi.1 h;rw[Zb] at hi;split at hi
 ·obtain⟨s0,fF,he⟩:=nl.1 hi;rw[zgj he] at fF;exact IH fF
 ·exact IH hi
theorem sP{s:State}{i:Nat}(h:i<s.sl.length):s.sl[i]? =some (s.slot i):=by simp [State.slot,be,ks h]
theorem afl{l:List SV}{j:Nat}{id:Nat}{a b:Ty}{i:Nat}(h:SV.bF id a b i∈bX l j):SV.bF id a b i∈l/\(l=[.bF id a b i]->bX l j=[.bF id a b i]):=by
 obtain⟨k,hk⟩:=zbi.1 h;have EI:=hk;rw[Zb] at hk;split at hk
 ·obtain⟨s0,fF,he⟩:=nl.1 hk;cases s0<;>simp [SV.shut] at he
 ·refine⟨IH hk,λe=> ?_⟩;subst e;cases j with
  |zero=>simp [bX,SV.shut] at h
  |succ j=>rfl
def State.ct(s:State)(i j:Nat):State:={s with sl:=s.sl.set i (bX (s.slot i) j)}
theorem LX{s:State}{i j:Nat}{r:List (Nat×Nat)}:s.close ((i,j)::r)=(s.ct i j).close r:=rfl
theorem zlc{r:List (Nat×Nat)}:∀(l:List (Nat×Nat)) (s:State),s.close (l++r)=(s.close l).close r
 | [],s=>rfl
 |(i,j)::l,s=>by rw[zbM,LX,LX];exact zlc l _
theorem Rel.ct{X:aw}{s:State}{a:Act}(hr:Rel X s a)(i j:Nat):Rel X (s.ct i j) a:=by
 refine⟨by simpa [State.ct] using hr.size,by simpa [State.ct] using hr.ia,λk l v hl hv=> ?_,hr.boxes,λk l id t p hl hm=> ?_,hr.defers,hr.bF.less (λk l id a b n hl hm=> ?_) (λid a b x own _ hb ho=>⟨x,own,hb,ho⟩)⟩
 ·simp only[State.ct,vc] at hl;split at hl
  ·rename_i e;subst e;split at hl
   ·rename_i ap;cases hl;exact(hr.bZ i _ v (sP ap) hv).bX j
   ·cases hl
  ·exact hr.bZ k l v hl hv
 ·simp only[State.ct,vc] at hl;split at hl
  ·rename_i e;subst e;split at hl
   ·rename_i ap;cases hl;exact hr.live i _ id t p (sP ap) (afm hm)
   ·cases hl
  ·exact hr.live k l id t p hl hm
 ·simp only[State.ct,vc] at hl;split at hl
  ·rename_i e;subst e;split at hl
   ·rename_i ap;cases hl;obtain⟨h1,h2⟩:=afl hm;exact⟨_,sP ap,h1,h2⟩
   ·cases hl
  ·exact⟨l,hl,hm,λh=>h⟩
theorem Rel.close{X:aw}{a:Act}:∀(c:List (Nat×Nat)) {s:State},Rel X s a->Rel X (s.close c) a
 | [],s,hr=>hr
 |(i,j)::r,s,hr=>Rel.close r (hr.ct i j)
theorem Cn:∀{c:List (Nat×Nat)} {s:State},(s.close c).bs=s.bs
 | [],s=>rfl
 |(i,j)::r,s=>(Cn (c:=r) (s:=s.ct i j))
theorem Zg:∀{c:List (Nat×Nat)} {s:State},(s.close c).sl.length=s.sl.length
 | [],s=>rfl
 |(i,j)::r,s=>by rw[LX,Zg (c:=r)];simp [State.ct]
theorem dg.tX{s:State}{i j:Nat}{pl:Place}(h:dg (s.ct i j) pl):dg s pl/\∀p,pl≠ .c i j p:=by
 cases pl with
 |r j p=>exact h.elim
 |b id p=>exact⟨h,λp=>by simp⟩
 |c i' j' p=>
  obtain⟨l,t,x,own,hl,hx,hp⟩:=h;simp only[State.ct,vc] at hl;split at hl
  ·rename_i e;subst e;split at hl
   ·rename_i ap;cases hl;rw[Zb] at hx;split at hx
    ·obtain⟨s0,_,he⟩:=nl.1 hx;cases s0<;>simp [SV.shut] at he;obtain⟨rfl,_,rfl⟩:=he;cases hp
    ·rename_i bR;exact⟨⟨_,t,x,own,sP ap,hx,hp⟩,λq e=>by cases e;exact bR rfl⟩
   ·cases hl
  ·rename_i bR;exact⟨⟨l,t,x,own,hl,hx,hp⟩,λq e=>by cases e;exact bR rfl⟩
theorem dg.lA{pl:Place}:∀{c:List (Nat×Nat)} {s:State},dg (s.close c) pl->dg s pl/\∀i j,(i,j)∈c->∀p,pl≠ .c i j p
 | [],s,h=>⟨h,λi j hm=>by cases hm⟩
 |(i,j)::r,s,h=>by
  obtain⟨h1,h2⟩:=dg.lA (c:=r) (s:=s.ct i j) h;obtain⟨h3,h4⟩:=dg.tX h1;refine⟨h3,λi' j' hm p=> ?_⟩;rcases List.mem_cons.1 hm with e|hm
  ·cases e;exact h4 p
  ·exact h2 i' j' hm p
theorem dg.close{s:State}{i j:Nat}{p:List Nat}:¬dg (s.close [(i,j)]) (.c i j p):=λh=>(dg.lA h).2 i j (by simp) p rfl
def aw.turn(X:aw)(i j:Nat)(q:List Nat->Place):aw:=
 {X with ow:=λg=>match X.ow g with
  | .row (.c i' j' p) n=>if i'=i/\j'=j then .row (q p) n else .row (.c i' j' p) n
  |w=>w}
theorem UX{s:State}{X:aw}{i j:Nat}{q:List Nat->Place}(h:∀p,¬dg s (.c i j p)):eI s X (X.turn i j q):=by
 refine⟨rfl,rfl,λg=> ?_⟩;simp only[aw.turn];cases hg:X.ow g with
 |row pl n=>
  cases pl with
  |c i' j' p=>
   by_cases e:i'=i/\j'=j
   ·obtain⟨rfl,rfl⟩:=e;exact .inr ⟨_,n,q p,rfl,h p,by simp⟩
   ·exact .inl (by simp [e])
  |_=>exact .inl rfl
 |_=>exact .inl rfl
theorem bB.m7{X:aw}{i j:Nat}{q:List Nat->Place}{p:List Nat}{e:TypeId}{k n:Nat}{v:Value}(h:bB X (.c i j p) e k n v):bB (X.turn i j q) (q p) e k n v:=by
 rcases h with h|⟨g,cap,cur,h1,h2,h3,h4,h5,h6⟩
 ·exact .inl h
 ·exact .inr ⟨g,cap,cur,h1,h2,h3,h4,h5,by simp [aw.turn,h6]⟩
theorem bp.m7{X:aw}{i j:Nat}{q:List Nat->Place}{t:Ty}{x:El t}{cs:List Value}{own:List (List Nat)}(h:bp X (.c i j) t x cs own):bp (X.turn i j q) q t x cs own:=λp hp=>by obtain⟨e,t',xs,v,g0,g1,g2,g3⟩:=h p hp;exact⟨e,t',xs,v,g0,g1,g2,g3.m7⟩
def mO(X Y:aw):Prop:=Y.w=X.w/\∀g pl n,X.ow g= .row pl n->(∀i j p,pl≠ .c i j p)->Y.ow g= .row pl n
theorem ajg{X:aw}{i j:Nat}{q:List Nat->Place}:mO X (X.turn i j q):=⟨rfl,λg pl n h hp=>by
 simp only[aw.turn,h];cases pl with
 |c i' j' p=>exact absurd rfl (hp i' j' p)
 |_=>rfl⟩
theorem mO.refl(X:aw):mO X X:=⟨rfl,λ_ _ _ h _=>h⟩
theorem bp.stay{X Y:aw}(h:mO X Y){pl:List Nat->Place}(hp:∀r i j p,pl r≠ .c i j p){t:Ty}{x:El t}{cs:List Value}{own:List (List Nat)}(ho:bp X pl t x cs own):bp Y pl t x cs own:=λp hm=>by
 obtain⟨e,t',xs,v,g0,g1,g2,g3⟩:=ho p hm;refine⟨e,t',xs,v,g0,g1,g2,?_⟩;rcases g3 with h0|⟨g,cap,cur,h1,h2,h3,h4,h5,h6⟩
 ·exact .inl h0
 ·exact .inr ⟨g,cap,cur,h1,by rw[h.1];exact h2,h3,h4,h5,h.2 g _ _ h6 (hp p)⟩
theorem Rel.take{X:aw}{s:State}{a:Act}(hr:Rel X s a){i j:Nat}{t:Ty}{x:El t}{w:List (List Nat)}{v:Value}(h:aC X (.c i j) (.aq t x w) v)(q:List Nat->Place):
 ∃Y,Y.w=X.w/\Ext X Y/\Rel Y (s.close [(i,j)]) a/\aC Y q (.aq t x w) v/\Y.β=X.β/\eI (s.close [(i,j)]) X Y/\mO X Y:=by
 obtain⟨cs,h1,h2,h3⟩:=h;have hT:eI (s.close [(i,j)]) X (X.turn i j q):=UX λp=>dg.close;exact⟨X.turn i j q,rfl,hT.ext,(hr.close _).mod hT.mod,⟨cs,h1.aj (λ_ _=>hT.aB.1),h2,h3.m7⟩,rfl,hT,ajg⟩
def aw.eA(X:aw)(i d:Nat):aw:=
 {X with ow:=λg=>match X.ow g with
  | .row (.c i' j' p) n=>if i'=i then .row (.c d j' p) n else .row (.c i' j' p) n
  |w=>w}
theorem UW(t:Nat):∀(n j:Nat),j<n->(t,j)∈lE t n
 |0,j,h=>absurd h (Nat.not_lt_zero j)
 |n+1,j,h=>by
  rcases Nat.lt_or_ge j n with h1|h1
  ·exact List.mem_cons_of_mem _ (UW t n j h1)
  ·have:j=n:=by omega
   subst this;simp [lE]
theorem dg.closeAll{s:State}{t j:Nat}{p:List Nat}:¬dg (s.close (lE t (s.slot t).length)) (.c t j p):=λh=>by
 obtain⟨h1,h2⟩:=dg.lA h;obtain⟨l,ty,x,own,g1,g2,g3⟩:=h1;have hl:s.slot t=l:=by simp [State.slot,g1]
 have hj:j<l.length:=(AS.1 g2).1;exact h2 t j (UW t _ j (by rw[hl];exact hj)) p rfl
theorem adM{s:State}{X:aw}{i d:Nat}(h:∀j p,¬dg s (.c i j p)):eI s X (X.eA i d):=by
 refine⟨rfl,rfl,λg=> ?_⟩;simp only[aw.eA];cases hg:X.ow g with
 |row pl n=>
  cases pl with
  |c i' j' p=>
   by_cases e:i'=i
   ·subst e;exact .inr ⟨_,n,.c d j' p,rfl,h j' p,by simp⟩
   ·exact .inl (by simp [e])
  |_=>exact .inl rfl
 |_=>exact .inl rfl
theorem bB.jH{X:aw}{i d j:Nat}{p:List Nat}{e:TypeId}{k n:Nat}{v:Value}(h:bB X (.c i j p) e k n v):bB (X.eA i d) (.c d j p) e k n v:=by
 rcases h with h|⟨g,cap,cur,h1,h2,h3,h4,h5,h6⟩
 ·exact .inl h
 ·exact .inr ⟨g,cap,cur,h1,h2,h3,h4,h5,by simp [aw.eA,h6]⟩
theorem aC.jH{s:State}{X:aw}{i d j:Nat}{sv:SV}{v:Value}(hT:eI s X (X.eA i d))(h:aC X (.c i j) sv v):aC (X.eA i d) (.c d j) sv v:=by
 cases sv with
 |aq t x own=>obtain⟨cs,h1,h2,h3⟩:=h;refine⟨cs,h1.aj (λ_ _=>hT.aB.1),h2,λp hp=> ?_⟩;obtain⟨e,t',xs,v,g0,g1,g2,g3⟩:=h3 p hp;exact⟨e,t',xs,v,g0,g1,g2,g3.jH⟩
 |view t x=>obtain⟨ad,cs,h1,h2,h3,h4⟩:=h;exact⟨ad,cs,h1,h2,h3.aj (λ_ _=>hT.aB.1),λi u hi=>hT.aB.1 (h4 i u hi)⟩
 |cap f t x u y=>exact uf (λ_ _=>hT.aB.1) h
 |bF id a b k=>obtain⟨r,h1,h2,h3⟩:=h;exact⟨r,h1,by simp [aw.eA,h2],h3⟩
 |_=>exact h
theorem Rel.A4{X:aw}{s:State}{a:Act}(hr:Rel X s a){t:Nat}{v:Value}(h:cW X (.c t) (s.slot t) v)(d:Nat):
 ∃Y,Y.w=X.w/\Ext X Y/\Rel Y (s.close (lE t (s.slot t).length)) a/\cW Y (.c d) (s.slot t) v:=by
 have hT:eI (s.close (lE t (s.slot t).length)) X (X.eA t d):=adM λj p=>dg.closeAll;exact⟨X.eA t d,rfl,hT.ext,(hr.close _).mod hT.mod,h.jD λj sv u hj hu=>hu.jH hT⟩
def zr:Ty->List Value
 | .bool=>[.bool false]
 | .int k=>[.int k 0]
 | .str=>[.string ⟨#[]⟩]
 | .sl _ _=>[.slice none 0 0]
 | .arr n t=>(so n (zr t)).flatten
 | .unit=>[]
 | .pair a b=>zr a++zr b
 | .aY _ _ _=>[]
def j9(E:Env):List Field->Ty->Nat->Prop
 | [],.unit,_=>True
 |f::r,.pair a b,off=>f.offset=off/\E.ty f.type=some a/\f.name≠ "_" /\j9 E r b (off+a.cells)
 |_,_,_=>False
def YB(P:Program)(E:Env)(T:TypeId):Ty->Prop
 | .bool=>P.underlying T=some .bool
 | .int k=>P.underlying T=some (.int k)
 | .str=>P.underlying T=some .string
 | .sl e t=>P.underlying T=some (.slice e)/\E.ty e=some t
 | .arr n t=>∃e,P.underlying T=some (.array n e)/\E.ty e=some t/\P.eqGuardType P.depth T=false
 | .aY _ _ _=>False
 |t=>∃fs,P.underlying T=some (.struct fs)/\j9 E fs.toList t 0/\P.stoodInHeld T=false/\P.eqGuardType P.depth T=false
structure mQ(P:Program)(E:Env)(T:TypeId)(t:Ty):Prop where
 info:∃i,P.info? T=some i/\i.size=t.cells/\i.bytes=E.bytes T/\i.zero=some (er t (zr t))
 dJ:YB P E T t
structure ak(P:Program)(E:Env):Prop where
 ty:∀T t,E.ty T=some t->mQ P E T t
 pt:∀T,E.pt T=true->∃e,P.underlying T=some (.pointer e)
 p1:∀T,E.pt T=true->∃i,P.info? T=some i/\i.size=1
 mp:∀T k e,E.mp T=some (k,e)->P.underlying T=some (.map k e)
 bl:∀T e,E.bl T=some e->∃i,P.info? T=some i/\i.zero=some (.agg #[.pointer none,.slice none 0 0])
 gr:∀T a b,E.gr T=some (a,b)->∃fs,P.underlying T=some (.struct fs)/\∀j,j<=2->∃f i,fs[j]? =some f/\f.offset=nN a [j]/\P.info? f.type=some i/\i.size≠0
 gz:∀T a b,E.gr T=some (a,b)->∃i,P.info? T=some i/\i.zero=some (.agg (zr a++ [Value.pointer none,Value.pointer none,Value.int .i64 0]).toArray)
 g3:∀T a b,E.gr T=some (a,b)->∃fs f,P.underlying T=some (.struct fs)/\fs[0]? =some f/\f.offset=0/\E.ty f.type=some a/\∀f∈fs.toList,∃i,P.info? f.type=some i
 ga:∀T,E.ga T=true->∃e i,P.underlying T=some (.array 2 e)/\P.info? e=some i/\i.size=1
theorem ak.jF{P:Program}{E:Env}(hE:ak P E){T:TypeId}{t:Ty}(h:E.ty T=some t):t.bO=false:=by have:=(hE.ty T t h).dJ;cases t<;>first|rfl|exact this.elim
theorem xD:∀t:Ty,(zr t).length=t.cells
 | .bool=>rfl
 | .int _=>rfl
 | .str=>rfl
 | .sl _ _=>rfl
 | .unit=>rfl
 | .arr n t=>by simp [zr,Ty.cells,xD t]
 | .pair a b=>by simp [zr,Ty.cells,xD a,xD b]
 | .aY _ _ _=>rfl
theorem zbf{l:List Value}{k:Nat}(hl:l.length=k):∀(n j:Nat),j<n->(((so n l).flatten).drop (j*k)).take k=l
 |0,j,h=>by omega
 |n+1,0,_=>by simp only[zdI,List.flatten_cons,Nat.zero_mul,GS];rw[<-hl];exact zcF
 |n+1,j+1,h=>by simp only[zdI,List.flatten_cons];rw[zaz,za5,Nat.add_comm,<-zbs];rw[show List.drop k (l++(so n l).flatten)=(so n l).flatten by rw[<-hl];exact zbU];exact zbf hl n j (by omega)
theorem uL(X:aw):∀t:Ty,bm X t (El.b9 t) (zr t)
 | .bool=>rfl
 | .int _=>rfl
 | .str=>rfl
 | .unit=>rfl
 | .sl _ t=>⟨none,0,rfl,zag _,λj x h=>by simp [El.b9] at h⟩
 | .arr n t=>by
   refine⟨by simp [El.b9],by simp [zr,xD],λj x h=> ?_⟩;have hj:j<n:=by have:=(AS.1 h).1;simpa [El.b9] using this
   have hx:x=El.b9 t:=by simp only[El.b9,List.getElem?_replicate] at h;rw[if_pos hj] at h;exact(Option.some.inj h).symm
   subst hx;have:=zbf (xD t) n j hj;simp only[zr];rw[this];exact uL X t
 | .pair a b=>⟨zr a,zr b,rfl,uL X a,uL X b⟩
 | .aY _ _ _=>rfl
theorem zfe{t:Ty}{c:Value}(h:t.agg=false):er t [c]=c:=by simp [er,h]
theorem kz{t:Ty}{cs:List Value}(h:t.agg=true):er t cs= .agg cs.toArray:=by simp [er,h]
theorem yf{t:Ty}{X:aw}{x:El t}{cs:List Value}(h:bm X t x cs):(er t cs).cells=cs.toArray:=by
 cases ht:t.agg with
 |true=>rw[kz ht];rfl
 |false=>
  have hl:=h.len;have h1:=h.one;have hc:t.cells=1:=by cases t<;>simp_all [Ty.agg,Ty.cells]
  rw[hc] at hl
  match cs,hl with
  | [c],_=>rw[zfe ht];have:=h1 c (by simp);cases c<;>simp_all [Value.oneCell',Value.cells]
theorem hN{R:Type}{s:SV}{u:Ty}{K:El u->Option R}{z:R}(h:s.el u K=some z):
 ∃y,K y=some z/\∀(X:aw) pl v,aC X pl s v->∃cs,bm X u y cs/\v=er u cs:=by
 cases s with
 |aq t x own=>
  simp only[SV.el] at h;split at h
  ·rename_i he;have e:=Ty.aK he;subst e;exact⟨x,h,λX pl v hv=>by obtain⟨cs,h1,h2,_⟩:=hv;exact⟨cs,h1,h2⟩⟩
  ·cases h
 |cR=>
  cases u<;>simp only[SV.el] at h<;>first|cases h|skip
  rename_i e t;refine⟨[],h,λX pl v hv=>⟨[.slice none 0 0],⟨none,0,rfl,zag _,λj x hj=>by simp at hj⟩,hv⟩⟩
 |_=>simp [SV.el] at h
theorem mG{X:aw}{k:IntKind}{n:Int}{cs:List Value}(h:bm X (.int k) n cs):er (.int k) cs= .int k n:=by cases h;rfl
theorem yi{X:aw}{b:Bool}{cs:List Value}(h:bm X .bool b cs):er .bool cs= .bool b:=by cases h;rfl
theorem oJ{X:aw}{s:ByteArray}{cs:List Value}(h:bm X .str s cs):er .str cs= .string s:=by cases h;rfl
theorem nm{X:aw}{pl:List Nat->Place}{t:Ty}{x:El t}{cs:List Value}:bp X pl t x cs []:=λp hp=>by cases hp
theorem j8{X:aw}{pl:List Nat->Place}{k:IntKind}{n:Int}:aC X pl (.aq (.int k) n []) (.int k n):=⟨[.int k n],rfl,rfl,nm⟩
theorem oI{X:aw}{pl:List Nat->Place}{b:Bool}:aC X pl (.aq .bool b []) (.bool b):=⟨[.bool b],rfl,rfl,nm⟩
theorem Fu{X:aw}{pl:List Nat->Place}{s:ByteArray}:aC X pl (.aq .str s []) (.string s):=⟨[.string s],rfl,rfl,nm⟩
theorem Fj{X:aw}{pl:List Nat->Place}{k:IntKind}{n:Int}{o:List (List Nat)}{v:Value}(h:aC X pl (.aq (.int k) n o) v):v= .int k n:=by obtain⟨cs,h1,h2,_⟩:=h;rw[h2,mG h1]
theorem YX{X:aw}{pl:List Nat->Place}{b:Bool}{o:List (List Nat)}{v:Value}(h:aC X pl (.aq .bool b o) v):v= .bool b:=by obtain⟨cs,h1,h2,_⟩:=h;rw[h2,yi h1]
theorem zmb{X:aw}{pl:List Nat->Place}{s:ByteArray}{o:List (List Nat)}{v:Value}(h:aC X pl (.aq .str s o) v):v= .string s:=by obtain⟨cs,h1,h2,_⟩:=h;rw[h2,oJ h1]
def AV:Operand->List Nat->Place
 | .tmp t=> .c t 0
 |_=> .r 0
theorem ad4(X:aw)(pl:List Nat->Place)(v:Value):aC X pl (FA v) v:=by
 unfold FA;split
 ·exact oI
 ·exact j8
 ·exact Fu
 ·rfl
 ·rfl
 ·trivial
theorem Rel.slot{X:aw}{s:State}{a:Act}(hr:Rel X s a)(t:Nat):cW X (.c t) (s.slot t) (a.tmps.getD t zaj):=by
 by_cases h:t<s.sl.length
 ·refine hr.bZ t _ _ (sP h) ?_;have:=hr.size;simp [XN (show t<a.tmps.size by omega)]
 ·have:s.slot t=[.undef]:=by simp [State.slot,IT (show s.sl.length<=t by omega)]
  rw[this];trivial
theorem Rel.aI{X:aw}{s:State}{a:Act}(hr:Rel X s a)(x:Operand):aC X (AV x) (s.aI x) (a.eval x):=by
 cases x with
 |tmp t=>
  have h:=hr.slot t;unfold State.aI State.AN;simp only[AV,Act.eval]
  match hl:s.slot t with
  | []=>trivial
  | [sv]=>rw[hl] at h;exact h
  |_::_::_=>trivial
 |const v=>exact ad4 X _ v
 |_=>trivial
theorem uO{X:aw}{s:State}{a:Act}(hr:Rel X s a){x:Operand}{id:Nat}{t:Ty}{p:List Nat}(h:s.aI x= .ptr id t p):∃B,s.bs[id]? =some (some B):=by
 cases x with
 |tmp i=>
  unfold State.aI State.AN at h;simp only at h;by_cases hi:i<s.sl.length
  ·refine hr.live i _ id t p (sP hi) ?_
   match hl:s.slot i,h with
   | [sv],h=>have:sv= .ptr id t p:=h;simp [this]
   | [],h=>simp [one] at h
   |_::_::_,h=>simp [one] at h
  ·have:s.slot i=[.undef]:=by simp [State.slot,IT (zbN hi)]
   rw[this] at h;simp [one] at h
 |const v=>unfold State.aI State.AN FA at h;simp only[one] at h;split at h<;>simp at h
 |_=>simp [State.aI,State.AN,one] at h
theorem Rel.fin{Y:aw}{s:State}{a:Act}(hr:Rel Y s a){dst:Option Nat}{l:List SV}{v:Value}(h:cW Y (.c (dst.getD 0)) l v)(hl:∀id t p,SV.ptr id t p∈l->∃B,s.bs[id]? =some (some B))(hn:l.any SV.bW=false:=by rfl):Rel Y (s.au dst l) (a.put dst v):=
 hr.put (λd' e=>by subst e;exact h) hl hn
def aJ(P:Program)(X:aw)(s:State)(a:Act)(o:Oper)(u:Out):Prop:=
 ∃Y v,((execOp a.eval o).run P X.w= .ok (.value v) Y.w\/((execOp a.eval o).run P X.w= .ok .skip Y.w/\v=zaj))/\Ext X Y/\Rel Y (s.apply o.dst u) (a.put o.dst v)
theorem aJ.plain{P:Program}{X:aw}{s:State}{a:Act}{o:Oper}(hr:Rel X s a){sv:SV}{v:Value}
 (h:(execOp a.eval o).run P X.w= .ok (.value v) X.w) (hv:aC X (.c (o.dst.getD 0) 0) sv v) (hl:∀id t p,sv= .ptr id t p->∃B,s.bs[id]? =some (some B)) (hn:sv.bW=false:=by rfl):aJ P X s a o {v:=[sv]}:=
 ⟨X,v,.inl h,Ext.refl X,hr.fin hv (λid t p hm=>hl id t p (by have h':=hm;simp at h';exact h'.symm)) (by simp [hn])⟩
theorem aJ.E1{P:Program}{X:aw}{s:State}{a:Act}{o:Oper}(hr:Rel X s a){i j:Nat}{t:Ty}{x:El t}{w:List (List Nat)}{v:Value}
 (h:(execOp a.eval o).run P X.w= .ok (.value v) X.w) (hv:aC X (.c i j) (.aq t x w) v):aJ P X s a o {v:=[.aq t x w],cl:=[(i,j)]}:=by
 obtain⟨Y,h1,h2,h3,h4,_,_,_⟩:=hr.take hv (.c (o.dst.getD 0) 0);refine⟨Y,v,.inl (by rw[h1];exact h),h2,?_⟩;exact h3.fin h4 (λid t p hm=>by simp at hm)
variable {P:Program} {E:Env} {X:aw} {s:State} {a:Act} {o:Oper} {u:Out}
def Plain:SV->Prop
 | .aq _ _ (_::_)=>False
 | .bF _ _ _ _=>False
 |_=>True
theorem Plain.pS{sv:SV}(h:Plain sv):sv.bW=false:=by cases sv<;>first|rfl|exact h.elim
theorem zwk(sv:SV):sv.shut.bW=false:=by cases sv<;>rfl
theorem zmf(l:List SV):(l.map SV.shut).any SV.bW=false:=za9.2 λv hv=>by obtain⟨w,_,rfl⟩:=zau.1 hv;simp [zwk]
theorem apU{sv:SV}{v:Value}(h:∀X pl,aC X pl sv v):sv.bW=false:=by
 cases sv with
 |bF id a b j=>obtain⟨r,h1,_⟩:=h ⟨default,λ_=> .all,λ_=>none⟩ (λ_=> .r 0 []);cases h1
 |_=>rfl
theorem zmp(hr:Rel X s a){t:Nat}(hb:xz (s.slot t).length 1=false):(s.slot t).any SV.bW=false:=za9.2 λv hv=>by
 cases v with
 |bF id c b j=>
  exfalso;by_cases ap:t<s.sl.length
  ·obtain⟨e,_⟩:=hr.bF t _ id c b j (sP ap) hv;rw[e] at hb;simp at hb
  ·have:s.slot t=[.undef]:=by simp [State.slot,IT (zbN ap)]
   rw[this] at hv;simp at hv
 |_=>simp [SV.bW]
theorem aC.place{pl gU:List Nat->Place}{sv:SV}{v:Value}(h:aC X pl sv v)(hp:Plain sv):aC X gU sv v:=by
 cases sv with
 |aq t x w=>
  cases w with
  |nil=>obtain⟨cs,h1,h2,_⟩:=h;exact⟨cs,h1,h2,nm⟩
  |cons p w=>exact hp.elim
 |_=>exact h
theorem aC.bare{pl gU:List Nat->Place}{t:Ty}{x:El t}{w:List (List Nat)}{v:Value}(h:aC X pl (.aq t x w) v):aC X gU (.aq t x []) v:=by obtain⟨cs,h1,h2,_⟩:=h;exact⟨cs,h1,h2,nm⟩
theorem zlg{v:Value}{t:Ty}{y:El t}{w:List (List Nat)}(h:FA v= .aq t y w):w=[]:=by
 unfold FA at h;split at h<;>simp at h
 ·obtain⟨rfl,_,rfl⟩:=h;rfl
 ·obtain⟨rfl,_,rfl⟩:=h;rfl
 ·obtain⟨rfl,_,rfl⟩:=h;rfl
theorem apQ{x:Operand}{t:Ty}{y:El t}{w:List (List Nat)}(h:s.aI x= .aq t y w)(hw:w≠ []):∃i,x= .tmp i:=by
 cases x with
 |tmp i=>exact⟨i,rfl⟩
 |const v=>exact absurd (zlg h) hw
 |_=>simp [State.aI,State.AN,one] at h
theorem UG(hr:Rel X s a){x:Operand}(h:(execOp a.eval o).run P X.w= .ok (.value (a.eval x)) X.w)(hp:Plain (s.aI x)):aJ P X s a o {v:=[s.aI x]}:=
 aJ.plain hr h ((hr.aI x).place hp) (λid t p e=>uO hr e) hp.pS
theorem TU(hr:Rel X s a){x:Operand}{t:Ty}{y:El t}{w:List (List Nat)}(aZ:(execOp a.eval o).run P X.w= .ok (.value (a.eval x)) X.w)(e:s.aI x= .aq t y w):aJ P X s a o {v:=[.aq t y w],cl:=CC w x}:=by
 have cN:=hr.aI x;rw[e] at cN;cases hw:w with
 |nil=>subst hw;exact aJ.plain hr aZ cN.bare (λ_ _ _ h=>by cases h)
 |cons p w'=>
 rw[<-hw];have fM:CC w x=src x:=by rw[hw];rfl
 rw[fM];clear hw;cases x with
 |tmp i=>exact aJ.E1 hr aZ cN
 |const v=>have hw:=zlg (show FA v= .aq t y w from e);subst hw;exact aJ.plain hr aZ cN.bare (λ_ _ _ h=>by cases h)
 |_=>simp [State.aI,State.AN,one] at e
theorem V3(hr:Rel X s a){T:TypeId}{v:Value}{pl:List Nat->Place}(aZ:(execOp a.eval o).run P X.w= .ok (.value v) X.w)(hv:aC X pl .cR v)(h:pR E T some=some u):aJ P X s a o u:=by
 unfold pR at h;split at h
 ·cases h;refine aJ.plain hr aZ ⟨[.slice none 0 0],⟨none,0,rfl,zag _,λj x hj=>by simp at hj⟩,hv,λp hp=> ?_⟩ (λ_ _ _ e=>by cases e);rename_i e t _;have hp:p=[]:=by simpa using hp
  subst hp;exact⟨e,t,[],_,by simp [Ty.fe],rfl,rfl,.inl ⟨rfl,rfl⟩⟩
 ·cases h;exact aJ.plain hr aZ hv (λ_ _ _ e=>by cases e)
theorem aC.gh{pl gU:List Nat->Place}{sv:SV}{v:Value}(hr:aC X pl sv v):aC X gU sv.shut v:=by
 cases sv with
 |aq t x own=>obtain⟨cs,h1,h2,_⟩:=hr;exact⟨cs,h1,h2,nm⟩
 |bF id a b j=>trivial
 |_=>exact hr
theorem cW.gh{pl gU:Nat->List Nat->Place}{l:List SV}{v:Value}(hr:cW X pl l v):cW X gU (l.map SV.shut) v:=by
 match l,hr with
 | [s],hr=>exact aC.gh hr
 | [],⟨vs,h1,h2,h3⟩=>exact⟨vs,h1,h2,λj s u hs=>by simp at hs⟩
 |x::y::r,⟨vs,h1,h2,h3⟩=>refine⟨vs,h1,by simpa using h2,λj s u hs hu=> ?_⟩;have hs:((x::y::r).map SV.shut)[j]? =some s:=hs;rw[IN] at hs;obtain⟨s0,fF,rfl⟩:=nl.1 hs;exact aC.gh (h3 j s0 u fF hu)
theorem aib(hr:Rel X s a){ops:List Oper}{x:Operand}(ho:o.op= .move x){C:FuncId->cc Out}(h:act E C ops o s some=some u):aJ P X s a o u:=by
 have aZ:(execOp a.eval o).run P X.w= .ok (.value (a.eval x)) X.w:=by simp [execOp,ho]
 unfold act at h;simp only[ho] at h;have cN:=hr.aI x;cases ht:om s x with
 |some tl=>
  obtain⟨t,l⟩:=tl;rw[ht] at h;cases x with
  |tmp i=>
   change(bif xz (s.slot i).length 1 then none else some (i,s.slot i))=some (t,l) at ht;cases hb:xz (s.slot i).length 1 with
   |true=>rw[hb] at ht;cases ht
   |false=>
    rw[hb] at ht;cases ht;have Rt:∀id ty p,SV.ptr id ty p∈s.slot t->∃B,s.bs[id]? =some (some B):=λid ty p hm=>by
     by_cases ap:t<s.sl.length
     ·exact hr.live t _ id _ p (sP ap) hm
     ·have:s.slot t=[.undef]:=by simp [State.slot,IT (zbN ap)]
      rw[this] at hm;simp at hm
    cases tM:Go.Ref.gh E o.dst with
    |true=>rw[tM] at h;cases h;refine⟨X,_,.inl aZ,Ext.refl X,?_⟩;refine Rel.fin hr (cW.gh (hr.slot t)) (λid ty p hm=> ?_) (zmf _);obtain⟨s0,fF,he⟩:=zau.1 hm;rw[zgj he] at fF;exact Rt id ty p fF
    |false=>
    rw[tM] at h;cases h;cases b7:(s.slot t).all λv=>v.own.isEmpty with
    |true=>
     refine⟨X,_,.inl aZ,Ext.refl X,?_⟩;refine Rel.fin hr ((hr.slot t).jD λj sv u hj hu=> ?_) (λid ty p hm=> ?_) (zmp hr hb)
     ·have:=OF.1 b7 sv (IH hj);refine hu.place ?_;cases sv with
      |aq ty y w=>
       cases w with
       |nil=>trivial
       |cons p w=>simp [SV.own] at this
      |bF id a b j=>exact(Ce (zmp hr hb) (IH hj)).elim
      |_=>trivial
     ·by_cases ap:t<s.sl.length
      ·exact hr.live t _ id _ p (sP ap) hm
      ·have:s.slot t=[.undef]:=by simp [State.slot,IT (zbN ap)]
       rw[this] at hm;simp at hm
    |false=>
    obtain⟨Y,h1,h2,h3,h4⟩:=hr.A4 (hr.slot t) (o.dst.getD 0);refine⟨Y,_,.inl (by rw[h1];exact aZ),h2,?_⟩;refine h3.fin h4 (λid ty p hm=> ?_) (zmp hr hb);by_cases ap:t<s.sl.length
    ·obtain⟨B,hB⟩:=hr.live t _ id _ p (sP ap) hm;exact⟨B,by rw[Cn];exact hB⟩
    ·have:s.slot t=[.undef]:=by simp [State.slot,IT (zbN ap)]
     rw[this] at hm;simp at hm
  |_=>cases ht
 |none=>
 rw[ht] at h;simp only at h;split at h
 ·rename_i t y w e;rw[e] at cN;cases hb:(Cc ops o.dst||takes E o.dst) with
  |true=>rw[hb] at h;cases h;exact TU hr aZ e
  |false=>rw[hb] at h;cases h;exact aJ.plain hr aZ cN.bare (λ_ _ _ h=>by cases h)
 ·cases h
 ·cases h
 ·rename_i e;rw[e] at cN;exact V3 hr aZ cN h
 ·rename_i h1 h2 h3 h4;cases h;refine UG hr aZ ?_;cases hx:s.aI x with
  |aq t y w=>exact absurd hx (h1 t y w)
  |bF id c b j=>first|exact absurd hx (h2 id c b j)|exact absurd hx (h3 id c b j)
  |_=>trivial
theorem ad8(hr:Rel X s a){ops:List Oper}{x:Operand}(ho:o.op= .assign x){C:FuncId->cc Out}(h:act E C ops o s some=some u):aJ P X s a o u:=by
 have aZ:(execOp a.eval o).run P X.w= .ok (.value (a.eval x)) X.w:=by simp [execOp,ho]
 unfold act at h;simp only[ho] at h;have cN:=hr.aI x;split at h
 ·rename_i t y w e;rw[e] at cN;cases h;exact TU hr aZ e
 ·cases h
 ·cases h
 ·rename_i e;rw[e] at cN;exact V3 hr aZ cN h
 ·rename_i h1 h2 h3 h4;cases h;refine UG hr aZ ?_;cases hx:s.aI x with
  |aq t y w=>exact absurd hx (h1 t y w)
  |bF id c b j=>first|exact absurd hx (h2 id c b j)|exact absurd hx (h3 id c b j)
  |_=>trivial
theorem aid(hr:Rel X s a){ops:List Oper}{c x y:Operand}(ho:o.op= .pick c x y){C:FuncId->cc Out}(h:act E C ops o s some=some u):aJ P X s a o u:=by
 unfold act at h;simp only[ho] at h;have hc:=hr.aI c;split at h
 ·rename_i p w e;rw[e] at hc;have hv:=YX hc;have key:∀z,aJ P X s a o {v:=[(s.aI z).shut]}\/(execOp a.eval o).run P X.w≠ .ok (.value (a.eval z)) X.w:=by
   intro z;by_cases hz:(execOp a.eval o).run P X.w= .ok (.value (a.eval z)) X.w
   ·refine .inl (aJ.plain hr hz (hr.aI z).shut (λid t p e=> ?_) (zwk _));exact uO hr (zgj e)
   ·exact .inr hz
  cases p with
  |true=>cases h;exact(key x).resolve_right (by simp [execOp,ho,hv,asBool])
  |false=>cases h;exact(key y).resolve_right (by simp [execOp,ho,hv,asBool])
 ·cases h
theorem z4r(op:BinOp)(T:TypeId)(x y:Operand)(k k':IntKind)(m n:Int)(w:World):(eqGuard op T x y (.int k m) (.int k' n)).run P w= .ok () w:=by cases op<;>simp [eqGuard]
theorem zc8(op:BinOp)(T:TypeId)(x y:Operand)(m n:ByteArray)(w:World):(eqGuard op T x y (.string m) (.string n)).run P w= .ok () w:=by cases op<;>simp [eqGuard]
theorem zwj(op:BinOp)(T:TypeId)(x y:Operand)(m n:Bool)(w:World):(eqGuard op T x y (.bool m) (.bool n)).run P w= .ok () w:=by cases op<;>simp [eqGuard]
theorem zvz{op:BinOp}{T:TypeId}{k k':IntKind}{m n:Int}{l:List SV}(w:World)(h:tA op k m k' n some=some l):
 ∃sv v,l=[sv]/\(za2 op T (.int k m) (.int k' n)).run P w= .ok v w/\Plain sv/\(∀X pl,aC X pl sv v)/\∀id t p,sv≠ .ptr id t p:=by
 have done:∀{sv:SV} {v:Value},l=[sv]->(za2 op T (.int k m) (.int k' n)).run P w= .ok v w->Plain sv->(∀X pl,aC X pl sv v)->(∀id t p,sv≠ .ptr id t p)->∃sv v,l=[sv]/\(za2 op T (.int k m) (.int k' n)).run P w= .ok v w/\Plain sv/\(∀X pl,aC X pl sv v)/\∀id t p,sv≠ .ptr id t p:=λh1 h2 h3 h4 h5=>⟨_,_,h1,h2,h3,h4,h5⟩
 have pi:∀{k:IntKind} {n:Int},Plain (.aq (.int k) n []):=trivial;have pb:∀{b:Bool},Plain (.aq .bool b []):=trivial;unfold tA at h;cases op
 case shl=>
  simp only at h;cases hd:decide (n<0) with
  |true=>rw[hd] at h;cases h
  |false=>rw[hd] at h;cases h;have:¬n<0:=of_decide_eq_false hd;exact done rfl (by simp [za2,Op.shift,this]) pi (λ_ _=>j8) (by simp)
 case shr=>
  simp only at h;cases hd:decide (n<0) with
  |true=>rw[hd] at h;cases h
  |false=>rw[hd] at h;cases h;have:¬n<0:=of_decide_eq_false hd;exact done rfl (by simp [za2,Op.shift,this]) pi (λ_ _=>j8) (by simp)
 all_goals
  simp only at h;split at h
  case isFalse=>cases h
  rename_i hk;subst hk
 case quo=>
  cases hd:decide (n=0) with
  |true=>rw[hd] at h;cases h
  |false=>rw[hd] at h;cases h;have:¬n=0:=of_decide_eq_false hd;exact done rfl (by simp [za2,Op.intDiv,this]) pi (λ_ _=>j8) (by simp)
 case rem=>
  cases hd:decide (n=0) with
  |true=>rw[hd] at h;cases h
  |false=>rw[hd] at h;cases h;have:¬n=0:=of_decide_eq_false hd;exact done rfl (by simp [za2,Op.intDiv,this]) pi (λ_ _=>j8) (by simp)
 case add=>cases h;exact done rfl (by simp [za2,zgK]) pi (λ_ _=>j8) (by simp)
 case sub=>cases h;exact done rfl (by simp [za2,zgK]) pi (λ_ _=>j8) (by simp)
 case mul=>cases h;exact done rfl (by simp [za2,zgK]) pi (λ_ _=>j8) (by simp)
 case and=>cases h;exact done rfl (by simp only[za2,ne_eq,not_true_eq_false,if_false];rfl) pi (λ_ _=>j8) (by simp)
 case or=>cases h;exact done rfl (by simp only[za2,ne_eq,not_true_eq_false,if_false];rfl) pi (λ_ _=>j8) (by simp)
 case xor=>cases h;exact done rfl (by simp only[za2,ne_eq,not_true_eq_false,if_false];rfl) pi (λ_ _=>j8) (by simp)
 case andNot=>cases h;exact done rfl (by simp only[za2,ne_eq,not_true_eq_false,if_false];rfl) pi (λ_ _=>j8) (by simp)
 case eql=>cases h;exact done rfl (by simp only[za2,ne_eq,not_true_eq_false,if_false];rfl) pb (λ_ _=>oI) (by simp)
 case neq=>cases h;exact done rfl (by simp only[za2,ne_eq,not_true_eq_false,if_false];rfl) pb (λ_ _=>oI) (by simp)
 case lss=>cases h;exact done rfl (by simp only[za2,ne_eq,not_true_eq_false,if_false];rfl) pb (λ_ _=>oI) (by simp)
 case leq=>cases h;exact done rfl (by simp only[za2,ne_eq,not_true_eq_false,if_false];rfl) pb (λ_ _=>oI) (by simp)
 case gtr=>cases h;exact done rfl (by simp only[za2,ne_eq,not_true_eq_false,if_false];rfl) pb (λ_ _=>oI) (by simp)
 case geq=>cases h;exact done rfl (by simp only[za2,ne_eq,not_true_eq_false,if_false];rfl) pb (λ_ _=>oI) (by simp)
end Go.Ref

namespace Go.Ref
open Go
variable {P:Program} {E:Env} {X:aw} {s:State} {a:Act} {o:Oper} {u:Out}
theorem zsv(x y:ByteArray):(x.toList==y.toList)=decide (x=y):=by
 rw[zgL,zgL];by_cases h:x=y
 ·subst h;simp
 ·have:¬x.data.toList=y.data.toList:=λe=>h (by cases x;cases y;congr;exact Array.toList_inj.1 e)
  rw[beq_eq_false_iff_ne.2 this,decide_eq_false h]
theorem al9{op:BinOp}{T:TypeId}{m n:ByteArray}{l:List SV}(w:World)(h:tC op m n some=some l):
 ∃sv v,l=[sv]/\(za2 op T (.string m) (.string n)).run P w= .ok v w/\Plain sv/\(∀X pl,aC X pl sv v)/\∀id t p,sv≠ .ptr id t p:=by
 have pb:∀{b:Bool},Plain (.aq .bool b []):=trivial;unfold tC at h;cases op<;>simp only at h<;>first|(cases h;done)|skip
 case add=>
  cases hd:decide (m.size+n.size<=9223372036854775807) with
  |false=>rw[hd] at h;cases h
  |true=>
   rw[hd] at h;cases h;have h1:=of_decide_eq_true hd;have h2:¬((((m.size+n.size:Nat)):Int)>IntKind.i64.max):=by show¬((((m.size+n.size:Nat)):Int)>9223372036854775807);omega
   refine⟨_,_,rfl,?_,trivial,λ_ _=>Fu,by simp⟩;simp only[za2,zgM];rw[if_neg h2];rfl
 all_goals
  cases h;refine⟨_,_,rfl,?_,pb,λ_ _=>oI,by simp⟩;simp only[za2,zgM,zsv];rfl
theorem Uq(hE:ak P E){T:TypeId}{t:Ty}(ht:E.ty T=some t)(w:World):(isAgg T).run P w= .ok t.agg w:=by
 have hu:=(hE.ty T t ht).dJ;cases t
 case bool=>simp [isAgg,run_underlying hu,Ty.agg]
 case int=>simp [isAgg,run_underlying hu,Ty.agg]
 case str=>simp [isAgg,run_underlying hu,Ty.agg]
 case sl=>simp [isAgg,run_underlying hu.1,Ty.agg]
 case arr=>obtain⟨e,h1,_⟩:=hu;simp [isAgg,run_underlying h1,Ty.agg]
 case unit=>obtain⟨fs,h1,_⟩:=hu;simp [isAgg,run_underlying h1,Ty.agg]
 case pair=>obtain⟨fs,h1,_⟩:=hu;simp [isAgg,run_underlying h1,Ty.agg]
 case aY=>exact hu.elim
theorem mF(hE:ak P E){T:TypeId}{t:Ty}(ht:E.ty T=some t)(w:World):(sizeOf T).run P w= .ok t.cells w:=by obtain⟨i,h1,h2,_⟩:=(hE.ty T t ht).info;simp [sizeOf,typeInfo,h1,h2]
theorem Mb(hE:ak P E){T:TypeId}{t:Ty}(ht:E.ty T=some t){x:El t}{cs:List Value}(hr:bm X t x cs){all:Array Value}{off:Nat}(ha:(all.toList.drop off).take t.cells=cs)(w:World):
 (part T all off).run P w= .ok (er t cs) w:=by
 have hl:=hr.len;unfold part;simp only[BY,Uq hE ht,fv];cases hg:t.agg with
 |true=>simp only[if_true,BY,mF hE ht,fv,GP,kz hg];congr 2;apply Array.ext';rw[<-ha,Array.toList_extract,List.extract_eq_take_drop];simp
 |false=>
  simp only[zaW,if_false];have hc:t.cells=1:=by cases t<;>simp_all [Ty.agg,Ty.cells]
  rw[hc] at hl ha
  match cs,hl with
  | [c],_=>
    rw[zfe hg];have cM:all[off]? =some c:=by
     have h1:(all.toList.drop off)[0]? =some c:=by have:=congrArg (λl=>l[0]?) ha;simpa [zae] using this
     simpa using h1
    simp [cM]
def zlo(d:Nat)(xs ys:Array Value)(f:Field)(_:Option Bool×Unit):Sem (ForInStep (Option Bool×Unit)):=
 if f.name≠ "_" then do
  let __do_lift<-part f.type xs f.offset;let __do_lift_1<-part f.type ys f.offset;let __do_lift<-zbR d f.type __do_lift __do_lift_1
  if(!__do_lift)=true then pure (ForInStep.done (some false,()))
   else pure (zdO (none,()))
 else pure (zdO (none,()))
theorem SN(hE:ak P E){d:Nat}{xs ys:Array Value}(w:World)
 (ih:∀(t:Ty) (T:TypeId),E.ty T=some t->t.depth<=d->∀(x y:El t) (c1 c2:List Value) (r:Bool),bm X t x c1->bm X t y c2->dV t x y=some r->(zbR d T (er t c1) (er t c2)).run P w= .ok r w):
 ∀(fl:List Field) (t:Ty) (off:Nat),j9 E fl t off->t.depth<=d+1->∀(x y:El t) (c1 c2:List Value) (r:Bool),bm X t x c1->bm X t y c2->(xs.toList.drop off).take t.cells=c1->(ys.toList.drop off).take t.cells=c2->dV t x y=some r->
  (forIn fl (none,()) (zlo d xs ys)).run P w= .ok (if r=true then(none,()) else(some false,())) w:=by
 intro fl
 induction fl with
 |nil=>
  intro t off hf hd x y c1 c2 r h1 h2 h3 h4 he;cases t<;>simp only[j9] at hf<;>try exact hf.elim
  simp only[dV,AI] at he;subst he;simp [List.forIn_nil]
 |cons f fl ihl=>
  intro t off hf hd x y c1 c2 r h1 h2 h3 h4 he;cases t<;>simp only[j9] at hf<;>try exact hf.elim
  rename_i ta tb;obtain⟨ho,NA,hn,bN⟩:=hf;obtain⟨ca,cb,e1,ra,rb⟩:=h1;obtain⟨da,db,e2,sa,sb⟩:=h2;simp only[dV] at he;split at he
  case h_2=>cases he
  rename_i p q hp hq;cases he;simp only[Ty.depth] at hd;have la:=ra.len;have lb:=rb.len;have ma:=sa.len;have mb:=sb.len;have t1:(xs.toList.drop off).take ta.cells=ca:=by have:=congrArg (λl=>l.take ta.cells) (h3.trans e1);simp only[zcY,Ty.cells] at this;rw[zaQ (Nat.le_add_right _ _),<-la,zcF] at this;rw[<-la];exact this
  have t2:(ys.toList.drop off).take ta.cells=da:=by have:=congrArg (λl=>l.take ta.cells) (h4.trans e2);simp only[zcY,Ty.cells] at this;rw[zaQ (Nat.le_add_right _ _),<-ma,zcF] at this;rw[<-ma];exact this
  have u1:(xs.toList.drop (off+ta.cells)).take tb.cells=cb:=by have:=congrArg (λl=>l.drop ta.cells) (h3.trans e1);simp only[Ty.cells] at this;rw[zcZ,zaS,zbs,<-la,zbU] at this;rw[<-la];exact this
  have u2:(ys.toList.drop (off+ta.cells)).take tb.cells=db:=by have:=congrArg (λl=>l.drop ta.cells) (h4.trans e2);simp only[Ty.cells] at this;rw[zcZ,zaS,zbs,<-ma,zbU] at this;rw[<-ma];exact this
  have pN:=Mb hE NA ra (all:=xs) (off:=f.offset) (by rw[ho];exact t1) w;have GG:=Mb hE NA sa (all:=ys) (off:=f.offset) (by rw[ho];exact t2) w;have heq:=ih ta f.type NA (by omega) x.1 y.1 ca da p ra sa hp;have RQ:(zlo d xs ys f (none,())).run P w= .ok (if p=true then zdO (none,()) else ForInStep.done (some false,())) w:=by unfold zlo;rw[if_pos hn];simp only[BY,pN,GG,heq,fv];cases p<;>rfl
  rw[List.forIn_cons];simp only[BY,RQ,fv];cases p with
  |false=>rfl
  |true=>simp only[if_true,zbC];exact ihl tb (off+ta.cells) bN (by omega) x.2 y.2 cb db q rb sb u1 u2 hq
theorem aih(hE:ak P E)(w:World){d n:Nat}{k:IntKind}{T e:TypeId}(ht:P.underlying T=some (.array n e))(he:E.ty e=some (.int k)){x y:List Int}{c1 c2:List Value}(r1:bm X (.arr n (.int k)) x c1)(r2:bm X (.arr n (.int k)) y c2):
 (zbR (d+2) T (.agg c1.toArray) (.agg c2.toArray)).run P w= .ok (decide (x=y)) w:=by
 obtain⟨l1,m1,e1⟩:=r1;obtain⟨l2,m2,e2⟩:=r2;have l1:x.length=n:=l1;have l2:y.length=n:=l2;have key:decide (x=y)=(List.range n).all λi=>decide (x.getD i 0=y.getD i 0):=by
  by_cases EV:x=y
  ·rw[decide_eq_true EV];exact(OF.2 λi _=>by rw[EV];simp).symm
  ·rw[decide_eq_false EV];cases ha:(List.range n).all λi=>decide (x.getD i 0=y.getD i 0) with
   |false=>rfl
   |true=>refine absurd (List.ext_getElem (l1.trans l2.symm) λi h1 h2=> ?_) EV;have:=of_decide_eq_true (OF.1 ha i (List.mem_range.2 (by omega)));simpa [be,ks h1,ks h2] using this
 rw[key,List.range_eq_range',zbR];simp only[BY,run_underlying ht,fv,mF hE he,Std.Legacy.Range.forIn_eq_forIn_range',Std.Legacy.Range.size,Nat.sub_zero,Nat.add_sub_cancel,Nat.div_one];have hl:∀i∈List.range' 0 n 1,i<n:=λi hi=>by simpa using(List.mem_range'_1.1 hi).2
 generalize List.range' 0 n 1=l at hl⊢
 induction l with
 |nil=>simp
 |cons i l ih=>
  have hi:i<n:=hl i (by simp);have g1:x[i]? =some (x.getD i 0):=by rw[be,ks (by omega)];rfl
  have g2:y[i]? =some (y.getD i 0):=by rw[be,ks (by omega)];rfl
  have p1:=e1 i (x.getD i 0) g1;have p2:=e2 i (y.getD i 0) g2;have px:=Mb hE he p1 (all:=c1.toArray) (off:=i*(Ty.int k).cells) rfl w;have py:=Mb hE he p2 (all:=c2.toArray) (off:=i*(Ty.int k).cells) rfl w;rw[mG p1] at px;rw[mG p2] at py;have pe:(zbR (d+1) e (.int k (x.getD i 0)) (.int k (y.getD i 0))).run P w= .ok (decide (x.getD i 0=y.getD i 0)) w:=by have hu:P.underlying e=some (.int k):=(hE.ty e _ he).dJ;unfold zbR;simp only[BY,run_underlying hu,fv,if_true,GP];rfl
  simp only[List.forIn_cons,BY,px,py,pe,fv,List.all_cons];cases hb:decide (x.getD i 0=y.getD i 0)
  ·simp
  ·simp only[Bool.not_true,zaW,if_false,GP,fv,zbC];exact ih λj hj=>hl j (by simp [hj])
theorem T7(hE:ak P E)(w:World):∀(d:Nat) (t:Ty) (T:TypeId),E.ty T=some t->t.depth<=d->∀(x y:El t) (c1 c2:List Value) (r:Bool),bm X t x c1->bm X t y c2->dV t x y=some r->(zbR d T (er t c1) (er t c2)).run P w= .ok r w:=by
 intro d
 induction d with
 |zero=>intro t T ht hd;cases t<;>simp only[Ty.depth] at hd<;>omega
 |succ d ih=>
  intro t T ht hd x y c1 c2 r h1 h2 he;have hu:=(hE.ty T t ht).dJ;cases t with
  |bool=>rw[yi h1,yi h2];simp only[dV,AI] at he;subst he;unfold zbR;simp only[BY,run_underlying hu,fv,GP]
  |int k=>rw[mG h1,mG h2];simp only[dV,AI] at he;subst he;unfold zbR;simp only[BY,run_underlying hu,fv,if_true,GP];rfl
  |str=>rw[oJ h1,oJ h2];simp only[dV,AI] at he;subst he;unfold zbR;simp only[BY,run_underlying hu,fv,GP];rw[beq_toListBytes,zsv]
  |sl e t=>simp [dV] at he
  |arr n t=>
   cases t<;>simp only[dV,AI,reduceCtorEq] at he;rename_i k;subst he;obtain⟨e,je,jC,_⟩:=hu;obtain⟨d,rfl⟩:∃d',d=d'+1:=⟨d-1,by simp only[Ty.depth] at hd;omega⟩
   rw[kz rfl,kz rfl];exact aih hE w je jC h1 h2
  |aY _ _ _=>exact hu.elim
  |unit=>obtain⟨fs,je,jC,hu3,_⟩:=hu;rw[kz rfl,kz rfl];unfold zbR;simp only[BY,run_underlying je,fv,run_program,hu3,zaW,if_false];rw[<-Array.forIn_toList];have:=SN (X:=X) hE (d:=d) (xs:=c1.toArray) (ys:=c2.toArray) w ih fs.toList .unit 0 jC hd x y c1 c2 r h1 h2 (by have:=h1.len;simp [Ty.cells] at this⊢;subst this;rfl) (by have:=h2.len;simp [Ty.cells] at this⊢;subst this;rfl) he;unfold zlo at this;rw[this];simp only[fv];cases r<;>rfl
  |pair ta tb=>obtain⟨fs,je,jC,hu3,_⟩:=hu;rw[kz rfl,kz rfl];unfold zbR;simp only[BY,run_underlying je,fv,run_program,hu3,zaW,if_false];rw[<-Array.forIn_toList];have:=SN (X:=X) hE (d:=d) (xs:=c1.toArray) (ys:=c2.toArray) w ih fs.toList (.pair ta tb) 0 jC hd x y c1 c2 r h1 h2 (by have:=h1.len;simp only[GS];rw[<-this];exact zaH) (by have:=h2.len;simp only[GS];rw[<-this];exact zaH) he;unfold zlo at this;rw[this];simp only[fv];cases r<;>rfl
end Go.Ref

namespace Go.Ref
open Go
variable {P:Program} {E:Env} {X:aw} {s:State} {a:Act} {o:Oper} {u:Out}
theorem al8(hE:ak P E){op:BinOp}{T:TypeId}{x y:SV}{vx vy:Value}{px py:List Nat->Place}{l:List SV}(w:World)(xo yo:Operand)(hx:aC X px x vx)(hy:aC X py y vy)(h:tz E op T x y some=some l):
 ∃b:Bool,l=bl b/\(eqGuard op T xo yo vx vy).run P w= .ok () w/\(za2 op T vx vy).run P w= .ok (.bool b) w:=by
 unfold tz at h;split at h
 case h_2=>cases h
 rename_i t ht;split at h
 ·cases h
 rename_i aal;obtain⟨m,h,hm⟩:=hN h;obtain⟨n,h,hn⟩:=hN h;split at h
 case h_2=>cases h
 rename_i r hr;obtain⟨c1,r1,e1⟩:=hm X px vx hx;obtain⟨c2,r2,e2⟩:=hn X py vy hy;have hd:t.depth<=10000:=by
  have:zaL t.depth 1000=true:=by simpa using aal
  have:=zaK this;omega
 have heq:=T7 hE w 10000 t T ht hd m n c1 c2 r r1 r2 hr;have hu:=(hE.ty T t ht).dJ;have hg:(eqGuard op T xo yo vx vy).run P w= .ok () w:=by
  cases t
  case bool=>rw[e1,e2,yi r1,yi r2];exact zwj ..
  case int=>rw[e1,e2,mG r1,mG r2];exact z4r ..
  case str=>rw[e1,e2,oJ r1,oJ r2];exact zc8 ..
  case sl=>simp [dV] at hr
  case arr=>obtain⟨fs,_,_,hq⟩:=hu;rw[e1,e2,kz rfl,kz rfl];cases op<;>simp [eqGuard,hq]
  case aY=>simp [dV] at hr
  all_goals
   obtain⟨fs,_,_,_,hq⟩:=hu;rw[e1,e2,kz rfl,kz rfl];cases op<;>simp [eqGuard,hq]
 split at h
 ·cases h;refine⟨r,rfl,hg,?_⟩;rw[e1,e2];cases t
  case int=>rw[mG r1,mG r2];simp only[dV,AI] at hr;subst hr;simp only[za2,ne_eq,not_true_eq_false,if_false];rfl
  case str=>rw[oJ r1,oJ r2];simp only[dV,AI] at hr;subst hr;simp only[za2,zgM,zsv];rfl
  case bool=>rw[yi r1,yi r2] at heq⊢;simp only[za2,BY,zgI,zgN,heq,fv,GP]
  case sl=>simp [dV] at hr
  case aY=>simp [dV] at hr
  all_goals
   rw[kz rfl,kz rfl] at heq⊢;simp only[za2,BY,zgI,zgN,heq,fv,GP]
 ·cases h;refine⟨!r,rfl,hg,?_⟩;rw[e1,e2];cases t
  case int=>rw[mG r1,mG r2];simp only[dV,AI] at hr;subst hr;simp only[za2,ne_eq,not_true_eq_false,if_false];rfl
  case str=>rw[oJ r1,oJ r2];simp only[dV,AI] at hr;subst hr;simp only[za2,zgM,zsv];rfl
  case bool=>rw[yi r1,yi r2] at heq⊢;simp only[za2,BY,zgI,zgN,heq,fv,GP]
  case sl=>simp [dV] at hr
  case aY=>simp [dV] at hr
  all_goals
   rw[kz rfl,kz rfl] at heq⊢;simp only[za2,BY,zgI,zgN,heq,fv,GP]
 ·cases h
theorem z4s(op:BinOp)(T:TypeId)(x y:Operand)(p q:Option Addr)(w:World):(eqGuard op T x y (.pointer p) (.pointer q)).run P w= .ok () w:=by cases op<;>simp [eqGuard]
theorem amp(d:Nat){T e:TypeId}(hu:P.underlying T=some (.pointer e))(w:World)(ad:Addr):(zbR (d+1) T (.pointer (some ad)) (.pointer none)).run P w= .ok false w:=by unfold zbR;simp only[BY,run_underlying hu,fv,GP]
theorem amo(d:Nat){T e:TypeId}(hu:P.underlying T=some (.pointer e))(w:World):(zbR (d+1) T (.pointer none) (.pointer none)).run P w= .ok true w:=by unfold zbR;simp only[BY,run_underlying hu,fv,GP];rfl
theorem UI{t:Ty}{p:List Nat}{r:Nat}{v:Value}(h:(t.bO&& !t.ff)=false)(hv:oi t p r v):∃ad,v= .pointer (some ad):=by
 cases hs:t.bO with
 |false=>exact⟨_,((sL hs).1 hv).1⟩
 |true=>
  rw[hs,zbC,Bool.not_eq_false'] at h;unfold Ty.ff at h;split at h
  ·exact⟨_,hv.1⟩
  ·cases h
theorem apm(hE:ak P E){op:BinOp}{T:TypeId}{x y:SV}{vx vy:Value}{px py:List Nat->Place}{u:Out}(w:World)(xo yo:Operand)(hx:aC X px x vx)(hy:aC X py y vy)(h:bin E op T x y (λv=>some ({v:=v}:Out))=some u):
 ∃sv v,u={v:=[sv]}/\(eqGuard op T xo yo vx vy).run P w= .ok () w/\(za2 op T vx vy).run P w= .ok v w/\(∀X pl,aC X pl sv v)/\∀id t p,sv≠ .ptr id t p:=by
 unfold bin at h;split at h
 ·rename_i k m o1 k' n o2;rw[Fj hx,Fj hy];obtain⟨l,h1,h2⟩:=kE zvy h;obtain⟨sv,v,rfl,hv,_,hr,hp⟩:=zvz (T:=T) w h1;cases h2;exact⟨sv,v,rfl,z4r ..,hv,hr,hp⟩
 ·rename_i m o1 n o2;rw[zmb hx,zmb hy];obtain⟨l,h1,h2⟩:=kE zw0 h;obtain⟨sv,v,rfl,hv,_,hr,hp⟩:=al9 (T:=T) w h1;cases h2;exact⟨sv,v,rfl,zc8 ..,hv,hr,hp⟩
 ·obtain⟨r,_,hpv⟩:=hx;have hy':vy= .pointer none:=hy;subst hy';split at h
  ·cases h
  rename_i jQ;rw[Bool.not_eq_true,Bool.or_eq_false_iff,Bool.not_eq_false'] at jQ;obtain⟨ad,rfl⟩:=UI jQ.1 hpv;obtain⟨e,hu⟩:=hE.pt T jQ.2;have heq:∀ad,(zgI T (.pointer (some ad)) (.pointer none)).run P w= .ok false w:=λad=>amp 9999 hu w ad;split at h
  ·cases h;exact⟨_,_,rfl,z4s ..,by(simp only[za2,BY,heq,fv,GP];try rfl),λ_ _=>oI,by simp⟩
  ·cases h;exact⟨_,_,rfl,z4s ..,by(simp only[za2,BY,heq,fv,GP];try rfl),λ_ _=>oI,by simp⟩
  ·cases h
 ·have RT:vx= .pointer none:=hx;have hy':vy= .pointer none:=hy;subst RT hy';split at h
  ·cases h
  rename_i jQ;obtain⟨e,hu⟩:=hE.pt T (by simpa using jQ);have heq:(zgI T (.pointer none) (.pointer none)).run P w= .ok true w:=amo 9999 hu w;split at h
  ·cases h;exact⟨_,_,rfl,z4s ..,by(simp only[za2,BY,heq,fv,GP];try rfl),λ_ _=>oI,by simp⟩
  ·cases h;exact⟨_,_,rfl,z4s ..,by(simp only[za2,BY,heq,fv,GP];try rfl),λ_ _=>oI,by simp⟩
  ·cases h
 ·obtain⟨l,h1,h2⟩:=kE zvx h;obtain⟨b,rfl,hg,hv⟩:=al8 hE w xo yo hx hy h1;cases h2;exact⟨_,_,rfl,hg,hv,λ_ _=>oI,by simp⟩
theorem amh(hE:ak P E)(hr:Rel X s a){ops:List Oper}{op:BinOp}{T T':TypeId}{x y:Operand}(ho:o.op= .binOp op T x y T'){C:FuncId->cc Out}(h:act E C ops o s some=some u):aJ P X s a o u:=by unfold act at h;simp only[ho] at h;obtain⟨sv,v,rfl,hg,hv,aO,hp⟩:=apm hE X.w x y (hr.aI x) (hr.aI y) h;exact aJ.plain hr (by simp only[execOp,ho,BY,hg,hv,fv,GP]) (aO _ _) (λid t p e=>absurd e (hp id t p)) (apU aO)
end Go.Ref

namespace Go.Ref
open Go
variable {P:Program} {E:Env} {X:aw} {s:State} {a:Act} {o:Oper} {u:Out}
theorem zey(ad:Addr)(h:ad.spot=none)(m n:Nat):(ad.add m).add n=ad.add (m+n):=by unfold Addr.add;by_cases h1:m=0<;>by_cases h2:n=0<;>simp [h1,h2,zdP]
theorem Ft{ad:Addr}(h:ad.spot=none)(m:Nat):(ad.add m).spot=none:=by
 unfold Addr.add;split
 ·exact h
 ·rfl
theorem jv(g i j:Nat):(⟨g,i,none⟩:Addr).add j=⟨g,i+j,none⟩:=by unfold Addr.add;split<;>simp_all
theorem NP:∀(t:Ty) (p q:List Nat) (u:Ty),t.at_ p=some u->t.off (p++q)=t.off p+u.off q:=by
 intro t
 induction t with
 |arr n t ih=>
  intro p q u h;cases p with
  |nil=>simp only[Ty.at_,AI] at h;subst h;simp [Ty.off]
  |cons i p=>simp only[Ty.at_] at h;simp only[zbM,Ty.off,ih p q u h];omega
 |pair x y RY RZ=>
  intro p q u h;cases p with
  |nil=>simp only[Ty.at_,AI] at h;subst h;simp [Ty.off]
  |cons i p=>
   cases i with
   |zero=>simp only[Ty.at_] at h;simp only[zbM,Ty.off,RY p q u h]
   |succ i=>simp only[Ty.at_] at h;have:=RZ (i::p) q u h;simp only[zbM,Ty.off] at this⊢;omega
 |_=>
  intro p q u h;cases p with
  |nil=>simp only[Ty.at_,AI] at h;subst h;simp [Ty.off]
  |cons i p=>simp [Ty.at_] at h
theorem Y9:∀(t:Ty) (p q:List Nat) (u:Ty),t.at_ p=some u->t.fe p->u.fe q->t.fe (p++q):=by
 intro t
 induction t with
 |arr n t ih=>
  intro p q u h hp hq;cases p with
  |nil=>simp only[Ty.at_,AI] at h;subst h;exact hq
  |cons i p=>exact⟨hp.1,ih p q u h hp.2 hq⟩
 |pair x y RY RZ=>
  intro p q u h hp hq;cases p with
  |nil=>simp only[Ty.at_,AI] at h;subst h;exact hq
  |cons i p=>
   cases i with
   |zero=>exact RY p q u h hp hq
   |succ i=>exact RZ (i::p) q u h hp hq
 |_=>
  intro p q u h hp hq;cases p with
  |nil=>simp only[Ty.at_,AI] at h;subst h;exact hq
  |cons i p=>simp [Ty.at_] at h
theorem getD_some{α:Type}{xs:List α}{i:Nat}(d:α)(h:i<xs.length):xs[i]? =some (xs.getD i d):=by simp [be,ks h]
theorem zfa{X:aw}:∀{t:Ty} {p:List Nat} {x:El t} {cs:List Value} {u:Ty} {y:El u},bm X t x cs->t.fe p->El.get t p x=some ⟨u,y⟩->
 t.at_ p=some u/\t.off p+u.cells<=t.cells/\bm X u y ((cs.drop (t.off p)).take u.cells):=by
 intro t
 induction t with
 |arr n t ih=>
  intro p x cs u y hr hp h;cases p with
  |nil=>simp only[El.get,AI,zbV] at h;obtain⟨rfl,h⟩:=h;cases h;refine⟨rfl,by simp [Ty.off],?_⟩;have:=hr.len;simp only[Ty.off,GS];rw[<-this,zaH];exact hr
  |cons i p=>obtain⟨hi,hp⟩:=hp;obtain⟨h1,h2,h3⟩:=hr;simp only[El.get] at h;obtain⟨k1,k2,k3⟩:=ih (h3 i _ (getD_some (El.b9 t) (by omega))) hp h;have hn:(i+1)*t.cells<=n*t.cells:=zai _ hi;rw[zaz,za5] at hn;refine⟨k1,by simp only[Ty.off,Ty.cells];omega,?_⟩;simp only[Ty.off];rw[zcZ,zcY,zbs,zaQ (by omega)] at k3;exact k3
 |pair ta tb mZ m3=>
  intro p x cs u y hr hp h;cases p with
  |nil=>simp only[El.get,AI,zbV] at h;obtain⟨rfl,h⟩:=h;cases h;refine⟨rfl,by simp [Ty.off],?_⟩;have:=hr.len;simp only[Ty.off,GS];rw[<-this,zaH];exact hr
  |cons i p=>
   obtain⟨c1,c2,rfl,r1,r2⟩:=hr;have l1:=r1.len;have l2:=r2.len;cases i with
   |zero=>obtain⟨k1,k2,k3⟩:=mZ r1 hp h;refine⟨k1,by simp only[Ty.off,Ty.cells];omega,?_⟩;simp only[Ty.off];rw[zbg (by omega),zbZ (by rw[zaD];omega)];exact k3
   |succ i=>obtain⟨k1,k2,k3⟩:=m3 r2 hp h;refine⟨k1,by simp only[Ty.off,Ty.cells];omega,?_⟩;simp only[Ty.off];rw[<-zbs,<-l1,zbU];exact k3
 |_=>
  intro p x cs u y hr hp h;cases p with
  |nil=>simp only[El.get,AI,zbV] at h;obtain⟨rfl,h⟩:=h;cases h;refine⟨rfl,by simp [Ty.off],?_⟩;have:=hr.len;simp only[Ty.off,GS];rw[<-this,zaH];exact hr
  |cons i p=>simp [El.get] at h
theorem zf8:∀(fl:List Field) (t:Ty) (off j:Nat) (ft:Ty),j9 E fl t off->t.dx=true->t.at_ [j]=some ft->∃f,fl[j]? =some f/\f.offset=off+t.off [j]/\E.ty f.type=some ft/\t.fe [j]:=by
 intro fl
 induction fl with
 |nil=>intro t off j ft hf hp h;cases t<;>simp [j9,Ty.dx] at hf hp
 |cons f fl ih=>
  intro t off j ft hf hp h;cases t<;>simp only[j9] at hf<;>try exact hf.elim
  rename_i ta tb;obtain⟨h1,h2,h3,h4⟩:=hf;cases j with
  |zero=>simp only[Ty.at_,AI] at h;subst h;exact⟨f,rfl,by simp [Ty.off,h1],h2,by simp [Ty.fe]⟩
  |succ j=>
   simp only[Ty.at_] at h;cases htb:tb.dx with
   |true=>obtain⟨g,g1,g2,g3,g4⟩:=ih tb (off+ta.cells) j ft h4 htb h;exact⟨g,g1,by simp only[Ty.off];omega,g3,g4⟩
   |false=>
    cases fl with
    |nil=>cases tb<;>simp [j9,Ty.at_] at h4 h
    |cons g fl=>cases tb<;>simp [j9,Ty.dx] at h4 htb
theorem z9j(hE:ak P E){T:TypeId}{t:Ty}(ht:E.ty T=some t)(hp:t.dx=true):∃fs,P.underlying T=some (.struct fs)/\j9 E fs.toList t 0:=by have hu:=(hE.ty T t ht).dJ;cases t<;>simp [Ty.dx] at hp;obtain⟨fs,h1,h2,_⟩:=hu;exact⟨fs,h1,h2⟩
theorem z8b(hE:ak P E){f:Field}{ft:Ty}(hf:E.ty f.type=some ft)(hc:ft.cells≠0)(ad:Addr)(w:World):(fieldPlace ad f).run P w= .ok (ad.add f.offset) w:=by simp [fieldPlace,mF hE hf,hc]
theorem zlv:∀(t:Ty) (p:List Nat) (x:El t) (u:Ty) (y:El u),El.get t p x=some ⟨u,y⟩->t.at_ p=some u:=by
 intro t
 induction t with
 |arr n t ih=>
  intro p x u y h;cases p with
  |nil=>simp only[El.get,AI,zbV] at h;rw[Ty.at_,h.1]
  |cons i p=>exact ih p _ u y h
 |pair a b mZ m3=>
  intro p x u y h;cases p with
  |nil=>simp only[El.get,AI,zbV] at h;rw[Ty.at_,h.1]
  |cons i p=>
   cases i with
   |zero=>exact mZ p _ u y h
   |succ i=>exact m3 (i::p) _ u y h
 |_=>
  intro p x u y h;cases p with
  |nil=>simp only[El.get,AI,zbV] at h;rw[Ty.at_,h.1]
  |cons i p=>simp [El.get] at h
theorem ad9(hE:ak P E)(hr:Rel X s a){T:TypeId}{x:Operand}{j:Nat}{ta tb:Ty}(ho:o.op= .fieldAddr T x j)(hg:E.gr T=some (ta,tb))(h:O0 (s.aI x) j ta tb some=some u):aJ P X s a o u:=by
 have hx:=hr.aI x;unfold O0 at h;split at h
 case h_2=>cases h
 rename_i id c d e;rw[e] at hx;obtain⟨r,hb,hv,_⟩:=hx;split at h
 case isFalse=>cases h
 rename_i hcd;rw[nd] at hcd;have:=Ty.aK hcd.1;subst this;cases hj:zaL j 2 with
 |false=>rw[hj] at h;cases h
 |true=>
  rw[hj] at h;cases h;have hj:=zaK hj;obtain⟨fs,hu,hf⟩:=hE.gr T _ _ hg;obtain⟨f,i,g1,g2,g3,g4⟩:=hf j hj;refine aJ.plain hr (v:= .pointer (some ⟨r,nN c [j],none⟩)) ?_ ⟨r,hb,rfl,?_⟩ (λbf t' p' e'=> ?_)
  ·have hp:∀(ad:Addr) (w:World),(fieldPlace ad f).run P w= .ok (ad.add f.offset) w:=λad w=>by simp [fieldPlace,sizeOf,typeInfo,g3,g4]
   simp only[execOp,ho,BY,zfM,run_underlying hu,fv,g1,hv,Instr.sureAddr,GP,hp];rw[jv,g2];simp [nN]
  ·match j,hj with
   |0,_=>simp [gIn,Ty.fe]
   |1,_=>trivial
   |2,_=>trivial
  ·injection e' with e1 e2 e3
   subst e1;exact uO hr e
theorem adu(hE:ak P E)(hr:Rel X s a){T:TypeId}{x:Operand}{j:Nat}{u0:Ty}{id:Nat}{t:Ty}{p:List Nat}(ho:o.op= .fieldAddr T x j)(hT:E.ty T=some u0)(e:s.aI x= .ptr id t p)(h:Ou u0 id t p j some=some u):aJ P X s a o u:=by
 have hx:=hr.aI x;rw[e] at hx;obtain⟨r,hb,hx⟩:=hx;unfold Ou at h;split at h
 case h_2=>cases h
 rename_i ta tb q;obtain⟨hv,dD⟩:=hx;have hv:a.eval x= .pointer (some ⟨r,ta.off q,none⟩):=hv;have dD:ta.fe q:=dD;split at h
 case h_2=>cases h
 rename_i u'' cq;split at h
 case isFalse=>cases h
 rename_i jP;rw[nd] at jP;obtain⟨heq,fE⟩:=jP;have:=Ty.aK heq;subst this;split at h
 case h_2=>cases h
 rename_i ft Nt;split at h
 ·cases h
 rename_i eb;cases h;have hc:ft.cells≠0:=λe=>eb (by rw[e];rfl);obtain⟨fs,je,jC⟩:=z9j hE hT fE;obtain⟨f,g1,g2,g3,g4⟩:=zf8 fs.toList u0 0 j ft jC fE Nt;refine aJ.plain hr (v:= .pointer (some ⟨r,ta.off (q++ [j]),none⟩)) ?_ ⟨r,hb,rfl,Y9 ta q [j] u0 cq dD g4⟩ (λbf t' p' e'=> ?_)
 ·have iv:fs[j]? =some f:=by rw[<-zad];exact g1
  simp only[execOp,ho,BY,zfM,run_underlying je,fv,iv,hv,Instr.sureAddr,GP,z8b hE g3 hc];rw[jv,NP ta q [j] u0 cq,g2,zat]
 ·injection e' with e1 e2 e3
  subst e1;exact uO hr e
theorem acS(hE:ak P E)(hr:Rel X s a){ops:List Oper}{T:TypeId}{x:Operand}{j:Nat}(ho:o.op= .fieldAddr T x j){C:FuncId->cc Out}(h:act E C ops o s some=some u):aJ P X s a o u:=by
 unfold act at h;simp only[ho] at h;have hx:=hr.aI x;split at h
 ·rename_i ta tb hg;exact ad9 hE hr ho hg h
 unfold zlp at h;split at h
 ·rename_i t u' id root p hT e;rw[e] at hx;obtain⟨r,hb,hx⟩:=hx;split at h
  ·exact adu hE hr ho hT e h
  rename_i eL;have eL:root.bO=false:=by simpa using eL
  obtain⟨hv,dD⟩:=(sL eL).1 hx;split at h
  case h_2=>cases h
  rename_i u'' cq;split at h
  case isFalse=>cases h
  rename_i jP;rw[nd] at jP;obtain⟨heq,fE⟩:=jP;have:=Ty.aK heq;subst this;split at h
  case h_2=>cases h
  rename_i ft Nt;split at h
  ·cases h
  rename_i eb;cases h;have hc:ft.cells≠0:=λe=>eb (by rw[e];rfl);obtain⟨fs,je,jC⟩:=z9j hE hT fE;obtain⟨f,g1,g2,g3,g4⟩:=zf8 fs.toList u' 0 j ft jC fE Nt;refine aJ.plain hr (v:= .pointer (some ⟨r,root.off (p++ [j]),none⟩)) ?_ ⟨r,hb,(sL eL).2 ⟨rfl,Y9 root p [j] u' cq dD g4⟩⟩ (λbf t' p' e'=> ?_)
  ·have iv:fs[j]? =some f:=by rw[<-zad];exact g1
   simp only[execOp,ho,BY,zfM,run_underlying je,fv,iv,hv,Instr.sureAddr,GP,z8b hE g3 hc];rw[jv,NP root p [j] u' cq,g2,zat]
  ·injection e' with e1 e2 e3
   subst e1;exact uO hr e
 ·rename_i t u' root y hT e;rw[e] at hx;obtain⟨ad,cs,hv,nj,aO,eN⟩:=hx;split at h
  case isFalse=>cases h
  rename_i jP;rw[nd] at jP;obtain⟨heq,fE⟩:=jP;have:=Ty.aK heq;subst this;split at h
  case h_2=>cases h
  rename_i ft z Nt;split at h
  ·cases h
  rename_i eb;cases h;have hc:ft.cells≠0:=λe=>eb (by rw[e];rfl);obtain⟨fs,je,jC⟩:=z9j hE hT fE;have cq:u'.at_ [j]=some ft:=zlv u' [j] y ft z Nt;obtain⟨f,g1,g2,g3,g4⟩:=zf8 fs.toList u' 0 j ft jC fE cq;obtain⟨k1,k2,k3⟩:=zfa aO g4 Nt;refine aJ.plain hr (v:= .pointer (some (ad.add (u'.off [j])))) ?_ ⟨ad.add (u'.off [j]),_,rfl,Ft nj _,k3,λi v hi=> ?_⟩ (λbf t' p' e'=>by cases e')
  ·have iv:fs[j]? =some f:=by rw[<-zad];exact g1
   simp only[execOp,ho,BY,zfM,run_underlying je,fv,iv,hv,Instr.sureAddr,GP,z8b hE g3 hc];rw[g2,zat]
  ·rw[zey _ nj];refine eN _ v ?_;rw[zae] at hi;split at hi
   ·rw[zas] at hi;exact hi
   ·cases hi
 ·cases h
end Go.Ref

namespace Go.Ref
open Go
variable {P:Program} {E:Env} {X:aw} {s:State} {a:Act} {o:Oper} {u:Out}
theorem yd{R:Type}{i:Int}{n:Nat}{x:Option R}{z:R}(h:zd i n x=some z):0<=i/\i<(n:Int)/\x=some z:=by
 unfold zd at h;cases h1:decide (0<=i)<;>rw[h1] at h
 ·cases h
 ·cases h2:decide (i<(n:Int))<;>rw[h2] at h
  ·cases h
  ·exact⟨of_decide_eq_true h1,of_decide_eq_true h2,h⟩
theorem Cf{e:TypeId}{t:Ty}{xs:List (El t)}{cs:List Value}(h:bm X (.sl e t) xs cs):∃A c,er (.sl e t) cs= .slice A xs.length c/\xs.length<=c/\
 ∀(j:Nat) x,xs[j]? =some x->∃ad fa,A=some ad/\ad.spot=none/\bm X t x fa/\∀(i:Nat) v,fa[i]? =some v->X.aB (ad.add (j*t.cells+i)) v:=by
 obtain⟨A,c,rfl,h1,h2⟩:=h;exact⟨A,c,rfl,h1,h2⟩
theorem bm.AZ{e:TypeId}{t:Ty}{xs:List (El t)}{A:Option Addr}{n c:Nat}(hn:xs.length=n)(h1:n<=c)(h2:∀(j:Nat) x,xs[j]? =some x->∃ad fa,A=some ad/\ad.spot=none/\bm X t x fa/\∀(i:Nat) v,fa[i]? =some v->X.aB (ad.add (j*t.cells+i)) v):bm X (.sl e t) xs [.slice A n c]:=by subst hn;exact⟨A,c,rfl,h1,h2⟩
theorem zwc{R:Type}{s:SV}{K:Int->Option R}{z:R}(h:s.num K=some z):∃n k,K n=some z/\∀(X:aw) pl v,aC X pl s v->v= .int k n:=by
 unfold SV.num at h;split at h
 ·rename_i k n w;refine⟨n,k,h,λX pl v hv=> ?_⟩;obtain⟨cs,h1,h2,_⟩:=hv;rw[h2,mG h1]
 ·cases h
theorem adv(hE:ak P E)(hr:Rel X s a){T:TypeId}{x i:Operand}{m:Nat}{t:Ty}{n:Int}{ik:IntKind}{id:Nat}{root:Ty}{p:List Nat}(ho:o.op= .indexAddr T x i)(ei:a.eval i= .int ik n)(hT:E.ty T=some (.arr m t))(dU:s.aI x= .ptr id root p)(hx:aC X (AV x) (.ptr id root p) (a.eval x))(h:Ox m t n id root p some=some u):aJ P X s a o u:=by
 obtain⟨r,hb,hx⟩:=hx;unfold Ox at h;split at h
 case h_2=>cases h
 rename_i ta tb q;obtain⟨hv,dD⟩:=hx;have hv:a.eval x= .pointer (some ⟨r,ta.off q,none⟩):=hv;have dD:ta.fe q:=dD;split at h
 case h_2=>cases h
 rename_i u'' cq;split at h
 case isFalse=>cases h
 rename_i heq;have:=Ty.aK heq;subst this;obtain⟨h0,h1,h⟩:=yd h;cases h;obtain⟨e,je,jC,_⟩:=(hE.ty T _ hT).dJ;have ap:n.toNat<m:=by omega
 refine aJ.plain hr (v:= .pointer (some ⟨r,ta.off (q++ [n.toNat]),none⟩)) ?_ ⟨r,hb,rfl,Y9 ta q [n.toNat] _ cq dD ⟨ap,by simp [Ty.fe]⟩⟩ (λbf t' p' e'=> ?_)
 ·simp only[execOp,ho,BY,zcS,ei,hv,asIntOf,GP,fv,run_underlying je,Instr.sureAddr,zdJ,h0,h1,and_self,if_true,mF hE jC];rw[jv,NP ta q [n.toNat] _ cq];simp [Ty.off]
 ·injection e' with e1 e2 e3
  subst e1;exact uO hr dU
theorem acT(hE:ak P E)(hr:Rel X s a){ops:List Oper}{T:TypeId}{x i:Operand}(ho:o.op= .indexAddr T x i){C:FuncId->cc Out}(h:act E C ops o s some=some u):aJ P X s a o u:=by
 unfold act at h;simp only[ho] at h;have hx:=hr.aI x;have hi:=hr.aI i;unfold zlz at h;obtain⟨n,ik,h,hn⟩:=zwc h;have ei:=hn X _ _ hi;split at h
 ·rename_i e t t' xs w hT dU;rw[dU] at hx;obtain⟨ys,h,tO⟩:=hN h;obtain⟨h0,h1,h⟩:=yd h;cases h;obtain⟨cs,my,ev⟩:=tO X (AV x) _ hx.bare;obtain⟨A,c,hm,hle,fD⟩:=Cf my;rw[hm] at ev;have ap:n.toNat<aa ys:=by omega
  obtain⟨ad,fa,rfl,nj,aO,eN⟩:=fD n.toNat _ (getD_some (El.b9 t) ap);have hu:=(hE.ty T _ hT).dJ;refine aJ.plain hr (v:= .pointer (some (ad.add (n.toNat*t.cells)))) ?_ ⟨ad.add (n.toNat*t.cells),fa,rfl,Ft nj _,aO,λj v hj=> ?_⟩ (λ_ _ _ e'=>by cases e')
  ·simp only[execOp,ho,BY,zcS,ei,ev,asIntOf,GP,fv,run_underlying hu.1,zdJ,h0,h1,and_self,if_true,mF hE hu.2]
  ·rw[zey _ nj];exact eN j v hj
 ·rename_i m t id root p hT dU;rw[dU] at hx;obtain⟨r,hb,hx⟩:=hx;split at h
  ·exact adv hE hr ho ei hT dU ⟨r,hb,hx⟩ h
  rename_i eL;have eL:root.bO=false:=by simpa using eL
  obtain⟨hv,dD⟩:=(sL eL).1 hx;split at h
  case h_2=>cases h
  rename_i u'' cq;split at h
  case isFalse=>cases h
  rename_i heq;have:=Ty.aK heq;subst this;obtain⟨h0,h1,h⟩:=yd h;cases h;obtain⟨e,je,jC,_⟩:=(hE.ty T _ hT).dJ;have ap:n.toNat<m:=by omega
  refine aJ.plain hr (v:= .pointer (some ⟨r,root.off (p++ [n.toNat]),none⟩)) ?_ ⟨r,hb,(sL eL).2 ⟨rfl,Y9 root p [n.toNat] _ cq dD ⟨ap,by simp [Ty.fe]⟩⟩⟩ (λbf t' p' e'=> ?_)
  ·simp only[execOp,ho,BY,zcS,ei,hv,asIntOf,GP,fv,run_underlying je,Instr.sureAddr,zdJ,h0,h1,and_self,if_true,mF hE jC];rw[jv,NP root p [n.toNat] _ cq];simp [Ty.off]
  ·injection e' with e1 e2 e3
   subst e1;exact uO hr dU
 ·rename_i m t t' xs hT dU;rw[dU] at hx;obtain⟨ad,cs,hv,nj,aO,eN⟩:=hx;simp only[SV.el] at h;split at h
  case isFalse=>cases h
  rename_i heq;have:=Ty.aK heq;subst this;obtain⟨h0,h1,h⟩:=yd h;cases h;obtain⟨e,je,jC,_⟩:=(hE.ty T _ hT).dJ;obtain⟨l1,l2,l3⟩:=aO;have ap:n.toNat<m:=by omega
  have Nv:=l3 n.toNat _ (getD_some (El.b9 t) (by omega));refine aJ.plain hr (v:= .pointer (some (ad.add (n.toNat*t.cells)))) ?_ ⟨ad.add (n.toNat*t.cells),_,rfl,Ft nj _,Nv,λj v hj=> ?_⟩ (λ_ _ _ e'=>by cases e')
  ·simp only[execOp,ho,BY,zcS,ei,hv,asIntOf,GP,fv,run_underlying je,Instr.sureAddr,zdJ,h0,h1,and_self,if_true,mF hE jC]
  ·rw[zey _ nj];refine eN _ v ?_;rw[zae] at hj;split at hj
   ·rw[zas] at hj;exact hj
   ·cases hj
 ·rename_i e0 t id r p hT dU;rw[dU] at hx;unfold Zq at h;split at h
  case h_2=>cases h
  rename_i m ta tb;split at h
  case isFalse=>cases h
  rename_i heq;have:=Ty.aK heq;subst this;obtain⟨h0,h1,h⟩:=yd h;cases h;obtain⟨r0,hb,cap,hv,nR⟩:=hx;have hu:=(hE.ty T _ hT).dJ;refine aJ.plain hr (v:= .pointer (some ⟨r0,n.toNat*ta.cells,none⟩)) ?_ ⟨r0,hb,rfl⟩ (λbf t' p' e'=> ?_)
  ·simp only[execOp,ho,BY,zcS,ei,hv,asIntOf,GP,fv,run_underlying hu.1,zdJ,h0,h1,and_self,if_true,mF hE hu.2];rw[jv,zat]
  ·injection e' with e1 e2 e3
   subst e1;exact uO hr dU
 ·rename_i id ta tb hT dU;rw[dU] at hx;obtain⟨r0,hb,hv,_⟩:=hx;split at h
  case isFalse=>cases h
  rename_i hga;obtain⟨h0,h1,h⟩:=yd h;cases h;obtain⟨e,i',hu,Ap,dd⟩:=hE.ga T hga;have ap:n.toNat<2:=by omega
  refine aJ.plain hr (v:= .pointer (some ⟨r0,nN ta [1,n.toNat],none⟩)) ?_ ⟨r0,hb,rfl,ap⟩ (λbf t' p' e'=> ?_)
  ·have jb:(sizeOf e).run P X.w= .ok 1 X.w:=by simp [sizeOf,typeInfo,Ap,dd]
   have h1':n<((2:Nat):Int):=h1;simp only[execOp,ho,BY,zcS,ei,hv,asIntOf,GP,fv,run_underlying hu,Instr.sureAddr,zdJ,h0,h1',and_self,if_true,jb];rw[jv,Nat.mul_one];rfl
  ·injection e' with e1 e2 e3
   subst e1;exact uO hr dU
 ·cases h
theorem FD{pl:List Nat->Place}{t:Ty}{x:El t}{cs:List Value}(h:bm X t x cs):aC X pl (.aq t x []) (er t cs):=⟨cs,h,rfl,nm⟩
theorem aeX(hE:ak P E)(hr:Rel X s a){ops:List Oper}{T:TypeId}{x i:Operand}(ho:o.op= .index T x i){C:FuncId->cc Out}(h:act E C ops o s some=some u):aJ P X s a o u:=by
 unfold act at h;simp only[ho] at h;have hx:=hr.aI x;have hi:=hr.aI i;unfold zm0 at h;obtain⟨n,ik,h,hn⟩:=zwc h;have ei:=hn X _ _ hi;split at h
 ·rename_i hT;obtain⟨st,h,bY⟩:=hN h;obtain⟨h0,h1,h⟩:=yd h;cases h;obtain⟨cs,Sk,ev⟩:=bY X _ _ hx;rw[oJ Sk] at ev;have hu:=(hE.ty T _ hT).dJ;have ap:n.toNat<st.size:=by omega
  refine aJ.plain hr (v:= .int .u8 (ze st n.toNat)) ?_ j8 (λ_ _ _ e'=>by cases e');have cM:st[n.toNat]? =some (st[n.toNat]'ap):=getElem?_pos st n.toNat ap;simp only[execOp,ho,BY,Instr.index,ei,ev,asIntOf,GP,fv,run_underlying hu,h0,if_true,cM];simp [ze,ap]
 ·rename_i m t hT;obtain⟨ys,h,tO⟩:=hN h;obtain⟨h0,h1,h⟩:=yd h;cases h;obtain⟨cs,my,ev⟩:=tO X _ _ hx;rw[kz rfl] at ev;obtain⟨e,je,jC,_⟩:=(hE.ty T _ hT).dJ;obtain⟨l1,l2,l3⟩:=my;have ap:n.toNat<m:=by omega
  have Nv:=l3 n.toNat _ (getD_some (El.b9 t) (by omega));refine aJ.plain hr ?_ (FD Nv) (λ_ _ _ e'=>by cases e');have hp:=Mb hE jC Nv (all:=cs.toArray) (off:=n.toNat*t.cells) rfl X.w;simp only[execOp,ho,BY,Instr.index,ei,ev,asIntOf,GP,fv,run_underlying je,h0,h1,and_self,if_true,mF hE jC,hp]
 ·cases h
theorem aeW(hE:ak P E)(hr:Rel X s a){ops:List Oper}{T:TypeId}{x:Operand}{j:Nat}(ho:o.op= .field T x j){C:FuncId->cc Out}(h:act E C ops o s some=some u):aJ P X s a o u:=by
 unfold act at h;simp only[ho] at h;have hx:=hr.aI x;split at h
 case h_2=>cases h
 rename_i t hT;split at h
 ·cases h
 rename_i fE;have fE:t.dx=true:=by simpa using fE
 obtain⟨y,h,hy⟩:=hN h;split at h
 case h_2=>cases h
 rename_i ft z hg;cases h;obtain⟨cs,rep,ev⟩:=hy X _ _ hx;have tH:t.agg=true:=by cases t<;>simp_all [Ty.dx,Ty.agg]
 rw[kz tH] at ev;obtain⟨fs,je,jC⟩:=z9j hE hT fE;obtain⟨f,g1,g2,g3,dD⟩:=zf8 fs.toList t 0 j ft jC fE (zlv t [j] y ft z hg);obtain⟨k1,k2,k3⟩:=zfa rep dD hg;have iv:fs[j]? =some f:=by rw[<-zad];exact g1
 refine aJ.plain hr ?_ (FD k3) (λ_ _ _ e'=>by cases e');have hp:=Mb hE g3 k3 (all:=cs.toArray) (off:=f.offset) (by rw[g2,zat]) X.w;simp only[execOp,ho,BY,Instr.field,run_underlying je,fv,iv,ev,asAgg,GP,hp]
theorem amk(hE:ak P E)(hr:Rel X s a){ops:List Oper}{x:Operand}{T:TypeId}{ea:Array Operand}{ts:Array TypeId}(ho:o.op= .call ⟨.builtin .len,ea,ts⟩){C:FuncId->cc Out}(h:act E C ops o s some=some u):aJ P X s a o u:=by
 unfold act at h;simp only[ho] at h;split at h
 case h_2=>cases h
 rename_i x T tN Ge;have has:ea= #[x]:=by rw[<-zaC (xs:=ea),tN]
 have jd:ts= #[T]:=by rw[<-zaC (xs:=ts),Ge]
 subst has jd;have hx:=hr.aI x;unfold xg at h;split at h
 ·rename_i hT;obtain⟨st,h,bY⟩:=hN h;cases h;obtain⟨cs,Sk,ev⟩:=bY X _ _ hx;rw[oJ Sk] at ev;have hu:=(hE.ty T _ hT).dJ;refine aJ.plain hr (v:= .int .i64 st.size) ?_ j8 (λ_ _ _ e'=>by cases e');simp [execOp,ho,resolve,invoke,builtin,zeU,ev,run_underlying hu,goInt]
 ·rename_i e t hT;have hu:=(hE.ty T _ hT).dJ;split at h
  ·rename_i id n ta tb dU;cases h;rw[dU] at hx;obtain⟨r0,hb,cap,ev,nR⟩:=hx;refine aJ.plain hr (v:= .int .i64 n) ?_ j8 (λ_ _ _ e'=>by cases e');simp [execOp,ho,resolve,invoke,builtin,zeU,ev,run_underlying hu.1,goInt]
  ·obtain⟨xs,h,aaI⟩:=hN h;cases h;obtain⟨cs,G7,ev⟩:=aaI X _ _ hx;obtain⟨A,c,hm,_,_⟩:=Cf G7;rw[hm] at ev;refine aJ.plain hr (v:= .int .i64 (aa xs)) ?_ j8 (λ_ _ _ e'=>by cases e');simp [execOp,ho,resolve,invoke,builtin,zeU,ev,run_underlying hu.1,goInt]
 ·rename_i n t hT;cases h;obtain⟨e,je,jC,_⟩:=(hE.ty T _ hT).dJ;refine aJ.plain hr (v:= .int .i64 n) ?_ j8 (λ_ _ _ e'=>by cases e');simp [execOp,ho,resolve,invoke,builtin,zeU,run_underlying je,goInt]
 ·cases h
theorem TX(hr:Rel X s a){ops:List Oper}{g:Bool}{ea:Array Operand}{ts:Array TypeId}(ho:o.op= .call ⟨.builtin (if g then .max else .min),ea,ts⟩){C:FuncId->cc Out}(h:act E C ops o s some=some u):aJ P X s a o u:=by
 have key:∀x y,ea= #[x,y]->ly g (s.aI x) (s.aI y) some=some u->aJ P X s a o u:=by
  intro x y has h;subst has;have hx:=hr.aI x;have hy:=hr.aI y;unfold ly at h;split at h
  case h_2=>cases h
  rename_i k m _ k' n _ e1 e2;rw[e1] at hx;rw[e2] at hy;have vx:=Fj hx;have vy:=Fj hy;cases h;refine aJ.plain hr (v:= .int k (bif g then(if(m:Int)<n then n else m) else(if(n:Int)<m then n else m))) ?_ j8 (λ_ _ _ e'=>by cases e');cases g
  ·simp [execOp,ho,resolve,invoke,builtin,Builtin.min_,Builtin.min2,vx,vy]
  ·simp [execOp,ho,resolve,invoke,builtin,Builtin.max_,Builtin.max2,vx,vy]
 unfold act at h;cases g with
 |true=>
  simp only[ho,if_true] at h;split at h
  ·rename_i x y e;exact key x y (by rw[<-zaC (xs:=ea),e]) h
  ·cases h
 |false=>
  simp only[ho,zaW,if_false] at h;split at h
  ·rename_i x y e;exact key x y (by rw[<-zaC (xs:=ea),e]) h
  ·cases h
theorem apv(hr:Rel X s a){ops:List Oper}{op:UnOp}{T:TypeId}{x:Operand}(ho:o.op= .unOp op T x){C:FuncId->cc Out}(h:act E C ops o s some=some u):aJ P X s a o u:=by
 unfold act at h;simp only[ho] at h;have hx:=hr.aI x;unfold Su at h;split at h
 ·rename_i b w e;rw[e] at hx;cases h;refine aJ.plain hr (v:= .bool (!b)) ?_ oI (λ_ _ _ e'=>by cases e');simp [execOp,ho,YX hx,Op.unary]
 ·rename_i k n w e;rw[e] at hx;cases h;refine aJ.plain hr (v:= .int k (k.wrap (0-n))) ?_ j8 (λ_ _ _ e'=>by cases e');simp [execOp,ho,Fj hx,Op.unary,zgK]
 ·cases h
theorem ac0(hr:Rel X s a){ops:List Oper}{x:Operand}(ho:o.op= .nilCheck x){C:FuncId->cc Out}(h:act E C ops o s some=some u):aJ P X s a o u:=by
 unfold act at h;simp only[ho] at h;have hx:=hr.aI x;split at h
 ·rename_i id t p e;rw[e] at hx;split at h
  ·cases h
  rename_i eL;have eL:(t.bO&& !t.ff)=false:=by simpa using eL
  cases h;obtain⟨r,h1,hx⟩:=hx;obtain⟨ad,h2⟩:=UI eL hx;refine aJ.plain hr (v:= .pointer (some ad)) ?_ ⟨r,h1,h2▸hx⟩ (λbf t' p' e'=> ?_)
  ·simp [execOp,ho,h2]
  ·injection e' with e1 e2 e3
   subst e1;exact uO hr e
 ·rename_i t y e;rw[e] at hx;cases h;obtain⟨ad,cs,h1,h2⟩:=hx;refine aJ.plain hr (v:= .pointer (some ad)) ?_ ⟨ad,cs,rfl,h2⟩ (λ_ _ _ e'=>by cases e');simp [execOp,ho,h1]
 ·cases h
theorem adt(hr:Rel X s a){ops:List Oper}{x:Operand}{j:Nat}(ho:o.op= .extract x j){C:FuncId->cc Out}(h:act E C ops o s some=some u):aJ P X s a o u:=by
 unfold act at h;simp only[ho] at h;split at h
 case h_2=>cases h
 rename_i t;have hs:=hr.slot t;split at h
 ·rename_i hlen;split at h
  case h_2=>cases h
  rename_i wV;cases h;have hov:=hr.aI (.tmp t);rw[show s.aI (.tmp t)=SV.over from wV] at hov;have hov:a.eval (.tmp t)= .tuple #[.bool false]:=hov;refine aJ.plain hr (v:= .bool false) ?_ oI (λ_ _ _ e'=>by cases e');simp [execOp,ho,hov,Instr.extract]
 rename_i hlen;have pJ:(s.slot t).length≠1:=λe=>hlen (by rw[e];rfl);have GM:∃vs:Array Value,a.tmps.getD t zaj= .tuple vs/\vs.size=(s.slot t).length/\∀(j:Nat) sv v,(s.slot t)[j]? =some sv->vs[j]? =some v->aC X (.c t j) sv v:=by
  match hm:s.slot t with
  | [sv]=>rw[hm] at pJ;exact absurd rfl pJ
  | []=>rw[hm] at hs;exact hs
  |_::_::_=>rw[hm] at hs;exact hs
 obtain⟨vs,h1,h2,h3⟩:=GM;have aZ:∀v,vs[j]? =some v->(execOp a.eval o).run P X.w= .ok (.value v) X.w:=by intro v hv;simp only[execOp,ho,Act.eval,h1,BY,Instr.extract,hv,GP,fv]
 have hv:∀sv,(s.slot t)[j]? =some sv->∃v,vs[j]? =some v:=by intro sv kB;have:=(AS.1 kB).1;exact⟨_,XN (by omega)⟩
 split at h
 ·rename_i ut y w e;cases h;obtain⟨v,hv⟩:=hv _ e;cases w with
  |nil=>exact aJ.plain hr (aZ v hv) (h3 j _ v e hv).bare (λ_ _ _ h=>by cases h)
  |cons p w=>exact aJ.E1 hr (aZ v hv) (h3 j _ v e hv)
 ·cases h
 ·cases h
 ·rename_i sv h4 h5 h6 e;cases h;obtain⟨v,hv⟩:=hv _ e;have gB:Plain sv:=by
   cases sv with
   |aq ut y w=>exact(h4 ut y w rfl).elim
   |bF id c b n=>first|exact(h5 id c b n rfl).elim|exact(h6 id c b n rfl).elim
   |_=>trivial
  refine aJ.plain hr (aZ v hv) ((h3 j _ v e hv).place gB) (λid ty p e'=> ?_) gB.pS
  ·by_cases ap:t<s.sl.length
   ·refine hr.live t _ id ty p (sP ap) ?_;rw[<-e'];exact IH e
   ·have:s.slot t=[.undef]:=by simp [State.slot,IT (zbN ap)]
    rw[this] at pJ;exact absurd rfl pJ
 ·cases h
end Go.Ref

namespace Go.Ref
open Go
variable {P:Program} {E:Env} {X:aw} {s:State} {a:Act} {o:Oper} {u:Out}
def oW(v:Option SV)(n:Nat)(d:Nat):Prop:=match v with
 |none=>n=d
 |some v=>∀(X:aw) pl val,aC X pl v val->val= .int .i64 (n:Int)
theorem Wr{l:Int}{m:Nat}(h1:0<=l)(h2:l<=(m:Int)):l.toNat<=m:=by omega
theorem Tk{l:Int}(h1:0<=l):((l.toNat:Nat):Int)=l:=by omega
theorem zci{R:Type}{lo:Option SV}{m:Nat}{G:Nat->Option R}{z:R}(h:CL lo m G=some z):∃l,G l=some z/\l<=m/\oW lo l 0:=by
 unfold CL at h;cases lo with
 |none=>exact⟨0,h,zaX _,rfl⟩
 |some v=>
  obtain⟨l,h,hl⟩:=hN h;cases h1:decide (0<=l)<;>rw[h1] at h
  ·cases h
  ·cases h2:decide (l<=(m:Int))<;>rw[h2] at h
   ·cases h
   ·have h1:=of_decide_eq_true h1;have h2:=of_decide_eq_true h2;refine⟨l.toNat,h,Wr h1 h2,λX pl val hv=> ?_⟩;obtain⟨cs,r,e⟩:=hl X pl val hv;rw[e,mG r,Tk h1]
theorem SK{R:Type}{lo hi:Option SV}{n:Nat}{F:Nat->Nat->Option R}{z:R}(h:cutAt lo hi n F=some z):∃l m,F l m=some z/\l<=m/\m<=n/\oW lo l 0/\oW hi m n:=by
 unfold cutAt at h;cases hi with
 |none=>obtain⟨l,h1,h2,h3⟩:=zci h;exact⟨l,n,h1,h2,zag _,h3,rfl⟩
 |some v=>
  obtain⟨m,h,hm⟩:=hN h;cases h1:decide (0<=m)<;>rw[h1] at h
  ·cases h
  ·cases h2:decide (m<=(n:Int))<;>rw[h2] at h
   ·cases h
   ·have h1:=of_decide_eq_true h1;have h2:=of_decide_eq_true h2;have h:CL lo (Int.toNat m) (λl=>F l (Int.toNat m))=some z:=h;obtain⟨l,g1,g2,g3⟩:=zci h;refine⟨l,m.toNat,g1,g2,Wr h1 h2,g3,λX pl val hv=> ?_⟩;obtain⟨cs,r,e⟩:=hm X pl val hv;rw[e,mG r,Tk h1]
theorem oW.val(hr:Rel X s a){x:Option Operand}{n d:Nat}(h:oW (x.map s.aI) n d):(x=none/\n=d)\/x.map a.eval=some (.int .i64 (n:Int)):=by
 cases x with
 |none=>exact .inl ⟨rfl,h⟩
 |some x=>exact .inr (by rw[Option.map_some,h X _ _ (hr.aI x)])
theorem zg2(hr:Rel X s a){isS:Bool}{lo hi:Option Operand}{l m n c:Nat}(hl:oW (lo.map s.aI) l 0)(hm:oW (hi.map s.aI) m n)(h1:l<=m)(h2:m<=n)(h3:n<=c)(w:World):
 (zcI isS n c (lo.map a.eval) (hi.map a.eval) none).run P w= .ok (l,m,c) w:=by
 have sb:∀(i y:Nat) (code:BoundsCode),i<=y->(Instr.sliceBound (.int .i64 (i:Int)) y code).run P w= .ok i w:=by intro i y code h;rw[run_sliceBound (P:=P) (w:=w) .i64 (i:Int) y code (by omega) (by omega)];simp
 rcases hl.val hr with⟨rfl,rfl⟩|hl<;>rcases hm.val hr with⟨rfl,rfl⟩|hm
 ·simp [zcI]
 ·simp [zcI,hm,sb m c _ (by omega)]
 ·simp [zcI,hl,sb l m _ h1]
 ·simp [zcI,hl,hm,sb l m _ h1,sb m c _ (by omega)]
theorem ah9(hE:ak P E)(hr:Rel X s a){T:TypeId}{x:Operand}{lo hi:Option Operand}(ho:o.op= .slice T x lo hi none)(h:tE E T (s.aI x) (lo.map s.aI) (hi.map s.aI) some=some u):aJ P X s a o u:=by
 have hx:=hr.aI x;unfold tE at h;split at h
 ·rename_i hT;obtain⟨st,h,bY⟩:=hN h;obtain⟨l,m,h,h1,h2,hl,hm⟩:=SK h;cases h;obtain⟨cs,Sk,ev⟩:=bY X _ _ hx;rw[oJ Sk] at ev;have hu:=(hE.ty T _ hT).dJ;refine aJ.plain hr (v:= .string (st.extract l m)) ?_ Fu (λ_ _ _ e'=>by cases e');simp only[execOp,ho,BY,Instr.sliceAt,run_underlying hu,fv,Instr.slice,ev,Option.map_none,Option.isSome_none,zaW,if_false,zg2 hr hl hm h1 h2 (zag _),GP]
 ·rename_i e t hT;obtain⟨xs,h,tN⟩:=hN h;obtain⟨l,m,h,h1,h2,hl,hm⟩:=SK h;cases h;obtain⟨cs,G7,ev⟩:=tN X _ _ hx;obtain⟨A,c,iw,hle,fD⟩:=Cf G7;rw[iw] at ev;have hu:=(hE.ty T _ hT).dJ;have hlen:((It m xs).drop l).length=m-l:=by rw[zaD,Of,zaQ h2]
  refine aJ.plain hr (v:= .slice (if c=l then A else A.map (·.add (l*t.cells))) (m-l) (c-l)) ?_ ⟨_,bm.AZ (A:=if c=l then A else A.map (·.add (l*t.cells))) (n:=m-l) (c:=c-l) hlen (by omega) (λj y hj=> ?_),rfl,nm⟩ (λ_ _ _ e'=>by cases e')
  ·simp only[execOp,ho,BY,Instr.sliceAt,run_underlying hu.1,fv,Instr.slice,ev,Option.map_none,zg2 hr hl hm h1 h2 hle,GP,mF hE hu.2]
  ·have wN:=(AS.1 hj).1;rw[hlen] at wN;have Rm:xs[l+j]? =some y:=by rw[zas,zae,if_pos (by omega)] at hj;exact hj
   obtain⟨ad,fa,rfl,nj,aO,eN⟩:=fD (l+j) y Rm;rw[if_neg (by omega)];refine⟨ad.add (l*t.cells),fa,rfl,Ft nj _,aO,λi v hi=> ?_⟩;rw[zey _ nj,<-zdP,<-zaz];exact eN i v hi
 ·cases h
theorem aeU(hE:ak P E)(hr:Rel X s a){S T:TypeId}{x:Operand}(ho:o.op= .convert S T x)(h:mg E S T (s.aI x) some=some u):aJ P X s a o u:=by
 have hx:=hr.aI x;unfold mg at h;split at h
 ·rename_i k k' hS hT;obtain⟨n,h,hn⟩:=hN h;cases h;obtain⟨cs,rn,ev⟩:=hn X _ _ hx;rw[mG rn] at ev;have hu:=(hE.ty S _ hS).dJ;have hv:=(hE.ty T _ hT).dJ;refine aJ.plain hr (v:= .int k' (k'.wrap n)) ?_ j8 (λ_ _ _ e'=>by cases e');simp [execOp,ho,ev,convert,run_underlying hu,run_underlying hv,Conv.intToInt]
 ·rename_i hS hT;obtain⟨st,h,bY⟩:=hN h;cases h;obtain⟨cs,rn,ev⟩:=bY X _ _ hx;rw[oJ rn] at ev;have hu:=(hE.ty S _ hS).dJ;have hv:=(hE.ty T _ hT).dJ;refine aJ.plain hr (v:= .string st) ?_ Fu (λ_ _ _ e'=>by cases e');simp [execOp,ho,ev,convert,run_underlying hu,run_underlying hv]
 ·rename_i e hS hT;obtain⟨xs,h,tN⟩:=hN h;cases h;obtain⟨cs,G7,ev⟩:=tN X _ _ hx;obtain⟨A,c,iw,hle,fD⟩:=Cf G7;rw[iw] at ev;have hu:=(hE.ty S _ hS).dJ;have he:=(hE.ty e _ hu.2).dJ;have hv:=(hE.ty T _ hT).dJ;refine aJ.plain hr (v:= .string (strOf xs)) ?_ Fu (λ_ _ _ e'=>by cases e');have key:(convert S T (.slice A (aa xs) c)).run P X.w= .ok (.string (strOf xs)) X.w:=by
   cases A with
   |none=>
    have wT:xs=[]:=by
     cases xs with
     |nil=>rfl
     |cons y ys=>obtain⟨ad,_,h,_⟩:=fD 0 y rfl;cases h
    rw[run_convert_bytes_nil X.w S e hu.1 he _ _ T hv,wT];rfl
   |some ad=>
    rw[run_convert_bytes_string X.w S T e _ _ c hu.1 he hv];have lg:(loadCells ad (aa xs)).run P X.w= .ok (List.map (Value.int .u8) xs).toArray X.w:=by
     have:=run_loadCells_list (P:=P) X.w ad (List.map (Value.int .u8) xs) (λj v hj=>by obtain⟨y,hy,rfl⟩:=IN .. ▸hj|>nl.1;obtain⟨ss,fa,h1,nj,aO,eN⟩:=fD j y hy;cases h1;have hc:fa=[.int .u8 y]:=aO;have:=eN 0 (.int .u8 y) (by rw[hc];rfl);have h2:=this.2.1;simpa [Ty.cells] using h2)
     rw[List.length_map] at this;exact this
    rw[run_bytesToString X.w ad _ c xs lg,foldl_push_bytes];simp [strOf,ByteArray.empty,zeD];rfl
  simp only[execOp,ho,BY,ev,key,fv,GP]
 ·cases h
def aw.new(X:aw)(cs:Array Value)(T:TypeId)(w:Ow)(β:Nat->Option Nat):aw:={w:=X.w.alloc (.cells cs T),ow:=λg=>if g=X.w.heap.size then w else X.ow g,β}
theorem Zr(X:aw)(s:State)(cs:Array Value)(T:TypeId)(w:Ow)(β:Nat->Option Nat)(hβ0:β 0=X.β 0)(hβ:∀(id:Nat) B,s.bs[id]? =some (some B)->β id=X.β id):fq s X (X.new cs T w β) where
 size:=by simp [aw.new]
 os:=rfl
 tape:=rfl
 output:=rfl
 nJ:=λg hg=>⟨by simp only[aw.new];rw[if_neg (by omega)],RowKit.Below.heap_alloc _ _ _ hg⟩
 β0:=hβ0
 β:=hβ
theorem z93(X:aw)(cs:Array Value)(T:TypeId)(w:Ow)(β:Nat->Option Nat):(X.new cs T w β).w.heap[X.w.heap.size]? =some (.cells cs T (0,0))/\(X.new cs T w β).ow X.w.heap.size=w:=⟨heap_alloc_new X.w _,by simp [aw.new]⟩
theorem Za(T:TypeId)(v:Value)(w:World):(newVar T v).run P w= .ok ⟨w.heap.size,0,none⟩ (w.alloc (.cells v.cells T)):=by simp [newVar,newRow]
theorem Rel.fQ{Y:aw}(hr:Rel Y s a){d r:Nat}{B:bH}(hd:d<s.bs.length)(hb:s.bs[d]? =some none)(hβ:Y.β d=some r)(h:bK Y d r B):Rel Y (s.aE (some (d,B))) a where
 size:=hr.size
 ia:=by simpa [State.aE] using hr.ia
 bZ:=hr.bZ
 boxes:=λid B' eS=>by
  simp only[State.aE,vc] at eS;by_cases e:d=id
  ·subst e;rw[if_pos rfl,if_pos hd] at eS;cases eS;exact⟨r,hβ,h⟩
  ·rw[if_neg e] at eS;exact hr.boxes id B' eS
 live:=λi l id t p hi hm=>by
  obtain⟨B',eS⟩:=hr.live i l id t p hi hm;simp only[State.aE,vc];by_cases e:d=id
  ·subst e;rw[hb] at eS;cases eS
  ·rw[if_neg e];exact⟨B',eS⟩
 defers:=hr.defers
 bF:=hr.bF.aE (hr.bF.none λa b x own h=>by rw[hb] at h;cases h)
theorem sN{d:Nat}{B:bH}(h:s.box d=some B):s.bs[d]? =some (some B):=by
 unfold State.box at h;rw[be] at h;cases hg:s.bs[d]? with
 |none=>rw[hg] at h;cases h
 |some x=>rw[hg] at h;simp at h;rw[h]
theorem Ki(hr:Rel X s a){x:Operand}{t:Ty}{R:Type}{K:El t->Option R}{z:R}(h:(s.aI x).el t K=some z){c:List (Nat×Nat)}(hc:c=src x\/((s.aI x).own=[]/\c=[])):
 ∃y,K y=some z/\∀q:List Nat->Place,∃Y cs,Y.w=X.w/\Ext X Y/\Rel Y (s.close c) a/\bm Y t y cs/\a.eval x=er t cs/\bp Y q t y cs (s.aI x).own/\Y.β=X.β/\eI (s.close c) X Y/\mO X Y:=by
 have hx:=hr.aI x;cases hs:s.aI x with
 |aq t' y' w=>
  rw[hs] at hx h hc;simp only[SV.el] at h;split at h
  case isFalse=>cases h
  rename_i heq;have:=Ty.aK heq;subst this;refine⟨y',h,λq=> ?_⟩;have plain:w=[]->∃Y cs,Y.w=X.w/\Ext X Y/\Rel Y (s.close c) a/\bm Y t' y' cs/\a.eval x=er t' cs/\bp Y q t' y' cs (SV.aq t' y' w).own/\Y.β=X.β/\eI (s.close c) X Y/\mO X Y:=by intro hw;subst hw;obtain⟨cs,h1,h2,_⟩:=hx;exact⟨X,cs,rfl,Ext.refl X,hr.close _,h1,h2,nm,rfl,eI.refl _ _,mO.refl X⟩
  rcases hc with hc|⟨hw,_⟩
  ·cases x with
   |tmp i=>obtain⟨Y,h1,h2,h3,⟨cs,h4,h5,h6⟩,h7,h8,h9⟩:=hr.take hx q;subst hc;exact⟨Y,cs,h1,h2,h3,h4,h5,h6,h7,h8,h9⟩
   |const v=>exact plain (zlg (show FA v= .aq t' y' w from hs))
   |_=>simp [State.aI,State.AN,one] at hs
  ·exact plain hw
 |cR=>
  rw[hs] at hx h;cases t<;>simp only[SV.el] at h<;>try(cases h;done)
  rename_i e t;refine⟨[],h,λq=>⟨X,[.slice none 0 0],rfl,Ext.refl X,hr.close _,⟨none,0,rfl,zag _,λj x hj=>by simp at hj⟩,hx,λp hp=> ?_,rfl,eI.refl _ _,mO.refl X⟩⟩;have hp:p=[]:=by simpa [SV.own] using hp
  subst hp;exact⟨e,t,[],_,by simp [Ty.fe],rfl,rfl,.inl ⟨rfl,rfl⟩⟩
 |_=>rw[hs] at h;simp [SV.el] at h
theorem aJ.fQ{P:Program}(hr:Rel X s a){d:Nat}{T:TypeId}{t:Ty}{y:El t}{cs:List Value}{own:List (List Nat)}{c:List (Nat×Nat)}{W:aw}
 (eL:t.bO=false) (hd:o.dst=some d) (hb:s.bs[d+1]? =some none) (hW:W.w=X.w) (hX:Ext X W) (hrW:Rel W (s.close c) a) (aO:bm W t y cs)
 (b7:bp W (.b (d+1)) t y cs own)
 (aZ:(execOp a.eval o).run P X.w= .ok (.value (.pointer (some ⟨X.w.heap.size,0,none⟩))) (X.w.alloc (.cells cs.toArray T))):aJ P X s a o {v:=[.ptr (d+1) t []],bx:=some (d+1,⟨t,y,own⟩),cl:=c}:=by
 let β:Nat->Option Nat:=λid=>if id=d+1 then some W.w.heap.size else W.β id;have ap:d+1<s.bs.length:=(AS.1 hb).1;have jO:(s.close c).bs[d+1]? =some none:=by rw[Cn];exact hb
 have hk:fq (s.close c) W (W.new cs.toArray T (.box (d+1)) β):=Zr W _ _ _ _ _ (by show(if _ then _ else _)=_;rw[if_neg (by omega)]) (λid B hB=>by show(if id=d+1 then _ else _)=_;rw[if_neg (λe=>by rw[e,jO] at hB;cases hB)])
 obtain⟨n1,n2⟩:=z93 W cs.toArray T (.box (d+1)) β;have bS:bK (W.new cs.toArray T (.box (d+1)) β) (d+1) W.w.heap.size ⟨t,y,own⟩:=
  ⟨n2,dN.of eL n1 (by simpa using aO.aj (λ_ _=>hk.aB)) (by simpa using b7.dy hk)⟩
 have hβd:β (d+1)=some W.w.heap.size:=by show(if d+1=d+1 then _ else _)=_;rw[if_pos rfl]
 have fc:=(hrW.dy hk).fQ (by rw[Cn];exact ap) jO hβd bS;refine⟨W.new cs.toArray T (.box (d+1)) β,.pointer (some ⟨X.w.heap.size,0,none⟩),.inl ?_,hX.trans hk.ext,?_⟩
 ·rw[aZ];simp [aw.new,hW]
 ·rw[hd];refine fc.put (λd' e=> ?_) (λid t' p hm=> ?_)
  ·cases e;refine⟨W.w.heap.size,hβd,(sL eL).2 ⟨?_,by simp [Ty.fe]⟩⟩;rw[hW];simp [Ty.off]
  ·have:id=d+1:=by have:=hm;simp at this;exact this.1
   subst this;exact⟨⟨t,y,own⟩,by simp [State.aE,vc,Cn,ap]⟩
theorem zgp(hE:ak P E){T:TypeId}{t:Ty}(ht:E.ty T=some t)(w:World):(zeroValue T).run P w= .ok (er t (zr t)) w:=by obtain⟨i,h1,_,_,h2⟩:=(hE.ty T t ht).info;simp [zeroValue,typeInfo,h1,h2]
theorem Uy(X:aw)(pl:List Nat->Place):∀t:Ty,bp X pl t (El.b9 t) (zr t) (Cp t):=by
 intro t
 induction t generalizing pl with
 |sl e t=>
  intro p hp;have hp:p=[]:=by simpa [Cp] using hp
  subst hp;exact⟨e,t,[],.slice none 0 0,by simp [Ty.fe],rfl,rfl,.inl ⟨rfl,rfl⟩⟩
 |pair ta tb mZ m3=>
  intro p hp;simp only[Cp,M2,zau,List.mem_filterMap] at hp;rcases hp with⟨q,hq,rfl⟩|⟨q,hq,he⟩
  ·obtain⟨e,t',xs,v,g0,g1,g2,g3⟩:=mZ (λq=>pl (0::q)) q hq;refine⟨e,t',xs,v,g0,g1,?_,g3⟩;have hl:=(AS.1 g2).1;simp only[Ty.off,zr];rw[zap hl];exact g2
  ·cases q with
   |nil=>simp [bump] at he
   |cons j q=>simp only[bump,AI] at he;subst he;obtain⟨e,t',xs,v,g0,g1,g2,g3⟩:=m3 (λq=>match q with| []=>pl []|j::q=>pl ((j+1)::q)) (j::q) hq;refine⟨e,t',xs,v,g0,g1,?_,g3⟩;simp only[Ty.off,zr];rw[zaa (by rw[xD];omega),xD,zaS];exact g2
 |_=>intro p hp;simp [Cp] at hp
theorem aJ.GO{P:Program}(hr:Rel X s a){d:Nat}{T e:TypeId}(hd:o.dst=some d)(hb:s.bs[d+1]? =some none)
 (aZ:(execOp a.eval o).run P X.w= .ok (.value (.pointer (some ⟨X.w.heap.size,0,none⟩))) (X.w.alloc (.cells #[.pointer none,.slice none 0 0] T))):
 aJ P X s a o {v:=[.ptr (d+1) (.aY (.kl T e) .unit .unit) []],bx:=some (d+1,⟨.aY (.kl T e) .unit .unit,(⟨#[]⟩:ByteArray),[[]]⟩)}:=by
 let β:Nat->Option Nat:=λid=>if id=d+1 then some X.w.heap.size else X.β id;have ap:d+1<s.bs.length:=(AS.1 hb).1;have hk:fq s X (X.new #[.pointer none,.slice none 0 0] T (.box (d+1)) β):=Zr X _ _ _ _ _ (by show(if _ then _ else _)=_;rw[if_neg (by omega)]) (λid B hB=>by show(if id=d+1 then _ else _)=_;rw[if_neg (λe=>by rw[e,hb] at hB;cases hB)])
 obtain⟨n1,n2⟩:=z93 X #[.pointer none,.slice none 0 0] T (.box (d+1)) β;have bS:bK (X.new #[.pointer none,.slice none 0 0] T (.box (d+1)) β) (d+1) X.w.heap.size ⟨.aY (.kl T e) .unit .unit,(⟨#[]⟩:ByteArray),[[]]⟩:=
  ⟨n2,⟨_,n1⟩,λ_=>⟨.slice none 0 0,⟨.inl n1,⟨rfl,.inl ⟨rfl,rfl⟩⟩,by simp [zcE]⟩,λg hg=>by simp [zcE] at hg⟩⟩
 have hβd:β (d+1)=some X.w.heap.size:=by show(if d+1=d+1 then _ else _)=_;rw[if_pos rfl]
 have fc:=(hr.dy hk).fQ ap hb hβd bS;refine⟨X.new #[.pointer none,.slice none 0 0] T (.box (d+1)) β,.pointer (some ⟨X.w.heap.size,0,none⟩),.inl aZ,hk.ext,?_⟩;rw[hd];refine fc.put (λd' e=> ?_) (λid t' p hm=> ?_)
 ·cases e;exact⟨X.w.heap.size,hβd,(Zt rfl).2 ⟨by simp [Ty.off],by simp [Ty.fe]⟩⟩
 ·have:id=d+1:=by have:=hm;simp at this;exact this.1
  subst this;exact⟨_,by simp [State.aE,vc,ap];rfl⟩
theorem aJ.GQ{P:Program}(hr:Rel X s a){d:Nat}{T:TypeId}{ta tb:Ty}(hd:o.dst=some d)(hb:s.bs[d+1]? =some none)
 (aZ:(execOp a.eval o).run P X.w= .ok (.value (.pointer (some ⟨X.w.heap.size,0,none⟩))) (X.w.alloc (.cells (zr ta++ [Value.pointer none,Value.pointer none,Value.int .i64 0]).toArray T))):aJ P X s a o {v:=[.ptr (d+1) (.aY .cX ta tb) []],bx:=some (d+1,⟨.aY .cX ta tb,(El.b9 ta,(none,none),(0:Int)),[]::lX⟩)}:=by
 let β:Nat->Option Nat:=λid=>if id=d+1 then some X.w.heap.size else X.β id;have ap:d+1<s.bs.length:=(AS.1 hb).1;have hk:fq s X (X.new (zr ta++ [Value.pointer none,Value.pointer none,Value.int .i64 0]).toArray T (.box (d+1)) β):=Zr X _ _ _ _ _ (by show(if _ then _ else _)=_;rw[if_neg (by omega)]) (λid B hB=>by show(if id=d+1 then _ else _)=_;rw[if_neg (λe=>by rw[e,hb] at hB;cases hB)])
 obtain⟨n1,n2⟩:=z93 X (zr ta++ [Value.pointer none,Value.pointer none,Value.int .i64 0]).toArray T (.box (d+1)) β;have bS:bK (X.new (zr ta++ [Value.pointer none,Value.pointer none,Value.int .i64 0]).toArray T (.box (d+1)) β) (d+1) X.w.heap.size ⟨.aY .cX ta tb,(El.b9 ta,(none,none),(0:Int)),[]::lX⟩:=
  ⟨n2,⟨_,n1⟩,λ_=>⟨zr ta,.pointer none,.pointer none,T,n1,(uL X ta).aj (λ_ _=>hk.aB),rfl,rfl⟩⟩
 have hβd:β (d+1)=some X.w.heap.size:=by show(if d+1=d+1 then _ else _)=_;rw[if_pos rfl]
 have fc:=(hr.dy hk).fQ ap hb hβd bS;refine⟨X.new _ T (.box (d+1)) β,.pointer (some ⟨X.w.heap.size,0,none⟩),.inl aZ,hk.ext,?_⟩;rw[hd];refine fc.put (λd' e=> ?_) (λid t' p hm=> ?_)
 ·cases e;exact⟨X.w.heap.size,hβd,rfl,trivial⟩
 ·have:id=d+1:=by have:=hm;simp at this;exact this.1
  subst this;exact⟨⟨.aY .cX ta tb,(El.b9 ta,(none,none),(0:Int)),[]::lX⟩,by simp [State.aE,vc,ap]⟩
theorem aeP(hE:ak P E)(hr:Rel X s a){ops:List Oper}{T:TypeId}(ho:o.op= .alloc T){C:FuncId->cc Out}(h:act E C ops o s some=some u):aJ P X s a o u:=by
 unfold act at h;simp only[ho] at h;split at h
 case h_3=>cases h
 case h_2=>
  rename_i d hT hd;split at h
  ·rename_i ta tb Gs;split at h
   case h_2=>cases h
   rename_i hb;cases h;obtain⟨i,h1,h2⟩:=hE.gz T ta tb Gs;refine aJ.GQ hr hd hb (T:=T) ?_;have hz:(zeroValue T).run P X.w= .ok (.agg (zr ta++ [Value.pointer none,Value.pointer none,Value.int .i64 0]).toArray) X.w:=by simp [zeroValue,typeInfo,h1,h2]
   simp only[execOp,ho,BY,zhD,hz,fv,Za,GP];rfl
  split at h
  case h_2=>cases h
  rename_i e Gg;split at h
  case h_2=>cases h
  rename_i hb;cases h;obtain⟨i,h1,h2⟩:=hE.bl T e Gg;refine aJ.GO hr hd hb ?_;have hz:(zeroValue T).run P X.w= .ok (.agg #[.pointer none,.slice none 0 0]) X.w:=by simp [zeroValue,typeInfo,h1,h2]
  simp only[execOp,ho,BY,zhD,hz,fv,Za,GP];rfl
 rename_i t d hT hd;split at h
 case h_2=>cases h
 rename_i hb;cases h;have aO:=uL X t;refine aJ.fQ (T:=T) (cs:=zr t) (W:=X) (c:=[]) hr (hE.jF hT) hd hb rfl (Ext.refl X) hr aO (Uy X _ t) ?_;simp only[execOp,ho,BY,zhD,zgp hE hT,fv,Za,yf aO,GP]
theorem ami(hE:ak P E)(hr:Rel X s a){ops:List Oper}{T:TypeId}{x:Operand}(ho:o.op= .box T x){C:FuncId->cc Out}(h:act E C ops o s some=some u):aJ P X s a o u:=by
 unfold act at h;simp only[ho] at h;split at h
 case h_2=>cases h
 rename_i t d hT hd;split at h
 case h_2=>cases h
 rename_i hb;obtain⟨y,h,hy⟩:=Ki hr h (.inl rfl);cases h;obtain⟨W,cs,h1,h2,h3,h4,h5,h6,_,_,_⟩:=hy (.b (d+1));refine aJ.fQ (T:=T) (cs:=cs) (W:=W) hr (hE.jF hT) hd hb h1 h2 h3 h4 h6 ?_;simp only[execOp,ho,BY,Instr.box,Za,fv,GP,h5,yf h4]
end Go.Ref

namespace Go.Ref
open Go
variable {P:Program} {E:Env} {X:aw} {s:State} {a:Act} {o:Oper} {u:Out}
theorem Fl(hE:ak P E){T:TypeId}{t:Ty}(ht:E.ty T=some t){x:El t}{cs:List Value}(hr:bm X t x cs){ad:Addr}{w:World}(hc:∀(i:Nat) v,cs[i]? =some v->w.cell? (ad.add i)=some v):(loadVar T ad).run P w= .ok (er t cs) w:=by
 have hl:=hr.len;unfold loadVar;simp only[BY,Uq hE ht,fv];cases hg:t.agg with
 |true=>have:=run_loadCells_list (P:=P) w ad cs hc;rw[hl] at this;simp only[if_true,BY,mF hE ht,fv,this,GP,kz hg]
 |false=>
  have h1:t.cells=1:=by cases t<;>simp_all [Ty.agg,Ty.cells]
  rw[h1] at hl
  match cs,hl with
  | [c],_=>
    rw[zfe hg];have:=hc 0 c rfl;have h0:ad.add 0=ad:=by simp [Addr.add]
    rw[h0] at this;simp only[zaW,if_false,run_load,this]
theorem Fm{own:List (List Nat)}{p:List Nat}(h:hP own p=true):p∈own:=by unfold hP at h;obtain⟨q,hq,he⟩:=List.any_eq_true.1 h;rw[<-eq_of_beq he];exact hq
theorem zcj{own:List (List Nat)}{p q:List Nat}(h:q∈CD own p):q∈own/\p.isPrefixOf q=false:=by unfold CD at h;rw[zab] at h;exact⟨h.1,by simpa using h.2⟩
theorem zff{t:Ty}(h:t.bO=false):t.ff=false:=by cases t<;>first|rfl|cases h
theorem Rel.pS(hr:Rel X s a){id:Nat}{B:bH}(hb:s.bs[id]? =some (some B))(hg:B.t.ff=false\/ []∈B.own):∀(i:Nat) (l:List SV) a b j,s.sl[i]? =some l->SV.bF id a b j∈l->False:=hr.bF.none λc d x own h=>by rw[hb] at h;cases h;exact hg.resolve_left λe=>by cases e
theorem Rel.m6{Y:aw}(hr:Rel Y s a){id r:Nat}{B B':bH}(hb:s.bs[id]? =some (some B))(hβ:Y.β id=some r)(h:bK Y id r B')(hg:B.t.ff=false\/ []∈B.own):Rel Y (s.aE (some (id,B'))) a where
 size:=hr.size
 ia:=by simpa [State.aE] using hr.ia
 bZ:=hr.bZ
 boxes:=λbf B2 df=>by
  have ap:id<s.bs.length:=(AS.1 hb).1;simp only[State.aE,vc] at df;by_cases e:id=bf
  ·subst e;rw[if_pos rfl,if_pos ap] at df;cases df;exact⟨r,hβ,h⟩
  ·rw[if_neg e] at df;exact hr.boxes bf B2 df
 live:=λi l bf t p hi hm=>by
  have ap:id<s.bs.length:=(AS.1 hb).1;obtain⟨B2,df⟩:=hr.live i l bf t p hi hm;simp only[State.aE,vc];by_cases e:id=bf
  ·subst e;exact⟨B',by rw[if_pos rfl,if_pos ap]⟩
  ·rw[if_neg e];exact⟨B2,df⟩
 defers:=hr.defers
 bF:=hr.bF.aE (hr.bF.none λc d x own h=>by rw[hb] at h;cases h;exact hg.resolve_left λe=>by cases e)
theorem z9h{id:Nat}{B B':bH}(hb:s.bs[id]? =some (some B)):(s.aE (some (id,B'))).bs[id]? =some (some B'):=by have ap:id<s.bs.length:=(AS.1 hb).1;simp [State.aE,vc,ap]
theorem zg3{r off i:Nat}{cs:Array Value}{T:TypeId}{w:World}(h:w.heap[r]? =some (.cells cs T (0,0))){k:Nat}{v:Value}(hv:((cs.toList.drop off).take k)[i]? =some v):w.cell? ((⟨r,off,none⟩:Addr).add i)=some v:=by
 rw[jv];rw[zae] at hv;split at hv
 ·rw[zas] at hv;simpa [zaP,h] using hv
 ·cases hv
theorem fB:∀(t:Ty) (p:List Nat) (u:Ty),t.at_ p=some u->t.fe p->t.off p+u.cells<=t.cells:=by
 intro t
 induction t with
 |arr n t ih=>
  intro p u h hp;cases p with
  |nil=>simp only[Ty.at_,AI] at h;subst h;simp [Ty.off]
  |cons i p=>have:=ih p u h hp.2;have hn:(i+1)*t.cells<=n*t.cells:=zai _ hp.1;rw[zaz,za5] at hn;simp only[Ty.off,Ty.cells];omega
 |pair x y RY RZ=>
  intro p u h hp;cases p with
  |nil=>simp only[Ty.at_,AI] at h;subst h;simp [Ty.off]
  |cons i p=>
   cases i with
   |zero=>have:=RY p u h hp;simp only[Ty.off,Ty.cells];omega
   |succ i=>have:=RZ (i::p) u h hp;simp only[Ty.off,Ty.cells];omega
 |_=>
  intro p u h hp;cases p with
  |nil=>simp only[Ty.at_,AI] at h;subst h;simp [Ty.off]
  |cons i p=>simp [Ty.at_] at h
theorem ara{t:Ty}{p:List Nat}{e:TypeId}{t':Ty}(h:t.fe p)(cq:t.at_ p=some (.sl e t')):t.off p<t.cells:=by have:=fB t p _ cq h;simp only[Ty.cells] at this;omega
theorem ae6:∀{t:Ty} {p q:List Nat} {x:El t} {u:Ty} {y:El u} {r:(u:Ty)×El u},El.get t p x=some ⟨u,y⟩->t.fe (p++q)->El.get t (p++q) x=some r->u.fe q/\El.get u q y=some r:=by
 intro t
 induction t with
 |arr n t ih=>
  intro p q x u y r h1 h2 h3;cases p with
  |nil=>simp only[El.get,AI,zbV] at h1;obtain⟨rfl,h1⟩:=h1;cases h1;exact⟨h2,h3⟩
  |cons i p=>exact ih h1 h2.2 h3
 |pair ta tb mZ m3=>
  intro p q x u y r h1 h2 h3;cases p with
  |nil=>simp only[El.get,AI,zbV] at h1;obtain⟨rfl,h1⟩:=h1;cases h1;exact⟨h2,h3⟩
  |cons i p=>
   cases i with
   |zero=>exact mZ h1 h2 h3
   |succ i=>exact m3 (p:=i::p) h1 h2 h3
 |_=>
  intro p q x u y r h1 h2 h3;cases p with
  |nil=>simp only[El.get,AI,zbV] at h1;obtain⟨rfl,h1⟩:=h1;cases h1;exact⟨h2,h3⟩
  |cons i p=>simp [El.get] at h1
def aw.ig(X:aw)(id:Nat)(p:List Nat)(q:List Nat->Place):aw:=
 {X with ow:=λg=>match X.ow g with
  | .row (.b bf p') n=>if bf=id/\p.isPrefixOf p'=true then .row (q (p'.drop p.length)) n else .row (.b bf p') n
  |w=>w}
theorem Tl{s:State}{X:aw}{id:Nat}{p:List Nat}{q:List Nat->Place}(h:∀p',¬dg s (.b id (p++p'))):eI s X (X.ig id p q):=by
 refine⟨rfl,rfl,λg=> ?_⟩;simp only[aw.ig];cases hg:X.ow g with
 |row pl n=>
  cases pl with
  |b bf p'=>
   by_cases e:bf=id/\p.isPrefixOf p'=true
   ·obtain⟨rfl,hp⟩:=e;obtain⟨r,rfl⟩:=zdp.1 hp;exact .inr ⟨_,n,q r,rfl,h r,by simp⟩
   ·exact .inl (if_neg e)
  |_=>exact .inl rfl
 |_=>exact .inl rfl
theorem bB.sJ{X:aw}{id:Nat}{p r:List Nat}{q:List Nat->Place}{e:TypeId}{k n:Nat}{v:Value}(h:bB X (.b id (p++r)) e k n v):bB (X.ig id p q) (q r) e k n v:=by
 rcases h with h|⟨g,cap,cur,h1,h2,h3,h4,h5,h6⟩
 ·exact .inl h
 ·exact .inr ⟨g,cap,cur,h1,h2,h3,h4,h5,by simp [aw.ig,h6]⟩
theorem MI(hr:Rel X s a){id:Nat}{t b:Ty}{B:bH}(hB:s.box id=some B)(h:B.t.cB (.aY .row t b)=true):s.bs[id]? =some (some B)/\∃r,X.β id=some r/\X.ow r= .box id/\∃cs T,X.w.heap[r]? =some (.cells cs T (0,0))/\cs.size=aa (Ty.cast h B.x:List (El t))*t.cells/\
 ∀(j:Nat) (x:El t),(Ty.cast h B.x:List (El t))[j]? =some x->bm X t x ((cs.toList.drop (j*t.cells)).take t.cells):=by
 have hb:=sN hB;obtain⟨r,h1,h2,h3⟩:=hr.boxes id B hb;refine⟨hb,r,h1,h2,?_⟩;obtain⟨bt,bx,bo⟩:=B;have e:=Ty.aK h;simp only at e;subst e;obtain⟨cs,T,g1,g2,g3⟩:=h3;exact⟨cs,T,g1,g2,g3⟩
theorem aeT(hE:ak P E)(hr:Rel X s a){S T:TypeId}{x:Operand}(ho:o.op= .convert S T x){id n:Nat}{ta tb:Ty}(dU:s.aI x= .ptr id (.aY (.hJ n) ta tb) [])(h:kY E S T s id n ta tb some=some u):aJ P X s a o u:=by
 have hx:=hr.aI x;rw[dU] at hx;obtain⟨r0,hβ,cap,hv,nR⟩:=hx;unfold kY at h;split at h
 case h_2=>cases h
 rename_i e hS hT;split at h
 case isFalse=>cases h
 rename_i heq;have:=Ty.aK heq;subst this;split at h
 case h_2=>cases h
 rename_i B hB;split at h
 case isFalse=>cases h
 rename_i dp;obtain⟨hb,r,h1,h2,cs,T',aF,dd,fD⟩:=MI hr hB dp;rw[hβ] at h1;cases h1;generalize(Ty.cast dp B.x:List Int)=xs at*;cases hn:xz n (aa xs) with
 |false=>rw[hn] at h;cases h
 |true=>
  rw[hn] at h;cases h;have hn:=DD hn;subst hn;have hu:=(hE.ty S _ hS).dJ;have he:=(hE.ty e _ hu.2).dJ;have hT:=(hE.ty T _ hT).dJ;refine aJ.plain hr (v:= .string (strOf xs)) ?_ Fu (λ_ _ _ e'=>by cases e');have key:(convert S T (.slice (some ⟨r0,0,none⟩) (aa xs) cap)).run P X.w= .ok (.string (strOf xs)) X.w:=by
   rw[run_convert_bytes_string X.w S T e _ _ cap hu.1 he hT];have lg:(loadCells ⟨r0,0,none⟩ (aa xs)).run P X.w= .ok (List.map (Value.int .u8) xs).toArray X.w:=by
    have:=run_loadCells_list (P:=P) X.w ⟨r0,0,none⟩ (List.map (Value.int .u8) xs) (λj v hj=>by obtain⟨y,hy,rfl⟩:=IN .. ▸hj|>nl.1;have hc:(cs.toList.drop (j*1)).take 1=[.int .u8 y]:=fD j y hy;have h0:=congrArg (λl=>l[0]?) hc;simp only[zae,zas] at h0;simp only[Nat.zero_lt_one,if_true,Nat.mul_one,zde,zaB] at h0;rw[jv,zat];simpa [zaP,aF] using h0)
    rw[List.length_map] at this;exact this
   rw[run_bytesToString X.w _ _ cap xs lg,foldl_push_bytes];simp [strOf,ByteArray.empty,zeD];rfl
  simp only[execOp,ho,BY,hv,key,fv,GP]
theorem ah7(hE:ak P E)(hr:Rel X s a){ops:List Oper}{S T:TypeId}{x:Operand}(ho:o.op= .convert S T x){C:FuncId->cc Out}(h:act E C ops o s some=some u):aJ P X s a o u:=by
 unfold act at h;simp only[ho] at h;split at h
 ·rename_i id n ta tb dU;exact aeT hE hr ho dU h
 ·exact aeU hE hr ho h
theorem MF(hr:Rel X s a){id:Nat}{ta tb:Ty}{R:Type}{K:El (.aY .cX ta tb)->List (List Nat)->Option R}{z:R}(h:oU s id ta tb K=some z):
 ∃(x:El (.aY .cX ta tb)) (own:List (List Nat)) (r:Nat),s.bs[id]? =some (some ⟨.aY .cX ta tb,x,own⟩)/\K x own=some z/\(∀p∈lX,p∈own)/\X.β id=some r/\X.ow r= .box id/\iM X r (.b id) ta tb x:=by
 unfold oU at h;split at h
 case h_2=>cases h
 rename_i B hB;split at h
 case isFalse=>cases h
 rename_i dp;have hb:=sN hB;obtain⟨bt,bx,bo⟩:=B;have e:=Ty.aK dp;simp only at e;subst e;cases ho:lX.all (hP bo) with
 |false=>simp only[ho] at h;cases h
 |true=>
  simp only[ho,cond_true] at h;have b7:∀p∈lX,p∈bo:=λp hp=>by
   have:=OF.1 ho p hp;unfold hP at this;obtain⟨q,h1,h2⟩:=List.any_eq_true.1 this;have:q=p:=by simpa using h2
   rw[<-this];exact h1
  obtain⟨r,h1,h2,h3⟩:=hr.boxes id _ hb;exact⟨bx,bo,r,hb,h,b7,h1,h2,h3.2 b7⟩
theorem zw5{w:World}{r k:Nat}{l:List Value}{T:TypeId}{v:Value}(h:w.heap[r]? =some (.cells l.toArray T (0,0)))(hv:l[k]? =some v):w.cell? ⟨r,k,none⟩=some v:=by simp only[zaP,h];simpa using hv
theorem Rel.G2(hr:Rel X s a){d:Option Nat}{id j:Nat}{ta tb:Ty}{x:El (.aY .cX ta tb)}{own:List (List Nat)}{v:Value}(hb:s.bs[id]? =some (some ⟨.aY .cX ta tb,x,own⟩))(ho: []∉own)
 (oP:∀(i:Nat) (l:List SV) a b j,s.sl[i]? =some l->SV.bF id a b j∈l->False) (hv:∀pl,aC X pl (.bF id ta tb j) v):Rel X (s.au d [.bF id ta tb j]) (a.put d v):=by
 cases d with
 |none=>exact hr
 |some d=>
  have eP:∀(i:Nat) (l:List SV),(s.au (some d) [.bF id ta tb j]).sl[i]? =some l->(i=d/\l=[.bF id ta tb j])\/(i≠d/\s.sl[i]? =some l):=λi l hi=>by
   simp only[State.au,vc] at hi;by_cases e:d=i
   ·rw[if_pos e] at hi;split at hi
    ·cases hi;exact .inl ⟨e.symm,rfl⟩
    ·cases hi
   ·rw[if_neg e] at hi;exact .inr ⟨λh=>e h.symm,hi⟩
  refine⟨by simpa [State.au,Act.put] using hr.size,by simpa [State.au] using hr.ia,λi l v' hi jS=> ?_,hr.boxes,λi l bf t p hi hm=> ?_,hr.defers,λi l bf a' b' j' hi hm=> ?_⟩
  ·simp only[Act.put,zbF] at jS;rcases eP i l hi with⟨rfl,rfl⟩|⟨bR,hi⟩
   ·rw[if_pos rfl] at jS;split at jS
    ·cases jS;exact hv (.c i 0)
    ·cases jS
   ·rw[if_neg (λe=>bR e.symm)] at jS;exact hr.bZ i l v' hi jS
  ·rcases eP i l hi with⟨rfl,rfl⟩|⟨_,hi⟩
   ·simp at hm
   ·exact hr.live i l bf t p hi hm
  ·rcases eP i l hi with⟨rfl,rfl⟩|⟨bR,wM⟩
   ·simp only[List.mem_singleton,SV.bF.injEq] at hm;obtain⟨rfl,rfl,rfl,rfl⟩:=hm;refine⟨rfl,⟨x,own,hb,ho⟩,λi' l' a' b' j' Ap uD=> ?_⟩;rcases eP i' l' Ap with⟨e1,_⟩|⟨_,hi3⟩
    ·exact e1
    ·exact(oP i' l' a' b' j' hi3 uD).elim
   ·obtain⟨g1,g2,g3⟩:=hr.bF i l bf a' b' j' wM hm;refine⟨g1,g2,λi' l' a'' b'' j'' Ap uD=> ?_⟩;rcases eP i' l' Ap with⟨_,e2⟩|⟨_,hi3⟩
    ·rw[e2] at uD;simp only[List.mem_singleton,SV.bF.injEq] at uD;obtain⟨e3,_,_,_⟩:=uD;rw[e3] at hm;exact(oP i l a' b' j' wM hm).elim
    ·exact g3 i' l' a'' b'' j'' hi3 uD
theorem aeY(hE:ak P E)(hr:Rel X s a){T:TypeId}{x:Operand}(ho:o.op= .load T x)(h:lv E T s (s.aI x) some=some u):aJ P X s a o u:=by
 have hx:=hr.aI x;unfold lv at h;split at h
 case h_2=>cases h
 rename_i id ta tb j dU;rw[dU] at hx;obtain⟨r0,hβ,hv,hj⟩:=hx;have hv:a.eval x= .pointer (some ⟨r0,ta.cells+j,none⟩):=hv;have hj:j<2:=hj;split at h
 case isFalse=>cases h
 rename_i jQ;obtain⟨e,hu⟩:=hE.pt T jQ;obtain⟨x0,own,r,hb,h,b7,h1,how,c,p0,p1,T',aF,aO,uE,uF⟩:=MF hr h;rw[hβ] at h1;cases h1;cases iw:hP own [] with
 |false=>rw[iw] at h;cases h
 |true=>
 rw[iw,cond_true] at h;cases h;have iw:=Fm iw;obtain⟨v,eb⟩:∃v,(c++ [p0,p1,Value.int .i64 x0.2.2])[ta.cells+j]? =some v:=by
  rw[zaa (by rw[aO.len];omega),aO.len,zaS]
  match j,hj with
  |0,_=>exact⟨_,rfl⟩
  |1,_=>exact⟨_,rfl⟩
 have hc:=zw5 aF eb;have aZ:(execOp a.eval o).run P X.w= .ok (.value v) X.w:=by
  have hl:(loadVar T ⟨r0,ta.cells+j,none⟩).run P X.w= .ok v X.w:=by
   unfold loadVar;have hag:(isAgg T).run P X.w= .ok false X.w:=by simp [isAgg,run_underlying hu]
   simp only[BY,hag,fv,zaW,if_false,run_load,hc]
  simp only[execOp,ho,BY,zdf,hv,Instr.sureAddr,GP,fv,hl]
 have hg:iM X r0 (.b id) ta tb x0:=⟨c,p0,p1,T',aF,aO,uE,uF⟩
 have iZ:=hr.bF.none (d:=id) λa' b' x' kv h=>by rw[hb] at h;cases h;exact iw
 have dX:=hr.m6 (B':=⟨.aY .cX ta tb,x0,own.filter λq=> !q.isEmpty⟩) hb hβ ⟨how,⟨_,aF⟩,λ_=>hg⟩ (.inr iw);refine⟨X,v,.inl aZ,Ext.refl X,dX.G2 (z9h hb) (λhm=> ?_) iZ λpl=>⟨r0,hβ,how,hc⟩⟩;have:=(zab.1 hm).2;simp at this
theorem adx(hE:ak P E)(hr:Rel X s a){T:TypeId}{u':Ty}{x:Operand}(ho:o.op= .load T x)(hT:E.ty T=some u'){id:Nat}{t:Ty}{p:List Nat}(dU:s.aI x= .ptr id t p)(h:MG u' s id t p some=some u):aJ P X s a o u:=by
 have hx:=hr.aI x;rw[dU] at hx;obtain⟨r0,hβ,hv⟩:=hx;unfold MG at h;split at h
 case h_4=>cases h
 case h_2=>
  rename_i ta tb;split at h
  case isFalse=>cases h
  rename_i heq;have:=Ty.aK heq;subst this;obtain⟨x0,own,r,hb,h,_,h1,h2,c,p0,p1,T',aF,aO,_⟩:=MF hr h;rw[hβ] at h1;cases h1;cases h;have hv:a.eval x= .pointer (some ⟨r0,0,none⟩):=by have:=hv.1;rw[this];simp [nN,Ty.off]
  refine aJ.plain hr ?_ (FD aO) (λ_ _ _ e'=>by cases e');have hl:=Fl hE hT aO (ad:=⟨r0,0,none⟩) (w:=X.w) (λj v hj=>by rw[jv,zat];refine zw5 aF ?_;rw[zap ((AS.1 hj).1)];exact hj)
  simp only[execOp,ho,BY,zdf,hv,Instr.sureAddr,GP,fv,hl]
 case h_3=>
  rename_i ta tb;split at h
  case isFalse=>cases h
  rename_i heq;have:=Ty.aK heq;subst this;obtain⟨x0,own,r,hb,h,_,h1,h2,c,p0,p1,T',aF,aO,_⟩:=MF hr h;rw[hβ] at h1;cases h1;cases h;have hv:a.eval x= .pointer (some ⟨r0,ta.cells+2,none⟩):=hv.1;have hl:=Fl (P:=P) hE hT (X:=X) (x:=x0.2.2) (cs:=[.int .i64 x0.2.2]) rfl (ad:=⟨r0,ta.cells+2,none⟩) (w:=X.w) (λj v hj=>by
   cases j with
   |succ j=>simp at hj
   |zero=>rw[jv,zde];refine zw5 aF ?_;rw[zaa (by rw[aO.len];omega),aO.len,zaS];exact hj)
  refine aJ.plain hr (v:=er (.int .i64) [.int .i64 x0.2.2]) ?_ j8 (λ_ _ _ e'=>by cases e');simp only[execOp,ho,BY,zdf,hv,Instr.sureAddr,GP,fv,hl]
 rename_i ta tb i;split at h
 case h_2=>cases h
 rename_i B hB;split at h
 case isFalse=>cases h
 rename_i dp;split at h
 case isFalse=>cases h
 rename_i heq;have:=Ty.aK heq;subst this;obtain⟨hb,r,h1,h2,cs,T',aF,dd,fD⟩:=MI hr hB dp;rw[hβ] at h1;cases h1;generalize(Ty.cast dp B.x:List (El u'))=xs at*;cases hn:zaL (i+1) (aa xs) with
 |false=>rw[hn] at h;cases h
 |true=>rw[hn] at h;cases h;have ap:i<aa xs:=zaK hn;have aO:=fD i _ (getD_some (El.b9 u') ap);have hv:a.eval x= .pointer (some ⟨r0,i*u'.cells,none⟩):=hv;refine aJ.plain hr ?_ (FD aO) (λ_ _ _ e'=>by cases e');have hl:=Fl hE hT aO (ad:=⟨r0,i*u'.cells,none⟩) (w:=X.w) (λj v hj=>zg3 aF hj);simp only[execOp,ho,BY,zdf,hv,Instr.sureAddr,GP,fv,hl]
theorem adw(hE:ak P E)(hr:Rel X s a){T:TypeId}{u':Ty}{x:Operand}(ho:o.op= .load T x)(hT:E.ty T=some u'){id:Nat}{t:Ty}{p:List Nat}(dU:s.aI x= .ptr id t p){B:bH}(hB:s.box id=some B)(h:Oy u' B t p some=some u):aJ P X s a o u:=by
 have hx:=hr.aI x;rw[dU] at hx;obtain⟨r0,hβ,hv⟩:=hx;unfold Oy at h;split at h
 case h_2=>cases h
 rename_i n e;split at h
 case isFalse=>cases h
 rename_i dp;split at h
 case isFalse=>cases h
 rename_i heq;have:=Ty.aK heq;subst this;obtain⟨hb,r,h1,h2,cs,T',aF,dd,fD⟩:=MI hr hB dp;rw[hβ] at h1;cases h1;generalize(Ty.cast dp B.x:List (El e))=xs at*;cases hn:xz n (aa xs) with
 |false=>rw[hn] at h;cases h
 |true=>
  rw[hn] at h;cases h;have hn:=DD hn;have aO:bm X (.arr n e) xs cs.toList:=⟨hn.symm,by rw[hn];simpa using dd,fD⟩
  have hv:=((sL rfl).1 hv).1;have hv:a.eval x= .pointer (some ⟨r0,0,none⟩):=by rw[hv];rfl
  refine aJ.plain hr ?_ (FD aO) (λ_ _ _ e'=>by cases e');have hl:=Fl hE hT aO (ad:=⟨r0,0,none⟩) (w:=X.w) (λj v hj=>zg3 (off:=0) (k:=cs.toList.length) aF (by rw[GS,zaH];exact hj));simp only[execOp,ho,BY,zdf,hv,Instr.sureAddr,GP,fv,hl]
theorem aia(hE:ak P E)(hr:Rel X s a){ops:List Oper}{T:TypeId}{x:Operand}(ho:o.op= .load T x){C:FuncId->cc Out}(h:act E C ops o s some=some u):aJ P X s a o u:=by
 unfold act at h;simp only[ho] at h;have hx:=hr.aI x;unfold load at h;split at h
 case h_2=>exact aeY hE hr ho h
 rename_i u' hT;split at h
 ·rename_i t y e;rw[e] at hx;obtain⟨ad,cs,hv,nj,aO,eN⟩:=hx;split at h
  case isFalse=>cases h
  rename_i heq;have:=Ty.aK heq;subst this;cases h;refine aJ.plain hr ?_ (FD aO) (λ_ _ _ e'=>by cases e');have hl:=Fl hE hT aO (ad:=ad) (w:=X.w) (λi v hi=>(eN i v hi).2.1);simp only[execOp,ho,BY,zdf,hv,Instr.sureAddr,GP,fv,hl]
 ·rename_i id t p e;rw[e] at hx;obtain⟨r,hβ,hx⟩:=hx;split at h
  ·exact adx hE hr ho hT e h
  rename_i eL;have eL:t.bO=false:=by simpa using eL
  obtain⟨hv,dD⟩:=(sL eL).1 hx;split at h
  case h_2=>cases h
  rename_i B hB;split at h
  case isFalse=>exact adw hE hr ho hT e hB h
  rename_i heq;have dp:=Ty.aK heq;split at h
  case h_2=>cases h
  rename_i ut y cM;split at h
  case isFalse=>cases h
  rename_i Gm;have:=Ty.aK Gm;subst this;have hb:=sN hB;obtain⟨r',hβ',wF⟩:=hr.boxes id B hb;rw[hβ] at hβ';cases hβ';subst dp;obtain⟨cs,T',aF,aO,how,b7⟩:=wF.cells eL;obtain⟨k1,k2,k3⟩:=zfa aO dD cM;have hl:=Fl hE hT k3 (ad:=⟨r,B.t.off p,none⟩) (w:=X.w) (λi v hi=>zg3 aF hi);have aZ:(execOp a.eval o).run P X.w= .ok (.value (er u' ((cs.toList.drop (B.t.off p)).take u'.cells))) X.w:=by simp only[execOp,ho,BY,zdf,hv,Instr.sureAddr,GP,fv,hl]
  cases hc:Cc ops o.dst||EX E ops o.dst||YJ ops o.dst with
  |false=>rw[hc] at h;cases h;exact aJ.plain hr aZ (FD k3) (λ_ _ _ e'=>by cases e')
  |true=>
   rw[hc] at h;cases h;have dX:Rel X (s.aE (some (id,{B with own:=CD B.own p}))) a:=hr.m6 hb hβ ⟨how,dN.of eL aF aO λq hq=>b7 q (zcj hq).1⟩ (.inl (zff eL));have Ny:∀q,¬dg (s.aE (some (id,{B with own:=CD B.own p}))) (.b id (p++q)):=by rintro q ⟨B2,df,hp⟩;rw[z9h hb] at df;cases df;have:=(zcj hp).2;rw[zdp.2 (List.prefix_append p q)] at this;cases this
   have nh:=Tl (X:=X) (q:= .c (o.dst.getD 0) 0) Ny;refine⟨X.ig id p (.c (o.dst.getD 0) 0),_,.inl aZ,nh.ext,(dX.mod nh.mod).fin ⟨_,k3.aj (λ_ _=>nh.aB.1),rfl,?_⟩ (λid t p hm=>by simp at hm)⟩;intro q hq;obtain⟨q0,hq0,rfl⟩:=zau.1 hq;obtain⟨hq1,hq2⟩:=zab.1 hq0;obtain⟨q,rfl⟩:=zdp.1 hq2;rw[zbU];obtain⟨e',t',xs,v,h0,h1,h2,h3⟩:=b7 _ hq1;obtain⟨j1,j2⟩:=ae6 cM h0 h1;have hle:=ara j1 (zlv _ _ _ _ _ j2);refine⟨e',t',xs,v,j1,j2,?_,h3.sJ⟩;rw[NP _ _ _ _ k1] at h2;rw[zae,if_pos hle,zas];exact h2
 ·cases h
theorem zmg{cs c:List Value}{off:Nat}(h:off+c.length<=cs.length)(j k:Nat):(∀h1:j+k<=off\/off+c.length<=j,((cs.take off++c++cs.drop (off+c.length)).drop j).take k=(cs.drop j).take k):=by
 intro h1;apply zaF;intro q;simp only[zae,zas];split
 ·rename_i hq;rw[MM];rcases h1 with h1|h1
  ·rw[zap (by rw[Of];omega),zae,if_pos (by omega)]
  ·rw[zaa (by rw[Of];omega),Of,zaQ (by omega),zaa (by omega),zas];congr 1;omega
 ·rfl
theorem fR{X:aw}:∀{t:Ty} {p:List Nat} {x:El t} {cs:List Value} {u:Ty} {y:El u} {z:El t} {c:List Value},bm X t x cs->t.fe p->t.at_ p=some u->El.set t p x u y=some z->bm X u y c->
 bm X t z (cs.take (t.off p)++c++cs.drop (t.off p+c.length)):=by
 intro t
 induction t with
 |arr n t ih=>
  intro p x cs u y z c hr hp cq h hc;have fM:=hc.len;cases p with
  |nil=>simp only[Ty.at_,AI] at cq;subst cq;simp only[El.set,Ty.cw,dite_true,AI] at h;subst h;have hl:=hr.len;simp only[Ty.off,zat,zbd,zah];rw[fM,<-hl,zdH,zay];exact hc
  |cons i p=>
   obtain⟨hi,hp⟩:=hp;obtain⟨h1,h2,h3⟩:=hr;simp only[El.set] at h;obtain⟨z',n0,rfl⟩:=nl.1 h;have nP:t.at_ p=some u:=cq;have hle:=fB t p u nP hp;have hn:(i+1)*t.cells<=n*t.cells:=zai _ hi;rw[zaz,za5] at hn;have Ap:=ih (h3 i _ (getD_some (El.b9 t) (by omega))) hp nP n0 hc;have dv:i*t.cells+t.off p+c.length<=cs.length:=by rw[fM,h2];omega
   refine⟨by simpa using h1,?_,λj w hj=> ?_⟩
   ·simp only[Ty.off,th,Of,zaD];omega
   ·simp only[Ty.off];by_cases e:j=i
    ·subst e;rw[zcv (by omega)] at hj;cases hj;have hL:((cs.take (j*t.cells+t.off p)++c++cs.drop (j*t.cells+t.off p+c.length)).drop (j*t.cells)).take t.cells=
      ((cs.drop (j*t.cells)).take t.cells).take (t.off p)++c++((cs.drop (j*t.cells)).take t.cells).drop (t.off p+c.length):=by
      apply zaF;intro q;rw[MM,MM];simp only[zae,zas,zcG,Of,zaD];rw[zaQ (show j*t.cells+t.off p<=cs.length by omega),zaQ (show t.cells<=cs.length-j*t.cells by omega),zaQ (show t.off p<=t.cells by omega)];by_cases q1:q<t.cells
      ·by_cases q2:q<t.off p
       ·rw[if_pos q1,if_pos (by omega),if_pos (by omega),if_pos q2,if_pos q2,if_pos q1]
       ·by_cases q3:q-t.off p<c.length
        ·rw[if_pos q1,if_neg (by omega),if_pos (by omega),if_neg q2,if_pos q3];congr 1;omega
        ·rw[if_pos q1,if_neg (by omega),if_neg (by omega),if_neg q2,if_neg q3,if_pos (by omega)];congr 1;omega
      ·rw[if_neg q1,if_neg (by omega),if_neg (by omega),if_neg (by omega)]
     rw[hL];exact Ap
    ·rw[zdA (Ne.symm e)] at hj;have wN:=(AS.1 hj).1;rw[zmg dv (j*t.cells) t.cells ?_]
     ·exact h3 j w hj
     ·rcases zeV e with ap|hgt
      ·have:(j+1)*t.cells<=i*t.cells:=zai _ ap;rw[zaz,za5] at this;exact .inl (by omega)
      ·have:(i+1)*t.cells<=j*t.cells:=zai _ hgt;rw[zaz,za5] at this;exact .inr (by omega)
 |pair ta tb mZ m3=>
  intro p x cs u y z c hr hp cq h hc;have fM:=hc.len;cases p with
  |nil=>simp only[Ty.at_,AI] at cq;subst cq;simp only[El.set,Ty.cw,dite_true,AI] at h;subst h;have hl:=hr.len;simp only[Ty.off,zat,zbd,zah];rw[fM,<-hl,zdH,zay];exact hc
  |cons i p=>
   obtain⟨c1,c2,rfl,r1,r2⟩:=hr;have l1:=r1.len;have l2:=r2.len;cases i with
   |zero=>simp only[El.set] at h;obtain⟨z',n0,rfl⟩:=nl.1 h;have nP:ta.at_ p=some u:=cq;have hle:=fB ta p u nP hp;have:=mZ r1 hp nP n0 hc;refine⟨_,c2,?_,this,r2⟩;simp only[Ty.off];rw[zbZ (by omega),zbg (by omega)];simp [MM]
   |succ i=>simp only[El.set] at h;obtain⟨z',n0,rfl⟩:=nl.1 h;have nP:tb.at_ (i::p)=some u:=cq;have hle:=fB tb (i::p) u nP hp;have:=m3 r2 hp nP n0 hc;refine⟨c1,_,?_,r1,this⟩;simp only[Ty.off];rw[<-l1,List.take_length_add_append,zdP,zeE];simp [MM]
 |_=>
  intro p x cs u y z c hr hp cq h hc;have fM:=hc.len;cases p with
  |nil=>
   simp only[Ty.at_,AI] at cq;subst cq;simp only[El.set,Ty.cw,dite_true,AI] at h
   first|subst h|skip
   have hl:=hr.len;simp only[Ty.off,zat,zbd,zah];rw[fM,<-hl,zdH,zay];exact hc
  |cons i p=>simp [Ty.at_] at cq
end Go.Ref

namespace Go.Ref
open Go
variable {P:Program} {E:Env} {X:aw} {s:State} {a:Act} {o:Oper} {u:Out}
theorem ac3:∀{t:Ty} {p q:List Nat} {x:El t} {u:Ty} {y:El u} {z:El t} {e:TypeId} {t':Ty} {xs:El (.sl e t')},El.set t p x u y=some z->t.at_ p=some u->t.fe p->t.fe q->p.isPrefixOf q=false->El.get t q x=some ⟨.sl e t',xs⟩->
 El.get t q z=some ⟨.sl e t',xs⟩/\(t.off q+1<=t.off p\/t.off p+u.cells<=t.off q):=by
 intro t
 induction t with
 |arr n t ih=>
  intro p q x u y z e t' xs hs cq hp hq gP hg;cases p with
  |nil=>simp at gP
  |cons i p=>
   cases q with
   |nil=>simp [El.get] at hg
   |cons j q=>
    simp only[El.set] at hs;obtain⟨z',n0,rfl⟩:=nl.1 hs;by_cases eij:i=j
    ·subst eij;have nW:p.isPrefixOf q=false:=by simpa [zf1] using gP
     obtain⟨h1,h2⟩:=ih n0 cq hp.2 hq.2 nW hg;refine⟨?_,by simp only[Ty.off];omega⟩;simp only[El.get];by_cases hl:i<aa x
     ·rw[be,zcv hl];exact h1
     ·have fO:za1 x i z'=x:=by rw[List.set_eq_of_length_le (zbN hl)]
      rw[fO];exact hg
    ·refine⟨?_,?_⟩
     ·simp only[El.get] at hg⊢;rw[be,zdA eij,<-be];exact hg
     ·have a1:=fB t p u cq hp.2;have a2:t.off q+1<=t.cells:=by have:=fB t q _ (zlv t q _ _ _ hg) hq.2;simpa [Ty.cells] using this
      simp only[Ty.off];rcases zeV eij with h|h
      ·have:(i+1)*t.cells<=j*t.cells:=zai _ h;rw[zaz,za5] at this;omega
      ·have:(j+1)*t.cells<=i*t.cells:=zai _ h;rw[zaz,za5] at this;omega
 |pair ta tb mZ m3=>
  intro p q x u y z e t' xs hs cq hp hq gP hg;cases p with
  |nil=>simp at gP
  |cons i p=>
   cases q with
   |nil=>simp [El.get] at hg
   |cons j q=>
    cases i with
    |zero=>
     simp only[El.set] at hs;obtain⟨z',n0,rfl⟩:=nl.1 hs;cases j with
     |zero=>
      have nW:p.isPrefixOf q=false:=by simpa [zf1] using gP
      obtain⟨h1,h2⟩:=mZ n0 cq hp hq nW hg;exact⟨h1,by simp only[Ty.off];omega⟩
     |succ j=>have a1:=fB ta p u cq hp;exact⟨hg,by simp only[Ty.off];omega⟩
    |succ i=>
     simp only[El.set] at hs;obtain⟨z',n0,rfl⟩:=nl.1 hs;cases j with
     |zero=>
      have a2:ta.off q+1<=ta.cells:=by have:=fB ta q _ (zlv ta q _ _ _ hg) hq;simpa [Ty.cells] using this
      exact⟨hg,by simp only[Ty.off];omega⟩
     |succ j=>
      have nW:(i::p).isPrefixOf (j::q)=false:=by simp [zf1] at gP⊢;exact gP
      obtain⟨h1,h2⟩:=m3 n0 cq hp hq nW hg;exact⟨h1,by simp only[Ty.off];omega⟩
 |_=>
  intro p q x u y z e t' xs hs cq hp hq gP hg;cases p with
  |nil=>simp at gP
  |cons i p=>simp [Ty.at_] at cq
def aw.row(X:aw)(r:Nat)(cs:Array Value):aw:={X with w:=X.w.setRow r cs}
theorem np{r id:Nat}{cs:Array Value}(h:X.ow r= .box id){ad:Addr}{v:Value}(hs:X.aB ad v):(X.row r cs).aB ad v:=by
 have bR:ad.block≠r:=λe=>by have:=hs.2.2;rw[e,h] at this;exact this
 refine⟨hs.1,?_,hs.2.2⟩;have:=hs.2.1;simp only[zaP,aw.row] at this⊢;rw[setRow_other X.w r ad.block cs bR];exact this
theorem MJ{r id:Nat}{cs:Array Value}(h:X.ow r= .box id):Ext X (X.row r cs) where
 aB:=λ_ _=>np h
 size:=by simp [aw.row]
 os:=rfl
 tape:=rfl
 output:=rfl
 β0:=rfl
 still:=λg _ bY=>by
  have bR:g≠r:=λe=>by rw[e,h] at bY;exact bY
  exact⟨rfl,setRow_other X.w r g cs bR⟩
theorem bB.row{r id:Nat}{cs:Array Value}(h:X.ow r= .box id){pl:Place}{e:TypeId}{k n:Nat}{v:Value}(ho:bB X pl e k n v):bB (X.row r cs) pl e k n v:=by
 rcases ho with ho|⟨g,cap,cur,h1,h2,h3,h4,h5,h6⟩
 ·exact .inl ho
 ·have bR:g≠r:=λe=>by rw[e,h] at h6;cases h6
  exact .inr ⟨g,cap,cur,h1,(setRow_other X.w r g cs bR).trans h2,h3,h4,h5,h6⟩
theorem bp.row{r id:Nat}{cs:Array Value}(h:X.ow r= .box id){pl:List Nat->Place}{t:Ty}{x:El t}{c:List Value}{own:List (List Nat)}(ho:bp X pl t x c own):bp (X.row r cs) pl t x c own:=λp hp=>by obtain⟨e,t',xs,v,g0,g1,g2,g3⟩:=ho p hp;exact⟨e,t',xs,v,g0,g1,g2,g3.row h⟩
theorem aC.row{r id:Nat}{cs:Array Value}(h:X.ow r= .box id){pl:List Nat->Place}{sv:SV}{v:Value}(hk:∀bf a b j,sv= .bF bf a b j->bf≠id)(hr:aC X pl sv v):aC (X.row r cs) pl sv v:=by
 cases sv with
 |undef=>trivial
 |skip=>exact hr
 |cR=>exact hr
 |ey=>exact hr
 |over=>exact hr
 |aq t x own=>obtain⟨c,h1,h2,h3⟩:=hr;exact⟨c,h1.aj (λ_ _=>np h),h2,h3.row h⟩
 |ptr id t p=>exact hr
 |view t x=>obtain⟨ad,c,h1,h2,h3,h4⟩:=hr;exact⟨ad,c,h1,h2,h3.aj (λ_ _=>np h),λi u hi=>np h (h4 i u hi)⟩
 |cap f t x u y=>exact uf (λ_ _=>np h) hr
 |bF bf a b j=>
  obtain⟨r',h1,h2,h3⟩:=hr;have bR:r'≠r:=λe=>by rw[e,h] at h2;injection h2 with h2;exact hk bf a b j rfl h2.symm
  refine⟨r',h1,h2,?_⟩;simp only[zaP] at h3⊢;rw[show(X.row r cs).w.heap[r']? =X.w.heap[r']? from setRow_other X.w r r' cs bR];exact h3
theorem Rel.row{r id:Nat}{B B':bH}{cs:Array Value}(hr:Rel X s a)(hb:s.bs[id]? =some (some B))(hβ:X.β id=some r)(h:X.ow r= .box id)(hB:bK (X.row r cs) id r B')(hg:B.t.ff=false\/ []∈B.own):Rel (X.row r cs) (s.aE (some (id,B'))) a where
 size:=hr.size
 ia:=by simpa [State.aE] using hr.ia
 bZ:=λi l v hl hv=>(hr.bZ i l v hl hv).jD λj sv u hm kB=>kB.row h (λbf a b k e e2=>hr.pS hb hg i l a b k hl (e2▸e▸IH hm))
 boxes:=λbf B2 df=>by
  have ap:id<s.bs.length:=(AS.1 hb).1;simp only[State.aE,vc] at df;by_cases e:id=bf
  ·subst e;rw[if_pos rfl,if_pos ap] at df;cases df;exact⟨r,hβ,hB⟩
  ·rw[if_neg e] at df;obtain⟨r',h1,h4,h2⟩:=hr.boxes bf B2 df;have bR:r'≠r:=λe2=>by rw[e2,h] at h4;cases h4;exact e rfl
   exact⟨r',h1,h4,h2.move (λ_ _=>np h) (setRow_other X.w r r' cs bR) (λcs h5=>h5.row h) λ_ _ g o _ ho hw=>⟨(setRow_other X.w r g cs (λe3=>by rw[e3,h] at hw;cases hw)).trans ho,hw⟩⟩
 live:=λi l bf t p hi hm=>by
  have ap:id<s.bs.length:=(AS.1 hb).1;obtain⟨B2,df⟩:=hr.live i l bf t p hi hm;simp only[State.aE,vc];by_cases e:id=bf
  ·subst e;exact⟨B',by rw[if_pos rfl,if_pos ap]⟩
  ·rw[if_neg e];exact⟨B2,df⟩
 defers:=hr.defers
 bF:=hr.bF.aE (hr.pS hb hg)
theorem NL(hE:ak P E){T:TypeId}{t:Ty}(ht:E.ty T=some t){x:El t}{cs:List Value}(hr:bm X t x cs){r off:Nat}{cur:Array Value}{T':TypeId}{w:World}(hg:w.heap[r]? =some (.cells cur T' (0,0)))(hf:off+t.cells<=cur.size):
 (storeVar T ⟨r,off,none⟩ (er t cs)).run P w= .ok () (w.setRow r (cur.toList.take off++cs++cur.toList.drop (off+cs.length)).toArray):=by
 have hl:=hr.len;have bY:=run_storeCells_at P r off T' cs 0 cur w hg (by omega) hr.one;simp only[zde] at bY;unfold storeVar;simp only[BY,mF hE ht,fv,yf hr];rw[if_neg (by simp [hl])];exact bY
theorem aeg:∀{t:Ty} {p q:List Nat} {x:El t} {u:Ty} {y:El u} {z:El t} {r:(u:Ty)×El u} {X:aw} {cs:List Value},bm X t x cs->El.set t p x u y=some z->t.at_ p=some u->t.fe p->El.get u q y=some r->El.get t (p++q) z=some r:=by
 intro t
 induction t with
 |arr n t ih=>
  intro p q x u y z r X cs hr hs cq hp hg;cases p with
  |nil=>simp only[Ty.at_,AI] at cq;subst cq;simp only[El.set,Ty.cw,dite_true,AI] at hs;subst hs;exact hg
  |cons i p=>
   simp only[El.set] at hs;obtain⟨z',n0,rfl⟩:=nl.1 hs;obtain⟨h1,h2,h3⟩:=hr;have hi:i<aa x:=by rw[h1];exact hp.1
   simp only[El.get,zbM];rw[be,zcv hi];exact ih (h3 i _ (getD_some _ hi)) n0 cq hp.2 hg
 |pair ta tb mZ m3=>
  intro p q x u y z r X cs hr hs cq hp hg;cases p with
  |nil=>simp only[Ty.at_,AI] at cq;subst cq;simp only[El.set,Ty.cw,dite_true,AI] at hs;subst hs;exact hg
  |cons i p=>
   obtain⟨c1,c2,_,r1,r2⟩:=hr;cases i with
   |zero=>simp only[El.set] at hs;obtain⟨z',n0,rfl⟩:=nl.1 hs;exact mZ r1 n0 cq hp hg
   |succ i=>simp only[El.set] at hs;obtain⟨z',n0,rfl⟩:=nl.1 hs;exact m3 (p:=i::p) r2 n0 cq hp hg
 |_=>
  intro p q x u y z r X cs hr hs cq hp hg;cases p with
  |nil=>
   simp only[Ty.at_,AI] at cq;subst cq;simp only[El.set,Ty.cw,dite_true,AI] at hs
   first|subst hs|skip
   exact hg
  |cons i p=>simp [Ty.at_] at cq
theorem XG{t u:Ty}{p:List Nat}{x z:El t}{y:El u}{cs cv:List Value}{own oy:List (List Nat)}{pl:List Nat->Place}(hr:bm X t x cs)(dD:t.fe p)(cq:t.at_ p=some u)(fO:El.set t p x u y=some z)(rep:bm X u y cv)
 (ho:bp X pl t x cs own) (hy:bp X (λq=>pl (p++q)) u y cv oy):bp X pl t z (cs.take (t.off p)++cv++cs.drop (t.off p+cv.length)) (oy.map (λq=>p++q)++CD own p):=by
 have fM:=rep.len;have hle:=fB t p u cq dD;have eU:=hr.len;intro q hq;rcases M2.1 hq with hq|hq
 ·obtain⟨q,hq2,rfl⟩:=zau.1 hq;obtain⟨e,t',xs,v,g0,g1,g2,g3⟩:=hy q hq2;have ap:=(AS.1 g2).1;refine⟨e,t',xs,v,Y9 t p q u cq dD g0,aeg hr fO cq dD g1,?_,g3⟩;rw[NP t p q u cq,MM,zaa (by rw[Of];omega),Of,zaQ (by omega),zaS,zap ap];exact g2
 ·obtain⟨hqm,gP⟩:=zcj hq;obtain⟨e,t',xs,v,g0,g1,g2,g3⟩:=ho q hqm;obtain⟨k1,k2⟩:=ac3 fO cq dD g0 gP g1;refine⟨e,t',xs,v,g0,k1,?_,g3⟩;have nj:=zmg (cs:=cs) (c:=cv) (off:=t.off p) (by omega) (t.off q) 1 (by rw[fM];omega);have h0:=congrArg (λl=>l[0]?) nj;simp only[zae,zas] at h0;simp only[Nat.zero_lt_one,if_true,zde] at h0;rw[h0];exact g2
theorem ac1(hE:ak P E)(hr:Rel X s a){T:TypeId}{u0:Ty}{x y:Operand}(ho:o.op= .store T x y)(hT:E.ty T=some u0){id:Nat}{t:Ty}{p:List Nat}(dU:s.aI x= .ptr id t p)(h:Mc u0 s id t p (s.aI y) some=some u):aJ P X s a o u:=by
 have hx:=hr.aI x;rw[dU] at hx;obtain⟨r0,hβ,hv⟩:=hx;unfold Mc at h;split at h
 case h_4=>cases h
 case h_2=>
  rename_i ta tb q;split at h
  case h_2=>cases h
  rename_i u' cq;split at h
  case isFalse=>cases h
  rename_i heq;have:=Ty.aK heq;subst this;obtain⟨x0,own,r,hb,h,b7,h1,how,c,p0,p1,T',aF,aO,uE,uF⟩:=MF hr h;rw[hβ] at h1;cases h1;obtain⟨yv,h,hy⟩:=hN h;split at h
  case h_2=>cases h
  rename_i z hz;cases iw:hP own [] with
  |false=>rw[iw] at h;cases h
  |true=>
  rw[iw,cond_true] at h;cases h;have iw:=Fm iw;obtain⟨cv,rep,ev⟩:=hy X _ _ (hr.aI y);have dD:ta.fe q:=hv.2;have hv:a.eval x= .pointer (some ⟨r0,ta.off q,none⟩):=hv.1;have fM:=aO.len;have hle:=fB ta q u' cq dD;have hvl:=rep.len;have bY:=NL (P:=P) hE hT rep (off:=ta.off q) (w:=X.w) (r:=r0) (T':=T') aF (by simp;omega);have gb:(c++ [p0,p1,Value.int .i64 x0.2.2]).take (ta.off q)++cv++(c++ [p0,p1,Value.int .i64 x0.2.2]).drop (ta.off q+cv.length)=(c.take (ta.off q)++cv++c.drop (ta.off q+cv.length))++ [p0,p1,Value.int .i64 x0.2.2]:=by rw[zbZ (by omega),zbg (by omega)];simp only[MM]
  have aZ:(execOp a.eval o).run P X.w= .ok .skip ((X.row r0 ((c.take (ta.off q)++cv++c.drop (ta.off q+cv.length))++ [p0,p1,Value.int .i64 x0.2.2]).toArray).w):=by simp only[execOp,ho,BY,zdk,hv,Instr.sureAddr,GP,fv,ev,bY];have e2:(It (ta.off q) (c++ [p0,p1,Value.int .i64 x0.2.2]).toArray.toList++cv++List.drop (ta.off q+cv.length) (c++ [p0,p1,Value.int .i64 x0.2.2]).toArray.toList)=(c.take (ta.off q)++cv++c.drop (ta.off q+cv.length))++ [p0,p1,Value.int .i64 x0.2.2]:=gb;rw[e2];rfl
  have bS:bK (X.row r0 ((c.take (ta.off q)++cv++c.drop (ta.off q+cv.length))++ [p0,p1,Value.int .i64 x0.2.2]).toArray) id r0 ⟨.aY .cX ta tb,(z,x0.2),own⟩:=by
   have hg:∀p∈lX,∀g o k,X.w.heap[g]? =some o->X.ow g= .row (.b id p) k->(X.row r0 ((c.take (ta.off q)++cv++c.drop (ta.off q+cv.length))++ [p0,p1,Value.int .i64 x0.2.2]).toArray).w.heap[g]? =some o/\(X.row r0 ((c.take (ta.off q)++cv++c.drop (ta.off q+cv.length))++ [p0,p1,Value.int .i64 x0.2.2]).toArray).ow g= .row (.b id p) k:=λp _ g o k hg hw=>by
    have bR:g≠r0:=λe=>by rw[e,how] at hw;cases hw
    exact⟨(setRow_other X.w r0 g _ bR).trans hg,hw⟩
   refine⟨how,⟨_,setRow_heap X.w r0 _ _ T' (0,0) aF⟩,λ_=>⟨c.take (ta.off q)++cv++c.drop (ta.off q+cv.length),p0,p1,T',setRow_heap X.w r0 _ _ T' (0,0) aF,(fR aO dD cq hz rep).aj (λ_ _=>np how),uE.move (λ_ _=>np how) λp hp=> ?_,uF.move (λ_ _=>np how) λp hp=> ?_⟩⟩
   ·rcases hp with rfl|rfl<;>exact hg _ (by simp [lX])
   ·rcases hp with rfl|rfl<;>exact hg _ (by simp [lX])
  exact⟨X.row r0 _,zaj,.inr ⟨aZ,rfl⟩,MJ how,(hr.row (cs:=_) hb hβ how bS (.inr iw)).skip o.dst⟩
 case h_3=>
  rename_i ta tb;split at h
  case isFalse=>cases h
  rename_i heq;have:=Ty.aK heq;subst this;obtain⟨x0,own,r,hb,h,b7,h1,how,c,p0,p1,T',aF,aO,uE,uF⟩:=MF hr h;rw[hβ] at h1;cases h1;obtain⟨n,h,hy⟩:=hN h;cases iw:hP own [] with
  |false=>rw[iw] at h;cases h
  |true=>
  rw[iw,cond_true] at h;cases h;have iw:=Fm iw;obtain⟨cv,rep,ev⟩:=hy X _ _ (hr.aI y);have rep:cv=[.int .i64 n]:=rep;subst rep;have hv:a.eval x= .pointer (some ⟨r0,ta.cells+2,none⟩):=hv.1;have fM:=aO.len;have bY:=NL (P:=P) hE hT (X:=X) (x:=n) (cs:=[.int .i64 n]) rfl (off:=ta.cells+2) (w:=X.w) (r:=r0) (T':=T') aF (by simp [Ty.cells];omega);have gb:(c++ [p0,p1,Value.int .i64 x0.2.2]).take (ta.cells+2)++ [Value.int .i64 n]++(c++ [p0,p1,Value.int .i64 x0.2.2]).drop (ta.cells+2+1)=c++ [p0,p1,Value.int .i64 n]:=by rw[<-fM,List.take_append,List.drop_append];simp [za6,GA];omega
  have aZ:(execOp a.eval o).run P X.w= .ok .skip ((X.row r0 (c++ [p0,p1,Value.int .i64 n]).toArray).w):=by simp only[execOp,ho,BY,zdk,hv,Instr.sureAddr,GP,fv,ev,bY];have e2:(It (ta.cells+2) (c++ [p0,p1,Value.int .i64 x0.2.2]).toArray.toList++ [Value.int .i64 n]++List.drop (ta.cells+2+ [Value.int .i64 n].length) (c++ [p0,p1,Value.int .i64 x0.2.2]).toArray.toList)=c++ [p0,p1,Value.int .i64 n]:=gb;rw[e2];rfl
  have bS:bK (X.row r0 (c++ [p0,p1,Value.int .i64 n]).toArray) id r0 ⟨.aY .cX ta tb,(x0.1,x0.2.1,n),own⟩:=by
   have hm:iM X r0 (.b id) ta tb x0:=⟨c,p0,p1,T',aF,aO,uE,uF⟩
   have hg:∀p∈lX,∀g o k,X.w.heap[g]? =some o->X.ow g= .row (.b id p) k->(X.row r0 (c++ [p0,p1,Value.int .i64 n]).toArray).w.heap[g]? =some o/\(X.row r0 (c++ [p0,p1,Value.int .i64 n]).toArray).ow g= .row (.b id p) k:=λp _ g o k hg hw=>by
    have bR:g≠r0:=λe=>by rw[e,how] at hw;cases hw
    exact⟨(setRow_other X.w r0 g _ bR).trans hg,hw⟩
   refine⟨how,⟨_,setRow_heap X.w r0 _ _ T' (0,0) aF⟩,λ_=>⟨c,p0,p1,T',setRow_heap X.w r0 _ _ T' (0,0) aF,aO.aj (λ_ _=>np how),uE.move (λ_ _=>np how) λp hp=> ?_,uF.move (λ_ _=>np how) λp hp=> ?_⟩⟩
   ·rcases hp with rfl|rfl<;>exact hg _ (by simp [lX])
   ·rcases hp with rfl|rfl<;>exact hg _ (by simp [lX])
  exact⟨X.row r0 _,zaj,.inr ⟨aZ,rfl⟩,MJ how,(hr.row (cs:=_) hb hβ how bS (.inr iw)).skip o.dst⟩
 rename_i ta tb i;split at h
 case h_2=>cases h
 rename_i B hB;split at h
 case isFalse=>cases h
 rename_i dp;split at h
 case isFalse=>cases h
 rename_i heq;have:=Ty.aK heq;subst this;obtain⟨hb,r,h1,how,cs,T',aF,dd,fD⟩:=MI hr hB dp;rw[hβ] at h1;cases h1;obtain⟨yv,h,hy⟩:=hN h;obtain⟨cv,rep,ev⟩:=hy X _ _ (hr.aI y);generalize(Ty.cast dp B.x:List (El ta))=xs at*;cases hn:zaL (i+1) (aa xs) with
 |false=>rw[hn] at h;cases h
 |true=>
  rw[hn] at h;cases h;have ap:i<aa xs:=zaK hn;have hv:a.eval x= .pointer (some ⟨r0,i*ta.cells,none⟩):=hv;have fM:=rep.len;have hmul:(i+1)*ta.cells<=aa xs*ta.cells:=zai _ ap;rw[zaz,za5] at hmul;have dv:i*ta.cells+ta.cells<=cs.size:=by omega
  have wK:i*ta.cells+cv.length<=cs.toList.length:=by simp;omega
  let new:=(cs.toList.take (i*ta.cells)++cv++cs.toList.drop (i*ta.cells+cv.length)).toArray;have ix:new.toList=cs.toList.take (i*ta.cells)++cv++cs.toList.drop (i*ta.cells+cv.length):=rfl;have aZ:(execOp a.eval o).run P X.w= .ok .skip ((X.row r0 new).w):=by have bY:=NL (P:=P) hE hT rep (off:=i*ta.cells) (w:=X.w) (r:=r0) (cur:=cs) (T':=T') aF dv;simp only[execOp,ho,BY,zdk,hv,Instr.sureAddr,GP,fv,ev,bY];rfl
  have cm:new.size=cs.size:=by
   have:new.toList.length=cs.toList.length:=by rw[ix];simp;omega
   simpa using this
  have bS:bK (X.row r0 new) id r0 ⟨.aY .row ta tb,(za1 xs i yv:List (El ta)),[]⟩:=by
   refine⟨how,new,T',setRow_heap X.w r0 cs new T' (0,0) aF,?_,λj z hj=> ?_⟩
   ·rw[cm,dd];show _=aa (za1 xs i yv)*_;rw[List.length_set]
   ·refine bm.aj (λ_ _=>np (cs:=new) how) ?_;have hj:(za1 xs i yv)[j]? =some z:=hj;rw[ix];by_cases e:i=j
    ·subst e;rw[zcv ap] at hj;cases hj;have:((cs.toList.take (i*ta.cells)++cv++cs.toList.drop (i*ta.cells+cv.length)).drop (i*ta.cells)).take ta.cells=cv:=by rw[MM,zbg (by rw[Of];omega),GA (by rw[Of];omega),zah,<-fM,zcF]
     rw[this];exact rep
    ·rw[zdA e] at hj;rw[zmg (cs:=cs.toList) (c:=cv) (off:=i*ta.cells) wK (j*ta.cells) ta.cells ?_]
     ·exact fD j z hj
     ·rcases zeV e with h|h
      ·have:(i+1)*ta.cells<=j*ta.cells:=zai _ h;rw[zaz,za5] at this;right;omega
      ·have:(j+1)*ta.cells<=i*ta.cells:=zai _ h;rw[zaz,za5] at this;left;omega
  exact⟨X.row r0 new,zaj,.inr ⟨aZ,rfl⟩,MJ how,(hr.row (cs:=new) hb hβ how bS (.inl (by rw[Ty.aK dp];rfl))).skip o.dst⟩
theorem ae0(hE:ak P E)(hr:Rel X s a){ops:List Oper}{T:TypeId}{x y:Operand}(ho:o.op= .store T x y){C:FuncId->cc Out}(h:act E C ops o s some=some u):aJ P X s a o u:=by
 unfold act at h;simp only[ho] at h;have hx:=hr.aI x;unfold store at h;split at h
 case h_2=>cases h
 rename_i u0 hT;split at h
 case h_2=>cases h
 rename_i id t p e;rw[e] at hx;obtain⟨r,hβ,hx⟩:=hx;split at h
 ·exact ac1 hE hr ho hT e h
 rename_i eL;have eL:t.bO=false:=by simpa using eL
 obtain⟨hv,dD⟩:=(sL eL).1 hx;split at h
 case h_2=>cases h
 rename_i B hB;split at h
 case isFalse=>cases h
 rename_i heq;have dp:=Ty.aK heq;subst dp;split at h
 case h_2=>cases h
 rename_i u' cq;split at h
 case isFalse=>cases h
 rename_i Gm;have:=Ty.aK Gm;subst this;have hb:=sN hB;obtain⟨yv,h,hy⟩:=Ki hr h (.inl rfl);split at h
 case h_2=>cases h
 rename_i z fO;cases h;obtain⟨W,cv,hW,hX,hrW,rep,ev,hO,hβ2,nh,_⟩:=hy (λq=> .b id (p++q));obtain⟨r',hβW,wF⟩:=hrW.boxes id B (by rw[Cn];exact hb);obtain⟨cs,T2,aF,aO,how,b7⟩:=wF.cells eL;have hrr:r'=r:=by rw[hβ2,hβ] at hβW;exact(Option.some.inj hβW).symm
 subst hrr;have dv:B.t.off p+u'.cells<=cs.size:=by have:=fB B.t p u' cq dD;have hl:=aO.len;simp at hl;omega
 let new:=(cs.toList.take (B.t.off p)++cv++cs.toList.drop (B.t.off p+cv.length)).toArray;have aZ:(execOp a.eval o).run P X.w= .ok .skip ((W.row r' new).w):=by have bY:=NL (P:=P) hE hT rep (off:=B.t.off p) (w:=X.w) (r:=r') (cur:=cs) (T':=T2) (by rw[<-hW];exact aF) dv;simp only[execOp,ho,BY,zdk,hv,Instr.sureAddr,GP,fv,ev,bY];rw[<-hW];rfl
 have wW:=XG aO dD cq fO rep b7 hO;have bS:bK (W.row r' new) id r' {t:=B.t,x:=z,own:=(s.aI y).own.map (λq=>p++q)++CD B.own p}:=by
  refine⟨how,dN.of eL (setRow_heap W.w r' cs new T2 (0,0) aF) ?_ ?_⟩
  ·have:=(fR aO dD cq fO rep).aj (λ_ _=>np (cs:=new) how);simpa [new] using this
  ·have:=wW.row (cs:=new) how;simpa [new] using this
 have fc:=hrW.row (cs:=new) (by rw[Cn];exact hb) hβW how bS (.inl (zff eL));exact⟨W.row r' new,zaj,.inr ⟨aZ,rfl⟩,hX.trans (MJ how),fc.skip o.dst⟩
end Go.Ref

namespace Go.Ref
open Go
variable {P:Program} {E:Env} {X:aw} {s:State} {a:Act} {o:Oper} {u:Out}
theorem VF(off:Nat):∀(l:List Value) (k:Nat) (cs:Array Value),off+k+l.length<=cs.size->
 ((l.zipIdx k).foldl (λcs p=>cs.setIfInBounds (off+p.2) p.1) cs).toList=cs.toList.take (off+k)++l++cs.toList.drop (off+k+l.length)
 | [],k,cs,h=>by simp
 |v::r,k,cs,h=>by
  simp only[ls] at h;simp only[List.zipIdx_cons,List.foldl_cons];rw[VF off r (k+1) _ (by simp;omega)];simp only[Array.toList_setIfInBounds,ls];apply zaF;intro q;simp only[zcG,zae,zas,th,Of,List.length_set,Array.length_toList,vc,ls,List.getElem?_cons];rw[zaQ (show off+(k+1)<=cs.size by omega),zaQ (show off+k<=cs.size by omega)];by_cases h1:q<off+k
  ·rw[if_pos (by omega),if_pos (by omega),if_pos (by omega),if_neg (by omega),if_pos (by omega),if_pos (by omega),if_pos (by omega)]
  ·by_cases h2:q=off+k
   ·subst h2;rw[if_pos (by omega),if_pos (by omega),if_pos (by omega),if_pos rfl,if_pos (by omega),if_pos (by omega),if_neg (by omega),if_pos (by omega)]
   ·by_cases h3:q<off+(k+1)+r.length
    ·rw[if_pos (by omega),if_neg (by omega),if_pos (by omega),if_neg (by omega),if_neg (by omega)]
     try(congr 1<;>omega)
    ·rw[if_neg (by omega),if_neg (by omega),if_neg (by omega)]
     first|done|(congr 1;omega)
theorem zw8(off:Nat)(l:List Value)(cs:Array Value)(h:off+l.length<=cs.size):
 ((l.toArray.zipIdx).foldl (λcs (p:Value×Nat)=>cs.setIfInBounds (off+p.2) p.1) cs).toList=cs.toList.take off++l++cs.toList.drop (off+l.length):=by
 have:=VF off l 0 cs (by omega);rw[<-Array.foldl_toList,Array.toList_zipIdx];simpa using this
theorem VC(hr:Rel X s a){t:Ty}{pl:Nat->Option (Nat×Nat)}(gB:∀i ft,t.at_ [i]=some ft->t.lS i=true->t.fe [i]/\pl i=some (t.off [i],ft.cells)){R:Type}{K:El t->List (List Nat)->Option R}{z:R}:
 ∀(parts:List (Nat×Operand)) (x:El t) (own:List (List Nat)) (cs:Array Value),bm X t x cs.toList->uo t x own (parts.map λp=>(p.1,s.aI p.2,[])) K=some z->
  ∃y kv cells,K y kv=some z/\zfD pl cs (parts.map λp=>(p.1,a.eval p.2))=some cells/\bm X t y cells.toList
 | [],x,own,cs,rep,h=>⟨x,own,cs,h,rfl,rep⟩
 |(i,p)::r,x,own,cs,rep,h=>by
  simp only[zaq,uo] at h;split at h
  case isTrue=>cases h
  rename_i hb;have hb:t.lS i=true:=by cases wG:t.lS i<;>simp_all
  split at h
  case h_2=>cases h
  rename_i ft cq;obtain⟨y,h,hy⟩:=hN h;split at h
  case h_2=>cases h
  rename_i x' fO;obtain⟨c,rc,ec⟩:=hy X _ _ (hr.aI p);obtain⟨dD,hp⟩:=gB i ft cq hb;have fM:=rc.len;have eU:=rep.len;have hle:=fB t [i] ft cq dD;have xa:=fR rep dD cq fO rc;have dv:t.off [i]+c.length<=cs.size:=by rw[fM];simp at eU;omega
  have mj:=zw8 (t.off [i]) c cs dv;obtain⟨y2,lB,cells,h1,h2,h3⟩:=VC hr gB r x' _ _ (by rw[mj];exact xa) h;refine⟨y2,lB,cells,h1,?_,h3⟩;simp only[zaq,zfD,hp,ec,yf rc];rw[if_neg (by simp only[List.size_toArray,fM];simp;simp at eU;omega)];exact h2
theorem zbz{t:Ty}{pl:Nat->Option (Nat×Nat)}(gB:∀i ft,t.at_ [i]=some ft->t.lS i=true->t.fe [i]/\pl i=some (t.off [i],ft.cells)){R:Type}{K:El t->List (List Nat)->Option R}{z:R}:
 ∀(parts:List (Nat×Operand)) (X:aw) (s:State) (x:El t) (own:List (List Nat)) (cs:Array Value),Rel X s a->bm X t x cs.toList->bp X (.r 0) t x cs.toList own->uo t x own (z24 s parts).1 K=some z->
  ∃y kv cells Y,K y kv=some z/\Y.w=X.w/\Ext X Y/\Rel Y (s.close (z24 s parts).2) a/\zfD pl cs (parts.map λp=>(p.1,a.eval p.2))=some cells/\bm Y t y cells.toList/\bp Y (.r 0) t y cells.toList kv
 | [],X,s,x,own,cs,hr,rep,ho,h=>⟨x,own,cs,X,h,rfl,Ext.refl X,hr,rfl,rep,ho⟩
 |(i,p)::r,X,s,x,own,cs,hr,rep,ho,h=>by
  simp only[z24,uo] at h;split at h
  case isTrue=>cases h
  rename_i hb;have hb:t.lS i=true:=by cases wG:t.lS i<;>simp_all
  split at h
  case h_2=>cases h
  rename_i ft cq;have hc:CC (s.aI p).own p=src p\/((s.aI p).own=[]/\CC (s.aI p).own p=[]):=by
   cases b7:(s.aI p).own with
   |nil=>exact .inr ⟨rfl,rfl⟩
   |cons _ _=>exact .inl rfl
  obtain⟨y,h,hy⟩:=Ki hr h hc;split at h
  case h_2=>cases h
  rename_i x' fO;obtain⟨Y,c,hw,bc,bD,rc,ec,hO,hβ,hT,bY⟩:=hy (λq=> .r 0 ([i]++q));obtain⟨dD,hp⟩:=gB i ft cq hb;have fM:=rc.len;have eU:=rep.len;have hle:=fB t [i] ft cq dD;have Si:=rep.mono bc;have hoY:=ho.stay bY (by simp);have xa:=fR Si dD cq fO rc;have wW:=XG Si dD cq fO rc hoY hO;have dv:t.off [i]+c.length<=cs.size:=by rw[fM];simp at eU;omega
  have mj:=zw8 (t.off [i]) c cs dv;obtain⟨y2,lB,cells,Z,h1,x8,cr,dj,h2,h3,h4⟩:=zbz gB r Y _ x' _ _ bD (by rw[mj];exact xa) (by rw[mj];exact wW) h;refine⟨y2,lB,cells,Z,h1,x8.trans hw,bc.trans cr,?_,?_,h3,h4⟩
  ·simp only[z24,zlc];exact dj
  ·simp only[zaq,zfD,hp,ec,yf rc];rw[if_neg (by simp only[List.size_toArray,fM];simp;simp at eU;omega)];exact h2
theorem Ke(hE:ak P E):∀(fl:List Field) (t:Ty) (off:Nat),j9 E fl t off->∃places,fl.mapM (λ(f:Field)=>(P.info? f.type).map λi=>(f.offset,i.size))=some places/\
 ∀(j:Nat) (f:Field) (ft:Ty),fl[j]? =some f->E.ty f.type=some ft->places[j]? =some (f.offset,ft.cells)
 | [],t,off,h=>⟨[],rfl,λj f ft hj=>by simp at hj⟩
 |f::r,t,off,h=>by
  cases t<;>simp only[j9] at h<;>try exact h.elim
  rename_i ta tb;obtain⟨h1,h2,h3,h4⟩:=h;obtain⟨places,g1,g2⟩:=Ke hE r tb _ h4;obtain⟨i,i1,i2,_⟩:=(hE.ty _ _ h2).info;refine⟨(f.offset,i.size)::places,?_,λj g gt hj hg=> ?_⟩
  ·simp [List.mapM_cons,i1,g1]
  ·cases j with
   |zero=>simp only[zaB,AI] at hj;subst hj;rw[h2] at hg;cases hg;simp [i2]
   |succ j=>simp only[zax] at hj⊢;exact g2 j g gt hj hg
theorem ahT(hE:ak P E)(hr:Rel X s a){T:TypeId}{t:Ty}(hT:E.ty T=some t)(tH:t.agg=true){R:Type}{K:El t->List (List Nat)->Option R}{z:R}(parts:Array (Nat×Operand))
 (h:uo t (El.b9 t) (Cp t) (z24 s parts.toList).1 K=some z):
 ∃y own cs Y,K y own=some z/\Y.w=X.w/\Ext X Y/\Rel Y (s.close (z24 s parts.toList).2) a/\bm Y t y cs/\bp Y (.r 0) t y cs own/\(Instr.build T (parts.map λ(i,x)=>(i,a.eval x))).run P X.w= .ok (er t cs) X.w:=by
 have hf:=hE.ty T t hT;obtain⟨i,i1,i2,i3,i4⟩:=hf.info;have hz:=uL X t;have hn:=Uy X (.r 0) t;have RW:(er t (zr t)).cells=(zr t).toArray:=yf hz;have lR:(parts.map λ(i,x)=>(i,a.eval x)).toList=parts.toList.map λp=>(p.1,a.eval p.2):=by simp
 cases t with
 |arr n t=>
  obtain⟨e,hu,he,_⟩:=hf.dJ;obtain⟨ie,j1,j2,_⟩:=(hE.ty e t he).info;obtain⟨y,own,cells,Y,k1,hw,bc,bD,k2,k3,k4⟩:=zbz (pl:=λi=>some (i*ie.size,ie.size)) (λi ft cq hb=>by
   simp only[Ty.at_,AI] at cq;subst cq;have hb:i+1<=n:=by simpa [Ty.lS] using hb
   exact⟨⟨hb,by simp [Ty.fe]⟩,by simp [Ty.off,j2]⟩) parts.toList X s (El.b9 (.arr n t)) _ (zr (.arr n t)).toArray hr (by simpa using hz) (by simpa using hn) h
  refine⟨y,own,cells.toList,Y,k1,hw,bc,bD,k3,k4,?_⟩;rw[kz rfl];refine run_build X.w T _ cells.toList.toArray ?_;unfold zfN;simp only[i1,hu,i4,j1,RW,lR];simpa using k2
 |pair ta tb=>
  obtain⟨fs,hu,dv,_⟩:=hf.dJ;obtain⟨places,p1,p2⟩:=Ke hE fs.toList _ 0 dv;obtain⟨y,own,cells,Y,k1,hw,bc,bD,k2,k3,k4⟩:=zbz (pl:=(places.toArray[·]?)) (λi ft cq hb=>by obtain⟨f,g1,g2,g3,g4⟩:=zf8 fs.toList _ 0 i ft dv rfl cq;refine⟨g4,?_⟩;have:=p2 i f ft g1 g3;simp only[List.getElem?_toArray,this,g2,zat]) parts.toList X s (El.b9 (.pair ta tb)) _ (zr (.pair ta tb)).toArray hr (by simpa using hz) (by simpa using hn) h
  refine⟨y,own,cells.toList,Y,k1,hw,bc,bD,k3,k4,?_⟩;rw[kz rfl];refine run_build X.w T _ cells.toList.toArray ?_;unfold zfN;simp only[i1,hu,i4,p1,RW,lR];simpa using k2
 |unit=>obtain⟨fs,hu,dv,_⟩:=hf.dJ;obtain⟨places,p1,p2⟩:=Ke hE fs.toList _ 0 dv;obtain⟨y,own,cells,Y,k1,hw,bc,bD,k2,k3,k4⟩:=zbz (pl:=(places.toArray[·]?)) (λi ft cq hb=>by simp [Ty.at_] at cq) parts.toList X s (El.b9 .unit) _ (zr .unit).toArray hr (by simpa using hz) (by simpa using hn) h;refine⟨y,own,cells.toList,Y,k1,hw,bc,bD,k3,k4,?_⟩;rw[kz rfl];refine run_build X.w T _ cells.toList.toArray ?_;unfold zfN;simp only[i1,hu,i4,p1,RW,lR];simpa using k2
 |aY k a b=>exact absurd (hE.jF hT) (by simp [Ty.bO])
 |_=>simp [Ty.agg] at tH
def aw.oo(X:aw)(j:Nat)(q:List Nat->Place):aw:=
 {X with ow:=λg=>match X.ow g with
  | .row (.r j' p) n=>if j'=j then .row (q p) n else .row (.r j' p) n
  |w=>w}
theorem afv{s:State}{X:aw}{j:Nat}{q:List Nat->Place}:eI s X (X.oo j q):=by
 refine⟨rfl,rfl,λg=> ?_⟩;simp only[aw.oo];cases hg:X.ow g with
 |row pl n=>
  cases pl with
  |r j' p=>
   by_cases e:j'=j
   ·subst e;exact .inr ⟨_,n,q p,rfl,λh=>h,by simp⟩
   ·exact .inl (if_neg e)
  |_=>exact .inl rfl
 |_=>exact .inl rfl
theorem bp.A6{X:aw}{j:Nat}{q:List Nat->Place}{t:Ty}{x:El t}{cs:List Value}{own:List (List Nat)}(h:bp X (.r j) t x cs own):bp (X.oo j q) q t x cs own:=λp hp=>by
 obtain⟨e,t',xs,v,g0,g1,g2,g3⟩:=h p hp;refine⟨e,t',xs,v,g0,g1,g2,?_⟩;rcases g3 with h|⟨g,cap,cur,h1,h2,h3,h4,h5,h6⟩
 ·exact .inl h
 ·exact .inr ⟨g,cap,cur,h1,h2,h3,h4,h5,by simp [aw.oo,h6]⟩
theorem aeQ(hE:ak P E)(hr:Rel X s a){ops:List Oper}{T:TypeId}{parts:Array (Nat×Operand)}(ho:o.op= .build T parts){C:FuncId->cc Out}(h:act E C ops o s some=some u):aJ P X s a o u:=by
 unfold act at h;simp only[ho] at h;split at h
 case h_2=>cases h
 rename_i t hT;split at h
 case isTrue=>cases h
 rename_i tH;have tH:t.agg=true:=by cases wG:t.agg<;>simp_all
 obtain⟨y,own,cs,Y,h,hw,bc,bD,rep,hO,aZ⟩:=ahT hE hr hT tH parts h;cases h;have nh:=afv (s:=s.close (z24 s parts.toList).2) (X:=Y) (j:=0) (q:= .c (o.dst.getD 0) 0);refine⟨Y.oo 0 (.c (o.dst.getD 0) 0),er t cs,.inl ?_,bc.trans nh.ext,(bD.mod nh.mod).fin ⟨cs,rep.aj (λ_ _=>nh.aB.1),rfl,hO.A6⟩ (λid t p hm=>by simp at hm)⟩;rw[nh.w,hw];simp only[execOp,ho,BY,aZ,fv,GP]
end Go.Ref

namespace Go.Ref
open Go
variable {P:Program} {E:Env} {X:aw} {s:State} {a:Act} {o:Oper} {u:Out}
theorem al5{t:Ty}{x:El t}{xs:List (El t)}{n:Nat}{c cs:List Value}(h1:bm X t x c)(h2:bm X (.arr n t) xs cs):bm X (.arr (n+1) t) (x::xs:List (El t)) (c++cs):=by
 obtain⟨k1,k2,k3⟩:=h2;have hl:=h1.len;refine⟨by simp;exact k1,by simp [k2,hl,zaz];omega,λj y hj=> ?_⟩;cases j with
 |zero=>simp only[zaB,AI] at hj;subst hj;rw[Nat.zero_mul,GS,<-hl,zcF];exact h1
 |succ j=>
  simp only[zax] at hj;have hd:(c++cs).drop ((j+1)*t.cells)=cs.drop (j*t.cells):=by rw[zaz,za5,Nat.add_comm,<-zbs,<-hl,zbU]
  rw[hd];exact k3 j y hj
theorem NM{t:Ty}{xs ys:List (El t)}{n m:Nat}{c d:List Value}(h1:bm X (.arr n t) xs c)(h2:bm X (.arr m t) ys d):bm X (.arr (n+m) t) (xs++ys:List (El t)) (c++d):=by
 obtain⟨j1,j2,j3⟩:=h1;obtain⟨k1,k2,k3⟩:=h2;refine⟨by rw[th,j1,k1],by rw[th,j2,k2,zaz],λj y hj=> ?_⟩;by_cases ap:j<n
 ·rw[zap (by rw[j1];exact ap)] at hj;have hle:(j+1)*t.cells<=n*t.cells:=zai _ ap;rw[zaz,za5] at hle;rw[zbg (by omega),zbZ (by rw[zaD];omega)];exact j3 j y hj
 ·rw[zaa (by rw[j1];omega),j1] at hj;have hd:(c++d).drop (j*t.cells)=d.drop ((j-n)*t.cells):=by
   have hm:j*t.cells=c.length+(j-n)*t.cells:=by rw[j2,<-zaz];congr 1;omega
   rw[hm,zeE]
  rw[hd];exact k3 _ y hj
theorem z139{t:Ty}{ad:Addr}(hs:ad.spot=none):∀(xs:List (El t)) (p:Nat),(∀(j:Nat) x,xs[j]? =some x->∃fa,bm X t x fa/\∀(i:Nat) v,fa[i]? =some v->X.aB (ad.add (p+(j*t.cells+i))) v)->
 ∃cs,bm X (.arr xs.length t) xs cs/\∀(i:Nat) v,cs[i]? =some v->X.aB (ad.add (p+i)) v
 | [],p,h=>⟨[],⟨rfl,by simp,λj x hj=>by simp at hj⟩,λi v hi=>by simp at hi⟩
 |x::xs,p,h=>by
  obtain⟨c,r1,s1⟩:=h 0 x rfl;obtain⟨cs,r2,s2⟩:=z139 hs xs (p+t.cells) (λj y hj=>by obtain⟨c',r',s'⟩:=h (j+1) y hj;refine⟨c',r',λi v hi=> ?_⟩;have:=s' i v hi;rw[show p+((j+1)*t.cells+i)=p+t.cells+(j*t.cells+i) by rw[zaz];omega] at this;exact this)
  have hl:=r1.len;refine⟨c++cs,al5 r1 r2,λi v hi=> ?_⟩;rw[zcG] at hi;split at hi
  ·have:=s1 i v hi
   rwa [show p+(0*t.cells+i)=p+i by omega] at this
  ·have:=s2 _ v hi
   rwa [show p+t.cells+(i-c.length)=p+i by omega] at this
theorem zcp{e:TypeId}{t:Ty}{xs:List (El t)}{A:Option Addr}{n c:Nat}(h:bm X (.sl e t) xs [.slice A n c]):n=xs.length/\xs.length<=c/\
 ∃cs,bm X (.arr xs.length t) xs cs/\(A=none->xs=[])/\∀ad,A=some ad->∀(i:Nat) v,cs[i]? =some v->X.aB (ad.add i) v:=by
 obtain⟨A',c',h1,h2,h3⟩:=h;simp only[List.cons.injEq,Value.slice.injEq,and_true] at h1;obtain⟨rfl,rfl,rfl⟩:=h1;refine⟨rfl,h2,?_⟩;cases xs with
 |nil=>exact⟨[],⟨rfl,by simp,λj x hj=>by simp at hj⟩,λ_=>rfl,λad _ i v hi=>by simp at hi⟩
 |cons x r=>
  obtain⟨ad,_,hA,hs,_⟩:=h3 0 x rfl;subst hA;obtain⟨cs,k1,k2⟩:=z139 (X:=X) hs (x::r) 0 (λj y hj=>by obtain⟨ss,c',e1,_,g1,g2⟩:=h3 j y hj;cases e1;exact⟨c',g1,λi v hi=>by rw[zat];exact g2 i v hi⟩)
  refine⟨cs,k1,(λe=>by cases e),λss e i v hi=> ?_⟩;cases e;have:=k2 i v hi
  rwa [zat] at this
theorem zmh{e:TypeId}{t:Ty}{xs:List (El t)}{g cap:Nat}{pl:Place}{cur:Array Value}{cs:List Value}(hg:X.w.heap[g]? =some (.cells cur e (0,0)))(how:X.ow g= .row pl (xs.length*t.cells))
 (nZ:cur.toList.take (xs.length*t.cells)=cs) (aO:bm X (.arr xs.length t) xs cs) (nR:xs.length<=cap):bm X (.sl e t) xs [.slice (some ⟨g,0,none⟩) xs.length cap]:=by
 refine⟨_,cap,rfl,nR,λj x hj=>⟨_,_,rfl,rfl,aO.2.2 j x hj,λi v hi=> ?_⟩⟩;have wN:=(AS.1 hj).1;have hle:(j+1)*t.cells<=xs.length*t.cells:=zai _ wN;rw[zaz,za5] at hle;rw[zae] at hi;split at hi
 case isFalse=>cases hi
 rename_i hik;rw[zas,<-nZ,zae,if_pos (by omega)] at hi;refine⟨Ft rfl _,?_,?_⟩
 ·rw[jv,zat];simp only[zaP,hg];simpa using hi
 ·rw[jv,zat];show Ow.used (X.ow g) _;rw[how];show j*t.cells+i<_;omega
end Go.Ref

namespace Go.Ref
open Go
variable {P:Program} {E:Env} {X:aw} {s:State} {a:Act} {o:Oper} {u:Out}
theorem Ub{R:Type}{t:Ty}{n:Nat}{K:List (El t)->Option R}:∀(parts:List (Nat×SV)) (xs:List (El t)) (own:List (List Nat)),xs.length=n->FK t xs parts K=uo (.arr n t) xs own (parts.map λp=>(p.1,p.2,[])) (λy _=>K y)
 | [],xs,own,h=>rfl
 |(i,v)::r,xs,own,h=>by subst h;simp only[FK,zaq,uo,Ty.lS,Ty.at_,El.set,Ty.cw,dite_true,Option.map_some];congr 1;refine congrArg (v.el t) (funext λy=> ?_);exact Ub r (xs.set i y) _ (by simp)
theorem ajt{t:Ty}(n:Nat)(hk:0<t.cells):((zed (n*t.cells)).map λi=>(zr t).toArray[i % (zr t).toArray.size]!).toList=(so n (zr t)).flatten:=by
 have hz:=xD t;apply zaF;intro q;have hlen:((so n (zr t)).flatten).length=n*t.cells:=by simp [hz]
 by_cases hq:q<n*t.cells
 ·have h1:q/t.cells<n:=(zeg hk).2 hq;have h2:=zbf hz n (q/t.cells) h1;have h3:=congrArg (λl=>l[q % t.cells]?) h2;simp only[zae,zas,if_pos (Nat.mod_lt q hk)] at h3;rw[Nat.mul_comm,Nat.div_add_mod] at h3;rw[h3];have hm:q % t.cells<(zr t).length:=by rw[hz];exact Nat.mod_lt q hk
  rw[ks hm];simp [hq,hz,hm];rw[ks hm];rfl
 ·rw[IT (by simp;omega),IT (by omega)]
theorem XE{X:aw}{pl:List Nat->Place}{e:TypeId}{t:Ty}{xs:List (El t)}{v:Value}(h:bB X (pl []) e t.cells xs.length v):bp X pl (.sl e t) xs [v] [[]]:=λp hp=>by
 have hp:p=[]:=by simpa using hp
 subst hp;exact⟨e,t,xs,v,by simp [Ty.fe],rfl,rfl,h⟩
theorem acP(hE:ak P E)(hr:Rel X s a){ops:List Oper}{T:TypeId}{n:Nat}{parts:Array (Nat×Operand)}(ho:o.op= .buildSlice T n parts){C:FuncId->cc Out}(h:act E C ops o s some=some u):aJ P X s a o u:=by
 unfold act at h;simp only[ho] at h;split at h
 case h_2=>cases h
 rename_i e t hT;split at h
 case isTrue=>cases h
 rename_i EI;have hk:0<t.cells:=by rcases Nat.eq_zero_or_pos t.cells with h0|h0<;>simp_all
 cases hb:zaL (n*t.cells) 16777216 with
 |false=>rw[hb] at h;cases h
 |true=>
  rw[hb] at h;simp only[cond_true] at h;have xb:n*t.cells<=16777216:=zaK hb;rw[Ub (n:=n) _ _ [] (by simp),List.map_map] at h;obtain⟨hu,he⟩:=(hE.ty T _ hT).dJ;have dd:=mF (P:=P) hE he X.w;have hzr:=zgp (P:=P) hE he X.w;have NB:=uL X (.arr n t);obtain⟨y,kv,cells,k1,k2,k3⟩:=VC (pl:=λi=>some (i*t.cells,t.cells)) hr (λi ft cq hb=>by
   simp only[Ty.at_,AI] at cq;subst cq;have hb:i+1<=n:=by simpa [Ty.lS] using hb
   exact⟨⟨hb,by simp [Ty.fe]⟩,by simp [Ty.off]⟩) parts.toList (El.b9 (.arr n t)) [] (zr (.arr n t)).toArray (by simpa using NB) h
  cases k1;have hy:aa y=n:=k3.1;have eU:cells.size=n*t.cells:=by have:=k3.2.1;simpa using this
  have hn:n<=n*t.cells:=Nat.le_mul_of_pos_right n hk;let Y:=X.new cells e (.row (.c (o.dst.getD 0) 0 []) (n*t.cells)) X.β;have Aq:fq s X Y:=Zr X s cells e _ _ rfl (λ_ _ _=>rfl);obtain⟨n1,n2⟩:=z93 X cells e (.row (.c (o.dst.getD 0) 0 []) (n*t.cells)) X.β;refine⟨Y,.slice (some ⟨X.w.heap.size,0,none⟩) n n,.inl ?_,Aq.ext,?_⟩
  ·have hcz:(Array.map (λx=>(er t (zr t)).cells[x % (er t (zr t)).cells.size]!) (zed (n*t.cells)))=(zr (.arr n t)).toArray:=by apply Array.ext';rw[yf (uL X t),ajt n hk];rfl
   have lR:(parts.map λ(i,x)=>(i,a.eval x)).toList=parts.toList.map λp=>(p.1,a.eval p.2):=by simp
   by_cases hn0:n*t.cells=0
   ·have aaq:n=0:=by
     rcases Nat.mul_eq_zero.1 hn0 with h0|h0
     ·exact h0
     ·omega
    subst aaq;have k2':zfD (λi=>some (i*t.cells,t.cells)) #[] (parts.toList.map λp=>(p.1,a.eval p.2))=some cells:=k2;have arv:(parts.map λx=>(x.1,a.eval x.2)).toList=parts.toList.map λp=>(p.1,a.eval p.2):=by simp
    simp [execOp,ho,Instr.buildSlice,run_underlying hu,dd,newRow,Y,aw.new];rw[show(Array.map (λx=>default) (zed 0):Array Value)= #[] by simp,k2'];simp
   ·have hc:=hcz;simp [execOp,ho,Instr.buildSlice,run_underlying hu,dd,hzr,hn0,newRow,Y,aw.new,Nat.not_lt.2 xb];rw[hcz,k2];simp
  ·refine(hr.dy Aq).fin ?_ (λid t p hm=>by simp at hm);refine⟨[.slice (some ⟨X.w.heap.size,0,none⟩) n n],?_,rfl,XE ?_⟩
   ·rw[<-hy];refine zmh (pl:= .c (o.dst.getD 0) 0 []) (cur:=cells) (cs:=cells.toList) n1 (by rw[hy];exact n2) ?_ ?_ (zag _)
    ·rw[hy,za6 (by simp [eU])]
    ·rw[hy];exact k3.aj (λ_ _=>Aq.aB)
   ·refine .inr ⟨X.w.heap.size,n,cells,by rw[hy],n1,by rw[hy];exact zag _,?_,eU,by rw[hy];exact n2⟩;simp only[maxLen];omega
end Go.Ref

