/- No condition. -/
import Derived.Orders
import Derived.Below
import Derived.Maps.AppendAt
import Derived.WalkKit
import Derived.Lib.AppendStr
import Derived.Shelf.Strings.BuilderF
set_option linter.unusedVariables false
set_option linter.unusedSimpArgs false
set_option maxRecDepth 100000
open Array renaming getElem?_eq_getElem->bf,getElem?_toList->bn,toArray_toList->bT,getElem?_setIfInBounds->dc,getElem?_eq_some_iff->fM,range->fB
open BitVec renaming ofInt->eW
open Bool renaming and_eq_true->ar,false_eq_true->cI,true_and->dO
open ByteArray renaming emptyWithCapacity->iR
open ForInStep renaming yield->kH
open Go renaming undef->aT,binOp->bO
open Go.Builtin renaming unsafeSliceData_->eN,len_->km
open Go.ByteArray renaming toList_eq->lj
open Go.Instr renaming sliceBounds->fI,indexAt->gl,loadAt->fS,storeAt->eM,fill->kd,fieldAt->jX,alloc->mu
open Go.Lib renaming cell_of_heap->dz,strCells->eb,run_unsafeSliceData_row->iW
open Go.Op renaming equalIn->di,bytesLess->kr,equal->ku,intArith->kS,stringOp->kV,maxDepth->kU
open Go.Program renaming built->lP
open Go.Proofs.Any renaming unsafeString_none->ig
open Go.Proofs.Body renaming n169_ntmps->iZ
open Go.Result renaming andThen_ok->al
open Go.Sem renaming run_bind->ax,run_pure->aD,run_ite->iv
open Go.Value renaming ownBlock->eF
open Go.World renaming cell?->bP,block_lt_of_cell?->ey
open List renaming length->ag,getD->ah,getD_eq_getElem?_getD->aq,getElem?_eq_getElem->au,getElem?_set->ay,getElem?_eq_some_iff->aC,replicate->aB,length_cons->aF,length_append->aJ,drop_eq_nil_of_le->aP,mem_of_getElem?->aN,getElem?_map->aL,getElem?_eq_none->aQ,drop_zero->aO,take->aI,mem_append->aR,length_take->aU,all_eq_true->aY,getElem?_append_right->bh,mem_filter->bc,append_assoc->bd,getElem?_take->bj,eq_nil_of_length_eq_zero->bD,getElem?_append_left->bG,map_cons->bq,getElem?_drop->bI,getElem?_cons_succ->bH,mem_map->bM,getElem?_cons_zero->bQ,length_drop->bW,append_nil->bY,ext_getElem?->bV,nil_append->b6,take_length->cC,take_of_length_le->cp,any_eq_false->cE,drop_append_of_le_length->du,mem_iff_getElem?->cV,take_zero->cX,cons_append->gi,set->cK,drop_drop->fT,take_append_of_le_length->ea,drop_left->fU,take_take->lf,getElem?_set_self->fu,take_left->dW,getElem?_append->iN,drop_length->kf,isPrefixOf_iff_prefix->fV,getElem?_set_ne->iO,drop_take->ld,replicate_succ->eY,drop_length_add_append->iX,isPrefixOf->kJ
open Nat renaming beq->ak,eq_of_beq_eq_true->aE,mul_le_mul_right->bp,le_refl->bg,zero_add->bJ,add_mul->bK,min_eq_left->bL,le_of_ble_eq_true->b7,ble->bC,add_sub_cancel_left->cg,zero_le->bR,one_mul->cm,le_of_not_lt->eE,add_zero->eZ,div_lt_iff_lt_mul->kE,lt_or_gt_of_ne->jv,add_assoc->lO
open Option renaming map_eq_some_iff->av,bind_assoc->jP
open Option.some renaming injEq->az
open Sigma.mk renaming injEq->dY
namespace Go.Ref
abbrev ae.{u}:Type u->Type u:=Option
abbrev af:Type:=ByteArray
open Go
structure CB(T e:TypeId)(b:Nat)(v:Value)(bs:List Value)(w:World):Prop where
 uV:w.heap[b]? =some (.cells #[.pointer none,v] T (0,0))\/w.heap[b]? =some (.cells #[.pointer (some ⟨b,0,none⟩),v] T (0,0))
 own:w.ownsRow 0 e 1 v bs.length bs
 ne:v.ownBlock≠some b
theorem CB.lt{T e:TypeId}{b:Nat}{v:Value}{bs:List Value}{w:World}(h:CB T e b v bs w):b<w.heap.size:=by
 rcases Nat.lt_or_ge b w.heap.size with h'|h'
 ·exact h'
 ·rcases h.uV with h|h<;>simp [Array.getElem?_eq_none h'] at h
theorem CB.same{T e:TypeId}{b:Nat}{v:Value}{bs:List Value}{w w':World}(h:CB T e b v bs w)(hb:w'.heap[b]? =w.heap[b]?)(hg:∀g o,v.ownBlock=some g->w.heap[g]? =some o->w'.heap[g]? =some o):CB T e b v bs w':=by
 refine⟨by rw[hb];exact h.uV,⟨h.own.1,?_⟩,h.ne⟩;rcases h.own.2 with hn|⟨g,cap,cur,hv,h0,HS,rest⟩
 ·exact .inl hn
 ·exact .inr ⟨g,cap,cur,hv,h0,hg g _ (by rw[hv];rfl) HS,rest⟩
inductive Spc where
 |iter
 |mp
 |row
 |qi (n:Nat)
 |qV (T e:Nat)
 |own
 |CF (f:Nat)
 |kF
 deriving DecidableEq,Inhabited
@[reducible] def Dq:Spc->Type->Type->Type
  | .iter,_,_=>af×Nat
  | .mp,a,b=>List (a×b)
  | .row,a,_=>List a
  | .qi _,_,_=>Unit
  | .qV _ _,_,_=>af
  | .own,a,_=>ae a
  | .CF _,_,_=>Unit
  | .kF,a,b=>a×(ae b×ae b)×Int
def Dq.gA:(k:Spc)->(a b:Type)->a->Dq k a b
 | .iter,_,_,_=>((⟨#[]⟩:af),(0:Nat))
 | .mp,_,_,_=>[]
 | .row,_,_,_=>[]
 | .qi _,_,_,_=>()
 | .qV _ _,_,_,_=>(⟨#[]⟩:af)
 | .own,_,_,_=>none
 | .CF _,_,_,_=>()
 | .kF,_,_,x=>(x,(none,none),(0:Int))
inductive Ty where
 |bool
 |int (k:IntKind)
 |str
 |sl (e:TypeId) (t:Ty)
 |arr (n:Nat) (t:Ty)
 |unit
 |pair (a b:Ty)
 |dC (k:Spc) (a b:Ty)
 deriving Inhabited
@[reducible] def El:Ty->Type
  | .bool=>Bool
  | .int _=>Int
  | .str=>af
  | .sl _ t=>List (El t)
  | .arr _ t=>List (El t)
  | .unit=>Unit
  | .pair a b=>El a×El b
  | .dC k a b=>Dq k (El a) (El b)
def El.gA:(t:Ty)->El t
 | .bool=>false
 | .int _=>(0:Int)
 | .str=>(⟨#[]⟩:af)
 | .sl _ _=>[]
 | .arr n t=>aB n (El.gA t)
 | .unit=>()
 | .pair a b=>(El.gA a,El.gA b)
 | .dC k a b=>Dq.gA k (El a) (El b) (El.gA a)
def Ty.iL:Ty->Ty->Bool
 | .bool,.bool=>true
 | .str,.str=>true
 | .unit,.unit=>true
 | .int j,.int k=>decide (j=k)
 | .sl e t,.sl f u=>ak e f&&Ty.iL t u
 | .arr n t,.arr m u=>ak n m&&Ty.iL t u
 | .pair a b,.pair c d=>Ty.iL a c&&Ty.iL b d
 | .dC k a b,.dC j c d=>decide (k=j)&&(Ty.iL a c&&Ty.iL b d)
 |_,_=>false
theorem Ty.cS:∀{t u:Ty},t.iL u=true->t=u:=by
 intro t
 induction t with
 |bool=>intro u h;cases u<;>simp_all [Ty.iL]
 |int k=>intro u h;cases u<;>simp_all [Ty.iL]
 |str=>intro u h;cases u<;>simp_all [Ty.iL]
 |unit=>intro u h;cases u<;>simp_all [Ty.iL]
 |sl e t ih=>intro u h;cases u<;>simp [Ty.iL] at h;obtain⟨h1,h2⟩:=h;rw[ih h2,h1]
 |arr e t ih=>intro u h;cases u<;>simp [Ty.iL] at h;obtain⟨h1,h2⟩:=h;rw[ih h2,h1]
 |pair a b ug uh=>intro u h;cases u<;>simp [Ty.iL] at h;rw[ug h.1,uh h.2]
 |dC k a b ug uh=>intro u h;cases u<;>simp [Ty.iL] at h;rw[h.1,ug h.2.1,uh h.2.2]
theorem Ty.iw:∀t:Ty,t.iL t=true
 | .bool=>rfl
 | .str=>rfl
 | .unit=>rfl
 | .int k=>by simp [Ty.iL]
 | .sl e t=>by simp [Ty.iL,Ty.iw t]
 | .arr e t=>by simp [Ty.iL,Ty.iw t]
 | .pair a b=>by simp [Ty.iL,Ty.iw a,Ty.iw b]
 | .dC k a b=>by simp [Ty.iL,Ty.iw a,Ty.iw b]
def Ty.cast{t u:Ty}(h:t.iL u=true)(x:El t):El u:=Ty.cS h▸x
def Ty.cells:Ty->Nat
 | .arr n t=>n*t.cells
 | .unit=>0
 | .pair a b=>a.cells+b.cells
 | .dC _ _ _=>0
 |_=>1
def Ty.agg:Ty->Bool
 | .arr .. | .unit| .pair .. | .dC .. =>true
 |_=>false
def Ty.at_:Ty->List Nat->ae Ty
 |t,[]=>some t
 | .arr _ t,_::p=>t.at_ p
 | .pair a _,0::p=>a.at_ p
 | .pair _ b,(j+1)::p=>b.at_ (j::p)
 |_,_=>none
def Ty.off:Ty->List Nat->Nat
 |_,[]=>0
 | .arr _ t,i::p=>i*t.cells+t.off p
 | .pair a _,0::p=>a.off p
 | .pair a b,(j+1)::p=>a.cells+b.off (j::p)
 |_,_=>0
def El.get:(t:Ty)->List Nat->El t->ae ((u:Ty)×El u)
 |t,[],x=>some ⟨t,x⟩
 | .arr _ t,i::p,xs=>El.get t p (xs.getD i (El.gA t))
 | .pair a _,0::p,x=>El.get a p x.1
 | .pair _ b,(j+1)::p,x=>El.get b (j::p) x.2
 |_,_::_,_=>none
def El.set:(t:Ty)->List Nat->El t->(u:Ty)->El u->ae (El t)
 |t,[],_,u,y=>if h:u.iL t=true then some (Ty.cast h y) else none
 | .arr _ t,i::p,xs,u,y=>(El.set t p (xs.getD i (El.gA t)) u y).map λz=>cK xs i z
 | .pair a _,0::p,x,u,y=>(El.set a p x.1 u y).map λz=>(z,x.2)
 | .pair _ b,(j+1)::p,x,u,y=>(El.set b (j::p) x.2 u y).map λz=>(x.1,z)
 |_,_::_,_,_,_=>none
def Ty.nb:Ty->List Nat->Prop
 |_,[]=>True
 | .arr n t,i::p=>i<n/\t.nb p
 | .pair a _,0::p=>a.nb p
 | .pair _ b,(j+1)::p=>b.nb (j::p)
 |_,_=>False
inductive Place where
 |c (i j:Nat) (p:List Nat)
 |b (id:Nat) (p:List Nat)
 |r (j:Nat) (p:List Nat)
inductive Ow where
 |all
 |ro (n:Nat)
 |box (id:Nat)
 |row (pl:Place) (n:Nat)
def Ow.used:Ow->Nat->Prop
 | .all,_=>True
 | .ro n,o=>o<n
 | .box _,_=>False
 | .row _ n,o=>o<n
def Ow.still:Ow->Prop
 | .all| .ro _=>True
 |_=>False
structure bZ where
 w:World
 ow:Nat->Ow
 β:Nat->ae Nat
def bZ.cf(X:bZ)(a:Addr)(v:Value):Prop:=a.spot=none/\X.w.cell? a=some v/\(X.ow a.block).used a.off
structure Ext(X Y:bZ):Prop where
 cf:∀a v,X.cf a v->Y.cf a v
 size:X.w.heap.size<=Y.w.heap.size
 os:Y.w.os=X.w.os
 tape:Y.w.tape=X.w.tape
 output:Y.w.output=X.w.output
 β0:Y.β 0=X.β 0
 still:∀g,g<X.w.heap.size->(X.ow g).still->Y.ow g=X.ow g/\Y.w.heap[g]? =X.w.heap[g]?
theorem Ext.refl(X:bZ):Ext X X:=⟨λ_ _ h=>h,bg _,rfl,rfl,rfl,rfl,λ_ _ _=>⟨rfl,rfl⟩⟩
theorem Ext.trans{X Y Z:bZ}(h:Ext X Y)(k:Ext Y Z):Ext X Z:=
 ⟨λa v hs=>k.cf a v (h.cf a v hs),Nat.le_trans h.size k.size,k.os.trans h.os,k.tape.trans h.tape,k.output.trans h.output,k.β0.trans h.β0,
  λg hg gv=>by obtain⟨h1,h2⟩:=h.still g hg gv;obtain⟨k1,k2⟩:=k.still g (Nat.lt_of_lt_of_le hg h.size) (by rw[h1];exact gv);exact⟨k1.trans h1,k2.trans h2⟩⟩
theorem bZ.p7{X:bZ}{a:Addr}{v:Value}(h:X.cf a v):a.block<X.w.heap.size:=ey X.w a h.2.1
def eC(X:bZ):(t:Ty)->El t->List Value->Prop
 | .bool,b,cs=>cs=[.bool b]
 | .int k,n,cs=>cs=[.int k n]
 | .str,s,cs=>cs=[.string s]
 | .sl _ t,xs,cs=>∃A c,cs=[.slice A xs.length c]/\xs.length<=c/\
    ∀j x,xs[j]? =some x->∃ad m8,A=some ad/\ad.spot=none/\eC X t x m8/\∀i v,m8[i]? =some v->X.cf (ad.add (j*t.cells+i)) v
 | .arr n t,xs,cs=>xs.length=n/\cs.length=n*t.cells/\∀j x,xs[j]? =some x->eC X t x ((cs.drop (j*t.cells)).take t.cells)
 | .unit,_,cs=>cs=[]
 | .pair a b,x,cs=>∃c1 c2,cs=c1++c2/\eC X a x.1 c1/\eC X b x.2 c2
 | .dC _ _ _,_,cs=>cs=[]
theorem eC.bz{X Y:bZ}(h:∀a v,X.cf a v->Y.cf a v):∀{t:Ty} {x:El t} {cs:List Value},eC X t x cs->eC Y t x cs
 | .bool,_,_,hr=>hr
 | .int _,_,_,hr=>hr
 | .str,_,_,hr=>hr
 | .unit,_,_,hr=>hr
 | .sl _ t,xs,cs,⟨A,c,h1,h2,h3⟩=>⟨A,c,h1,h2,λj x hj=>by obtain⟨ad,m8,h4,h5,h6,h7⟩:=h3 j x hj;exact⟨ad,m8,h4,h5,eC.bz h h6,λi v hi=>h _ _ (h7 i v hi)⟩⟩
 | .arr n t,xs,cs,⟨h1,h2,h3⟩=>⟨h1,h2,λj x hj=>eC.bz h (h3 j x hj)⟩
 | .pair a b,x,cs,⟨c1,c2,h1,h2,h3⟩=>⟨c1,c2,h1,eC.bz h h2,eC.bz h h3⟩
 | .dC _ _ _,_,_,hr=>hr
theorem eC.mono{X Y:bZ}(h:Ext X Y){t:Ty}{x:El t}{cs:List Value}(hr:eC X t x cs):eC Y t x cs:=eC.bz h.cf hr
theorem eC.len{X:bZ}:∀{t:Ty} {x:El t} {cs:List Value},eC X t x cs->cs.length=t.cells
 | .bool,_,_,hr=>by cases hr;rfl
 | .int _,_,_,hr=>by cases hr;rfl
 | .str,_,_,hr=>by cases hr;rfl
 | .unit,_,_,hr=>by cases hr;rfl
 | .sl _ t,xs,cs,⟨A,c,h1,_⟩=>by cases h1;rfl
 | .arr n t,xs,cs,⟨h1,h2,h3⟩=>h2
 | .pair a b,x,cs,⟨c1,c2,h1,h2,h3⟩=>by rw[h1,aJ,h2.len,h3.len];rfl
 | .dC _ _ _,_,_,hr=>by cases hr;rfl
theorem acf{cs:List Value}{n k:Nat}{u:Value}(hu:u∈cs)(hk:cs.length=n*k):∃j,j<n/\u∈(cs.drop (j*k)).take k:=by
 obtain⟨q,hq,rfl⟩:=List.mem_iff_getElem.1 hu;have Gl:0<k:=by
  rcases Nat.eq_zero_or_pos k with h|h
  ·subst h;simp at hk;subst hk;simp at hq
  ·exact h
 refine⟨q/k,by rw[kE Gl,<-hk];exact hq,?_⟩;rw[cV];refine⟨q % k,?_⟩;rw[bj,if_pos (Nat.mod_lt _ Gl),bI,Nat.mul_comm,Nat.div_add_mod,au hq]
theorem eC.one{X:bZ}:∀{t:Ty} {x:El t} {cs:List Value},eC X t x cs->∀u∈cs,u.oneCell'=true
 | .bool,_,_,hr,u,hu=>by cases hr;simp at hu;subst hu;rfl
 | .int _,_,_,hr,u,hu=>by cases hr;simp at hu;subst hu;rfl
 | .str,_,_,hr,u,hu=>by cases hr;simp at hu;subst hu;rfl
 | .unit,_,_,hr,u,hu=>by cases hr;simp at hu
 | .sl _ t,xs,cs,⟨A,c,h1,_⟩,u,hu=>by cases h1;simp at hu;subst hu;rfl
 | .arr n t,xs,cs,⟨h1,h2,h3⟩,u,hu=>by obtain⟨j,hj,hm⟩:=acf hu h2;exact eC.one (h3 j _ (au (by omega))) u hm
 | .pair a b,x,cs,⟨c1,c2,h1,h2,h3⟩,u,hu=>by
   rw[h1] at hu;rcases aR.1 hu with hu|hu
   ·exact h2.one u hu
   ·exact h3.one u hu
 | .dC _ _ _,_,_,hr,u,hu=>by cases hr;simp at hu
end Go.Ref

namespace Go.Ref
open Go Go.Shelf Go.RowKit Go.Proofs
variable {P:Program} {ρ:Ren}
structure oR(b:Nat)(g:ae Nat)(w w':World):Prop where
 os:w'.os=w.os
 tape:w'.tape=w.tape
 output:w'.output=w.output
 size:w.heap.size<=w'.heap.size
 block:∀k,k<w.heap.size->k≠b->some k≠g->w'.heap[k]? =w.heap[k]?
theorem oR.of{b:Nat}{g:ae Nat}{w w':World}(h:w.grownBy w' g):oR b g w w':=⟨h.os,h.tape,h.output,h.size,λk hk _ hg=>h.block k hk hg⟩
theorem oR.trans{b:Nat}{g:ae Nat}{u v w:World}(h:oR b g u v)(k:oR b g v w):oR b g u w:=
 ⟨k.os.trans h.os,k.tape.trans h.tape,k.output.trans h.output,Nat.le_trans h.size k.size,λi hi h1 h2=>(k.block i (Nat.lt_of_lt_of_le hi h.size) h1 h2).trans (h.block i hi h1 h2)⟩
theorem oR.refl{b:Nat}{g:ae Nat}(w:World):oR b g w w:=⟨rfl,rfl,rfl,bg _,λ_ _ _ _=>rfl⟩
theorem oR.setCell{b:Nat}{g:ae Nat}(w:World)(a:Addr)(ha:a.block=b)(u:Value):oR b g w (w.setCell a u):=
 ⟨rfl,rfl,rfl,by simp [World.setCell],λk _ hk _=>Below.heap_setCell _ _ _ _ (by rw[ha];exact hk)⟩
theorem af4{w:World}(t u ty e:TypeId)(i:TypeInfo)(ht:P.underlying t=some (.slice e))(hu:P.underlying u=some .string)(hi:P.info? e=some i)(hz:i.zero=some (.int .u8 0))(gU:i.size=1)(vL:i.bytes=1)
 (v:Value) (n:Nat) (xs:List Value) (gu:w.ownsRow 0 e 1 v n xs) (s:af) (Gd:n+s.size<=maxLen) (ot:n+s.size<=140737488355328) {v':Value} {w':World}
 (h:(Builtin.append_ #[t,u] ty #[v,.string s]).run P w= .ok v' w'):∀g,v'.ownBlock=some g->v.ownBlock=some g\/g=w.heap.size:=by
 have GC:xs.length=n:=by simpa using gu.1
 have B3:n+s.size<=9223372036854775807:=by simp only[maxLen] at Gd;omega
 intro g0 HR;rcases gu.2 with⟨rfl,rfl⟩|⟨g,cap,cur,rfl,hbg,hg,NN,Aj,mZ,vl⟩
 ·by_cases hm:s.size=0
  ·have hf:=Lib.run_firstCells_string (P:=P) w 1 s;rw[hm] at hf;simp [Builtin.append_,run_underlying ht,run_underlying hu,sizeOf,typeInfo,hi,gU,Builtin.lenOf,hm,hf] at h;rw[<-h.1] at HR;simp [eF] at HR
  ·have hr:=run_append_nil_string (P:=P) w t u ty e i (.int .u8 0) ht hu hi hz s (by omega) (by omega) (by rw[vL];omega);rw[hr] at h;cases h;simp [eF] at HR;exact .inr HR.symm
 ·by_cases vk:n+s.size<=cap
  ·have aop:cur.size=cap:=by simpa using mZ
   have hr:=Lib.run_append_room_string (P:=P) w t u ty e i ht hu hi gU g n cap cur hg s vk (by omega);rw[hr] at h;cases h;exact .inl HR
  ·have holds:∀j u,xs[j]? =some u->w.cell? ((⟨g,0,none⟩:Addr).add j)=some u:=gu.cells (g:=g) rfl;have hr:=Lib.run_append_grow_string (P:=P) w t u ty e i (.int .u8 0) ht hu hi hz ⟨g,0,none⟩ n cap xs (by rw[gU];simpa using GC) holds s (by omega) (by omega) (by rw[vL];exact growslice_fits (by omega) (by omega));rw[hr] at h;cases h;simp [eF] at HR;exact .inr HR.symm
theorem aeu{ops:Array Oper}{rest:List Oper}{o:Oper}{a:Act}{w:World}{Q:Exit->Act->World->Prop}(Ky:o.guard=none)(sl x:Operand)(t u:TypeId)
 (ho:o.op= .call {callee:= .builtin .append,args:= #[sl,x],argTypes:= #[t,u]})
 (e:TypeId) (i:TypeInfo) (ht:P.underlying t=some (.slice e)) (hu:P.underlying u=some .string) (hi:P.info? e=some i) (hz:i.zero=some (.int .u8 0))
 (gU:i.size=1) (vL:i.bytes=1)
 (v:Value) (n:Nat) (xs:List Value) (hs:a.eval sl=v) (gu:w.ownsRow 0 e 1 v n xs) (s:af) (hx:a.eval x= .string s)
 (Gd:n+s.size<=maxLen) (ot:n+s.size<=140737488355328)
 (h:∀v' w',w'.ownsRow 0 e 1 v' (n+s.size) (xs++eb s)->w.grownBy w' v.ownBlock->(∀g,v'.ownBlock=some g->v.ownBlock=some g\/g=w.heap.size)->wpList P ops Q rest (a.put o.dst v') w'):wpList P ops Q (o::rest) a w:=by
 refine wpList_plain Ky λK hK=> ?_;obtain⟨v',w',hr,h2,h3,h4⟩:=Lib.run_append_own_string (P:=P) w 0 t u o.type e i ht hu hi hz gU vL v n xs gu s Gd ot (bR _);unfold Oper.wp execOp;simp only[ho,resolve,invoke,builtin,ax,aD,al,List.map_toArray,bq,List.map_nil,hs,hx,hr];exact hK _ _ (h v' w' h2 h3 (af4 t u o.type e i ht hu hi hz gU vL v n xs gu s Gd ot hr))
theorem agf(L:Lays.n240 P ρ)(X:Builder.X72 P ρ)(b:Nat)(v:Value)(bs:List Value)(w:World)(h:CB (ρ.t 72) (ρ.t 5) b v bs w):
 Calls P (ρ.f 240) #[.pointer (some ⟨b,0,none⟩)] w λe w'=>e= .returned (.tuple #[])/\(w'.heap[b]? =some (.cells #[.pointer (some ⟨b,0,none⟩),v] (ρ.t 72) (0,0))/\w'.ownsRow 0 (ρ.t 5) 1 v bs.length bs)/\(oR b none w w'/\w'.heap.size=w.heap.size):=by
 rcases h.uV with hb|hb
 ·have hA:Lib.BuilderAt (ρ.t 72) (ρ.t 5) 0 b (.pointer none) bs w:=⟨bR _,v,hb,h.own,h.ne⟩
  refine(Any.Builder_copyCheck_fresh L X b w hA.cell0 hA.shape hA.frozen0).mono ?_;rintro e w' ⟨rfl,rfl⟩;have hu:=hA.used (.pointer (some ⟨b,0,none⟩));obtain⟨_,v',BG,vh,_⟩:=hu;have hv:v'=v:=by have:(w.setCell ⟨b,0,none⟩ (.pointer (some ⟨b,0,none⟩))).heap[b]? =some (.cells #[.pointer (some ⟨b,0,none⟩),v] (ρ.t 72) (0,0)):=heap_setCell_same w b 0 _ _ _ hb;rw[BG] at this;simp at this;exact this
  subst hv;exact⟨rfl,⟨BG,vh⟩,oR.setCell w ⟨b,0,none⟩ rfl _,by simp [World.setCell]⟩
 ·have hA:Lib.BuilderAt (ρ.t 72) (ρ.t 5) 0 b (.pointer (some ⟨b,0,none⟩)) bs w:=⟨bR _,v,hb,h.own,h.ne⟩
  refine(Any.Builder_copyCheck_used L X b w hA.cell0).mono ?_;rintro e w' ⟨rfl,rfl⟩;exact⟨rfl,⟨hb,h.own⟩,oR.refl _,rfl⟩
set_option maxHeartbeats 2000000 in
set_option maxRecDepth 100000 in
theorem agh(L:Lays.n166 P ρ)(X:Builder.Extra P ρ)(b:Nat)(v0:Value)(bs:List Value)(s:af)(w:World)(h:CB (ρ.t 72) (ρ.t 5) b v0 bs w)(hlen:bs.length+s.size<=140737488355328):
 Calls P (ρ.f 166) #[.pointer (some ⟨b,0,none⟩),.string s] w λe w'=>e= .returned (.tuple #[.int .i64 s.size,.nilIface])/\∃v',CB (ρ.t 72) (ρ.t 5) b v' (bs++eb s) w'/\oR b v0.ownBlock w w'/\∀g,v'.ownBlock=some g->v0.ownBlock=some g\/w.heap.size<=g:=by
 obtain⟨i0,hi,N9,Vc,B6⟩:=info_parts X.infoByte;have bS:=h.lt;have mixed:=L.mixed;have t72:=L.t72;have a72:=L.a72;have z72:=L.z72;have v72:=L.v72;have u72:=run_underlying L.t72;have t70:=L.t70;have a70:=L.a70;have z70:=L.z70;have v70:=L.v70;have u70:=run_underlying L.t70;have t37:=L.t37;have a37:=L.a37;have z37:=L.z37;have v37:=L.v37;have u37:=run_underlying L.t37;have t3:=L.t3;have a3:=L.a3;have z3:=L.z3;have v3:=L.v3;have u3:=run_underlying L.t3;have t9:=L.t9;have a9:=L.a9;have z9:=L.z9;have v9:=L.v9;have u9:=run_underlying L.t9;have t4:=L.t4;have a4:=L.a4;have z4:=L.z4;have v4:=L.v4;have u4:=run_underlying L.t4;have t164:=L.t164;have a164:=L.a164;have z164:=L.z164;have v164:=L.v164;have aov:=run_underlying L.t164;have t5:=X.t5;have a5:=X.a5;have z5:=X.z5;have v5:=X.v5;have u5:=run_underlying X.t5;have aon:∀args w,(callFunc (ρ.f 240) args).run P w= .ok (.enter (ρ.f 240) args) w:=enters_of L.f240 (by kernel_rfl) rfl
 go_enter L.f166,Body.n166_ntmps ρ
 go_wp2_with (go_at_fn (ρ.f 240);refine(agf {L with} X.toX72 b v0 bs _ h).mono ?_)
 rintro e w1 ⟨rfl,⟨D4,gu⟩,vK,CM⟩;have fL:=h.ne;have c0:w1.cell? ⟨b,0,none⟩=some (.pointer (some ⟨b,0,none⟩)):=by rw[dz D4];rfl
 have c1:w1.cell? ⟨b,1,none⟩=some v0:=by rw[dz D4];rfl
 go_wp2_with (at_builtin;refine aeu rfl _ _ (ρ.t 37) (ρ.t 9) rfl (ρ.t 5) i0 L.t37 L.t9 hi N9 Vc B6 _ _ _ rfl gu s rfl ?c3 ?c4 ?_)
 case c3=>unfold maxLen;omega
 case c4=>omega
 intro v' w2 vh Gk pw;have Eb:b<w1.heap.size:=by rw[CM];exact bS
 have ub:w2.heap[b]? =some (.cells #[.pointer (some ⟨b,0,none⟩),v0] (ρ.t 72) (0,0)):=by rw[Gk.block b Eb (λe=>fL e.symm)];exact D4
 have d0:w2.cell? ⟨b,0,none⟩=some (.pointer (some ⟨b,0,none⟩)):=by rw[dz ub];rfl
 have d1:w2.cell? ⟨b,1,none⟩=some v0:=by rw[dz ub];rfl
 have f1:w2.frozen? ⟨b,1,none⟩=false:=Lib.frozen_of_heap ub 1;obtain⟨ao,n',cap,rfl⟩:∃ao n' cap,v'= .slice ao n' cap:=by
  rcases vh.2 with⟨hv,_⟩|⟨g,cap,cur,hv,_⟩
  ·exact⟨_,_,_,hv⟩
  ·exact⟨_,_,_,hv⟩
 go_wp2
 go_ret2
 have NO:(Value.slice ao n' cap).ownBlock≠some b:=λe=>by
  rcases pw b e with h1|h1
  ·exact fL h1
  ·omega
 have nH:(w2.setCell ⟨b,1,none⟩ (.slice ao n' cap)).heap[b]? =some (.cells #[.pointer (some ⟨b,0,none⟩),.slice ao n' cap] (ρ.t 72) (0,0)):=heap_setCell_same w2 b 1 _ _ _ ub;refine⟨rfl,_,⟨.inr nH,?_,NO⟩,?_,λg hg=> ?_⟩
 ·have hl:(bs++eb s).length=bs.length+s.size:=by rw[aJ,Lib.strCells_length]
  rw[hl];refine⟨vh.1,?_⟩;rcases vh.2 with hn|⟨g,DY,cur,hv,hbg,hg,rest⟩
  ·exact .inl hn
  ·refine .inr ⟨g,DY,cur,hv,hbg,?_,rest⟩;rw[Below.heap_setCell _ _ _ _ (λe=>NO (by rw[hv,eF];exact congrArg some e))];exact hg
 ·refine oR.trans ⟨vK.os,vK.tape,vK.output,vK.size,λk hk h1 h2=>vK.block k hk h1 (by simp)⟩ (oR.trans (oR.of Gk) (oR.setCell w2 ⟨b,1,none⟩ rfl _))
 ·rcases pw g hg with h1|h1
  ·exact .inl h1
  ·exact .inr (by omega)
theorem oR.freeze{b:Nat}{g:Nat}(w:World)(a:Addr)(ha:a.block=g)(n:Nat):oR b (some g) w (w.freeze a n):=by
 unfold World.freeze;split
 ·exact oR.refl _
 ·refine⟨rfl,rfl,rfl,by simp,λk hk h1 h2=> ?_⟩;simp only[Array.getElem?_modify];rw[if_neg];intro e;exact h2 (by rw[<-e,ha])
theorem oR.drew{b:Nat}{g:ae Nat}(w:World):oR b g w w.drew:=⟨rfl,rfl,rfl,bg _,λ_ _ _ _=>rfl⟩
theorem oR.alloc{b:Nat}{g:ae Nat}(w:World)(o:Obj):oR b g w (w.alloc o):=⟨rfl,rfl,rfl,by simp,λk hk _ _=>Below.heap_alloc _ _ _ hk⟩
set_option maxHeartbeats 2000000 in
set_option maxRecDepth 100000 in
theorem ajI(L:Lays.n169 P ρ)(X:Builder.Extra P ρ)(b:Nat)(v0:Value)(l:List UInt8)(w:World)(h:CB (ρ.t 72) (ρ.t 5) b v0 (Lib.byteCells l) w):
 Calls P (ρ.f 169) #[.pointer (some ⟨b,0,none⟩)] w λe w'=>e= .returned (.string ⟨l.toArray⟩)/\oR b v0.ownBlock w w':=by
 obtain⟨p,D4⟩:∃p,w.heap[b]? =some (.cells #[p,v0] (ρ.t 72) (0,0)):=by
  rcases h.uV with h|h
  ·exact⟨_,h⟩
  ·exact⟨_,h⟩
 have gu:=h.own;have bS:=h.lt;rw[Lib.byteCells_length] at gu;have mixed:=L.mixed;have t72:=L.t72;have a72:=L.a72;have z72:=L.z72;have v72:=L.v72;have u72:=run_underlying L.t72;have t70:=L.t70;have a70:=L.a70;have z70:=L.z70;have v70:=L.v70;have u70:=run_underlying L.t70;have t37:=L.t37;have a37:=L.a37;have z37:=L.z37;have v37:=L.v37;have u37:=run_underlying L.t37;have t127:=L.t127;have a127:=L.a127;have z127:=L.z127;have v127:=L.v127;have aou:=run_underlying L.t127;have t3:=L.t3;have a3:=L.a3;have z3:=L.z3;have v3:=L.v3;have u3:=run_underlying L.t3;have t9:=L.t9;have a9:=L.a9;have z9:=L.z9;have v9:=L.v9;have u9:=run_underlying L.t9;have t5:=X.t5;have a5:=X.a5;have z5:=X.z5;have v5:=X.v5;have u5:=run_underlying X.t5;rcases gu.2 with⟨rfl,hz⟩|⟨g,cap,cur,rfl,hbg,hg,NN,Aj,mZ,vl⟩
 ·have hl:l=[]:=bD hz;subst hl;have hUS:=ig L X;have c1:w.drew.cell? ⟨b,1,none⟩=some (.slice none 0 0):=by have:w.drew.heap[b]? =some (.cells #[p,.slice none 0 0] (ρ.t 72) (0,0)):=D4;rw[dz this];rfl
  have hSD:(eN #[(ρ.t 37)] (ρ.t 127) #[.slice none 0 0]).run P w.drew= .ok (.pointer none) w.drew:=rfl
  go_enter L.f169,iZ ρ
  go_wp2
  go_region_o
  all_goals(go_wp2;go_ret;exact⟨rfl,oR.drew w⟩)
 ·by_cases NF:l.length=0
  ·have hl:l=[]:=bD NF;subst hl;by_cases hc0:cap=0
   ·subst hc0;have hUS:=ig L X;have c1:w.drew.cell? ⟨b,1,none⟩=some (.slice (some ⟨g,0,none⟩) 0 0):=by have:w.drew.heap[b]? =some (.cells #[p,.slice (some ⟨g,0,none⟩) 0 0] (ρ.t 72) (0,0)):=D4;rw[dz this];rfl
    have hSD:(eN #[(ρ.t 37)] (ρ.t 127) #[.slice (some ⟨g,0,none⟩) 0 0]).run P w.drew= .ok (.pointer (some ⟨w.drew.heap.size,0,none⟩)) (w.drew.alloc (.view ⟨g,0,none⟩ (ρ.t 5))):=
     Lib.run_unsafeSliceData_zero w.drew _ _ (ρ.t 5) L.t127 ⟨g,0,none⟩ 0 ((ρ.t 5),cur.size) (by have Kx:w.drew.heap[g]? =some (.cells cur (ρ.t 5) (0,0)):=hg;simp [World.shape?,Kx])
    have c2:(w.drew.alloc (.view ⟨g,0,none⟩ (ρ.t 5))).cell? ⟨b,1,none⟩=some (.slice (some ⟨g,0,none⟩) 0 0):=by have:(w.drew.alloc (.view ⟨g,0,none⟩ (ρ.t 5))).heap[b]? =_:=(Lib.alloc_old w.drew _ b bS).trans D4;rw[dz this];rfl
    have c3:(w.alloc (.view ⟨g,0,none⟩ (ρ.t 5))).drew.cell? ⟨b,1,none⟩=some (.slice (some ⟨g,0,none⟩) 0 0):=c2;have c0:w.cell? ⟨b,1,none⟩=some (.slice (some ⟨g,0,none⟩) 0 0):=c1
    go_enter L.f169,iZ ρ
    go_wp2
    go_region_o
    all_goals(go_wp2;go_ret;exact⟨rfl,(oR.drew w).trans (oR.alloc _ _)⟩)
   ·have hUS:=ig L X;have c1:w.drew.cell? ⟨b,1,none⟩=some (.slice (some ⟨g,0,none⟩) 0 cap):=by have:w.drew.heap[b]? =some (.cells #[p,.slice (some ⟨g,0,none⟩) 0 cap] (ρ.t 72) (0,0)):=D4;rw[dz this];rfl
    have hSD:(eN #[(ρ.t 37)] (ρ.t 127) #[.slice (some ⟨g,0,none⟩) 0 cap]).run P w.drew= .ok (.pointer (some ⟨g,0,none⟩)) w.drew:=
     iW _ _ _ _ _ _ hc0
    clear hc0
    go_enter L.f169,iZ ρ
    go_wp2
    go_region_o
    all_goals(go_wp2;go_ret;exact⟨rfl,oR.drew w⟩)
  ·have h0:l≠ []:=λe=>NF (by rw[e];rfl);have c1:w.drew.cell? ⟨b,1,none⟩=some (.slice (some ⟨g,0,none⟩) l.length cap):=by have:w.drew.heap[b]? =some (.cells #[p,.slice (some ⟨g,0,none⟩) l.length cap] (ρ.t 72) (0,0)):=D4;rw[dz this];rfl
   have hSD:(eN #[(ρ.t 37)] (ρ.t 127) #[.slice (some ⟨g,0,none⟩) l.length cap]).run P w.drew= .ok (.pointer (some ⟨g,0,none⟩)) w.drew:=
    iW _ _ _ _ _ _ (by omega)
   have hUS:(Builtin.unsafeString_ #[(ρ.t 127),(ρ.t 3)] (ρ.t 9) #[.pointer (some ⟨g,0,none⟩),.int .i64 l.length]).run P w.drew= .ok (.string ⟨l.toArray⟩) (w.drew.freeze ⟨g,0,none⟩ l.length):=by refine Lib.run_unsafeString_row w.drew (ρ.t 127) (ρ.t 3) (ρ.t 9) (ρ.t 5) L.t127 X.cellsByte g cur.size (by have Kx:w.drew.heap[g]? =some (.cells cur (ρ.t 5) (0,0)):=hg;simp [World.shape?,Kx]) l h0 (by omega) (by unfold maxLen at Aj;omega) ?_;intro j x hx;have:=gu.cells (g:=g) rfl j (.int .u8 x.toNat) (by simp [Lib.byteCells,hx]);exact this
   go_enter L.f169,iZ ρ
   go_wp2
   go_region_o
   all_goals(go_wp2;go_ret;exact⟨rfl,(oR.drew w).trans (oR.freeze _ _ rfl _)⟩)
end Go.Ref

namespace Go.Ref
open Go
inductive SV where
 |undef
 |skip
 |jJ
 |m5
 |b8 (t:Ty) (x:El t) (own:List (List Nat))
 |ptr (id:Nat) (t:Ty) (p:List Nat)
 |view (t:Ty) (x:El t)
 |cap (f:Nat) (t:Ty) (x:El t) (u:Ty) (y:El u)
 |over
 |eU (id:Nat) (a b:Ty) (j:Nat)
def Ty.yi:Ty->Bool
 | .dC (.qV _ _) _ _=>false
 | .dC _ _ _=>true
 |_=>false
def Ty.fA:Ty->Bool
 | .dC _ _ _=>true
 |_=>false
def SV.fY:SV->Bool
 | .eU _ _ _ _=>true
 |_=>false
structure fc where
 t:Ty
 x:El t
 own:List (List Nat)
structure State where
 sl:List (List SV)
 bs:List (ae fc)
def u6(a:Ty):List Nat->Nat
 |0::q=>a.off q
 | [1]=>a.cells
 | [1,i]=>a.cells+i
 | [2]=>a.cells+2
 |_=>0
def gIn(a:Ty):List Nat->Prop
 | []=>True
 |0::q=>a.nb q
 | [1]=>True
 | [1,i]=>i<2
 | [2]=>True
 |_=>False
def Hp:List (List Nat):=[[2]]
def sZ:List (List Nat):=[[0],[1],[0,2],[1,2]]
def Ty.nf:Ty->Bool
 | .dC .kF _ _=>true
 |_=>false
structure Env where
 ty:TypeId->ae Ty
 bytes:TypeId->Nat
 pt:TypeId->Bool
 lH:Nat->List Nat
 qD:Nat->List Nat
 outs:List Nat
 ps:List Ty
 mp:TypeId->ae (TypeId×TypeId):=λ_=>none
 join:Nat->ae (List Nat):=λ_=>none
 fz:Nat->ae (Nat×TypeId):=λ_=>none
 dr:Nat->List Nat:=λ_=>[]
 sh:List Nat:=[]
 ro:Bool:=false
 mv:List Nat:=[]
 fr:Nat->List Nat:=λ_=>[]
 bl:TypeId->ae TypeId:=λ_=>none
 gr:TypeId->ae (Ty×Ty):=λ_=>none
 ga:TypeId->Bool:=λ_=>false
 sg:ae (Nat×Nat×Nat):=none
 sp:ae (Nat×Nat×Nat×Nat):=none
def Ty.pD:Ty->Bool
 | .unit=>true
 | .pair (.int _) b=>b.pD
 |_=>false
def Ty.isKey:Ty->Bool
 | .bool| .int _| .str=>true
 | .pair a b=>(Ty.pair a b).pD
 |_=>false
def CH:(t:Ty)->El t->El t->Bool
 | .pair (.int _) b,x,y=>decide (x.1=y.1)&&CH b x.2 y.2
 |_,_,_=>true
def oo:(t:Ty)->El t->El t->Bool
 | .bool,x,y=>decide (x=y)
 | .int _,x,y=>decide (x=y)
 | .str,x,y=>decide (x=y)
 | .pair a b,x,y=>CH (.pair a b) x y
 |_,_,_=>false
def nB{K V:Type}(eq:K->K->Bool)(d:V):List (K×V)->K->V
 | [],_=>d
 |q::r,k=>bif eq k q.1 then q.2 else nB eq d r k
def nC{K V:Type}(eq:K->K->Bool):List (K×V)->K->Bool
 | [],_=>false
 |q::r,k=>bif eq k q.1 then true else nC eq r k
section
variable {R:Type}
abbrev gE(R:Type):=List SV->ae fc->(List SV->ae fc->ae R)->ae R
def SV.el(s:SV)(u:Ty)(K:El u->ae R):ae R:=
 match s with
 | .b8 t x _=>if h:t.iL u=true then K (Ty.cast h x) else none
 | .jJ=>match u with
   | .sl _ _=>K []
   |_=>none
 |_=>none
def Hf:Value->SV
 | .bool b=> .b8 .bool b []
 | .int k n=> .b8 (.int k) n []
 | .string s=> .b8 .str s []
 | .slice none 0 0=> .jJ
 | .pointer none=> .m5
 |_=> .undef
def State.slot(s:State)(t:Nat):List SV:=s.sl.getD t [.undef]
def State.Eu(s:State):Operand->List SV
 | .tmp t=>s.slot t
 | .const v=>[Hf v]
 |_=>[.undef]
def one:List SV->SV
 | [x]=>x
 |_=> .undef
def State.cM(s:State)(x:Operand):SV:=one (s.Eu x)
def State.box(s:State)(id:Nat):ae fc:=(s.bs.getD id none)
def SV.shut:SV->SV
 | .b8 t x _=> .b8 t x []
 | .eU _ _ _ _=> .undef
 |v=>v
def SV.own:SV->List (List Nat)
 | .b8 _ _ o=>o
 | .jJ=>[[]]
 |_=>[]
def gj:List SV->Nat->List SV
 | [],_=>[]
 |v::r,0=>v.shut::r
 |v::r,j+1=>v::gj r j
structure Out where
 v:List SV
 bx:ae (Nat×fc):=none
 cl:List (Nat×Nat):=[]
def State.close(s:State):List (Nat×Nat)->State
 | []=>s
 |(i,j)::r=>State.close {s with sl:=s.sl.set i (gj (s.slot i) j)} r
def State.cD(s:State):ae (Nat×fc)->State
 |some (id,B)=>{s with bs:=s.bs.set id (some B)}
 |none=>s
def State.bX(s:State):ae Nat->List SV->State
 |some d,v=>{s with sl:=s.sl.set d v}
 |none,_=>s
def State.apply(s:State)(dst:ae Nat)(o:Out):State:=((s.close o.cl).cD o.bx).bX dst o.v
def Cn:Operand->ae Nat
 | .tmp t=>some t
 |_=>none
def src:Operand->List (Nat×Nat)
 | .tmp t=>[(t,0)]
 |_=>[]
def dn(op:BinOp)(k:IntKind)(a b:Int):Int:=
 match op with
 | .and=>k.wrap ((eW k.bits a&&&eW k.bits b).toNat:Nat)
 | .or=>k.wrap ((eW k.bits a|||eW k.bits b).toNat:Nat)
 | .xor=>k.wrap ((eW k.bits a^^^eW k.bits b).toNat:Nat)
 |_=>k.wrap ((eW k.bits a&&& ~~~ eW k.bits b).toNat:Nat)
def ml:(t:Ty)->El t->El t->ae Bool
 | .bool,x,y=>some (x==y)
 | .int _,x,y=>some (decide (x=y))
 | .str,x,y=>some (decide (x=y))
 | .unit,_,_=>some true
 | .arr _ (.int _),x,y=>some (decide ((x:List Int)=y))
 | .pair a b,x,y=>match ml a x.1 y.1,ml b x.2 y.2 with
   |some p,some q=>some (p&&q)
   |_,_=>none
 |_,_,_=>none
def i64(n:Int):List SV:=[.b8 (.int .i64) n []]
def bl(b:Bool):List SV:=[.b8 .bool b []]
def yW(op:BinOp)(k:IntKind)(a:Int)(k':IntKind)(b:Int)(K:List SV->ae R):ae R:=
 match op with
 | .shl=>bif decide (b<0) then none else K [.b8 (.int k) (k.wrap (a*2^min b.toNat k.bits)) []]
 | .shr=>bif decide (b<0) then none else K [.b8 (.int k) (a.fdiv (2^min b.toNat k.bits)) []]
 |_=>if k=k' then
  match op with
  | .add=>K [.b8 (.int k) (k.wrap (a+b)) []]
  | .sub=>K [.b8 (.int k) (k.wrap (a-b)) []]
  | .mul=>K [.b8 (.int k) (k.wrap (a*b)) []]
  | .quo=>bif decide (b=0) then none else K [.b8 (.int k) (k.wrap (a.tdiv b)) []]
  | .rem=>bif decide (b=0) then none else K [.b8 (.int k) (a.tmod b) []]
  | .and| .or| .xor| .andNot=>K [.b8 (.int k) (dn op k a b) []]
  | .eql=>K (bl (decide (a=b)))
  | .neq=>K (bl (!decide (a=b)))
  | .lss=>K (bl (decide (a<b)))
  | .leq=>K (bl (decide (a<=b)))
  | .gtr=>K (bl (decide (b<a)))
  | .geq=>K (bl (decide (b<=a)))
  |_=>none
  else none
def yX(op:BinOp)(a b:af)(K:List SV->ae R):ae R:=
 match op with
 | .add=>bif decide (a.size+b.size<=9223372036854775807) then K [.b8 .str (a++b) []] else none
 | .eql=>K (bl (decide (a=b)))
 | .neq=>K (bl (!decide (a=b)))
 | .lss=>K (bl (kr a.toList b.toList))
 | .leq=>K (bl (kr a.toList b.toList||decide (a=b)))
 | .gtr=>K (bl (!(kr a.toList b.toList||decide (a=b))))
 | .geq=>K (bl (!(kr a.toList b.toList)))
 |_=>none
def Ty.depth:Ty->Nat
 | .arr _ t=>t.depth+1
 | .pair a b=>max (a.depth+1) b.depth
 |_=>1
def yV(E:Env)(op:BinOp)(T:TypeId)(x y:SV)(K:List SV->ae R):ae R:=
 match E.ty T with
 |some t=>if bC t.depth 1000=false then none else x.el t λa=>y.el t λb=>match ml t a b with
  |some r=>match op with
   | .eql=>K (bl r)
   | .neq=>K (bl (!r))
   |_=>none
  |none=>none
 |none=>none
def bin(E:Env)(op:BinOp)(T:TypeId)(x y:SV)(K:List SV->ae R):ae R:=
 match x,y with
 | .b8 (.int k) a _,.b8 (.int k') b _=>yW op k a k' b K
 | .b8 .str a _,.b8 .str b _=>yX op a b K
 | .ptr _ t _,.m5=>if((t.fA&& !t.nf)|| !E.pt T)=true then none else match op with
   | .eql=>K (bl false)
   | .neq=>K (bl true)
   |_=>none
 | .m5,.m5=>if E.pt T=false then none else match op with
   | .eql=>K (bl true)
   | .neq=>K (bl false)
   |_=>none
 |x,y=>yV E op T x y K
def ze(s:af)(i:Nat):Int:=if h:i<s.size then((s[i]'h).toNat:Int) else 0
def strOf(xs:List Int):af:=⟨(xs.map λx=>UInt8.ofNat x.toNat).toArray⟩
def zd(i:Int)(n:Nat)(K:ae R):ae R:=bif decide (0<=i) then bif decide (i<(n:Int)) then K else none else none
def EZ(lo:ae SV)(h:Nat)(K:Nat->ae R):ae R:=
 match lo with
 |none=>K 0
 |some v=>v.el (.int .i64) λl=>bif decide (0<=l) then bif decide (l<=(h:Int)) then K l.toNat else none else none
def cutAt(lo hi:ae SV)(n:Nat)(K:Nat->Nat->ae R):ae R:=
 match hi with
 |none=>EZ lo n λl=>K l n
 |some v=>v.el (.int .i64) λh=>bif decide (0<=h) then bif decide (h<=(n:Int)) then EZ lo h.toNat (λl=>K l h.toNat) else none else none
def Ty.sR:Ty->Nat->Bool
 | .arr n _,i=>bC (i+1) n
 |_,_=>true
def EW(own:List (List Nat))(p:List Nat):List (List Nat):=own.filter λq=> !(p.isPrefixOf q)
def pa(own:List (List Nat))(p:List Nat):Bool:=own.any λq=>q==p
def UH(own:List (List Nat))(p:List Nat):List (List Nat):=(own.filter λq=>p.isPrefixOf q).map λq=>q.drop p.length
def bump:List Nat->ae (List Nat)
 | []=>none
 |j::p=>some ((j+1)::p)
def z40:Ty->List (List Nat)
 | .sl _ _=>[[]]
 | .pair a b=>(z40 a).map (λp=>0::p)++(z40 b).filterMap bump
 |_=>[]
def Ac(t:Ty):El t->List (List Nat)->List (Nat×SV×List (List Nat))->(El t->List (List Nat)->ae R)->ae R
 |x,own,[],K=>K x own
 |x,own,(i,v,ov)::r,K=>if t.sR i=false then none else match t.at_ [i] with
  |some u=>v.el u λy=>match El.set t [i] x u y with
   |some z=>Ac t z (ov.map (λp=>i::p)++EW own [i]) r K
   |none=>none
  |none=>none
def EV(o:List (List Nat))(x:Operand):List (Nat×Nat):=
 match o with
 | []=>[]
 |_::_=>src x
def uD:State->List (Nat×Operand)->List (Nat×SV×List (List Nat))×List (Nat×Nat)
 |_,[]=>([],[])
 |s,(i,x)::r=>((i,s.cM x,(s.cM x).own)::(uD (s.close (EV (s.cM x).own x)) r).1,EV (s.cM x).own x++(uD (s.close (EV (s.cM x).own x)) r).2)
def Hn(t:Ty):List (El t)->List (Nat×SV)->(List (El t)->ae R)->ae R
 |xs,[],K=>K xs
 |xs,(i,v)::r,K=>if bC (i+1) xs.length=false then none else v.el t λy=>Hn t (xs.set i y) r K
def zty(ops:List Oper)(d:ae Nat):Bool:=
 match d with
 |some d=>ops.any λo=>match o.op with
  | .call ⟨.builtin .append,args,_⟩=>match args.toList with
    | .tmp t::_=>ak t d
    |_=>false
  |_=>false
 |none=>false
def Sy(ops:List Oper)(d:ae Nat):Bool:=
 match d with
 |some d=>ops.any λo=>match o.op,o.dst with
  | .indexAddr _ (.tmp t) _,some a=>ak t d&&ops.any λq=>match q.op with
    | .store _ (.tmp b) _=>ak a b
    |_=>false
  |_,_=>false
 |none=>false
def GG(E:Env)(ops:List Oper)(d:ae Nat):Bool:=
 match d with
 |some d=>ops.any λo=>match o.op with
  | .store _ (.tmp r) (.tmp t)=>ak t d&&E.outs.any (ak r)
  |_=>false
 |none=>false
def getM{α:Type}(j:Nat)(m:ae α×ae α):ae α:=bif ak j 0 then m.1 else bif ak j 1 then m.2 else none
def n3{α:Type}(j:Nat)(y:ae α)(m:ae α×ae α):ae α×ae α:=bif ak j 0 then(y,m.2) else(m.1,y)
def vU(s:State)(id:Nat)(a b:Ty)(K:El (.dC .kF a b)->List (List Nat)->ae R):ae R:=
 match s.box id with
 |some B=>if h:B.t.iL (.dC .kF a b)=true then bif sZ.all (pa B.own) then K (Ty.cast h B.x) B.own else none else none
 |none=>none
def J1(u':Ty)(s:State)(id:Nat)(t:Ty)(p:List Nat)(K:Out->ae R):ae R:=
 match t,p with
 | .dC .row a b,[i]=>match s.box id with
   |some B=>if h:B.t.iL (.dC .row a b)=true then if u'.iL a=true then
     bif bC (i+1) (ag (Ty.cast h B.x:List (El a))) then K {v:=[.b8 a (ah (Ty.cast h B.x:List (El a)) i (El.gA a)) []]} else none
    else none else none
   |none=>none
 | .dC .kF a b,[0]=>if u'.iL a=true then vU s id a b λx _=>K {v:=[.b8 a x.1 []]} else none
 | .dC .kF a b,[2]=>if u'.iL (.int .i64)=true then vU s id a b λx _=>K {v:=i64 x.2.2} else none
 |_,_=>none
def JI(u:Ty)(s:State)(id:Nat)(t:Ty)(p:List Nat)(v:SV)(K:Out->ae R):ae R:=
 match t,p with
 | .dC .row a b,[i]=>match s.box id with
   |some B=>if h:B.t.iL (.dC .row a b)=true then if a.iL u=true then
     v.el a λy=>bif bC (i+1) (ag (Ty.cast h B.x:List (El a))) then K {v:=[.skip],bx:=some (id,⟨.dC .row a b,(cK (Ty.cast h B.x:List (El a)) i y:List (El a)),[]⟩)} else none
    else none else none
   |none=>none
 | .dC .kF a b,0::q=>match a.at_ q with
   |some u'=>if u'.iL u=true then vU s id a b λx own=>v.el u λy=>match El.set a q x.1 u y with
     |some z=>bif pa own [] then K {v:=[.skip],bx:=some (id,⟨.dC .kF a b,(z,x.2),own⟩)} else none
     |none=>none
    else none
   |none=>none
 | .dC .kF a b,[2]=>if u.iL (.int .i64)=true then vU s id a b λx own=>v.el (.int .i64) λn=>bif pa own [] then K {v:=[.skip],bx:=some (id,⟨.dC .kF a b,(x.1,x.2.1,n),own⟩)} else none else none
 |_,_=>none
def Ly(v:SV)(j:Nat)(ta tb:Ty)(K:Out->ae R):ae R:=
 match v with
 | .ptr id (.dC .kF a b) []=>if(a.iL ta&&b.iL tb)=true then bif bC j 2 then K {v:=[.ptr id (.dC .kF a b) [j]]} else none else none
 |_=>none
def Td(t:Ty)(n:Int)(id:Nat)(r:Ty)(p:List Nat)(K:Out->ae R):ae R:=
 match r,p with
 | .dC (.qi m) a b,[]=>if a.iL t=true then zd n m (K {v:=[.ptr id (.dC .row a b) [n.toNat]]}) else none
 |_,_=>none
def Lm(u':Ty)(B:fc)(t:Ty)(p:List Nat)(K:Out->ae R):ae R:=
 match t,p with
 | .arr n e,[]=>if h:B.t.iL (.dC .row e .unit)=true then if u'.iL (.arr n e)=true then
    bif ak n (ag (Ty.cast h B.x:List (El e))) then K {v:=[.b8 (.arr n e) (Ty.cast h B.x:List (El e)) []]} else none
   else none else none
 |_,_=>none
def sf(E:Env)(T:TypeId)(s:State)(v:SV)(K:Out->ae R):ae R:=
 match v with
 | .ptr id (.dC .kF a b) [1,j]=>if E.pt T=true then vU s id a b λx own=>bif pa own [] then K {v:=[.eU id a b j],bx:=some (id,⟨.dC .kF a b,x,own.filter λq=> !q.isEmpty⟩)} else none else none
 |_=>none
def load(E:Env)(T:TypeId)(s:State)(la:Bool)(a:SV)(K:Out->ae R):ae R:=
 match E.ty T with
 |some u'=>match a with
  | .view t x=>if u'.iL t=true then K {v:=[.b8 t x []]} else none
  | .ptr id t p=>if t.fA=true then J1 u' s id t p K else match s.box id with
    |some B=>if B.t.iL t=true then
      match El.get B.t p B.x with
      |some ⟨u,y⟩=>if u'.iL u=true then
        bif la then K {v:=[.b8 u y (UH B.own p)],bx:=some (id,{B with own:=EW B.own p})} else K {v:=[.b8 u y []]}
       else none
      |none=>none
     else Lm u' B t p K
    |none=>none
  |_=>none
 |none=>sf E T s a K
def store(E:Env)(T:TypeId)(s:State)(a:SV)(vo:Operand)(K:Out->ae R):ae R:=
 match E.ty T with
 |some u=>match a with
  | .ptr id t p=>if t.fA=true then JI u s id t p (s.cM vo) K else match s.box id with
    |some B=>if B.t.iL t=true then
      match t.at_ p with
      |some u'=>if u'.iL u=true then
        (s.cM vo).el u λy=>match El.set B.t p B.x u y with
        |some z=>K {v:=[.skip],bx:=some (id,{t:=B.t,x:=z,own:=(s.cM vo).own.map (λq=>p++q)++EW B.own p}),cl:=src vo}
        |none=>none
       else none
      |none=>none
     else none
    |none=>none
  |_=>none
 |none=>none
def Ty.lF:Ty->Bool
 | .pair .. =>true
 |_=>false
def Li(u:Ty)(id:Nat)(t:Ty)(p:List Nat)(j:Nat)(K:Out->ae R):ae R:=
 match t,p with
 | .dC .kF a b,0::q=>match a.at_ q with
   |some u'=>if(u.iL u'&&u.lF)=true then match u.at_ [j] with
     |some f=>if ak f.cells 0=true then none else K {v:=[.ptr id (.dC .kF a b) (0::(q++ [j]))]}
     |none=>none
    else none
   |none=>none
 |_,_=>none
def Ll(m:Nat)(t:Ty)(n:Int)(id:Nat)(r:Ty)(p:List Nat)(K:Out->ae R):ae R:=
 match r,p with
 | .dC .kF a b,0::q=>match a.at_ q with
   |some u=>if u.iL (.arr m t)=true then zd n m (K {v:=[.ptr id (.dC .kF a b) (0::(q++ [n.toNat]))]}) else none
   |none=>none
 |_,_=>none
def UB(t?:ae Ty)(a:SV)(j:Nat)(K:Out->ae R):ae R:=
 match t?,a with
 |some u,.ptr id t p=>if t.fA=true then Li u id t p j K else match t.at_ p with
  |some u'=>if(u.iL u'&&u.lF)=true then match u.at_ [j] with
    |some f=>if ak f.cells 0=true then none else K {v:=[.ptr id t (p++ [j])]}
    |none=>none
   else none
  |none=>none
 |some u,.view t x=>if(u.iL t&&u.lF)=true then match El.get t [j] x with
   |some ⟨f,y⟩=>if ak f.cells 0=true then none else K {v:=[.view f y]}
   |none=>none
  else none
 |_,_=>none
def SV.num(s:SV)(K:Int->ae R):ae R:=
 match s with
 | .b8 (.int _) n _=>K n
 |_=>none
def UD(E:Env)(T:TypeId)(a i:SV)(K:Out->ae R):ae R:=
 i.num λn=>match E.ty T,a with
  |some (.sl e t),.b8 t' xs _=>(SV.b8 t' xs []).el (.sl e t) λys=>zd n ys.length (K {v:=[.view t (ah ys n.toNat (El.gA t))]})
  |some (.arr m t),.ptr id r p=>if r.fA=true then Ll m t n id r p K else match r.at_ p with
   |some u=>if u.iL (.arr m t)=true then zd n m (K {v:=[.ptr id r (p++ [n.toNat])]}) else none
   |none=>none
  |some (.arr m t),.view t' xs=>(SV.b8 t' xs []).el (.arr m t) λys=>zd n m (K {v:=[.view t (ah ys n.toNat (El.gA t))]})
  |some (.sl _ t),.ptr id r p=>Td t n id r p K
  |none,.ptr id (.dC .kF a b) [1]=>if E.ga T=true then zd n 2 (K {v:=[.ptr id (.dC .kF a b) [1,n.toNat]]}) else none
  |_,_=>none
def UE(E:Env)(T:TypeId)(a i:SV)(K:Out->ae R):ae R:=
 i.num λn=>match E.ty T with
  |some .str=>a.el .str λs=>zd n s.size (K {v:=[.b8 (.int .u8) (ze s n.toNat) []]})
  |some (.arr m t)=>a.el (.arr m t) λys=>zd n m (K {v:=[.b8 t (ah ys n.toNat (El.gA t)) []]})
  |_=>none
def yZ(E:Env)(T:TypeId)(a:SV)(lo hi:ae SV)(K:Out->ae R):ae R:=
 match E.ty T with
 |some .str=>a.el .str λs=>cutAt lo hi s.size λl h=>K {v:=[.b8 .str (s.extract l h) []]}
 |some (.sl e t)=>a.el (.sl e t) λxs=>cutAt lo hi (ag xs) λl h=>K {v:=[.b8 (.sl e t) ((aI h xs).drop l) []]}
 |_=>none
def T1(E:Env)(T U:TypeId)(bo:Operand)(b x:SV)(K:Out->ae R):ae R:=
 if ak T U=false then none else
 match E.ty T with
 |some (.sl e t)=>if(ak (E.bytes e) 0||ak t.cells 0)=true then none else match b with
  | .jJ=>x.el (.sl e t) λys=>bif decide (ag ys*E.bytes e<=140737488355328) then K {v:=[.b8 (.sl e t) ys [[]]]} else none
  | .b8 t' xs o=>if pa o []=false then none else(SV.b8 t' xs o).el (.sl e t) λxs=>x.el (.sl e t) λys=>
    bif decide ((ag xs+ag ys)*E.bytes e<=140737488355328) then K {v:=[.b8 (.sl e t) (xs++ys:List (El t)) [[]]],cl:=src bo} else none
  |_=>none
 |_=>none
def Cb(E:Env)(T:TypeId)(x:SV)(K:Out->ae R):ae R:=
 match E.ty T with
 |some .str=>x.el .str λs=>K {v:=i64 (s.size:Int)}
 |some (.sl e t)=>match x with
  | .ptr _ (.dC (.qi n) _ _) []=>K {v:=i64 (n:Int)}
  |x=>x.el (.sl e t) λxs=>K {v:=i64 (ag xs:Int)}
 |some (.arr n _)=>K {v:=i64 (n:Int)}
 |_=>none
def tj(E:Env)(S T:TypeId)(x:SV)(K:Out->ae R):ae R:=
 match E.ty S,E.ty T with
 |some (.int k),some (.int k')=>x.el (.int k) λn=>K {v:=[.b8 (.int k') (k'.wrap n) []]}
 |some .str,some .str=>x.el .str λs=>K {v:=[.b8 .str s []]}
 |some (.sl e (.int .u8)),some .str=>x.el (.sl e (.int .u8)) λxs=>K {v:=[.b8 .str (strOf xs) []]}
 |_,_=>none
def rR(E:Env)(S T:TypeId)(s:State)(id n:Nat)(a b:Ty)(K:Out->ae R):ae R:=
 match E.ty S,E.ty T with
 |some (.sl _ (.int .u8)),some .str=>if a.iL (.int .u8)=true then match s.box id with
  |some B=>if h:B.t.iL (.dC .row (.int .u8) b)=true then bif ak n (ag (Ty.cast h B.x:List Int)) then K {v:=[.b8 .str (strOf (Ty.cast h B.x:List Int)) []]} else none else none
  |none=>none else none
 |_,_=>none
def vv(E:Env)(T:TypeId):ae (Ty×Ty):=
 match E.mp T with
 |some (k,e)=>match E.ty k,E.ty e with
  |some kt,some vt=>if kt.isKey=true then some (kt,vt) else none
  |_,_=>none
 |none=>none
def sj(s:State)(dst:ae Nat)(t:Ty)(x:El t)(p:Ty)(K:Out->ae R):ae R:=
 match dst with
 |some d=>match s.bs[d+1]? with
  |some none=>K {v:=[.ptr (d+1) p []],bx:=some (d+1,⟨t,x,[]⟩)}
  |_=>none
 |none=>none
def C8(s:State)(m:SV)(kt vt:Ty)(K:Nat->List (El kt×El vt)->ae R):ae R:=
 match m with
 | .ptr id (.dC .mp kt' vt') []=>if((Ty.dC .mp kt' vt').iL (.dC .mp kt vt))=true then match s.box id with
   |some B=>if h:B.t.iL (.dC .mp kt vt)=true then K id (Ty.cast h B.x) else none
   |none=>none else none
 |_=>none
def tw(E:Env)(T:TypeId)(s:State)(m i:SV)(K:Out->ae R):ae R:=
 match vv E T with
 |some (kt,vt)=>C8 s m kt vt λ_ xs=>i.el kt λk=>K {v:=[.b8 vt (nB (oo kt) (El.gA vt) xs k) []]}
 |none=>none
def ur(E:Env)(T:TypeId)(s:State)(m i v:SV)(K:Out->ae R):ae R:=
 match vv E T with
 |some (kt,vt)=>C8 s m kt vt λid xs=>i.el kt λk=>v.el vt λy=>bif nC (oo kt) xs k then none else K {v:=[.skip],bx:=some (id,⟨.dC .mp kt vt,(xs++ [(k,y)]:List (El kt×El vt)),[]⟩)}
 |none=>none
def rY:Ty:= .dC .iter .unit .unit
def tA(s:State)(m:SV)(K:Out->ae R):ae R:=
 match m with
 | .ptr id (.dC .iter .unit .unit) []=>match s.box id with
   |some B=>if h:B.t.iL rY=true then
     bif decide ((Ty.cast h B.x:af×Nat).2<(Ty.cast h B.x:af×Nat).1.size) then
      K {v:=[.b8 .bool true [],.b8 (.int .i64) ((Ty.cast h B.x:af×Nat).2:Int) [],.b8 (.int .i32) ((Utf8.decode (Ty.cast h B.x:af×Nat).1 (Ty.cast h B.x:af×Nat).2).1:Int) []],
         bx:=some (id,⟨rY,((Ty.cast h B.x:af×Nat).1,(Ty.cast h B.x:af×Nat).2+(Utf8.decode (Ty.cast h B.x:af×Nat).1 (Ty.cast h B.x:af×Nat).2).2),[]⟩)}
     else K {v:=[.over]}
    else none
   |none=>none
 |_=>none
def z198:Operand->Bool
 | .const _=>true
 |_=>false
def tz(E:Env)(T:TypeId)(s:State)(dst:ae Nat)(lo:Operand)(l c:SV)(K:Out->ae R):ae R:=
 match E.ty T with
 |some (.sl e t)=>if(ak (E.bytes e) 0||ak t.cells 0)=true then none else l.el (.int .i64) λn=>c.el (.int .i64) λm=>
  bif z198 lo then
   bif decide (n=0) then bif decide (0<=m) then bif decide (m*E.bytes e<=140737488355328) then K {v:=[.b8 (.sl e t) ([]:List (El t)) [[]]]} else none else none else none
  else bif decide (n=m) then bif decide (0<=n) then bif decide (n*E.bytes e<=140737488355328) then sj s dst (.dC .row t .unit) (aB n.toNat (El.gA t):List (El t)) (.dC (.qi n.toNat) t .unit) K else none else none else none
 |_=>none
def OL(op:UnOp)(x:SV)(K:Out->ae R):ae R:=
 match op,x with
 | .not,.b8 .bool b _=>K {v:=bl (!b)}
 | .neg,.b8 (.int k) n _=>K {v:=[.b8 (.int k) (k.wrap (0-n)) []]}
 |_,_=>none
def uW(f:FuncId)(x:SV)(K:Out->ae R):ae R:=
 match x with
 | .ptr id u []=>if u.yi=true then none else K {v:=[.ptr id (.dC (.CF f) u .unit) []]}
 |_=>none
def Bz(n id:Nat)(a b:Ty)(lo hi:ae SV)(K:Out->ae R):ae R:=
 match hi with
 |some _=>none
 |none=>EZ lo n λl=>K {v:=[.ptr id (.dC (.qi n) a b) [l]]}
def yY(E:Env)(T:TypeId)(s:State)(id n:Nat)(t:Ty)(lo hi:ae SV)(K:Out->ae R):ae R:=
 match E.ty T,lo,hi with
 |some u,none,none=>if u.iL (.arr n t)=true then match s.box id with
  |some B=>if h:B.t.iL (.arr n t)=true then K {v:=[.ptr id (.dC (.qi n) t .unit) []],bx:=some (id,⟨.dC .row t .unit,(Ty.cast h B.x:List (El t)),[]⟩)} else none
  |none=>none else none
 |_,_,_=>none
def vT(s:af):List Int:=s.data.toList.map λc=>(c.toNat:Int)
def gQ{α:Type}(xs ys:List α)(lo:Nat):List α:=xs.take lo++(ys++xs.drop (lo+ys.length))
def pP(t:Ty)(s:State)(id n lo:Nat)(a b:Ty)(x:SV)(e:TypeId)(K:Out->ae R):ae R:=
 if a.iL t=true then x.el (.sl e t) λ(ys:List (El t))=>match s.box id with
  |some B=>if h:B.t.iL (.dC .row t b)=true then
    bif ak n (ag (Ty.cast h B.x:List (El t))) then bif bC lo n then
     K {v:=i64 ((ys.take (n-lo)).length:Int),bx:=some (id,⟨.dC .row t b,(gQ (Ty.cast h B.x:List (El t)) (ys.take (n-lo)) lo:List (El t)),[]⟩)}
    else none else none
   else none
  |none=>none else none
def rS(t:Ty)(s:State)(id n:Nat)(a b:Ty)(y:af)(K:Out->ae R):ae R:=
 if t.iL (.int .u8)=true then if a.iL (.int .u8)=true then match s.box id with
  |some B=>if h:B.t.iL (.dC .row (.int .u8) b)=true then
    bif ak n (ag (Ty.cast h B.x:List Int)) then
     K {v:=i64 ((aI n (vT y)).length:Int),bx:=some (id,⟨.dC .row (.int .u8) b,(gQ (Ty.cast h B.x:List Int) (aI n (vT y)) 0:List Int),[]⟩)}
    else none
   else none
  |none=>none else none else none
def copyV(E:Env)(T:TypeId)(s:State)(d x:SV)(K:Out->ae R):ae R:=
 match E.ty T,d with
 |some (.sl e t),.ptr id (.dC (.qi n) a b) []=>(match x with
  | .b8 .str y _=>rS t s id n a b y K
  |x=>pP t s id n 0 a b x e K)
 |some (.sl e t),.ptr id (.dC (.qi n) a b) [l]=>pP t s id n l a b x e K
 |_,_=>none
def Oj(t b:Ty):Bool:=
 b.iL t||(match t with
  | .dC (.CF _) u _=>b.iL u
  |_=>false)
def qP(s:State):List SV->ae (List SV×ae (Nat×fc))
 | []=>some ([],none)
 |v::r=>match qP s r with
  |none=>none
  |some (l,b)=>match v,b with
   | .b8 t x _,b=>some (.b8 t x []::l,b)
   | .jJ,b=>some (.jJ::l,b)
   | .view t x,b=>some (.view t x::l,b)
   | .ptr id t [],none=>match s.box id with
     |some B=>if Oj t B.t=true then some (.ptr 0 t []::l,some (id,B)) else none
     |none=>none
   |_,_=>none
def SV.oK(id:Nat):SV->SV
 | .ptr _ t p=> .ptr id t p
 |v=>v
def Ki(s:State):List Operand->ae (Nat×Nat×Ty×Ty×Nat×List Operand)
 | .tmp t::r=>match s.slot t with
   | [.eU id a b j]=>some (t,id,a,b,j,r)
   |_=>none
 |_=>none
def rP(C:FuncId->gE R)(s:State)(f:FuncId)(t id:Nat)(a b:Ty)(j:Nat)(vs:List SV)(K:Out->ae R):ae R:=
 if b.fA=true then none else match qP s vs with
 |some (l,none)=>vU s id a b λx own=>match getM j x.2.1 with
  |some y=>C f (.ptr 0 b []::l) (some ⟨b,y,Hp⟩) λr B'=>match B' with
   |some B'=>if h:B'.t.iL b=true then bif pa B'.own [2] then K {v:=r,bx:=some (id,⟨.dC .kF a b,(x.1,n3 j (some (Ty.cast h B'.x)) x.2.1,x.2.2),[]::own⟩),cl:=[(t,0)]} else none else none
   |none=>none
  |none=>none
 |_=>none
def oi(C:FuncId->gE R)(s:State)(dst:ae Nat)(f:FuncId)(vs:List SV)(K:Out->ae R):ae R:=
 match qP s vs with
 |some (l,none)=>C f l none λr B=>match B with
  |none=>K {v:=r}
  |some B=>match dst with
   |some d=>match s.bs[d+1]? with
    |some none=>K {v:=r.map (SV.oK (d+1)),bx:=some (d+1,B)}
    |_=>none
   |none=>none
 |some (l,some (id,B))=>if(B.t.nf&& !pa B.own [])=true then none else C f l (some B) λr B'=>match B' with
  |some B'=>if B'.t.iL B.t=true then K {v:=r,bx:=some (id,B')} else none
  |none=>none
 |none=>none
def si(g:Bool)(x y:SV)(K:Out->ae R):ae R:=
 match x,y with
 | .b8 (.int k) m _,.b8 (.int _) n _=>K {v:=[.b8 (.int k) (bif g then(if m<n then n else m) else(if n<m then n else m)) []]}
 |_,_=>none
def wO(E:Env)(T:TypeId)(K:Out->ae R):ae R:=
 match E.ty T with
 |some (.sl e t)=>K {v:=[.b8 (.sl e t) ([]:List (El t)) [[]]]}
 |_=>K {v:=[.jJ]}
def vD(s:State):Operand->ae (Nat×List SV)
 | .tmp t=>bif ak (s.slot t).length 1 then none else some (t,s.slot t)
 |_=>none
def ss(t:Nat):Nat->List (Nat×Nat)
 |0=>[]
 |n+1=>(t,n)::ss t n
def nT(E:Env)(d:ae Nat):Bool:=
 match d with
 |some d=>E.sh.any (ak d)
 |none=>false
def takes(E:Env)(d:ae Nat):Bool:=
 match d with
 |some d=>E.mv.any (ak d)
 |none=>false
def Out.shut(u:Out):Out:={u with v:=u.v.map SV.shut}
def Bv(f:FuncId)(x y:SV)(K:Out->ae R):ae R:=
 match x,y with
 | .view t a,.view u b=>K {v:=[.cap f t a u b]}
 |_,_=>none
def act(E:Env)(C:FuncId->gE R)(ops:List Oper)(o:Oper)(s:State)(K:Out->ae R):ae R:=
 match o.op with
 | .move x=>match vD s x with
   |some (t,l)=>bif nT E o.dst then K {v:=l.map SV.shut} else K {v:=l,cl:=bif l.all λv=>v.own.isEmpty then [] else ss t l.length}
   |none=>match s.cM x with
    | .b8 t y w=>bif zty ops o.dst||takes E o.dst then K {v:=[.b8 t y w],cl:=EV w x} else K {v:=[.b8 t y []]}
    | .undef=>none
    | .eU _ _ _ _=>none
    | .jJ=>wO E o.type K
    |v=>K {v:=[v]}
 | .assign x=>match s.cM x with
   | .b8 t y w=>K {v:=[.b8 t y w],cl:=EV w x}
   | .undef=>none
   | .eU _ _ _ _=>none
   | .jJ=>wO E o.type K
   |v=>K {v:=[v]}
 | .pick c a b=>match s.cM c with
   | .b8 .bool p _=>bif p then K {v:=[(s.cM a).shut]} else K {v:=[(s.cM b).shut]}
   |_=>none
 | .binOp op T x y _=>bin E op T (s.cM x) (s.cM y) λv=>K {v}
 | .unOp op _ x=>OL op (s.cM x) K
 | .convert S T x=>match s.cM x with
   | .ptr id (.dC (.qi n) a b) []=>rR E S T s id n a b K
   |v=>tj E S T v K
 | .load T a=>load E T s (zty ops o.dst||GG E ops o.dst||Sy ops o.dst) (s.cM a) K
 | .store T a x=>store E T s (s.cM a) x K
 | .nilCheck x=>match s.cM x with
   | .ptr id t p=>if(t.fA&& !t.nf)=true then none else K {v:=[.ptr id t p]}
   | .view t y=>K {v:=[.view t y]}
   |_=>none
 | .fieldAddr T x j=>match E.gr T with
   |some (ta,tb)=>Ly (s.cM x) j ta tb K
   |none=>UB (E.ty T) (s.cM x) j K
 | .indexAddr T x i=>UD E T (s.cM x) (s.cM i) K
 | .index T x i=>UE E T (s.cM x) (s.cM i) K
 | .field T x j=>match E.ty T with
   |some t=>if t.lF=false then none else(s.cM x).el t λy=>match El.get t [j] y with
    |some ⟨u,z⟩=>K {v:=[.b8 u z []]}
    |none=>none
   |none=>none
 | .slice T x lo hi none=>match s.cM x with
   | .ptr id (.dC (.qi n) a b) []=>(match E.ty T with
     |some (.sl _ t)=>if a.iL t=true then Bz n id a b (lo.map s.cM) (hi.map s.cM) K else none
     |_=>none)
   | .ptr id (.arr n t) []=>yY E T s id n t (lo.map s.cM) (hi.map s.cM) K
   |v=>yZ E T v (lo.map s.cM) (hi.map s.cM) K
 | .makeFunc (.func f) first captured=>match first.toList,captured.toList with
   | [],[x]=>uW f (s.cM x) K
   | [],[x,y]=>Bv f (s.cM x) (s.cM y) K
   |_,_=>none
 | .alloc T=>match E.ty T,o.dst with
   |some t,some d=>match s.bs[d+1]? with
    |some none=>K {v:=[.ptr (d+1) t []],bx:=some (d+1,⟨t,El.gA t,z40 t⟩)}
    |_=>none
   |none,some d=>(match E.gr T with
    |some (ta,tb)=>match s.bs[d+1]? with
     |some none=>K {v:=[.ptr (d+1) (.dC .kF ta tb) []],bx:=some (d+1,⟨.dC .kF ta tb,(El.gA ta,(none,none),(0:Int)),[]::sZ⟩)}
     |_=>none
    |none=>match E.bl T with
    |some e=>match s.bs[d+1]? with
     |some none=>K {v:=[.ptr (d+1) (.dC (.qV T e) .unit .unit) []],bx:=some (d+1,⟨.dC (.qV T e) .unit .unit,(⟨#[]⟩:af),[[]]⟩)}
     |_=>none
    |none=>none)
   |_,_=>none
 | .box T x=>match E.ty T,o.dst with
   |some t,some d=>match s.bs[d+1]? with
    |some none=>(s.cM x).el t λy=>K {v:=[.ptr (d+1) t []],bx:=some (d+1,⟨t,y,(s.cM x).own⟩),cl:=src x}
    |_=>none
   |_,_=>none
 | .build T parts=>match E.ty T with
   |some t=>if t.agg=false then none else Ac t (El.gA t) (z40 t) (uD s parts.toList).1 λy own=>K {v:=[.b8 t y own],cl:=(uD s parts.toList).2}
   |none=>none
 | .buildSlice T n parts=>match E.ty T with
   |some (.sl e t)=>if ak t.cells 0=true then none else bif bC (n*t.cells) 16777216 then Hn t (aB n (El.gA t)) (parts.toList.map λp=>(p.1,s.cM p.2)) λy=>K {v:=[.b8 (.sl e t) y [[]]]} else none
   |_=>none
 | .extract x j=>match x with
   | .tmp t=>if ak (s.slot t).length 1=true then(match one (s.slot t),j with
      | .over,0=>K {v:=bl false}
      |_,_=>none) else match(s.slot t)[j]? with
     |some (.b8 u y w)=>K {v:=[.b8 u y w],cl:=bif w.isEmpty then [] else [(t,j)]}
     |some .undef=>none
     |some (.eU _ _ _ _)=>none
     |some v=>K {v:=[v]}
     |none=>none
   |_=>none
 | .makeMap T none=>match vv E T with
   |some (kt,vt)=>sj s o.dst (.dC .mp kt vt) ([]:List (El kt×El vt)) (.dC .mp kt vt) K
   |none=>none
 | .lookup T x i false=>tw E T s (s.cM x) (s.cM i) K
 | .mapUpdate T m k x=>ur E T s (s.cM m) (s.cM k) (s.cM x) K
 | .insert T m k x=>ur E T s (s.cM m) (s.cM k) (s.cM x) K
 | .range T x=>match E.ty T with
   |some .str=>(s.cM x).el .str λy=>sj s o.dst rY ((y,0):af×Nat) rY K
   |_=>none
 | .next x true=>tA s (s.cM x) K
 | .makeSlice T l c=>tz E T s o.dst l (s.cM l) (s.cM c) K
 | .call ⟨.value (.func f),args,_⟩=>match Ki s args.toList with
   |some (t,id,a,b,j,r)=>rP C s f t id a b j (r.map s.cM) K
   |none=>oi C s o.dst f (args.toList.map s.cM) λu=>K (bif nT E o.dst then u.shut else u)
 | .call ⟨.value (.tmp y),args,_⟩=>match s.cM (.tmp y) with
   | .ptr id (.dC (.CF f) u _) []=>if u.yi=true then none else oi C s o.dst f (args.toList.map s.cM++ [.ptr id u []]) K
   | .cap f t x u y=>oi C s o.dst f (args.toList.map s.cM++ [.view t x,.view u y]) K
   |_=>none
 | .call ⟨.builtin .copy,args,argTypes⟩=>match args.toList,argTypes.toList with
   | [d,x],T::_=>copyV E T s (s.cM d) (s.cM x) K
   |_,_=>none
 | .call ⟨.builtin .len,args,argTypes⟩=>match args.toList,argTypes.toList with
   | [x],[T]=>Cb E T (s.cM x) K
   |_,_=>none
 | .call ⟨.builtin .append,args,argTypes⟩=>match args.toList,argTypes.toList with
   | [b,x],[T,U]=>T1 E T U b (s.cM b) (s.cM x) K
   |_,_=>none
 | .call ⟨.builtin .max,args,_⟩=>match args.toList with
   | [x,y]=>si true (s.cM x) (s.cM y) K
   |_=>none
 | .call ⟨.builtin .min,args,_⟩=>match args.toList with
   | [x,y]=>si false (s.cM x) (s.cM y) K
   |_=>none
 |_=>none
def T7(ops:List Oper)(g:Nat):ae Nat:=(ops[g]?).bind (·.dst)
def step(E:Env)(C:FuncId->gE R)(ops:List Oper)(o:Oper)(s:State)(K:State->ae R):ae R:=
 let go (s:State):ae R:=act E C ops o s λu=>K (s.apply o.dst u);let pass (s:State):ae R:=K (s.bX o.dst [.skip])
 match o.guard with
 |none=>go s
 |some (g,want)=>match T7 ops g with
  |none=>none
  |some d=>match s.slot d with
   | [.b8 .bool p []]=>bif p then(let s:=s.bX (some d) (bl true);bif want then go s else pass s) else(let s:=s.bX (some d) (bl false);bif want then pass s else go s)
   | [.skip]=>pass s
   |_=>none
def steps(E:Env)(C:FuncId->gE R)(ops:List Oper):List Oper->State->(State->ae R)->ae R
 | [],s,K=>K s
 |o::r,s,K=>step E C ops o s λs=>steps E C ops r s K
structure mK where
 i:Nat
 r:Nat
 w:Nat
 br:Nat
 bw:Nat
def bit(i:Nat):Nat:=1<<<i
def qG:List Nat->Nat
 | []=>0
 |i::r=>bit i|||qG r
def Ae:List Operand->List Nat
 | []=>[]
 | .tmp t::r=>t::Ae r
 |_::r=>Ae r
def looks(ops:List Oper)(o:Oper):List Nat:=Ae o.op.operands.toList++(match o.guard with
 |some (g,_)=>(T7 ops g).toList
 |none=>[])
def iy:SV->List Nat
 | .ptr id _ _=>[id]
 | .eU id _ _ _=>[id]
 |_=>[]
def zv(s:State)(o:Oper):List Nat:=
 match o.op with
 | .load _ a=>iy (s.cM a)
 | .store _ a _=>iy (s.cM a)
 | .alloc _| .box _ _| .makeMap _ _| .range _ _| .makeSlice _ _ _=>o.dst.toList.map λd=>d+1
 | .convert _ _ x=>iy (s.cM x)
 | .slice _ x _ _ _=>iy (s.cM x)
 | .lookup _ x _ _=>iy (s.cM x)
 | .mapUpdate _ m _ _=>iy (s.cM m)
 | .insert _ m _ _=>iy (s.cM m)
 | .next x _=>iy (s.cM x)
 | .call ⟨.value y,args,_⟩=>(args.toList.flatMap λx=>iy (s.cM x))++(iy (s.cM y)++o.dst.toList.map λd=>d+1)
 | .call ⟨.builtin .copy,args,_⟩=>args.toList.flatMap λx=>iy (s.cM x)
 |_=>[]
def oQ(ops:List Oper)(o:Oper)(i:Nat)(s:State)(u:Out):mK:=
 ⟨i,qG (looks ops o),qG (o.dst.toList++u.cl.map (·.1)),qG (zv s o),qG (u.bx.toList.map (·.1))⟩
def mK.apart(a b:mK):Bool:=
 ak (a.w&&&(b.r|||b.w)) 0&&(ak (b.w&&&a.r) 0&&(ak (a.bw&&&(b.br|||b.bw)) 0&&ak (b.bw&&&a.br) 0))
def zx:List Edge->Nat
 | []=>0
 |e::r=>bif Region.binds .any e then bit e.on|||zx r else zx r
def qK(ops:List Oper):Nat->Nat->Nat
 |0,m=>m
 |i+1,m=>qK ops i (match ops[i]? with
  |some o=>bif m.testBit i then m|||zx o.after.toList else m
  |none=>m)
def fits(ops:List Oper)(m:Nat)(f:mK)(tr:List mK):Bool:=bC (m+1) (bit f.i)&&tr.all λa=>m.testBit a.i||(a.apart f||(qK ops f.i m).testBit a.i)
def tG(E:Env)(C:FuncId->gE R)(ops:List Oper)(o:Oper)(i:Nat)(s:State)(tr:List mK)(K:State->List mK->ae R):ae R:=
 let go (s:State):ae R:=act E C ops o s λu=>bif fits ops (zx o.after.toList) (oQ ops o i s u) tr then K (s.apply o.dst u) (oQ ops o i s u::tr) else none;let pass (s:State):ae R:=bif fits ops (zx o.after.toList) (oQ ops o i s {v:=[.skip]}) tr then K (s.apply o.dst {v:=[.skip]}) (oQ ops o i s {v:=[.skip]}::tr) else none
 match o.guard with
 |none=>go s
 |some (g,want)=>match T7 ops g with
  |none=>none
  |some d=>match s.slot d with
   | [.b8 .bool p []]=>bif p then(let s:=s.bX (some d) (bl true);bif want then go s else pass s) else(let s:=s.bX (some d) (bl false);bif want then pass s else go s)
   | [.skip]=>pass s
   |_=>none
def E6(E:Env)(C:FuncId->gE R)(ops:List Oper):List Oper->Nat->State->List mK->(State->ae R)->ae R
 | [],_,s,_,K=>K s
 |o::r,i,s,tr,K=>tG E C ops o i s tr λs tr=>E6 E C ops r (i+1) s tr K
inductive Ex where
 |normal
 |exit (id:Nat)
 |ret
def wU:Code->Nat
 | .region id _ _=>id
 | .seq a _=>wU a
 | .cond _ a _=>wU a
 | .block _ b=>wU b
 | .loop b=>wU b
 |_=>0
def oE{α:Type}(z:α)(l:List Nat):Nat->List α->List α
 |_,[]=>[]
 |i,x::r=>(bif l.any (ak i) then x else z)::oE z l (i+1) r
def SV.roots(l:List Nat):SV->Bool
 | .ptr 0 _ _=>true
 | .ptr (id+1) _ _=>l.any (ak id)
 | .eU 0 _ _ _=>true
 | .eU (id+1) _ _ _=>l.any (ak id)
 |_=>true
def ltL:List Nat->List Nat->Bool
 | [],[]=>false
 | [],_::_=>true
 |_::_,[]=>false
 |a::p,b::q=>bC (a+1) b||(ak a b&&ltL p q)
def B7(p:List Nat):List (List Nat)->List (List Nat)
 | []=>[p]
 |q::r=>bif ltL q p then q::B7 p r else p::q::r
def vA:List (List Nat)->List (List Nat)
 | []=>[]
 |p::r=>B7 p (vA r)
def SV.norm:SV->SV
 | .b8 t x own=> .b8 t x (vA own)
 |v=>v
def fc.norm(B:fc):fc:={B with own:=vA B.own}
def State.norm(s:State):State:=⟨s.sl.map λv=>v.map SV.norm,s.bs.map λb=>b.map fc.norm⟩
def Ad(l:List Nat)(s:State)(K:State->ae R):ae R:=
 let sl:=oE [.undef] l 0 s.sl
 bif sl.all (λv=>v.all (SV.roots l)) then K (State.norm ⟨sl,s.bs.headD none::oE none l 0 s.bs.tail⟩) else none
def jR(k:Nat)(f:Unit->ae R):ae R:=
 match k with
 |0=>none
 |_+1=>f ()
def vw(E:Env)(k r:Nat)(s:State)(K:State->ae R):ae R:=
 match E.join r with
 |none=>K s
 |some l=>Ad l s λs=>jR k λ_=>K s
def tZ(id:Nat)(l:List SV):List SV:=l.map λv=>match v with
 | .ptr j _ _=>bif ak j id then .undef else v
 |v=>v
def zV(E:Env)(r:Nat)(s:State)(K:State->ae R):ae R:=
 match E.fz r with
 |none=>K s
 |some (d,T)=>match s.slot d,E.ty T with
  | [.ptr id (.dC (.qi n) a b) []],some (.sl e t)=>if a.iL t=true then match s.box id with
    |some B=>if h:B.t.iL (.dC .row t b)=true then
      bif ak n (ag (Ty.cast h B.x:List (El t))) then K {sl:=(s.sl.map (tZ id)).set d [.b8 (.sl e t) (Ty.cast h B.x:List (El t)) []],bs:=s.bs.set id none} else none
     else none
    |none=>none else none
  |_,_=>none
def Ag(id:Nat)(B:fc)(v:SV):SV:=
 match v with
 | .ptr j t p=>bif ak j id then(if t.iL B.t=true then match El.get B.t p B.x with
    |some ⟨u,y⟩=> .view u y
    |none=> .undef else .undef) else .ptr j t p
 |v=>v
def Y0(id:Nat)(s:State)(K:State->ae R):ae R:=
 match s.box id with
 |some B=>if B.t.fA=true then none else K {sl:=s.sl.map λl=>l.map (Ag id B),bs:=s.bs.set id none}
 |none=>none
def Lj:List Nat->State->(State->ae R)->ae R
 | [],s,K=>K s
 |id::r,s,K=>Y0 id s λs=>Lj r s K
def qx(l:List Nat):Nat->List (ae fc)->List (ae fc)
 |_,[]=>[]
 |i,b::r=>(bif l.any (ak i) then b.map (λB=>{B with own:=[]}) else b)::qx l (i+1) r
def State.drop(l:List Nat)(s:State):State:={s with bs:=qx l 0 s.bs}
def oG(body:State->(Ex->State->ae R)->ae R)(l lx:List Nat):Nat->State->(Ex->State->ae R)->ae R
 |0,_,_=>none
 |k+1,s,K=>body s λe s=>match e with
  | .normal=>Ad l s λs=>oG body l lx k s K
  |e=>Ad lx s λs=>K e s
def Ty.flat:Ty->Bool
 | .sl _ _=>false
 | .dC _ _ _=>false
 | .arr _ t=>t.flat
 | .pair a b=>a.flat&&b.flat
 |_=>true
def SV.flat:SV->Bool
 | .b8 t _ own=>t.flat&&own.isEmpty
 | .ptr _ _ _| .view _ _| .cap _ _ _ _ _| .eU _ _ _ _=>false
 |_=>true
def tk(o:Nat):Nat->List (List SV)->Bool
 |_,[]=>true
 |i,l::r=>(ak i o||l.all SV.flat)&&tk o (i+1) r
def sc:Nat->Nat->List (List SV)->List (List SV)
 |0,_,sl=>sl
 |n+1,m,sl=>sc n (m+1) (sl.set m [.undef])
def isDst(o:Oper)(d:Nat):Bool:=
 match o.dst,o.guard with
 |some d',none=>ak d' d
 |_,_=>false
def nQ(x:Operand)(i:Nat):Bool:=
 match x with
 | .tmp j=>ak j i
 |_=>false
def Ej(E:Env)(T:TypeId):Bool:=
 match E.ty T with
 |some (.int .u8)=>true
 |_=>false
def Y1(E:Env)(T:TypeId):Bool:=
 match E.ty T with
 |some (.sl _ (.int .u8))=>true
 |_=>false
def Kh(o:Oper)(d x:Nat):Bool:=isDst o d&&(match o.op with
 | .move y=>nQ y x
 |_=>false)
def isLen(E:Env)(o:Oper)(d x:Nat):Bool:=isDst o d&&(match o.op with
 | .call ⟨.builtin .len,mA,ts⟩=>match mA.toList,ts.toList with
   | [y],[T]=>nQ y x&&Y1 E T
   |_,_=>false
 |_=>false)
def zu0(o:Oper)(d x:Nat):Bool:=isDst o d&&(match o.op with
 | .binOp .sub _ y (.const (.int .i64 c)) _=>nQ y x&&decide (c=1)
 |_=>false)
def Ei(E:Env)(o:Oper)(d x i:Nat):Bool:=isDst o d&&(match o.op with
 | .indexAddr T y j=>nQ y x&&(nQ j i&&Y1 E T)
 |_=>false)
def Jl(E:Env)(o:Oper)(d x:Nat):Bool:=isDst o d&&(match o.op with
 | .load T y=>nQ y x&&Ej E T
 |_=>false)
def B9(o:Oper)(d x y:Nat):Bool:=isDst o d&&(match o.op with
 | .binOp .add _ u v _=>nQ u x&&nQ v y
 |_=>false)
def B8(E:Env)(o:Oper)(x y:Nat):Bool:=(match o.dst,o.guard with
 |none,none=>true
 |_,_=>false)&&(match o.op with
 | .store T u v=>nQ u x&&(nQ v y&&Ej E T)
 |_=>false)
def Jp(E:Env)(o x m:Nat)(ops:List Oper):Bool:=
 match ops with
 | [a0,a1,a2,a3,a4,a5,a6,a7,a8,a9,HD,HE,a12,Nb]=>Kh a0 m o&&(Kh a1 (m+1) o&&(isLen E a2 (m+2) (m+1)&&(zu0 a3 (m+3) (m+2)&&(Kh a4 (m+4) o&&(Kh a5 (m+5) o&&(isLen E a6 (m+6) (m+5)&&(zu0 a7 (m+7) (m+6)&&(Ei E a8 (m+8) (m+4) (m+7)&&(Jl E a9 (m+9) (m+8)&&(Kh HD (m+10) x&&(B9 HE (m+11) (m+9) (m+10)&&(Ei E a12 (m+12) m (m+3)&&B8 E Nb (m+12) (m+11)))))))))))))
 |_=>false
def GV(e:TypeId)(xs:List Int)(y:Int)(own:List (List Nat)):List SV:=[.b8 (.sl e (.int .u8)) (xs.set (IntKind.i64.wrap ((xs.length:Int)-1)).toNat (IntKind.u8.wrap (xs.getD (IntKind.i64.wrap ((xs.length:Int)-1)).toNat 0+y)):List Int) own]
def tH(E:Env)(q:Nat×Nat×Nat)(ops:List Oper)(s:State)(K:State->ae R):ae R:=
 bif Jp E q.1 q.2.1 q.2.2 ops then
  bif bC (q.1+1) q.2.2&&(bC (q.2.1+1) q.2.2&&(!(ak q.1 q.2.1)&&bC (q.2.2+13) s.sl.length)) then
   match s.slot q.1,s.slot q.2.1 with
   | [.b8 (.sl e (.int .u8)) xs own],[.b8 (.int .u8) y _]=>
     bif pa own [] then
      bif tk q.1 0 (sc 13 q.2.2 s.sl)&&s.bs.all Option.isNone then
       zd (IntKind.i64.wrap ((ag (xs:List Int):Int)-1)) (ag (xs:List Int)) (K ⟨(sc 13 q.2.2 s.sl).set q.1 (GV e xs y own),s.bs⟩)
      else none
     else none
   |_,_=>none
  else none
 else none
def D0(own:List (List Nat)):List (List Nat):=own.filterMap λp=>match p with
 |(j+1)::p=>some (j::p)
 |_=>none
def Ty.j7:Ty->List (List Nat)->Bool
 | .sl _ t,own=>t.flat&&pa own []
 | .pair a b,own=>a.j7 (UH own [0])&&b.j7 (D0 own)
 | .dC _ _ _,_=>false
 | .arr _ t,_=>t.flat
 |_,_=>true
def fc.j7(B:fc):Bool:= !B.t.fA&&B.t.j7 B.own
def SV.j7(bs:List (ae fc)):SV->Bool
 | .b8 t _ own=>t.j7 own
 | .view _ _| .cap _ _ _ _ _| .eU _ _ _ _=>false
 | .ptr id _ _=>match bs.getD id none with
   |some B=>B.j7
   |none=>false
 |_=>true
def hold(bs:List (ae fc))(l:List SV):List SV:=bif l.all (SV.j7 bs) then l else [.undef]
def zuf:ae fc->ae fc
 |some B=>bif B.j7 then some B else none
 |none=>none
def State.j7(x:Nat)(s:State):State:=⟨(s.sl.set x [.undef]).map (hold s.bs),s.bs.map zuf⟩
def Cg(E:Env)(x d:Nat)(T T':TypeId)(i vo:Operand)(s:State)(K:State->ae R):ae R:=
 match s.slot x with
 | [.b8 (.sl e t) xs own]=>bif pa own [] then
     match E.ty T,E.ty T' with
     |some u,some w=>bif u.iL (.sl e t)&&(w.iL t&&bC (d+1) s.sl.length) then
       (s.cM i).num λn=>((s.bX (some d) [.undef]).cM vo).el t λ_=>zd n (ag (xs:List (El t))) (K ((s.bX (some d) [.undef]).j7 x))
      else none
     |_,_=>none
   else none
 |_=>none
def tC(o:Oper):Bool:=
 match o.dst,o.guard with
 |none,none=>true
 |_,_=>false
def qJ(E:Env)(oA oS:Oper)(s:State)(K:State->ae R):ae R:=
 match oA.op,oS.op with
 | .indexAddr T (.tmp x) i,.store T' (.tmp d) vo=>bif isDst oA d&&(!(ak x d)&&tC oS) then Cg E x d T T' i vo s K else none
 |_,_=>none
def Y3{α:Type}:List α->ae (List α×α×α)
 | []=>none
 | [_]=>none
 | [a,b]=>some ([],a,b)
 |a::r=>match Y3 r with
  |some (l,x,y)=>some (a::l,x,y)
  |none=>none
def tE(E:Env)(C:FuncId->gE R)(ops:List Oper)(s:State)(K:State->ae R):ae R:=
 match Y3 ops with
 |some (l,oA,oS)=>steps E C ops l s λs=>qJ E oA oS s K
 |none=>none
def VU{α:Type}:List α->ae (List α×α×α×α)
 | []=>none
 | [_]=>none
 | [_,_]=>none
 | [a,b,c]=>some ([],a,b,c)
 |a::r=>match VU r with
  |some (l,x,y,z)=>some (a::l,x,y,z)
  |none=>none
def aaR(s:State)(d1 d2 d3:Nat)(ta tb:Ty)(y:El ta):State:=
 (((s.bX (some d1) [.undef]).cD (some (d2+1,⟨.dC .kF ta tb,(y,(none,none),(0:Int)),[]::sZ⟩))).bX (some d2) [.undef]).bX (some d3) [.ptr (d2+1) (.dC .kF ta tb) []]
def zN(E:Env)(oB oX oA:Oper)(s:State)(K:State->ae R):ae R:=
 match oB.op,oX.op,oA.op with
 | .build T parts,.box T' (.tmp e1),.assign (.tmp e2)=>match oB.dst,oX.dst,oA.dst with
   |some d1,some d2,some d3=>bif ak T T'&&(ak d1 e1&&(ak d2 e2&&(isDst oB d1&&(isDst oX d2&&(isDst oA d3&&(bC (d1+1) s.sl.length&&bC (d2+1) s.sl.length)))))) then
     match parts.toList,E.gr T with
     | [(0,x)],some (ta,tb)=>(s.cM x).el ta λy=>match s.bs[d2+1]? with
       |some none=>K (aaR s d1 d2 d3 ta tb y)
       |_=>none
     |_,_=>none
    else none
   |_,_,_=>none
 |_,_,_=>none
def KH(E:Env)(C:FuncId->gE R)(ops:List Oper)(s:State)(K:State->ae R):ae R:=
 match VU ops with
 |some (l,oB,oX,oA)=>steps E C ops l s λs=>zN E oB oX oA s K
 |none=>none
def vu(s:State)(id m j:Nat)(ta tb:Ty)(x:El (.dC .kF ta tb))(own:List (List Nat))(y:El tb):State:=
 ⟨s.sl.map (tZ m),(s.bs.set m none).set id (some ⟨.dC .kF ta tb,(x.1,n3 j (some y) x.2.1,x.2.2),own⟩)⟩
def se(E:Env)(oS:Oper)(s:State)(K:State->ae R):ae R:=
 match oS.op with
 | .store T (.tmp x) (.tmp y)=>bif tC oS then if E.pt T=true then match s.slot x with
    | [.ptr id (.dC .kF ta tb) [1,j]]=>vU s id ta tb λz own=>bif pa own [] then match s.slot y with
      | [.ptr m tb' []]=>match s.box m with
        |some B=>if h:B.t.iL tb=true then bif tb'.iL tb&&(!tb.fA&&(pa B.own [2]&& !(ak id m))) then K (vu s id m j ta tb z own (Ty.cast h B.x)) else none else none
        |none=>none
      | [.m5]=>K (s.cD (some (id,⟨.dC .kF ta tb,(z.1,n3 j none z.2.1,z.2.2),own⟩)))
      |_=>none
      else none
    |_=>none
    else none else none
 |_=>none
def Y2{α:Type}:List α->ae (List α×α)
 | []=>none
 | [a]=>some ([],a)
 |a::r=>match Y2 r with
  |some (l,x)=>some (a::l,x)
  |none=>none
def zM(E:Env)(C:FuncId->gE R)(k:Nat)(ops:List Oper)(s:State)(K:State->ae R):ae R:=
 match Y2 ops with
 |some (l,oS)=>match ops[k]? with
  |some oD=>match oD.op,oD.dst with
   | .extract (.tmp t) j,some d=>bif isDst oD d&&(bC (k+1) l.length&&(bC (zx oS.after.toList+1) (bit l.length)&&ak (qK ops l.length (zx oS.after.toList)|||bit k) (bit l.length-1))) then
      E6 E C ops l 0 s [] λs=>bif bC (j+1) (s.slot t).length&& !(ak (s.slot t).length 1) then se E oS (s.bX (some d) [.undef]) K else none
     else none
   |_,_=>none
  |none=>none
 |none=>none
def J2(E:Env)(C:FuncId->gE R)(i:Nat)(ops:Array Oper)(d:Bool)(s:State)(K:State->ae R):ae R:=
 zV E i s λs=>Lj (E.fr i) s λs=>bif d then E6 E C ops.toList ops.toList 0 s [] K else steps E C ops.toList ops.toList s K
def ev(E:Env)(C:FuncId->gE R)(k:Nat):Code->State->(Ex->State->ae R)->ae R
 | .skip,s,K=>K .normal s
 | .region i ops d,s,K=>match E.sp with
   |some (j,q)=>bif ak i j then(match d with
    |true=>none
    |false=>bif ak q.2.2 0 then tE E C ops.toList s (K .normal) else tH E q ops.toList s (K .normal)) else J2 E C i ops d s (K .normal)
   |none=>match E.sg with
    |none=>J2 E C i ops d s (K .normal)
    |some (m,l,k)=>bif ak i m then(match d with
     |true=>none
     |false=>KH E C ops.toList s (K .normal)) else bif ak i l then(match d with
     |true=>zM E C k ops.toList s (K .normal)
     |false=>none) else J2 E C i ops d s (K .normal)
 | .seq a b,s,K=>ev E C k a s λe s=>match e with
   | .normal=>vw E k (wU b) s λs=>ev E C k b s K
   |e=>K e s
 | .cond c a b,s,K=>match s.cM c with
   | .b8 .bool p _=>bif p then ev E C k a (s.bX (Cn c) (bl true)) K else ev E C k b (s.bX (Cn c) (bl false)) K
   |_=>none
 | .block id b,s,K=>ev E C k b s λe s=>match e with
   | .exit j=>bif ak j id then K .normal s else K (.exit j) s
   |e=>K e s
 | .loop b,s,K=>Ad (E.lH (wU b)) (s.drop (E.dr (wU b))) λs=>oG (ev E C k b) (E.lH (wU b)) (E.qD (wU b)) k s K
 | .exit id,s,K=>K (.exit id) s
 | .ret,s,K=>K .ret s
 |_,_,_=>none
def pg(E:Env):State->List ResultVar->ae (List SV×State)
 |s,[]=>some ([],s)
 |s,.tmp t::r=>if(one (s.slot t)).fY=true then none else match pg E (s.close [(t,0)]) r with
  |some (l,s')=>some (one (s.slot t)::l,s')
  |none=>none
 |s,.cell p T::r=>match s.slot p,E.ty T with
  | [.ptr id u []],some t=>match s.box id with
    |some B=>if(t.iL B.t&& !u.fA)=true then match pg E (s.cD (some (id,{B with own:=[]}))) r with
      |some (l,s')=>some (.b8 B.t B.x B.own::l,s')
      |none=>none
     else none
    |none=>none
  |_,_=>none
def Hq:List SV->List Nat
 | []=>[]
 | .ptr id _ _::r=>id::Hq r
 |_::r=>Hq r
def Lz(s:State)(bx:ae fc)(l:List SV)(K:List SV->ae fc->ae R):ae R:=
 match bx,Hq l with
 |some _,[]=>match s.box 0 with
  |some B=>K l (some B)
  |none=>none
 |none,[]=>K l none
 |none,[id]=>match s.box id with
  |some B=>K (l.map (SV.oK 0)) (some B)
  |none=>none
 |_,_=>none
def pf(E:Env)(l:List SV):List SV:=bif E.ro then l.map SV.shut else l
def df:List Ty->List SV->List SV
 | .sl e t::r,.jJ::q=> .b8 (.sl e t) ([]:List (El t)) []::df r q
 |_::r,v::q=>v.shut::df r q
 | [],q=>q
 |_,[]=>[]
def qY(E:Env)(C:FuncId->gE R)(k:Nat)(fn:Func)(code:Code)(vs:List SV)(bx:ae fc)(K:List SV->ae fc->ae R):ae R:=
 bif E.sp.isSome&&bx.isSome then none else
 let n:=fn.ntmps-vs.length;let s:State:=⟨(df E.ps vs).map (λv=>[v])++aB n [.undef],bx::aB (vs.length+n) none⟩
 ev E C k code s λe s=>match e with
  | .exit _=>none
  |_=>match pg E s fn.results.toList with
   |some (l,s')=>Lz s' bx (pf E l) K
   |none=>none
end
end Go.Ref

namespace Go.Ref
open Go
theorem zq{R S:Type}{sv:SV}{t:Ty}{F:El t->ae R}{G:El t->ae S}{K:S->ae R}(h:∀y,F y=(G y).bind K):sv.el t F=(sv.el t G).bind K:=by
 cases sv with
 |b8 t' x own=>
  simp only[SV.el];split
  ·exact h _
  ·rfl
 |jJ=>cases t<;>simp only[SV.el]<;>first|rfl|exact h _
 |_=>rfl
theorem zj{R S:Type}{b:Bool}{x y:ae R}{x' y':ae S}{K:S->ae R}(h:x=x'.bind K)(k:y=y'.bind K):(bif b then x else y)=(bif b then x' else y').bind K:=by
 cases b
 ·exact k
 ·exact h
theorem zo{R S:Type}{c:Prop}[Decidable c]{x y:ae R}{x' y':ae S}{K:S->ae R}(h:x=x'.bind K)(k:y=y'.bind K):(if c then x else y)=(if c then x' else y').bind K:=by
 split
 ·exact h
 ·exact k
section
variable {R:Type}
theorem zpc{op:BinOp}{k k':IntKind}{m n:Int}{K:List SV->ae R}:yW op k m k' n K=(yW op k m k' n some).bind K:=by unfold yW;cases op<;>simp only<;>repeat(first|rfl|refine zj ?_ ?_|refine zo ?_ ?_)
theorem zpe{op:BinOp}{m n:af}{K:List SV->ae R}:yX op m n K=(yX op m n some).bind K:=by unfold yX;cases op<;>simp only<;>repeat(first|rfl|refine zj ?_ ?_|refine zo ?_ ?_)
theorem zpb{E:Env}{op:BinOp}{T:TypeId}{x y:SV}{K:List SV->ae R}:yV E op T x y K=(yV E op T x y some).bind K:=by
 unfold yV;split
 ·refine zo rfl (zq λa=>zq λb=> ?_);split
  ·cases op<;>rfl
  ·rfl
 ·rfl
theorem ams{E:Env}{op:BinOp}{T:TypeId}{x y:SV}{S:Type}{F:List SV->ae R}{G:List SV->ae S}{K:S->ae R}(h:∀l,F l=(G l).bind K):bin E op T x y F=(bin E op T x y G).bind K:=by
 unfold bin;split
 ·rw[zpc,zpc (K:=G),jP];congr;funext l;exact h l
 ·rw[zpe,zpe (K:=G),jP];congr;funext l;exact h l
 ·refine zo rfl ?_;cases op<;>simp only<;>first|exact h _|rfl
 ·refine zo rfl ?_;cases op<;>simp only<;>first|exact h _|rfl
 ·rw[zpb,zpb (K:=G),jP];congr;funext l;exact h l
theorem G5{S:Type}{i:Int}{n:Nat}{x:ae R}{x':ae S}{K:S->ae R}(h:x=x'.bind K):zd i n x=(zd i n x').bind K:=by unfold zd;exact zj (zj h rfl) rfl
theorem zd8{S:Type}{lo:ae SV}{m:Nat}{F:Nat->ae R}{G:Nat->ae S}{K:S->ae R}(h:∀l,F l=(G l).bind K):EZ lo m F=(EZ lo m G).bind K:=by
 unfold EZ;cases lo with
 |none=>exact h _
 |some v=>exact zq λy=>zj (zj (h _) rfl) rfl
theorem z107{S:Type}{lo hi:ae SV}{n:Nat}{F:Nat->Nat->ae R}{G:Nat->Nat->ae S}{K:S->ae R}(h:∀l h,F l h=(G l h).bind K):cutAt lo hi n F=(cutAt lo hi n G).bind K:=by
 unfold cutAt;cases hi with
 |none=>exact zd8 λl=>h _ _
 |some w=>exact zq λy=>zj (zj (zd8 λl=>h _ _) rfl) rfl
theorem ztj{S:Type}{t:Ty}{F:El t->List (List Nat)->ae R}{G:El t->List (List Nat)->ae S}{K:S->ae R}(h:∀y o,F y o=(G y o).bind K):∀(l:List (Nat×SV×List (List Nat))) (x:El t) (own:List (List Nat)),Ac t x own l F=(Ac t x own l G).bind K
 | [],x,own=>by simpa [Ac] using h x own
 |(i,v,ov)::r,x,own=>by
  simp only[Ac];refine zo rfl ?_;split
  ·refine zq λy=> ?_;split
   ·exact ztj h r _ _
   ·rfl
  ·rfl
theorem ztk{S:Type}{t:Ty}{F:List (El t)->ae R}{G:List (El t)->ae S}{K:S->ae R}(h:∀y,F y=(G y).bind K):∀(l:List (Nat×SV)) (x:List (El t)),Hn t x l F=(Hn t x l G).bind K
 | [],x=>by simpa [Hn] using h x
 |(i,v)::r,x=>by simp only[Hn];exact zo rfl (zq λy=>ztk h r _)
variable {S:Type} {F:Out->ae R} {G:Out->ae S} {K:S->ae R}
theorem Jv{s:State}{id:Nat}{a b:Ty}{F':El (.dC .kF a b)->List (List Nat)->ae R}{G':El (.dC .kF a b)->List (List Nat)->ae S}{K:S->ae R}(h:∀x o,F' x o=(G' x o).bind K):vU s id a b F'=(vU s id a b G').bind K:=by
 unfold vU;split
 ·split
  ·exact zj (h _ _) rfl
  ·rfl
 ·rfl
theorem ada{u:Ty}{s:State}{id:Nat}{t:Ty}{p:List Nat}(h:∀y,F y=(G y).bind K):J1 u s id t p F=(J1 u s id t p G).bind K:=by
 unfold J1;split
 ·split
  ·split
   ·exact zo (zj (h _) rfl) rfl
   ·rfl
  ·rfl
 ·exact zo (Jv λx o=>h _) rfl
 ·exact zo (Jv λx o=>h _) rfl
 ·rfl
theorem acH{u:Ty}{s:State}{id:Nat}{t:Ty}{p:List Nat}{v:SV}(h:∀y,F y=(G y).bind K):JI u s id t p v F=(JI u s id t p v G).bind K:=by
 unfold JI;split
 ·split
  ·split
   ·exact zo (zq λy=>zj (h _) rfl) rfl
   ·rfl
  ·rfl
 ·split
  ·refine zo (Jv λx o=>zq λy=> ?_) rfl;split
   ·exact zj (h _) rfl
   ·rfl
  ·rfl
 ·exact zo (Jv λx o=>zq λy=>zj (h _) rfl) rfl
 ·rfl
theorem ac2{u:Ty}{id:Nat}{t:Ty}{p:List Nat}{j:Nat}{F:Out->ae R}{G:Out->ae S}{K:S->ae R}(h:∀y,F y=(G y).bind K):Li u id t p j F=(Li u id t p j G).bind K:=by
 unfold Li;split
 ·split
  ·refine zo ?_ rfl;split
   ·exact zo rfl (h _)
   ·rfl
  ·rfl
 ·rfl
theorem ac6{m:Nat}{t:Ty}{n:Int}{id:Nat}{r:Ty}{p:List Nat}{F:Out->ae R}{G:Out->ae S}{K:S->ae R}(h:∀y,F y=(G y).bind K):Ll m t n id r p F=(Ll m t n id r p G).bind K:=by
 unfold Ll;split
 ·split
  ·exact zo (G5 (h _)) rfl
  ·rfl
 ·rfl
theorem adU{v:SV}{j:Nat}{ta tb:Ty}{F:Out->ae R}{G:Out->ae S}{K:S->ae R}(h:∀y,F y=(G y).bind K):Ly v j ta tb F=(Ly v j ta tb G).bind K:=by
 unfold Ly;split
 ·exact zo (zj (h _) rfl) rfl
 ·rfl
theorem acB{t:Ty}{n:Int}{id:Nat}{r:Ty}{p:List Nat}(h:∀y,F y=(G y).bind K):Td t n id r p F=(Td t n id r p G).bind K:=by
 unfold Td;split
 ·exact zo (G5 (h _)) rfl
 ·rfl
theorem ac9{u:Ty}{B:fc}{t:Ty}{p:List Nat}(h:∀y,F y=(G y).bind K):Lm u B t p F=(Lm u B t p G).bind K:=by
 unfold Lm;split
 ·split
  ·exact zo (zj (h _) rfl) rfl
  ·rfl
 ·rfl
theorem agW{E:Env}{T:TypeId}{s:State}{v:SV}(h:∀y,F y=(G y).bind K):sf E T s v F=(sf E T s v G).bind K:=by
 unfold sf;split
 ·exact zo (Jv λx o=>zj (h _) rfl) rfl
 ·rfl
theorem ako{E:Env}{T:TypeId}{s:State}{la:Bool}{v:SV}(h:∀y,F y=(G y).bind K):load E T s la v F=(load E T s la v G).bind K:=by
 unfold load;split
 ·split
  ·exact zo (h _) rfl
  ·refine zo (ada h) ?_;split
   ·refine zo ?_ (ac9 h);split
    ·exact zo (zj (h _) (h _)) rfl
    ·rfl
   ·rfl
  ·rfl
 ·exact agW h
theorem ahy{E:Env}{T:TypeId}{s:State}{v:SV}{x:Operand}(h:∀y,F y=(G y).bind K):store E T s v x F=(store E T s v x G).bind K:=by
 unfold store;split
 ·split
  ·refine zo (acH h) ?_;split
   ·refine zo ?_ rfl;split
    ·refine zo (zq λy=> ?_) rfl;split
     ·exact h _
     ·rfl
    ·rfl
   ·rfl
  ·rfl
 ·rfl
theorem adT{t:ae Ty}{v:SV}{j:Nat}(h:∀y,F y=(G y).bind K):UB t v j F=(UB t v j G).bind K:=by
 unfold UB;split
 ·refine zo (ac2 h) ?_;split
  ·refine zo ?_ rfl;split
   ·exact zo rfl (h _)
   ·rfl
  ·rfl
 ·refine zo ?_ rfl;split
  ·exact zo rfl (h _)
  ·rfl
 ·rfl
theorem zze{v:SV}{F':Int->ae R}{G':Int->ae S}{K:S->ae R}(h:∀n,F' n=(G' n).bind K):v.num F'=(v.num G').bind K:=by
 unfold SV.num;split
 ·exact h _
 ·rfl
theorem ad0{E:Env}{T:TypeId}{v i:SV}(h:∀y,F y=(G y).bind K):UD E T v i F=(UD E T v i G).bind K:=by
 unfold UD;refine zze λn=> ?_;split
 ·exact zq λy=>G5 (h _)
 ·refine zo (ac6 h) ?_;split
  ·exact zo (G5 (h _)) rfl
  ·rfl
 ·exact zq λy=>G5 (h _)
 ·exact acB h
 ·exact zo (G5 (h _)) rfl
 ·rfl
theorem ad1{E:Env}{T:TypeId}{v i:SV}(h:∀y,F y=(G y).bind K):UE E T v i F=(UE E T v i G).bind K:=by
 unfold UE;refine zze λn=> ?_;split
 ·exact zq λy=>G5 (h _)
 ·exact zq λy=>G5 (h _)
 ·rfl
theorem ajT{E:Env}{T:TypeId}{v:SV}{lo hi:ae SV}(h:∀y,F y=(G y).bind K):yZ E T v lo hi F=(yZ E T v lo hi G).bind K:=by
 unfold yZ;split
 ·exact zq λy=>z107 λ_ _=>h _
 ·exact zq λy=>z107 λ_ _=>h _
 ·rfl
theorem acO{E:Env}{T U:TypeId}{bo:Operand}{b x:SV}(h:∀y,F y=(G y).bind K):T1 E T U bo b x F=(T1 E T U bo b x G).bind K:=by
 unfold T1;refine zo rfl ?_;split
 ·refine zo rfl ?_;split
  ·exact zq λy=>zj (h _) rfl
  ·exact zo rfl (zq λy=>zq λz=>zj (h _) rfl)
  ·rfl
 ·rfl
theorem akk{E:Env}{T:TypeId}{x:SV}(h:∀y,F y=(G y).bind K):Cb E T x F=(Cb E T x G).bind K:=by
 unfold Cb;split
 ·exact zq λy=>h _
 ·split
  ·exact h _
  ·exact zq λy=>h _
 ·exact h _
 ·rfl
theorem agt{E:Env}{S' T:TypeId}{x:SV}(h:∀y,F y=(G y).bind K):tj E S' T x F=(tj E S' T x G).bind K:=by
 unfold tj;split
 ·exact zq λy=>h _
 ·exact zq λy=>h _
 ·exact zq λy=>h _
 ·rfl
theorem ags{E:Env}{S' T:TypeId}{s:State}{id n:Nat}{a b:Ty}(h:∀y,F y=(G y).bind K):rR E S' T s id n a b F=(rR E S' T s id n a b G).bind K:=by
 unfold rR;split
 ·refine zo ?_ rfl;split
  ·split
   ·exact zj (h _) rfl
   ·rfl
  ·rfl
 ·rfl
theorem zpo{s:State}{dst:ae Nat}{t:Ty}{x:El t}{p:Ty}(h:∀y,F y=(G y).bind K):sj s dst t x p F=(sj s dst t x p G).bind K:=by
 unfold sj;split
 ·split
  ·exact h _
  ·rfl
 ·rfl
theorem zu3{s:State}{m:SV}{kt vt:Ty}{F:Nat->List (El kt×El vt)->ae R}{G:Nat->List (El kt×El vt)->ae S}{K:S->ae R}(h:∀n y,F n y=(G n y).bind K):C8 s m kt vt F=(C8 s m kt vt G).bind K:=by
 unfold C8;split
 ·refine zo ?_ rfl;split
  ·split
   ·exact h _ _
   ·rfl
  ·rfl
 ·rfl
theorem agX{E:Env}{T:TypeId}{s:State}{m i:SV}(h:∀y,F y=(G y).bind K):tw E T s m i F=(tw E T s m i G).bind K:=by
 unfold tw;split
 ·exact zu3 λ_ _=>zq λ_=>h _
 ·rfl
theorem QZ{E:Env}{T:TypeId}{s:State}{m i v:SV}(h:∀y,F y=(G y).bind K):ur E T s m i v F=(ur E T s m i v G).bind K:=by
 unfold ur;split
 ·exact zu3 λ_ _=>zq λ_=>zq λ_=>zj rfl (h _)
 ·rfl
theorem ag4{s:State}{m:SV}(h:∀y,F y=(G y).bind K):tA s m F=(tA s m G).bind K:=by
 unfold tA;split
 ·split
  ·split
   ·exact zj (h _) (h _)
   ·rfl
  ·rfl
 ·rfl
theorem agZ{E:Env}{T:TypeId}{s:State}{dst:ae Nat}{lo:Operand}{l c:SV}(h:∀y,F y=(G y).bind K):tz E T s dst lo l c F=(tz E T s dst lo l c G).bind K:=by
 unfold tz;split
 ·exact zo rfl (zq λn=>zq λm=>zj (zj (zj (zj (h _) rfl) rfl) rfl) (zj (zj (zj (zpo h) rfl) rfl) rfl))
 ·rfl
theorem am5{op:UnOp}{x:SV}(h:∀y,F y=(G y).bind K):OL op x F=(OL op x G).bind K:=by
 unfold OL;split
 ·exact h _
 ·exact h _
 ·rfl
end
abbrev bu:=(R:Type)->FuncId->gE R
def bu.Nat(C:bu):Prop:=∀(R S:Type) (f:FuncId) l b (F:List SV->ae fc->ae R) (G:List SV->ae fc->ae S) (K:S->ae R),(∀r b,F r b=(G r b).bind K)->C R f l b F=(C S f l b G).bind K
section
variable {R S:Type} {F:Out->ae R} {G:Out->ae S} {K:S->ae R} {C:bu}
theorem VP(hC:C.Nat){s:State}{dst:ae Nat}{f:FuncId}{vs:List SV}(h:∀y,F y=(G y).bind K):oi (C R) s dst f vs F=(oi (C S) s dst f vs G).bind K:=by
 unfold oi;split
 ·refine hC R S f _ _ _ _ K λr b=> ?_;split
  ·exact h _
  ·split
   ·split
    ·exact h _
    ·rfl
   ·rfl
 ·refine zo rfl (hC R S f _ _ _ _ K λr b=> ?_);split
  ·exact zo (h _) rfl
  ·rfl
 ·rfl
theorem agn(hC:C.Nat){s:State}{f:FuncId}{t id:Nat}{a b:Ty}{j:Nat}{vs:List SV}(h:∀y,F y=(G y).bind K):rP (C R) s f t id a b j vs F=(rP (C S) s f t id a b j vs G).bind K:=by
 unfold rP;refine zo rfl ?_;split
 ·refine Jv λx o=> ?_;split
  ·refine hC R S f _ _ _ _ K λr b=> ?_;split
   ·split
    ·exact zj (h _) rfl
    ·rfl
   ·rfl
  ·rfl
 ·rfl
theorem agq{f:FuncId}{x:SV}(h:∀y,F y=(G y).bind K):uW f x F=(uW f x G).bind K:=by
 unfold uW;split
 ·exact zo rfl (h _)
 ·rfl
theorem ajO{f:FuncId}{x y:SV}(h:∀y,F y=(G y).bind K):Bv f x y F=(Bv f x y G).bind K:=by
 unfold Bv;split
 ·exact h _
 ·rfl
theorem ajS{n id:Nat}{a b:Ty}{lo hi:ae SV}(h:∀y,F y=(G y).bind K):Bz n id a b lo hi F=(Bz n id a b lo hi G).bind K:=by
 unfold Bz;split
 ·rfl
 ·exact zd8 λl=>h _
theorem OV{t:Ty}{s:State}{id n lo:Nat}{a b:Ty}{x:SV}{e:TypeId}(h:∀y,F y=(G y).bind K):pP t s id n lo a b x e F=(pP t s id n lo a b x e G).bind K:=by
 unfold pP;refine zo (zq λys=> ?_) rfl;split
 ·split
  ·exact zj (zj (h _) rfl) rfl
  ·rfl
 ·rfl
theorem ajR{E:Env}{T:TypeId}{s:State}{id n:Nat}{t:Ty}{lo hi:ae SV}(h:∀y,F y=(G y).bind K):yY E T s id n t lo hi F=(yY E T s id n t lo hi G).bind K:=by
 unfold yY;split
 ·refine zo ?_ rfl;split
  ·split
   ·exact h _
   ·rfl
  ·rfl
 ·rfl
theorem agu{t:Ty}{s:State}{id n:Nat}{a b:Ty}{y:af}(h:∀y,F y=(G y).bind K):rS t s id n a b y F=(rS t s id n a b y G).bind K:=by
 unfold rS;refine zo (zo ?_ rfl) rfl;split
 ·split
  ·exact zj (h _) rfl
  ·rfl
 ·rfl
theorem agv{E:Env}{T:TypeId}{s:State}{d x:SV}(h:∀y,F y=(G y).bind K):copyV E T s d x F=(copyV E T s d x G).bind K:=by
 unfold copyV;split
 ·split
  ·exact agu h
  ·exact OV h
 ·exact OV h
 ·rfl
theorem z119{g:Bool}{x y:SV}(h:∀y,F y=(G y).bind K):si g x y F=(si g x y G).bind K:=by
 unfold si;split
 ·exact h _
 ·rfl
theorem QJ{E:Env}{T:TypeId}(h:∀y,F y=(G y).bind K):wO E T F=(wO E T G).bind K:=by
 unfold wO;split
 ·exact h _
 ·exact h _
theorem EU(hC:C.Nat){E:Env}{ops:List Oper}{o:Oper}{s:State}(h:∀y,F y=(G y).bind K):act E (C R) ops o s F=(act E (C S) ops o s G).bind K:=by
 unfold act;split
 ·split
  ·exact zj (h _) (h _)
  ·split
   ·exact zj (h _) (h _)
   ·rfl
   ·rfl
   ·exact QJ h
   ·exact h _
 ·split
  ·exact h _
  ·rfl
  ·rfl
  ·exact QJ h
  ·exact h _
 ·split
  ·exact zj (h _) (h _)
  ·rfl
 ·exact ams λl=>h _
 ·exact am5 h
 ·split
  ·exact ags h
  ·exact agt h
 ·exact ako h
 ·exact ahy h
 ·split
  ·exact zo rfl (h _)
  ·exact h _
  ·rfl
 ·split
  ·exact adU h
  ·exact adT h
 ·exact ad0 h
 ·exact ad1 h
 ·split
  ·refine zo rfl (zq λy=> ?_);split
   ·exact h _
   ·rfl
  ·rfl
 ·split
  ·split
   ·exact zo (ajS h) rfl
   ·rfl
  ·exact ajR h
  ·exact ajT h
 ·split
  ·exact agq h
  ·exact ajO h
  ·rfl
 ·split
  ·split
   ·exact h _
   ·rfl
  ·split
   ·split
    ·exact h _
    ·rfl
   ·split
    ·split
     ·exact h _
     ·rfl
    ·rfl
  ·rfl
 ·split
  ·split
   ·exact zq λy=>h _
   ·rfl
  ·rfl
 ·split
  ·exact zo rfl (ztj (λy o=>h _) _ _ _)
  ·rfl
 ·split
  ·exact zo rfl (zj (ztk (λy=>h _) _ _) rfl)
  ·rfl
 ·split
  ·refine zo ?_ ?_
   ·split
    ·exact h _
    ·rfl
   split
   ·exact h _
   ·rfl
   ·rfl
   ·exact h _
   ·rfl
  ·rfl
 ·split
  ·exact zpo h
  ·rfl
 ·exact agX h
 ·exact QZ h
 ·exact QZ h
 ·split
  ·exact zq λy=>zpo h
  ·rfl
 ·exact ag4 h
 ·exact agZ h
 ·split
  ·exact agn hC h
  ·exact VP hC λu=>h _
 ·split
  ·exact zo rfl (VP hC h)
  ·exact VP hC h
  ·rfl
 ·split
  ·exact agv h
  ·rfl
 ·split
  ·exact akk h
  ·rfl
 ·split
  ·exact acO h
  ·rfl
 ·split
  ·exact z119 h
  ·rfl
 ·split
  ·exact z119 h
  ·rfl
 ·rfl
end
section
variable {R S:Type} {F:State->ae R} {G:State->ae S} {K:S->ae R} {C:bu}
theorem zpx(hC:C.Nat){E:Env}{ops:List Oper}{o:Oper}{s:State}(h:∀y,F y=(G y).bind K):step E (C R) ops o s F=(step E (C S) ops o s G).bind K:=by
 unfold step;simp only;split
 ·exact EU hC λy=>h _
 ·split
  ·rfl
  ·split
   ·exact zj (zj (EU hC λy=>h _) (h _)) (zj (h _) (EU hC λy=>h _))
   ·exact h _
   ·rfl
theorem JF(hC:C.Nat){E:Env}{ops:List Oper}(h:∀y,F y=(G y).bind K):∀(l:List Oper) (s:State),steps E (C R) ops l s F=(steps E (C S) ops l s G).bind K
 | [],s=>h s
 |o::r,s=>by simp only[steps];exact zpx hC λs=>JF hC h r s
theorem ahw(hC:C.Nat){E:Env}{ops:List Oper}{o:Oper}{i:Nat}{s:State}{tr:List mK}{F:State->List mK->ae R}{G:State->List mK->ae S}(h:∀y t,F y t=(G y t).bind K):tG E (C R) ops o i s tr F=(tG E (C S) ops o i s tr G).bind K:=by
 unfold tG;simp only;split
 ·exact EU hC λy=>zj (h _ _) rfl
 ·split
  ·rfl
  ·split
   ·exact zj (zj (EU hC λy=>zj (h _ _) rfl) (zj (h _ _) rfl)) (zj (zj (h _ _) rfl) (EU hC λy=>zj (h _ _) rfl))
   ·exact zj (h _ _) rfl
   ·rfl
theorem SY(hC:C.Nat){E:Env}{ops:List Oper}(h:∀y,F y=(G y).bind K):∀(l:List Oper) (i:Nat) (s:State) (tr:List mK),E6 E (C R) ops l i s tr F=(E6 E (C S) ops l i s tr G).bind K
 | [],i,s,tr=>h s
 |o::r,i,s,tr=>by simp only[E6];exact ahw hC λs tr=>SY hC h r (i+1) s tr
theorem SR{l:List Nat}{s:State}(h:∀y,F y=(G y).bind K):Ad l s F=(Ad l s G).bind K:=by unfold Ad;exact zj (h _) rfl
end
theorem agS{R S:Type}{k:Nat}{F:Unit->ae R}{G:Unit->ae S}{K:S->ae R}(h:F ()=(G ()).bind K):jR k F=(jR k G).bind K:=by
 unfold jR;cases k
 ·rfl
 ·exact h
theorem akp{R S:Type}{F:State->ae R}{G:State->ae S}{K:S->ae R}{E:Env}{k r:Nat}{s:State}(h:∀y,F y=(G y).bind K):vw E k r s F=(vw E k r s G).bind K:=by
 unfold vw;split
 ·exact h _
 ·exact SR λs=>agS (h _)
theorem akQ{R S:Type}{F:State->ae R}{G:State->ae S}{K:S->ae R}{E:Env}{r:Nat}{s:State}(h:∀y,F y=(G y).bind K):zV E r s F=(zV E r s G).bind K:=by
 unfold zV;split
 ·exact h _
 ·split
  ·refine zo ?_ rfl;split
   ·split
    ·exact zj (h _) rfl
    ·rfl
   ·rfl
  ·rfl
theorem zng{R S:Type}{F:State->ae R}{G:State->ae S}{K:S->ae R}(h:∀y,F y=(G y).bind K):∀(l:List Nat) (s:State),Lj l s F=(Lj l s G).bind K
 | [],s=>h s
 |id::r,s=>by
  simp only[Lj];unfold Y0;split
  ·exact zo rfl (zng h r _)
  ·rfl
section
variable {R S:Type} {F:Ex->State->ae R} {G:Ex->State->ae S} {K:S->ae R} {C:bu}
theorem Pv{body:State->(Ex->State->ae R)->ae R}{body':State->(Ex->State->ae S)->ae S}{l lx:List Nat}
 (hb:∀(F:Ex->State->ae R) (G:Ex->State->ae S),(∀e s,F e s=(G e s).bind K)->∀s,body s F=(body' s G).bind K) (h:∀e s,F e s=(G e s).bind K):
 ∀(k:Nat) (s:State),oG body l lx k s F=(oG body' l lx k s G).bind K
 |0,_=>rfl
 |k+1,s=>by
  simp only[oG];refine hb _ _ (λe s=> ?_) s;cases e with
  |normal=>exact SR λs=>Pv hb h k s
  |exit id=>exact SR λs=>h _ _
  |ret=>exact SR λs=>h _ _
theorem QV{E:Env}{q:Nat×Nat×Nat}{ops:List Oper}{s:State}{F:State->ae R}{G:State->ae S}{K:S->ae R}(h:∀s,F s=(G s).bind K):tH E q ops s F=(tH E q ops s G).bind K:=by
 unfold tH;refine zj (zj ?_ rfl) rfl;split
 ·refine zj (zj ?_ rfl) rfl;unfold zd;exact zj (zj (h _) rfl) rfl
 ·rfl
theorem ahd{E:Env}{oA oS:Oper}{s:State}{F:State->ae R}{G:State->ae S}{K:S->ae R}(h:∀s,F s=(G s).bind K):qJ E oA oS s F=(qJ E oA oS s G).bind K:=by
 unfold qJ;split
 ·refine zj ?_ rfl;unfold Cg;split
  ·refine zj ?_ rfl;split
   ·refine zj (zze λn=>zq λy=> ?_) rfl;unfold zd;exact zj (zj (h _) rfl) rfl
   ·rfl
  ·rfl
 ·rfl
theorem QL(hC:C.Nat){E:Env}{ops:List Oper}{s:State}{F:State->ae R}{G:State->ae S}(h:∀s,F s=(G s).bind K):tE E (C R) ops s F=(tE E (C S) ops s G).bind K:=by
 unfold tE;split
 ·exact JF hC (λs=>ahd h) _ _
 ·rfl
theorem RO(hC:C.Nat){E:Env}{ops:List Oper}{s:State}{F:State->ae R}{G:State->ae S}(h:∀s,F s=(G s).bind K):KH E (C R) ops s F=(KH E (C S) ops s G).bind K:=by
 unfold KH;split
 ·refine JF hC (λs=> ?_) _ _;unfold zN;split
  ·split
   ·refine zj ?_ rfl;split
    ·refine zq λy=> ?_;split
     ·exact h _
     ·rfl
    ·rfl
   ·rfl
  ·rfl
 ·rfl
theorem QE(hC:C.Nat){E:Env}{k:Nat}{ops:List Oper}{s:State}{F:State->ae R}{G:State->ae S}(h:∀s,F s=(G s).bind K):zM E (C R) k ops s F=(zM E (C S) k ops s G).bind K:=by
 unfold zM;split
 ·split
  ·split
   ·refine zj (SY hC (λs=> ?_) _ _ _ _) rfl;refine zj ?_ rfl;unfold se;split
    ·refine zj (zo ?_ rfl) rfl;split
     ·refine Jv λz own=>zj ?_ rfl;split
      ·split
       ·split
        ·exact zj (h _) rfl
        ·rfl
       ·rfl
      ·exact h _
      ·rfl
     ·rfl
    ·rfl
   ·rfl
  ·rfl
 ·rfl
theorem C7(hC:C.Nat){E:Env}{k:Nat}:∀(c:Code) (F:Ex->State->ae R) (G:Ex->State->ae S),(∀e s,F e s=(G e s).bind K)->∀s,ev E (C R) k c s F=(ev E (C S) k c s G).bind K
 | .skip,F,G,h,s=>h _ _
 | .region i ops d,F,G,h,s=>by
   simp only[ev];have key:J2 E (C R) i ops d s (F .normal)=(J2 E (C S) i ops d s (G .normal)).bind K:=akQ λs=>zng (λs=>zj (SY hC (λs=>h _ _) _ _ _ _) (JF hC (λs=>h _ _) _ _)) _ _;split
   ·refine zj ?_ key;cases d with
    |true=>rfl
    |false=>exact zj (QL hC λs=>h _ _) (QV λs=>h _ _)
   ·split
    ·exact key
    ·refine zj ?_ (zj ?_ key)
     ·cases d with
      |true=>rfl
      |false=>exact RO hC λs=>h _ _
     ·cases d with
      |true=>exact QE hC λs=>h _ _
      |false=>rfl
 | .seq a b,F,G,h,s=>by
   simp only[ev];refine C7 hC a _ _ (λe s=> ?_) s;cases e with
   |normal=>exact akp λs=>C7 hC b _ _ h s
   |exit id=>exact h _ _
   |ret=>exact h _ _
 | .cond c a b,F,G,h,s=>by
   simp only[ev];split
   ·exact zj (C7 hC a _ _ h _) (C7 hC b _ _ h _)
   ·rfl
 | .block id b,F,G,h,s=>by
   simp only[ev];refine C7 hC b _ _ (λe s=> ?_) s;cases e with
   |normal=>exact h _ _
   |exit j=>exact zj (h _ _) (h _ _)
   |ret=>exact h _ _
 | .loop b,F,G,h,s=>by simp only[ev];exact SR λs=>Pv (λF G h s=>C7 hC b F G h s) h k s
 | .exit id,F,G,h,s=>h _ _
 | .ret,F,G,h,s=>h _ _
 | .rangeFunc ..,F,G,h,s=>rfl
 | .scope _,F,G,h,s=>rfl
 | .label _,F,G,h,s=>rfl
 | .goto _,F,G,h,s=>rfl
 | .refuse _,F,G,h,s=>rfl
end
theorem rC{R S:Type}{x:ae R}{y:ae S}{K:S->ae R}(h:x=y.bind K){z:R}(hz:x=some z):∃w,y=some w/\K w=some z:=by rw[h] at hz;exact Option.bind_eq_some_iff.1 hz
end Go.Ref

namespace Go.Ref
open Go
def mH(t:Ty)(cs:List Value):Value:=if t.agg=true then .agg cs.toArray else cs.headD undef
def eO(X:bZ)(pl:Place)(e:TypeId)(k n:Nat)(v:Value):Prop:=
 (v= .slice none 0 0/\n=0)\/∃g cap cur,v= .slice (some ⟨g,0,none⟩) n cap/\X.w.heap[g]? =some (.cells cur e (0,0))/\n<=cap/\cap<=maxLen/\cur.size=cap*k/\X.ow g= .row pl (n*k)
def eI(X:bZ)(pl:List Nat->Place)(t:Ty)(x:El t)(cs:List Value)(own:List (List Nat)):Prop:=
 ∀p∈own,∃e t' xs v,t.nb p/\El.get t p x=some ⟨.sl e t',xs⟩/\cs[t.off p]? =some v/\eO X (pl p) e t'.cells (ag xs) v
def vB(t:Ty)(p:List Nat)(r:Nat)(v:Value):Prop:=
 match t,p with
 | .dC .mp _ _,_=>v= .map (some r)
 | .dC (.qi n) _ _,[]=>∃cap,v= .slice (some ⟨r,0,none⟩) n cap/\n<=cap
 | .dC (.qi n) a _,[l]=>∃cap off,v= .slice (some ⟨r,off,none⟩) (n-l) cap/\n-l<=cap/\l<=n/\((n=l/\off=0)\/off=l*a.cells)
 | .dC (.CF f) _ _,[]=>v= .func (.func f) #[] #[.pointer (some ⟨r,0,none⟩)]
 | .dC .row a _,[i]=>v= .pointer (some ⟨r,i*a.cells,none⟩)
 | .dC .kF a _,p=>v= .pointer (some ⟨r,u6 a p,none⟩)/\gIn a p
 |t,p=>v= .pointer (some ⟨r,t.off p,none⟩)/\t.nb p
theorem yq{t:Ty}{p:List Nat}{r:Nat}{v:Value}(h:t.fA=false):vB t p r v↔v= .pointer (some ⟨r,t.off p,none⟩)/\t.nb p:=by
 unfold vB;split
 all_goals first
  |exact Iff.rfl
  |simp [Ty.fA] at h
theorem Th{t:Ty}{p:List Nat}{r:Nat}{v:Value}(h:t.yi=false):vB t p r v↔v= .pointer (some ⟨r,t.off p,none⟩)/\t.nb p:=by
 unfold vB;split
 all_goals first
  |exact Iff.rfl
  |simp [Ty.yi] at h
def cq(X:bZ)(pl:List Nat->Place):SV->Value->Prop
 | .undef,_=>True
 | .skip,v=>v=aT
 | .jJ,v=>v= .slice none 0 0
 | .m5,v=>v= .pointer none
 | .b8 t x own,v=>∃cs,eC X t x cs/\v=mH t cs/\eI X pl t x cs own
 | .ptr id t p,v=>∃r,X.β id=some r/\vB t p r v
 | .view t x,v=>∃ad cs,v= .pointer (some ad)/\ad.spot=none/\eC X t x cs/\∀i u,cs[i]? =some u->X.cf (ad.add i) u
 | .cap f t x u y,v=>∃ad ye cs m8,v= .func (.func f) #[] #[.pointer (some ad),.pointer (some ye)]/\(ad.spot=none/\eC X t x cs/\∀i w,cs[i]? =some w->X.cf (ad.add i) w)/\(ye.spot=none/\eC X u y m8/\∀i w,m8[i]? =some w->X.cf (ye.add i) w)
 | .over,v=>v= .tuple #[.bool false]
 | .eU id a _ j,v=>∃r,X.β id=some r/\X.ow r= .box id/\X.w.cell? ⟨r,a.cells+j,none⟩=some v
theorem Aa{X Y:bZ}{pl oI:List Nat->Place}(h:∀a v,X.cf a v->Y.cf a v){f:Nat}{t u:Ty}{x:El t}{y:El u}{v:Value}(hr:cq X pl (.cap f t x u y) v):cq Y oI (.cap f t x u y) v:=by obtain⟨ad,ye,cs,m8,h1,⟨h2,h3,h4⟩,h5,h6,h7⟩:=hr;exact⟨ad,ye,cs,m8,h1,⟨h2,h3.bz h,λi w hi=>h _ _ (h4 i w hi)⟩,h5,h6.bz h,λi w hi=>h _ _ (h7 i w hi)⟩
def kj(X:bZ)(pl:Nat->List Nat->Place)(l:List SV)(v:Value):Prop:=
 match l with
 | [s]=>cq X (pl 0) s v
 |l=>∃vs:Array Value,v= .tuple vs/\vs.size=l.length/\∀(j:Nat) s u,l[j]? =some s->vs[j]? =some u->cq X (pl j) s u
def mX(X:bZ)(t:Ty)(x:El t)(v:Value):Prop:=∃cs,eC X t x cs/\v=mH t cs
def mf(X:bZ)(pl:List Nat->Place)(b:Ty)(m:ae (El b))(v:Value):Prop:=
 match m with
 |none=>v= .pointer none
 |some y=>∃g cs T,v= .pointer (some ⟨g,0,none⟩)/\X.w.heap[g]? =some (.cells cs T (0,0))/\X.ow g= .row (pl []) 0/\eC X b y cs.toList/\eI X pl b y cs.toList Hp
def pH(X:bZ)(r:Nat)(pl:List Nat->Place)(a b:Ty)(x:El (.dC .kF a b)):Prop:=
 ∃c p0 p1 T,X.w.heap[r]? =some (.cells (c++ [p0,p1,.int .i64 x.2.2]).toArray T (0,0))/\eC X a x.1 c/\mf X (λp=>pl (0::p)) b x.2.1.1 p0/\mf X (λp=>pl (1::p)) b x.2.1.2 p1
def me(X:bZ)(r:Nat)(pl:List Nat->Place):(t:Ty)->El t->List (List Nat)->Prop
 | .dC .iter _ _,x,_=>X.w.heap[r]? =some (.stringIter x.1 x.2)
 | .dC .mp kt vt,x,_=>∃es clock,X.w.heap[r]? =some (.map es clock)/\es.size=ag x/\∀(i:Nat) (q:El kt×El vt) (e:MapEntry),x[i]? =some q->es[i]? =some e->mX X kt q.1 e.key/\mX X vt q.2 e.val
 | .dC .row t _,xs,_=>∃cs T,X.w.heap[r]? =some (.cells cs T (0,0))/\cs.size=ag xs*t.cells/\∀(j:Nat) (x:El t),xs[j]? =some x->eC X t x ((cs.toList.drop (j*t.cells)).take t.cells)
 | .dC (.qV T e) _ _,x,own=>(∃o,X.w.heap[r]? =some o)/\([]∈own->∃v,CB T e r v (eb x) X.w/\∀g,v.ownBlock=some g->X.ow g= .row (pl []) 0)
 | .dC .kF a b,x,own=>(∃o,X.w.heap[r]? =some o)/\((∀p∈sZ,p∈own)->pH X r pl a b x)
 | .dC _ _ _,_,_=>False
 |t,x,own=>∃cs T,X.w.heap[r]? =some (.cells cs T (0,0))/\eC X t x cs.toList/\eI X pl t x cs.toList own
theorem me.plain{X:bZ}{r:Nat}{pl:List Nat->Place}{t:Ty}{x:El t}{own:List (List Nat)}(hs:t.fA=false):me X r pl t x own↔∃cs T,X.w.heap[r]? =some (.cells cs T (0,0))/\eC X t x cs.toList/\eI X pl t x cs.toList own:=by cases t<;>first|exact Iff.rfl|simp [Ty.fA] at hs
theorem me.of{X:bZ}{r:Nat}{pl:List Nat->Place}{t:Ty}{x:El t}{own:List (List Nat)}{cs:Array Value}{T:TypeId}(hs:t.fA=false)(h1:X.w.heap[r]? =some (.cells cs T (0,0)))(h2:eC X t x cs.toList)(h3:eI X pl t x cs.toList own):me X r pl t x own:=(me.plain hs).2 ⟨cs,T,h1,h2,h3⟩
theorem mX.mono{X Y:bZ}(h:∀a v,X.cf a v->Y.cf a v){t:Ty}{x:El t}{v:Value}(hr:mX X t x v):mX Y t x v:=by obtain⟨cs,h1,h2⟩:=hr;exact⟨cs,h1.bz h,h2⟩
theorem me.lt{X:bZ}{r:Nat}{pl:List Nat->Place}{t:Ty}{x:El t}{own:List (List Nat)}(h:me X r pl t x own):r<X.w.heap.size:=by
 have key:∀o,X.w.heap[r]? =some o->r<X.w.heap.size:=λo ho=>(fM.1 ho).1;unfold me at h;split at h
 ·exact key _ h
 ·obtain⟨es,c,h1,_⟩:=h;exact key _ h1
 ·obtain⟨cs,T,h1,_⟩:=h;exact key _ h1
 ·obtain⟨⟨o,ho⟩,_⟩:=h;exact key _ ho
 ·obtain⟨⟨o,ho⟩,_⟩:=h;exact key _ ho
 ·exact h.elim
 ·obtain⟨cs,T,h1,_⟩:=h;exact key _ h1
theorem mf.move{X Y:bZ}{pl oI:List Nat->Place}{b:Ty}{m:ae (El b)}{v:Value}(hs:∀a v,X.cf a v->Y.cf a v)
 (hg:∀p,p=[]\/p=[2]->∀g o n,X.w.heap[g]? =some o->X.ow g= .row (pl p) n->Y.w.heap[g]? =some o/\Y.ow g= .row (oI p) n) (h:mf X pl b m v):mf Y oI b m v:=by
 cases m with
 |none=>exact h
 |some y=>
  obtain⟨g,cs,T,h1,h2,h3,h4,h5⟩:=h;obtain⟨k1,k2⟩:=hg [] (.inl rfl) g _ _ h2 h3;refine⟨g,cs,T,h1,k1,k2,h4.bz hs,λp hp=> ?_⟩;have:p=[2]:=by simpa [Hp] using hp
  subst this;obtain⟨e,t',xs,v,g0,g1,g2,g3⟩:=h5 [2] hp;refine⟨e,t',xs,v,g0,g1,g2,?_⟩;rcases g3 with g3|⟨g',cap,cur,q1,q2,q3,q4,q5,q6⟩
  ·exact .inl g3
  ·obtain⟨j1,j2⟩:=hg [2] (.inr rfl) g' _ _ q2 q6;exact .inr ⟨g',cap,cur,q1,j1,q3,q4,q5,j2⟩
theorem pH.move{X Y:bZ}{r:Nat}{pl oI:List Nat->Place}{a b:Ty}{x:El (.dC .kF a b)}(hs:∀a v,X.cf a v->Y.cf a v)(hh:Y.w.heap[r]? =X.w.heap[r]?)
 (hg:∀p∈sZ,∀g o n,X.w.heap[g]? =some o->X.ow g= .row (pl p) n->Y.w.heap[g]? =some o/\Y.ow g= .row (oI p) n) (h:pH X r pl a b x):pH Y r oI a b x:=by
 obtain⟨c,p0,p1,T,h1,h2,h3,h4⟩:=h;refine⟨c,p0,p1,T,hh.trans h1,h2.bz hs,h3.move hs λp hp=> ?_,h4.move hs λp hp=> ?_⟩
 ·rcases hp with rfl|rfl<;>exact hg _ (by simp [sZ])
 ·rcases hp with rfl|rfl<;>exact hg _ (by simp [sZ])
theorem me.move{X Y:bZ}{r:Nat}{pl oI:List Nat->Place}{t:Ty}{x:El t}{own:List (List Nat)}(hs:∀a v,X.cf a v->Y.cf a v)(hh:Y.w.heap[r]? =X.w.heap[r]?)
 (ho:∀cs,eI X pl t x cs own->eI Y oI t x cs own) (hg:∀p∈own,∀g o n,X.w.heap[g]? =some o->X.ow g= .row (pl p) n->Y.w.heap[g]? =some o/\Y.ow g= .row (oI p) n) (h:me X r pl t x own):me Y r oI t x own:=by
 unfold me at h⊢;split at h
 ·exact hh.trans h
 ·obtain⟨es,c,h1,h2,h3⟩:=h;exact⟨es,c,hh.trans h1,h2,λi q e hq he=>⟨(h3 i q e hq he).1.mono hs,(h3 i q e hq he).2.mono hs⟩⟩
 ·obtain⟨cs,T,h1,h2,h3⟩:=h;exact⟨cs,T,hh.trans h1,h2,λj x hj=>(h3 j x hj).bz hs⟩
 ·obtain⟨⟨o,h1⟩,h2⟩:=h;refine⟨⟨o,hh.trans h1⟩,λhm=> ?_⟩;obtain⟨v,h3,h4⟩:=h2 hm;refine⟨v,h3.same hh (λg o hv ho=>(hg _ hm g o _ ho (h4 g hv)).1),λg hv=> ?_⟩;obtain⟨cap,cur,HS⟩:∃cap cur,X.w.heap[g]? =some (.cells cur cap (0,0)):=by
   rcases h3.own.2 with⟨hn,_⟩|⟨g',cap,cur,qC,_,HS,_⟩
   ·rw[hn] at hv;simp [eF] at hv
   ·rw[qC] at hv;simp [eF] at hv;subst hv;exact⟨_,_,HS⟩
  exact(hg _ hm g _ _ HS (h4 g hv)).2
 ·obtain⟨⟨o,h1⟩,h2⟩:=h;exact⟨⟨o,hh.trans h1⟩,λhp=>(h2 hp).move hs hh λp hm=>hg p (hp p hm)⟩
 ·exact h.elim
 ·obtain⟨cs,T,h1,h2,h3⟩:=h;exact⟨cs,T,hh.trans h1,h2.bz hs,ho _ h3⟩
def ff(X:bZ)(id r:Nat)(B:fc):Prop:=X.ow r= .box id/\me X r (.b id) B.t B.x B.own
theorem ff.cells{X:bZ}{id r:Nat}{B:fc}(h:ff X id r B)(hs:B.t.fA=false):∃cs T,X.w.heap[r]? =some (.cells cs T (0,0))/\eC X B.t B.x cs.toList/\X.ow r= .box id/\eI X (.b id) B.t B.x cs.toList B.own:=by obtain⟨cs,T,h1,h2,h3⟩:=(me.plain hs).1 h.2;exact⟨cs,T,h1,h2,h.1,h3⟩
def pI(s:State):Prop:=∀(i:Nat) l id a b j,s.sl[i]? =some l->SV.eU id a b j∈l->l=[.eU id a b j]/\(∃x own,s.bs[id]? =some (some ⟨.dC .kF a b,x,own⟩)/\ []∉own)/\
 ∀(i':Nat) l' a' b' j',s.sl[i']? =some l'->SV.eU id a' b' j'∈l'->i'=i
theorem pI.less{s s':State}(h:pI s)(hs:∀(i:Nat) l id a b j,s'.sl[i]? =some l->SV.eU id a b j∈l->∃l0,s.sl[i]? =some l0/\SV.eU id a b j∈l0/\(l0=[.eU id a b j]->l=[.eU id a b j]))
 (hb:∀(id:Nat) a b x own,(∃(i:Nat) (l:List SV) (j:Nat),s'.sl[i]? =some l/\SV.eU id a b j∈l)->s.bs[id]? =some (some ⟨.dC .kF a b,x,own⟩)-> []∉own->∃x' re,s'.bs[id]? =some (some ⟨.dC .kF a b,x',re⟩)/\ []∉re):pI s':=λi l id a b j hl hm=>by
 obtain⟨l0,h1,h2,h3⟩:=hs i l id a b j hl hm;obtain⟨g1,⟨x,own,g2,g3⟩,g4⟩:=h i l0 id a b j h1 h2;refine⟨h3 g1,hb id a b x own ⟨i,l,j,hl,hm⟩ g2 g3,λi' l' a' b' j' sP Al=> ?_⟩;obtain⟨l1,k1,k2,_⟩:=hs i' l' id a' b' j' sP Al;exact g4 i' l1 a' b' j' k1 k2
theorem pI.cD{s:State}(h:pI s){d:Nat}{B:fc}(hn:∀(i:Nat) (l:List SV) a b j,s.sl[i]? =some l->SV.eU d a b j∈l->False):pI (s.cD (some (d,B))):=
 h.less (λi l id a b j hl hm=>⟨l,hl,hm,λh=>h⟩) λid a b x own hex hb ho=>by obtain⟨i,l,j,hl,hm⟩:=hex;refine⟨x,own,?_,ho⟩;simp only[State.cD,ay];rw[if_neg (λe=>by subst e;exact hn i l a b j hl hm)];exact hb
theorem pI.none{s:State}(h:pI s){d:Nat}(hb:∀a b x own,s.bs[d]? =some (some ⟨.dC .kF a b,x,own⟩)-> []∈own):∀(i:Nat) (l:List SV) a b j,s.sl[i]? =some l->SV.eU d a b j∈l->False:=λi l a b j hl hm=>by obtain⟨_,⟨x,own,h1,h2⟩,_⟩:=h i l d a b j hl hm;exact h2 (hb a b x own h1)
theorem zu6{l:List SV}(h:l.any SV.fY=false){id:Nat}{a b:Ty}{j:Nat}(hm:SV.eU id a b j∈l):False:=by have:=cE.1 h _ hm;exact this rfl
abbrev n4:=List (Nat×Array Value)
variable {tq:n4}
def Good(tq:n4)(X:bZ):Prop:=∀e∈tq,(X.ow e.1).still/\∃T z,X.w.heap[e.1]? =some (.cells e.2 T z)
theorem Good.Cc{X Y:bZ}(h:Good tq X)(hk:∀g,g<X.w.heap.size->(X.ow g).still->Y.ow g=X.ow g/\Y.w.heap[g]? =X.w.heap[g]?):Good tq Y:=λe he=>by obtain⟨h1,T,z,h2⟩:=h e he;obtain⟨k1,k2⟩:=hk e.1 (fM.1 h2).1 h1;exact⟨by rw[k1];exact h1,T,z,k2.trans h2⟩
theorem Good.ext{X Y:bZ}(h:Good tq X)(hx:Ext X Y):Good tq Y:=h.Cc hx.still
theorem Good.zS{X Y:bZ}{g0:Nat}(h:Good tq X)(hn:¬(X.ow g0).still)(hw:∀b,b≠g0->Y.w.heap[b]? =X.w.heap[b]?)(ho:Y.ow=X.ow):Good tq Y:=h.Cc λg _ hs=>⟨by rw[ho],hw g λe=>hn (e▸hs)⟩
structure Rel(tq:n4)(X:bZ)(s:State)(a:Act):Prop where
 size:s.sl.length=a.tmps.size
 pc:s.bs.length=s.sl.length+1
 gn:∀(i:Nat) l v,s.sl[i]? =some l->a.tmps[i]? =some v->kj X (.c i) l v
 boxes:∀(id:Nat) B,s.bs[id]? =some (some B)->∃r,X.β id=some r/\ff X id r B
 live:∀(i:Nat) l id t p,s.sl[i]? =some l->SV.ptr id t p∈l->∃B,s.bs[id]? =some (some B)
 defers:a.defers=[]
 eU:pI s
 j8:Good tq X
theorem C4{w:World}{g:Nat}{o:Obj}(h:w.heap[g]? =some o):g<w.heap.size:=(fM.1 h).1
theorem kj.ql{X Y:bZ}{pl oI:Nat->List Nat->Place}{l:List SV}{v:Value}(hr:kj X pl l v)(h:∀(j:Nat) s u,l[j]? =some s->cq X (pl j) s u->cq Y (oI j) s u):kj Y oI l v:=by
 match l,hr with
 | [s],hr=>exact h 0 s v (by simp) hr
 | [],⟨vs,h1,h2,h3⟩=>exact⟨vs,h1,h2,λj s u hs hu=>h j s u hs (h3 j s u hs hu)⟩
 |x::y::r,⟨vs,h1,h2,h3⟩=>exact⟨vs,h1,h2,λj s u hs hu=>h j s u hs (h3 j s u hs hu)⟩
def kW(s:State):Place->Prop
 | .c i j p=>∃l t x own,s.sl[i]? =some l/\l[j]? =some (.b8 t x own)/\p∈own
 | .b id p=>∃B,s.bs[id]? =some (some B)/\p∈B.own
 | .r _ _=>False
structure Mod(s:State)(X Y:bZ):Prop where
 cf:∀a v,X.cf a v->Y.cf a v
 size:X.w.heap.size<=Y.w.heap.size
 os:Y.w.os=X.w.os
 tape:Y.w.tape=X.w.tape
 output:Y.w.output=X.w.output
 β0:Y.β 0=X.β 0
 β:∀(id:Nat) B,s.bs[id]? =some (some B)->Y.β id=X.β id
 uV:∀g,g<X.w.heap.size->(Y.ow g=X.ow g/\Y.w.heap[g]? =X.w.heap[g]?)\/∃pl n,X.ow g= .row pl n/\¬kW s pl
theorem Mod.ext{s:State}{X Y:bZ}(h:Mod s X Y):Ext X Y:=
 ⟨h.cf,h.size,h.os,h.tape,h.output,h.β0,λg hg gv=>by
   rcases h.uV g hg with e|⟨pl,n,h1,_⟩
   ·exact e
   ·rw[h1] at gv;exact gv.elim⟩
theorem Mod.refl(s:State)(X:bZ):Mod s X X:=⟨λ_ _ h=>h,bg _,rfl,rfl,rfl,rfl,λ_ _ _=>rfl,λ_ _=> .inl ⟨rfl,rfl⟩⟩
theorem eO.mod{s:State}{X Y:bZ}(h:Mod s X Y){pl:Place}{e:TypeId}{k n:Nat}{v:Value}(hf:kW s pl)(ho:eO X pl e k n v):eO Y pl e k n v:=by
 rcases ho with ho|⟨g,cap,cur,h1,h2,h3,h4,h5,h6⟩
 ·exact .inl ho
 ·rcases h.uV g (C4 h2) with⟨k1,k2⟩|⟨oI,n',k1,k2⟩
  ·exact .inr ⟨g,cap,cur,h1,k2.trans h2,h3,h4,h5,k1.trans h6⟩
  ·rw[h6] at k1;injection k1 with k1;rw[k1] at hf;exact absurd hf k2
theorem eI.mod{s:State}{X Y:bZ}(h:Mod s X Y){pl:List Nat->Place}{t:Ty}{x:El t}{cs:List Value}{own:List (List Nat)}(hf:∀p∈own,kW s (pl p))(ho:eI X pl t x cs own):eI Y pl t x cs own:=λp hp=>by obtain⟨e,t',xs,v,g0,g1,g2,g3⟩:=ho p hp;exact⟨e,t',xs,v,g0,g1,g2,g3.mod h (hf p hp)⟩
theorem cq.mod{s:State}{X Y:bZ}(h:Mod s X Y){pl:List Nat->Place}{sv:SV}{v:Value}(hf:∀t x own,sv= .b8 t x own->∀p∈own,kW s (pl p))(hl:∀id t p,sv= .ptr id t p->∃B,s.bs[id]? =some (some B))(hk:∀id a b j,sv= .eU id a b j->∃B,s.bs[id]? =some (some B))(hr:cq X pl sv v):cq Y pl sv v:=by
 cases sv with
 |undef=>trivial
 |skip=>exact hr
 |jJ=>exact hr
 |m5=>exact hr
 |over=>exact hr
 |b8 t x own=>obtain⟨cs,h1,h2,h3⟩:=hr;exact⟨cs,h1.bz h.cf,h2,h3.mod h (hf t x own rfl)⟩
 |ptr id t p=>obtain⟨r,h1,h2⟩:=hr;obtain⟨B,hB⟩:=hl id t p rfl;exact⟨r,(h.β id B hB).trans h1,h2⟩
 |view t x=>obtain⟨ad,cs,h1,h2,h3,h4⟩:=hr;exact⟨ad,cs,h1,h2,h3.bz h.cf,λi u hi=>h.cf _ _ (h4 i u hi)⟩
 |cap f t x u y=>exact Aa h.cf hr
 |eU id a b j=>
  obtain⟨r,h1,h2,h3⟩:=hr;obtain⟨B,hB⟩:=hk id a b j rfl;have bS:r<X.w.heap.size:=ey X.w _ h3;rcases h.uV r bS with⟨k1,k2⟩|⟨oI,n',k1,_⟩
  ·refine⟨r,(h.β id B hB).trans h1,k1.trans h2,?_⟩;simp only[bP] at h3⊢;rw[k2];exact h3
  ·rw[h2] at k1;cases k1
theorem Rel.mod{s:State}{X Y:bZ}{a:Act}(hr:Rel tq X s a)(h:Mod s X Y):Rel tq Y s a where
 size:=hr.size
 pc:=hr.pc
 gn:=λi l v hl hv=>(hr.gn i l v hl hv).ql λj sv u hm rl=>rl.mod h (λt x own e p hp=>⟨l,t,x,own,hl,e▸hm,hp⟩) (λid t p e=>hr.live i l id t p hl (e▸aN hm)) (λid a b j e=>by obtain⟨_,⟨x,own,hb,_⟩,_⟩:=hr.eU i l id a b j hl (e▸aN hm);exact⟨_,hb⟩)
 boxes:=λid B hB=>by
  obtain⟨r,h1,h4,h2⟩:=hr.boxes id B hB;have hk:Y.ow r=X.ow r/\Y.w.heap[r]? =X.w.heap[r]? :=by
   rcases h.uV r h2.lt with hk|⟨oI,n',k1,k2⟩
   ·exact hk
   ·rw[h4] at k1;cases k1
  exact⟨r,(h.β id B hB).trans h1,hk.1.trans h4,h2.move h.cf hk.2 (λcs h5=>h5.mod h λp hp=>⟨B,hB,hp⟩) λp hm g o n ho hw=>by
   rcases h.uV g (C4 ho) with e|⟨pl,n',e1,e2⟩
   ·exact⟨e.2.trans ho,e.1.trans hw⟩
   ·rw[hw] at e1;injection e1 with e1;exact absurd (e1▸(⟨B,hB,hm⟩:kW s (.b id p))) e2⟩
 live:=hr.live
 defers:=hr.defers
 eU:=hr.eU
 j8:=hr.j8.ext h.ext
structure nk(s:State)(X Y:bZ):Prop where
 size:X.w.heap.size<=Y.w.heap.size
 os:Y.w.os=X.w.os
 tape:Y.w.tape=X.w.tape
 output:Y.w.output=X.w.output
 uV:∀g,g<X.w.heap.size->Y.ow g=X.ow g/\Y.w.heap[g]? =X.w.heap[g]?
 β0:Y.β 0=X.β 0
 β:∀(id:Nat) B,s.bs[id]? =some (some B)->Y.β id=X.β id
theorem nk.cf{s:State}{X Y:bZ}(h:nk s X Y){a:Addr}{v:Value}(hs:X.cf a v):Y.cf a v:=by
 have bS:=bZ.p7 hs;obtain⟨h1,h2⟩:=h.uV _ bS;refine⟨hs.1,?_,?_⟩
 ·have:=hs.2.1;simp only[bP] at this⊢;rw[h2];exact this
 ·rw[h1];exact hs.2.2
theorem nk.mod{s:State}{X Y:bZ}(h:nk s X Y):Mod s X Y:=
 ⟨λ_ _=>h.cf,h.size,h.os,h.tape,h.output,h.β0,h.β,λg hg=> .inl (h.uV g hg)⟩
theorem nk.ext{s:State}{X Y:bZ}(h:nk s X Y):Ext X Y:=h.mod.ext
theorem eO.lH{s:State}{X Y:bZ}(h:nk s X Y){pl:Place}{e:TypeId}{k n:Nat}{v:Value}(ho:eO X pl e k n v):eO Y pl e k n v:=by
 rcases ho with ho|⟨g,cap,cur,h1,h2,h3,h4,h5,h6⟩
 ·exact .inl ho
 ·obtain⟨k1,k2⟩:=h.uV g (C4 h2);exact .inr ⟨g,cap,cur,h1,k2.trans h2,h3,h4,h5,k1.trans h6⟩
theorem eI.lH{s:State}{X Y:bZ}(h:nk s X Y){pl:List Nat->Place}{t:Ty}{x:El t}{cs:List Value}{own:List (List Nat)}(ho:eI X pl t x cs own):eI Y pl t x cs own:=λp hp=>by obtain⟨e,t',xs,v,g0,g1,g2,g3⟩:=ho p hp;exact⟨e,t',xs,v,g0,g1,g2,g3.lH h⟩
theorem Rel.lH{s:State}{X Y:bZ}{a:Act}(hr:Rel tq X s a)(h:nk s X Y):Rel tq Y s a:=hr.mod h.mod
theorem Rel.put{X:bZ}{s:State}{a:Act}(hr:Rel tq X s a){d:ae Nat}{l:List SV}{v:Value}(h:∀d',d=some d'->kj X (.c d') l v)(hl:∀id t p,SV.ptr id t p∈l->∃B,s.bs[id]? =some (some B))(hn:l.any SV.fY=false:=by rfl):Rel tq X (s.bX d l) (a.put d v):=by
 cases d with
 |none=>exact hr
 |some d=>
  refine⟨by simpa [State.bX,Act.put] using hr.size,by simpa [State.bX] using hr.pc,λi l' v' hi hv=> ?_,hr.boxes,λi l' id t p hi hm=> ?_,hr.defers,hr.eU.less (λi l' id a b j hi hm=> ?_) (λid a b x own _ hb ho=>⟨x,own,hb,ho⟩),hr.j8⟩
  ·simp only[State.bX,ay] at hi;simp only[Act.put,dc] at hv;by_cases e:d=i
   ·subst e;simp only[if_true] at hi hv;split at hi
    ·split at hv
     ·cases hi;cases hv;exact h d rfl
     ·cases hv
    ·cases hi
   ·rw[if_neg e] at hi hv;exact hr.gn i l' v' hi hv
  ·simp only[State.bX,ay] at hi;split at hi
   ·split at hi
    ·cases hi;exact hl id t p hm
    ·cases hi
   ·exact hr.live i l' id t p hi hm
  ·simp only[State.bX,ay] at hi;split at hi
   ·split at hi
    ·cases hi;exact(zu6 hn hm).elim
    ·cases hi
   ·exact⟨l',hi,hm,λh=>h⟩
theorem Rel.skip{X:bZ}{s:State}{a:Act}(hr:Rel tq X s a)(d:ae Nat):Rel tq X (s.bX d [.skip]) (a.put d aT):=
 hr.put (λ_ _=>rfl) (λid t p h=>by simp at h)
structure mM(s:State)(X Y:bZ):Prop where
 w:Y.w=X.w
 β:Y.β=X.β
 ow:∀g,Y.ow g=X.ow g\/∃pl n q,X.ow g= .row pl n/\¬kW s pl/\Y.ow g= .row q n
theorem mM.cf{s:State}{X Y:bZ}(h:mM s X Y){a:Addr}{v:Value}:X.cf a v↔Y.cf a v:=by
 unfold bZ.cf;rw[h.w];rcases h.ow a.block with e|⟨pl,n,q,h1,_,h2⟩
 ·rw[e]
 ·rw[h1,h2];rfl
theorem mM.mod{s:State}{X Y:bZ}(h:mM s X Y):Mod s X Y:=
 ⟨λ_ _=>h.cf.1,by rw[h.w];exact bg _,by rw[h.w],by rw[h.w],by rw[h.w],by rw[h.β],λ_ _ _=>by rw[h.β],λg _=>by
   rcases h.ow g with e|⟨pl,n,q,h1,h2,_⟩
   ·exact .inl ⟨e,by rw[h.w]⟩
   ·exact .inr ⟨pl,n,h1,h2⟩⟩
theorem mM.ext{s:State}{X Y:bZ}(h:mM s X Y):Ext X Y:=h.mod.ext
theorem mM.refl(s:State)(X:bZ):mM s X X:=⟨rfl,rfl,λ_=> .inl rfl⟩
theorem Wh{v:SV}{id:Nat}{t:Ty}{p:List Nat}:v.shut= .ptr id t p->v= .ptr id t p:=by cases v<;>simp [SV.shut]
theorem cq.shut{X:bZ}{pl oI:List Nat->Place}{sv:SV}{v:Value}(hr:cq X pl sv v):cq X oI sv.shut v:=by
 cases sv with
 |b8 t x own=>obtain⟨cs,h1,h2,_⟩:=hr;exact⟨cs,h1,h2,λp hp=>by cases hp⟩
 |eU id a b j=>trivial
 |_=>exact hr
theorem z7n:∀(l:List SV) (j:Nat),(gj l j).length=l.length
 | [],_=>rfl
 |_::_,0=>rfl
 |_::r,j+1=>by simp [gj,z7n r j]
theorem SX:∀(l:List SV) (j i:Nat),(gj l j)[i]? =if i=j then(l[i]?).map SV.shut else l[i]?
 | [],j,i=>by simp [gj]
 |v::r,0,0=>by simp [gj]
 |v::r,0,i+1=>by simp [gj]
 |v::r,j+1,0=>by simp [gj]
 |v::r,j+1,i+1=>by simp only[gj,bH,SX r j i];simp
theorem kj.gj{X:bZ}{pl:Nat->List Nat->Place}{l:List SV}{v:Value}(hr:kj X pl l v)(j:Nat):kj X pl (gj l j) v:=by
 match l,hr with
 | [s],hr=>
   cases j with
   |zero=>exact hr.shut
   |succ j=>exact hr
 | [],hr=>exact hr
 |x::y::r,⟨vs,h1,h2,h3⟩=>
  have hlen:∃x' y' r',Ref.gj (x::y::r) j=x'::y'::r':=by
   match j with
   |0=>exact⟨_,_,_,rfl⟩
   |1=>exact⟨_,_,_,rfl⟩
   |j+2=>exact⟨_,_,_,rfl⟩
  obtain⟨x',y',r',he⟩:=hlen;have hl:=z7n (x::y::r) j;have hg:=SX (x::y::r) j;rw[he] at hl hg⊢;refine⟨vs,h1,by rw[hl];exact h2,λi s u hs hu=> ?_⟩;rw[hg] at hs;split at hs
  ·obtain⟨s0,na,rfl⟩:=av.1 hs;exact(h3 i s0 u na hu).shut
  ·exact h3 i s u hs hu
theorem aei{l:List SV}{j:Nat}{id:Nat}{t:Ty}{p:List Nat}(h:SV.ptr id t p∈gj l j):SV.ptr id t p∈l:=by
 obtain⟨i,hi⟩:=cV.1 h;rw[SX] at hi;split at hi
 ·obtain⟨s0,na,he⟩:=av.1 hi;rw[Wh he] at na;exact aN na
 ·exact aN hi
theorem yw{s:State}{i:Nat}(h:i<s.sl.length):s.sl[i]? =some (s.slot i):=by simp [State.slot,aq,au h]
theorem aeh{l:List SV}{j:Nat}{id:Nat}{a b:Ty}{i:Nat}(h:SV.eU id a b i∈gj l j):SV.eU id a b i∈l/\(l=[.eU id a b i]->gj l j=[.eU id a b i]):=by
 obtain⟨k,hk⟩:=cV.1 h;have Gl:=hk;rw[SX] at hk;split at hk
 ·obtain⟨s0,na,he⟩:=av.1 hk;cases s0<;>simp [SV.shut] at he
 ·refine⟨aN hk,λe=> ?_⟩;subst e;cases j with
  |zero=>simp [gj,SV.shut] at h
  |succ j=>rfl
def State.ic(s:State)(i j:Nat):State:={s with sl:=s.sl.set i (gj (s.slot i) j)}
theorem Ju{s:State}{i j:Nat}{r:List (Nat×Nat)}:s.close ((i,j)::r)=(s.ic i j).close r:=rfl
theorem zh6{r:List (Nat×Nat)}:∀(l:List (Nat×Nat)) (s:State),s.close (l++r)=(s.close l).close r
 | [],s=>rfl
 |(i,j)::l,s=>by rw[gi,Ju,Ju];exact zh6 l _
theorem Rel.ic{X:bZ}{s:State}{a:Act}(hr:Rel tq X s a)(i j:Nat):Rel tq X (s.ic i j) a:=by
 refine⟨by simpa [State.ic] using hr.size,by simpa [State.ic] using hr.pc,λk l v hl hv=> ?_,hr.boxes,λk l id t p hl hm=> ?_,hr.defers,hr.eU.less (λk l id a b n hl hm=> ?_) (λid a b x own _ hb ho=>⟨x,own,hb,ho⟩),hr.j8⟩
 ·simp only[State.ic,ay] at hl;split at hl
  ·rename_i e;subst e;split at hl
   ·rename_i bS;cases hl;exact(hr.gn i _ v (yw bS) hv).gj j
   ·cases hl
  ·exact hr.gn k l v hl hv
 ·simp only[State.ic,ay] at hl;split at hl
  ·rename_i e;subst e;split at hl
   ·rename_i bS;cases hl;exact hr.live i _ id t p (yw bS) (aei hm)
   ·cases hl
  ·exact hr.live k l id t p hl hm
 ·simp only[State.ic,ay] at hl;split at hl
  ·rename_i e;subst e;split at hl
   ·rename_i bS;cases hl;obtain⟨h1,h2⟩:=aeh hm;exact⟨_,yw bS,h1,h2⟩
   ·cases hl
  ·exact⟨l,hl,hm,λh=>h⟩
theorem Rel.close{X:bZ}{a:Act}:∀(c:List (Nat×Nat)) {s:State},Rel tq X s a->Rel tq X (s.close c) a
 | [],s,hr=>hr
 |(i,j)::r,s,hr=>Rel.close r (hr.ic i j)
theorem ER:∀{c:List (Nat×Nat)} {s:State},(s.close c).bs=s.bs
 | [],s=>rfl
 |(i,j)::r,s=>(ER (c:=r) (s:=s.ic i j))
theorem S3:∀{c:List (Nat×Nat)} {s:State},(s.close c).sl.length=s.sl.length
 | [],s=>rfl
 |(i,j)::r,s=>by rw[Ju,S3 (c:=r)];simp [State.ic]
theorem kW.zO{s:State}{i j:Nat}{pl:Place}(h:kW (s.ic i j) pl):kW s pl/\∀p,pl≠ .c i j p:=by
 cases pl with
 |r j p=>exact h.elim
 |b id p=>exact⟨h,λp=>by simp⟩
 |c i' j' p=>
  obtain⟨l,t,x,own,hl,hx,hp⟩:=h;simp only[State.ic,ay] at hl;split at hl
  ·rename_i e;subst e;split at hl
   ·rename_i bS;cases hl;rw[SX] at hx;split at hx
    ·obtain⟨s0,_,he⟩:=av.1 hx;cases s0<;>simp [SV.shut] at he;obtain⟨rfl,_,rfl⟩:=he;cases hp
    ·rename_i fL;exact⟨⟨_,t,x,own,yw bS,hx,hp⟩,λq e=>by cases e;exact fL rfl⟩
   ·cases hl
  ·rename_i fL;exact⟨⟨l,t,x,own,hl,hx,hp⟩,λq e=>by cases e;exact fL rfl⟩
theorem kW.sm{pl:Place}:∀{c:List (Nat×Nat)} {s:State},kW (s.close c) pl->kW s pl/\∀i j,(i,j)∈c->∀p,pl≠ .c i j p
 | [],s,h=>⟨h,λi j hm=>by cases hm⟩
 |(i,j)::r,s,h=>by
  obtain⟨h1,h2⟩:=kW.sm (c:=r) (s:=s.ic i j) h;obtain⟨h3,h4⟩:=kW.zO h1;refine⟨h3,λi' j' hm p=> ?_⟩;rcases List.mem_cons.1 hm with e|hm
  ·cases e;exact h4 p
  ·exact h2 i' j' hm p
theorem kW.close{s:State}{i j:Nat}{p:List Nat}:¬kW (s.close [(i,j)]) (.c i j p):=λh=>(kW.sm h).2 i j (by simp) p rfl
def bZ.turn(X:bZ)(i j:Nat)(q:List Nat->Place):bZ:=
 {X with ow:=λg=>match X.ow g with
  | .row (.c i' j' p) n=>if i'=i/\j'=j then .row (q p) n else .row (.c i' j' p) n
  |w=>w}
theorem PT{s:State}{X:bZ}{i j:Nat}{q:List Nat->Place}(h:∀p,¬kW s (.c i j p)):mM s X (X.turn i j q):=by
 refine⟨rfl,rfl,λg=> ?_⟩;simp only[bZ.turn];cases hg:X.ow g with
 |row pl n=>
  cases pl with
  |c i' j' p=>
   by_cases e:i'=i/\j'=j
   ·obtain⟨rfl,rfl⟩:=e;exact .inr ⟨_,n,q p,rfl,h p,by simp⟩
   ·exact .inl (by simp [e])
  |_=>exact .inl rfl
 |_=>exact .inl rfl
theorem eO.uq{X:bZ}{i j:Nat}{q:List Nat->Place}{p:List Nat}{e:TypeId}{k n:Nat}{v:Value}(h:eO X (.c i j p) e k n v):eO (X.turn i j q) (q p) e k n v:=by
 rcases h with h|⟨g,cap,cur,h1,h2,h3,h4,h5,h6⟩
 ·exact .inl h
 ·exact .inr ⟨g,cap,cur,h1,h2,h3,h4,h5,by simp [bZ.turn,h6]⟩
theorem eI.uq{X:bZ}{i j:Nat}{q:List Nat->Place}{t:Ty}{x:El t}{cs:List Value}{own:List (List Nat)}(h:eI X (.c i j) t x cs own):eI (X.turn i j q) q t x cs own:=λp hp=>by obtain⟨e,t',xs,v,g0,g1,g2,g3⟩:=h p hp;exact⟨e,t',xs,v,g0,g1,g2,g3.uq⟩
def tT(X Y:bZ):Prop:=Y.w=X.w/\∀g pl n,X.ow g= .row pl n->(∀i j p,pl≠ .c i j p)->Y.ow g= .row pl n
theorem ahF{X:bZ}{i j:Nat}{q:List Nat->Place}:tT X (X.turn i j q):=⟨rfl,λg pl n h hp=>by
 simp only[bZ.turn,h];cases pl with
 |c i' j' p=>exact absurd rfl (hp i' j' p)
 |_=>rfl⟩
theorem tT.refl(X:bZ):tT X X:=⟨rfl,λ_ _ _ h _=>h⟩
theorem eI.stay{X Y:bZ}(h:tT X Y){pl:List Nat->Place}(hp:∀r i j p,pl r≠ .c i j p){t:Ty}{x:El t}{cs:List Value}{own:List (List Nat)}(ho:eI X pl t x cs own):eI Y pl t x cs own:=λp hm=>by
 obtain⟨e,t',xs,v,g0,g1,g2,g3⟩:=ho p hm;refine⟨e,t',xs,v,g0,g1,g2,?_⟩;rcases g3 with h0|⟨g,cap,cur,h1,h2,h3,h4,h5,h6⟩
 ·exact .inl h0
 ·exact .inr ⟨g,cap,cur,h1,by rw[h.1];exact h2,h3,h4,h5,h.2 g _ _ h6 (hp p)⟩
theorem Rel.take{X:bZ}{s:State}{a:Act}(hr:Rel tq X s a){i j:Nat}{t:Ty}{x:El t}{w:List (List Nat)}{v:Value}(h:cq X (.c i j) (.b8 t x w) v)(q:List Nat->Place):
 ∃Y,Y.w=X.w/\Ext X Y/\Rel tq Y (s.close [(i,j)]) a/\cq Y q (.b8 t x w) v/\Y.β=X.β/\mM (s.close [(i,j)]) X Y/\tT X Y:=by
 obtain⟨cs,h1,h2,h3⟩:=h;have hT:mM (s.close [(i,j)]) X (X.turn i j q):=PT λp=>kW.close;exact⟨X.turn i j q,rfl,hT.ext,(hr.close _).mod hT.mod,⟨cs,h1.bz (λ_ _=>hT.cf.1),h2,h3.uq⟩,rfl,hT,ahF⟩
def bZ.mI(X:bZ)(i d:Nat):bZ:=
 {X with ow:=λg=>match X.ow g with
  | .row (.c i' j' p) n=>if i'=i then .row (.c d j' p) n else .row (.c i' j' p) n
  |w=>w}
theorem PS(t:Nat):∀(n j:Nat),j<n->(t,j)∈ss t n
 |0,j,h=>absurd h (Nat.not_lt_zero j)
 |n+1,j,h=>by
  rcases Nat.lt_or_ge j n with h1|h1
  ·exact List.mem_cons_of_mem _ (PS t n j h1)
  ·have:j=n:=by omega
   subst this;simp [ss]
theorem kW.closeAll{s:State}{t j:Nat}{p:List Nat}:¬kW (s.close (ss t (s.slot t).length)) (.c t j p):=λh=>by
 obtain⟨h1,h2⟩:=kW.sm h;obtain⟨l,ty,x,own,g1,g2,g3⟩:=h1;have hl:s.slot t=l:=by simp [State.slot,g1]
 have hj:j<l.length:=(aC.1 g2).1;exact h2 t j (PS t _ j (by rw[hl];exact hj)) p rfl
theorem acK{s:State}{X:bZ}{i d:Nat}(h:∀j p,¬kW s (.c i j p)):mM s X (X.mI i d):=by
 refine⟨rfl,rfl,λg=> ?_⟩;simp only[bZ.mI];cases hg:X.ow g with
 |row pl n=>
  cases pl with
  |c i' j' p=>
   by_cases e:i'=i
   ·subst e;exact .inr ⟨_,n,.c d j' p,rfl,h j' p,by simp⟩
   ·exact .inl (by simp [e])
  |_=>exact .inl rfl
 |_=>exact .inl rfl
theorem eO.qs{X:bZ}{i d j:Nat}{p:List Nat}{e:TypeId}{k n:Nat}{v:Value}(h:eO X (.c i j p) e k n v):eO (X.mI i d) (.c d j p) e k n v:=by
 rcases h with h|⟨g,cap,cur,h1,h2,h3,h4,h5,h6⟩
 ·exact .inl h
 ·exact .inr ⟨g,cap,cur,h1,h2,h3,h4,h5,by simp [bZ.mI,h6]⟩
theorem cq.qs{s:State}{X:bZ}{i d j:Nat}{sv:SV}{v:Value}(hT:mM s X (X.mI i d))(h:cq X (.c i j) sv v):cq (X.mI i d) (.c d j) sv v:=by
 cases sv with
 |b8 t x own=>obtain⟨cs,h1,h2,h3⟩:=h;refine⟨cs,h1.bz (λ_ _=>hT.cf.1),h2,λp hp=> ?_⟩;obtain⟨e,t',xs,v,g0,g1,g2,g3⟩:=h3 p hp;exact⟨e,t',xs,v,g0,g1,g2,g3.qs⟩
 |view t x=>obtain⟨ad,cs,h1,h2,h3,h4⟩:=h;exact⟨ad,cs,h1,h2,h3.bz (λ_ _=>hT.cf.1),λi u hi=>hT.cf.1 (h4 i u hi)⟩
 |cap f t x u y=>exact Aa (λ_ _=>hT.cf.1) h
 |eU id a b k=>obtain⟨r,h1,h2,h3⟩:=h;exact⟨r,h1,by simp [bZ.mI,h2],h3⟩
 |_=>exact h
theorem Rel.EH{X:bZ}{s:State}{a:Act}(hr:Rel tq X s a){t:Nat}{v:Value}(h:kj X (.c t) (s.slot t) v)(d:Nat):
 ∃Y,Y.w=X.w/\Ext X Y/\Rel tq Y (s.close (ss t (s.slot t).length)) a/\kj Y (.c d) (s.slot t) v:=by
 have hT:mM (s.close (ss t (s.slot t).length)) X (X.mI t d):=acK λj p=>kW.closeAll;exact⟨X.mI t d,rfl,hT.ext,(hr.close _).mod hT.mod,h.ql λj sv u hj hu=>hu.qs hT⟩
end Go.Ref

namespace Go.Ref
open Go
variable {tq:n4}
def zp:Ty->List Value
 | .bool=>[.bool false]
 | .int k=>[.int k 0]
 | .str=>[.string ⟨#[]⟩]
 | .sl _ _=>[.slice none 0 0]
 | .arr n t=>(aB n (zp t)).flatten
 | .unit=>[]
 | .pair a b=>zp a++zp b
 | .dC _ _ _=>[]
def qO(E:Env):List Field->Ty->Nat->Prop
 | [],.unit,_=>True
 |f::r,.pair a b,off=>f.offset=off/\E.ty f.type=some a/\f.name≠ "_" /\qO E r b (off+a.cells)
 |_,_,_=>False
def Sn(P:Program)(E:Env)(T:TypeId):Ty->Prop
 | .bool=>P.underlying T=some .bool
 | .int k=>P.underlying T=some (.int k)
 | .str=>P.underlying T=some .string
 | .sl e t=>P.underlying T=some (.slice e)/\E.ty e=some t
 | .arr n t=>∃e,P.underlying T=some (.array n e)/\E.ty e=some t/\P.eqGuardType P.depth T=false
 | .dC _ _ _=>False
 |t=>∃fs,P.underlying T=some (.struct fs)/\qO E fs.toList t 0/\P.stoodInHeld T=false/\P.eqGuardType P.depth T=false
structure tV(P:Program)(E:Env)(T:TypeId)(t:Ty):Prop where
 info:∃i,P.info? T=some i/\i.size=t.cells/\i.bytes=E.bytes T/\i.zero=some (mH t (zp t))
 lU:Sn P E T t
structure bN(P:Program)(E:Env):Prop where
 ty:∀T t,E.ty T=some t->tV P E T t
 pt:∀T,E.pt T=true->∃e,P.underlying T=some (.pointer e)
 p1:∀T,E.pt T=true->∃i,P.info? T=some i/\i.size=1
 mp:∀T k e,E.mp T=some (k,e)->P.underlying T=some (.map k e)
 bl:∀T e,E.bl T=some e->∃i,P.info? T=some i/\i.zero=some (.agg #[.pointer none,.slice none 0 0])
 gr:∀T a b,E.gr T=some (a,b)->∃fs,P.underlying T=some (.struct fs)/\∀j,j<=2->∃f i,fs[j]? =some f/\f.offset=u6 a [j]/\P.info? f.type=some i/\i.size≠0
 gz:∀T a b,E.gr T=some (a,b)->∃i,P.info? T=some i/\i.zero=some (.agg (zp a++ [Value.pointer none,Value.pointer none,Value.int .i64 0]).toArray)
 g3:∀T a b,E.gr T=some (a,b)->∃fs f,P.underlying T=some (.struct fs)/\fs[0]? =some f/\f.offset=0/\E.ty f.type=some a/\∀f∈fs.toList,∃i,P.info? f.type=some i
 ga:∀T,E.ga T=true->∃e i,P.underlying T=some (.array 2 e)/\P.info? e=some i/\i.size=1
theorem bN.qn{P:Program}{E:Env}(hE:bN P E){T:TypeId}{t:Ty}(h:E.ty T=some t):t.fA=false:=by have:=(hE.ty T t h).lU;cases t<;>first|rfl|exact this.elim
theorem Cv:∀t:Ty,(zp t).length=t.cells
 | .bool=>rfl
 | .int _=>rfl
 | .str=>rfl
 | .sl _ _=>rfl
 | .unit=>rfl
 | .arr n t=>by simp [zp,Ty.cells,Cv t]
 | .pair a b=>by simp [zp,Ty.cells,Cv a,Cv b]
 | .dC _ _ _=>rfl
theorem z9b{l:List Value}{k:Nat}(hl:l.length=k):∀(n j:Nat),j<n->(((aB n l).flatten).drop (j*k)).take k=l
 |0,j,h=>by omega
 |n+1,0,_=>by simp only[eY,List.flatten_cons,Nat.zero_mul,aO];rw[<-hl];exact dW
 |n+1,j+1,h=>by simp only[eY,List.flatten_cons];rw[bK,cm,Nat.add_comm,<-fT];rw[show List.drop k (l++(aB n l).flatten)=(aB n l).flatten by rw[<-hl];exact fU];exact z9b hl n j (by omega)
theorem Ax(X:bZ):∀t:Ty,eC X t (El.gA t) (zp t)
 | .bool=>rfl
 | .int _=>rfl
 | .str=>rfl
 | .unit=>rfl
 | .sl _ t=>⟨none,0,rfl,bg _,λj x h=>by simp [El.gA] at h⟩
 | .arr n t=>by
   refine⟨by simp [El.gA],by simp [zp,Cv],λj x h=> ?_⟩;have hj:j<n:=by have:=(aC.1 h).1;simpa [El.gA] using this
   have hx:x=El.gA t:=by simp only[El.gA,List.getElem?_replicate] at h;rw[if_pos hj] at h;exact(Option.some.inj h).symm
   subst hx;have:=z9b (Cv t) n j hj;simp only[zp];rw[this];exact Ax X t
 | .pair a b=>⟨zp a,zp b,rfl,Ax X a,Ax X b⟩
 | .dC _ _ _=>rfl
theorem T8{t:Ty}{c:Value}(h:t.agg=false):mH t [c]=c:=by simp [mH,h]
theorem rj{t:Ty}{cs:List Value}(h:t.agg=true):mH t cs= .agg cs.toArray:=by simp [mH,h]
theorem CX{t:Ty}{X:bZ}{x:El t}{cs:List Value}(h:eC X t x cs):(mH t cs).cells=cs.toArray:=by
 cases ht:t.agg with
 |true=>rw[rj ht];rfl
 |false=>
  have hl:=h.len;have h1:=h.one;have hc:t.cells=1:=by cases t<;>simp_all [Ty.agg,Ty.cells]
  rw[hc] at hl
  match cs,hl with
  | [c],_=>rw[T8 ht];have:=h1 c (by simp);cases c<;>simp_all [Value.oneCell',Value.cells]
theorem zy{R:Type}{s:SV}{u:Ty}{K:El u->ae R}{z:R}(h:s.el u K=some z):
 ∃y,K y=some z/\∀(X:bZ) pl v,cq X pl s v->∃cs,eC X u y cs/\v=mH u cs:=by
 cases s with
 |b8 t x own=>
  simp only[SV.el] at h;split at h
  ·rename_i he;have e:=Ty.cS he;subst e;exact⟨x,h,λX pl v hv=>by obtain⟨cs,h1,h2,_⟩:=hv;exact⟨cs,h1,h2⟩⟩
  ·cases h
 |jJ=>
  cases u<;>simp only[SV.el] at h<;>first|cases h|skip
  rename_i e t;refine⟨[],h,λX pl v hv=>⟨[.slice none 0 0],⟨none,0,rfl,bg _,λj x hj=>by simp at hj⟩,hv⟩⟩
 |_=>simp [SV.el] at h
theorem tK{X:bZ}{k:IntKind}{n:Int}{cs:List Value}(h:eC X (.int k) n cs):mH (.int k) cs= .int k n:=by cases h;rfl
theorem C2{X:bZ}{b:Bool}{cs:List Value}(h:eC X .bool b cs):mH .bool cs= .bool b:=by cases h;rfl
theorem z28{X:bZ}{s:af}{cs:List Value}(h:eC X .str s cs):mH .str cs= .string s:=by cases h;rfl
theorem uB{X:bZ}{pl:List Nat->Place}{t:Ty}{x:El t}{cs:List Value}:eI X pl t x cs []:=λp hp=>by cases hp
theorem qN{X:bZ}{pl:List Nat->Place}{k:IntKind}{n:Int}:cq X pl (.b8 (.int k) n []) (.int k n):=⟨[.int k n],rfl,rfl,uB⟩
theorem vI{X:bZ}{pl:List Nat->Place}{b:Bool}:cq X pl (.b8 .bool b []) (.bool b):=⟨[.bool b],rfl,rfl,uB⟩
theorem Ha{X:bZ}{pl:List Nat->Place}{s:af}:cq X pl (.b8 .str s []) (.string s):=⟨[.string s],rfl,rfl,uB⟩
theorem GZ{X:bZ}{pl:List Nat->Place}{k:IntKind}{n:Int}{o:List (List Nat)}{v:Value}(h:cq X pl (.b8 (.int k) n o) v):v= .int k n:=by obtain⟨cs,h1,h2,_⟩:=h;rw[h2,tK h1]
theorem SK{X:bZ}{pl:List Nat->Place}{b:Bool}{o:List (List Nat)}{v:Value}(h:cq X pl (.b8 .bool b o) v):v= .bool b:=by obtain⟨cs,h1,h2,_⟩:=h;rw[h2,C2 h1]
theorem zhz{X:bZ}{pl:List Nat->Place}{s:af}{o:List (List Nat)}{v:Value}(h:cq X pl (.b8 .str s o) v):v= .string s:=by obtain⟨cs,h1,h2,_⟩:=h;rw[h2,z28 h1]
def EA:Operand->List Nat->Place
 | .tmp t=> .c t 0
 |_=> .r 0
theorem acS(X:bZ)(pl:List Nat->Place)(v:Value):cq X pl (Hf v) v:=by
 unfold Hf;split
 ·exact vI
 ·exact qN
 ·exact Ha
 ·rfl
 ·rfl
 ·trivial
theorem Rel.slot{X:bZ}{s:State}{a:Act}(hr:Rel tq X s a)(t:Nat):kj X (.c t) (s.slot t) (a.tmps.getD t aT):=by
 by_cases h:t<s.sl.length
 ·refine hr.gn t _ _ (yw h) ?_;have:=hr.size;simp [bf (show t<a.tmps.size by omega)]
 ·have:s.slot t=[.undef]:=by simp [State.slot,aQ (show s.sl.length<=t by omega)]
  rw[this];trivial
theorem Rel.cM{X:bZ}{s:State}{a:Act}(hr:Rel tq X s a)(x:Operand):cq X (EA x) (s.cM x) (a.eval x):=by
 cases x with
 |tmp t=>
  have h:=hr.slot t;unfold State.cM State.Eu;simp only[EA,Act.eval]
  match hl:s.slot t with
  | []=>trivial
  | [sv]=>rw[hl] at h;exact h
  |_::_::_=>trivial
 |const v=>exact acS X _ v
 |_=>trivial
theorem Az{X:bZ}{s:State}{a:Act}(hr:Rel tq X s a){x:Operand}{id:Nat}{t:Ty}{p:List Nat}(h:s.cM x= .ptr id t p):∃B,s.bs[id]? =some (some B):=by
 cases x with
 |tmp i=>
  unfold State.cM State.Eu at h;simp only at h;by_cases hi:i<s.sl.length
  ·refine hr.live i _ id t p (yw hi) ?_
   match hl:s.slot i,h with
   | [sv],h=>have:sv= .ptr id t p:=h;simp [this]
   | [],h=>simp [one] at h
   |_::_::_,h=>simp [one] at h
  ·have:s.slot i=[.undef]:=by simp [State.slot,aQ (eE hi)]
   rw[this] at h;simp [one] at h
 |const v=>unfold State.cM State.Eu Hf at h;simp only[one] at h;split at h<;>simp at h
 |_=>simp [State.cM,State.Eu,one] at h
theorem Rel.fin{Y:bZ}{s:State}{a:Act}(hr:Rel tq Y s a){dst:ae Nat}{l:List SV}{v:Value}(h:kj Y (.c (dst.getD 0)) l v)(hl:∀id t p,SV.ptr id t p∈l->∃B,s.bs[id]? =some (some B))(hn:l.any SV.fY=false:=by rfl):Rel tq Y (s.bX dst l) (a.put dst v):=
 hr.put (λd' e=>by subst e;exact h) hl hn
def cN(P:Program)(tq:n4)(X:bZ)(s:State)(a:Act)(o:Oper)(u:Out):Prop:=
 ∃Y v,((execOp a.eval o).run P X.w= .ok (.value v) Y.w\/((execOp a.eval o).run P X.w= .ok .skip Y.w/\v=aT))/\Ext X Y/\Rel tq Y (s.apply o.dst u) (a.put o.dst v)
theorem cN.plain{P:Program}{X:bZ}{s:State}{a:Act}{o:Oper}(hr:Rel tq X s a){sv:SV}{v:Value}
 (h:(execOp a.eval o).run P X.w= .ok (.value v) X.w) (hv:cq X (.c (o.dst.getD 0) 0) sv v) (hl:∀id t p,sv= .ptr id t p->∃B,s.bs[id]? =some (some B)) (hn:sv.fY=false:=by rfl):cN P tq X s a o {v:=[sv]}:=
 ⟨X,v,.inl h,Ext.refl X,hr.fin hv (λid t p hm=>hl id t p (by have h':=hm;simp at h';exact h'.symm)) (by simp [hn])⟩
theorem cN.GI{P:Program}{X:bZ}{s:State}{a:Act}{o:Oper}(hr:Rel tq X s a){i j:Nat}{t:Ty}{x:El t}{w:List (List Nat)}{v:Value}
 (h:(execOp a.eval o).run P X.w= .ok (.value v) X.w) (hv:cq X (.c i j) (.b8 t x w) v):cN P tq X s a o {v:=[.b8 t x w],cl:=[(i,j)]}:=by
 obtain⟨Y,h1,h2,h3,h4,_,_,_⟩:=hr.take hv (.c (o.dst.getD 0) 0);refine⟨Y,v,.inl (by rw[h1];exact h),h2,?_⟩;exact h3.fin h4 (λid t p hm=>by simp at hm)
end Go.Ref

namespace Go.Ref
open Go
variable {P:Program} {tq:n4} {E:Env} {X:bZ} {s:State} {a:Act} {o:Oper} {u:Out}
def Plain:SV->Prop
 | .b8 _ _ (_::_)=>False
 | .eU _ _ _ _=>False
 |_=>True
theorem Plain.wP{sv:SV}(h:Plain sv):sv.fY=false:=by cases sv<;>first|rfl|exact h.elim
theorem zpw(sv:SV):sv.shut.fY=false:=by cases sv<;>rfl
theorem zi2(l:List SV):(l.map SV.shut).any SV.fY=false:=cE.2 λv hv=>by obtain⟨w,_,rfl⟩:=bM.1 hv;simp [zpw]
theorem amX{sv:SV}{v:Value}(h:∀X pl,cq X pl sv v):sv.fY=false:=by
 cases sv with
 |eU id a b j=>obtain⟨r,h1,_⟩:=h ⟨default,λ_=> .all,λ_=>none⟩ (λ_=> .r 0 []);cases h1
 |_=>rfl
theorem zib(hr:Rel tq X s a){t:Nat}(hb:ak (s.slot t).length 1=false):(s.slot t).any SV.fY=false:=cE.2 λv hv=>by
 cases v with
 |eU id c b j=>
  exfalso;by_cases bS:t<s.sl.length
  ·obtain⟨e,_⟩:=hr.eU t _ id c b j (yw bS) hv;rw[e] at hb;simp at hb
  ·have:s.slot t=[.undef]:=by simp [State.slot,aQ (eE bS)]
   rw[this] at hv;simp at hv
 |_=>simp [SV.fY]
theorem cq.place{pl oI:List Nat->Place}{sv:SV}{v:Value}(h:cq X pl sv v)(hp:Plain sv):cq X oI sv v:=by
 cases sv with
 |b8 t x w=>
  cases w with
  |nil=>obtain⟨cs,h1,h2,_⟩:=h;exact⟨cs,h1,h2,uB⟩
  |cons p w=>exact hp.elim
 |_=>exact h
theorem cq.bare{pl oI:List Nat->Place}{t:Ty}{x:El t}{w:List (List Nat)}{v:Value}(h:cq X pl (.b8 t x w) v):cq X oI (.b8 t x []) v:=by obtain⟨cs,h1,h2,_⟩:=h;exact⟨cs,h1,h2,uB⟩
theorem zh9{v:Value}{t:Ty}{y:El t}{w:List (List Nat)}(h:Hf v= .b8 t y w):w=[]:=by
 unfold Hf at h;split at h<;>simp at h
 ·obtain⟨rfl,_,rfl⟩:=h;rfl
 ·obtain⟨rfl,_,rfl⟩:=h;rfl
 ·obtain⟨rfl,_,rfl⟩:=h;rfl
theorem amV{x:Operand}{t:Ty}{y:El t}{w:List (List Nat)}(h:s.cM x= .b8 t y w)(hw:w≠ []):∃i,x= .tmp i:=by
 cases x with
 |tmp i=>exact⟨i,rfl⟩
 |const v=>exact absurd (zh9 h) hw
 |_=>simp [State.cM,State.Eu,one] at h
theorem PD(hr:Rel tq X s a){x:Operand}(h:(execOp a.eval o).run P X.w= .ok (.value (a.eval x)) X.w)(hp:Plain (s.cM x)):cN P tq X s a o {v:=[s.cM x]}:=
 cN.plain hr h ((hr.cM x).place hp) (λid t p e=>Az hr e) hp.wP
theorem OW(hr:Rel tq X s a){x:Operand}{t:Ty}{y:El t}{w:List (List Nat)}(dD:(execOp a.eval o).run P X.w= .ok (.value (a.eval x)) X.w)(e:s.cM x= .b8 t y w):cN P tq X s a o {v:=[.b8 t y w],cl:=EV w x}:=by
 have jy:=hr.cM x;rw[e] at jy;cases hw:w with
 |nil=>subst hw;exact cN.plain hr dD jy.bare (λ_ _ _ h=>by cases h)
 |cons p w'=>
 rw[<-hw];have nG:EV w x=src x:=by rw[hw];rfl
 rw[nG];clear hw;cases x with
 |tmp i=>exact cN.GI hr dD jy
 |const v=>have hw:=zh9 (show Hf v= .b8 t y w from e);subst hw;exact cN.plain hr dD jy.bare (λ_ _ _ h=>by cases h)
 |_=>simp [State.cM,State.Eu,one] at e
theorem QK(hr:Rel tq X s a){T:TypeId}{v:Value}{pl:List Nat->Place}(dD:(execOp a.eval o).run P X.w= .ok (.value v) X.w)(hv:cq X pl .jJ v)(h:wO E T some=some u):cN P tq X s a o u:=by
 unfold wO at h;split at h
 ·cases h;refine cN.plain hr dD ⟨[.slice none 0 0],⟨none,0,rfl,bg _,λj x hj=>by simp at hj⟩,hv,λp hp=> ?_⟩ (λ_ _ _ e=>by cases e);rename_i e t _;have hp:p=[]:=by simpa using hp
  subst hp;exact⟨e,t,[],_,by simp [Ty.nb],rfl,rfl,.inl ⟨rfl,rfl⟩⟩
 ·cases h;exact cN.plain hr dD hv (λ_ _ _ e=>by cases e)
theorem cq.nT{pl oI:List Nat->Place}{sv:SV}{v:Value}(hr:cq X pl sv v):cq X oI sv.shut v:=by
 cases sv with
 |b8 t x own=>obtain⟨cs,h1,h2,_⟩:=hr;exact⟨cs,h1,h2,uB⟩
 |eU id a b j=>trivial
 |_=>exact hr
theorem kj.nT{pl oI:Nat->List Nat->Place}{l:List SV}{v:Value}(hr:kj X pl l v):kj X oI (l.map SV.shut) v:=by
 match l,hr with
 | [s],hr=>exact cq.nT hr
 | [],⟨vs,h1,h2,h3⟩=>exact⟨vs,h1,h2,λj s u hs=>by simp at hs⟩
 |x::y::r,⟨vs,h1,h2,h3⟩=>refine⟨vs,h1,by simpa using h2,λj s u hs hu=> ?_⟩;have hs:((x::y::r).map SV.shut)[j]? =some s:=hs;rw[aL] at hs;obtain⟨s0,na,rfl⟩:=av.1 hs;exact cq.nT (h3 j s0 u na hu)
theorem agC(hr:Rel tq X s a){ops:List Oper}{x:Operand}(ho:o.op= .move x){C:FuncId->gE Out}(h:act E C ops o s some=some u):cN P tq X s a o u:=by
 have dD:(execOp a.eval o).run P X.w= .ok (.value (a.eval x)) X.w:=by simp [execOp,ho]
 unfold act at h;simp only[ho] at h;have jy:=hr.cM x;cases ht:vD s x with
 |some tl=>
  obtain⟨t,l⟩:=tl;rw[ht] at h;cases x with
  |tmp i=>
   change(bif ak (s.slot i).length 1 then none else some (i,s.slot i))=some (t,l) at ht;cases hb:ak (s.slot i).length 1 with
   |true=>rw[hb] at ht;cases ht
   |false=>
    rw[hb] at ht;cases ht;have NJ:∀id ty p,SV.ptr id ty p∈s.slot t->∃B,s.bs[id]? =some (some B):=λid ty p hm=>by
     by_cases bS:t<s.sl.length
     ·exact hr.live t _ id _ p (yw bS) hm
     ·have:s.slot t=[.undef]:=by simp [State.slot,aQ (eE bS)]
      rw[this] at hm;simp at hm
    cases KD:Go.Ref.nT E o.dst with
    |true=>rw[KD] at h;cases h;refine⟨X,_,.inl dD,Ext.refl X,?_⟩;refine Rel.fin hr (kj.nT (hr.slot t)) (λid ty p hm=> ?_) (zi2 _);obtain⟨s0,na,he⟩:=bM.1 hm;rw[Wh he] at na;exact NJ id ty p na
    |false=>
    rw[KD] at h;cases h;cases gu:(s.slot t).all λv=>v.own.isEmpty with
    |true=>
     refine⟨X,_,.inl dD,Ext.refl X,?_⟩;refine Rel.fin hr ((hr.slot t).ql λj sv u hj hu=> ?_) (λid ty p hm=> ?_) (zib hr hb)
     ·have:=aY.1 gu sv (aN hj);refine hu.place ?_;cases sv with
      |b8 ty y w=>
       cases w with
       |nil=>trivial
       |cons p w=>simp [SV.own] at this
      |eU id a b j=>exact(zu6 (zib hr hb) (aN hj)).elim
      |_=>trivial
     ·by_cases bS:t<s.sl.length
      ·exact hr.live t _ id _ p (yw bS) hm
      ·have:s.slot t=[.undef]:=by simp [State.slot,aQ (eE bS)]
       rw[this] at hm;simp at hm
    |false=>
    obtain⟨Y,h1,h2,h3,h4⟩:=hr.EH (hr.slot t) (o.dst.getD 0);refine⟨Y,_,.inl (by rw[h1];exact dD),h2,?_⟩;refine h3.fin h4 (λid ty p hm=> ?_) (zib hr hb);by_cases bS:t<s.sl.length
    ·obtain⟨B,hB⟩:=hr.live t _ id _ p (yw bS) hm;exact⟨B,by rw[ER];exact hB⟩
    ·have:s.slot t=[.undef]:=by simp [State.slot,aQ (eE bS)]
     rw[this] at hm;simp at hm
  |_=>cases ht
 |none=>
 rw[ht] at h;simp only at h;split at h
 ·rename_i t y w e;rw[e] at jy;cases hb:(zty ops o.dst||takes E o.dst) with
  |true=>rw[hb] at h;cases h;exact OW hr dD e
  |false=>rw[hb] at h;cases h;exact cN.plain hr dD jy.bare (λ_ _ _ h=>by cases h)
 ·cases h
 ·cases h
 ·rename_i e;rw[e] at jy;exact QK hr dD jy h
 ·rename_i h1 h2 h3 h4;cases h;refine PD hr dD ?_;cases hx:s.cM x with
  |b8 t y w=>exact absurd hx (h1 t y w)
  |eU id c b j=>first|exact absurd hx (h2 id c b j)|exact absurd hx (h3 id c b j)
  |_=>trivial
theorem acW(hr:Rel tq X s a){ops:List Oper}{x:Operand}(ho:o.op= .assign x){C:FuncId->gE Out}(h:act E C ops o s some=some u):cN P tq X s a o u:=by
 have dD:(execOp a.eval o).run P X.w= .ok (.value (a.eval x)) X.w:=by simp [execOp,ho]
 unfold act at h;simp only[ho] at h;have jy:=hr.cM x;split at h
 ·rename_i t y w e;rw[e] at jy;cases h;exact OW hr dD e
 ·cases h
 ·cases h
 ·rename_i e;rw[e] at jy;exact QK hr dD jy h
 ·rename_i h1 h2 h3 h4;cases h;refine PD hr dD ?_;cases hx:s.cM x with
  |b8 t y w=>exact absurd hx (h1 t y w)
  |eU id c b j=>first|exact absurd hx (h2 id c b j)|exact absurd hx (h3 id c b j)
  |_=>trivial
theorem agE(hr:Rel tq X s a){ops:List Oper}{c x y:Operand}(ho:o.op= .pick c x y){C:FuncId->gE Out}(h:act E C ops o s some=some u):cN P tq X s a o u:=by
 unfold act at h;simp only[ho] at h;have hc:=hr.cM c;split at h
 ·rename_i p w e;rw[e] at hc;have hv:=SK hc;have key:∀z,cN P tq X s a o {v:=[(s.cM z).shut]}\/(execOp a.eval o).run P X.w≠ .ok (.value (a.eval z)) X.w:=by
   intro z;by_cases hz:(execOp a.eval o).run P X.w= .ok (.value (a.eval z)) X.w
   ·refine .inl (cN.plain hr hz (hr.cM z).shut (λid t p e=> ?_) (zpw _));exact Az hr (Wh e)
   ·exact .inr hz
  cases p with
  |true=>cases h;exact(key x).resolve_right (by simp [execOp,ho,hv,asBool])
  |false=>cases h;exact(key y).resolve_right (by simp [execOp,ho,hv,asBool])
 ·cases h
theorem Vs(op:BinOp)(T:TypeId)(x y:Operand)(k k':IntKind)(m n:Int)(w:World):(eqGuard op T x y (.int k m) (.int k' n)).run P w= .ok () w:=by cases op<;>simp [eqGuard]
theorem za8(op:BinOp)(T:TypeId)(x y:Operand)(m n:af)(w:World):(eqGuard op T x y (.string m) (.string n)).run P w= .ok () w:=by cases op<;>simp [eqGuard]
theorem zpv(op:BinOp)(T:TypeId)(x y:Operand)(m n:Bool)(w:World):(eqGuard op T x y (.bool m) (.bool n)).run P w= .ok () w:=by cases op<;>simp [eqGuard]
theorem zpd{op:BinOp}{T:TypeId}{k k':IntKind}{m n:Int}{l:List SV}(w:World)(h:yW op k m k' n some=some l):
 ∃sv v,l=[sv]/\(bO op T (.int k m) (.int k' n)).run P w= .ok v w/\Plain sv/\(∀X pl,cq X pl sv v)/\∀id t p,sv≠ .ptr id t p:=by
 have done:∀{sv:SV} {v:Value},l=[sv]->(bO op T (.int k m) (.int k' n)).run P w= .ok v w->Plain sv->(∀X pl,cq X pl sv v)->(∀id t p,sv≠ .ptr id t p)->∃sv v,l=[sv]/\(bO op T (.int k m) (.int k' n)).run P w= .ok v w/\Plain sv/\(∀X pl,cq X pl sv v)/\∀id t p,sv≠ .ptr id t p:=λh1 h2 h3 h4 h5=>⟨_,_,h1,h2,h3,h4,h5⟩
 have pi:∀{k:IntKind} {n:Int},Plain (.b8 (.int k) n []):=trivial;have pb:∀{b:Bool},Plain (.b8 .bool b []):=trivial;unfold yW at h;cases op
 case shl=>
  simp only at h;cases hd:decide (n<0) with
  |true=>rw[hd] at h;cases h
  |false=>rw[hd] at h;cases h;have:¬n<0:=of_decide_eq_false hd;exact done rfl (by simp [bO,Op.shift,this]) pi (λ_ _=>qN) (by simp)
 case shr=>
  simp only at h;cases hd:decide (n<0) with
  |true=>rw[hd] at h;cases h
  |false=>rw[hd] at h;cases h;have:¬n<0:=of_decide_eq_false hd;exact done rfl (by simp [bO,Op.shift,this]) pi (λ_ _=>qN) (by simp)
 all_goals
  simp only at h;split at h
  case isFalse=>cases h
  rename_i hk;subst hk
 case quo=>
  cases hd:decide (n=0) with
  |true=>rw[hd] at h;cases h
  |false=>rw[hd] at h;cases h;have:¬n=0:=of_decide_eq_false hd;exact done rfl (by simp [bO,Op.intDiv,this]) pi (λ_ _=>qN) (by simp)
 case rem=>
  cases hd:decide (n=0) with
  |true=>rw[hd] at h;cases h
  |false=>rw[hd] at h;cases h;have:¬n=0:=of_decide_eq_false hd;exact done rfl (by simp [bO,Op.intDiv,this]) pi (λ_ _=>qN) (by simp)
 case add=>cases h;exact done rfl (by simp [bO,kS]) pi (λ_ _=>qN) (by simp)
 case sub=>cases h;exact done rfl (by simp [bO,kS]) pi (λ_ _=>qN) (by simp)
 case mul=>cases h;exact done rfl (by simp [bO,kS]) pi (λ_ _=>qN) (by simp)
 case and=>cases h;exact done rfl (by simp only[bO,ne_eq,not_true_eq_false,if_false];rfl) pi (λ_ _=>qN) (by simp)
 case or=>cases h;exact done rfl (by simp only[bO,ne_eq,not_true_eq_false,if_false];rfl) pi (λ_ _=>qN) (by simp)
 case xor=>cases h;exact done rfl (by simp only[bO,ne_eq,not_true_eq_false,if_false];rfl) pi (λ_ _=>qN) (by simp)
 case andNot=>cases h;exact done rfl (by simp only[bO,ne_eq,not_true_eq_false,if_false];rfl) pi (λ_ _=>qN) (by simp)
 case eql=>cases h;exact done rfl (by simp only[bO,ne_eq,not_true_eq_false,if_false];rfl) pb (λ_ _=>vI) (by simp)
 case neq=>cases h;exact done rfl (by simp only[bO,ne_eq,not_true_eq_false,if_false];rfl) pb (λ_ _=>vI) (by simp)
 case lss=>cases h;exact done rfl (by simp only[bO,ne_eq,not_true_eq_false,if_false];rfl) pb (λ_ _=>vI) (by simp)
 case leq=>cases h;exact done rfl (by simp only[bO,ne_eq,not_true_eq_false,if_false];rfl) pb (λ_ _=>vI) (by simp)
 case gtr=>cases h;exact done rfl (by simp only[bO,ne_eq,not_true_eq_false,if_false];rfl) pb (λ_ _=>vI) (by simp)
 case geq=>cases h;exact done rfl (by simp only[bO,ne_eq,not_true_eq_false,if_false];rfl) pb (λ_ _=>vI) (by simp)
end Go.Ref

namespace Go.Ref
open Go
variable {P:Program} {E:Env} {X:bZ} {s:State} {a:Act} {o:Oper} {u:Out}
theorem Zb(x y:af):(x.toList==y.toList)=decide (x=y):=by
 rw[lj,lj];by_cases h:x=y
 ·subst h;simp
 ·have:¬x.data.toList=y.data.toList:=λe=>h (by cases x;cases y;congr;exact Array.toList_inj.1 e)
  rw[beq_eq_false_iff_ne.2 this,decide_eq_false h]
theorem ajH{op:BinOp}{T:TypeId}{m n:af}{l:List SV}(w:World)(h:yX op m n some=some l):
 ∃sv v,l=[sv]/\(bO op T (.string m) (.string n)).run P w= .ok v w/\Plain sv/\(∀X pl,cq X pl sv v)/\∀id t p,sv≠ .ptr id t p:=by
 have pb:∀{b:Bool},Plain (.b8 .bool b []):=trivial;unfold yX at h;cases op<;>simp only at h<;>first|(cases h;done)|skip
 case add=>
  cases hd:decide (m.size+n.size<=9223372036854775807) with
  |false=>rw[hd] at h;cases h
  |true=>
   rw[hd] at h;cases h;have h1:=of_decide_eq_true hd;have h2:¬((((m.size+n.size:Nat)):Int)>IntKind.i64.max):=by show¬((((m.size+n.size:Nat)):Int)>9223372036854775807);omega
   refine⟨_,_,rfl,?_,trivial,λ_ _=>Ha,by simp⟩;simp only[bO,kV];rw[if_neg h2];rfl
 all_goals
  cases h;refine⟨_,_,rfl,?_,pb,λ_ _=>vI,by simp⟩;simp only[bO,kV,Zb];rfl
theorem Pr(hE:bN P E){T:TypeId}{t:Ty}(ht:E.ty T=some t)(w:World):(isAgg T).run P w= .ok t.agg w:=by
 have hu:=(hE.ty T t ht).lU;cases t
 case bool=>simp [isAgg,run_underlying hu,Ty.agg]
 case int=>simp [isAgg,run_underlying hu,Ty.agg]
 case str=>simp [isAgg,run_underlying hu,Ty.agg]
 case sl=>simp [isAgg,run_underlying hu.1,Ty.agg]
 case arr=>obtain⟨e,h1,_⟩:=hu;simp [isAgg,run_underlying h1,Ty.agg]
 case unit=>obtain⟨fs,h1,_⟩:=hu;simp [isAgg,run_underlying h1,Ty.agg]
 case pair=>obtain⟨fs,h1,_⟩:=hu;simp [isAgg,run_underlying h1,Ty.agg]
 case dC=>exact hu.elim
theorem tJ(hE:bN P E){T:TypeId}{t:Ty}(ht:E.ty T=some t)(w:World):(sizeOf T).run P w= .ok t.cells w:=by obtain⟨i,h1,h2,_⟩:=(hE.ty T t ht).info;simp [sizeOf,typeInfo,h1,h2]
theorem JH(hE:bN P E){T:TypeId}{t:Ty}(ht:E.ty T=some t){x:El t}{cs:List Value}(hr:eC X t x cs){all:Array Value}{off:Nat}(ha:(all.toList.drop off).take t.cells=cs)(w:World):
 (part T all off).run P w= .ok (mH t cs) w:=by
 have hl:=hr.len;unfold part;simp only[ax,Pr hE ht,al];cases hg:t.agg with
 |true=>simp only[if_true,ax,tJ hE ht,al,aD,rj hg];congr 2;apply Array.ext';rw[<-ha,Array.toList_extract,List.extract_eq_take_drop];simp
 |false=>
  simp only[cI,if_false];have hc:t.cells=1:=by cases t<;>simp_all [Ty.agg,Ty.cells]
  rw[hc] at hl ha
  match cs,hl with
  | [c],_=>
    rw[T8 hg];have jx:all[off]? =some c:=by
     have h1:(all.toList.drop off)[0]? =some c:=by have:=congrArg (λl=>l[0]?) ha;simpa [bj] using this
     simpa using h1
    simp [jx]
def UA(d:Nat)(xs ys:Array Value)(f:Field)(_:ae Bool×Unit):Sem (ForInStep (ae Bool×Unit)):=
 if f.name≠ "_" then do
  let __do_lift<-part f.type xs f.offset;let __do_lift_1<-part f.type ys f.offset;let __do_lift<-di d f.type __do_lift __do_lift_1
  if(!__do_lift)=true then pure (ForInStep.done (some false,()))
   else pure (kH (none,()))
 else pure (kH (none,()))
theorem zth(hE:bN P E){d:Nat}{xs ys:Array Value}(w:World)
 (ih:∀(t:Ty) (T:TypeId),E.ty T=some t->t.depth<=d->∀(x y:El t) (c1 c2:List Value) (r:Bool),eC X t x c1->eC X t y c2->ml t x y=some r->(di d T (mH t c1) (mH t c2)).run P w= .ok r w):
 ∀(fl:List Field) (t:Ty) (off:Nat),qO E fl t off->t.depth<=d+1->∀(x y:El t) (c1 c2:List Value) (r:Bool),eC X t x c1->eC X t y c2->(xs.toList.drop off).take t.cells=c1->(ys.toList.drop off).take t.cells=c2->ml t x y=some r->
  (forIn fl (none,()) (UA d xs ys)).run P w= .ok (if r=true then(none,()) else(some false,())) w:=by
 intro fl
 induction fl with
 |nil=>
  intro t off hf hd x y c1 c2 r h1 h2 h3 h4 he;cases t<;>simp only[qO] at hf<;>try exact hf.elim
  simp only[ml,az] at he;subst he;simp [List.forIn_nil]
 |cons f fl ihl=>
  intro t off hf hd x y c1 c2 r h1 h2 h3 h4 he;cases t<;>simp only[qO] at hf<;>try exact hf.elim
  rename_i ta tb;obtain⟨ho,KG,hn,fy⟩:=hf;obtain⟨ca,cb,e1,ra,rb⟩:=h1;obtain⟨da,db,e2,sa,sb⟩:=h2;simp only[ml] at he;split at he
  case h_2=>cases he
  rename_i p q hp hq;cases he;simp only[Ty.depth] at hd;have la:=ra.len;have lb:=rb.len;have ma:=sa.len;have mb:=sb.len;have t1:(xs.toList.drop off).take ta.cells=ca:=by have:=congrArg (λl=>l.take ta.cells) (h3.trans e1);simp only[lf,Ty.cells] at this;rw[bL (Nat.le_add_right _ _),<-la,dW] at this;rw[<-la];exact this
  have t2:(ys.toList.drop off).take ta.cells=da:=by have:=congrArg (λl=>l.take ta.cells) (h4.trans e2);simp only[lf,Ty.cells] at this;rw[bL (Nat.le_add_right _ _),<-ma,dW] at this;rw[<-ma];exact this
  have u1:(xs.toList.drop (off+ta.cells)).take tb.cells=cb:=by have:=congrArg (λl=>l.drop ta.cells) (h3.trans e1);simp only[Ty.cells] at this;rw[ld,cg,fT,<-la,fU] at this;rw[<-la];exact this
  have u2:(ys.toList.drop (off+ta.cells)).take tb.cells=db:=by have:=congrArg (λl=>l.drop ta.cells) (h4.trans e2);simp only[Ty.cells] at this;rw[ld,cg,fT,<-ma,fU] at this;rw[<-ma];exact this
  have wK:=JH hE KG ra (all:=xs) (off:=f.offset) (by rw[ho];exact t1) w;have H4:=JH hE KG sa (all:=ys) (off:=f.offset) (by rw[ho];exact t2) w;have heq:=ih ta f.type KG (by omega) x.1 y.1 ca da p ra sa hp;have N2:(UA d xs ys f (none,())).run P w= .ok (if p=true then kH (none,()) else ForInStep.done (some false,())) w:=by unfold UA;rw[if_pos hn];simp only[ax,wK,H4,heq,al];cases p<;>rfl
  rw[List.forIn_cons];simp only[ax,N2,al];cases p with
  |false=>rfl
  |true=>simp only[if_true,dO];exact ihl tb (off+ta.cells) fy (by omega) x.2 y.2 cb db q rb sb u1 u2 hq
theorem agH(hE:bN P E)(w:World){d n:Nat}{k:IntKind}{T e:TypeId}(ht:P.underlying T=some (.array n e))(he:E.ty e=some (.int k)){x y:List Int}{c1 c2:List Value}(r1:eC X (.arr n (.int k)) x c1)(r2:eC X (.arr n (.int k)) y c2):
 (di (d+2) T (.agg c1.toArray) (.agg c2.toArray)).run P w= .ok (decide (x=y)) w:=by
 obtain⟨l1,m1,e1⟩:=r1;obtain⟨l2,m2,e2⟩:=r2;have l1:x.length=n:=l1;have l2:y.length=n:=l2;have key:decide (x=y)=(List.range n).all λi=>decide (x.getD i 0=y.getD i 0):=by
  by_cases GD:x=y
  ·rw[decide_eq_true GD];exact(aY.2 λi _=>by rw[GD];simp).symm
  ·rw[decide_eq_false GD];cases ha:(List.range n).all λi=>decide (x.getD i 0=y.getD i 0) with
   |false=>rfl
   |true=>refine absurd (List.ext_getElem (l1.trans l2.symm) λi h1 h2=> ?_) GD;have:=of_decide_eq_true (aY.1 ha i (List.mem_range.2 (by omega)));simpa [aq,au h1,au h2] using this
 rw[key,List.range_eq_range',di];simp only[ax,run_underlying ht,al,tJ hE he,Std.Legacy.Range.forIn_eq_forIn_range',Std.Legacy.Range.size,Nat.sub_zero,Nat.add_sub_cancel,Nat.div_one];have hl:∀i∈List.range' 0 n 1,i<n:=λi hi=>by simpa using(List.mem_range'_1.1 hi).2
 generalize List.range' 0 n 1=l at hl⊢
 induction l with
 |nil=>simp
 |cons i l ih=>
  have hi:i<n:=hl i (by simp);have g1:x[i]? =some (x.getD i 0):=by rw[aq,au (by omega)];rfl
  have g2:y[i]? =some (y.getD i 0):=by rw[aq,au (by omega)];rfl
  have p1:=e1 i (x.getD i 0) g1;have p2:=e2 i (y.getD i 0) g2;have px:=JH hE he p1 (all:=c1.toArray) (off:=i*(Ty.int k).cells) rfl w;have py:=JH hE he p2 (all:=c2.toArray) (off:=i*(Ty.int k).cells) rfl w;rw[tK p1] at px;rw[tK p2] at py;have pe:(di (d+1) e (.int k (x.getD i 0)) (.int k (y.getD i 0))).run P w= .ok (decide (x.getD i 0=y.getD i 0)) w:=by have hu:P.underlying e=some (.int k):=(hE.ty e _ he).lU;unfold di;simp only[ax,run_underlying hu,al,if_true,aD];rfl
  simp only[List.forIn_cons,ax,px,py,pe,al,List.all_cons];cases hb:decide (x.getD i 0=y.getD i 0)
  ·simp
  ·simp only[Bool.not_true,cI,if_false,aD,al,dO];exact ih λj hj=>hl j (by simp [hj])
theorem O7(hE:bN P E)(w:World):∀(d:Nat) (t:Ty) (T:TypeId),E.ty T=some t->t.depth<=d->∀(x y:El t) (c1 c2:List Value) (r:Bool),eC X t x c1->eC X t y c2->ml t x y=some r->(di d T (mH t c1) (mH t c2)).run P w= .ok r w:=by
 intro d
 induction d with
 |zero=>intro t T ht hd;cases t<;>simp only[Ty.depth] at hd<;>omega
 |succ d ih=>
  intro t T ht hd x y c1 c2 r h1 h2 he;have hu:=(hE.ty T t ht).lU;cases t with
  |bool=>rw[C2 h1,C2 h2];simp only[ml,az] at he;subst he;unfold di;simp only[ax,run_underlying hu,al,aD]
  |int k=>rw[tK h1,tK h2];simp only[ml,az] at he;subst he;unfold di;simp only[ax,run_underlying hu,al,if_true,aD];rfl
  |str=>rw[z28 h1,z28 h2];simp only[ml,az] at he;subst he;unfold di;simp only[ax,run_underlying hu,al,aD];rw[beq_toListBytes,Zb]
  |sl e t=>simp [ml] at he
  |arr n t=>
   cases t<;>simp only[ml,az,reduceCtorEq] at he;rename_i k;subst he;obtain⟨e,pU,qk,_⟩:=hu;obtain⟨d,rfl⟩:∃d',d=d'+1:=⟨d-1,by simp only[Ty.depth] at hd;omega⟩
   rw[rj rfl,rj rfl];exact agH hE w pU qk h1 h2
  |dC _ _ _=>exact hu.elim
  |unit=>obtain⟨fs,pU,qk,U7,_⟩:=hu;rw[rj rfl,rj rfl];unfold di;simp only[ax,run_underlying pU,al,run_program,U7,cI,if_false];rw[<-Array.forIn_toList];have:=zth (X:=X) hE (d:=d) (xs:=c1.toArray) (ys:=c2.toArray) w ih fs.toList .unit 0 qk hd x y c1 c2 r h1 h2 (by have:=h1.len;simp [Ty.cells] at this⊢;subst this;rfl) (by have:=h2.len;simp [Ty.cells] at this⊢;subst this;rfl) he;unfold UA at this;rw[this];simp only[al];cases r<;>rfl
  |pair ta tb=>obtain⟨fs,pU,qk,U7,_⟩:=hu;rw[rj rfl,rj rfl];unfold di;simp only[ax,run_underlying pU,al,run_program,U7,cI,if_false];rw[<-Array.forIn_toList];have:=zth (X:=X) hE (d:=d) (xs:=c1.toArray) (ys:=c2.toArray) w ih fs.toList (.pair ta tb) 0 qk hd x y c1 c2 r h1 h2 (by have:=h1.len;simp only[aO];rw[<-this];exact cC) (by have:=h2.len;simp only[aO];rw[<-this];exact cC) he;unfold UA at this;rw[this];simp only[al];cases r<;>rfl
end Go.Ref

namespace Go.Ref
open Go
variable {P:Program} {tq:n4} {E:Env} {X:bZ} {s:State} {a:Act} {o:Oper} {u:Out}
theorem ajG(hE:bN P E){op:BinOp}{T:TypeId}{x y:SV}{vx vy:Value}{px py:List Nat->Place}{l:List SV}(w:World)(xo yo:Operand)(hx:cq X px x vx)(hy:cq X py y vy)(h:yV E op T x y some=some l):
 ∃b:Bool,l=bl b/\(eqGuard op T xo yo vx vy).run P w= .ok () w/\(bO op T vx vy).run P w= .ok (.bool b) w:=by
 unfold yV at h;split at h
 case h_2=>cases h
 rename_i t ht;split at h
 ·cases h
 rename_i aam;obtain⟨m,h,hm⟩:=zy h;obtain⟨n,h,hn⟩:=zy h;split at h
 case h_2=>cases h
 rename_i r hr;obtain⟨c1,r1,e1⟩:=hm X px vx hx;obtain⟨c2,r2,e2⟩:=hn X py vy hy;have hd:t.depth<=10000:=by
  have:bC t.depth 1000=true:=by simpa using aam
  have:=b7 this;omega
 have heq:=O7 hE w 10000 t T ht hd m n c1 c2 r r1 r2 hr;have hu:=(hE.ty T t ht).lU;have hg:(eqGuard op T xo yo vx vy).run P w= .ok () w:=by
  cases t
  case bool=>rw[e1,e2,C2 r1,C2 r2];exact zpv ..
  case int=>rw[e1,e2,tK r1,tK r2];exact Vs ..
  case str=>rw[e1,e2,z28 r1,z28 r2];exact za8 ..
  case sl=>simp [ml] at hr
  case arr=>obtain⟨fs,_,_,hq⟩:=hu;rw[e1,e2,rj rfl,rj rfl];cases op<;>simp [eqGuard,hq]
  case dC=>simp [ml] at hr
  all_goals
   obtain⟨fs,_,_,_,hq⟩:=hu;rw[e1,e2,rj rfl,rj rfl];cases op<;>simp [eqGuard,hq]
 split at h
 ·cases h;refine⟨r,rfl,hg,?_⟩;rw[e1,e2];cases t
  case int=>rw[tK r1,tK r2];simp only[ml,az] at hr;subst hr;simp only[bO,ne_eq,not_true_eq_false,if_false];rfl
  case str=>rw[z28 r1,z28 r2];simp only[ml,az] at hr;subst hr;simp only[bO,kV,Zb];rfl
  case bool=>rw[C2 r1,C2 r2] at heq⊢;simp only[bO,ax,ku,kU,heq,al,aD]
  case sl=>simp [ml] at hr
  case dC=>simp [ml] at hr
  all_goals
   rw[rj rfl,rj rfl] at heq⊢;simp only[bO,ax,ku,kU,heq,al,aD]
 ·cases h;refine⟨!r,rfl,hg,?_⟩;rw[e1,e2];cases t
  case int=>rw[tK r1,tK r2];simp only[ml,az] at hr;subst hr;simp only[bO,ne_eq,not_true_eq_false,if_false];rfl
  case str=>rw[z28 r1,z28 r2];simp only[ml,az] at hr;subst hr;simp only[bO,kV,Zb];rfl
  case bool=>rw[C2 r1,C2 r2] at heq⊢;simp only[bO,ax,ku,kU,heq,al,aD]
  case sl=>simp [ml] at hr
  case dC=>simp [ml] at hr
  all_goals
   rw[rj rfl,rj rfl] at heq⊢;simp only[bO,ax,ku,kU,heq,al,aD]
 ·cases h
theorem Vt(op:BinOp)(T:TypeId)(x y:Operand)(p q:ae Addr)(w:World):(eqGuard op T x y (.pointer p) (.pointer q)).run P w= .ok () w:=by cases op<;>simp [eqGuard]
theorem aj5(d:Nat){T e:TypeId}(hu:P.underlying T=some (.pointer e))(w:World)(ad:Addr):(di (d+1) T (.pointer (some ad)) (.pointer none)).run P w= .ok false w:=by unfold di;simp only[ax,run_underlying hu,al,aD]
theorem aj4(d:Nat){T e:TypeId}(hu:P.underlying T=some (.pointer e))(w:World):(di (d+1) T (.pointer none) (.pointer none)).run P w= .ok true w:=by unfold di;simp only[ax,run_underlying hu,al,aD];rfl
theorem PF{t:Ty}{p:List Nat}{r:Nat}{v:Value}(h:(t.fA&& !t.nf)=false)(hv:vB t p r v):∃ad,v= .pointer (some ad):=by
 cases hs:t.fA with
 |false=>exact⟨_,((yq hs).1 hv).1⟩
 |true=>
  rw[hs,dO,Bool.not_eq_false'] at h;unfold Ty.nf at h;split at h
  ·exact⟨_,hv.1⟩
  ·cases h
theorem amt(hE:bN P E){op:BinOp}{T:TypeId}{x y:SV}{vx vy:Value}{px py:List Nat->Place}{u:Out}(w:World)(xo yo:Operand)(hx:cq X px x vx)(hy:cq X py y vy)(h:bin E op T x y (λv=>some ({v:=v}:Out))=some u):
 ∃sv v,u={v:=[sv]}/\(eqGuard op T xo yo vx vy).run P w= .ok () w/\(bO op T vx vy).run P w= .ok v w/\(∀X pl,cq X pl sv v)/\∀id t p,sv≠ .ptr id t p:=by
 unfold bin at h;split at h
 ·rename_i k m o1 k' n o2;rw[GZ hx,GZ hy];obtain⟨l,h1,h2⟩:=rC zpc h;obtain⟨sv,v,rfl,hv,_,hr,hp⟩:=zpd (T:=T) w h1;cases h2;exact⟨sv,v,rfl,Vs ..,hv,hr,hp⟩
 ·rename_i m o1 n o2;rw[zhz hx,zhz hy];obtain⟨l,h1,h2⟩:=rC zpe h;obtain⟨sv,v,rfl,hv,_,hr,hp⟩:=ajH (T:=T) w h1;cases h2;exact⟨sv,v,rfl,za8 ..,hv,hr,hp⟩
 ·obtain⟨r,_,hpv⟩:=hx;have hy':vy= .pointer none:=hy;subst hy';split at h
  ·cases h
  rename_i tv;rw[Bool.not_eq_true,Bool.or_eq_false_iff,Bool.not_eq_false'] at tv;obtain⟨ad,rfl⟩:=PF tv.1 hpv;obtain⟨e,hu⟩:=hE.pt T tv.2;have heq:∀ad,(ku T (.pointer (some ad)) (.pointer none)).run P w= .ok false w:=λad=>aj5 9999 hu w ad;split at h
  ·cases h;exact⟨_,_,rfl,Vt ..,by(simp only[bO,ax,heq,al,aD];try rfl),λ_ _=>vI,by simp⟩
  ·cases h;exact⟨_,_,rfl,Vt ..,by(simp only[bO,ax,heq,al,aD];try rfl),λ_ _=>vI,by simp⟩
  ·cases h
 ·have N6:vx= .pointer none:=hx;have hy':vy= .pointer none:=hy;subst N6 hy';split at h
  ·cases h
  rename_i tv;obtain⟨e,hu⟩:=hE.pt T (by simpa using tv);have heq:(ku T (.pointer none) (.pointer none)).run P w= .ok true w:=aj4 9999 hu w;split at h
  ·cases h;exact⟨_,_,rfl,Vt ..,by(simp only[bO,ax,heq,al,aD];try rfl),λ_ _=>vI,by simp⟩
  ·cases h;exact⟨_,_,rfl,Vt ..,by(simp only[bO,ax,heq,al,aD];try rfl),λ_ _=>vI,by simp⟩
  ·cases h
 ·obtain⟨l,h1,h2⟩:=rC zpb h;obtain⟨b,rfl,hg,hv⟩:=ajG hE w xo yo hx hy h1;cases h2;exact⟨_,_,rfl,hg,hv,λ_ _=>vI,by simp⟩
theorem ajX(hE:bN P E)(hr:Rel tq X s a){ops:List Oper}{op:BinOp}{T T':TypeId}{x y:Operand}(ho:o.op= .binOp op T x y T'){C:FuncId->gE Out}(h:act E C ops o s some=some u):cN P tq X s a o u:=by unfold act at h;simp only[ho] at h;obtain⟨sv,v,rfl,hg,hv,cY,hp⟩:=amt hE X.w x y (hr.cM x) (hr.cM y) h;exact cN.plain hr (by simp only[execOp,ho,ax,hg,hv,al,aD]) (cY _ _) (λid t p e=>absurd e (hp id t p)) (amX cY)
end Go.Ref

namespace Go.Ref
open Go
variable {P:Program} {tq:n4} {E:Env} {X:bZ} {s:State} {a:Act} {o:Oper} {u:Out}
theorem TZ(ad:Addr)(h:ad.spot=none)(m n:Nat):(ad.add m).add n=ad.add (m+n):=by unfold Addr.add;by_cases h1:m=0<;>by_cases h2:n=0<;>simp [h1,h2,lO]
theorem G8{ad:Addr}(h:ad.spot=none)(m:Nat):(ad.add m).spot=none:=by
 unfold Addr.add;split
 ·exact h
 ·rfl
theorem qc(g i j:Nat):(⟨g,i,none⟩:Addr).add j=⟨g,i+j,none⟩:=by unfold Addr.add;split<;>simp_all
theorem KU:∀(t:Ty) (p q:List Nat) (u:Ty),t.at_ p=some u->t.off (p++q)=t.off p+u.off q:=by
 intro t
 induction t with
 |arr n t ih=>
  intro p q u h;cases p with
  |nil=>simp only[Ty.at_,az] at h;subst h;simp [Ty.off]
  |cons i p=>simp only[Ty.at_] at h;simp only[gi,Ty.off,ih p q u h];omega
 |pair x y Oc Od=>
  intro p q u h;cases p with
  |nil=>simp only[Ty.at_,az] at h;subst h;simp [Ty.off]
  |cons i p=>
   cases i with
   |zero=>simp only[Ty.at_] at h;simp only[gi,Ty.off,Oc p q u h]
   |succ i=>simp only[Ty.at_] at h;have:=Od (i::p) q u h;simp only[gi,Ty.off] at this⊢;omega
 |_=>
  intro p q u h;cases p with
  |nil=>simp only[Ty.at_,az] at h;subst h;simp [Ty.off]
  |cons i p=>simp [Ty.at_] at h
theorem SU:∀(t:Ty) (p q:List Nat) (u:Ty),t.at_ p=some u->t.nb p->u.nb q->t.nb (p++q):=by
 intro t
 induction t with
 |arr n t ih=>
  intro p q u h hp hq;cases p with
  |nil=>simp only[Ty.at_,az] at h;subst h;exact hq
  |cons i p=>exact⟨hp.1,ih p q u h hp.2 hq⟩
 |pair x y Oc Od=>
  intro p q u h hp hq;cases p with
  |nil=>simp only[Ty.at_,az] at h;subst h;exact hq
  |cons i p=>
   cases i with
   |zero=>exact Oc p q u h hp hq
   |succ i=>exact Od (i::p) q u h hp hq
 |_=>
  intro p q u h hp hq;cases p with
  |nil=>simp only[Ty.at_,az] at h;subst h;exact hq
  |cons i p=>simp [Ty.at_] at h
theorem getD_some{α:Type}{xs:List α}{i:Nat}(d:α)(h:i<xs.length):xs[i]? =some (xs.getD i d):=by simp [aq,au h]
theorem T6{X:bZ}:∀{t:Ty} {p:List Nat} {x:El t} {cs:List Value} {u:Ty} {y:El u},eC X t x cs->t.nb p->El.get t p x=some ⟨u,y⟩->
 t.at_ p=some u/\t.off p+u.cells<=t.cells/\eC X u y ((cs.drop (t.off p)).take u.cells):=by
 intro t
 induction t with
 |arr n t ih=>
  intro p x cs u y hr hp h;cases p with
  |nil=>simp only[El.get,az,dY] at h;obtain⟨rfl,h⟩:=h;cases h;refine⟨rfl,by simp [Ty.off],?_⟩;have:=hr.len;simp only[Ty.off,aO];rw[<-this,cC];exact hr
  |cons i p=>obtain⟨hi,hp⟩:=hp;obtain⟨h1,h2,h3⟩:=hr;simp only[El.get] at h;obtain⟨k1,k2,k3⟩:=ih (h3 i _ (getD_some (El.gA t) (by omega))) hp h;have hn:(i+1)*t.cells<=n*t.cells:=bp _ hi;rw[bK,cm] at hn;refine⟨k1,by simp only[Ty.off,Ty.cells];omega,?_⟩;simp only[Ty.off];rw[ld,lf,fT,bL (by omega)] at k3;exact k3
 |pair ta tb ug uh=>
  intro p x cs u y hr hp h;cases p with
  |nil=>simp only[El.get,az,dY] at h;obtain⟨rfl,h⟩:=h;cases h;refine⟨rfl,by simp [Ty.off],?_⟩;have:=hr.len;simp only[Ty.off,aO];rw[<-this,cC];exact hr
  |cons i p=>
   obtain⟨c1,c2,rfl,r1,r2⟩:=hr;have l1:=r1.len;have l2:=r2.len;cases i with
   |zero=>obtain⟨k1,k2,k3⟩:=ug r1 hp h;refine⟨k1,by simp only[Ty.off,Ty.cells];omega,?_⟩;simp only[Ty.off];rw[du (by omega),ea (by rw[bW];omega)];exact k3
   |succ i=>obtain⟨k1,k2,k3⟩:=uh r2 hp h;refine⟨k1,by simp only[Ty.off,Ty.cells];omega,?_⟩;simp only[Ty.off];rw[<-fT,<-l1,fU];exact k3
 |_=>
  intro p x cs u y hr hp h;cases p with
  |nil=>simp only[El.get,az,dY] at h;obtain⟨rfl,h⟩:=h;cases h;refine⟨rfl,by simp [Ty.off],?_⟩;have:=hr.len;simp only[Ty.off,aO];rw[<-this,cC];exact hr
  |cons i p=>simp [El.get] at h
theorem T4:∀(fl:List Field) (t:Ty) (off j:Nat) (ft:Ty),qO E fl t off->t.lF=true->t.at_ [j]=some ft->∃f,fl[j]? =some f/\f.offset=off+t.off [j]/\E.ty f.type=some ft/\t.nb [j]:=by
 intro fl
 induction fl with
 |nil=>intro t off j ft hf hp h;cases t<;>simp [qO,Ty.lF] at hf hp
 |cons f fl ih=>
  intro t off j ft hf hp h;cases t<;>simp only[qO] at hf<;>try exact hf.elim
  rename_i ta tb;obtain⟨h1,h2,h3,h4⟩:=hf;cases j with
  |zero=>simp only[Ty.at_,az] at h;subst h;exact⟨f,rfl,by simp [Ty.off,h1],h2,by simp [Ty.nb]⟩
  |succ j=>
   simp only[Ty.at_] at h;cases htb:tb.lF with
   |true=>obtain⟨g,g1,g2,g3,g4⟩:=ih tb (off+ta.cells) j ft h4 htb h;exact⟨g,g1,by simp only[Ty.off];omega,g3,g4⟩
   |false=>
    cases fl with
    |nil=>cases tb<;>simp [qO,Ty.at_] at h4 h
    |cons g fl=>cases tb<;>simp [qO,Ty.lF] at h4 htb
theorem VJ(hE:bN P E){T:TypeId}{t:Ty}(ht:E.ty T=some t)(hp:t.lF=true):∃fs,P.underlying T=some (.struct fs)/\qO E fs.toList t 0:=by have hu:=(hE.ty T t ht).lU;cases t<;>simp [Ty.lF] at hp;obtain⟨fs,h1,h2,_⟩:=hu;exact⟨fs,h1,h2⟩
theorem z6u(hE:bN P E){f:Field}{ft:Ty}(hf:E.ty f.type=some ft)(hc:ft.cells≠0)(ad:Addr)(w:World):(fieldPlace ad f).run P w= .ok (ad.add f.offset) w:=by simp [fieldPlace,tJ hE hf,hc]
theorem UC:∀(t:Ty) (p:List Nat) (x:El t) (u:Ty) (y:El u),El.get t p x=some ⟨u,y⟩->t.at_ p=some u:=by
 intro t
 induction t with
 |arr n t ih=>
  intro p x u y h;cases p with
  |nil=>simp only[El.get,az,dY] at h;rw[Ty.at_,h.1]
  |cons i p=>exact ih p _ u y h
 |pair a b ug uh=>
  intro p x u y h;cases p with
  |nil=>simp only[El.get,az,dY] at h;rw[Ty.at_,h.1]
  |cons i p=>
   cases i with
   |zero=>exact ug p _ u y h
   |succ i=>exact uh (i::p) _ u y h
 |_=>
  intro p x u y h;cases p with
  |nil=>simp only[El.get,az,dY] at h;rw[Ty.at_,h.1]
  |cons i p=>simp [El.get] at h
theorem acX(hE:bN P E)(hr:Rel tq X s a){T:TypeId}{x:Operand}{j:Nat}{ta tb:Ty}(ho:o.op= .fieldAddr T x j)(hg:E.gr T=some (ta,tb))(h:Ly (s.cM x) j ta tb some=some u):cN P tq X s a o u:=by
 have hx:=hr.cM x;unfold Ly at h;split at h
 case h_2=>cases h
 rename_i id c d e;rw[e] at hx;obtain⟨r,hb,hv,_⟩:=hx;split at h
 case isFalse=>cases h
 rename_i hcd;rw[ar] at hcd;have:=Ty.cS hcd.1;subst this;cases hj:bC j 2 with
 |false=>rw[hj] at h;cases h
 |true=>
  rw[hj] at h;cases h;have hj:=b7 hj;obtain⟨fs,hu,hf⟩:=hE.gr T _ _ hg;obtain⟨f,i,g1,g2,g3,g4⟩:=hf j hj;refine cN.plain hr (v:= .pointer (some ⟨r,u6 c [j],none⟩)) ?_ ⟨r,hb,rfl,?_⟩ (λdP t' p' e'=> ?_)
  ·have hp:∀(ad:Addr) (w:World),(fieldPlace ad f).run P w= .ok (ad.add f.offset) w:=λad w=>by simp [fieldPlace,sizeOf,typeInfo,g3,g4]
   simp only[execOp,ho,ax,jX,run_underlying hu,al,g1,hv,Instr.sureAddr,aD,hp];rw[qc,g2];simp [u6]
  ·match j,hj with
   |0,_=>simp [gIn,Ty.nb]
   |1,_=>trivial
   |2,_=>trivial
  ·injection e' with e1 e2 e3
   subst e1;exact Az hr e
theorem acw(hE:bN P E)(hr:Rel tq X s a){T:TypeId}{x:Operand}{j:Nat}{u0:Ty}{id:Nat}{t:Ty}{p:List Nat}(ho:o.op= .fieldAddr T x j)(hT:E.ty T=some u0)(e:s.cM x= .ptr id t p)(h:Li u0 id t p j some=some u):cN P tq X s a o u:=by
 have hx:=hr.cM x;rw[e] at hx;obtain⟨r,hb,hx⟩:=hx;unfold Li at h;split at h
 case h_2=>cases h
 rename_i ta tb q;obtain⟨hv,lS⟩:=hx;have hv:a.eval x= .pointer (some ⟨r,ta.off q,none⟩):=hv;have lS:ta.nb q:=lS;split at h
 case h_2=>cases h
 rename_i u'' iq;split at h
 case isFalse=>cases h
 rename_i qz;rw[ar] at qz;obtain⟨heq,nz⟩:=qz;have:=Ty.cS heq;subst this;split at h
 case h_2=>cases h
 rename_i ft Kw;split at h
 ·cases h
 rename_i mB;cases h;have hc:ft.cells≠0:=λe=>mB (by rw[e];rfl);obtain⟨fs,pU,qk⟩:=VJ hE hT nz;obtain⟨f,g1,g2,g3,g4⟩:=T4 fs.toList u0 0 j ft qk nz Kw;refine cN.plain hr (v:= .pointer (some ⟨r,ta.off (q++ [j]),none⟩)) ?_ ⟨r,hb,rfl,SU ta q [j] u0 iq lS g4⟩ (λdP t' p' e'=> ?_)
 ·have pr:fs[j]? =some f:=by rw[<-bn];exact g1
  simp only[execOp,ho,ax,jX,run_underlying pU,al,pr,hv,Instr.sureAddr,aD,z6u hE g3 hc];rw[qc,KU ta q [j] u0 iq,g2,bJ]
 ·injection e' with e1 e2 e3
  subst e1;exact Az hr e
theorem zz6(hE:bN P E)(hr:Rel tq X s a){ops:List Oper}{T:TypeId}{x:Operand}{j:Nat}(ho:o.op= .fieldAddr T x j){C:FuncId->gE Out}(h:act E C ops o s some=some u):cN P tq X s a o u:=by
 unfold act at h;simp only[ho] at h;have hx:=hr.cM x;split at h
 ·rename_i ta tb hg;exact acX hE hr ho hg h
 unfold UB at h;split at h
 ·rename_i t u' id root p hT e;rw[e] at hx;obtain⟨r,hb,hx⟩:=hx;split at h
  ·exact acw hE hr ho hT e h
  rename_i mQ;have mQ:root.fA=false:=by simpa using mQ
  obtain⟨hv,lS⟩:=(yq mQ).1 hx;split at h
  case h_2=>cases h
  rename_i u'' iq;split at h
  case isFalse=>cases h
  rename_i qz;rw[ar] at qz;obtain⟨heq,nz⟩:=qz;have:=Ty.cS heq;subst this;split at h
  case h_2=>cases h
  rename_i ft Kw;split at h
  ·cases h
  rename_i mB;cases h;have hc:ft.cells≠0:=λe=>mB (by rw[e];rfl);obtain⟨fs,pU,qk⟩:=VJ hE hT nz;obtain⟨f,g1,g2,g3,g4⟩:=T4 fs.toList u' 0 j ft qk nz Kw;refine cN.plain hr (v:= .pointer (some ⟨r,root.off (p++ [j]),none⟩)) ?_ ⟨r,hb,(yq mQ).2 ⟨rfl,SU root p [j] u' iq lS g4⟩⟩ (λdP t' p' e'=> ?_)
  ·have pr:fs[j]? =some f:=by rw[<-bn];exact g1
   simp only[execOp,ho,ax,jX,run_underlying pU,al,pr,hv,Instr.sureAddr,aD,z6u hE g3 hc];rw[qc,KU root p [j] u' iq,g2,bJ]
  ·injection e' with e1 e2 e3
   subst e1;exact Az hr e
 ·rename_i t u' root y hT e;rw[e] at hx;obtain⟨ad,cs,hv,ux,cY,mR⟩:=hx;split at h
  case isFalse=>cases h
  rename_i qz;rw[ar] at qz;obtain⟨heq,nz⟩:=qz;have:=Ty.cS heq;subst this;split at h
  case h_2=>cases h
  rename_i ft z Kw;split at h
  ·cases h
  rename_i mB;cases h;have hc:ft.cells≠0:=λe=>mB (by rw[e];rfl);obtain⟨fs,pU,qk⟩:=VJ hE hT nz;have iq:u'.at_ [j]=some ft:=UC u' [j] y ft z Kw;obtain⟨f,g1,g2,g3,g4⟩:=T4 fs.toList u' 0 j ft qk nz iq;obtain⟨k1,k2,k3⟩:=T6 cY g4 Kw;refine cN.plain hr (v:= .pointer (some (ad.add (u'.off [j])))) ?_ ⟨ad.add (u'.off [j]),_,rfl,G8 ux _,k3,λi v hi=> ?_⟩ (λdP t' p' e'=>by cases e')
  ·have pr:fs[j]? =some f:=by rw[<-bn];exact g1
   simp only[execOp,ho,ax,jX,run_underlying pU,al,pr,hv,Instr.sureAddr,aD,z6u hE g3 hc];rw[g2,bJ]
  ·rw[TZ _ ux];refine mR _ v ?_;rw[bj] at hi;split at hi
   ·rw[bI] at hi;exact hi
   ·cases hi
 ·cases h
end Go.Ref

namespace Go.Ref
open Go
variable {P:Program} {tq:n4} {E:Env} {X:bZ} {s:State} {a:Act} {o:Oper} {u:Out}
theorem CT{R:Type}{i:Int}{n:Nat}{x:ae R}{z:R}(h:zd i n x=some z):0<=i/\i<(n:Int)/\x=some z:=by
 unfold zd at h;cases h1:decide (0<=i)<;>rw[h1] at h
 ·cases h
 ·cases h2:decide (i<(n:Int))<;>rw[h2] at h
  ·cases h
  ·exact⟨of_decide_eq_true h1,of_decide_eq_true h2,h⟩
theorem zua{e:TypeId}{t:Ty}{xs:List (El t)}{cs:List Value}(h:eC X (.sl e t) xs cs):∃A c,mH (.sl e t) cs= .slice A xs.length c/\xs.length<=c/\
 ∀(j:Nat) x,xs[j]? =some x->∃ad m8,A=some ad/\ad.spot=none/\eC X t x m8/\∀(i:Nat) v,m8[i]? =some v->X.cf (ad.add (j*t.cells+i)) v:=by
 obtain⟨A,c,rfl,h1,h2⟩:=h;exact⟨A,c,rfl,h1,h2⟩
theorem eC.EE{e:TypeId}{t:Ty}{xs:List (El t)}{A:ae Addr}{n c:Nat}(hn:xs.length=n)(h1:n<=c)(h2:∀(j:Nat) x,xs[j]? =some x->∃ad m8,A=some ad/\ad.spot=none/\eC X t x m8/\∀(i:Nat) v,m8[i]? =some v->X.cf (ad.add (j*t.cells+i)) v):eC X (.sl e t) xs [.slice A n c]:=by subst hn;exact⟨A,c,rfl,h1,h2⟩
theorem zpp{R:Type}{s:SV}{K:Int->ae R}{z:R}(h:s.num K=some z):∃n k,K n=some z/\∀(X:bZ) pl v,cq X pl s v->v= .int k n:=by
 unfold SV.num at h;split at h
 ·rename_i k n w;refine⟨n,k,h,λX pl v hv=> ?_⟩;obtain⟨cs,h1,h2,_⟩:=hv;rw[h2,tK h1]
 ·cases h
theorem z154(hE:bN P E)(hr:Rel tq X s a){T:TypeId}{x i:Operand}{m:Nat}{t:Ty}{n:Int}{ik:IntKind}{id:Nat}{root:Ty}{p:List Nat}(ho:o.op= .indexAddr T x i)(ei:a.eval i= .int ik n)(hT:E.ty T=some (.arr m t))(mj:s.cM x= .ptr id root p)(hx:cq X (EA x) (.ptr id root p) (a.eval x))(h:Ll m t n id root p some=some u):cN P tq X s a o u:=by
 obtain⟨r,hb,hx⟩:=hx;unfold Ll at h;split at h
 case h_2=>cases h
 rename_i ta tb q;obtain⟨hv,lS⟩:=hx;have hv:a.eval x= .pointer (some ⟨r,ta.off q,none⟩):=hv;have lS:ta.nb q:=lS;split at h
 case h_2=>cases h
 rename_i u'' iq;split at h
 case isFalse=>cases h
 rename_i heq;have:=Ty.cS heq;subst this;obtain⟨h0,h1,h⟩:=CT h;cases h;obtain⟨e,pU,qk,_⟩:=(hE.ty T _ hT).lU;have bS:n.toNat<m:=by omega
 refine cN.plain hr (v:= .pointer (some ⟨r,ta.off (q++ [n.toNat]),none⟩)) ?_ ⟨r,hb,rfl,SU ta q [n.toNat] _ iq lS ⟨bS,by simp [Ty.nb]⟩⟩ (λdP t' p' e'=> ?_)
 ·simp only[execOp,ho,ax,gl,ei,hv,asIntOf,aD,al,run_underlying pU,Instr.sureAddr,iv,h0,h1,and_self,if_true,tJ hE qk];rw[qc,KU ta q [n.toNat] _ iq];simp [Ty.off]
 ·injection e' with e1 e2 e3
  subst e1;exact Az hr mj
theorem zz7(hE:bN P E)(hr:Rel tq X s a){ops:List Oper}{T:TypeId}{x i:Operand}(ho:o.op= .indexAddr T x i){C:FuncId->gE Out}(h:act E C ops o s some=some u):cN P tq X s a o u:=by
 unfold act at h;simp only[ho] at h;have hx:=hr.cM x;have hi:=hr.cM i;unfold UD at h;obtain⟨n,ik,h,hn⟩:=zpp h;have ei:=hn X _ _ hi;split at h
 ·rename_i e t t' xs w hT mj;rw[mj] at hx;obtain⟨ys,h,B5⟩:=zy h;obtain⟨h0,h1,h⟩:=CT h;cases h;obtain⟨cs,tF,ev⟩:=B5 X (EA x) _ hx.bare;obtain⟨A,c,hm,hle,n5⟩:=zua tF;rw[hm] at ev;have bS:n.toNat<ag ys:=by omega
  obtain⟨ad,m8,rfl,ux,cY,mR⟩:=n5 n.toNat _ (getD_some (El.gA t) bS);have hu:=(hE.ty T _ hT).lU;refine cN.plain hr (v:= .pointer (some (ad.add (n.toNat*t.cells)))) ?_ ⟨ad.add (n.toNat*t.cells),m8,rfl,G8 ux _,cY,λj v hj=> ?_⟩ (λ_ _ _ e'=>by cases e')
  ·simp only[execOp,ho,ax,gl,ei,ev,asIntOf,aD,al,run_underlying hu.1,iv,h0,h1,and_self,if_true,tJ hE hu.2]
  ·rw[TZ _ ux];exact mR j v hj
 ·rename_i m t id root p hT mj;rw[mj] at hx;obtain⟨r,hb,hx⟩:=hx;split at h
  ·exact z154 hE hr ho ei hT mj ⟨r,hb,hx⟩ h
  rename_i mQ;have mQ:root.fA=false:=by simpa using mQ
  obtain⟨hv,lS⟩:=(yq mQ).1 hx;split at h
  case h_2=>cases h
  rename_i u'' iq;split at h
  case isFalse=>cases h
  rename_i heq;have:=Ty.cS heq;subst this;obtain⟨h0,h1,h⟩:=CT h;cases h;obtain⟨e,pU,qk,_⟩:=(hE.ty T _ hT).lU;have bS:n.toNat<m:=by omega
  refine cN.plain hr (v:= .pointer (some ⟨r,root.off (p++ [n.toNat]),none⟩)) ?_ ⟨r,hb,(yq mQ).2 ⟨rfl,SU root p [n.toNat] _ iq lS ⟨bS,by simp [Ty.nb]⟩⟩⟩ (λdP t' p' e'=> ?_)
  ·simp only[execOp,ho,ax,gl,ei,hv,asIntOf,aD,al,run_underlying pU,Instr.sureAddr,iv,h0,h1,and_self,if_true,tJ hE qk];rw[qc,KU root p [n.toNat] _ iq];simp [Ty.off]
  ·injection e' with e1 e2 e3
   subst e1;exact Az hr mj
 ·rename_i m t t' xs hT mj;rw[mj] at hx;obtain⟨ad,cs,hv,ux,cY,mR⟩:=hx;simp only[SV.el] at h;split at h
  case isFalse=>cases h
  rename_i heq;have:=Ty.cS heq;subst this;obtain⟨h0,h1,h⟩:=CT h;cases h;obtain⟨e,pU,qk,_⟩:=(hE.ty T _ hT).lU;obtain⟨l1,l2,l3⟩:=cY;have bS:n.toNat<m:=by omega
  have Ky:=l3 n.toNat _ (getD_some (El.gA t) (by omega));refine cN.plain hr (v:= .pointer (some (ad.add (n.toNat*t.cells)))) ?_ ⟨ad.add (n.toNat*t.cells),_,rfl,G8 ux _,Ky,λj v hj=> ?_⟩ (λ_ _ _ e'=>by cases e')
  ·simp only[execOp,ho,ax,gl,ei,hv,asIntOf,aD,al,run_underlying pU,Instr.sureAddr,iv,h0,h1,and_self,if_true,tJ hE qk]
  ·rw[TZ _ ux];refine mR _ v ?_;rw[bj] at hj;split at hj
   ·rw[bI] at hj;exact hj
   ·cases hj
 ·rename_i e0 t id r p hT mj;rw[mj] at hx;unfold Td at h;split at h
  case h_2=>cases h
  rename_i m ta tb;split at h
  case isFalse=>cases h
  rename_i heq;have:=Ty.cS heq;subst this;obtain⟨h0,h1,h⟩:=CT h;cases h;obtain⟨r0,hb,cap,hv,ve⟩:=hx;have hu:=(hE.ty T _ hT).lU;refine cN.plain hr (v:= .pointer (some ⟨r0,n.toNat*ta.cells,none⟩)) ?_ ⟨r0,hb,rfl⟩ (λdP t' p' e'=> ?_)
  ·simp only[execOp,ho,ax,gl,ei,hv,asIntOf,aD,al,run_underlying hu.1,iv,h0,h1,and_self,if_true,tJ hE hu.2];rw[qc,bJ]
  ·injection e' with e1 e2 e3
   subst e1;exact Az hr mj
 ·rename_i id ta tb hT mj;rw[mj] at hx;obtain⟨r0,hb,hv,_⟩:=hx;split at h
  case isFalse=>cases h
  rename_i hga;obtain⟨h0,h1,h⟩:=CT h;cases h;obtain⟨e,i',hu,D9,lV⟩:=hE.ga T hga;have bS:n.toNat<2:=by omega
  refine cN.plain hr (v:= .pointer (some ⟨r0,u6 ta [1,n.toNat],none⟩)) ?_ ⟨r0,hb,rfl,bS⟩ (λdP t' p' e'=> ?_)
  ·have oC:(sizeOf e).run P X.w= .ok 1 X.w:=by simp [sizeOf,typeInfo,D9,lV]
   have h1':n<((2:Nat):Int):=h1;simp only[execOp,ho,ax,gl,ei,hv,asIntOf,aD,al,run_underlying hu,Instr.sureAddr,iv,h0,h1',and_self,if_true,oC];rw[qc,Nat.mul_one];rfl
  ·injection e' with e1 e2 e3
   subst e1;exact Az hr mj
 ·cases h
theorem Hh{pl:List Nat->Place}{t:Ty}{x:El t}{cs:List Value}(h:eC X t x cs):cq X pl (.b8 t x []) (mH t cs):=⟨cs,h,rfl,uB⟩
theorem adP(hE:bN P E)(hr:Rel tq X s a){ops:List Oper}{T:TypeId}{x i:Operand}(ho:o.op= .index T x i){C:FuncId->gE Out}(h:act E C ops o s some=some u):cN P tq X s a o u:=by
 unfold act at h;simp only[ho] at h;have hx:=hr.cM x;have hi:=hr.cM i;unfold UE at h;obtain⟨n,ik,h,hn⟩:=zpp h;have ei:=hn X _ _ hi;split at h
 ·rename_i hT;obtain⟨st,h,gv⟩:=zy h;obtain⟨h0,h1,h⟩:=CT h;cases h;obtain⟨cs,OC,ev⟩:=gv X _ _ hx;rw[z28 OC] at ev;have hu:=(hE.ty T _ hT).lU;have bS:n.toNat<st.size:=by omega
  refine cN.plain hr (v:= .int .u8 (ze st n.toNat)) ?_ qN (λ_ _ _ e'=>by cases e');have jx:st[n.toNat]? =some (st[n.toNat]'bS):=getElem?_pos st n.toNat bS;simp only[execOp,ho,ax,Instr.index,ei,ev,asIntOf,aD,al,run_underlying hu,h0,if_true,jx];simp [ze,bS]
 ·rename_i m t hT;obtain⟨ys,h,B5⟩:=zy h;obtain⟨h0,h1,h⟩:=CT h;cases h;obtain⟨cs,tF,ev⟩:=B5 X _ _ hx;rw[rj rfl] at ev;obtain⟨e,pU,qk,_⟩:=(hE.ty T _ hT).lU;obtain⟨l1,l2,l3⟩:=tF;have bS:n.toNat<m:=by omega
  have Ky:=l3 n.toNat _ (getD_some (El.gA t) (by omega));refine cN.plain hr ?_ (Hh Ky) (λ_ _ _ e'=>by cases e');have hp:=JH hE qk Ky (all:=cs.toArray) (off:=n.toNat*t.cells) rfl X.w;simp only[execOp,ho,ax,Instr.index,ei,ev,asIntOf,aD,al,run_underlying pU,h0,h1,and_self,if_true,tJ hE qk,hp]
 ·cases h
theorem adO(hE:bN P E)(hr:Rel tq X s a){ops:List Oper}{T:TypeId}{x:Operand}{j:Nat}(ho:o.op= .field T x j){C:FuncId->gE Out}(h:act E C ops o s some=some u):cN P tq X s a o u:=by
 unfold act at h;simp only[ho] at h;have hx:=hr.cM x;split at h
 case h_2=>cases h
 rename_i t hT;split at h
 ·cases h
 rename_i nz;have nz:t.lF=true:=by simpa using nz
 obtain⟨y,h,hy⟩:=zy h;split at h
 case h_2=>cases h
 rename_i ft z hg;cases h;obtain⟨cs,rep,ev⟩:=hy X _ _ hx;have zG:t.agg=true:=by cases t<;>simp_all [Ty.lF,Ty.agg]
 rw[rj zG] at ev;obtain⟨fs,pU,qk⟩:=VJ hE hT nz;obtain⟨f,g1,g2,g3,lS⟩:=T4 fs.toList t 0 j ft qk nz (UC t [j] y ft z hg);obtain⟨k1,k2,k3⟩:=T6 rep lS hg;have pr:fs[j]? =some f:=by rw[<-bn];exact g1
 refine cN.plain hr ?_ (Hh k3) (λ_ _ _ e'=>by cases e');have hp:=JH hE g3 k3 (all:=cs.toArray) (off:=f.offset) (by rw[g2,bJ]) X.w;simp only[execOp,ho,ax,Instr.field,run_underlying pU,al,pr,ev,asAgg,aD,hp]
theorem aj0(hE:bN P E)(hr:Rel tq X s a){ops:List Oper}{x:Operand}{T:TypeId}{mA:Array Operand}{ts:Array TypeId}(ho:o.op= .call ⟨.builtin .len,mA,ts⟩){C:FuncId->gE Out}(h:act E C ops o s some=some u):cN P tq X s a o u:=by
 unfold act at h;simp only[ho] at h;split at h
 case h_2=>cases h
 rename_i x T Ao HJ;have has:mA= #[x]:=by rw[<-bT (xs:=mA),Ao]
 have sF:ts= #[T]:=by rw[<-bT (xs:=ts),HJ]
 subst has sF;have hx:=hr.cM x;unfold Cb at h;split at h
 ·rename_i hT;obtain⟨st,h,gv⟩:=zy h;cases h;obtain⟨cs,OC,ev⟩:=gv X _ _ hx;rw[z28 OC] at ev;have hu:=(hE.ty T _ hT).lU;refine cN.plain hr (v:= .int .i64 st.size) ?_ qN (λ_ _ _ e'=>by cases e');simp [execOp,ho,resolve,invoke,builtin,km,ev,run_underlying hu,goInt]
 ·rename_i e t hT;have hu:=(hE.ty T _ hT).lU;split at h
  ·rename_i id n ta tb mj;cases h;rw[mj] at hx;obtain⟨r0,hb,cap,ev,ve⟩:=hx;refine cN.plain hr (v:= .int .i64 n) ?_ qN (λ_ _ _ e'=>by cases e');simp [execOp,ho,resolve,invoke,builtin,km,ev,run_underlying hu.1,goInt]
  ·obtain⟨xs,h,aaI⟩:=zy h;cases h;obtain⟨cs,Ij,ev⟩:=aaI X _ _ hx;obtain⟨A,c,hm,_,_⟩:=zua Ij;rw[hm] at ev;refine cN.plain hr (v:= .int .i64 (ag xs)) ?_ qN (λ_ _ _ e'=>by cases e');simp [execOp,ho,resolve,invoke,builtin,km,ev,run_underlying hu.1,goInt]
 ·rename_i n t hT;cases h;obtain⟨e,pU,qk,_⟩:=(hE.ty T _ hT).lU;refine cN.plain hr (v:= .int .i64 n) ?_ qN (λ_ _ _ e'=>by cases e');simp [execOp,ho,resolve,invoke,builtin,km,run_underlying pU,goInt]
 ·cases h
theorem OZ(hr:Rel tq X s a){ops:List Oper}{g:Bool}{mA:Array Operand}{ts:Array TypeId}(ho:o.op= .call ⟨.builtin (if g then .max else .min),mA,ts⟩){C:FuncId->gE Out}(h:act E C ops o s some=some u):cN P tq X s a o u:=by
 have key:∀x y,mA= #[x,y]->si g (s.cM x) (s.cM y) some=some u->cN P tq X s a o u:=by
  intro x y has h;subst has;have hx:=hr.cM x;have hy:=hr.cM y;unfold si at h;split at h
  case h_2=>cases h
  rename_i k m _ k' n _ e1 e2;rw[e1] at hx;rw[e2] at hy;have vx:=GZ hx;have vy:=GZ hy;cases h;refine cN.plain hr (v:= .int k (bif g then(if(m:Int)<n then n else m) else(if(n:Int)<m then n else m))) ?_ qN (λ_ _ _ e'=>by cases e');cases g
  ·simp [execOp,ho,resolve,invoke,builtin,Builtin.min_,Builtin.min2,vx,vy]
  ·simp [execOp,ho,resolve,invoke,builtin,Builtin.max_,Builtin.max2,vx,vy]
 unfold act at h;cases g with
 |true=>
  simp only[ho,if_true] at h;split at h
  ·rename_i x y e;exact key x y (by rw[<-bT (xs:=mA),e]) h
  ·cases h
 |false=>
  simp only[ho,cI,if_false] at h;split at h
  ·rename_i x y e;exact key x y (by rw[<-bT (xs:=mA),e]) h
  ·cases h
theorem amA(hr:Rel tq X s a){ops:List Oper}{op:UnOp}{T:TypeId}{x:Operand}(ho:o.op= .unOp op T x){C:FuncId->gE Out}(h:act E C ops o s some=some u):cN P tq X s a o u:=by
 unfold act at h;simp only[ho] at h;have hx:=hr.cM x;unfold OL at h;split at h
 ·rename_i b w e;rw[e] at hx;cases h;refine cN.plain hr (v:= .bool (!b)) ?_ vI (λ_ _ _ e'=>by cases e');simp [execOp,ho,SK hx,Op.unary]
 ·rename_i k n w e;rw[e] at hx;cases h;refine cN.plain hr (v:= .int k (k.wrap (0-n))) ?_ qN (λ_ _ _ e'=>by cases e');simp [execOp,ho,GZ hx,Op.unary,kS]
 ·cases h
theorem ab8(hr:Rel tq X s a){ops:List Oper}{x:Operand}(ho:o.op= .nilCheck x){C:FuncId->gE Out}(h:act E C ops o s some=some u):cN P tq X s a o u:=by
 unfold act at h;simp only[ho] at h;have hx:=hr.cM x;split at h
 ·rename_i id t p e;rw[e] at hx;split at h
  ·cases h
  rename_i mQ;have mQ:(t.fA&& !t.nf)=false:=by simpa using mQ
  cases h;obtain⟨r,h1,hx⟩:=hx;obtain⟨ad,h2⟩:=PF mQ hx;refine cN.plain hr (v:= .pointer (some ad)) ?_ ⟨r,h1,h2▸hx⟩ (λdP t' p' e'=> ?_)
  ·simp [execOp,ho,h2]
  ·injection e' with e1 e2 e3
   subst e1;exact Az hr e
 ·rename_i t y e;rw[e] at hx;cases h;obtain⟨ad,cs,h1,h2⟩:=hx;refine cN.plain hr (v:= .pointer (some ad)) ?_ ⟨ad,cs,rfl,h2⟩ (λ_ _ _ e'=>by cases e');simp [execOp,ho,h1]
 ·cases h
theorem z152(hr:Rel tq X s a){ops:List Oper}{x:Operand}{j:Nat}(ho:o.op= .extract x j){C:FuncId->gE Out}(h:act E C ops o s some=some u):cN P tq X s a o u:=by
 unfold act at h;simp only[ho] at h;split at h
 case h_2=>cases h
 rename_i t;have hs:=hr.slot t;split at h
 ·rename_i hlen;split at h
  case h_2=>cases h
  rename_i BT;cases h;have U3:=hr.cM (.tmp t);rw[show s.cM (.tmp t)=SV.over from BT] at U3;have U3:a.eval (.tmp t)= .tuple #[.bool false]:=U3;refine cN.plain hr (v:= .bool false) ?_ vI (λ_ _ _ e'=>by cases e');simp [execOp,ho,U3,Instr.extract]
 rename_i hlen;have Gm:(s.slot t).length≠1:=λe=>hlen (by rw[e];rfl);have H9:∃vs:Array Value,a.tmps.getD t aT= .tuple vs/\vs.size=(s.slot t).length/\∀(j:Nat) sv v,(s.slot t)[j]? =some sv->vs[j]? =some v->cq X (.c t j) sv v:=by
  match hm:s.slot t with
  | [sv]=>rw[hm] at Gm;exact absurd rfl Gm
  | []=>rw[hm] at hs;exact hs
  |_::_::_=>rw[hm] at hs;exact hs
 obtain⟨vs,h1,h2,h3⟩:=H9;have dD:∀v,vs[j]? =some v->(execOp a.eval o).run P X.w= .ok (.value v) X.w:=by intro v hv;simp only[execOp,ho,Act.eval,h1,ax,Instr.extract,hv,aD,al]
 have hv:∀sv,(s.slot t)[j]? =some sv->∃v,vs[j]? =some v:=by intro sv rl;have:=(aC.1 rl).1;exact⟨_,bf (by omega)⟩
 split at h
 ·rename_i ut y w e;cases h;obtain⟨v,hv⟩:=hv _ e;cases w with
  |nil=>exact cN.plain hr (dD v hv) (h3 j _ v e hv).bare (λ_ _ _ h=>by cases h)
  |cons p w=>exact cN.GI hr (dD v hv) (h3 j _ v e hv)
 ·cases h
 ·cases h
 ·rename_i sv h4 h5 h6 e;cases h;obtain⟨v,hv⟩:=hv _ e;have n6:Plain sv:=by
   cases sv with
   |b8 ut y w=>exact(h4 ut y w rfl).elim
   |eU id c b n=>first|exact(h5 id c b n rfl).elim|exact(h6 id c b n rfl).elim
   |_=>trivial
  refine cN.plain hr (dD v hv) ((h3 j _ v e hv).place n6) (λid ty p e'=> ?_) n6.wP
  ·by_cases bS:t<s.sl.length
   ·refine hr.live t _ id ty p (yw bS) ?_;rw[<-e'];exact aN e
   ·have:s.slot t=[.undef]:=by simp [State.slot,aQ (eE bS)]
    rw[this] at Gm;exact absurd rfl Gm
 ·cases h
end Go.Ref

namespace Go.Ref
open Go
variable {P:Program} {tq:n4} {E:Env} {X:bZ} {s:State} {a:Act} {o:Oper} {u:Out}
def vY(v:ae SV)(n:Nat)(d:Nat):Prop:=match v with
 |none=>n=d
 |some v=>∀(X:bZ) pl val,cq X pl v val->val= .int .i64 (n:Int)
theorem QY{l:Int}{m:Nat}(h1:0<=l)(h2:l<=(m:Int)):l.toNat<=m:=by omega
theorem zuh{l:Int}(h1:0<=l):((l.toNat:Nat):Int)=l:=by omega
theorem zaj{R:Type}{lo:ae SV}{m:Nat}{G:Nat->ae R}{z:R}(h:EZ lo m G=some z):∃l,G l=some z/\l<=m/\vY lo l 0:=by
 unfold EZ at h;cases lo with
 |none=>exact⟨0,h,bR _,rfl⟩
 |some v=>
  obtain⟨l,h,hl⟩:=zy h;cases h1:decide (0<=l)<;>rw[h1] at h
  ·cases h
  ·cases h2:decide (l<=(m:Int))<;>rw[h2] at h
   ·cases h
   ·have h1:=of_decide_eq_true h1;have h2:=of_decide_eq_true h2;refine⟨l.toNat,h,QY h1 h2,λX pl val hv=> ?_⟩;obtain⟨cs,r,e⟩:=hl X pl val hv;rw[e,tK r,zuh h1]
theorem ztd{R:Type}{lo hi:ae SV}{n:Nat}{F:Nat->Nat->ae R}{z:R}(h:cutAt lo hi n F=some z):∃l m,F l m=some z/\l<=m/\m<=n/\vY lo l 0/\vY hi m n:=by
 unfold cutAt at h;cases hi with
 |none=>obtain⟨l,h1,h2,h3⟩:=zaj h;exact⟨l,n,h1,h2,bg _,h3,rfl⟩
 |some v=>
  obtain⟨m,h,hm⟩:=zy h;cases h1:decide (0<=m)<;>rw[h1] at h
  ·cases h
  ·cases h2:decide (m<=(n:Int))<;>rw[h2] at h
   ·cases h
   ·have h1:=of_decide_eq_true h1;have h2:=of_decide_eq_true h2;have h:EZ lo (Int.toNat m) (λl=>F l (Int.toNat m))=some z:=h;obtain⟨l,g1,g2,g3⟩:=zaj h;refine⟨l,m.toNat,g1,g2,QY h1 h2,g3,λX pl val hv=> ?_⟩;obtain⟨cs,r,e⟩:=hm X pl val hv;rw[e,tK r,zuh h1]
theorem vY.val(hr:Rel tq X s a){x:ae Operand}{n d:Nat}(h:vY (x.map s.cM) n d):(x=none/\n=d)\/x.map a.eval=some (.int .i64 (n:Int)):=by
 cases x with
 |none=>exact .inl ⟨rfl,h⟩
 |some x=>exact .inr (by rw[Option.map_some,h X _ _ (hr.cM x)])
theorem zd3(hr:Rel tq X s a){isS:Bool}{lo hi:ae Operand}{l m n c:Nat}(hl:vY (lo.map s.cM) l 0)(hm:vY (hi.map s.cM) m n)(h1:l<=m)(h2:m<=n)(h3:n<=c)(w:World):
 (fI isS n c (lo.map a.eval) (hi.map a.eval) none).run P w= .ok (l,m,c) w:=by
 have sb:∀(i y:Nat) (code:BoundsCode),i<=y->(Instr.sliceBound (.int .i64 (i:Int)) y code).run P w= .ok i w:=by intro i y code h;rw[run_sliceBound (P:=P) (w:=w) .i64 (i:Int) y code (by omega) (by omega)];simp
 rcases hl.val hr with⟨rfl,rfl⟩|hl<;>rcases hm.val hr with⟨rfl,rfl⟩|hm
 ·simp [fI]
 ·simp [fI,hm,sb m c _ (by omega)]
 ·simp [fI,hl,sb l m _ h1]
 ·simp [fI,hl,hm,sb l m _ h1,sb m c _ (by omega)]
theorem agA(hE:bN P E)(hr:Rel tq X s a){T:TypeId}{x:Operand}{lo hi:ae Operand}(ho:o.op= .slice T x lo hi none)(h:yZ E T (s.cM x) (lo.map s.cM) (hi.map s.cM) some=some u):cN P tq X s a o u:=by
 have hx:=hr.cM x;unfold yZ at h;split at h
 ·rename_i hT;obtain⟨st,h,gv⟩:=zy h;obtain⟨l,m,h,h1,h2,hl,hm⟩:=ztd h;cases h;obtain⟨cs,OC,ev⟩:=gv X _ _ hx;rw[z28 OC] at ev;have hu:=(hE.ty T _ hT).lU;refine cN.plain hr (v:= .string (st.extract l m)) ?_ Ha (λ_ _ _ e'=>by cases e');simp only[execOp,ho,ax,Instr.sliceAt,run_underlying hu,al,Instr.slice,ev,Option.map_none,Option.isSome_none,cI,if_false,zd3 hr hl hm h1 h2 (bg _),aD]
 ·rename_i e t hT;obtain⟨xs,h,Ao⟩:=zy h;obtain⟨l,m,h,h1,h2,hl,hm⟩:=ztd h;cases h;obtain⟨cs,Ij,ev⟩:=Ao X _ _ hx;obtain⟨A,c,pu,hle,n5⟩:=zua Ij;rw[pu] at ev;have hu:=(hE.ty T _ hT).lU;have hlen:((aI m xs).drop l).length=m-l:=by rw[bW,aU,bL h2]
  refine cN.plain hr (v:= .slice (if c=l then A else A.map (·.add (l*t.cells))) (m-l) (c-l)) ?_ ⟨_,eC.EE (A:=if c=l then A else A.map (·.add (l*t.cells))) (n:=m-l) (c:=c-l) hlen (by omega) (λj y hj=> ?_),rfl,uB⟩ (λ_ _ _ e'=>by cases e')
  ·simp only[execOp,ho,ax,Instr.sliceAt,run_underlying hu.1,al,Instr.slice,ev,Option.map_none,zd3 hr hl hm h1 h2 hle,aD,tJ hE hu.2]
  ·have BM:=(aC.1 hj).1;rw[hlen] at BM;have NC:xs[l+j]? =some y:=by rw[bI,bj,if_pos (by omega)] at hj;exact hj
   obtain⟨ad,m8,rfl,ux,cY,mR⟩:=n5 (l+j) y NC;rw[if_neg (by omega)];refine⟨ad.add (l*t.cells),m8,rfl,G8 ux _,cY,λi v hi=> ?_⟩;rw[TZ _ ux,<-lO,<-bK];exact mR i v hi
 ·cases h
theorem adM(hE:bN P E)(hr:Rel tq X s a){S T:TypeId}{x:Operand}(ho:o.op= .convert S T x)(h:tj E S T (s.cM x) some=some u):cN P tq X s a o u:=by
 have hx:=hr.cM x;unfold tj at h;split at h
 ·rename_i k k' hS hT;obtain⟨n,h,hn⟩:=zy h;cases h;obtain⟨cs,rn,ev⟩:=hn X _ _ hx;rw[tK rn] at ev;have hu:=(hE.ty S _ hS).lU;have hv:=(hE.ty T _ hT).lU;refine cN.plain hr (v:= .int k' (k'.wrap n)) ?_ qN (λ_ _ _ e'=>by cases e');simp [execOp,ho,ev,convert,run_underlying hu,run_underlying hv,Conv.intToInt]
 ·rename_i hS hT;obtain⟨st,h,gv⟩:=zy h;cases h;obtain⟨cs,rn,ev⟩:=gv X _ _ hx;rw[z28 rn] at ev;have hu:=(hE.ty S _ hS).lU;have hv:=(hE.ty T _ hT).lU;refine cN.plain hr (v:= .string st) ?_ Ha (λ_ _ _ e'=>by cases e');simp [execOp,ho,ev,convert,run_underlying hu,run_underlying hv]
 ·rename_i e hS hT;obtain⟨xs,h,Ao⟩:=zy h;cases h;obtain⟨cs,Ij,ev⟩:=Ao X _ _ hx;obtain⟨A,c,pu,hle,n5⟩:=zua Ij;rw[pu] at ev;have hu:=(hE.ty S _ hS).lU;have he:=(hE.ty e _ hu.2).lU;have hv:=(hE.ty T _ hT).lU;refine cN.plain hr (v:= .string (strOf xs)) ?_ Ha (λ_ _ _ e'=>by cases e');have key:(convert S T (.slice A (ag xs) c)).run P X.w= .ok (.string (strOf xs)) X.w:=by
   cases A with
   |none=>
    have q7:xs=[]:=by
     cases xs with
     |nil=>rfl
     |cons y ys=>obtain⟨ad,_,h,_⟩:=n5 0 y rfl;cases h
    rw[run_convert_bytes_nil X.w S e hu.1 he _ _ T hv,q7];rfl
   |some ad=>
    rw[run_convert_bytes_string X.w S T e _ _ c hu.1 he hv];have rU:(loadCells ad (ag xs)).run P X.w= .ok (List.map (Value.int .u8) xs).toArray X.w:=by
     have:=run_loadCells_list (P:=P) X.w ad (List.map (Value.int .u8) xs) (λj v hj=>by obtain⟨y,hy,rfl⟩:=aL .. ▸hj|>av.1;obtain⟨ye,m8,h1,ux,cY,mR⟩:=n5 j y hy;cases h1;have hc:m8=[.int .u8 y]:=cY;have:=mR 0 (.int .u8 y) (by rw[hc];rfl);have h2:=this.2.1;simpa [Ty.cells] using h2)
     rw[List.length_map] at this;exact this
    rw[run_bytesToString X.w ad _ c xs rU,foldl_push_bytes];simp [strOf,ByteArray.empty,iR];rfl
  simp only[execOp,ho,ax,ev,key,al,aD]
 ·cases h
def bZ.new(X:bZ)(cs:Array Value)(T:TypeId)(w:Ow)(β:Nat->ae Nat):bZ:={w:=X.w.alloc (.cells cs T),ow:=λg=>if g=X.w.heap.size then w else X.ow g,β}
theorem Te(X:bZ)(s:State)(cs:Array Value)(T:TypeId)(w:Ow)(β:Nat->ae Nat)(hβ0:β 0=X.β 0)(hβ:∀(id:Nat) B,s.bs[id]? =some (some B)->β id=X.β id):nk s X (X.new cs T w β) where
 size:=by simp [bZ.new]
 os:=rfl
 tape:=rfl
 output:=rfl
 uV:=λg hg=>⟨by simp only[bZ.new];rw[if_neg (by omega)],RowKit.Below.heap_alloc _ _ _ hg⟩
 β0:=hβ0
 β:=hβ
theorem S6(X:bZ)(cs:Array Value)(T:TypeId)(w:Ow)(β:Nat->ae Nat):(X.new cs T w β).w.heap[X.w.heap.size]? =some (.cells cs T (0,0))/\(X.new cs T w β).ow X.w.heap.size=w:=⟨heap_alloc_new X.w _,by simp [bZ.new]⟩
theorem SW(T:TypeId)(v:Value)(w:World):(newVar T v).run P w= .ok ⟨w.heap.size,0,none⟩ (w.alloc (.cells v.cells T)):=by simp [newVar,newRow]
theorem Rel.nI{Y:bZ}(hr:Rel tq Y s a){d r:Nat}{B:fc}(hd:d<s.bs.length)(hb:s.bs[d]? =some none)(hβ:Y.β d=some r)(h:ff Y d r B):Rel tq Y (s.cD (some (d,B))) a where
 size:=hr.size
 pc:=by simpa [State.cD] using hr.pc
 gn:=hr.gn
 boxes:=λid B' mW=>by
  simp only[State.cD,ay] at mW;by_cases e:d=id
  ·subst e;rw[if_pos rfl,if_pos hd] at mW;cases mW;exact⟨r,hβ,h⟩
  ·rw[if_neg e] at mW;exact hr.boxes id B' mW
 live:=λi l id t p hi hm=>by
  obtain⟨B',mW⟩:=hr.live i l id t p hi hm;simp only[State.cD,ay];by_cases e:d=id
  ·subst e;rw[hb] at mW;cases mW
  ·rw[if_neg e];exact⟨B',mW⟩
 defers:=hr.defers
 eU:=hr.eU.cD (hr.eU.none λa b x own h=>by rw[hb] at h;cases h)
 j8:=hr.j8
theorem yt{d:Nat}{B:fc}(h:s.box d=some B):s.bs[d]? =some (some B):=by
 unfold State.box at h;rw[aq] at h;cases hg:s.bs[d]? with
 |none=>rw[hg] at h;cases h
 |some x=>rw[hg] at h;simp at h;rw[h]
theorem zzm(hr:Rel tq X s a){x:Operand}{t:Ty}{R:Type}{K:El t->ae R}{z:R}(h:(s.cM x).el t K=some z){c:List (Nat×Nat)}(hc:c=src x\/((s.cM x).own=[]/\c=[])):
 ∃y,K y=some z/\∀q:List Nat->Place,∃Y cs,Y.w=X.w/\Ext X Y/\Rel tq Y (s.close c) a/\eC Y t y cs/\a.eval x=mH t cs/\eI Y q t y cs (s.cM x).own/\Y.β=X.β/\mM (s.close c) X Y/\tT X Y:=by
 have hx:=hr.cM x;cases hs:s.cM x with
 |b8 t' y' w=>
  rw[hs] at hx h hc;simp only[SV.el] at h;split at h
  case isFalse=>cases h
  rename_i heq;have:=Ty.cS heq;subst this;refine⟨y',h,λq=> ?_⟩;have plain:w=[]->∃Y cs,Y.w=X.w/\Ext X Y/\Rel tq Y (s.close c) a/\eC Y t' y' cs/\a.eval x=mH t' cs/\eI Y q t' y' cs (SV.b8 t' y' w).own/\Y.β=X.β/\mM (s.close c) X Y/\tT X Y:=by intro hw;subst hw;obtain⟨cs,h1,h2,_⟩:=hx;exact⟨X,cs,rfl,Ext.refl X,hr.close _,h1,h2,uB,rfl,mM.refl _ _,tT.refl X⟩
  rcases hc with hc|⟨hw,_⟩
  ·cases x with
   |tmp i=>obtain⟨Y,h1,h2,h3,⟨cs,h4,h5,h6⟩,h7,h8,h9⟩:=hr.take hx q;subst hc;exact⟨Y,cs,h1,h2,h3,h4,h5,h6,h7,h8,h9⟩
   |const v=>exact plain (zh9 (show Hf v= .b8 t' y' w from hs))
   |_=>simp [State.cM,State.Eu,one] at hs
  ·exact plain hw
 |jJ=>
  rw[hs] at hx h;cases t<;>simp only[SV.el] at h<;>try(cases h;done)
  rename_i e t;refine⟨[],h,λq=>⟨X,[.slice none 0 0],rfl,Ext.refl X,hr.close _,⟨none,0,rfl,bg _,λj x hj=>by simp at hj⟩,hx,λp hp=> ?_,rfl,mM.refl _ _,tT.refl X⟩⟩;have hp:p=[]:=by simpa [SV.own] using hp
  subst hp;exact⟨e,t,[],_,by simp [Ty.nb],rfl,rfl,.inl ⟨rfl,rfl⟩⟩
 |_=>rw[hs] at h;simp [SV.el] at h
theorem cN.nI{P:Program}(hr:Rel tq X s a){d:Nat}{T:TypeId}{t:Ty}{y:El t}{cs:List Value}{own:List (List Nat)}{c:List (Nat×Nat)}{W:bZ}
 (mQ:t.fA=false) (hd:o.dst=some d) (hb:s.bs[d+1]? =some none) (hW:W.w=X.w) (hX:Ext X W) (U5:Rel tq W (s.close c) a) (cY:eC W t y cs)
 (gu:eI W (.b (d+1)) t y cs own)
 (dD:(execOp a.eval o).run P X.w= .ok (.value (.pointer (some ⟨X.w.heap.size,0,none⟩))) (X.w.alloc (.cells cs.toArray T))):cN P tq X s a o {v:=[.ptr (d+1) t []],bx:=some (d+1,⟨t,y,own⟩),cl:=c}:=by
 let β:Nat->ae Nat:=λid=>if id=d+1 then some W.w.heap.size else W.β id;have bS:d+1<s.bs.length:=(aC.1 hb).1;have qy:(s.close c).bs[d+1]? =some none:=by rw[ER];exact hb
 have hk:nk (s.close c) W (W.new cs.toArray T (.box (d+1)) β):=Te W _ _ _ _ _ (by show(if _ then _ else _)=_;rw[if_neg (by omega)]) (λid B hB=>by show(if id=d+1 then _ else _)=_;rw[if_neg (λe=>by rw[e,qy] at hB;cases hB)])
 obtain⟨n1,n2⟩:=S6 W cs.toArray T (.box (d+1)) β;have fH:ff (W.new cs.toArray T (.box (d+1)) β) (d+1) W.w.heap.size ⟨t,y,own⟩:=
  ⟨n2,me.of mQ n1 (by simpa using cY.bz (λ_ _=>hk.cf)) (by simpa using gu.lH hk)⟩
 have hβd:β (d+1)=some W.w.heap.size:=by show(if d+1=d+1 then _ else _)=_;rw[if_pos rfl]
 have mG:=(U5.lH hk).nI (by rw[ER];exact bS) qy hβd fH;refine⟨W.new cs.toArray T (.box (d+1)) β,.pointer (some ⟨X.w.heap.size,0,none⟩),.inl ?_,hX.trans hk.ext,?_⟩
 ·rw[dD];simp [bZ.new,hW]
 ·rw[hd];refine mG.put (λd' e=> ?_) (λid t' p hm=> ?_)
  ·cases e;refine⟨W.w.heap.size,hβd,(yq mQ).2 ⟨?_,by simp [Ty.nb]⟩⟩;rw[hW];simp [Ty.off]
  ·have:id=d+1:=by have:=hm;simp at this;exact this.1
   subst this;exact⟨⟨t,y,own⟩,by simp [State.cD,ay,ER,bS]⟩
theorem Wk(hE:bN P E){T:TypeId}{t:Ty}(ht:E.ty T=some t)(w:World):(zeroValue T).run P w= .ok (mH t (zp t)) w:=by obtain⟨i,h1,_,_,h2⟩:=(hE.ty T t ht).info;simp [zeroValue,typeInfo,h1,h2]
theorem Pw(X:bZ)(pl:List Nat->Place):∀t:Ty,eI X pl t (El.gA t) (zp t) (z40 t):=by
 intro t
 induction t generalizing pl with
 |sl e t=>
  intro p hp;have hp:p=[]:=by simpa [z40] using hp
  subst hp;exact⟨e,t,[],.slice none 0 0,by simp [Ty.nb],rfl,rfl,.inl ⟨rfl,rfl⟩⟩
 |pair ta tb ug uh=>
  intro p hp;simp only[z40,aR,bM,List.mem_filterMap] at hp;rcases hp with⟨q,hq,rfl⟩|⟨q,hq,he⟩
  ·obtain⟨e,t',xs,v,g0,g1,g2,g3⟩:=ug (λq=>pl (0::q)) q hq;refine⟨e,t',xs,v,g0,g1,?_,g3⟩;have hl:=(aC.1 g2).1;simp only[Ty.off,zp];rw[bG hl];exact g2
  ·cases q with
   |nil=>simp [bump] at he
   |cons j q=>simp only[bump,az] at he;subst he;obtain⟨e,t',xs,v,g0,g1,g2,g3⟩:=uh (λq=>match q with| []=>pl []|j::q=>pl ((j+1)::q)) (j::q) hq;refine⟨e,t',xs,v,g0,g1,?_,g3⟩;simp only[Ty.off,zp];rw[bh (by rw[Cv];omega),Cv,cg];exact g2
 |_=>intro p hp;simp [z40] at hp
theorem cN.Ia{P:Program}(hr:Rel tq X s a){d:Nat}{T e:TypeId}(hd:o.dst=some d)(hb:s.bs[d+1]? =some none)
 (dD:(execOp a.eval o).run P X.w= .ok (.value (.pointer (some ⟨X.w.heap.size,0,none⟩))) (X.w.alloc (.cells #[.pointer none,.slice none 0 0] T))):
 cN P tq X s a o {v:=[.ptr (d+1) (.dC (.qV T e) .unit .unit) []],bx:=some (d+1,⟨.dC (.qV T e) .unit .unit,(⟨#[]⟩:af),[[]]⟩)}:=by
 let β:Nat->ae Nat:=λid=>if id=d+1 then some X.w.heap.size else X.β id;have bS:d+1<s.bs.length:=(aC.1 hb).1;have hk:nk s X (X.new #[.pointer none,.slice none 0 0] T (.box (d+1)) β):=Te X _ _ _ _ _ (by show(if _ then _ else _)=_;rw[if_neg (by omega)]) (λid B hB=>by show(if id=d+1 then _ else _)=_;rw[if_neg (λe=>by rw[e,hb] at hB;cases hB)])
 obtain⟨n1,n2⟩:=S6 X #[.pointer none,.slice none 0 0] T (.box (d+1)) β;have fH:ff (X.new #[.pointer none,.slice none 0 0] T (.box (d+1)) β) (d+1) X.w.heap.size ⟨.dC (.qV T e) .unit .unit,(⟨#[]⟩:af),[[]]⟩:=
  ⟨n2,⟨_,n1⟩,λ_=>⟨.slice none 0 0,⟨.inl n1,⟨rfl,.inl ⟨rfl,rfl⟩⟩,by simp [eF]⟩,λg hg=>by simp [eF] at hg⟩⟩
 have hβd:β (d+1)=some X.w.heap.size:=by show(if d+1=d+1 then _ else _)=_;rw[if_pos rfl]
 have mG:=(hr.lH hk).nI bS hb hβd fH;refine⟨X.new #[.pointer none,.slice none 0 0] T (.box (d+1)) β,.pointer (some ⟨X.w.heap.size,0,none⟩),.inl dD,hk.ext,?_⟩;rw[hd];refine mG.put (λd' e=> ?_) (λid t' p hm=> ?_)
 ·cases e;exact⟨X.w.heap.size,hβd,(Th rfl).2 ⟨by simp [Ty.off],by simp [Ty.nb]⟩⟩
 ·have:id=d+1:=by have:=hm;simp at this;exact this.1
  subst this;exact⟨_,by simp [State.cD,ay,bS];rfl⟩
theorem cN.Ib{P:Program}(hr:Rel tq X s a){d:Nat}{T:TypeId}{ta tb:Ty}(hd:o.dst=some d)(hb:s.bs[d+1]? =some none)
 (dD:(execOp a.eval o).run P X.w= .ok (.value (.pointer (some ⟨X.w.heap.size,0,none⟩))) (X.w.alloc (.cells (zp ta++ [Value.pointer none,Value.pointer none,Value.int .i64 0]).toArray T))):cN P tq X s a o {v:=[.ptr (d+1) (.dC .kF ta tb) []],bx:=some (d+1,⟨.dC .kF ta tb,(El.gA ta,(none,none),(0:Int)),[]::sZ⟩)}:=by
 let β:Nat->ae Nat:=λid=>if id=d+1 then some X.w.heap.size else X.β id;have bS:d+1<s.bs.length:=(aC.1 hb).1;have hk:nk s X (X.new (zp ta++ [Value.pointer none,Value.pointer none,Value.int .i64 0]).toArray T (.box (d+1)) β):=Te X _ _ _ _ _ (by show(if _ then _ else _)=_;rw[if_neg (by omega)]) (λid B hB=>by show(if id=d+1 then _ else _)=_;rw[if_neg (λe=>by rw[e,hb] at hB;cases hB)])
 obtain⟨n1,n2⟩:=S6 X (zp ta++ [Value.pointer none,Value.pointer none,Value.int .i64 0]).toArray T (.box (d+1)) β;have fH:ff (X.new (zp ta++ [Value.pointer none,Value.pointer none,Value.int .i64 0]).toArray T (.box (d+1)) β) (d+1) X.w.heap.size ⟨.dC .kF ta tb,(El.gA ta,(none,none),(0:Int)),[]::sZ⟩:=
  ⟨n2,⟨_,n1⟩,λ_=>⟨zp ta,.pointer none,.pointer none,T,n1,(Ax X ta).bz (λ_ _=>hk.cf),rfl,rfl⟩⟩
 have hβd:β (d+1)=some X.w.heap.size:=by show(if d+1=d+1 then _ else _)=_;rw[if_pos rfl]
 have mG:=(hr.lH hk).nI bS hb hβd fH;refine⟨X.new _ T (.box (d+1)) β,.pointer (some ⟨X.w.heap.size,0,none⟩),.inl dD,hk.ext,?_⟩;rw[hd];refine mG.put (λd' e=> ?_) (λid t' p hm=> ?_)
 ·cases e;exact⟨X.w.heap.size,hβd,rfl,trivial⟩
 ·have:id=d+1:=by have:=hm;simp at this;exact this.1
  subst this;exact⟨⟨.dC .kF ta tb,(El.gA ta,(none,none),(0:Int)),[]::sZ⟩,by simp [State.cD,ay,bS]⟩
theorem adH(hE:bN P E)(hr:Rel tq X s a){ops:List Oper}{T:TypeId}(ho:o.op= .alloc T){C:FuncId->gE Out}(h:act E C ops o s some=some u):cN P tq X s a o u:=by
 unfold act at h;simp only[ho] at h;split at h
 case h_3=>cases h
 case h_2=>
  rename_i d hT hd;split at h
  ·rename_i ta tb HT;split at h
   case h_2=>cases h
   rename_i hb;cases h;obtain⟨i,h1,h2⟩:=hE.gz T ta tb HT;refine cN.Ib hr hd hb (T:=T) ?_;have hz:(zeroValue T).run P X.w= .ok (.agg (zp ta++ [Value.pointer none,Value.pointer none,Value.int .i64 0]).toArray) X.w:=by simp [zeroValue,typeInfo,h1,h2]
   simp only[execOp,ho,ax,mu,hz,al,SW,aD];rfl
  split at h
  case h_2=>cases h
  rename_i e UX;split at h
  case h_2=>cases h
  rename_i hb;cases h;obtain⟨i,h1,h2⟩:=hE.bl T e UX;refine cN.Ia hr hd hb ?_;have hz:(zeroValue T).run P X.w= .ok (.agg #[.pointer none,.slice none 0 0]) X.w:=by simp [zeroValue,typeInfo,h1,h2]
  simp only[execOp,ho,ax,mu,hz,al,SW,aD];rfl
 rename_i t d hT hd;split at h
 case h_2=>cases h
 rename_i hb;cases h;have cY:=Ax X t;refine cN.nI (T:=T) (cs:=zp t) (W:=X) (c:=[]) hr (hE.qn hT) hd hb rfl (Ext.refl X) hr cY (Pw X _ t) ?_;simp only[execOp,ho,ax,mu,Wk hE hT,al,SW,CX cY,aD]
theorem ajY(hE:bN P E)(hr:Rel tq X s a){ops:List Oper}{T:TypeId}{x:Operand}(ho:o.op= .box T x){C:FuncId->gE Out}(h:act E C ops o s some=some u):cN P tq X s a o u:=by
 unfold act at h;simp only[ho] at h;split at h
 case h_2=>cases h
 rename_i t d hT hd;split at h
 case h_2=>cases h
 rename_i hb;obtain⟨y,h,hy⟩:=zzm hr h (.inl rfl);cases h;obtain⟨W,cs,h1,h2,h3,h4,h5,h6,_,_,_⟩:=hy (.b (d+1));refine cN.nI (T:=T) (cs:=cs) (W:=W) hr (hE.qn hT) hd hb h1 h2 h3 h4 h6 ?_;simp only[execOp,ho,ax,Instr.box,SW,al,aD,h5,CX h4]
end Go.Ref

namespace Go.Ref
open Go
variable {P:Program} {tq:n4} {E:Env} {X:bZ} {s:State} {a:Act} {o:Oper} {u:Out}
theorem G1(hE:bN P E){T:TypeId}{t:Ty}(ht:E.ty T=some t){x:El t}{cs:List Value}(hr:eC X t x cs){ad:Addr}{w:World}(hc:∀(i:Nat) v,cs[i]? =some v->w.cell? (ad.add i)=some v):(loadVar T ad).run P w= .ok (mH t cs) w:=by
 have hl:=hr.len;unfold loadVar;simp only[ax,Pr hE ht,al];cases hg:t.agg with
 |true=>have:=run_loadCells_list (P:=P) w ad cs hc;rw[hl] at this;simp only[if_true,ax,tJ hE ht,al,this,aD,rj hg]
 |false=>
  have h1:t.cells=1:=by cases t<;>simp_all [Ty.agg,Ty.cells]
  rw[h1] at hl
  match cs,hl with
  | [c],_=>
    rw[T8 hg];have:=hc 0 c rfl;have h0:ad.add 0=ad:=by simp [Addr.add]
    rw[h0] at this;simp only[cI,if_false,run_load,this]
theorem G2{own:List (List Nat)}{p:List Nat}(h:pa own p=true):p∈own:=by unfold pa at h;obtain⟨q,hq,he⟩:=List.any_eq_true.1 h;rw[<-eq_of_beq he];exact hq
theorem zak{own:List (List Nat)}{p q:List Nat}(h:q∈EW own p):q∈own/\p.isPrefixOf q=false:=by unfold EW at h;rw[bc] at h;exact⟨h.1,by simpa using h.2⟩
theorem T9{t:Ty}(h:t.fA=false):t.nf=false:=by cases t<;>first|rfl|cases h
theorem Rel.wP(hr:Rel tq X s a){id:Nat}{B:fc}(hb:s.bs[id]? =some (some B))(hg:B.t.nf=false\/ []∈B.own):∀(i:Nat) (l:List SV) a b j,s.sl[i]? =some l->SV.eU id a b j∈l->False:=hr.eU.none λc d x own h=>by rw[hb] at h;cases h;exact hg.resolve_left λe=>by cases e
theorem Rel.uo{Y:bZ}(hr:Rel tq Y s a){id r:Nat}{B B':fc}(hb:s.bs[id]? =some (some B))(hβ:Y.β id=some r)(h:ff Y id r B')(hg:B.t.nf=false\/ []∈B.own):Rel tq Y (s.cD (some (id,B'))) a where
 size:=hr.size
 pc:=by simpa [State.cD] using hr.pc
 gn:=hr.gn
 boxes:=λdP B2 kQ=>by
  have bS:id<s.bs.length:=(aC.1 hb).1;simp only[State.cD,ay] at kQ;by_cases e:id=dP
  ·subst e;rw[if_pos rfl,if_pos bS] at kQ;cases kQ;exact⟨r,hβ,h⟩
  ·rw[if_neg e] at kQ;exact hr.boxes dP B2 kQ
 live:=λi l dP t p hi hm=>by
  have bS:id<s.bs.length:=(aC.1 hb).1;obtain⟨B2,kQ⟩:=hr.live i l dP t p hi hm;simp only[State.cD,ay];by_cases e:id=dP
  ·subst e;exact⟨B',by rw[if_pos rfl,if_pos bS]⟩
  ·rw[if_neg e];exact⟨B2,kQ⟩
 defers:=hr.defers
 eU:=hr.eU.cD (hr.eU.none λc d x own h=>by rw[hb] at h;cases h;exact hg.resolve_left λe=>by cases e)
 j8:=hr.j8
theorem VG{id:Nat}{B B':fc}(hb:s.bs[id]? =some (some B)):(s.cD (some (id,B'))).bs[id]? =some (some B'):=by have bS:id<s.bs.length:=(aC.1 hb).1;simp [State.cD,ay,bS]
theorem Wa{r off i:Nat}{cs:Array Value}{T:TypeId}{w:World}(h:w.heap[r]? =some (.cells cs T (0,0))){k:Nat}{v:Value}(hv:((cs.toList.drop off).take k)[i]? =some v):w.cell? ((⟨r,off,none⟩:Addr).add i)=some v:=by
 rw[qc];rw[bj] at hv;split at hv
 ·rw[bI] at hv;simpa [bP,h] using hv
 ·cases hv
theorem nu:∀(t:Ty) (p:List Nat) (u:Ty),t.at_ p=some u->t.nb p->t.off p+u.cells<=t.cells:=by
 intro t
 induction t with
 |arr n t ih=>
  intro p u h hp;cases p with
  |nil=>simp only[Ty.at_,az] at h;subst h;simp [Ty.off]
  |cons i p=>have:=ih p u h hp.2;have hn:(i+1)*t.cells<=n*t.cells:=bp _ hp.1;rw[bK,cm] at hn;simp only[Ty.off,Ty.cells];omega
 |pair x y Oc Od=>
  intro p u h hp;cases p with
  |nil=>simp only[Ty.at_,az] at h;subst h;simp [Ty.off]
  |cons i p=>
   cases i with
   |zero=>have:=Oc p u h hp;simp only[Ty.off,Ty.cells];omega
   |succ i=>have:=Od (i::p) u h hp;simp only[Ty.off,Ty.cells];omega
 |_=>
  intro p u h hp;cases p with
  |nil=>simp only[Ty.at_,az] at h;subst h;simp [Ty.off]
  |cons i p=>simp [Ty.at_] at h
theorem an0{t:Ty}{p:List Nat}{e:TypeId}{t':Ty}(h:t.nb p)(iq:t.at_ p=some (.sl e t')):t.off p<t.cells:=by have:=nu t p _ iq h;simp only[Ty.cells] at this;omega
theorem adX:∀{t:Ty} {p q:List Nat} {x:El t} {u:Ty} {y:El u} {r:(u:Ty)×El u},El.get t p x=some ⟨u,y⟩->t.nb (p++q)->El.get t (p++q) x=some r->u.nb q/\El.get u q y=some r:=by
 intro t
 induction t with
 |arr n t ih=>
  intro p q x u y r h1 h2 h3;cases p with
  |nil=>simp only[El.get,az,dY] at h1;obtain⟨rfl,h1⟩:=h1;cases h1;exact⟨h2,h3⟩
  |cons i p=>exact ih h1 h2.2 h3
 |pair ta tb ug uh=>
  intro p q x u y r h1 h2 h3;cases p with
  |nil=>simp only[El.get,az,dY] at h1;obtain⟨rfl,h1⟩:=h1;cases h1;exact⟨h2,h3⟩
  |cons i p=>
   cases i with
   |zero=>exact ug h1 h2 h3
   |succ i=>exact uh (p:=i::p) h1 h2 h3
 |_=>
  intro p q x u y r h1 h2 h3;cases p with
  |nil=>simp only[El.get,az,dY] at h1;obtain⟨rfl,h1⟩:=h1;cases h1;exact⟨h2,h3⟩
  |cons i p=>simp [El.get] at h1
def bZ.ph(X:bZ)(id:Nat)(p:List Nat)(q:List Nat->Place):bZ:=
 {X with ow:=λg=>match X.ow g with
  | .row (.b dP p') n=>if dP=id/\p.isPrefixOf p'=true then .row (q (p'.drop p.length)) n else .row (.b dP p') n
  |w=>w}
theorem zuk{s:State}{X:bZ}{id:Nat}{p:List Nat}{q:List Nat->Place}(h:∀p',¬kW s (.b id (p++p'))):mM s X (X.ph id p q):=by
 refine⟨rfl,rfl,λg=> ?_⟩;simp only[bZ.ph];cases hg:X.ow g with
 |row pl n=>
  cases pl with
  |b dP p'=>
   by_cases e:dP=id/\p.isPrefixOf p'=true
   ·obtain⟨rfl,hp⟩:=e;obtain⟨r,rfl⟩:=fV.1 hp;exact .inr ⟨_,n,q r,rfl,h r,by simp⟩
   ·exact .inl (if_neg e)
  |_=>exact .inl rfl
 |_=>exact .inl rfl
theorem eO.ym{X:bZ}{id:Nat}{p r:List Nat}{q:List Nat->Place}{e:TypeId}{k n:Nat}{v:Value}(h:eO X (.b id (p++r)) e k n v):eO (X.ph id p q) (q r) e k n v:=by
 rcases h with h|⟨g,cap,cur,h1,h2,h3,h4,h5,h6⟩
 ·exact .inl h
 ·exact .inr ⟨g,cap,cur,h1,h2,h3,h4,h5,by simp [bZ.ph,h6]⟩
theorem J3(hr:Rel tq X s a){id:Nat}{t b:Ty}{B:fc}(hB:s.box id=some B)(h:B.t.iL (.dC .row t b)=true):s.bs[id]? =some (some B)/\∃r,X.β id=some r/\X.ow r= .box id/\∃cs T,X.w.heap[r]? =some (.cells cs T (0,0))/\cs.size=ag (Ty.cast h B.x:List (El t))*t.cells/\
 ∀(j:Nat) (x:El t),(Ty.cast h B.x:List (El t))[j]? =some x->eC X t x ((cs.toList.drop (j*t.cells)).take t.cells):=by
 have hb:=yt hB;obtain⟨r,h1,h2,h3⟩:=hr.boxes id B hb;refine⟨hb,r,h1,h2,?_⟩;obtain⟨bt,bx,bo⟩:=B;have e:=Ty.cS h;simp only at e;subst e;obtain⟨cs,T,g1,g2,g3⟩:=h3;exact⟨cs,T,g1,g2,g3⟩
theorem adL(hE:bN P E)(hr:Rel tq X s a){S T:TypeId}{x:Operand}(ho:o.op= .convert S T x){id n:Nat}{ta tb:Ty}(mj:s.cM x= .ptr id (.dC (.qi n) ta tb) [])(h:rR E S T s id n ta tb some=some u):cN P tq X s a o u:=by
 have hx:=hr.cM x;rw[mj] at hx;obtain⟨r0,hβ,cap,hv,ve⟩:=hx;unfold rR at h;split at h
 case h_2=>cases h
 rename_i e hS hT;split at h
 case isFalse=>cases h
 rename_i heq;have:=Ty.cS heq;subst this;split at h
 case h_2=>cases h
 rename_i B hB;split at h
 case isFalse=>cases h
 rename_i lR;obtain⟨hb,r,h1,h2,cs,T',cH,lV,n5⟩:=J3 hr hB lR;rw[hβ] at h1;cases h1;generalize(Ty.cast lR B.x:List Int)=xs at*;cases hn:ak n (ag xs) with
 |false=>rw[hn] at h;cases h
 |true=>
  rw[hn] at h;cases h;have hn:=aE hn;subst hn;have hu:=(hE.ty S _ hS).lU;have he:=(hE.ty e _ hu.2).lU;have hT:=(hE.ty T _ hT).lU;refine cN.plain hr (v:= .string (strOf xs)) ?_ Ha (λ_ _ _ e'=>by cases e');have key:(convert S T (.slice (some ⟨r0,0,none⟩) (ag xs) cap)).run P X.w= .ok (.string (strOf xs)) X.w:=by
   rw[run_convert_bytes_string X.w S T e _ _ cap hu.1 he hT];have rU:(loadCells ⟨r0,0,none⟩ (ag xs)).run P X.w= .ok (List.map (Value.int .u8) xs).toArray X.w:=by
    have:=run_loadCells_list (P:=P) X.w ⟨r0,0,none⟩ (List.map (Value.int .u8) xs) (λj v hj=>by obtain⟨y,hy,rfl⟩:=aL .. ▸hj|>av.1;have hc:(cs.toList.drop (j*1)).take 1=[.int .u8 y]:=n5 j y hy;have h0:=congrArg (λl=>l[0]?) hc;simp only[bj,bI] at h0;simp only[Nat.zero_lt_one,if_true,Nat.mul_one,eZ,bQ] at h0;rw[qc,bJ];simpa [bP,cH] using h0)
    rw[List.length_map] at this;exact this
   rw[run_bytesToString X.w _ _ cap xs rU,foldl_push_bytes];simp [strOf,ByteArray.empty,iR];rfl
  simp only[execOp,ho,ax,hv,key,al,aD]
theorem agy(hE:bN P E)(hr:Rel tq X s a){ops:List Oper}{S T:TypeId}{x:Operand}(ho:o.op= .convert S T x){C:FuncId->gE Out}(h:act E C ops o s some=some u):cN P tq X s a o u:=by
 unfold act at h;simp only[ho] at h;split at h
 ·rename_i id n ta tb mj;exact adL hE hr ho mj h
 ·exact adM hE hr ho h
theorem J0(hr:Rel tq X s a){id:Nat}{ta tb:Ty}{R:Type}{K:El (.dC .kF ta tb)->List (List Nat)->ae R}{z:R}(h:vU s id ta tb K=some z):
 ∃(x:El (.dC .kF ta tb)) (own:List (List Nat)) (r:Nat),s.bs[id]? =some (some ⟨.dC .kF ta tb,x,own⟩)/\K x own=some z/\(∀p∈sZ,p∈own)/\X.β id=some r/\X.ow r= .box id/\pH X r (.b id) ta tb x:=by
 unfold vU at h;split at h
 case h_2=>cases h
 rename_i B hB;split at h
 case isFalse=>cases h
 rename_i lR;have hb:=yt hB;obtain⟨bt,bx,bo⟩:=B;have e:=Ty.cS lR;simp only at e;subst e;cases ho:sZ.all (pa bo) with
 |false=>simp only[ho] at h;cases h
 |true=>
  simp only[ho,cond_true] at h;have gu:∀p∈sZ,p∈bo:=λp hp=>by
   have:=aY.1 ho p hp;unfold pa at this;obtain⟨q,h1,h2⟩:=List.any_eq_true.1 this;have:q=p:=by simpa using h2
   rw[<-this];exact h1
  obtain⟨r,h1,h2,h3⟩:=hr.boxes id _ hb;exact⟨bx,bo,r,hb,h,gu,h1,h2,h3.2 gu⟩
theorem zph{w:World}{r k:Nat}{l:List Value}{T:TypeId}{v:Value}(h:w.heap[r]? =some (.cells l.toArray T (0,0)))(hv:l[k]? =some v):w.cell? ⟨r,k,none⟩=some v:=by simp only[bP,h];simpa using hv
theorem Rel.Ii(hr:Rel tq X s a){d:ae Nat}{id j:Nat}{ta tb:Ty}{x:El (.dC .kF ta tb)}{own:List (List Nat)}{v:Value}(hb:s.bs[id]? =some (some ⟨.dC .kF ta tb,x,own⟩))(ho: []∉own)
 (vO:∀(i:Nat) (l:List SV) a b j,s.sl[i]? =some l->SV.eU id a b j∈l->False) (hv:∀pl,cq X pl (.eU id ta tb j) v):Rel tq X (s.bX d [.eU id ta tb j]) (a.put d v):=by
 cases d with
 |none=>exact hr
 |some d=>
  have mT:∀(i:Nat) (l:List SV),(s.bX (some d) [.eU id ta tb j]).sl[i]? =some l->(i=d/\l=[.eU id ta tb j])\/(i≠d/\s.sl[i]? =some l):=λi l hi=>by
   simp only[State.bX,ay] at hi;by_cases e:d=i
   ·rw[if_pos e] at hi;split at hi
    ·cases hi;exact .inl ⟨e.symm,rfl⟩
    ·cases hi
   ·rw[if_neg e] at hi;exact .inr ⟨λh=>e h.symm,hi⟩
  refine⟨by simpa [State.bX,Act.put] using hr.size,by simpa [State.bX] using hr.pc,λi l v' hi qC=> ?_,hr.boxes,λi l dP t p hi hm=> ?_,hr.defers,λi l dP a' b' j' hi hm=> ?_,hr.j8⟩
  ·simp only[Act.put,dc] at qC;rcases mT i l hi with⟨rfl,rfl⟩|⟨fL,hi⟩
   ·rw[if_pos rfl] at qC;split at qC
    ·cases qC;exact hv (.c i 0)
    ·cases qC
   ·rw[if_neg (λe=>fL e.symm)] at qC;exact hr.gn i l v' hi qC
  ·rcases mT i l hi with⟨rfl,rfl⟩|⟨_,hi⟩
   ·simp at hm
   ·exact hr.live i l dP t p hi hm
  ·rcases mT i l hi with⟨rfl,rfl⟩|⟨fL,HX⟩
   ·simp only[List.mem_singleton,SV.eU.injEq] at hm;obtain⟨rfl,rfl,rfl,rfl⟩:=hm;refine⟨rfl,⟨x,own,hb,ho⟩,λi' l' a' b' j' D9 Al=> ?_⟩;rcases mT i' l' D9 with⟨e1,_⟩|⟨_,hi3⟩
    ·exact e1
    ·exact(vO i' l' a' b' j' hi3 Al).elim
   ·obtain⟨g1,g2,g3⟩:=hr.eU i l dP a' b' j' HX hm;refine⟨g1,g2,λi' l' a'' b'' j'' D9 Al=> ?_⟩;rcases mT i' l' D9 with⟨_,e2⟩|⟨_,hi3⟩
    ·rw[e2] at Al;simp only[List.mem_singleton,SV.eU.injEq] at Al;obtain⟨e3,_,_,_⟩:=Al;rw[e3] at hm;exact(vO i l a' b' j' HX hm).elim
    ·exact g3 i' l' a'' b'' j'' hi3 Al
theorem adQ(hE:bN P E)(hr:Rel tq X s a){T:TypeId}{x:Operand}(ho:o.op= .load T x)(h:sf E T s (s.cM x) some=some u):cN P tq X s a o u:=by
 have hx:=hr.cM x;unfold sf at h;split at h
 case h_2=>cases h
 rename_i id ta tb j mj;rw[mj] at hx;obtain⟨r0,hβ,hv,hj⟩:=hx;have hv:a.eval x= .pointer (some ⟨r0,ta.cells+j,none⟩):=hv;have hj:j<2:=hj;split at h
 case isFalse=>cases h
 rename_i tv;obtain⟨e,hu⟩:=hE.pt T tv;obtain⟨x0,own,r,hb,h,gu,h1,how,c,p0,p1,T',cH,cY,Am,An⟩:=J0 hr h;rw[hβ] at h1;cases h1;cases pu:pa own [] with
 |false=>rw[pu] at h;cases h
 |true=>
 rw[pu,cond_true] at h;cases h;have pu:=G2 pu;obtain⟨v,mB⟩:∃v,(c++ [p0,p1,Value.int .i64 x0.2.2])[ta.cells+j]? =some v:=by
  rw[bh (by rw[cY.len];omega),cY.len,cg]
  match j,hj with
  |0,_=>exact⟨_,rfl⟩
  |1,_=>exact⟨_,rfl⟩
 have hc:=zph cH mB;have dD:(execOp a.eval o).run P X.w= .ok (.value v) X.w:=by
  have hl:(loadVar T ⟨r0,ta.cells+j,none⟩).run P X.w= .ok v X.w:=by
   unfold loadVar;have hag:(isAgg T).run P X.w= .ok false X.w:=by simp [isAgg,run_underlying hu]
   simp only[ax,hag,al,cI,if_false,run_load,hc]
  simp only[execOp,ho,ax,fS,hv,Instr.sureAddr,aD,al,hl]
 have hg:pH X r0 (.b id) ta tb x0:=⟨c,p0,p1,T',cH,cY,Am,An⟩
 have pR:=hr.eU.none (d:=id) λa' b' x' re h=>by rw[hb] at h;cases h;exact pu
 have m9:=hr.uo (B':=⟨.dC .kF ta tb,x0,own.filter λq=> !q.isEmpty⟩) hb hβ ⟨how,⟨_,cH⟩,λ_=>hg⟩ (.inr pu);refine⟨X,v,.inl dD,Ext.refl X,m9.Ii (VG hb) (λhm=> ?_) pR λpl=>⟨r0,hβ,how,hc⟩⟩;have:=(bc.1 hm).2;simp at this
theorem z156(hE:bN P E)(hr:Rel tq X s a){T:TypeId}{u':Ty}{x:Operand}(ho:o.op= .load T x)(hT:E.ty T=some u'){id:Nat}{t:Ty}{p:List Nat}(mj:s.cM x= .ptr id t p)(h:J1 u' s id t p some=some u):cN P tq X s a o u:=by
 have hx:=hr.cM x;rw[mj] at hx;obtain⟨r0,hβ,hv⟩:=hx;unfold J1 at h;split at h
 case h_4=>cases h
 case h_2=>
  rename_i ta tb;split at h
  case isFalse=>cases h
  rename_i heq;have:=Ty.cS heq;subst this;obtain⟨x0,own,r,hb,h,_,h1,h2,c,p0,p1,T',cH,cY,_⟩:=J0 hr h;rw[hβ] at h1;cases h1;cases h;have hv:a.eval x= .pointer (some ⟨r0,0,none⟩):=by have:=hv.1;rw[this];simp [u6,Ty.off]
  refine cN.plain hr ?_ (Hh cY) (λ_ _ _ e'=>by cases e');have hl:=G1 hE hT cY (ad:=⟨r0,0,none⟩) (w:=X.w) (λj v hj=>by rw[qc,bJ];refine zph cH ?_;rw[bG ((aC.1 hj).1)];exact hj)
  simp only[execOp,ho,ax,fS,hv,Instr.sureAddr,aD,al,hl]
 case h_3=>
  rename_i ta tb;split at h
  case isFalse=>cases h
  rename_i heq;have:=Ty.cS heq;subst this;obtain⟨x0,own,r,hb,h,_,h1,h2,c,p0,p1,T',cH,cY,_⟩:=J0 hr h;rw[hβ] at h1;cases h1;cases h;have hv:a.eval x= .pointer (some ⟨r0,ta.cells+2,none⟩):=hv.1;have hl:=G1 (P:=P) hE hT (X:=X) (x:=x0.2.2) (cs:=[.int .i64 x0.2.2]) rfl (ad:=⟨r0,ta.cells+2,none⟩) (w:=X.w) (λj v hj=>by
   cases j with
   |succ j=>simp at hj
   |zero=>rw[qc,eZ];refine zph cH ?_;rw[bh (by rw[cY.len];omega),cY.len,cg];exact hj)
  refine cN.plain hr (v:=mH (.int .i64) [.int .i64 x0.2.2]) ?_ qN (λ_ _ _ e'=>by cases e');simp only[execOp,ho,ax,fS,hv,Instr.sureAddr,aD,al,hl]
 rename_i ta tb i;split at h
 case h_2=>cases h
 rename_i B hB;split at h
 case isFalse=>cases h
 rename_i lR;split at h
 case isFalse=>cases h
 rename_i heq;have:=Ty.cS heq;subst this;obtain⟨hb,r,h1,h2,cs,T',cH,lV,n5⟩:=J3 hr hB lR;rw[hβ] at h1;cases h1;generalize(Ty.cast lR B.x:List (El u'))=xs at*;cases hn:bC (i+1) (ag xs) with
 |false=>rw[hn] at h;cases h
 |true=>rw[hn] at h;cases h;have bS:i<ag xs:=b7 hn;have cY:=n5 i _ (getD_some (El.gA u') bS);have hv:a.eval x= .pointer (some ⟨r0,i*u'.cells,none⟩):=hv;refine cN.plain hr ?_ (Hh cY) (λ_ _ _ e'=>by cases e');have hl:=G1 hE hT cY (ad:=⟨r0,i*u'.cells,none⟩) (w:=X.w) (λj v hj=>Wa cH hj);simp only[execOp,ho,ax,fS,hv,Instr.sureAddr,aD,al,hl]
theorem acx(hE:bN P E)(hr:Rel tq X s a){T:TypeId}{u':Ty}{x:Operand}(ho:o.op= .load T x)(hT:E.ty T=some u'){id:Nat}{t:Ty}{p:List Nat}(mj:s.cM x= .ptr id t p){B:fc}(hB:s.box id=some B)(h:Lm u' B t p some=some u):cN P tq X s a o u:=by
 have hx:=hr.cM x;rw[mj] at hx;obtain⟨r0,hβ,hv⟩:=hx;unfold Lm at h;split at h
 case h_2=>cases h
 rename_i n e;split at h
 case isFalse=>cases h
 rename_i lR;split at h
 case isFalse=>cases h
 rename_i heq;have:=Ty.cS heq;subst this;obtain⟨hb,r,h1,h2,cs,T',cH,lV,n5⟩:=J3 hr hB lR;rw[hβ] at h1;cases h1;generalize(Ty.cast lR B.x:List (El e))=xs at*;cases hn:ak n (ag xs) with
 |false=>rw[hn] at h;cases h
 |true=>
  rw[hn] at h;cases h;have hn:=aE hn;have cY:eC X (.arr n e) xs cs.toList:=⟨hn.symm,by rw[hn];simpa using lV,n5⟩
  have hv:=((yq rfl).1 hv).1;have hv:a.eval x= .pointer (some ⟨r0,0,none⟩):=by rw[hv];rfl
  refine cN.plain hr ?_ (Hh cY) (λ_ _ _ e'=>by cases e');have hl:=G1 hE hT cY (ad:=⟨r0,0,none⟩) (w:=X.w) (λj v hj=>Wa (off:=0) (k:=cs.toList.length) cH (by rw[aO,cC];exact hj));simp only[execOp,ho,ax,fS,hv,Instr.sureAddr,aD,al,hl]
theorem agB(hE:bN P E)(hr:Rel tq X s a){ops:List Oper}{T:TypeId}{x:Operand}(ho:o.op= .load T x){C:FuncId->gE Out}(h:act E C ops o s some=some u):cN P tq X s a o u:=by
 unfold act at h;simp only[ho] at h;have hx:=hr.cM x;unfold load at h;split at h
 case h_2=>exact adQ hE hr ho h
 rename_i u' hT;split at h
 ·rename_i t y e;rw[e] at hx;obtain⟨ad,cs,hv,ux,cY,mR⟩:=hx;split at h
  case isFalse=>cases h
  rename_i heq;have:=Ty.cS heq;subst this;cases h;refine cN.plain hr ?_ (Hh cY) (λ_ _ _ e'=>by cases e');have hl:=G1 hE hT cY (ad:=ad) (w:=X.w) (λi v hi=>(mR i v hi).2.1);simp only[execOp,ho,ax,fS,hv,Instr.sureAddr,aD,al,hl]
 ·rename_i id t p e;rw[e] at hx;obtain⟨r,hβ,hx⟩:=hx;split at h
  ·exact z156 hE hr ho hT e h
  rename_i mQ;have mQ:t.fA=false:=by simpa using mQ
  obtain⟨hv,lS⟩:=(yq mQ).1 hx;split at h
  case h_2=>cases h
  rename_i B hB;split at h
  case isFalse=>exact acx hE hr ho hT e hB h
  rename_i heq;have lR:=Ty.cS heq;split at h
  case h_2=>cases h
  rename_i ut y jx;split at h
  case isFalse=>cases h
  rename_i HP;have:=Ty.cS HP;subst this;have hb:=yt hB;obtain⟨r',hβ',BF⟩:=hr.boxes id B hb;rw[hβ] at hβ';cases hβ';subst lR;obtain⟨cs,T',cH,cY,how,gu⟩:=BF.cells mQ;obtain⟨k1,k2,k3⟩:=T6 cY lS jx;have hl:=G1 hE hT k3 (ad:=⟨r,B.t.off p,none⟩) (w:=X.w) (λi v hi=>Wa cH hi);have dD:(execOp a.eval o).run P X.w= .ok (.value (mH u' ((cs.toList.drop (B.t.off p)).take u'.cells))) X.w:=by simp only[execOp,ho,ax,fS,hv,Instr.sureAddr,aD,al,hl]
  cases hc:zty ops o.dst||GG E ops o.dst||Sy ops o.dst with
  |false=>rw[hc] at h;cases h;exact cN.plain hr dD (Hh k3) (λ_ _ _ e'=>by cases e')
  |true=>
   rw[hc] at h;cases h;have m9:Rel tq X (s.cD (some (id,{B with own:=EW B.own p}))) a:=hr.uo hb hβ ⟨how,me.of mQ cH cY λq hq=>gu q (zak hq).1⟩ (.inl (T9 mQ));have KC:∀q,¬kW (s.cD (some (id,{B with own:=EW B.own p}))) (.b id (p++q)):=by rintro q ⟨B2,kQ,hp⟩;rw[VG hb] at kQ;cases kQ;have:=(zak hp).2;rw[fV.2 (List.prefix_append p q)] at this;cases this
   have uw:=zuk (X:=X) (q:= .c (o.dst.getD 0) 0) KC;refine⟨X.ph id p (.c (o.dst.getD 0) 0),_,.inl dD,uw.ext,(m9.mod uw.mod).fin ⟨_,k3.bz (λ_ _=>uw.cf.1),rfl,?_⟩ (λid t p hm=>by simp at hm)⟩;intro q hq;obtain⟨q0,hq0,rfl⟩:=bM.1 hq;obtain⟨hq1,hq2⟩:=bc.1 hq0;obtain⟨q,rfl⟩:=fV.1 hq2;rw[fU];obtain⟨e',t',xs,v,h0,h1,h2,h3⟩:=gu _ hq1;obtain⟨j1,j2⟩:=adX jx h0 h1;have hle:=an0 j1 (UC _ _ _ _ _ j2);refine⟨e',t',xs,v,j1,j2,?_,h3.ym⟩;rw[KU _ _ _ _ k1] at h2;rw[bj,if_pos hle,bI];exact h2
 ·cases h
theorem zi3{cs c:List Value}{off:Nat}(h:off+c.length<=cs.length)(j k:Nat):(∀h1:j+k<=off\/off+c.length<=j,((cs.take off++c++cs.drop (off+c.length)).drop j).take k=(cs.drop j).take k):=by
 intro h1;apply bV;intro q;simp only[bj,bI];split
 ·rename_i hq;rw[bd];rcases h1 with h1|h1
  ·rw[bG (by rw[aU];omega),bj,if_pos (by omega)]
  ·rw[bh (by rw[aU];omega),aU,bL (by omega),bh (by omega),bI];congr 1;omega
 ·rfl
theorem nJ{X:bZ}:∀{t:Ty} {p:List Nat} {x:El t} {cs:List Value} {u:Ty} {y:El u} {z:El t} {c:List Value},eC X t x cs->t.nb p->t.at_ p=some u->El.set t p x u y=some z->eC X u y c->
 eC X t z (cs.take (t.off p)++c++cs.drop (t.off p+c.length)):=by
 intro t
 induction t with
 |arr n t ih=>
  intro p x cs u y z c hr hp iq h hc;have nG:=hc.len;cases p with
  |nil=>simp only[Ty.at_,az] at iq;subst iq;simp only[El.set,Ty.iw,dite_true,az] at h;subst h;have hl:=hr.len;simp only[Ty.off,bJ,cX,b6];rw[nG,<-hl,kf,bY];exact hc
  |cons i p=>
   obtain⟨hi,hp⟩:=hp;obtain⟨h1,h2,h3⟩:=hr;simp only[El.set] at h;obtain⟨z',vn,rfl⟩:=av.1 h;have va:t.at_ p=some u:=iq;have hle:=nu t p u va hp;have hn:(i+1)*t.cells<=n*t.cells:=bp _ hi;rw[bK,cm] at hn;have D9:=ih (h3 i _ (getD_some (El.gA t) (by omega))) hp va vn hc;have lD:i*t.cells+t.off p+c.length<=cs.length:=by rw[nG,h2];omega
   refine⟨by simpa using h1,?_,λj w hj=> ?_⟩
   ·simp only[Ty.off,aJ,aU,bW];omega
   ·simp only[Ty.off];by_cases e:j=i
    ·subst e;rw[fu (by omega)] at hj;cases hj;have hL:((cs.take (j*t.cells+t.off p)++c++cs.drop (j*t.cells+t.off p+c.length)).drop (j*t.cells)).take t.cells=
      ((cs.drop (j*t.cells)).take t.cells).take (t.off p)++c++((cs.drop (j*t.cells)).take t.cells).drop (t.off p+c.length):=by
      apply bV;intro q;rw[bd,bd];simp only[bj,bI,iN,aU,bW];rw[bL (show j*t.cells+t.off p<=cs.length by omega),bL (show t.cells<=cs.length-j*t.cells by omega),bL (show t.off p<=t.cells by omega)];by_cases q1:q<t.cells
      ·by_cases q2:q<t.off p
       ·rw[if_pos q1,if_pos (by omega),if_pos (by omega),if_pos q2,if_pos q2,if_pos q1]
       ·by_cases q3:q-t.off p<c.length
        ·rw[if_pos q1,if_neg (by omega),if_pos (by omega),if_neg q2,if_pos q3];congr 1;omega
        ·rw[if_pos q1,if_neg (by omega),if_neg (by omega),if_neg q2,if_neg q3,if_pos (by omega)];congr 1;omega
      ·rw[if_neg q1,if_neg (by omega),if_neg (by omega),if_neg (by omega)]
     rw[hL];exact D9
    ·rw[iO (Ne.symm e)] at hj;have BM:=(aC.1 hj).1;rw[zi3 lD (j*t.cells) t.cells ?_]
     ·exact h3 j w hj
     ·rcases jv e with bS|hgt
      ·have:(j+1)*t.cells<=i*t.cells:=bp _ bS;rw[bK,cm] at this;exact .inl (by omega)
      ·have:(i+1)*t.cells<=j*t.cells:=bp _ hgt;rw[bK,cm] at this;exact .inr (by omega)
 |pair ta tb ug uh=>
  intro p x cs u y z c hr hp iq h hc;have nG:=hc.len;cases p with
  |nil=>simp only[Ty.at_,az] at iq;subst iq;simp only[El.set,Ty.iw,dite_true,az] at h;subst h;have hl:=hr.len;simp only[Ty.off,bJ,cX,b6];rw[nG,<-hl,kf,bY];exact hc
  |cons i p=>
   obtain⟨c1,c2,rfl,r1,r2⟩:=hr;have l1:=r1.len;have l2:=r2.len;cases i with
   |zero=>simp only[El.set] at h;obtain⟨z',vn,rfl⟩:=av.1 h;have va:ta.at_ p=some u:=iq;have hle:=nu ta p u va hp;have:=ug r1 hp va vn hc;refine⟨_,c2,?_,this,r2⟩;simp only[Ty.off];rw[ea (by omega),du (by omega)];simp [bd]
   |succ i=>simp only[El.set] at h;obtain⟨z',vn,rfl⟩:=av.1 h;have va:tb.at_ (i::p)=some u:=iq;have hle:=nu tb (i::p) u va hp;have:=uh r2 hp va vn hc;refine⟨c1,_,?_,r1,this⟩;simp only[Ty.off];rw[<-l1,List.take_length_add_append,lO,iX];simp [bd]
 |_=>
  intro p x cs u y z c hr hp iq h hc;have nG:=hc.len;cases p with
  |nil=>
   simp only[Ty.at_,az] at iq;subst iq;simp only[El.set,Ty.iw,dite_true,az] at h
   first|subst h|skip
   have hl:=hr.len;simp only[Ty.off,bJ,cX,b6];rw[nG,<-hl,kf,bY];exact hc
  |cons i p=>simp [Ty.at_] at iq
end Go.Ref

namespace Go.Ref
open Go
variable {P:Program} {tq:n4} {E:Env} {X:bZ} {s:State} {a:Act} {o:Oper} {u:Out}
theorem aca:∀{t:Ty} {p q:List Nat} {x:El t} {u:Ty} {y:El u} {z:El t} {e:TypeId} {t':Ty} {xs:El (.sl e t')},El.set t p x u y=some z->t.at_ p=some u->t.nb p->t.nb q->p.isPrefixOf q=false->El.get t q x=some ⟨.sl e t',xs⟩->
 El.get t q z=some ⟨.sl e t',xs⟩/\(t.off q+1<=t.off p\/t.off p+u.cells<=t.off q):=by
 intro t
 induction t with
 |arr n t ih=>
  intro p q x u y z e t' xs hs iq hp hq ox hg;cases p with
  |nil=>simp at ox
  |cons i p=>
   cases q with
   |nil=>simp [El.get] at hg
   |cons j q=>
    simp only[El.set] at hs;obtain⟨z',vn,rfl⟩:=av.1 hs;by_cases eij:i=j
    ·subst eij;have vi:p.isPrefixOf q=false:=by simpa [kJ] using ox
     obtain⟨h1,h2⟩:=ih vn iq hp.2 hq.2 vi hg;refine⟨?_,by simp only[Ty.off];omega⟩;simp only[El.get];by_cases hl:i<ag x
     ·rw[aq,fu hl];exact h1
     ·have nH:cK x i z'=x:=by rw[List.set_eq_of_length_le (eE hl)]
      rw[nH];exact hg
    ·refine⟨?_,?_⟩
     ·simp only[El.get] at hg⊢;rw[aq,iO eij,<-aq];exact hg
     ·have a1:=nu t p u iq hp.2;have a2:t.off q+1<=t.cells:=by have:=nu t q _ (UC t q _ _ _ hg) hq.2;simpa [Ty.cells] using this
      simp only[Ty.off];rcases jv eij with h|h
      ·have:(i+1)*t.cells<=j*t.cells:=bp _ h;rw[bK,cm] at this;omega
      ·have:(j+1)*t.cells<=i*t.cells:=bp _ h;rw[bK,cm] at this;omega
 |pair ta tb ug uh=>
  intro p q x u y z e t' xs hs iq hp hq ox hg;cases p with
  |nil=>simp at ox
  |cons i p=>
   cases q with
   |nil=>simp [El.get] at hg
   |cons j q=>
    cases i with
    |zero=>
     simp only[El.set] at hs;obtain⟨z',vn,rfl⟩:=av.1 hs;cases j with
     |zero=>
      have vi:p.isPrefixOf q=false:=by simpa [kJ] using ox
      obtain⟨h1,h2⟩:=ug vn iq hp hq vi hg;exact⟨h1,by simp only[Ty.off];omega⟩
     |succ j=>have a1:=nu ta p u iq hp;exact⟨hg,by simp only[Ty.off];omega⟩
    |succ i=>
     simp only[El.set] at hs;obtain⟨z',vn,rfl⟩:=av.1 hs;cases j with
     |zero=>
      have a2:ta.off q+1<=ta.cells:=by have:=nu ta q _ (UC ta q _ _ _ hg) hq;simpa [Ty.cells] using this
      exact⟨hg,by simp only[Ty.off];omega⟩
     |succ j=>
      have vi:(i::p).isPrefixOf (j::q)=false:=by simp [kJ] at ox⊢;exact ox
      obtain⟨h1,h2⟩:=uh vn iq hp hq vi hg;exact⟨h1,by simp only[Ty.off];omega⟩
 |_=>
  intro p q x u y z e t' xs hs iq hp hq ox hg;cases p with
  |nil=>simp at ox
  |cons i p=>simp [Ty.at_] at iq
def bZ.row(X:bZ)(r:Nat)(cs:Array Value):bZ:={X with w:=X.w.setRow r cs}
theorem uC{r id:Nat}{cs:Array Value}(h:X.ow r= .box id){ad:Addr}{v:Value}(hs:X.cf ad v):(X.row r cs).cf ad v:=by
 have fL:ad.block≠r:=λe=>by have:=hs.2.2;rw[e,h] at this;exact this
 refine⟨hs.1,?_,hs.2.2⟩;have:=hs.2.1;simp only[bP,bZ.row] at this⊢;rw[setRow_other X.w r ad.block cs fL];exact this
theorem Hi{r id:Nat}{cs:Array Value}(h:X.ow r= .box id):Ext X (X.row r cs) where
 cf:=λ_ _=>uC h
 size:=by simp [bZ.row]
 os:=rfl
 tape:=rfl
 output:=rfl
 β0:=rfl
 still:=λg _ gv=>by
  have fL:g≠r:=λe=>by rw[e,h] at gv;exact gv
  exact⟨rfl,setRow_other X.w r g cs fL⟩
theorem eO.row{r id:Nat}{cs:Array Value}(h:X.ow r= .box id){pl:Place}{e:TypeId}{k n:Nat}{v:Value}(ho:eO X pl e k n v):eO (X.row r cs) pl e k n v:=by
 rcases ho with ho|⟨g,cap,cur,h1,h2,h3,h4,h5,h6⟩
 ·exact .inl ho
 ·have fL:g≠r:=λe=>by rw[e,h] at h6;cases h6
  exact .inr ⟨g,cap,cur,h1,(setRow_other X.w r g cs fL).trans h2,h3,h4,h5,h6⟩
theorem eI.row{r id:Nat}{cs:Array Value}(h:X.ow r= .box id){pl:List Nat->Place}{t:Ty}{x:El t}{c:List Value}{own:List (List Nat)}(ho:eI X pl t x c own):eI (X.row r cs) pl t x c own:=λp hp=>by obtain⟨e,t',xs,v,g0,g1,g2,g3⟩:=ho p hp;exact⟨e,t',xs,v,g0,g1,g2,g3.row h⟩
theorem cq.row{r id:Nat}{cs:Array Value}(h:X.ow r= .box id){pl:List Nat->Place}{sv:SV}{v:Value}(hk:∀dP a b j,sv= .eU dP a b j->dP≠id)(hr:cq X pl sv v):cq (X.row r cs) pl sv v:=by
 cases sv with
 |undef=>trivial
 |skip=>exact hr
 |jJ=>exact hr
 |m5=>exact hr
 |over=>exact hr
 |b8 t x own=>obtain⟨c,h1,h2,h3⟩:=hr;exact⟨c,h1.bz (λ_ _=>uC h),h2,h3.row h⟩
 |ptr id t p=>exact hr
 |view t x=>obtain⟨ad,c,h1,h2,h3,h4⟩:=hr;exact⟨ad,c,h1,h2,h3.bz (λ_ _=>uC h),λi u hi=>uC h (h4 i u hi)⟩
 |cap f t x u y=>exact Aa (λ_ _=>uC h) hr
 |eU dP a b j=>
  obtain⟨r',h1,h2,h3⟩:=hr;have fL:r'≠r:=λe=>by rw[e,h] at h2;injection h2 with h2;exact hk dP a b j rfl h2.symm
  refine⟨r',h1,h2,?_⟩;simp only[bP] at h3⊢;rw[show(X.row r cs).w.heap[r']? =X.w.heap[r']? from setRow_other X.w r r' cs fL];exact h3
theorem Rel.row{r id:Nat}{B B':fc}{cs:Array Value}(hr:Rel tq X s a)(hb:s.bs[id]? =some (some B))(hβ:X.β id=some r)(h:X.ow r= .box id)(hB:ff (X.row r cs) id r B')(hg:B.t.nf=false\/ []∈B.own):Rel tq (X.row r cs) (s.cD (some (id,B'))) a where
 size:=hr.size
 pc:=by simpa [State.cD] using hr.pc
 gn:=λi l v hl hv=>(hr.gn i l v hl hv).ql λj sv u hm rl=>rl.row h (λdP a b k e e2=>hr.wP hb hg i l a b k hl (e2▸e▸aN hm))
 boxes:=λdP B2 kQ=>by
  have bS:id<s.bs.length:=(aC.1 hb).1;simp only[State.cD,ay] at kQ;by_cases e:id=dP
  ·subst e;rw[if_pos rfl,if_pos bS] at kQ;cases kQ;exact⟨r,hβ,hB⟩
  ·rw[if_neg e] at kQ;obtain⟨r',h1,h4,h2⟩:=hr.boxes dP B2 kQ;have fL:r'≠r:=λe2=>by rw[e2,h] at h4;cases h4;exact e rfl
   exact⟨r',h1,h4,h2.move (λ_ _=>uC h) (setRow_other X.w r r' cs fL) (λcs h5=>h5.row h) λ_ _ g o _ ho hw=>⟨(setRow_other X.w r g cs (λe3=>by rw[e3,h] at hw;cases hw)).trans ho,hw⟩⟩
 live:=λi l dP t p hi hm=>by
  have bS:id<s.bs.length:=(aC.1 hb).1;obtain⟨B2,kQ⟩:=hr.live i l dP t p hi hm;simp only[State.cD,ay];by_cases e:id=dP
  ·subst e;exact⟨B',by rw[if_pos rfl,if_pos bS]⟩
  ·rw[if_neg e];exact⟨B2,kQ⟩
 defers:=hr.defers
 eU:=hr.eU.cD (hr.wP hb hg)
 j8:=hr.j8.ext (Hi h)
theorem KQ(hE:bN P E){T:TypeId}{t:Ty}(ht:E.ty T=some t){x:El t}{cs:List Value}(hr:eC X t x cs){r off:Nat}{cur:Array Value}{T':TypeId}{w:World}(hg:w.heap[r]? =some (.cells cur T' (0,0)))(hf:off+t.cells<=cur.size):
 (storeVar T ⟨r,off,none⟩ (mH t cs)).run P w= .ok () (w.setRow r (cur.toList.take off++cs++cur.toList.drop (off+cs.length)).toArray):=by
 have hl:=hr.len;have gv:=run_storeCells_at P r off T' cs 0 cur w hg (by omega) hr.one;simp only[eZ] at gv;unfold storeVar;simp only[ax,tJ hE ht,al,CX hr];rw[if_neg (by simp [hl])];exact gv
theorem ac4:∀{t:Ty} {p q:List Nat} {x:El t} {u:Ty} {y:El u} {z:El t} {r:(u:Ty)×El u} {X:bZ} {cs:List Value},eC X t x cs->El.set t p x u y=some z->t.at_ p=some u->t.nb p->El.get u q y=some r->El.get t (p++q) z=some r:=by
 intro t
 induction t with
 |arr n t ih=>
  intro p q x u y z r X cs hr hs iq hp hg;cases p with
  |nil=>simp only[Ty.at_,az] at iq;subst iq;simp only[El.set,Ty.iw,dite_true,az] at hs;subst hs;exact hg
  |cons i p=>
   simp only[El.set] at hs;obtain⟨z',vn,rfl⟩:=av.1 hs;obtain⟨h1,h2,h3⟩:=hr;have hi:i<ag x:=by rw[h1];exact hp.1
   simp only[El.get,gi];rw[aq,fu hi];exact ih (h3 i _ (getD_some _ hi)) vn iq hp.2 hg
 |pair ta tb ug uh=>
  intro p q x u y z r X cs hr hs iq hp hg;cases p with
  |nil=>simp only[Ty.at_,az] at iq;subst iq;simp only[El.set,Ty.iw,dite_true,az] at hs;subst hs;exact hg
  |cons i p=>
   obtain⟨c1,c2,_,r1,r2⟩:=hr;cases i with
   |zero=>simp only[El.set] at hs;obtain⟨z',vn,rfl⟩:=av.1 hs;exact ug r1 vn iq hp hg
   |succ i=>simp only[El.set] at hs;obtain⟨z',vn,rfl⟩:=av.1 hs;exact uh (p:=i::p) r2 vn iq hp hg
 |_=>
  intro p q x u y z r X cs hr hs iq hp hg;cases p with
  |nil=>
   simp only[Ty.at_,az] at iq;subst iq;simp only[El.set,Ty.iw,dite_true,az] at hs
   first|subst hs|skip
   exact hg
  |cons i p=>simp [Ty.at_] at iq
theorem RU{t u:Ty}{p:List Nat}{x z:El t}{y:El u}{cs cv:List Value}{own oy:List (List Nat)}{pl:List Nat->Place}(hr:eC X t x cs)(lS:t.nb p)(iq:t.at_ p=some u)(nH:El.set t p x u y=some z)(rep:eC X u y cv)
 (ho:eI X pl t x cs own) (hy:eI X (λq=>pl (p++q)) u y cv oy):eI X pl t z (cs.take (t.off p)++cv++cs.drop (t.off p+cv.length)) (oy.map (λq=>p++q)++EW own p):=by
 have nG:=rep.len;have hle:=nu t p u iq lS;have mZ:=hr.len;intro q hq;rcases aR.1 hq with hq|hq
 ·obtain⟨q,hq2,rfl⟩:=bM.1 hq;obtain⟨e,t',xs,v,g0,g1,g2,g3⟩:=hy q hq2;have bS:=(aC.1 g2).1;refine⟨e,t',xs,v,SU t p q u iq lS g0,ac4 hr nH iq lS g1,?_,g3⟩;rw[KU t p q u iq,bd,bh (by rw[aU];omega),aU,bL (by omega),cg,bG bS];exact g2
 ·obtain⟨hqm,ox⟩:=zak hq;obtain⟨e,t',xs,v,g0,g1,g2,g3⟩:=ho q hqm;obtain⟨k1,k2⟩:=aca nH iq lS g0 ox g1;refine⟨e,t',xs,v,g0,k1,?_,g3⟩;have ux:=zi3 (cs:=cs) (c:=cv) (off:=t.off p) (by omega) (t.off q) 1 (by rw[nG];omega);have h0:=congrArg (λl=>l[0]?) ux;simp only[bj,bI] at h0;simp only[Nat.zero_lt_one,if_true,eZ] at h0;rw[h0];exact g2
theorem ab9(hE:bN P E)(hr:Rel tq X s a){T:TypeId}{u0:Ty}{x y:Operand}(ho:o.op= .store T x y)(hT:E.ty T=some u0){id:Nat}{t:Ty}{p:List Nat}(mj:s.cM x= .ptr id t p)(h:JI u0 s id t p (s.cM y) some=some u):cN P tq X s a o u:=by
 have hx:=hr.cM x;rw[mj] at hx;obtain⟨r0,hβ,hv⟩:=hx;unfold JI at h;split at h
 case h_4=>cases h
 case h_2=>
  rename_i ta tb q;split at h
  case h_2=>cases h
  rename_i u' iq;split at h
  case isFalse=>cases h
  rename_i heq;have:=Ty.cS heq;subst this;obtain⟨x0,own,r,hb,h,gu,h1,how,c,p0,p1,T',cH,cY,Am,An⟩:=J0 hr h;rw[hβ] at h1;cases h1;obtain⟨yv,h,hy⟩:=zy h;split at h
  case h_2=>cases h
  rename_i z hz;cases pu:pa own [] with
  |false=>rw[pu] at h;cases h
  |true=>
  rw[pu,cond_true] at h;cases h;have pu:=G2 pu;obtain⟨cv,rep,ev⟩:=hy X _ _ (hr.cM y);have lS:ta.nb q:=hv.2;have hv:a.eval x= .pointer (some ⟨r0,ta.off q,none⟩):=hv.1;have nG:=cY.len;have hle:=nu ta q u' iq lS;have hvl:=rep.len;have gv:=KQ (P:=P) hE hT rep (off:=ta.off q) (w:=X.w) (r:=r0) (T':=T') cH (by simp;omega);have nP:(c++ [p0,p1,Value.int .i64 x0.2.2]).take (ta.off q)++cv++(c++ [p0,p1,Value.int .i64 x0.2.2]).drop (ta.off q+cv.length)=(c.take (ta.off q)++cv++c.drop (ta.off q+cv.length))++ [p0,p1,Value.int .i64 x0.2.2]:=by rw[ea (by omega),du (by omega)];simp only[bd]
  have dD:(execOp a.eval o).run P X.w= .ok .skip ((X.row r0 ((c.take (ta.off q)++cv++c.drop (ta.off q+cv.length))++ [p0,p1,Value.int .i64 x0.2.2]).toArray).w):=by simp only[execOp,ho,ax,eM,hv,Instr.sureAddr,aD,al,ev,gv];have e2:(aI (ta.off q) (c++ [p0,p1,Value.int .i64 x0.2.2]).toArray.toList++cv++List.drop (ta.off q+cv.length) (c++ [p0,p1,Value.int .i64 x0.2.2]).toArray.toList)=(c.take (ta.off q)++cv++c.drop (ta.off q+cv.length))++ [p0,p1,Value.int .i64 x0.2.2]:=nP;rw[e2];rfl
  have fH:ff (X.row r0 ((c.take (ta.off q)++cv++c.drop (ta.off q+cv.length))++ [p0,p1,Value.int .i64 x0.2.2]).toArray) id r0 ⟨.dC .kF ta tb,(z,x0.2),own⟩:=by
   have hg:∀p∈sZ,∀g o k,X.w.heap[g]? =some o->X.ow g= .row (.b id p) k->(X.row r0 ((c.take (ta.off q)++cv++c.drop (ta.off q+cv.length))++ [p0,p1,Value.int .i64 x0.2.2]).toArray).w.heap[g]? =some o/\(X.row r0 ((c.take (ta.off q)++cv++c.drop (ta.off q+cv.length))++ [p0,p1,Value.int .i64 x0.2.2]).toArray).ow g= .row (.b id p) k:=λp _ g o k hg hw=>by
    have fL:g≠r0:=λe=>by rw[e,how] at hw;cases hw
    exact⟨(setRow_other X.w r0 g _ fL).trans hg,hw⟩
   refine⟨how,⟨_,setRow_heap X.w r0 _ _ T' (0,0) cH⟩,λ_=>⟨c.take (ta.off q)++cv++c.drop (ta.off q+cv.length),p0,p1,T',setRow_heap X.w r0 _ _ T' (0,0) cH,(nJ cY lS iq hz rep).bz (λ_ _=>uC how),Am.move (λ_ _=>uC how) λp hp=> ?_,An.move (λ_ _=>uC how) λp hp=> ?_⟩⟩
   ·rcases hp with rfl|rfl<;>exact hg _ (by simp [sZ])
   ·rcases hp with rfl|rfl<;>exact hg _ (by simp [sZ])
  exact⟨X.row r0 _,aT,.inr ⟨dD,rfl⟩,Hi how,(hr.row (cs:=_) hb hβ how fH (.inr pu)).skip o.dst⟩
 case h_3=>
  rename_i ta tb;split at h
  case isFalse=>cases h
  rename_i heq;have:=Ty.cS heq;subst this;obtain⟨x0,own,r,hb,h,gu,h1,how,c,p0,p1,T',cH,cY,Am,An⟩:=J0 hr h;rw[hβ] at h1;cases h1;obtain⟨n,h,hy⟩:=zy h;cases pu:pa own [] with
  |false=>rw[pu] at h;cases h
  |true=>
  rw[pu,cond_true] at h;cases h;have pu:=G2 pu;obtain⟨cv,rep,ev⟩:=hy X _ _ (hr.cM y);have rep:cv=[.int .i64 n]:=rep;subst rep;have hv:a.eval x= .pointer (some ⟨r0,ta.cells+2,none⟩):=hv.1;have nG:=cY.len;have gv:=KQ (P:=P) hE hT (X:=X) (x:=n) (cs:=[.int .i64 n]) rfl (off:=ta.cells+2) (w:=X.w) (r:=r0) (T':=T') cH (by simp [Ty.cells];omega);have nP:(c++ [p0,p1,Value.int .i64 x0.2.2]).take (ta.cells+2)++ [Value.int .i64 n]++(c++ [p0,p1,Value.int .i64 x0.2.2]).drop (ta.cells+2+1)=c++ [p0,p1,Value.int .i64 n]:=by rw[<-nG,List.take_append,List.drop_append];simp [cp,aP];omega
  have dD:(execOp a.eval o).run P X.w= .ok .skip ((X.row r0 (c++ [p0,p1,Value.int .i64 n]).toArray).w):=by simp only[execOp,ho,ax,eM,hv,Instr.sureAddr,aD,al,ev,gv];have e2:(aI (ta.cells+2) (c++ [p0,p1,Value.int .i64 x0.2.2]).toArray.toList++ [Value.int .i64 n]++List.drop (ta.cells+2+ [Value.int .i64 n].length) (c++ [p0,p1,Value.int .i64 x0.2.2]).toArray.toList)=c++ [p0,p1,Value.int .i64 n]:=nP;rw[e2];rfl
  have fH:ff (X.row r0 (c++ [p0,p1,Value.int .i64 n]).toArray) id r0 ⟨.dC .kF ta tb,(x0.1,x0.2.1,n),own⟩:=by
   have hm:pH X r0 (.b id) ta tb x0:=⟨c,p0,p1,T',cH,cY,Am,An⟩
   have hg:∀p∈sZ,∀g o k,X.w.heap[g]? =some o->X.ow g= .row (.b id p) k->(X.row r0 (c++ [p0,p1,Value.int .i64 n]).toArray).w.heap[g]? =some o/\(X.row r0 (c++ [p0,p1,Value.int .i64 n]).toArray).ow g= .row (.b id p) k:=λp _ g o k hg hw=>by
    have fL:g≠r0:=λe=>by rw[e,how] at hw;cases hw
    exact⟨(setRow_other X.w r0 g _ fL).trans hg,hw⟩
   refine⟨how,⟨_,setRow_heap X.w r0 _ _ T' (0,0) cH⟩,λ_=>⟨c,p0,p1,T',setRow_heap X.w r0 _ _ T' (0,0) cH,cY.bz (λ_ _=>uC how),Am.move (λ_ _=>uC how) λp hp=> ?_,An.move (λ_ _=>uC how) λp hp=> ?_⟩⟩
   ·rcases hp with rfl|rfl<;>exact hg _ (by simp [sZ])
   ·rcases hp with rfl|rfl<;>exact hg _ (by simp [sZ])
  exact⟨X.row r0 _,aT,.inr ⟨dD,rfl⟩,Hi how,(hr.row (cs:=_) hb hβ how fH (.inr pu)).skip o.dst⟩
 rename_i ta tb i;split at h
 case h_2=>cases h
 rename_i B hB;split at h
 case isFalse=>cases h
 rename_i lR;split at h
 case isFalse=>cases h
 rename_i heq;have:=Ty.cS heq;subst this;obtain⟨hb,r,h1,how,cs,T',cH,lV,n5⟩:=J3 hr hB lR;rw[hβ] at h1;cases h1;obtain⟨yv,h,hy⟩:=zy h;obtain⟨cv,rep,ev⟩:=hy X _ _ (hr.cM y);generalize(Ty.cast lR B.x:List (El ta))=xs at*;cases hn:bC (i+1) (ag xs) with
 |false=>rw[hn] at h;cases h
 |true=>
  rw[hn] at h;cases h;have bS:i<ag xs:=b7 hn;have hv:a.eval x= .pointer (some ⟨r0,i*ta.cells,none⟩):=hv;have nG:=rep.len;have hmul:(i+1)*ta.cells<=ag xs*ta.cells:=bp _ bS;rw[bK,cm] at hmul;have lD:i*ta.cells+ta.cells<=cs.size:=by omega
  have BK:i*ta.cells+cv.length<=cs.toList.length:=by simp;omega
  let new:=(cs.toList.take (i*ta.cells)++cv++cs.toList.drop (i*ta.cells+cv.length)).toArray;have pw:new.toList=cs.toList.take (i*ta.cells)++cv++cs.toList.drop (i*ta.cells+cv.length):=rfl;have dD:(execOp a.eval o).run P X.w= .ok .skip ((X.row r0 new).w):=by have gv:=KQ (P:=P) hE hT rep (off:=i*ta.cells) (w:=X.w) (r:=r0) (cur:=cs) (T':=T') cH lD;simp only[execOp,ho,ax,eM,hv,Instr.sureAddr,aD,al,ev,gv];rfl
  have gU:new.size=cs.size:=by
   have:new.toList.length=cs.toList.length:=by rw[pw];simp;omega
   simpa using this
  have fH:ff (X.row r0 new) id r0 ⟨.dC .row ta tb,(cK xs i yv:List (El ta)),[]⟩:=by
   refine⟨how,new,T',setRow_heap X.w r0 cs new T' (0,0) cH,?_,λj z hj=> ?_⟩
   ·rw[gU,lV];show _=ag (cK xs i yv)*_;rw[List.length_set]
   ·refine eC.bz (λ_ _=>uC (cs:=new) how) ?_;have hj:(cK xs i yv)[j]? =some z:=hj;rw[pw];by_cases e:i=j
    ·subst e;rw[fu bS] at hj;cases hj;have:((cs.toList.take (i*ta.cells)++cv++cs.toList.drop (i*ta.cells+cv.length)).drop (i*ta.cells)).take ta.cells=cv:=by rw[bd,du (by rw[aU];omega),aP (by rw[aU];omega),b6,<-nG,dW]
     rw[this];exact rep
    ·rw[iO e] at hj;rw[zi3 (cs:=cs.toList) (c:=cv) (off:=i*ta.cells) BK (j*ta.cells) ta.cells ?_]
     ·exact n5 j z hj
     ·rcases jv e with h|h
      ·have:(i+1)*ta.cells<=j*ta.cells:=bp _ h;rw[bK,cm] at this;right;omega
      ·have:(j+1)*ta.cells<=i*ta.cells:=bp _ h;rw[bK,cm] at this;left;omega
  exact⟨X.row r0 new,aT,.inr ⟨dD,rfl⟩,Hi how,(hr.row (cs:=new) hb hβ how fH (.inl (by rw[Ty.cS lR];rfl))).skip o.dst⟩
theorem adS(hE:bN P E)(hr:Rel tq X s a){ops:List Oper}{T:TypeId}{x y:Operand}(ho:o.op= .store T x y){C:FuncId->gE Out}(h:act E C ops o s some=some u):cN P tq X s a o u:=by
 unfold act at h;simp only[ho] at h;have hx:=hr.cM x;unfold store at h;split at h
 case h_2=>cases h
 rename_i u0 hT;split at h
 case h_2=>cases h
 rename_i id t p e;rw[e] at hx;obtain⟨r,hβ,hx⟩:=hx;split at h
 ·exact ab9 hE hr ho hT e h
 rename_i mQ;have mQ:t.fA=false:=by simpa using mQ
 obtain⟨hv,lS⟩:=(yq mQ).1 hx;split at h
 case h_2=>cases h
 rename_i B hB;split at h
 case isFalse=>cases h
 rename_i heq;have lR:=Ty.cS heq;subst lR;split at h
 case h_2=>cases h
 rename_i u' iq;split at h
 case isFalse=>cases h
 rename_i HP;have:=Ty.cS HP;subst this;have hb:=yt hB;obtain⟨yv,h,hy⟩:=zzm hr h (.inl rfl);split at h
 case h_2=>cases h
 rename_i z nH;cases h;obtain⟨W,cv,hW,hX,U5,rep,ev,hO,hβ2,uw,_⟩:=hy (λq=> .b id (p++q));obtain⟨r',hβW,BF⟩:=U5.boxes id B (by rw[ER];exact hb);obtain⟨cs,T2,cH,cY,how,gu⟩:=BF.cells mQ;have hrr:r'=r:=by rw[hβ2,hβ] at hβW;exact(Option.some.inj hβW).symm
 subst hrr;have lD:B.t.off p+u'.cells<=cs.size:=by have:=nu B.t p u' iq lS;have hl:=cY.len;simp at hl;omega
 let new:=(cs.toList.take (B.t.off p)++cv++cs.toList.drop (B.t.off p+cv.length)).toArray;have dD:(execOp a.eval o).run P X.w= .ok .skip ((W.row r' new).w):=by have gv:=KQ (P:=P) hE hT rep (off:=B.t.off p) (w:=X.w) (r:=r') (cur:=cs) (T':=T2) (by rw[<-hW];exact cH) lD;simp only[execOp,ho,ax,eM,hv,Instr.sureAddr,aD,al,ev,gv];rw[<-hW];rfl
 have BU:=RU cY lS iq nH rep gu hO;have fH:ff (W.row r' new) id r' {t:=B.t,x:=z,own:=(s.cM y).own.map (λq=>p++q)++EW B.own p}:=by
  refine⟨how,me.of mQ (setRow_heap W.w r' cs new T2 (0,0) cH) ?_ ?_⟩
  ·have:=(nJ cY lS iq nH rep).bz (λ_ _=>uC (cs:=new) how);simpa [new] using this
  ·have:=BU.row (cs:=new) how;simpa [new] using this
 have mG:=U5.row (cs:=new) (by rw[ER];exact hb) hβW how fH (.inl (T9 mQ));exact⟨W.row r' new,aT,.inr ⟨dD,rfl⟩,hX.trans (Hi how),mG.skip o.dst⟩
end Go.Ref

namespace Go.Ref
open Go
variable {P:Program} {tq:n4} {E:Env} {X:bZ} {s:State} {a:Act} {o:Oper} {u:Out}
theorem Qs(off:Nat):∀(l:List Value) (k:Nat) (cs:Array Value),off+k+l.length<=cs.size->
 ((l.zipIdx k).foldl (λcs p=>cs.setIfInBounds (off+p.2) p.1) cs).toList=cs.toList.take (off+k)++l++cs.toList.drop (off+k+l.length)
 | [],k,cs,h=>by simp
 |v::r,k,cs,h=>by
  simp only[aF] at h;simp only[List.zipIdx_cons,List.foldl_cons];rw[Qs off r (k+1) _ (by simp;omega)];simp only[Array.toList_setIfInBounds,aF];apply bV;intro q;simp only[iN,bj,bI,aJ,aU,List.length_set,Array.length_toList,ay,aF,List.getElem?_cons];rw[bL (show off+(k+1)<=cs.size by omega),bL (show off+k<=cs.size by omega)];by_cases h1:q<off+k
  ·rw[if_pos (by omega),if_pos (by omega),if_pos (by omega),if_neg (by omega),if_pos (by omega),if_pos (by omega),if_pos (by omega)]
  ·by_cases h2:q=off+k
   ·subst h2;rw[if_pos (by omega),if_pos (by omega),if_pos (by omega),if_pos rfl,if_pos (by omega),if_pos (by omega),if_neg (by omega),if_pos (by omega)]
   ·by_cases h3:q<off+(k+1)+r.length
    ·rw[if_pos (by omega),if_neg (by omega),if_pos (by omega),if_neg (by omega),if_neg (by omega)]
     try(congr 1<;>omega)
    ·rw[if_neg (by omega),if_neg (by omega),if_neg (by omega)]
     first|done|(congr 1;omega)
theorem zpl(off:Nat)(l:List Value)(cs:Array Value)(h:off+l.length<=cs.size):
 ((l.toArray.zipIdx).foldl (λcs (p:Value×Nat)=>cs.setIfInBounds (off+p.2) p.1) cs).toList=cs.toList.take off++l++cs.toList.drop (off+l.length):=by
 have:=Qs off l 0 cs (by omega);rw[<-Array.foldl_toList,Array.toList_zipIdx];simpa using this
theorem Qp(hr:Rel tq X s a){t:Ty}{pl:Nat->ae (Nat×Nat)}(n6:∀i ft,t.at_ [i]=some ft->t.sR i=true->t.nb [i]/\pl i=some (t.off [i],ft.cells)){R:Type}{K:El t->List (List Nat)->ae R}{z:R}:
 ∀(parts:List (Nat×Operand)) (x:El t) (own:List (List Nat)) (cs:Array Value),eC X t x cs.toList->Ac t x own (parts.map λp=>(p.1,s.cM p.2,[])) K=some z->
  ∃y re cells,K y re=some z/\kd pl cs (parts.map λp=>(p.1,a.eval p.2))=some cells/\eC X t y cells.toList
 | [],x,own,cs,rep,h=>⟨x,own,cs,h,rfl,rep⟩
 |(i,p)::r,x,own,cs,rep,h=>by
  simp only[bq,Ac] at h;split at h
  case isTrue=>cases h
  rename_i hb;have hb:t.sR i=true:=by cases BG:t.sR i<;>simp_all
  split at h
  case h_2=>cases h
  rename_i ft iq;obtain⟨y,h,hy⟩:=zy h;split at h
  case h_2=>cases h
  rename_i x' nH;obtain⟨c,rc,ec⟩:=hy X _ _ (hr.cM p);obtain⟨lS,hp⟩:=n6 i ft iq hb;have nG:=rc.len;have mZ:=rep.len;have hle:=nu t [i] ft iq lS;have BZ:=nJ rep lS iq nH rc;have lD:t.off [i]+c.length<=cs.size:=by rw[nG];simp at mZ;omega
  have tn:=zpl (t.off [i]) c cs lD;obtain⟨y2,sr,cells,h1,h2,h3⟩:=Qp hr n6 r x' _ _ (by rw[tn];exact BZ) h;refine⟨y2,sr,cells,h1,?_,h3⟩;simp only[bq,kd,hp,ec,CX rc];rw[if_neg (by simp only[List.size_toArray,nG];simp;simp at mZ;omega)];exact h2
theorem VR{t:Ty}{pl:Nat->ae (Nat×Nat)}(n6:∀i ft,t.at_ [i]=some ft->t.sR i=true->t.nb [i]/\pl i=some (t.off [i],ft.cells)){R:Type}{K:El t->List (List Nat)->ae R}{z:R}:
 ∀(parts:List (Nat×Operand)) (X:bZ) (s:State) (x:El t) (own:List (List Nat)) (cs:Array Value),Rel tq X s a->eC X t x cs.toList->eI X (.r 0) t x cs.toList own->Ac t x own (uD s parts).1 K=some z->
  ∃y re cells Y,K y re=some z/\Y.w=X.w/\Ext X Y/\Rel tq Y (s.close (uD s parts).2) a/\kd pl cs (parts.map λp=>(p.1,a.eval p.2))=some cells/\eC Y t y cells.toList/\eI Y (.r 0) t y cells.toList re
 | [],X,s,x,own,cs,hr,rep,ho,h=>⟨x,own,cs,X,h,rfl,Ext.refl X,hr,rfl,rep,ho⟩
 |(i,p)::r,X,s,x,own,cs,hr,rep,ho,h=>by
  simp only[uD,Ac] at h;split at h
  case isTrue=>cases h
  rename_i hb;have hb:t.sR i=true:=by cases BG:t.sR i<;>simp_all
  split at h
  case h_2=>cases h
  rename_i ft iq;have hc:EV (s.cM p).own p=src p\/((s.cM p).own=[]/\EV (s.cM p).own p=[]):=by
   cases gu:(s.cM p).own with
   |nil=>exact .inr ⟨rfl,rfl⟩
   |cons _ _=>exact .inl rfl
  obtain⟨y,h,hy⟩:=zzm hr h hc;split at h
  case h_2=>cases h
  rename_i x' nH;obtain⟨Y,c,hw,dF,eQ,rc,ec,hO,hβ,hT,gv⟩:=hy (λq=> .r 0 ([i]++q));obtain⟨lS,hp⟩:=n6 i ft iq hb;have nG:=rc.len;have mZ:=rep.len;have hle:=nu t [i] ft iq lS;have OA:=rep.mono dF;have hoY:=ho.stay gv (by simp);have BZ:=nJ OA lS iq nH rc;have BU:=RU OA lS iq nH rc hoY hO;have lD:t.off [i]+c.length<=cs.size:=by rw[nG];simp at mZ;omega
  have tn:=zpl (t.off [i]) c cs lD;obtain⟨y2,sr,cells,Z,h1,CN,ia,lh,h2,h3,h4⟩:=VR n6 r Y _ x' _ _ eQ (by rw[tn];exact BZ) (by rw[tn];exact BU) h;refine⟨y2,sr,cells,Z,h1,CN.trans hw,dF.trans ia,?_,?_,h3,h4⟩
  ·simp only[uD,zh6];exact lh
  ·simp only[bq,kd,hp,ec,CX rc];rw[if_neg (by simp only[List.size_toArray,nG];simp;simp at mZ;omega)];exact h2
theorem zzg(hE:bN P E):∀(fl:List Field) (t:Ty) (off:Nat),qO E fl t off->∃places,fl.mapM (λ(f:Field)=>(P.info? f.type).map λi=>(f.offset,i.size))=some places/\
 ∀(j:Nat) (f:Field) (ft:Ty),fl[j]? =some f->E.ty f.type=some ft->places[j]? =some (f.offset,ft.cells)
 | [],t,off,h=>⟨[],rfl,λj f ft hj=>by simp at hj⟩
 |f::r,t,off,h=>by
  cases t<;>simp only[qO] at h<;>try exact h.elim
  rename_i ta tb;obtain⟨h1,h2,h3,h4⟩:=h;obtain⟨places,g1,g2⟩:=zzg hE r tb _ h4;obtain⟨i,i1,i2,_⟩:=(hE.ty _ _ h2).info;refine⟨(f.offset,i.size)::places,?_,λj g gt hj hg=> ?_⟩
  ·simp [List.mapM_cons,i1,g1]
  ·cases j with
   |zero=>simp only[bQ,az] at hj;subst hj;rw[h2] at hg;cases hg;simp [i2]
   |succ j=>simp only[bH] at hj⊢;exact g2 j g gt hj hg
theorem agj(hE:bN P E)(hr:Rel tq X s a){T:TypeId}{t:Ty}(hT:E.ty T=some t)(zG:t.agg=true){R:Type}{K:El t->List (List Nat)->ae R}{z:R}(parts:Array (Nat×Operand))
 (h:Ac t (El.gA t) (z40 t) (uD s parts.toList).1 K=some z):
 ∃y own cs Y,K y own=some z/\Y.w=X.w/\Ext X Y/\Rel tq Y (s.close (uD s parts.toList).2) a/\eC Y t y cs/\eI Y (.r 0) t y cs own/\(Instr.build T (parts.map λ(i,x)=>(i,a.eval x))).run P X.w= .ok (mH t cs) X.w:=by
 have hf:=hE.ty T t hT;obtain⟨i,i1,i2,i3,i4⟩:=hf.info;have hz:=Ax X t;have hn:=Pw X (.r 0) t;have Oa:(mH t (zp t)).cells=(zp t).toArray:=CX hz;have sQ:(parts.map λ(i,x)=>(i,a.eval x)).toList=parts.toList.map λp=>(p.1,a.eval p.2):=by simp
 cases t with
 |arr n t=>
  obtain⟨e,hu,he,_⟩:=hf.lU;obtain⟨ie,j1,j2,_⟩:=(hE.ty e t he).info;obtain⟨y,own,cells,Y,k1,hw,dF,eQ,k2,k3,k4⟩:=VR (pl:=λi=>some (i*ie.size,ie.size)) (λi ft iq hb=>by
   simp only[Ty.at_,az] at iq;subst iq;have hb:i+1<=n:=by simpa [Ty.sR] using hb
   exact⟨⟨hb,by simp [Ty.nb]⟩,by simp [Ty.off,j2]⟩) parts.toList X s (El.gA (.arr n t)) _ (zp (.arr n t)).toArray hr (by simpa using hz) (by simpa using hn) h
  refine⟨y,own,cells.toList,Y,k1,hw,dF,eQ,k3,k4,?_⟩;rw[rj rfl];refine run_build X.w T _ cells.toList.toArray ?_;unfold lP;simp only[i1,hu,i4,j1,Oa,sQ];simpa using k2
 |pair ta tb=>
  obtain⟨fs,hu,lD,_⟩:=hf.lU;obtain⟨places,p1,p2⟩:=zzg hE fs.toList _ 0 lD;obtain⟨y,own,cells,Y,k1,hw,dF,eQ,k2,k3,k4⟩:=VR (pl:=(places.toArray[·]?)) (λi ft iq hb=>by obtain⟨f,g1,g2,g3,g4⟩:=T4 fs.toList _ 0 i ft lD rfl iq;refine⟨g4,?_⟩;have:=p2 i f ft g1 g3;simp only[List.getElem?_toArray,this,g2,bJ]) parts.toList X s (El.gA (.pair ta tb)) _ (zp (.pair ta tb)).toArray hr (by simpa using hz) (by simpa using hn) h
  refine⟨y,own,cells.toList,Y,k1,hw,dF,eQ,k3,k4,?_⟩;rw[rj rfl];refine run_build X.w T _ cells.toList.toArray ?_;unfold lP;simp only[i1,hu,i4,p1,Oa,sQ];simpa using k2
 |unit=>obtain⟨fs,hu,lD,_⟩:=hf.lU;obtain⟨places,p1,p2⟩:=zzg hE fs.toList _ 0 lD;obtain⟨y,own,cells,Y,k1,hw,dF,eQ,k2,k3,k4⟩:=VR (pl:=(places.toArray[·]?)) (λi ft iq hb=>by simp [Ty.at_] at iq) parts.toList X s (El.gA .unit) _ (zp .unit).toArray hr (by simpa using hz) (by simpa using hn) h;refine⟨y,own,cells.toList,Y,k1,hw,dF,eQ,k3,k4,?_⟩;rw[rj rfl];refine run_build X.w T _ cells.toList.toArray ?_;unfold lP;simp only[i1,hu,i4,p1,Oa,sQ];simpa using k2
 |dC k a b=>exact absurd (hE.qn hT) (by simp [Ty.fA])
 |_=>simp [Ty.agg] at zG
def bZ.vE(X:bZ)(j:Nat)(q:List Nat->Place):bZ:=
 {X with ow:=λg=>match X.ow g with
  | .row (.r j' p) n=>if j'=j then .row (q p) n else .row (.r j' p) n
  |w=>w}
theorem aeq{s:State}{X:bZ}{j:Nat}{q:List Nat->Place}:mM s X (X.vE j q):=by
 refine⟨rfl,rfl,λg=> ?_⟩;simp only[bZ.vE];cases hg:X.ow g with
 |row pl n=>
  cases pl with
  |r j' p=>
   by_cases e:j'=j
   ·subst e;exact .inr ⟨_,n,q p,rfl,λh=>h,by simp⟩
   ·exact .inl (if_neg e)
  |_=>exact .inl rfl
 |_=>exact .inl rfl
theorem eI.EJ{X:bZ}{j:Nat}{q:List Nat->Place}{t:Ty}{x:El t}{cs:List Value}{own:List (List Nat)}(h:eI X (.r j) t x cs own):eI (X.vE j q) q t x cs own:=λp hp=>by
 obtain⟨e,t',xs,v,g0,g1,g2,g3⟩:=h p hp;refine⟨e,t',xs,v,g0,g1,g2,?_⟩;rcases g3 with h|⟨g,cap,cur,h1,h2,h3,h4,h5,h6⟩
 ·exact .inl h
 ·exact .inr ⟨g,cap,cur,h1,h2,h3,h4,h5,by simp [bZ.vE,h6]⟩
theorem adI(hE:bN P E)(hr:Rel tq X s a){ops:List Oper}{T:TypeId}{parts:Array (Nat×Operand)}(ho:o.op= .build T parts){C:FuncId->gE Out}(h:act E C ops o s some=some u):cN P tq X s a o u:=by
 unfold act at h;simp only[ho] at h;split at h
 case h_2=>cases h
 rename_i t hT;split at h
 case isTrue=>cases h
 rename_i zG;have zG:t.agg=true:=by cases BG:t.agg<;>simp_all
 obtain⟨y,own,cs,Y,h,hw,dF,eQ,rep,hO,dD⟩:=agj hE hr hT zG parts h;cases h;have uw:=aeq (s:=s.close (uD s parts.toList).2) (X:=Y) (j:=0) (q:= .c (o.dst.getD 0) 0);refine⟨Y.vE 0 (.c (o.dst.getD 0) 0),mH t cs,.inl ?_,dF.trans uw.ext,(eQ.mod uw.mod).fin ⟨cs,rep.bz (λ_ _=>uw.cf.1),rfl,hO.EJ⟩ (λid t p hm=>by simp at hm)⟩;rw[uw.w,hw];simp only[execOp,ho,ax,dD,al,aD]
end Go.Ref

namespace Go.Ref
open Go
variable {P:Program} {E:Env} {X:bZ} {s:State} {a:Act} {o:Oper} {u:Out}
theorem ajD{t:Ty}{x:El t}{xs:List (El t)}{n:Nat}{c cs:List Value}(h1:eC X t x c)(h2:eC X (.arr n t) xs cs):eC X (.arr (n+1) t) (x::xs:List (El t)) (c++cs):=by
 obtain⟨k1,k2,k3⟩:=h2;have hl:=h1.len;refine⟨by simp;exact k1,by simp [k2,hl,bK];omega,λj y hj=> ?_⟩;cases j with
 |zero=>simp only[bQ,az] at hj;subst hj;rw[Nat.zero_mul,aO,<-hl,dW];exact h1
 |succ j=>
  simp only[bH] at hj;have hd:(c++cs).drop ((j+1)*t.cells)=cs.drop (j*t.cells):=by rw[bK,cm,Nat.add_comm,<-fT,<-hl,fU]
  rw[hd];exact k3 j y hj
theorem KS{t:Ty}{xs ys:List (El t)}{n m:Nat}{c d:List Value}(h1:eC X (.arr n t) xs c)(h2:eC X (.arr m t) ys d):eC X (.arr (n+m) t) (xs++ys:List (El t)) (c++d):=by
 obtain⟨j1,j2,j3⟩:=h1;obtain⟨k1,k2,k3⟩:=h2;refine⟨by rw[aJ,j1,k1],by rw[aJ,j2,k2,bK],λj y hj=> ?_⟩;by_cases bS:j<n
 ·rw[bG (by rw[j1];exact bS)] at hj;have hle:(j+1)*t.cells<=n*t.cells:=bp _ bS;rw[bK,cm] at hle;rw[du (by omega),ea (by rw[bW];omega)];exact j3 j y hj
 ·rw[bh (by rw[j1];omega),j1] at hj;have hd:(c++d).drop (j*t.cells)=d.drop ((j-n)*t.cells):=by
   have hm:j*t.cells=c.length+(j-n)*t.cells:=by rw[j2,<-bK];congr 1;omega
   rw[hm,iX]
  rw[hd];exact k3 _ y hj
theorem zue{t:Ty}{ad:Addr}(hs:ad.spot=none):∀(xs:List (El t)) (p:Nat),(∀(j:Nat) x,xs[j]? =some x->∃m8,eC X t x m8/\∀(i:Nat) v,m8[i]? =some v->X.cf (ad.add (p+(j*t.cells+i))) v)->
 ∃cs,eC X (.arr xs.length t) xs cs/\∀(i:Nat) v,cs[i]? =some v->X.cf (ad.add (p+i)) v
 | [],p,h=>⟨[],⟨rfl,by simp,λj x hj=>by simp at hj⟩,λi v hi=>by simp at hi⟩
 |x::xs,p,h=>by
  obtain⟨c,r1,s1⟩:=h 0 x rfl;obtain⟨cs,r2,s2⟩:=zue hs xs (p+t.cells) (λj y hj=>by obtain⟨c',r',s'⟩:=h (j+1) y hj;refine⟨c',r',λi v hi=> ?_⟩;have:=s' i v hi;rw[show p+((j+1)*t.cells+i)=p+t.cells+(j*t.cells+i) by rw[bK];omega] at this;exact this)
  have hl:=r1.len;refine⟨c++cs,ajD r1 r2,λi v hi=> ?_⟩;rw[iN] at hi;split at hi
  ·have:=s1 i v hi
   rwa [show p+(0*t.cells+i)=p+i by omega] at this
  ·have:=s2 _ v hi
   rwa [show p+t.cells+(i-c.length)=p+i by omega] at this
theorem zaq{e:TypeId}{t:Ty}{xs:List (El t)}{A:ae Addr}{n c:Nat}(h:eC X (.sl e t) xs [.slice A n c]):n=xs.length/\xs.length<=c/\
 ∃cs,eC X (.arr xs.length t) xs cs/\(A=none->xs=[])/\∀ad,A=some ad->∀(i:Nat) v,cs[i]? =some v->X.cf (ad.add i) v:=by
 obtain⟨A',c',h1,h2,h3⟩:=h;simp only[List.cons.injEq,Value.slice.injEq,and_true] at h1;obtain⟨rfl,rfl,rfl⟩:=h1;refine⟨rfl,h2,?_⟩;cases xs with
 |nil=>exact⟨[],⟨rfl,by simp,λj x hj=>by simp at hj⟩,λ_=>rfl,λad _ i v hi=>by simp at hi⟩
 |cons x r=>
  obtain⟨ad,_,hA,hs,_⟩:=h3 0 x rfl;subst hA;obtain⟨cs,k1,k2⟩:=zue (X:=X) hs (x::r) 0 (λj y hj=>by obtain⟨ye,c',e1,_,g1,g2⟩:=h3 j y hj;cases e1;exact⟨c',g1,λi v hi=>by rw[bJ];exact g2 i v hi⟩)
  refine⟨cs,k1,(λe=>by cases e),λye e i v hi=> ?_⟩;cases e;have:=k2 i v hi
  rwa [bJ] at this
theorem zi4{e:TypeId}{t:Ty}{xs:List (El t)}{g cap:Nat}{pl:Place}{cur:Array Value}{cs:List Value}(hg:X.w.heap[g]? =some (.cells cur e (0,0)))(how:X.ow g= .row pl (xs.length*t.cells))
 (vl:cur.toList.take (xs.length*t.cells)=cs) (cY:eC X (.arr xs.length t) xs cs) (ve:xs.length<=cap):eC X (.sl e t) xs [.slice (some ⟨g,0,none⟩) xs.length cap]:=by
 refine⟨_,cap,rfl,ve,λj x hj=>⟨_,_,rfl,rfl,cY.2.2 j x hj,λi v hi=> ?_⟩⟩;have BM:=(aC.1 hj).1;have hle:(j+1)*t.cells<=xs.length*t.cells:=bp _ BM;rw[bK,cm] at hle;rw[bj] at hi;split at hi
 case isFalse=>cases hi
 rename_i U0;rw[bI,<-vl,bj,if_pos (by omega)] at hi;refine⟨G8 rfl _,?_,?_⟩
 ·rw[qc,bJ];simp only[bP,hg];simpa using hi
 ·rw[qc,bJ];show Ow.used (X.ow g) _;rw[how];show j*t.cells+i<_;omega
end Go.Ref

namespace Go.Ref
open Go
variable {P:Program} {tq:n4} {E:Env} {X:bZ} {s:State} {a:Act} {o:Oper} {u:Out}
theorem Pb{R:Type}{t:Ty}{n:Nat}{K:List (El t)->ae R}:∀(parts:List (Nat×SV)) (xs:List (El t)) (own:List (List Nat)),xs.length=n->Hn t xs parts K=Ac (.arr n t) xs own (parts.map λp=>(p.1,p.2,[])) (λy _=>K y)
 | [],xs,own,h=>rfl
 |(i,v)::r,xs,own,h=>by subst h;simp only[Hn,bq,Ac,Ty.sR,Ty.at_,El.set,Ty.iw,dite_true,Option.map_some];congr 1;refine congrArg (v.el t) (funext λy=> ?_);exact Pb r (xs.set i y) _ (by simp)
theorem ahU{t:Ty}(n:Nat)(hk:0<t.cells):((fB (n*t.cells)).map λi=>(zp t).toArray[i % (zp t).toArray.size]!).toList=(aB n (zp t)).flatten:=by
 have hz:=Cv t;apply bV;intro q;have hlen:((aB n (zp t)).flatten).length=n*t.cells:=by simp [hz]
 by_cases hq:q<n*t.cells
 ·have h1:q/t.cells<n:=(kE hk).2 hq;have h2:=z9b hz n (q/t.cells) h1;have h3:=congrArg (λl=>l[q % t.cells]?) h2;simp only[bj,bI,if_pos (Nat.mod_lt q hk)] at h3;rw[Nat.mul_comm,Nat.div_add_mod] at h3;rw[h3];have hm:q % t.cells<(zp t).length:=by rw[hz];exact Nat.mod_lt q hk
  rw[au hm];simp [hq,hz,hm];rw[au hm];rfl
 ·rw[aQ (by simp;omega),aQ (by omega)]
theorem RS{X:bZ}{pl:List Nat->Place}{e:TypeId}{t:Ty}{xs:List (El t)}{v:Value}(h:eO X (pl []) e t.cells xs.length v):eI X pl (.sl e t) xs [v] [[]]:=λp hp=>by
 have hp:p=[]:=by simpa using hp
 subst hp;exact⟨e,t,xs,v,by simp [Ty.nb],rfl,rfl,h⟩
theorem zte(hE:bN P E)(hr:Rel tq X s a){ops:List Oper}{T:TypeId}{n:Nat}{parts:Array (Nat×Operand)}(ho:o.op= .buildSlice T n parts){C:FuncId->gE Out}(h:act E C ops o s some=some u):cN P tq X s a o u:=by
 unfold act at h;simp only[ho] at h;split at h
 case h_2=>cases h
 rename_i e t hT;split at h
 case isTrue=>cases h
 rename_i Gl;have hk:0<t.cells:=by rcases Nat.eq_zero_or_pos t.cells with h0|h0<;>simp_all
 cases hb:bC (n*t.cells) 16777216 with
 |false=>rw[hb] at h;cases h
 |true=>
  rw[hb] at h;simp only[cond_true] at h;have B3:n*t.cells<=16777216:=b7 hb;rw[Pb (n:=n) _ _ [] (by simp),List.map_map] at h;obtain⟨hu,he⟩:=(hE.ty T _ hT).lU;have lV:=tJ (P:=P) hE he X.w;have hzr:=Wk (P:=P) hE he X.w;have N9:=Ax X (.arr n t);obtain⟨y,re,cells,k1,k2,k3⟩:=Qp (pl:=λi=>some (i*t.cells,t.cells)) hr (λi ft iq hb=>by
   simp only[Ty.at_,az] at iq;subst iq;have hb:i+1<=n:=by simpa [Ty.sR] using hb
   exact⟨⟨hb,by simp [Ty.nb]⟩,by simp [Ty.off]⟩) parts.toList (El.gA (.arr n t)) [] (zp (.arr n t)).toArray (by simpa using N9) h
  cases k1;have hy:ag y=n:=k3.1;have mZ:cells.size=n*t.cells:=by have:=k3.2.1;simpa using this
  have hn:n<=n*t.cells:=Nat.le_mul_of_pos_right n hk;let Y:=X.new cells e (.row (.c (o.dst.getD 0) 0 []) (n*t.cells)) X.β;have Ea:nk s X Y:=Te X s cells e _ _ rfl (λ_ _ _=>rfl);obtain⟨n1,n2⟩:=S6 X cells e (.row (.c (o.dst.getD 0) 0 []) (n*t.cells)) X.β;refine⟨Y,.slice (some ⟨X.w.heap.size,0,none⟩) n n,.inl ?_,Ea.ext,?_⟩
  ·have hcz:(Array.map (λx=>(mH t (zp t)).cells[x % (mH t (zp t)).cells.size]!) (fB (n*t.cells)))=(zp (.arr n t)).toArray:=by apply Array.ext';rw[CX (Ax X t),ahU n hk];rfl
   have sQ:(parts.map λ(i,x)=>(i,a.eval x)).toList=parts.toList.map λp=>(p.1,a.eval p.2):=by simp
   by_cases hn0:n*t.cells=0
   ·have aar:n=0:=by
     rcases Nat.mul_eq_zero.1 hn0 with h0|h0
     ·exact h0
     ·omega
    subst aar;have k2':kd (λi=>some (i*t.cells,t.cells)) #[] (parts.toList.map λp=>(p.1,a.eval p.2))=some cells:=k2;have aom:(parts.map λx=>(x.1,a.eval x.2)).toList=parts.toList.map λp=>(p.1,a.eval p.2):=by simp
    simp [execOp,ho,Instr.buildSlice,run_underlying hu,lV,newRow,Y,bZ.new];rw[show(Array.map (λx=>default) (fB 0):Array Value)= #[] by simp,k2'];simp
   ·have hc:=hcz;simp [execOp,ho,Instr.buildSlice,run_underlying hu,lV,hzr,hn0,newRow,Y,bZ.new,Nat.not_lt.2 B3];rw[hcz,k2];simp
  ·refine(hr.lH Ea).fin ?_ (λid t p hm=>by simp at hm);refine⟨[.slice (some ⟨X.w.heap.size,0,none⟩) n n],?_,rfl,RS ?_⟩
   ·rw[<-hy];refine zi4 (pl:= .c (o.dst.getD 0) 0 []) (cur:=cells) (cs:=cells.toList) n1 (by rw[hy];exact n2) ?_ ?_ (bg _)
    ·rw[hy,cp (by simp [mZ])]
    ·rw[hy];exact k3.bz (λ_ _=>Ea.cf)
   ·refine .inr ⟨X.w.heap.size,n,cells,by rw[hy],n1,by rw[hy];exact bg _,?_,mZ,by rw[hy];exact n2⟩;simp only[maxLen];omega
end Go.Ref

