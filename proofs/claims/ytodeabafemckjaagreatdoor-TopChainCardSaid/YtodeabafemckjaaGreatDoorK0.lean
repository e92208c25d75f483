/- No condition. -/
import Derived.Orders
import Derived.Below
import Derived.Maps.AppendAt
import Derived.WalkKit
import Derived.Lib.AppendStr
import Derived.Shelf.Strings.BuilderF
set_option linter.unusedVariables false
set_option linter.unusedSimpArgs false
set_option maxRecDepth 100000
open Array renaming getElem?_eq_getElem->bh,getElem?_toList->bz,toArray_toList->bW,getElem?_setIfInBounds->di,getElem?_eq_some_iff->fT,range->fH
open BitVec renaming ofInt->fg
open Bool renaming and_eq_true->ap,false_eq_true->cK,true_and->dW
open ByteArray renaming emptyWithCapacity->iY
open ForInStep renaming yield->kS
open Go renaming undef->aW,binOp->bQ
open Go.Builtin renaming unsafeSliceData_->eZ,len_->kE
open Go.ByteArray renaming toList_eq->lC
open Go.Instr renaming sliceBounds->fQ,indexAt->gA,loadAt->fZ,storeAt->eV,fill->kv,fieldAt->ka,alloc->mK
open Go.Lib renaming cell_of_heap->dI,strCells->ew,run_unsafeSliceData_row->jd
open Go.Op renaming equalIn->dp,bytesLess->kI,equal->kJ,intArith->ln,stringOp->lr,maxDepth->lp
open Go.Program renaming built->l5
open Go.Proofs.Any renaming unsafeString_none->iw
open Go.Proofs.Body renaming n169_ntmps->jg
open Go.Result renaming andThen_ok->aj
open Go.Sem renaming run_bind->ay,run_pure->aG,run_ite->iF
open Go.Value renaming ownBlock->eN
open Go.World renaming cell?->bT,block_lt_of_cell?->eE
open List renaming length->ag,getD->ah,getD_eq_getElem?_getD->al,getElem?_eq_getElem->av,getElem?_eq_some_iff->aA,getElem?_set->az,replicate->aw,length_cons->aB,length_append->aF,drop_eq_nil_of_le->aK,mem_of_getElem?->aL,getElem?_map->aP,drop_zero->aN,getElem?_eq_none->aS,take->aJ,append_assoc->aQ,mem_append->aT,all_eq_true->aR,length_take->aU,getElem?_append_right->bc,getElem?_append_left->bj,mem_filter->bf,map_cons->bd,eq_nil_of_length_eq_zero->bp,getElem?_take->bq,mem_map->bm,nil_append->bD,getElem?_drop->bJ,getElem?_cons_succ->bI,append_nil->bM,length_drop->bF,getElem?_cons_zero->bU,ext_getElem?->bZ,take_length->cF,take_of_length_le->bV,any_eq_false->cH,set->b8,mem_iff_getElem?->cX,drop_append_of_le_length->dE,take_zero->cZ,drop_drop->dL,cons_append->gv,take_append_of_le_length->er,drop_left->gb,take_take->lA,getElem?_set_self->fB,take_left->eb,getElem?_append->iU,drop_length->kx,drop_take->lz,isPrefixOf_iff_prefix->gd,getElem?_set_ne->iV,replicate_succ->fh,drop_length_add_append->je,isPrefixOf->kW
open Nat renaming eq_of_beq_eq_true->aH,beq->ak,le_refl->aZ,mul_le_mul_right->bB,zero_add->bK,ble->bn,add_mul->bL,min_eq_left->bN,le_of_ble_eq_true->ci,add_sub_cancel_left->cp,zero_le->bS,one_mul->ct,le_of_not_lt->eM,add_zero->fj,div_lt_iff_lt_mul->kQ,add_assoc->l4,lt_or_gt_of_ne->jE
open Option renaming map_eq_some_iff->ax,bind_assoc->jY
open Option.some renaming injEq->aC
open Sigma.mk renaming injEq->eh
namespace Go.Ref
abbrev ae.{u}:Type u->Type u:=Option
abbrev af:Type:=ByteArray
open Go
structure CV(T e:TypeId)(b:Nat)(v:Value)(bs:List Value)(w:World):Prop where
 vR:w.heap[b]? =some (.cells #[.pointer none,v] T (0,0))\/w.heap[b]? =some (.cells #[.pointer (some ⟨b,0,none⟩),v] T (0,0))
 own:w.ownsRow 0 e 1 v bs.length bs
 ne:v.ownBlock≠some b
theorem CV.lt{T e:TypeId}{b:Nat}{v:Value}{bs:List Value}{w:World}(h:CV T e b v bs w):b<w.heap.size:=by
 rcases Nat.lt_or_ge b w.heap.size with h'|h'
 ·exact h'
 ·rcases h.vR with h|h<;>simp [Array.getElem?_eq_none h'] at h
theorem CV.same{T e:TypeId}{b:Nat}{v:Value}{bs:List Value}{w w':World}(h:CV T e b v bs w)(hb:w'.heap[b]? =w.heap[b]?)(hg:∀g o,v.ownBlock=some g->w.heap[g]? =some o->w'.heap[g]? =some o):CV T e b v bs w':=by
 refine⟨by rw[hb];exact h.vR,⟨h.own.1,?_⟩,h.ne⟩;rcases h.own.2 with hn|⟨g,cap,cur,hv,h0,Im,rest⟩
 ·exact .inl hn
 ·exact .inr ⟨g,cap,cur,hv,h0,hg g _ (by rw[hv];rfl) Im,rest⟩
inductive Spc where
 |iter
 |mp
 |row
 |rh (n:Nat)
 |sd (T e:Nat)
 |own
 |CX (f:Nat)
 |lh
 deriving DecidableEq,Inhabited
@[reducible] def DM:Spc->Type->Type->Type
  | .iter,_,_=>af×Nat
  | .mp,a,b=>List (a×b)
  | .row,a,_=>List a
  | .rh _,_,_=>Unit
  | .sd _ _,_,_=>af
  | .own,a,_=>ae a
  | .CX _,_,_=>Unit
  | .lh,a,b=>a×(ae b×ae b)×Int
def DM.gG:(k:Spc)->(a b:Type)->a->DM k a b
 | .iter,_,_,_=>((⟨#[]⟩:af),(0:Nat))
 | .mp,_,_,_=>[]
 | .row,_,_,_=>[]
 | .rh _,_,_,_=>()
 | .sd _ _,_,_,_=>(⟨#[]⟩:af)
 | .own,_,_,_=>none
 | .CX _,_,_,_=>()
 | .lh,_,_,x=>(x,(none,none),(0:Int))
inductive Ty where
 |bool
 |int (k:IntKind)
 |str
 |sl (e:TypeId) (t:Ty)
 |arr (n:Nat) (t:Ty)
 |unit
 |pair (a b:Ty)
 |dJ (k:Spc) (a b:Ty)
 deriving Inhabited
@[reducible] def El:Ty->Type
  | .bool=>Bool
  | .int _=>Int
  | .str=>af
  | .sl _ t=>List (El t)
  | .arr _ t=>List (El t)
  | .unit=>Unit
  | .pair a b=>El a×El b
  | .dJ k a b=>DM k (El a) (El b)
def El.gG:(t:Ty)->El t
 | .bool=>false
 | .int _=>(0:Int)
 | .str=>(⟨#[]⟩:af)
 | .sl _ _=>[]
 | .arr n t=>aw n (El.gG t)
 | .unit=>()
 | .pair a b=>(El.gG a,El.gG b)
 | .dJ k a b=>DM.gG k (El a) (El b) (El.gG a)
def Ty.iS:Ty->Ty->Bool
 | .bool,.bool=>true
 | .str,.str=>true
 | .unit,.unit=>true
 | .int j,.int k=>decide (j=k)
 | .sl e t,.sl f u=>ak e f&&Ty.iS t u
 | .arr n t,.arr m u=>ak n m&&Ty.iS t u
 | .pair a b,.pair c d=>Ty.iS a c&&Ty.iS b d
 | .dJ k a b,.dJ j c d=>decide (k=j)&&(Ty.iS a c&&Ty.iS b d)
 |_,_=>false
theorem Ty.cT:∀{t u:Ty},t.iS u=true->t=u:=by
 intro t
 induction t with
 |bool=>intro u h;cases u<;>simp_all [Ty.iS]
 |int k=>intro u h;cases u<;>simp_all [Ty.iS]
 |str=>intro u h;cases u<;>simp_all [Ty.iS]
 |unit=>intro u h;cases u<;>simp_all [Ty.iS]
 |sl e t ih=>intro u h;cases u<;>simp [Ty.iS] at h;obtain⟨h1,h2⟩:=h;rw[ih h2,h1]
 |arr e t ih=>intro u h;cases u<;>simp [Ty.iS] at h;obtain⟨h1,h2⟩:=h;rw[ih h2,h1]
 |pair a b uZ u6=>intro u h;cases u<;>simp [Ty.iS] at h;rw[uZ h.1,u6 h.2]
 |dJ k a b uZ u6=>intro u h;cases u<;>simp [Ty.iS] at h;rw[h.1,uZ h.2.1,u6 h.2.2]
theorem Ty.iG:∀t:Ty,t.iS t=true
 | .bool=>rfl
 | .str=>rfl
 | .unit=>rfl
 | .int k=>by simp [Ty.iS]
 | .sl e t=>by simp [Ty.iS,Ty.iG t]
 | .arr e t=>by simp [Ty.iS,Ty.iG t]
 | .pair a b=>by simp [Ty.iS,Ty.iG a,Ty.iG b]
 | .dJ k a b=>by simp [Ty.iS,Ty.iG a,Ty.iG b]
def Ty.cast{t u:Ty}(h:t.iS u=true)(x:El t):El u:=Ty.cT h▸x
def Ty.cells:Ty->Nat
 | .arr n t=>n*t.cells
 | .unit=>0
 | .pair a b=>a.cells+b.cells
 | .dJ _ _ _=>0
 |_=>1
def Ty.agg:Ty->Bool
 | .arr .. | .unit| .pair .. | .dJ .. =>true
 |_=>false
def Ty.at_:Ty->List Nat->ae Ty
 |t,[]=>some t
 | .arr _ t,_::p=>t.at_ p
 | .pair a _,0::p=>a.at_ p
 | .pair _ b,(j+1)::p=>b.at_ (j::p)
 |_,_=>none
def Ty.off:Ty->List Nat->Nat
 |_,[]=>0
 | .arr _ t,i::p=>i*t.cells+t.off p
 | .pair a _,0::p=>a.off p
 | .pair a b,(j+1)::p=>a.cells+b.off (j::p)
 |_,_=>0
def El.get:(t:Ty)->List Nat->El t->ae ((u:Ty)×El u)
 |t,[],x=>some ⟨t,x⟩
 | .arr _ t,i::p,xs=>El.get t p (xs.getD i (El.gG t))
 | .pair a _,0::p,x=>El.get a p x.1
 | .pair _ b,(j+1)::p,x=>El.get b (j::p) x.2
 |_,_::_,_=>none
def El.set:(t:Ty)->List Nat->El t->(u:Ty)->El u->ae (El t)
 |t,[],_,u,y=>if h:u.iS t=true then some (Ty.cast h y) else none
 | .arr _ t,i::p,xs,u,y=>(El.set t p (xs.getD i (El.gG t)) u y).map λz=>b8 xs i z
 | .pair a _,0::p,x,u,y=>(El.set a p x.1 u y).map λz=>(z,x.2)
 | .pair _ b,(j+1)::p,x,u,y=>(El.set b (j::p) x.2 u y).map λz=>(x.1,z)
 |_,_::_,_,_,_=>none
def Ty.nH:Ty->List Nat->Prop
 |_,[]=>True
 | .arr n t,i::p=>i<n/\t.nH p
 | .pair a _,0::p=>a.nH p
 | .pair _ b,(j+1)::p=>b.nH (j::p)
 |_,_=>False
inductive Place where
 |c (i j:Nat) (p:List Nat)
 |b (id:Nat) (p:List Nat)
 |r (j:Nat) (p:List Nat)
inductive Ow where
 |all
 |ro (n:Nat)
 |box (id:Nat)
 |row (pl:Place) (n:Nat)
def Ow.used:Ow->Nat->Prop
 | .all,_=>True
 | .ro n,o=>o<n
 | .box _,_=>False
 | .row _ n,o=>o<n
def Ow.still:Ow->Prop
 | .all| .ro _=>True
 |_=>False
structure cc where
 w:World
 ow:Nat->Ow
 β:Nat->ae Nat
def cc.cn(X:cc)(a:Addr)(v:Value):Prop:=a.spot=none/\X.w.cell? a=some v/\(X.ow a.block).used a.off
structure Ext(X Y:cc):Prop where
 cn:∀a v,X.cn a v->Y.cn a v
 size:X.w.heap.size<=Y.w.heap.size
 os:Y.w.os=X.w.os
 tape:Y.w.tape=X.w.tape
 output:Y.w.output=X.w.output
 β0:Y.β 0=X.β 0
 still:∀g,g<X.w.heap.size->(X.ow g).still->Y.ow g=X.ow g/\Y.w.heap[g]? =X.w.heap[g]?
theorem Ext.refl(X:cc):Ext X X:=⟨λ_ _ h=>h,aZ _,rfl,rfl,rfl,rfl,λ_ _ _=>⟨rfl,rfl⟩⟩
theorem Ext.trans{X Y Z:cc}(h:Ext X Y)(k:Ext Y Z):Ext X Z:=
 ⟨λa v hs=>k.cn a v (h.cn a v hs),Nat.le_trans h.size k.size,k.os.trans h.os,k.tape.trans h.tape,k.output.trans h.output,k.β0.trans h.β0,
  λg hg gy=>by obtain⟨h1,h2⟩:=h.still g hg gy;obtain⟨k1,k2⟩:=k.still g (Nat.lt_of_lt_of_le hg h.size) (by rw[h1];exact gy);exact⟨k1.trans h1,k2.trans h2⟩⟩
theorem cc.qV{X:cc}{a:Addr}{v:Value}(h:X.cn a v):a.block<X.w.heap.size:=eE X.w a h.2.1
def eI(X:cc):(t:Ty)->El t->List Value->Prop
 | .bool,b,cs=>cs=[.bool b]
 | .int k,n,cs=>cs=[.int k n]
 | .str,s,cs=>cs=[.string s]
 | .sl _ t,xs,cs=>∃A c,cs=[.slice A xs.length c]/\xs.length<=c/\
    ∀j x,xs[j]? =some x->∃ad nG,A=some ad/\ad.spot=none/\eI X t x nG/\∀i v,nG[i]? =some v->X.cn (ad.add (j*t.cells+i)) v
 | .arr n t,xs,cs=>xs.length=n/\cs.length=n*t.cells/\∀j x,xs[j]? =some x->eI X t x ((cs.drop (j*t.cells)).take t.cells)
 | .unit,_,cs=>cs=[]
 | .pair a b,x,cs=>∃c1 c2,cs=c1++c2/\eI X a x.1 c1/\eI X b x.2 c2
 | .dJ _ _ _,_,cs=>cs=[]
theorem eI.bE{X Y:cc}(h:∀a v,X.cn a v->Y.cn a v):∀{t:Ty} {x:El t} {cs:List Value},eI X t x cs->eI Y t x cs
 | .bool,_,_,hr=>hr
 | .int _,_,_,hr=>hr
 | .str,_,_,hr=>hr
 | .unit,_,_,hr=>hr
 | .sl _ t,xs,cs,⟨A,c,h1,h2,h3⟩=>⟨A,c,h1,h2,λj x hj=>by obtain⟨ad,nG,h4,h5,h6,h7⟩:=h3 j x hj;exact⟨ad,nG,h4,h5,eI.bE h h6,λi v hi=>h _ _ (h7 i v hi)⟩⟩
 | .arr n t,xs,cs,⟨h1,h2,h3⟩=>⟨h1,h2,λj x hj=>eI.bE h (h3 j x hj)⟩
 | .pair a b,x,cs,⟨c1,c2,h1,h2,h3⟩=>⟨c1,c2,h1,eI.bE h h2,eI.bE h h3⟩
 | .dJ _ _ _,_,_,hr=>hr
theorem eI.mono{X Y:cc}(h:Ext X Y){t:Ty}{x:El t}{cs:List Value}(hr:eI X t x cs):eI Y t x cs:=eI.bE h.cn hr
theorem eI.len{X:cc}:∀{t:Ty} {x:El t} {cs:List Value},eI X t x cs->cs.length=t.cells
 | .bool,_,_,hr=>by cases hr;rfl
 | .int _,_,_,hr=>by cases hr;rfl
 | .str,_,_,hr=>by cases hr;rfl
 | .unit,_,_,hr=>by cases hr;rfl
 | .sl _ t,xs,cs,⟨A,c,h1,_⟩=>by cases h1;rfl
 | .arr n t,xs,cs,⟨h1,h2,h3⟩=>h2
 | .pair a b,x,cs,⟨c1,c2,h1,h2,h3⟩=>by rw[h1,aF,h2.len,h3.len];rfl
 | .dJ _ _ _,_,_,hr=>by cases hr;rfl
theorem abS{cs:List Value}{n k:Nat}{u:Value}(hu:u∈cs)(hk:cs.length=n*k):∃j,j<n/\u∈(cs.drop (j*k)).take k:=by
 obtain⟨q,hq,rfl⟩:=List.mem_iff_getElem.1 hu;have GH:0<k:=by
  rcases Nat.eq_zero_or_pos k with h|h
  ·subst h;simp at hk;subst hk;simp at hq
  ·exact h
 refine⟨q/k,by rw[kQ GH,<-hk];exact hq,?_⟩;rw[cX];refine⟨q % k,?_⟩;rw[bq,if_pos (Nat.mod_lt _ GH),bJ,Nat.mul_comm,Nat.div_add_mod,av hq]
theorem eI.one{X:cc}:∀{t:Ty} {x:El t} {cs:List Value},eI X t x cs->∀u∈cs,u.oneCell'=true
 | .bool,_,_,hr,u,hu=>by cases hr;simp at hu;subst hu;rfl
 | .int _,_,_,hr,u,hu=>by cases hr;simp at hu;subst hu;rfl
 | .str,_,_,hr,u,hu=>by cases hr;simp at hu;subst hu;rfl
 | .unit,_,_,hr,u,hu=>by cases hr;simp at hu
 | .sl _ t,xs,cs,⟨A,c,h1,_⟩,u,hu=>by cases h1;simp at hu;subst hu;rfl
 | .arr n t,xs,cs,⟨h1,h2,h3⟩,u,hu=>by obtain⟨j,hj,hm⟩:=abS hu h2;exact eI.one (h3 j _ (av (by omega))) u hm
 | .pair a b,x,cs,⟨c1,c2,h1,h2,h3⟩,u,hu=>by
   rw[h1] at hu;rcases aT.1 hu with hu|hu
   ·exact h2.one u hu
   ·exact h3.one u hu
 | .dJ _ _ _,_,_,hr,u,hu=>by cases hr;simp at hu
end Go.Ref

namespace Go.Ref
open Go Go.Shelf Go.RowKit Go.Proofs
variable {P:Program} {ρ:Ren}
structure pJ(b:Nat)(g:ae Nat)(w w':World):Prop where
 os:w'.os=w.os
 tape:w'.tape=w.tape
 output:w'.output=w.output
 size:w.heap.size<=w'.heap.size
 block:∀k,k<w.heap.size->k≠b->some k≠g->w'.heap[k]? =w.heap[k]?
theorem pJ.of{b:Nat}{g:ae Nat}{w w':World}(h:w.grownBy w' g):pJ b g w w':=⟨h.os,h.tape,h.output,h.size,λk hk _ hg=>h.block k hk hg⟩
theorem pJ.trans{b:Nat}{g:ae Nat}{u v w:World}(h:pJ b g u v)(k:pJ b g v w):pJ b g u w:=
 ⟨k.os.trans h.os,k.tape.trans h.tape,k.output.trans h.output,Nat.le_trans h.size k.size,λi hi h1 h2=>(k.block i (Nat.lt_of_lt_of_le hi h.size) h1 h2).trans (h.block i hi h1 h2)⟩
theorem pJ.refl{b:Nat}{g:ae Nat}(w:World):pJ b g w w:=⟨rfl,rfl,rfl,aZ _,λ_ _ _ _=>rfl⟩
theorem pJ.setCell{b:Nat}{g:ae Nat}(w:World)(a:Addr)(ha:a.block=b)(u:Value):pJ b g w (w.setCell a u):=
 ⟨rfl,rfl,rfl,by simp [World.setCell],λk _ hk _=>Below.heap_setCell _ _ _ _ (by rw[ha];exact hk)⟩
theorem afd{w:World}(t u ty e:TypeId)(i:TypeInfo)(ht:P.underlying t=some (.slice e))(hu:P.underlying u=some .string)(hi:P.info? e=some i)(hz:i.zero=some (.int .u8 0))(hM:i.size=1)(wS:i.bytes=1)
 (v:Value) (n:Nat) (xs:List Value) (gD:w.ownsRow 0 e 1 v n xs) (s:af) (Gq:n+s.size<=maxLen) (ph:n+s.size<=140737488355328) {v':Value} {w':World}
 (h:(Builtin.append_ #[t,u] ty #[v,.string s]).run P w= .ok v' w'):∀g,v'.ownBlock=some g->v.ownBlock=some g\/g=w.heap.size:=by
 have AU:xs.length=n:=by simpa using gD.1
 have Cu:n+s.size<=9223372036854775807:=by simp only[maxLen] at Gq;omega
 intro g0 Il;rcases gD.2 with⟨rfl,rfl⟩|⟨g,cap,cur,rfl,hbg,hg,NW,AO,nB,wu⟩
 ·by_cases hm:s.size=0
  ·have hf:=Lib.run_firstCells_string (P:=P) w 1 s;rw[hm] at hf;simp [Builtin.append_,run_underlying ht,run_underlying hu,sizeOf,typeInfo,hi,hM,Builtin.lenOf,hm,hf] at h;rw[<-h.1] at Il;simp [eN] at Il
  ·have hr:=run_append_nil_string (P:=P) w t u ty e i (.int .u8 0) ht hu hi hz s (by omega) (by omega) (by rw[wS];omega);rw[hr] at h;cases h;simp [eN] at Il;exact .inr Il.symm
 ·by_cases wq:n+s.size<=cap
  ·have anC:cur.size=cap:=by simpa using nB
   have hr:=Lib.run_append_room_string (P:=P) w t u ty e i ht hu hi hM g n cap cur hg s wq (by omega);rw[hr] at h;cases h;exact .inl Il
  ·have holds:∀j u,xs[j]? =some u->w.cell? ((⟨g,0,none⟩:Addr).add j)=some u:=gD.cells (g:=g) rfl;have hr:=Lib.run_append_grow_string (P:=P) w t u ty e i (.int .u8 0) ht hu hi hz ⟨g,0,none⟩ n cap xs (by rw[hM];simpa using AU) holds s (by omega) (by omega) (by rw[wS];exact growslice_fits (by omega) (by omega));rw[hr] at h;cases h;simp [eN] at Il;exact .inr Il.symm
theorem adY{ops:Array Oper}{rest:List Oper}{o:Oper}{a:Act}{w:World}{Q:Exit->Act->World->Prop}(KP:o.guard=none)(sl x:Operand)(t u:TypeId)
 (ho:o.op= .call {callee:= .builtin .append,args:= #[sl,x],argTypes:= #[t,u]})
 (e:TypeId) (i:TypeInfo) (ht:P.underlying t=some (.slice e)) (hu:P.underlying u=some .string) (hi:P.info? e=some i) (hz:i.zero=some (.int .u8 0))
 (hM:i.size=1) (wS:i.bytes=1)
 (v:Value) (n:Nat) (xs:List Value) (hs:a.eval sl=v) (gD:w.ownsRow 0 e 1 v n xs) (s:af) (hx:a.eval x= .string s)
 (Gq:n+s.size<=maxLen) (ph:n+s.size<=140737488355328)
 (h:∀v' w',w'.ownsRow 0 e 1 v' (n+s.size) (xs++ew s)->w.grownBy w' v.ownBlock->(∀g,v'.ownBlock=some g->v.ownBlock=some g\/g=w.heap.size)->wpList P ops Q rest (a.put o.dst v') w'):wpList P ops Q (o::rest) a w:=by
 refine wpList_plain KP λK hK=> ?_;obtain⟨v',w',hr,h2,h3,h4⟩:=Lib.run_append_own_string (P:=P) w 0 t u o.type e i ht hu hi hz hM wS v n xs gD s Gq ph (bS _);unfold Oper.wp execOp;simp only[ho,resolve,invoke,builtin,ay,aG,aj,List.map_toArray,bd,List.map_nil,hs,hx,hr];exact hK _ _ (h v' w' h2 h3 (afd t u o.type e i ht hu hi hz hM wS v n xs gD s Gq ph hr))
theorem afo(L:Lays.n240 P ρ)(X:Builder.X72 P ρ)(b:Nat)(v:Value)(bs:List Value)(w:World)(h:CV (ρ.t 72) (ρ.t 5) b v bs w):
 Calls P (ρ.f 240) #[.pointer (some ⟨b,0,none⟩)] w λe w'=>e= .returned (.tuple #[])/\(w'.heap[b]? =some (.cells #[.pointer (some ⟨b,0,none⟩),v] (ρ.t 72) (0,0))/\w'.ownsRow 0 (ρ.t 5) 1 v bs.length bs)/\(pJ b none w w'/\w'.heap.size=w.heap.size):=by
 rcases h.vR with hb|hb
 ·have hA:Lib.BuilderAt (ρ.t 72) (ρ.t 5) 0 b (.pointer none) bs w:=⟨bS _,v,hb,h.own,h.ne⟩
  refine(Any.Builder_copyCheck_fresh L X b w hA.cell0 hA.shape hA.frozen0).mono ?_;rintro e w' ⟨rfl,rfl⟩;have hu:=hA.used (.pointer (some ⟨b,0,none⟩));obtain⟨_,v',Ag,wh,_⟩:=hu;have hv:v'=v:=by have:(w.setCell ⟨b,0,none⟩ (.pointer (some ⟨b,0,none⟩))).heap[b]? =some (.cells #[.pointer (some ⟨b,0,none⟩),v] (ρ.t 72) (0,0)):=heap_setCell_same w b 0 _ _ _ hb;rw[Ag] at this;simp at this;exact this
  subst hv;exact⟨rfl,⟨Ag,wh⟩,pJ.setCell w ⟨b,0,none⟩ rfl _,by simp [World.setCell]⟩
 ·have hA:Lib.BuilderAt (ρ.t 72) (ρ.t 5) 0 b (.pointer (some ⟨b,0,none⟩)) bs w:=⟨bS _,v,hb,h.own,h.ne⟩
  refine(Any.Builder_copyCheck_used L X b w hA.cell0).mono ?_;rintro e w' ⟨rfl,rfl⟩;exact⟨rfl,⟨hb,h.own⟩,pJ.refl _,rfl⟩
set_option maxHeartbeats 2000000 in
set_option maxRecDepth 100000 in
theorem afp(L:Lays.n166 P ρ)(X:Builder.Extra P ρ)(b:Nat)(v0:Value)(bs:List Value)(s:af)(w:World)(h:CV (ρ.t 72) (ρ.t 5) b v0 bs w)(hlen:bs.length+s.size<=140737488355328):
 Calls P (ρ.f 166) #[.pointer (some ⟨b,0,none⟩),.string s] w λe w'=>e= .returned (.tuple #[.int .i64 s.size,.nilIface])/\∃v',CV (ρ.t 72) (ρ.t 5) b v' (bs++ew s) w'/\pJ b v0.ownBlock w w'/\∀g,v'.ownBlock=some g->v0.ownBlock=some g\/w.heap.size<=g:=by
 obtain⟨i0,hi,II,UX,hz2⟩:=info_parts X.infoByte;have bR:=h.lt;have mixed:=L.mixed;have t72:=L.t72;have a72:=L.a72;have z72:=L.z72;have v72:=L.v72;have u72:=run_underlying L.t72;have t70:=L.t70;have a70:=L.a70;have z70:=L.z70;have v70:=L.v70;have u70:=run_underlying L.t70;have t37:=L.t37;have a37:=L.a37;have z37:=L.z37;have v37:=L.v37;have u37:=run_underlying L.t37;have t3:=L.t3;have a3:=L.a3;have z3:=L.z3;have v3:=L.v3;have u3:=run_underlying L.t3;have t9:=L.t9;have a9:=L.a9;have z9:=L.z9;have v9:=L.v9;have u9:=run_underlying L.t9;have t4:=L.t4;have a4:=L.a4;have z4:=L.z4;have v4:=L.v4;have u4:=run_underlying L.t4;have t164:=L.t164;have a164:=L.a164;have z164:=L.z164;have v164:=L.v164;have anH:=run_underlying L.t164;have t5:=X.t5;have a5:=X.a5;have z5:=X.z5;have v5:=X.v5;have u5:=run_underlying X.t5;have anA:∀args w,(callFunc (ρ.f 240) args).run P w= .ok (.enter (ρ.f 240) args) w:=enters_of L.f240 (by kernel_rfl) rfl
 go_enter L.f166,Body.n166_ntmps ρ
 go_wp2_with (go_at_fn (ρ.f 240);refine(afo {L with} X.toX72 b v0 bs _ h).mono ?_)
 rintro e w1 ⟨rfl,⟨Et,gD⟩,uU,ID⟩;have fS:=h.ne;have c0:w1.cell? ⟨b,0,none⟩=some (.pointer (some ⟨b,0,none⟩)):=by rw[dI Et];rfl
 have c1:w1.cell? ⟨b,1,none⟩=some v0:=by rw[dI Et];rfl
 go_wp2_with (at_builtin;refine adY rfl _ _ (ρ.t 37) (ρ.t 9) rfl (ρ.t 5) i0 L.t37 L.t9 hi II UX hz2 _ _ _ rfl gD s rfl ?c3 ?c4 ?_)
 case c3=>unfold maxLen;omega
 case c4=>omega
 intro v' w2 wh GD qq;have EB:b<w1.heap.size:=by rw[ID];exact bR
 have tA:w2.heap[b]? =some (.cells #[.pointer (some ⟨b,0,none⟩),v0] (ρ.t 72) (0,0)):=by rw[GD.block b EB (λe=>fS e.symm)];exact Et
 have d0:w2.cell? ⟨b,0,none⟩=some (.pointer (some ⟨b,0,none⟩)):=by rw[dI tA];rfl
 have d1:w2.cell? ⟨b,1,none⟩=some v0:=by rw[dI tA];rfl
 have f1:w2.frozen? ⟨b,1,none⟩=false:=Lib.frozen_of_heap tA 1;obtain⟨ao,n',cap,rfl⟩:∃ao n' cap,v'= .slice ao n' cap:=by
  rcases wh.2 with⟨hv,_⟩|⟨g,cap,cur,hv,_⟩
  ·exact⟨_,_,_,hv⟩
  ·exact⟨_,_,_,hv⟩
 go_wp2
 go_ret2
 have NY:(Value.slice ao n' cap).ownBlock≠some b:=λe=>by
  rcases qq b e with h1|h1
  ·exact fS h1
  ·omega
 have oo:(w2.setCell ⟨b,1,none⟩ (.slice ao n' cap)).heap[b]? =some (.cells #[.pointer (some ⟨b,0,none⟩),.slice ao n' cap] (ρ.t 72) (0,0)):=heap_setCell_same w2 b 1 _ _ _ tA;refine⟨rfl,_,⟨.inr oo,?_,NY⟩,?_,λg hg=> ?_⟩
 ·have hl:(bs++ew s).length=bs.length+s.size:=by rw[aF,Lib.strCells_length]
  rw[hl];refine⟨wh.1,?_⟩;rcases wh.2 with hn|⟨g,Em,cur,hv,hbg,hg,rest⟩
  ·exact .inl hn
  ·refine .inr ⟨g,Em,cur,hv,hbg,?_,rest⟩;rw[Below.heap_setCell _ _ _ _ (λe=>NY (by rw[hv,eN];exact congrArg some e))];exact hg
 ·refine pJ.trans ⟨uU.os,uU.tape,uU.output,uU.size,λk hk h1 h2=>uU.block k hk h1 (by simp)⟩ (pJ.trans (pJ.of GD) (pJ.setCell w2 ⟨b,1,none⟩ rfl _))
 ·rcases qq g hg with h1|h1
  ·exact .inl h1
  ·exact .inr (by omega)
theorem pJ.freeze{b:Nat}{g:Nat}(w:World)(a:Addr)(ha:a.block=g)(n:Nat):pJ b (some g) w (w.freeze a n):=by
 unfold World.freeze;split
 ·exact pJ.refl _
 ·refine⟨rfl,rfl,rfl,by simp,λk hk h1 h2=> ?_⟩;simp only[Array.getElem?_modify];rw[if_neg];intro e;exact h2 (by rw[<-e,ha])
theorem pJ.drew{b:Nat}{g:ae Nat}(w:World):pJ b g w w.drew:=⟨rfl,rfl,rfl,aZ _,λ_ _ _ _=>rfl⟩
theorem pJ.alloc{b:Nat}{g:ae Nat}(w:World)(o:Obj):pJ b g w (w.alloc o):=⟨rfl,rfl,rfl,by simp,λk hk _ _=>Below.heap_alloc _ _ _ hk⟩
set_option maxHeartbeats 2000000 in
set_option maxRecDepth 100000 in
theorem aiu(L:Lays.n169 P ρ)(X:Builder.Extra P ρ)(b:Nat)(v0:Value)(l:List UInt8)(w:World)(h:CV (ρ.t 72) (ρ.t 5) b v0 (Lib.byteCells l) w):
 Calls P (ρ.f 169) #[.pointer (some ⟨b,0,none⟩)] w λe w'=>e= .returned (.string ⟨l.toArray⟩)/\pJ b v0.ownBlock w w':=by
 obtain⟨p,Et⟩:∃p,w.heap[b]? =some (.cells #[p,v0] (ρ.t 72) (0,0)):=by
  rcases h.vR with h|h
  ·exact⟨_,h⟩
  ·exact⟨_,h⟩
 have gD:=h.own;have bR:=h.lt;rw[Lib.byteCells_length] at gD;have mixed:=L.mixed;have t72:=L.t72;have a72:=L.a72;have z72:=L.z72;have v72:=L.v72;have u72:=run_underlying L.t72;have t70:=L.t70;have a70:=L.a70;have z70:=L.z70;have v70:=L.v70;have u70:=run_underlying L.t70;have t37:=L.t37;have a37:=L.a37;have z37:=L.z37;have v37:=L.v37;have u37:=run_underlying L.t37;have t127:=L.t127;have a127:=L.a127;have z127:=L.z127;have v127:=L.v127;have anG:=run_underlying L.t127;have t3:=L.t3;have a3:=L.a3;have z3:=L.z3;have v3:=L.v3;have u3:=run_underlying L.t3;have t9:=L.t9;have a9:=L.a9;have z9:=L.z9;have v9:=L.v9;have u9:=run_underlying L.t9;have t5:=X.t5;have a5:=X.a5;have z5:=X.z5;have v5:=X.v5;have u5:=run_underlying X.t5;rcases gD.2 with⟨rfl,hz⟩|⟨g,cap,cur,rfl,hbg,hg,NW,AO,nB,wu⟩
 ·have hl:l=[]:=bp hz;subst hl;have hUS:=iw L X;have c1:w.drew.cell? ⟨b,1,none⟩=some (.slice none 0 0):=by have:w.drew.heap[b]? =some (.cells #[p,.slice none 0 0] (ρ.t 72) (0,0)):=Et;rw[dI this];rfl
  have hSD:(eZ #[(ρ.t 37)] (ρ.t 127) #[.slice none 0 0]).run P w.drew= .ok (.pointer none) w.drew:=rfl
  go_enter L.f169,jg ρ
  go_wp2
  go_region_o
  all_goals(go_wp2;go_ret;exact⟨rfl,pJ.drew w⟩)
 ·by_cases NO:l.length=0
  ·have hl:l=[]:=bp NO;subst hl;by_cases hc0:cap=0
   ·subst hc0;have hUS:=iw L X;have c1:w.drew.cell? ⟨b,1,none⟩=some (.slice (some ⟨g,0,none⟩) 0 0):=by have:w.drew.heap[b]? =some (.cells #[p,.slice (some ⟨g,0,none⟩) 0 0] (ρ.t 72) (0,0)):=Et;rw[dI this];rfl
    have hSD:(eZ #[(ρ.t 37)] (ρ.t 127) #[.slice (some ⟨g,0,none⟩) 0 0]).run P w.drew= .ok (.pointer (some ⟨w.drew.heap.size,0,none⟩)) (w.drew.alloc (.view ⟨g,0,none⟩ (ρ.t 5))):=
     Lib.run_unsafeSliceData_zero w.drew _ _ (ρ.t 5) L.t127 ⟨g,0,none⟩ 0 ((ρ.t 5),cur.size) (by have KO:w.drew.heap[g]? =some (.cells cur (ρ.t 5) (0,0)):=hg;simp [World.shape?,KO])
    have c2:(w.drew.alloc (.view ⟨g,0,none⟩ (ρ.t 5))).cell? ⟨b,1,none⟩=some (.slice (some ⟨g,0,none⟩) 0 0):=by have:(w.drew.alloc (.view ⟨g,0,none⟩ (ρ.t 5))).heap[b]? =_:=(Lib.alloc_old w.drew _ b bR).trans Et;rw[dI this];rfl
    have c3:(w.alloc (.view ⟨g,0,none⟩ (ρ.t 5))).drew.cell? ⟨b,1,none⟩=some (.slice (some ⟨g,0,none⟩) 0 0):=c2;have c0:w.cell? ⟨b,1,none⟩=some (.slice (some ⟨g,0,none⟩) 0 0):=c1
    go_enter L.f169,jg ρ
    go_wp2
    go_region_o
    all_goals(go_wp2;go_ret;exact⟨rfl,(pJ.drew w).trans (pJ.alloc _ _)⟩)
   ·have hUS:=iw L X;have c1:w.drew.cell? ⟨b,1,none⟩=some (.slice (some ⟨g,0,none⟩) 0 cap):=by have:w.drew.heap[b]? =some (.cells #[p,.slice (some ⟨g,0,none⟩) 0 cap] (ρ.t 72) (0,0)):=Et;rw[dI this];rfl
    have hSD:(eZ #[(ρ.t 37)] (ρ.t 127) #[.slice (some ⟨g,0,none⟩) 0 cap]).run P w.drew= .ok (.pointer (some ⟨g,0,none⟩)) w.drew:=
     jd _ _ _ _ _ _ hc0
    clear hc0
    go_enter L.f169,jg ρ
    go_wp2
    go_region_o
    all_goals(go_wp2;go_ret;exact⟨rfl,pJ.drew w⟩)
  ·have h0:l≠ []:=λe=>NO (by rw[e];rfl);have c1:w.drew.cell? ⟨b,1,none⟩=some (.slice (some ⟨g,0,none⟩) l.length cap):=by have:w.drew.heap[b]? =some (.cells #[p,.slice (some ⟨g,0,none⟩) l.length cap] (ρ.t 72) (0,0)):=Et;rw[dI this];rfl
   have hSD:(eZ #[(ρ.t 37)] (ρ.t 127) #[.slice (some ⟨g,0,none⟩) l.length cap]).run P w.drew= .ok (.pointer (some ⟨g,0,none⟩)) w.drew:=
    jd _ _ _ _ _ _ (by omega)
   have hUS:(Builtin.unsafeString_ #[(ρ.t 127),(ρ.t 3)] (ρ.t 9) #[.pointer (some ⟨g,0,none⟩),.int .i64 l.length]).run P w.drew= .ok (.string ⟨l.toArray⟩) (w.drew.freeze ⟨g,0,none⟩ l.length):=by refine Lib.run_unsafeString_row w.drew (ρ.t 127) (ρ.t 3) (ρ.t 9) (ρ.t 5) L.t127 X.cellsByte g cur.size (by have KO:w.drew.heap[g]? =some (.cells cur (ρ.t 5) (0,0)):=hg;simp [World.shape?,KO]) l h0 (by omega) (by unfold maxLen at AO;omega) ?_;intro j x hx;have:=gD.cells (g:=g) rfl j (.int .u8 x.toNat) (by simp [Lib.byteCells,hx]);exact this
   go_enter L.f169,jg ρ
   go_wp2
   go_region_o
   all_goals(go_wp2;go_ret;exact⟨rfl,(pJ.drew w).trans (pJ.freeze _ _ rfl _)⟩)
end Go.Ref

namespace Go.Ref
open Go
inductive SV where
 |undef
 |skip
 |jR
 |nE
 |bY (t:Ty) (x:El t) (own:List (List Nat))
 |ptr (id:Nat) (t:Ty) (p:List Nat)
 |view (t:Ty) (x:El t)
 |cap (f:Nat) (t:Ty) (x:El t) (u:Ty) (y:El u)
 |over
 |fc (id:Nat) (a b:Ty) (j:Nat)
def Ty.yO:Ty->Bool
 | .dJ (.sd _ _) _ _=>false
 | .dJ _ _ _=>true
 |_=>false
def Ty.fG:Ty->Bool
 | .dJ _ _ _=>true
 |_=>false
def SV.gi:SV->Bool
 | .fc _ _ _ _=>true
 |_=>false
structure fp where
 t:Ty
 x:El t
 own:List (List Nat)
structure State where
 sl:List (List SV)
 bs:List (ae fp)
def vU(a:Ty):List Nat->Nat
 |0::q=>a.off q
 | [1]=>a.cells
 | [1,i]=>a.cells+i
 | [2]=>a.cells+2
 |_=>0
def gIn(a:Ty):List Nat->Prop
 | []=>True
 |0::q=>a.nH q
 | [1]=>True
 | [1,i]=>i<2
 | [2]=>True
 |_=>False
def HH:List (List Nat):=[[2]]
def tV:List (List Nat):=[[0],[1],[0,2],[1,2]]
def Ty.nI:Ty->Bool
 | .dJ .lh _ _=>true
 |_=>false
structure Env where
 ty:TypeId->ae Ty
 bytes:TypeId->Nat
 pt:TypeId->Bool
 lV:Nat->List Nat
 rM:Nat->List Nat
 outs:List Nat
 ps:List Ty
 mp:TypeId->ae (TypeId×TypeId):=λ_=>none
 join:Nat->ae (List Nat):=λ_=>none
 fz:Nat->ae (Nat×TypeId):=λ_=>none
 dr:Nat->List Nat:=λ_=>[]
 sh:List Nat:=[]
 ro:Bool:=false
 mv:List Nat:=[]
 fr:Nat->List Nat:=λ_=>[]
 bl:TypeId->ae TypeId:=λ_=>none
 gr:TypeId->ae (Ty×Ty):=λ_=>none
 ga:TypeId->Bool:=λ_=>false
 sg:ae (Nat×Nat×Nat):=none
 sp:ae (Nat×Nat×Nat×Nat):=none
def Ty.qu:Ty->Bool
 | .unit=>true
 | .pair (.int _) b=>b.qu
 |_=>false
def Ty.isKey:Ty->Bool
 | .bool| .int _| .str=>true
 | .pair a b=>(Ty.pair a b).qu
 |_=>false
def CY:(t:Ty)->El t->El t->Bool
 | .pair (.int _) b,x,y=>decide (x.1=y.1)&&CY b x.2 y.2
 |_,_,_=>true
def pf:(t:Ty)->El t->El t->Bool
 | .bool,x,y=>decide (x=y)
 | .int _,x,y=>decide (x=y)
 | .str,x,y=>decide (x=y)
 | .pair a b,x,y=>CY (.pair a b) x y
 |_,_,_=>false
def n7{K V:Type}(eq:K->K->Bool)(d:V):List (K×V)->K->V
 | [],_=>d
 |q::r,k=>bif eq k q.1 then q.2 else n7 eq d r k
def n8{K V:Type}(eq:K->K->Bool):List (K×V)->K->Bool
 | [],_=>false
 |q::r,k=>bif eq k q.1 then true else n8 eq r k
section
variable {R:Type}
abbrev gK(R:Type):=List SV->ae fp->(List SV->ae fp->ae R)->ae R
def SV.el(s:SV)(u:Ty)(K:El u->ae R):ae R:=
 match s with
 | .bY t x _=>if h:t.iS u=true then K (Ty.cast h x) else none
 | .jR=>match u with
   | .sl _ _=>K []
   |_=>none
 |_=>none
def Hy:Value->SV
 | .bool b=> .bY .bool b []
 | .int k n=> .bY (.int k) n []
 | .string s=> .bY .str s []
 | .slice none 0 0=> .jR
 | .pointer none=> .nE
 |_=> .undef
def State.slot(s:State)(t:Nat):List SV:=s.sl.getD t [.undef]
def State.EY(s:State):Operand->List SV
 | .tmp t=>s.slot t
 | .const v=>[Hy v]
 |_=>[.undef]
def one:List SV->SV
 | [x]=>x
 |_=> .undef
def State.cP(s:State)(x:Operand):SV:=one (s.EY x)
def State.box(s:State)(id:Nat):ae fp:=(s.bs.getD id none)
def SV.shut:SV->SV
 | .bY t x _=> .bY t x []
 | .fc _ _ _ _=> .undef
 |v=>v
def SV.own:SV->List (List Nat)
 | .bY _ _ o=>o
 | .jR=>[[]]
 |_=>[]
def gx:List SV->Nat->List SV
 | [],_=>[]
 |v::r,0=>v.shut::r
 |v::r,j+1=>v::gx r j
structure Out where
 v:List SV
 bx:ae (Nat×fp):=none
 cl:List (Nat×Nat):=[]
def State.close(s:State):List (Nat×Nat)->State
 | []=>s
 |(i,j)::r=>State.close {s with sl:=s.sl.set i (gx (s.slot i) j)} r
def State.cG(s:State):ae (Nat×fp)->State
 |some (id,B)=>{s with bs:=s.bs.set id (some B)}
 |none=>s
def State.b7(s:State):ae Nat->List SV->State
 |some d,v=>{s with sl:=s.sl.set d v}
 |none,_=>s
def State.apply(s:State)(dst:ae Nat)(o:Out):State:=((s.close o.cl).cG o.bx).b7 dst o.v
def CM:Operand->ae Nat
 | .tmp t=>some t
 |_=>none
def src:Operand->List (Nat×Nat)
 | .tmp t=>[(t,0)]
 |_=>[]
def dv(op:BinOp)(k:IntKind)(a b:Int):Int:=
 match op with
 | .and=>k.wrap ((fg k.bits a&&&fg k.bits b).toNat:Nat)
 | .or=>k.wrap ((fg k.bits a|||fg k.bits b).toNat:Nat)
 | .xor=>k.wrap ((fg k.bits a^^^fg k.bits b).toNat:Nat)
 |_=>k.wrap ((fg k.bits a&&& ~~~ fg k.bits b).toNat:Nat)
def mH:(t:Ty)->El t->El t->ae Bool
 | .bool,x,y=>some (x==y)
 | .int _,x,y=>some (decide (x=y))
 | .str,x,y=>some (decide (x=y))
 | .unit,_,_=>some true
 | .arr _ (.int _),x,y=>some (decide ((x:List Int)=y))
 | .pair a b,x,y=>match mH a x.1 y.1,mH b x.2 y.2 with
   |some p,some q=>some (p&&q)
   |_,_=>none
 |_,_,_=>none
def i64(n:Int):List SV:=[.bY (.int .i64) n []]
def bl(b:Bool):List SV:=[.bY .bool b []]
def zY(op:BinOp)(k:IntKind)(a:Int)(k':IntKind)(b:Int)(K:List SV->ae R):ae R:=
 match op with
 | .shl=>bif decide (b<0) then none else K [.bY (.int k) (k.wrap (a*2^min b.toNat k.bits)) []]
 | .shr=>bif decide (b<0) then none else K [.bY (.int k) (a.fdiv (2^min b.toNat k.bits)) []]
 |_=>if k=k' then
  match op with
  | .add=>K [.bY (.int k) (k.wrap (a+b)) []]
  | .sub=>K [.bY (.int k) (k.wrap (a-b)) []]
  | .mul=>K [.bY (.int k) (k.wrap (a*b)) []]
  | .quo=>bif decide (b=0) then none else K [.bY (.int k) (k.wrap (a.tdiv b)) []]
  | .rem=>bif decide (b=0) then none else K [.bY (.int k) (a.tmod b) []]
  | .and| .or| .xor| .andNot=>K [.bY (.int k) (dv op k a b) []]
  | .eql=>K (bl (decide (a=b)))
  | .neq=>K (bl (!decide (a=b)))
  | .lss=>K (bl (decide (a<b)))
  | .leq=>K (bl (decide (a<=b)))
  | .gtr=>K (bl (decide (b<a)))
  | .geq=>K (bl (decide (b<=a)))
  |_=>none
  else none
def zZ(op:BinOp)(a b:af)(K:List SV->ae R):ae R:=
 match op with
 | .add=>bif decide (a.size+b.size<=9223372036854775807) then K [.bY .str (a++b) []] else none
 | .eql=>K (bl (decide (a=b)))
 | .neq=>K (bl (!decide (a=b)))
 | .lss=>K (bl (kI a.toList b.toList))
 | .leq=>K (bl (kI a.toList b.toList||decide (a=b)))
 | .gtr=>K (bl (!(kI a.toList b.toList||decide (a=b))))
 | .geq=>K (bl (!(kI a.toList b.toList)))
 |_=>none
def Ty.depth:Ty->Nat
 | .arr _ t=>t.depth+1
 | .pair a b=>max (a.depth+1) b.depth
 |_=>1
def zX(E:Env)(op:BinOp)(T:TypeId)(x y:SV)(K:List SV->ae R):ae R:=
 match E.ty T with
 |some t=>if bn t.depth 1000=false then none else x.el t λa=>y.el t λb=>match mH t a b with
  |some r=>match op with
   | .eql=>K (bl r)
   | .neq=>K (bl (!r))
   |_=>none
  |none=>none
 |none=>none
def bin(E:Env)(op:BinOp)(T:TypeId)(x y:SV)(K:List SV->ae R):ae R:=
 match x,y with
 | .bY (.int k) a _,.bY (.int k') b _=>zY op k a k' b K
 | .bY .str a _,.bY .str b _=>zZ op a b K
 | .ptr _ t _,.nE=>if((t.fG&& !t.nI)|| !E.pt T)=true then none else match op with
   | .eql=>K (bl false)
   | .neq=>K (bl true)
   |_=>none
 | .nE,.nE=>if E.pt T=false then none else match op with
   | .eql=>K (bl true)
   | .neq=>K (bl false)
   |_=>none
 |x,y=>zX E op T x y K
def ze(s:af)(i:Nat):Int:=if h:i<s.size then((s[i]'h).toNat:Int) else 0
def strOf(xs:List Int):af:=⟨(xs.map λx=>UInt8.ofNat x.toNat).toArray⟩
def zd(i:Int)(n:Nat)(K:ae R):ae R:=bif decide (0<=i) then bif decide (i<(n:Int)) then K else none else none
def Fu(lo:ae SV)(h:Nat)(K:Nat->ae R):ae R:=
 match lo with
 |none=>K 0
 |some v=>v.el (.int .i64) λl=>bif decide (0<=l) then bif decide (l<=(h:Int)) then K l.toNat else none else none
def cutAt(lo hi:ae SV)(n:Nat)(K:Nat->Nat->ae R):ae R:=
 match hi with
 |none=>Fu lo n λl=>K l n
 |some v=>v.el (.int .i64) λh=>bif decide (0<=h) then bif decide (h<=(n:Int)) then Fu lo h.toNat (λl=>K l h.toNat) else none else none
def Ty.tO:Ty->Nat->Bool
 | .arr n _,i=>bn (i+1) n
 |_,_=>true
def Fq(own:List (List Nat))(p:List Nat):List (List Nat):=own.filter λq=> !(p.isPrefixOf q)
def pU(own:List (List Nat))(p:List Nat):Bool:=own.any λq=>q==p
def Up(own:List (List Nat))(p:List Nat):List (List Nat):=(own.filter λq=>p.isPrefixOf q).map λq=>q.drop p.length
def bump:List Nat->ae (List Nat)
 | []=>none
 |j::p=>some ((j+1)::p)
def Fm:Ty->List (List Nat)
 | .sl _ _=>[[]]
 | .pair a b=>(Fm a).map (λp=>0::p)++(Fm b).filterMap bump
 |_=>[]
def AH(t:Ty):El t->List (List Nat)->List (Nat×SV×List (List Nat))->(El t->List (List Nat)->ae R)->ae R
 |x,own,[],K=>K x own
 |x,own,(i,v,ov)::r,K=>if t.tO i=false then none else match t.at_ [i] with
  |some u=>v.el u λy=>match El.set t [i] x u y with
   |some z=>AH t z (ov.map (λp=>i::p)++Fq own [i]) r K
   |none=>none
  |none=>none
def Fp(o:List (List Nat))(x:Operand):List (Nat×Nat):=
 match o with
 | []=>[]
 |_::_=>src x
def vw:State->List (Nat×Operand)->List (Nat×SV×List (List Nat))×List (Nat×Nat)
 |_,[]=>([],[])
 |s,(i,x)::r=>((i,s.cP x,(s.cP x).own)::(vw (s.close (Fp (s.cP x).own x)) r).1,Fp (s.cP x).own x++(vw (s.close (Fp (s.cP x).own x)) r).2)
def HG(t:Ty):List (El t)->List (Nat×SV)->(List (El t)->ae R)->ae R
 |xs,[],K=>K xs
 |xs,(i,v)::r,K=>if bn (i+1) xs.length=false then none else v.el t λy=>HG t (xs.set i y) r K
def Z8(ops:List Oper)(d:ae Nat):Bool:=
 match d with
 |some d=>ops.any λo=>match o.op with
  | .call ⟨.builtin .append,args,_⟩=>match args.toList with
    | .tmp t::_=>ak t d
    |_=>false
  |_=>false
 |none=>false
def Sh(ops:List Oper)(d:ae Nat):Bool:=
 match d with
 |some d=>ops.any λo=>match o.op,o.dst with
  | .indexAddr _ (.tmp t) _,some a=>ak t d&&ops.any λq=>match q.op with
    | .store _ (.tmp b) _=>ak a b
    |_=>false
  |_,_=>false
 |none=>false
def G2(E:Env)(ops:List Oper)(d:ae Nat):Bool:=
 match d with
 |some d=>ops.any λo=>match o.op with
  | .store _ (.tmp r) (.tmp t)=>ak t d&&E.outs.any (ak r)
  |_=>false
 |none=>false
def getM{α:Type}(j:Nat)(m:ae α×ae α):ae α:=bif ak j 0 then m.1 else bif ak j 1 then m.2 else none
def pS{α:Type}(j:Nat)(y:ae α)(m:ae α×ae α):ae α×ae α:=bif ak j 0 then(y,m.2) else(m.1,y)
def xa(s:State)(id:Nat)(a b:Ty)(K:El (.dJ .lh a b)->List (List Nat)->ae R):ae R:=
 match s.box id with
 |some B=>if h:B.t.iS (.dJ .lh a b)=true then bif tV.all (pU B.own) then K (Ty.cast h B.x) B.own else none else none
 |none=>none
def Kg(u':Ty)(s:State)(id:Nat)(t:Ty)(p:List Nat)(K:Out->ae R):ae R:=
 match t,p with
 | .dJ .row a b,[i]=>match s.box id with
   |some B=>if h:B.t.iS (.dJ .row a b)=true then if u'.iS a=true then
     bif bn (i+1) (ag (Ty.cast h B.x:List (El a))) then K {v:=[.bY a (ah (Ty.cast h B.x:List (El a)) i (El.gG a)) []]} else none
    else none else none
   |none=>none
 | .dJ .lh a b,[0]=>if u'.iS a=true then xa s id a b λx _=>K {v:=[.bY a x.1 []]} else none
 | .dJ .lh a b,[2]=>if u'.iS (.int .i64)=true then xa s id a b λx _=>K {v:=i64 x.2.2} else none
 |_,_=>none
def J4(u:Ty)(s:State)(id:Nat)(t:Ty)(p:List Nat)(v:SV)(K:Out->ae R):ae R:=
 match t,p with
 | .dJ .row a b,[i]=>match s.box id with
   |some B=>if h:B.t.iS (.dJ .row a b)=true then if a.iS u=true then
     v.el a λy=>bif bn (i+1) (ag (Ty.cast h B.x:List (El a))) then K {v:=[.skip],bx:=some (id,⟨.dJ .row a b,(b8 (Ty.cast h B.x:List (El a)) i y:List (El a)),[]⟩)} else none
    else none else none
   |none=>none
 | .dJ .lh a b,0::q=>match a.at_ q with
   |some u'=>if u'.iS u=true then xa s id a b λx own=>v.el u λy=>match El.set a q x.1 u y with
     |some z=>bif pU own [] then K {v:=[.skip],bx:=some (id,⟨.dJ .lh a b,(z,x.2),own⟩)} else none
     |none=>none
    else none
   |none=>none
 | .dJ .lh a b,[2]=>if u.iS (.int .i64)=true then xa s id a b λx own=>v.el (.int .i64) λn=>bif pU own [] then K {v:=[.skip],bx:=some (id,⟨.dJ .lh a b,(x.1,x.2.1,n),own⟩)} else none else none
 |_,_=>none
def LM(v:SV)(j:Nat)(ta tb:Ty)(K:Out->ae R):ae R:=
 match v with
 | .ptr id (.dJ .lh a b) []=>if(a.iS ta&&b.iS tb)=true then bif bn j 2 then K {v:=[.ptr id (.dJ .lh a b) [j]]} else none else none
 |_=>none
def SX(t:Ty)(n:Int)(id:Nat)(r:Ty)(p:List Nat)(K:Out->ae R):ae R:=
 match r,p with
 | .dJ (.rh m) a b,[]=>if a.iS t=true then zd n m (K {v:=[.ptr id (.dJ .row a b) [n.toNat]]}) else none
 |_,_=>none
def LB(u':Ty)(B:fp)(t:Ty)(p:List Nat)(K:Out->ae R):ae R:=
 match t,p with
 | .arr n e,[]=>if h:B.t.iS (.dJ .row e .unit)=true then if u'.iS (.arr n e)=true then
    bif ak n (ag (Ty.cast h B.x:List (El e))) then K {v:=[.bY (.arr n e) (Ty.cast h B.x:List (El e)) []]} else none
   else none else none
 |_,_=>none
def tg(E:Env)(T:TypeId)(s:State)(v:SV)(K:Out->ae R):ae R:=
 match v with
 | .ptr id (.dJ .lh a b) [1,j]=>if E.pt T=true then xa s id a b λx own=>bif pU own [] then K {v:=[.fc id a b j],bx:=some (id,⟨.dJ .lh a b,x,own.filter λq=> !q.isEmpty⟩)} else none else none
 |_=>none
def load(E:Env)(T:TypeId)(s:State)(la:Bool)(a:SV)(K:Out->ae R):ae R:=
 match E.ty T with
 |some u'=>match a with
  | .view t x=>if u'.iS t=true then K {v:=[.bY t x []]} else none
  | .ptr id t p=>if t.fG=true then Kg u' s id t p K else match s.box id with
    |some B=>if B.t.iS t=true then
      match El.get B.t p B.x with
      |some ⟨u,y⟩=>if u'.iS u=true then
        bif la then K {v:=[.bY u y (Up B.own p)],bx:=some (id,{B with own:=Fq B.own p})} else K {v:=[.bY u y []]}
       else none
      |none=>none
     else LB u' B t p K
    |none=>none
  |_=>none
 |none=>tg E T s a K
def store(E:Env)(T:TypeId)(s:State)(a:SV)(vo:Operand)(K:Out->ae R):ae R:=
 match E.ty T with
 |some u=>match a with
  | .ptr id t p=>if t.fG=true then J4 u s id t p (s.cP vo) K else match s.box id with
    |some B=>if B.t.iS t=true then
      match t.at_ p with
      |some u'=>if u'.iS u=true then
        (s.cP vo).el u λy=>match El.set B.t p B.x u y with
        |some z=>K {v:=[.skip],bx:=some (id,{t:=B.t,x:=z,own:=(s.cP vo).own.map (λq=>p++q)++Fq B.own p}),cl:=src vo}
        |none=>none
       else none
      |none=>none
     else none
    |none=>none
  |_=>none
 |none=>none
def Ty.lT:Ty->Bool
 | .pair .. =>true
 |_=>false
def Lw(u:Ty)(id:Nat)(t:Ty)(p:List Nat)(j:Nat)(K:Out->ae R):ae R:=
 match t,p with
 | .dJ .lh a b,0::q=>match a.at_ q with
   |some u'=>if(u.iS u'&&u.lT)=true then match u.at_ [j] with
     |some f=>if ak f.cells 0=true then none else K {v:=[.ptr id (.dJ .lh a b) (0::(q++ [j]))]}
     |none=>none
    else none
   |none=>none
 |_,_=>none
def LA(m:Nat)(t:Ty)(n:Int)(id:Nat)(r:Ty)(p:List Nat)(K:Out->ae R):ae R:=
 match r,p with
 | .dJ .lh a b,0::q=>match a.at_ q with
   |some u=>if u.iS (.arr m t)=true then zd n m (K {v:=[.ptr id (.dJ .lh a b) (0::(q++ [n.toNat]))]}) else none
   |none=>none
 |_,_=>none
def Uh(t?:ae Ty)(a:SV)(j:Nat)(K:Out->ae R):ae R:=
 match t?,a with
 |some u,.ptr id t p=>if t.fG=true then Lw u id t p j K else match t.at_ p with
  |some u'=>if(u.iS u'&&u.lT)=true then match u.at_ [j] with
    |some f=>if ak f.cells 0=true then none else K {v:=[.ptr id t (p++ [j])]}
    |none=>none
   else none
  |none=>none
 |some u,.view t x=>if(u.iS t&&u.lT)=true then match El.get t [j] x with
   |some ⟨f,y⟩=>if ak f.cells 0=true then none else K {v:=[.view f y]}
   |none=>none
  else none
 |_,_=>none
def SV.num(s:SV)(K:Int->ae R):ae R:=
 match s with
 | .bY (.int _) n _=>K n
 |_=>none
def Uk(E:Env)(T:TypeId)(a i:SV)(K:Out->ae R):ae R:=
 i.num λn=>match E.ty T,a with
  |some (.sl e t),.bY t' xs _=>(SV.bY t' xs []).el (.sl e t) λys=>zd n ys.length (K {v:=[.view t (ah ys n.toNat (El.gG t))]})
  |some (.arr m t),.ptr id r p=>if r.fG=true then LA m t n id r p K else match r.at_ p with
   |some u=>if u.iS (.arr m t)=true then zd n m (K {v:=[.ptr id r (p++ [n.toNat])]}) else none
   |none=>none
  |some (.arr m t),.view t' xs=>(SV.bY t' xs []).el (.arr m t) λys=>zd n m (K {v:=[.view t (ah ys n.toNat (El.gG t))]})
  |some (.sl _ t),.ptr id r p=>SX t n id r p K
  |none,.ptr id (.dJ .lh a b) [1]=>if E.ga T=true then zd n 2 (K {v:=[.ptr id (.dJ .lh a b) [1,n.toNat]]}) else none
  |_,_=>none
def Ul(E:Env)(T:TypeId)(a i:SV)(K:Out->ae R):ae R:=
 i.num λn=>match E.ty T with
  |some .str=>a.el .str λs=>zd n s.size (K {v:=[.bY (.int .u8) (ze s n.toNat) []]})
  |some (.arr m t)=>a.el (.arr m t) λys=>zd n m (K {v:=[.bY t (ah ys n.toNat (El.gG t)) []]})
  |_=>none
def Ab(E:Env)(T:TypeId)(a:SV)(lo hi:ae SV)(K:Out->ae R):ae R:=
 match E.ty T with
 |some .str=>a.el .str λs=>cutAt lo hi s.size λl h=>K {v:=[.bY .str (s.extract l h) []]}
 |some (.sl e t)=>a.el (.sl e t) λxs=>cutAt lo hi (ag xs) λl h=>K {v:=[.bY (.sl e t) ((aJ h xs).drop l) []]}
 |_=>none
def TK(E:Env)(T U:TypeId)(bo:Operand)(b x:SV)(K:Out->ae R):ae R:=
 if ak T U=false then none else
 match E.ty T with
 |some (.sl e t)=>if(ak (E.bytes e) 0||ak t.cells 0)=true then none else match b with
  | .jR=>x.el (.sl e t) λys=>bif decide (ag ys*E.bytes e<=140737488355328) then K {v:=[.bY (.sl e t) ys [[]]]} else none
  | .bY t' xs o=>if pU o []=false then none else(SV.bY t' xs o).el (.sl e t) λxs=>x.el (.sl e t) λys=>
    bif decide ((ag xs+ag ys)*E.bytes e<=140737488355328) then K {v:=[.bY (.sl e t) (xs++ys:List (El t)) [[]]],cl:=src bo} else none
  |_=>none
 |_=>none
def CA(E:Env)(T:TypeId)(x:SV)(K:Out->ae R):ae R:=
 match E.ty T with
 |some .str=>x.el .str λs=>K {v:=i64 (s.size:Int)}
 |some (.sl e t)=>match x with
  | .ptr _ (.dJ (.rh n) _ _) []=>K {v:=i64 (n:Int)}
  |x=>x.el (.sl e t) λxs=>K {v:=i64 (ag xs:Int)}
 |some (.arr n _)=>K {v:=i64 (n:Int)}
 |_=>none
def ug(E:Env)(S T:TypeId)(x:SV)(K:Out->ae R):ae R:=
 match E.ty S,E.ty T with
 |some (.int k),some (.int k')=>x.el (.int k) λn=>K {v:=[.bY (.int k') (k'.wrap n) []]}
 |some .str,some .str=>x.el .str λs=>K {v:=[.bY .str s []]}
 |some (.sl e (.int .u8)),some .str=>x.el (.sl e (.int .u8)) λxs=>K {v:=[.bY .str (strOf xs) []]}
 |_,_=>none
def sV(E:Env)(S T:TypeId)(s:State)(id n:Nat)(a b:Ty)(K:Out->ae R):ae R:=
 match E.ty S,E.ty T with
 |some (.sl _ (.int .u8)),some .str=>if a.iS (.int .u8)=true then match s.box id with
  |some B=>if h:B.t.iS (.dJ .row (.int .u8) b)=true then bif ak n (ag (Ty.cast h B.x:List Int)) then K {v:=[.bY .str (strOf (Ty.cast h B.x:List Int)) []]} else none else none
  |none=>none else none
 |_,_=>none
def wC(E:Env)(T:TypeId):ae (Ty×Ty):=
 match E.mp T with
 |some (k,e)=>match E.ty k,E.ty e with
  |some kt,some vt=>if kt.isKey=true then some (kt,vt) else none
  |_,_=>none
 |none=>none
def tj(s:State)(dst:ae Nat)(t:Ty)(x:El t)(p:Ty)(K:Out->ae R):ae R:=
 match dst with
 |some d=>match s.bs[d+1]? with
  |some none=>K {v:=[.ptr (d+1) p []],bx:=some (d+1,⟨t,x,[]⟩)}
  |_=>none
 |none=>none
def Dh(s:State)(m:SV)(kt vt:Ty)(K:Nat->List (El kt×El vt)->ae R):ae R:=
 match m with
 | .ptr id (.dJ .mp kt' vt') []=>if((Ty.dJ .mp kt' vt').iS (.dJ .mp kt vt))=true then match s.box id with
   |some B=>if h:B.t.iS (.dJ .mp kt vt)=true then K id (Ty.cast h B.x) else none
   |none=>none else none
 |_=>none
def uo(E:Env)(T:TypeId)(s:State)(m i:SV)(K:Out->ae R):ae R:=
 match wC E T with
 |some (kt,vt)=>Dh s m kt vt λ_ xs=>i.el kt λk=>K {v:=[.bY vt (n7 (pf kt) (El.gG vt) xs k) []]}
 |none=>none
def vh(E:Env)(T:TypeId)(s:State)(m i v:SV)(K:Out->ae R):ae R:=
 match wC E T with
 |some (kt,vt)=>Dh s m kt vt λid xs=>i.el kt λk=>v.el vt λy=>bif n8 (pf kt) xs k then none else K {v:=[.skip],bx:=some (id,⟨.dJ .mp kt vt,(xs++ [(k,y)]:List (El kt×El vt)),[]⟩)}
 |none=>none
def tc:Ty:= .dJ .iter .unit .unit
def uu(s:State)(m:SV)(K:Out->ae R):ae R:=
 match m with
 | .ptr id (.dJ .iter .unit .unit) []=>match s.box id with
   |some B=>if h:B.t.iS tc=true then
     bif decide ((Ty.cast h B.x:af×Nat).2<(Ty.cast h B.x:af×Nat).1.size) then
      K {v:=[.bY .bool true [],.bY (.int .i64) ((Ty.cast h B.x:af×Nat).2:Int) [],.bY (.int .i32) ((Utf8.decode (Ty.cast h B.x:af×Nat).1 (Ty.cast h B.x:af×Nat).2).1:Int) []],
         bx:=some (id,⟨tc,((Ty.cast h B.x:af×Nat).1,(Ty.cast h B.x:af×Nat).2+(Utf8.decode (Ty.cast h B.x:af×Nat).1 (Ty.cast h B.x:af×Nat).2).2),[]⟩)}
     else K {v:=[.over]}
    else none
   |none=>none
 |_=>none
def Rg:Operand->Bool
 | .const _=>true
 |_=>false
def ur(E:Env)(T:TypeId)(s:State)(dst:ae Nat)(lo:Operand)(l c:SV)(K:Out->ae R):ae R:=
 match E.ty T with
 |some (.sl e t)=>if(ak (E.bytes e) 0||ak t.cells 0)=true then none else l.el (.int .i64) λn=>c.el (.int .i64) λm=>
  bif Rg lo then
   bif decide (n=0) then bif decide (0<=m) then bif decide (m*E.bytes e<=140737488355328) then K {v:=[.bY (.sl e t) ([]:List (El t)) [[]]]} else none else none else none
  else bif decide (n=m) then bif decide (0<=n) then bif decide (n*E.bytes e<=140737488355328) then tj s dst (.dJ .row t .unit) (aw n.toNat (El.gG t):List (El t)) (.dJ (.rh n.toNat) t .unit) K else none else none else none
 |_=>none
def OR(op:UnOp)(x:SV)(K:Out->ae R):ae R:=
 match op,x with
 | .not,.bY .bool b _=>K {v:=bl (!b)}
 | .neg,.bY (.int k) n _=>K {v:=[.bY (.int k) (k.wrap (0-n)) []]}
 |_,_=>none
def vS(f:FuncId)(x:SV)(K:Out->ae R):ae R:=
 match x with
 | .ptr id u []=>if u.yO=true then none else K {v:=[.ptr id (.dJ (.CX f) u .unit) []]}
 |_=>none
def B4(n id:Nat)(a b:Ty)(lo hi:ae SV)(K:Out->ae R):ae R:=
 match hi with
 |some _=>none
 |none=>Fu lo n λl=>K {v:=[.ptr id (.dJ (.rh n) a b) [l]]}
def Aa(E:Env)(T:TypeId)(s:State)(id n:Nat)(t:Ty)(lo hi:ae SV)(K:Out->ae R):ae R:=
 match E.ty T,lo,hi with
 |some u,none,none=>if u.iS (.arr n t)=true then match s.box id with
  |some B=>if h:B.t.iS (.arr n t)=true then K {v:=[.ptr id (.dJ (.rh n) t .unit) []],bx:=some (id,⟨.dJ .row t .unit,(Ty.cast h B.x:List (El t)),[]⟩)} else none
  |none=>none else none
 |_,_,_=>none
def z31(s:af):List Int:=s.data.toList.map λc=>(c.toNat:Int)
def gX{α:Type}(xs ys:List α)(lo:Nat):List α:=xs.take lo++(ys++xs.drop (lo+ys.length))
def qJ(t:Ty)(s:State)(id n lo:Nat)(a b:Ty)(x:SV)(e:TypeId)(K:Out->ae R):ae R:=
 if a.iS t=true then x.el (.sl e t) λ(ys:List (El t))=>match s.box id with
  |some B=>if h:B.t.iS (.dJ .row t b)=true then
    bif ak n (ag (Ty.cast h B.x:List (El t))) then bif bn lo n then
     K {v:=i64 ((ys.take (n-lo)).length:Int),bx:=some (id,⟨.dJ .row t b,(gX (Ty.cast h B.x:List (El t)) (ys.take (n-lo)) lo:List (El t)),[]⟩)}
    else none else none
   else none
  |none=>none else none
def sW(t:Ty)(s:State)(id n:Nat)(a b:Ty)(y:af)(K:Out->ae R):ae R:=
 if t.iS (.int .u8)=true then if a.iS (.int .u8)=true then match s.box id with
  |some B=>if h:B.t.iS (.dJ .row (.int .u8) b)=true then
    bif ak n (ag (Ty.cast h B.x:List Int)) then
     K {v:=i64 ((aJ n (z31 y)).length:Int),bx:=some (id,⟨.dJ .row (.int .u8) b,(gX (Ty.cast h B.x:List Int) (aJ n (z31 y)) 0:List Int),[]⟩)}
    else none
   else none
  |none=>none else none else none
def copyV(E:Env)(T:TypeId)(s:State)(d x:SV)(K:Out->ae R):ae R:=
 match E.ty T,d with
 |some (.sl e t),.ptr id (.dJ (.rh n) a b) []=>(match x with
  | .bY .str y _=>sW t s id n a b y K
  |x=>qJ t s id n 0 a b x e K)
 |some (.sl e t),.ptr id (.dJ (.rh n) a b) [l]=>qJ t s id n l a b x e K
 |_,_=>none
def Oz(t b:Ty):Bool:=
 b.iS t||(match t with
  | .dJ (.CX _) u _=>b.iS u
  |_=>false)
def rX(s:State):List SV->ae (List SV×ae (Nat×fp))
 | []=>some ([],none)
 |v::r=>match rX s r with
  |none=>none
  |some (l,b)=>match v,b with
   | .bY t x _,b=>some (.bY t x []::l,b)
   | .jR,b=>some (.jR::l,b)
   | .view t x,b=>some (.view t x::l,b)
   | .ptr id t [],none=>match s.box id with
     |some B=>if Oz t B.t=true then some (.ptr 0 t []::l,some (id,B)) else none
     |none=>none
   |_,_=>none
def SV.pD(id:Nat):SV->SV
 | .ptr _ t p=> .ptr id t p
 |v=>v
def Kv(s:State):List Operand->ae (Nat×Nat×Ty×Ty×Nat×List Operand)
 | .tmp t::r=>match s.slot t with
   | [.fc id a b j]=>some (t,id,a,b,j,r)
   |_=>none
 |_=>none
def sT(C:FuncId->gK R)(s:State)(f:FuncId)(t id:Nat)(a b:Ty)(j:Nat)(vs:List SV)(K:Out->ae R):ae R:=
 if b.fG=true then none else match rX s vs with
 |some (l,none)=>xa s id a b λx own=>match getM j x.2.1 with
  |some y=>C f (.ptr 0 b []::l) (some ⟨b,y,HH⟩) λr B'=>match B' with
   |some B'=>if h:B'.t.iS b=true then bif pU B'.own [2] then K {v:=r,bx:=some (id,⟨.dJ .lh a b,(x.1,pS j (some (Ty.cast h B'.x)) x.2.1,x.2.2),[]::own⟩),cl:=[(t,0)]} else none else none
   |none=>none
  |none=>none
 |_=>none
def pa(C:FuncId->gK R)(s:State)(dst:ae Nat)(f:FuncId)(vs:List SV)(K:Out->ae R):ae R:=
 match rX s vs with
 |some (l,none)=>C f l none λr B=>match B with
  |none=>K {v:=r}
  |some B=>match dst with
   |some d=>match s.bs[d+1]? with
    |some none=>K {v:=r.map (SV.pD (d+1)),bx:=some (d+1,B)}
    |_=>none
   |none=>none
 |some (l,some (id,B))=>if(B.t.nI&& !pU B.own [])=true then none else C f l (some B) λr B'=>match B' with
  |some B'=>if B'.t.iS B.t=true then K {v:=r,bx:=some (id,B')} else none
  |none=>none
 |none=>none
def ti(g:Bool)(x y:SV)(K:Out->ae R):ae R:=
 match x,y with
 | .bY (.int k) m _,.bY (.int _) n _=>K {v:=[.bY (.int k) (bif g then(if m<n then n else m) else(if n<m then n else m)) []]}
 |_,_=>none
def xJ(E:Env)(T:TypeId)(K:Out->ae R):ae R:=
 match E.ty T with
 |some (.sl e t)=>K {v:=[.bY (.sl e t) ([]:List (El t)) [[]]]}
 |_=>K {v:=[.jR]}
def wI(s:State):Operand->ae (Nat×List SV)
 | .tmp t=>bif ak (s.slot t).length 1 then none else some (t,s.slot t)
 |_=>none
def tu(t:Nat):Nat->List (Nat×Nat)
 |0=>[]
 |n+1=>(t,n)::tu t n
def oI(E:Env)(d:ae Nat):Bool:=
 match d with
 |some d=>E.sh.any (ak d)
 |none=>false
def takes(E:Env)(d:ae Nat):Bool:=
 match d with
 |some d=>E.mv.any (ak d)
 |none=>false
def Out.shut(u:Out):Out:={u with v:=u.v.map SV.shut}
def BX(f:FuncId)(x y:SV)(K:Out->ae R):ae R:=
 match x,y with
 | .view t a,.view u b=>K {v:=[.cap f t a u b]}
 |_,_=>none
def act(E:Env)(C:FuncId->gK R)(ops:List Oper)(o:Oper)(s:State)(K:Out->ae R):ae R:=
 match o.op with
 | .move x=>match wI s x with
   |some (t,l)=>bif oI E o.dst then K {v:=l.map SV.shut} else K {v:=l,cl:=bif l.all λv=>v.own.isEmpty then [] else tu t l.length}
   |none=>match s.cP x with
    | .bY t y w=>bif Z8 ops o.dst||takes E o.dst then K {v:=[.bY t y w],cl:=Fp w x} else K {v:=[.bY t y []]}
    | .undef=>none
    | .fc _ _ _ _=>none
    | .jR=>xJ E o.type K
    |v=>K {v:=[v]}
 | .assign x=>match s.cP x with
   | .bY t y w=>K {v:=[.bY t y w],cl:=Fp w x}
   | .undef=>none
   | .fc _ _ _ _=>none
   | .jR=>xJ E o.type K
   |v=>K {v:=[v]}
 | .pick c a b=>match s.cP c with
   | .bY .bool p _=>bif p then K {v:=[(s.cP a).shut]} else K {v:=[(s.cP b).shut]}
   |_=>none
 | .binOp op T x y _=>bin E op T (s.cP x) (s.cP y) λv=>K {v}
 | .unOp op _ x=>OR op (s.cP x) K
 | .convert S T x=>match s.cP x with
   | .ptr id (.dJ (.rh n) a b) []=>sV E S T s id n a b K
   |v=>ug E S T v K
 | .load T a=>load E T s (Z8 ops o.dst||G2 E ops o.dst||Sh ops o.dst) (s.cP a) K
 | .store T a x=>store E T s (s.cP a) x K
 | .nilCheck x=>match s.cP x with
   | .ptr id t p=>if(t.fG&& !t.nI)=true then none else K {v:=[.ptr id t p]}
   | .view t y=>K {v:=[.view t y]}
   |_=>none
 | .fieldAddr T x j=>match E.gr T with
   |some (ta,tb)=>LM (s.cP x) j ta tb K
   |none=>Uh (E.ty T) (s.cP x) j K
 | .indexAddr T x i=>Uk E T (s.cP x) (s.cP i) K
 | .index T x i=>Ul E T (s.cP x) (s.cP i) K
 | .field T x j=>match E.ty T with
   |some t=>if t.lT=false then none else(s.cP x).el t λy=>match El.get t [j] y with
    |some ⟨u,z⟩=>K {v:=[.bY u z []]}
    |none=>none
   |none=>none
 | .slice T x lo hi none=>match s.cP x with
   | .ptr id (.dJ (.rh n) a b) []=>(match E.ty T with
     |some (.sl _ t)=>if a.iS t=true then B4 n id a b (lo.map s.cP) (hi.map s.cP) K else none
     |_=>none)
   | .ptr id (.arr n t) []=>Aa E T s id n t (lo.map s.cP) (hi.map s.cP) K
   |v=>Ab E T v (lo.map s.cP) (hi.map s.cP) K
 | .makeFunc (.func f) first captured=>match first.toList,captured.toList with
   | [],[x]=>vS f (s.cP x) K
   | [],[x,y]=>BX f (s.cP x) (s.cP y) K
   |_,_=>none
 | .alloc T=>match E.ty T,o.dst with
   |some t,some d=>match s.bs[d+1]? with
    |some none=>K {v:=[.ptr (d+1) t []],bx:=some (d+1,⟨t,El.gG t,Fm t⟩)}
    |_=>none
   |none,some d=>(match E.gr T with
    |some (ta,tb)=>match s.bs[d+1]? with
     |some none=>K {v:=[.ptr (d+1) (.dJ .lh ta tb) []],bx:=some (d+1,⟨.dJ .lh ta tb,(El.gG ta,(none,none),(0:Int)),[]::tV⟩)}
     |_=>none
    |none=>match E.bl T with
    |some e=>match s.bs[d+1]? with
     |some none=>K {v:=[.ptr (d+1) (.dJ (.sd T e) .unit .unit) []],bx:=some (d+1,⟨.dJ (.sd T e) .unit .unit,(⟨#[]⟩:af),[[]]⟩)}
     |_=>none
    |none=>none)
   |_,_=>none
 | .box T x=>match E.ty T,o.dst with
   |some t,some d=>match s.bs[d+1]? with
    |some none=>(s.cP x).el t λy=>K {v:=[.ptr (d+1) t []],bx:=some (d+1,⟨t,y,(s.cP x).own⟩),cl:=src x}
    |_=>none
   |_,_=>none
 | .build T parts=>match E.ty T with
   |some t=>if t.agg=false then none else AH t (El.gG t) (Fm t) (vw s parts.toList).1 λy own=>K {v:=[.bY t y own],cl:=(vw s parts.toList).2}
   |none=>none
 | .buildSlice T n parts=>match E.ty T with
   |some (.sl e t)=>if ak t.cells 0=true then none else bif bn (n*t.cells) 16777216 then HG t (aw n (El.gG t)) (parts.toList.map λp=>(p.1,s.cP p.2)) λy=>K {v:=[.bY (.sl e t) y [[]]]} else none
   |_=>none
 | .extract x j=>match x with
   | .tmp t=>if ak (s.slot t).length 1=true then(match one (s.slot t),j with
      | .over,0=>K {v:=bl false}
      |_,_=>none) else match(s.slot t)[j]? with
     |some (.bY u y w)=>K {v:=[.bY u y w],cl:=bif w.isEmpty then [] else [(t,j)]}
     |some .undef=>none
     |some (.fc _ _ _ _)=>none
     |some v=>K {v:=[v]}
     |none=>none
   |_=>none
 | .makeMap T none=>match wC E T with
   |some (kt,vt)=>tj s o.dst (.dJ .mp kt vt) ([]:List (El kt×El vt)) (.dJ .mp kt vt) K
   |none=>none
 | .lookup T x i false=>uo E T s (s.cP x) (s.cP i) K
 | .mapUpdate T m k x=>vh E T s (s.cP m) (s.cP k) (s.cP x) K
 | .insert T m k x=>vh E T s (s.cP m) (s.cP k) (s.cP x) K
 | .range T x=>match E.ty T with
   |some .str=>(s.cP x).el .str λy=>tj s o.dst tc ((y,0):af×Nat) tc K
   |_=>none
 | .next x true=>uu s (s.cP x) K
 | .makeSlice T l c=>ur E T s o.dst l (s.cP l) (s.cP c) K
 | .call ⟨.value (.func f),args,_⟩=>match Kv s args.toList with
   |some (t,id,a,b,j,r)=>sT C s f t id a b j (r.map s.cP) K
   |none=>pa C s o.dst f (args.toList.map s.cP) λu=>K (bif oI E o.dst then u.shut else u)
 | .call ⟨.value (.tmp y),args,_⟩=>match s.cP (.tmp y) with
   | .ptr id (.dJ (.CX f) u _) []=>if u.yO=true then none else pa C s o.dst f (args.toList.map s.cP++ [.ptr id u []]) K
   | .cap f t x u y=>pa C s o.dst f (args.toList.map s.cP++ [.view t x,.view u y]) K
   |_=>none
 | .call ⟨.builtin .copy,args,argTypes⟩=>match args.toList,argTypes.toList with
   | [d,x],T::_=>copyV E T s (s.cP d) (s.cP x) K
   |_,_=>none
 | .call ⟨.builtin .len,args,argTypes⟩=>match args.toList,argTypes.toList with
   | [x],[T]=>CA E T (s.cP x) K
   |_,_=>none
 | .call ⟨.builtin .append,args,argTypes⟩=>match args.toList,argTypes.toList with
   | [b,x],[T,U]=>TK E T U b (s.cP b) (s.cP x) K
   |_,_=>none
 | .call ⟨.builtin .max,args,_⟩=>match args.toList with
   | [x,y]=>ti true (s.cP x) (s.cP y) K
   |_=>none
 | .call ⟨.builtin .min,args,_⟩=>match args.toList with
   | [x,y]=>ti false (s.cP x) (s.cP y) K
   |_=>none
 |_=>none
def TR(ops:List Oper)(g:Nat):ae Nat:=(ops[g]?).bind (·.dst)
def step(E:Env)(C:FuncId->gK R)(ops:List Oper)(o:Oper)(s:State)(K:State->ae R):ae R:=
 let go (s:State):ae R:=act E C ops o s λu=>K (s.apply o.dst u);let pass (s:State):ae R:=K (s.b7 o.dst [.skip])
 match o.guard with
 |none=>go s
 |some (g,want)=>match TR ops g with
  |none=>none
  |some d=>match s.slot d with
   | [.bY .bool p []]=>bif p then(let s:=s.b7 (some d) (bl true);bif want then go s else pass s) else(let s:=s.b7 (some d) (bl false);bif want then pass s else go s)
   | [.skip]=>pass s
   |_=>none
def steps(E:Env)(C:FuncId->gK R)(ops:List Oper):List Oper->State->(State->ae R)->ae R
 | [],s,K=>K s
 |o::r,s,K=>step E C ops o s λs=>steps E C ops r s K
structure nb where
 i:Nat
 r:Nat
 w:Nat
 br:Nat
 bw:Nat
def bit(i:Nat):Nat:=1<<<i
def rP:List Nat->Nat
 | []=>0
 |i::r=>bit i|||rP r
def z40:List Operand->List Nat
 | []=>[]
 | .tmp t::r=>t::z40 r
 |_::r=>z40 r
def looks(ops:List Oper)(o:Oper):List Nat:=z40 o.op.operands.toList++(match o.guard with
 |some (g,_)=>(TR ops g).toList
 |none=>[])
def iI:SV->List Nat
 | .ptr id _ _=>[id]
 | .fc id _ _ _=>[id]
 |_=>[]
def zx(s:State)(o:Oper):List Nat:=
 match o.op with
 | .load _ a=>iI (s.cP a)
 | .store _ a _=>iI (s.cP a)
 | .alloc _| .box _ _| .makeMap _ _| .range _ _| .makeSlice _ _ _=>o.dst.toList.map λd=>d+1
 | .convert _ _ x=>iI (s.cP x)
 | .slice _ x _ _ _=>iI (s.cP x)
 | .lookup _ x _ _=>iI (s.cP x)
 | .mapUpdate _ m _ _=>iI (s.cP m)
 | .insert _ m _ _=>iI (s.cP m)
 | .next x _=>iI (s.cP x)
 | .call ⟨.value y,args,_⟩=>(args.toList.flatMap λx=>iI (s.cP x))++(iI (s.cP y)++o.dst.toList.map λd=>d+1)
 | .call ⟨.builtin .copy,args,_⟩=>args.toList.flatMap λx=>iI (s.cP x)
 |_=>[]
def pI(ops:List Oper)(o:Oper)(i:Nat)(s:State)(u:Out):nb:=
 ⟨i,rP (looks ops o),rP (o.dst.toList++u.cl.map (·.1)),rP (zx s o),rP (u.bx.toList.map (·.1))⟩
def nb.apart(a b:nb):Bool:=
 ak (a.w&&&(b.r|||b.w)) 0&&(ak (b.w&&&a.r) 0&&(ak (a.bw&&&(b.br|||b.bw)) 0&&ak (b.bw&&&a.br) 0))
def zy:List Edge->Nat
 | []=>0
 |e::r=>bif Region.binds .any e then bit e.on|||zy r else zy r
def rU(ops:List Oper):Nat->Nat->Nat
 |0,m=>m
 |i+1,m=>rU ops i (match ops[i]? with
  |some o=>bif m.testBit i then m|||zy o.after.toList else m
  |none=>m)
def fits(ops:List Oper)(m:Nat)(f:nb)(tr:List nb):Bool:=bn (m+1) (bit f.i)&&tr.all λa=>m.testBit a.i||(a.apart f||(rU ops f.i m).testBit a.i)
def uC(E:Env)(C:FuncId->gK R)(ops:List Oper)(o:Oper)(i:Nat)(s:State)(tr:List nb)(K:State->List nb->ae R):ae R:=
 let go (s:State):ae R:=act E C ops o s λu=>bif fits ops (zy o.after.toList) (pI ops o i s u) tr then K (s.apply o.dst u) (pI ops o i s u::tr) else none;let pass (s:State):ae R:=bif fits ops (zy o.after.toList) (pI ops o i s {v:=[.skip]}) tr then K (s.apply o.dst {v:=[.skip]}) (pI ops o i s {v:=[.skip]}::tr) else none
 match o.guard with
 |none=>go s
 |some (g,want)=>match TR ops g with
  |none=>none
  |some d=>match s.slot d with
   | [.bY .bool p []]=>bif p then(let s:=s.b7 (some d) (bl true);bif want then go s else pass s) else(let s:=s.b7 (some d) (bl false);bif want then pass s else go s)
   | [.skip]=>pass s
   |_=>none
def FA(E:Env)(C:FuncId->gK R)(ops:List Oper):List Oper->Nat->State->List nb->(State->ae R)->ae R
 | [],_,s,_,K=>K s
 |o::r,i,s,tr,K=>uC E C ops o i s tr λs tr=>FA E C ops r (i+1) s tr K
inductive Ex where
 |normal
 |exit (id:Nat)
 |ret
def xT:Code->Nat
 | .region id _ _=>id
 | .seq a _=>xT a
 | .cond _ a _=>xT a
 | .block _ b=>xT b
 | .loop b=>xT b
 |_=>0
def pq{α:Type}(z:α)(l:List Nat):Nat->List α->List α
 |_,[]=>[]
 |i,x::r=>(bif l.any (ak i) then x else z)::pq z l (i+1) r
def SV.roots(l:List Nat):SV->Bool
 | .ptr 0 _ _=>true
 | .ptr (id+1) _ _=>l.any (ak id)
 | .fc 0 _ _ _=>true
 | .fc (id+1) _ _ _=>l.any (ak id)
 |_=>true
def ltL:List Nat->List Nat->Bool
 | [],[]=>false
 | [],_::_=>true
 |_::_,[]=>false
 |a::p,b::q=>bn (a+1) b||(ak a b&&ltL p q)
def Cx(p:List Nat):List (List Nat)->List (List Nat)
 | []=>[p]
 |q::r=>bif ltL q p then q::Cx p r else p::q::r
def wF:List (List Nat)->List (List Nat)
 | []=>[]
 |p::r=>Cx p (wF r)
def SV.norm:SV->SV
 | .bY t x own=> .bY t x (wF own)
 |v=>v
def fp.norm(B:fp):fp:={B with own:=wF B.own}
def State.norm(s:State):State:=⟨s.sl.map λv=>v.map SV.norm,s.bs.map λb=>b.map fp.norm⟩
def AJ(l:List Nat)(s:State)(K:State->ae R):ae R:=
 let sl:=pq [.undef] l 0 s.sl
 bif sl.all (λv=>v.all (SV.roots l)) then K (State.norm ⟨sl,s.bs.headD none::pq none l 0 s.bs.tail⟩) else none
def ww(k:Nat)(f:Unit->ae R):ae R:=
 match k with
 |0=>none
 |_+1=>f ()
def wD(E:Env)(k r:Nat)(s:State)(K:State->ae R):ae R:=
 match E.join r with
 |none=>K s
 |some l=>AJ l s λs=>ww k λ_=>K s
def uQ(id:Nat)(l:List SV):List SV:=l.map λv=>match v with
 | .ptr j _ _=>bif ak j id then .undef else v
 |v=>v
def Aw(E:Env)(r:Nat)(s:State)(K:State->ae R):ae R:=
 match E.fz r with
 |none=>K s
 |some (d,T)=>match s.slot d,E.ty T with
  | [.ptr id (.dJ (.rh n) a b) []],some (.sl e t)=>if a.iS t=true then match s.box id with
    |some B=>if h:B.t.iS (.dJ .row t b)=true then
      bif ak n (ag (Ty.cast h B.x:List (El t))) then K {sl:=(s.sl.map (uQ id)).set d [.bY (.sl e t) (Ty.cast h B.x:List (El t)) []],bs:=s.bs.set id none} else none
     else none
    |none=>none else none
  |_,_=>none
def AL(id:Nat)(B:fp)(v:SV):SV:=
 match v with
 | .ptr j t p=>bif ak j id then(if t.iS B.t=true then match El.get B.t p B.x with
    |some ⟨u,y⟩=> .view u y
    |none=> .undef else .undef) else .ptr j t p
 |v=>v
def Yv(id:Nat)(s:State)(K:State->ae R):ae R:=
 match s.box id with
 |some B=>if B.t.fG=true then none else K {sl:=s.sl.map λl=>l.map (AL id B),bs:=s.bs.set id none}
 |none=>none
def Lx:List Nat->State->(State->ae R)->ae R
 | [],s,K=>K s
 |id::r,s,K=>Yv id s λs=>Lx r s K
def rH(l:List Nat):Nat->List (ae fp)->List (ae fp)
 |_,[]=>[]
 |i,b::r=>(bif l.any (ak i) then b.map (λB=>{B with own:=[]}) else b)::rH l (i+1) r
def State.drop(l:List Nat)(s:State):State:={s with bs:=rH l 0 s.bs}
def pu(body:State->(Ex->State->ae R)->ae R)(l lx:List Nat):Nat->State->(Ex->State->ae R)->ae R
 |0,_,_=>none
 |k+1,s,K=>body s λe s=>match e with
  | .normal=>AJ l s λs=>pu body l lx k s K
  |e=>AJ lx s λs=>K e s
def Ty.flat:Ty->Bool
 | .sl _ _=>false
 | .dJ _ _ _=>false
 | .arr _ t=>t.flat
 | .pair a b=>a.flat&&b.flat
 |_=>true
def SV.flat:SV->Bool
 | .bY t _ own=>t.flat&&own.isEmpty
 | .ptr _ _ _| .view _ _| .cap _ _ _ _ _| .fc _ _ _ _=>false
 |_=>true
def uh(o:Nat):Nat->List (List SV)->Bool
 |_,[]=>true
 |i,l::r=>(ak i o||l.all SV.flat)&&uh o (i+1) r
def te:Nat->Nat->List (List SV)->List (List SV)
 |0,_,sl=>sl
 |n+1,m,sl=>te n (m+1) (sl.set m [.undef])
def isDst(o:Oper)(d:Nat):Bool:=
 match o.dst,o.guard with
 |some d',none=>ak d' d
 |_,_=>false
def oH(x:Operand)(i:Nat):Bool:=
 match x with
 | .tmp j=>ak j i
 |_=>false
def EN(E:Env)(T:TypeId):Bool:=
 match E.ty T with
 |some (.int .u8)=>true
 |_=>false
def Yw(E:Env)(T:TypeId):Bool:=
 match E.ty T with
 |some (.sl _ (.int .u8))=>true
 |_=>false
def Ku(o:Oper)(d x:Nat):Bool:=isDst o d&&(match o.op with
 | .move y=>oH y x
 |_=>false)
def isLen(E:Env)(o:Oper)(d x:Nat):Bool:=isDst o d&&(match o.op with
 | .call ⟨.builtin .len,mN,ts⟩=>match mN.toList,ts.toList with
   | [y],[T]=>oH y x&&Yw E T
   |_,_=>false
 |_=>false)
def Z9(o:Oper)(d x:Nat):Bool:=isDst o d&&(match o.op with
 | .binOp .sub _ y (.const (.int .i64 c)) _=>oH y x&&decide (c=1)
 |_=>false)
def EM(E:Env)(o:Oper)(d x i:Nat):Bool:=isDst o d&&(match o.op with
 | .indexAddr T y j=>oH y x&&(oH j i&&Yw E T)
 |_=>false)
def JG(E:Env)(o:Oper)(d x:Nat):Bool:=isDst o d&&(match o.op with
 | .load T y=>oH y x&&EN E T
 |_=>false)
def Cz(o:Oper)(d x y:Nat):Bool:=isDst o d&&(match o.op with
 | .binOp .add _ u v _=>oH u x&&oH v y
 |_=>false)
def Cy(E:Env)(o:Oper)(x y:Nat):Bool:=(match o.dst,o.guard with
 |none,none=>true
 |_,_=>false)&&(match o.op with
 | .store T u v=>oH u x&&(oH v y&&EN E T)
 |_=>false)
def JJ(E:Env)(o x m:Nat)(ops:List Oper):Bool:=
 match ops with
 | [a0,a1,a2,a3,a4,a5,a6,a7,a8,a9,uO,uP,a12,Ej]=>Ku a0 m o&&(Ku a1 (m+1) o&&(isLen E a2 (m+2) (m+1)&&(Z9 a3 (m+3) (m+2)&&(Ku a4 (m+4) o&&(Ku a5 (m+5) o&&(isLen E a6 (m+6) (m+5)&&(Z9 a7 (m+7) (m+6)&&(EM E a8 (m+8) (m+4) (m+7)&&(JG E a9 (m+9) (m+8)&&(Ku uO (m+10) x&&(Cz uP (m+11) (m+9) (m+10)&&(EM E a12 (m+12) m (m+3)&&Cy E Ej (m+12) (m+11)))))))))))))
 |_=>false
def He(e:TypeId)(xs:List Int)(y:Int)(own:List (List Nat)):List SV:=[.bY (.sl e (.int .u8)) (xs.set (IntKind.i64.wrap ((xs.length:Int)-1)).toNat (IntKind.u8.wrap (xs.getD (IntKind.i64.wrap ((xs.length:Int)-1)).toNat 0+y)):List Int) own]
def uD(E:Env)(q:Nat×Nat×Nat)(ops:List Oper)(s:State)(K:State->ae R):ae R:=
 bif JJ E q.1 q.2.1 q.2.2 ops then
  bif bn (q.1+1) q.2.2&&(bn (q.2.1+1) q.2.2&&(!(ak q.1 q.2.1)&&bn (q.2.2+13) s.sl.length)) then
   match s.slot q.1,s.slot q.2.1 with
   | [.bY (.sl e (.int .u8)) xs own],[.bY (.int .u8) y _]=>
     bif pU own [] then
      bif uh q.1 0 (te 13 q.2.2 s.sl)&&s.bs.all Option.isNone then
       zd (IntKind.i64.wrap ((ag (xs:List Int):Int)-1)) (ag (xs:List Int)) (K ⟨(te 13 q.2.2 s.sl).set q.1 (He e xs y own),s.bs⟩)
      else none
     else none
   |_,_=>none
  else none
 else none
def En(own:List (List Nat)):List (List Nat):=own.filterMap λp=>match p with
 |(j+1)::p=>some (j::p)
 |_=>none
def Ty.kh:Ty->List (List Nat)->Bool
 | .sl _ t,own=>t.flat&&pU own []
 | .pair a b,own=>a.kh (Up own [0])&&b.kh (En own)
 | .dJ _ _ _,_=>false
 | .arr _ t,_=>t.flat
 |_,_=>true
def fp.kh(B:fp):Bool:= !B.t.fG&&B.t.kh B.own
def SV.kh(bs:List (ae fp)):SV->Bool
 | .bY t _ own=>t.kh own
 | .view _ _| .cap _ _ _ _ _| .fc _ _ _ _=>false
 | .ptr id _ _=>match bs.getD id none with
   |some B=>B.kh
   |none=>false
 |_=>true
def hold(bs:List (ae fp))(l:List SV):List SV:=bif l.all (SV.kh bs) then l else [.undef]
def zsl:ae fp->ae fp
 |some B=>bif B.kh then some B else none
 |none=>none
def State.kh(x:Nat)(s:State):State:=⟨(s.sl.set x [.undef]).map (hold s.bs),s.bs.map zsl⟩
def CG(E:Env)(x d:Nat)(T T':TypeId)(i vo:Operand)(s:State)(K:State->ae R):ae R:=
 match s.slot x with
 | [.bY (.sl e t) xs own]=>bif pU own [] then
     match E.ty T,E.ty T' with
     |some u,some w=>bif u.iS (.sl e t)&&(w.iS t&&bn (d+1) s.sl.length) then
       (s.cP i).num λn=>((s.b7 (some d) [.undef]).cP vo).el t λ_=>zd n (ag (xs:List (El t))) (K ((s.b7 (some d) [.undef]).kh x))
      else none
     |_,_=>none
   else none
 |_=>none
def uv(o:Oper):Bool:=
 match o.dst,o.guard with
 |none,none=>true
 |_,_=>false
def rR(E:Env)(oA oS:Oper)(s:State)(K:State->ae R):ae R:=
 match oA.op,oS.op with
 | .indexAddr T (.tmp x) i,.store T' (.tmp d) vo=>bif isDst oA d&&(!(ak x d)&&uv oS) then CG E x d T T' i vo s K else none
 |_,_=>none
def Yy{α:Type}:List α->ae (List α×α×α)
 | []=>none
 | [_]=>none
 | [a,b]=>some ([],a,b)
 |a::r=>match Yy r with
  |some (l,x,y)=>some (a::l,x,y)
  |none=>none
def uy(E:Env)(C:FuncId->gK R)(ops:List Oper)(s:State)(K:State->ae R):ae R:=
 match Yy ops with
 |some (l,oA,oS)=>steps E C ops l s λs=>rR E oA oS s K
 |none=>none
def VD{α:Type}:List α->ae (List α×α×α×α)
 | []=>none
 | [_]=>none
 | [_,_]=>none
 | [a,b,c]=>some ([],a,b,c)
 |a::r=>match VD r with
  |some (l,x,y,z)=>some (a::l,x,y,z)
  |none=>none
def aaS(s:State)(d1 d2 d3:Nat)(ta tb:Ty)(y:El ta):State:=
 (((s.b7 (some d1) [.undef]).cG (some (d2+1,⟨.dJ .lh ta tb,(y,(none,none),(0:Int)),[]::tV⟩))).b7 (some d2) [.undef]).b7 (some d3) [.ptr (d2+1) (.dJ .lh ta tb) []]
def Aq(E:Env)(oB oX oA:Oper)(s:State)(K:State->ae R):ae R:=
 match oB.op,oX.op,oA.op with
 | .build T parts,.box T' (.tmp e1),.assign (.tmp e2)=>match oB.dst,oX.dst,oA.dst with
   |some d1,some d2,some d3=>bif ak T T'&&(ak d1 e1&&(ak d2 e2&&(isDst oB d1&&(isDst oX d2&&(isDst oA d3&&(bn (d1+1) s.sl.length&&bn (d2+1) s.sl.length)))))) then
     match parts.toList,E.gr T with
     | [(0,x)],some (ta,tb)=>(s.cP x).el ta λy=>match s.bs[d2+1]? with
       |some none=>K (aaS s d1 d2 d3 ta tb y)
       |_=>none
     |_,_=>none
    else none
   |_,_,_=>none
 |_,_,_=>none
def KZ(E:Env)(C:FuncId->gK R)(ops:List Oper)(s:State)(K:State->ae R):ae R:=
 match VD ops with
 |some (l,oB,oX,oA)=>steps E C ops l s λs=>Aq E oB oX oA s K
 |none=>none
def wA(s:State)(id m j:Nat)(ta tb:Ty)(x:El (.dJ .lh ta tb))(own:List (List Nat))(y:El tb):State:=
 ⟨s.sl.map (uQ m),(s.bs.set m none).set id (some ⟨.dJ .lh ta tb,(x.1,pS j (some y) x.2.1,x.2.2),own⟩)⟩
def tf(E:Env)(oS:Oper)(s:State)(K:State->ae R):ae R:=
 match oS.op with
 | .store T (.tmp x) (.tmp y)=>bif uv oS then if E.pt T=true then match s.slot x with
    | [.ptr id (.dJ .lh ta tb) [1,j]]=>xa s id ta tb λz own=>bif pU own [] then match s.slot y with
      | [.ptr m tb' []]=>match s.box m with
        |some B=>if h:B.t.iS tb=true then bif tb'.iS tb&&(!tb.fG&&(pU B.own [2]&& !(ak id m))) then K (wA s id m j ta tb z own (Ty.cast h B.x)) else none else none
        |none=>none
      | [.nE]=>K (s.cG (some (id,⟨.dJ .lh ta tb,(z.1,pS j none z.2.1,z.2.2),own⟩)))
      |_=>none
      else none
    |_=>none
    else none else none
 |_=>none
def Yx{α:Type}:List α->ae (List α×α)
 | []=>none
 | [a]=>some ([],a)
 |a::r=>match Yx r with
  |some (l,x)=>some (a::l,x)
  |none=>none
def Ap(E:Env)(C:FuncId->gK R)(k:Nat)(ops:List Oper)(s:State)(K:State->ae R):ae R:=
 match Yx ops with
 |some (l,oS)=>match ops[k]? with
  |some oD=>match oD.op,oD.dst with
   | .extract (.tmp t) j,some d=>bif isDst oD d&&(bn (k+1) l.length&&(bn (zy oS.after.toList+1) (bit l.length)&&ak (rU ops l.length (zy oS.after.toList)|||bit k) (bit l.length-1))) then
      FA E C ops l 0 s [] λs=>bif bn (j+1) (s.slot t).length&& !(ak (s.slot t).length 1) then tf E oS (s.b7 (some d) [.undef]) K else none
     else none
   |_,_=>none
  |none=>none
 |none=>none
def Kh(E:Env)(C:FuncId->gK R)(i:Nat)(ops:Array Oper)(d:Bool)(s:State)(K:State->ae R):ae R:=
 Aw E i s λs=>Lx (E.fr i) s λs=>bif d then FA E C ops.toList ops.toList 0 s [] K else steps E C ops.toList ops.toList s K
def ev(E:Env)(C:FuncId->gK R)(k:Nat):Code->State->(Ex->State->ae R)->ae R
 | .skip,s,K=>K .normal s
 | .region i ops d,s,K=>match E.sp with
   |some (j,q)=>bif ak i j then(match d with
    |true=>none
    |false=>bif ak q.2.2 0 then uy E C ops.toList s (K .normal) else uD E q ops.toList s (K .normal)) else Kh E C i ops d s (K .normal)
   |none=>match E.sg with
    |none=>Kh E C i ops d s (K .normal)
    |some (m,l,k)=>bif ak i m then(match d with
     |true=>none
     |false=>KZ E C ops.toList s (K .normal)) else bif ak i l then(match d with
     |true=>Ap E C k ops.toList s (K .normal)
     |false=>none) else Kh E C i ops d s (K .normal)
 | .seq a b,s,K=>ev E C k a s λe s=>match e with
   | .normal=>wD E k (xT b) s λs=>ev E C k b s K
   |e=>K e s
 | .cond c a b,s,K=>match s.cP c with
   | .bY .bool p _=>bif p then ev E C k a (s.b7 (CM c) (bl true)) K else ev E C k b (s.b7 (CM c) (bl false)) K
   |_=>none
 | .block id b,s,K=>ev E C k b s λe s=>match e with
   | .exit j=>bif ak j id then K .normal s else K (.exit j) s
   |e=>K e s
 | .loop b,s,K=>AJ (E.lV (xT b)) (s.drop (E.dr (xT b))) λs=>pu (ev E C k b) (E.lV (xT b)) (E.rM (xT b)) k s K
 | .exit id,s,K=>K (.exit id) s
 | .ret,s,K=>K .ret s
 |_,_,_=>none
def pZ(E:Env):State->List ResultVar->ae (List SV×State)
 |s,[]=>some ([],s)
 |s,.tmp t::r=>if(one (s.slot t)).gi=true then none else match pZ E (s.close [(t,0)]) r with
  |some (l,s')=>some (one (s.slot t)::l,s')
  |none=>none
 |s,.cell p T::r=>match s.slot p,E.ty T with
  | [.ptr id u []],some t=>match s.box id with
    |some B=>if(t.iS B.t&& !u.fG)=true then match pZ E (s.cG (some (id,{B with own:=[]}))) r with
      |some (l,s')=>some (.bY B.t B.x B.own::l,s')
      |none=>none
     else none
    |none=>none
  |_,_=>none
def HI:List SV->List Nat
 | []=>[]
 | .ptr id _ _::r=>id::HI r
 |_::r=>HI r
def LN(s:State)(bx:ae fp)(l:List SV)(K:List SV->ae fp->ae R):ae R:=
 match bx,HI l with
 |some _,[]=>match s.box 0 with
  |some B=>K l (some B)
  |none=>none
 |none,[]=>K l none
 |none,[id]=>match s.box id with
  |some B=>K (l.map (SV.pD 0)) (some B)
  |none=>none
 |_,_=>none
def pY(E:Env)(l:List SV):List SV:=bif E.ro then l.map SV.shut else l
def dk:List Ty->List SV->List SV
 | .sl e t::r,.jR::q=> .bY (.sl e t) ([]:List (El t)) []::dk r q
 |_::r,v::q=>v.shut::dk r q
 | [],q=>q
 |_,[]=>[]
def se(E:Env)(C:FuncId->gK R)(k:Nat)(fn:Func)(code:Code)(vs:List SV)(bx:ae fp)(K:List SV->ae fp->ae R):ae R:=
 bif E.sp.isSome&&bx.isSome then none else
 let n:=fn.ntmps-vs.length;let s:State:=⟨(dk E.ps vs).map (λv=>[v])++aw n [.undef],bx::aw (vs.length+n) none⟩
 ev E C k code s λe s=>match e with
  | .exit _=>none
  |_=>match pZ E s fn.results.toList with
   |some (l,s')=>LN s' bx (pY E l) K
   |none=>none
end
end Go.Ref

namespace Go.Ref
open Go
theorem zw{R S:Type}{sv:SV}{t:Ty}{F:El t->ae R}{G:El t->ae S}{K:S->ae R}(h:∀y,F y=(G y).bind K):sv.el t F=(sv.el t G).bind K:=by
 cases sv with
 |bY t' x own=>
  simp only[SV.el];split
  ·exact h _
  ·rfl
 |jR=>cases t<;>simp only[SV.el]<;>first|rfl|exact h _
 |_=>rfl
theorem zk{R S:Type}{b:Bool}{x y:ae R}{x' y':ae S}{K:S->ae R}(h:x=x'.bind K)(k:y=y'.bind K):(bif b then x else y)=(bif b then x' else y').bind K:=by
 cases b
 ·exact k
 ·exact h
theorem zm{R S:Type}{c:Prop}[Decidable c]{x y:ae R}{x' y':ae S}{K:S->ae R}(h:x=x'.bind K)(k:y=y'.bind K):(if c then x else y)=(if c then x' else y').bind K:=by
 split
 ·exact h
 ·exact k
section
variable {R:Type}
theorem znw{op:BinOp}{k k':IntKind}{m n:Int}{K:List SV->ae R}:zY op k m k' n K=(zY op k m k' n some).bind K:=by unfold zY;cases op<;>simp only<;>repeat(first|rfl|refine zk ?_ ?_|refine zm ?_ ?_)
theorem zny{op:BinOp}{m n:af}{K:List SV->ae R}:zZ op m n K=(zZ op m n some).bind K:=by unfold zZ;cases op<;>simp only<;>repeat(first|rfl|refine zk ?_ ?_|refine zm ?_ ?_)
theorem znv{E:Env}{op:BinOp}{T:TypeId}{x y:SV}{K:List SV->ae R}:zX E op T x y K=(zX E op T x y some).bind K:=by
 unfold zX;split
 ·refine zm rfl (zw λa=>zw λb=> ?_);split
  ·cases op<;>rfl
  ·rfl
 ·rfl
theorem als{E:Env}{op:BinOp}{T:TypeId}{x y:SV}{S:Type}{F:List SV->ae R}{G:List SV->ae S}{K:S->ae R}(h:∀l,F l=(G l).bind K):bin E op T x y F=(bin E op T x y G).bind K:=by
 unfold bin;split
 ·rw[znw,znw (K:=G),jY];congr;funext l;exact h l
 ·rw[zny,zny (K:=G),jY];congr;funext l;exact h l
 ·refine zm rfl ?_;cases op<;>simp only<;>first|exact h _|rfl
 ·refine zm rfl ?_;cases op<;>simp only<;>first|exact h _|rfl
 ·rw[znv,znv (K:=G),jY];congr;funext l;exact h l
theorem Hm{S:Type}{i:Int}{n:Nat}{x:ae R}{x':ae S}{K:S->ae R}(h:x=x'.bind K):zd i n x=(zd i n x').bind K:=by unfold zd;exact zk (zk h rfl) rfl
theorem zd0{S:Type}{lo:ae SV}{m:Nat}{F:Nat->ae R}{G:Nat->ae S}{K:S->ae R}(h:∀l,F l=(G l).bind K):Fu lo m F=(Fu lo m G).bind K:=by
 unfold Fu;cases lo with
 |none=>exact h _
 |some v=>exact zw λy=>zk (zk (h _) rfl) rfl
theorem zy6{S:Type}{lo hi:ae SV}{n:Nat}{F:Nat->Nat->ae R}{G:Nat->Nat->ae S}{K:S->ae R}(h:∀l h,F l h=(G l h).bind K):cutAt lo hi n F=(cutAt lo hi n G).bind K:=by
 unfold cutAt;cases hi with
 |none=>exact zd0 λl=>h _ _
 |some w=>exact zw λy=>zk (zk (zd0 λl=>h _ _) rfl) rfl
theorem zrl{S:Type}{t:Ty}{F:El t->List (List Nat)->ae R}{G:El t->List (List Nat)->ae S}{K:S->ae R}(h:∀y o,F y o=(G y o).bind K):∀(l:List (Nat×SV×List (List Nat))) (x:El t) (own:List (List Nat)),AH t x own l F=(AH t x own l G).bind K
 | [],x,own=>by simpa [AH] using h x own
 |(i,v,ov)::r,x,own=>by
  simp only[AH];refine zm rfl ?_;split
  ·refine zw λy=> ?_;split
   ·exact zrl h r _ _
   ·rfl
  ·rfl
theorem zrm{S:Type}{t:Ty}{F:List (El t)->ae R}{G:List (El t)->ae S}{K:S->ae R}(h:∀y,F y=(G y).bind K):∀(l:List (Nat×SV)) (x:List (El t)),HG t x l F=(HG t x l G).bind K
 | [],x=>by simpa [HG] using h x
 |(i,v)::r,x=>by simp only[HG];exact zm rfl (zw λy=>zrm h r _)
variable {S:Type} {F:Out->ae R} {G:Out->ae S} {K:S->ae R}
theorem z49{s:State}{id:Nat}{a b:Ty}{F':El (.dJ .lh a b)->List (List Nat)->ae R}{G':El (.dJ .lh a b)->List (List Nat)->ae S}{K:S->ae R}(h:∀x o,F' x o=(G' x o).bind K):xa s id a b F'=(xa s id a b G').bind K:=by
 unfold xa;split
 ·split
  ·exact zk (h _ _) rfl
  ·rfl
 ·rfl
theorem acH{u:Ty}{s:State}{id:Nat}{t:Ty}{p:List Nat}(h:∀y,F y=(G y).bind K):Kg u s id t p F=(Kg u s id t p G).bind K:=by
 unfold Kg;split
 ·split
  ·split
   ·exact zm (zk (h _) rfl) rfl
   ·rfl
  ·rfl
 ·exact zm (z49 λx o=>h _) rfl
 ·exact zm (z49 λx o=>h _) rfl
 ·rfl
theorem ach{u:Ty}{s:State}{id:Nat}{t:Ty}{p:List Nat}{v:SV}(h:∀y,F y=(G y).bind K):J4 u s id t p v F=(J4 u s id t p v G).bind K:=by
 unfold J4;split
 ·split
  ·split
   ·exact zm (zw λy=>zk (h _) rfl) rfl
   ·rfl
  ·rfl
 ·split
  ·refine zm (z49 λx o=>zw λy=> ?_) rfl;split
   ·exact zk (h _) rfl
   ·rfl
  ·rfl
 ·exact zm (z49 λx o=>zw λy=>zk (h _) rfl) rfl
 ·rfl
theorem acy{u:Ty}{id:Nat}{t:Ty}{p:List Nat}{j:Nat}{F:Out->ae R}{G:Out->ae S}{K:S->ae R}(h:∀y,F y=(G y).bind K):Lw u id t p j F=(Lw u id t p j G).bind K:=by
 unfold Lw;split
 ·split
  ·refine zm ?_ rfl;split
   ·exact zm rfl (h _)
   ·rfl
  ·rfl
 ·rfl
theorem acD{m:Nat}{t:Ty}{n:Int}{id:Nat}{r:Ty}{p:List Nat}{F:Out->ae R}{G:Out->ae S}{K:S->ae R}(h:∀y,F y=(G y).bind K):LA m t n id r p F=(LA m t n id r p G).bind K:=by
 unfold LA;split
 ·split
  ·exact zm (Hm (h _)) rfl
  ·rfl
 ·rfl
theorem adq{v:SV}{j:Nat}{ta tb:Ty}{F:Out->ae R}{G:Out->ae S}{K:S->ae R}(h:∀y,F y=(G y).bind K):LM v j ta tb F=(LM v j ta tb G).bind K:=by
 unfold LM;split
 ·exact zm (zk (h _) rfl) rfl
 ·rfl
theorem aca{t:Ty}{n:Int}{id:Nat}{r:Ty}{p:List Nat}(h:∀y,F y=(G y).bind K):SX t n id r p F=(SX t n id r p G).bind K:=by
 unfold SX;split
 ·exact zm (Hm (h _)) rfl
 ·rfl
theorem acG{u:Ty}{B:fp}{t:Ty}{p:List Nat}(h:∀y,F y=(G y).bind K):LB u B t p F=(LB u B t p G).bind K:=by
 unfold LB;split
 ·split
  ·exact zm (zk (h _) rfl) rfl
  ·rfl
 ·rfl
theorem aga{E:Env}{T:TypeId}{s:State}{v:SV}(h:∀y,F y=(G y).bind K):tg E T s v F=(tg E T s v G).bind K:=by
 unfold tg;split
 ·exact zm (z49 λx o=>zk (h _) rfl) rfl
 ·rfl
theorem ajd{E:Env}{T:TypeId}{s:State}{la:Bool}{v:SV}(h:∀y,F y=(G y).bind K):load E T s la v F=(load E T s la v G).bind K:=by
 unfold load;split
 ·split
  ·exact zm (h _) rfl
  ·refine zm (acH h) ?_;split
   ·refine zm ?_ (acG h);split
    ·exact zm (zk (h _) (h _)) rfl
    ·rfl
   ·rfl
  ·rfl
 ·exact aga h
theorem agN{E:Env}{T:TypeId}{s:State}{v:SV}{x:Operand}(h:∀y,F y=(G y).bind K):store E T s v x F=(store E T s v x G).bind K:=by
 unfold store;split
 ·split
  ·refine zm (ach h) ?_;split
   ·refine zm ?_ rfl;split
    ·refine zm (zw λy=> ?_) rfl;split
     ·exact h _
     ·rfl
    ·rfl
   ·rfl
  ·rfl
 ·rfl
theorem z198{t:ae Ty}{v:SV}{j:Nat}(h:∀y,F y=(G y).bind K):Uh t v j F=(Uh t v j G).bind K:=by
 unfold Uh;split
 ·refine zm (acy h) ?_;split
  ·refine zm ?_ rfl;split
   ·exact zm rfl (h _)
   ·rfl
  ·rfl
 ·refine zm ?_ rfl;split
  ·exact zm rfl (h _)
  ·rfl
 ·rfl
theorem zxc{v:SV}{F':Int->ae R}{G':Int->ae S}{K:S->ae R}(h:∀n,F' n=(G' n).bind K):v.num F'=(v.num G').bind K:=by
 unfold SV.num;split
 ·exact h _
 ·rfl
theorem adv{E:Env}{T:TypeId}{v i:SV}(h:∀y,F y=(G y).bind K):Uk E T v i F=(Uk E T v i G).bind K:=by
 unfold Uk;refine zxc λn=> ?_;split
 ·exact zw λy=>Hm (h _)
 ·refine zm (acD h) ?_;split
  ·exact zm (Hm (h _)) rfl
  ·rfl
 ·exact zw λy=>Hm (h _)
 ·exact aca h
 ·exact zm (Hm (h _)) rfl
 ·rfl
theorem adw{E:Env}{T:TypeId}{v i:SV}(h:∀y,F y=(G y).bind K):Ul E T v i F=(Ul E T v i G).bind K:=by
 unfold Ul;refine zxc λn=> ?_;split
 ·exact zw λy=>Hm (h _)
 ·exact zw λy=>Hm (h _)
 ·rfl
theorem aiG{E:Env}{T:TypeId}{v:SV}{lo hi:ae SV}(h:∀y,F y=(G y).bind K):Ab E T v lo hi F=(Ab E T v lo hi G).bind K:=by
 unfold Ab;split
 ·exact zw λy=>zy6 λ_ _=>h _
 ·exact zw λy=>zy6 λ_ _=>h _
 ·rfl
theorem aco{E:Env}{T U:TypeId}{bo:Operand}{b x:SV}(h:∀y,F y=(G y).bind K):TK E T U bo b x F=(TK E T U bo b x G).bind K:=by
 unfold TK;refine zm rfl ?_;split
 ·refine zm rfl ?_;split
  ·exact zw λy=>zk (h _) rfl
  ·exact zm rfl (zw λy=>zw λz=>zk (h _) rfl)
  ·rfl
 ·rfl
theorem ai9{E:Env}{T:TypeId}{x:SV}(h:∀y,F y=(G y).bind K):CA E T x F=(CA E T x G).bind K:=by
 unfold CA;split
 ·exact zw λy=>h _
 ·split
  ·exact h _
  ·exact zw λy=>h _
 ·exact h _
 ·rfl
theorem afE{E:Env}{S' T:TypeId}{x:SV}(h:∀y,F y=(G y).bind K):ug E S' T x F=(ug E S' T x G).bind K:=by
 unfold ug;split
 ·exact zw λy=>h _
 ·exact zw λy=>h _
 ·exact zw λy=>h _
 ·rfl
theorem afD{E:Env}{S' T:TypeId}{s:State}{id n:Nat}{a b:Ty}(h:∀y,F y=(G y).bind K):sV E S' T s id n a b F=(sV E S' T s id n a b G).bind K:=by
 unfold sV;split
 ·refine zm ?_ rfl;split
  ·split
   ·exact zk (h _) rfl
   ·rfl
  ·rfl
 ·rfl
theorem zoa{s:State}{dst:ae Nat}{t:Ty}{x:El t}{p:Ty}(h:∀y,F y=(G y).bind K):tj s dst t x p F=(tj s dst t x p G).bind K:=by
 unfold tj;split
 ·split
  ·exact h _
  ·rfl
 ·rfl
theorem zs6{s:State}{m:SV}{kt vt:Ty}{F:Nat->List (El kt×El vt)->ae R}{G:Nat->List (El kt×El vt)->ae S}{K:S->ae R}(h:∀n y,F n y=(G n y).bind K):Dh s m kt vt F=(Dh s m kt vt G).bind K:=by
 unfold Dh;split
 ·refine zm ?_ rfl;split
  ·split
   ·exact h _ _
   ·rfl
  ·rfl
 ·rfl
theorem agb{E:Env}{T:TypeId}{s:State}{m i:SV}(h:∀y,F y=(G y).bind K):uo E T s m i F=(uo E T s m i G).bind K:=by
 unfold uo;split
 ·exact zs6 λ_ _=>zw λ_=>h _
 ·rfl
theorem P9{E:Env}{T:TypeId}{s:State}{m i v:SV}(h:∀y,F y=(G y).bind K):vh E T s m i v F=(vh E T s m i v G).bind K:=by
 unfold vh;split
 ·exact zs6 λ_ _=>zw λ_=>zw λ_=>zk rfl (h _)
 ·rfl
theorem agi{s:State}{m:SV}(h:∀y,F y=(G y).bind K):uu s m F=(uu s m G).bind K:=by
 unfold uu;split
 ·split
  ·split
   ·exact zk (h _) (h _)
   ·rfl
  ·rfl
 ·rfl
theorem agd{E:Env}{T:TypeId}{s:State}{dst:ae Nat}{lo:Operand}{l c:SV}(h:∀y,F y=(G y).bind K):ur E T s dst lo l c F=(ur E T s dst lo l c G).bind K:=by
 unfold ur;split
 ·exact zm rfl (zw λn=>zw λm=>zk (zk (zk (zk (h _) rfl) rfl) rfl) (zk (zk (zk (zoa h) rfl) rfl) rfl))
 ·rfl
theorem al4{op:UnOp}{x:SV}(h:∀y,F y=(G y).bind K):OR op x F=(OR op x G).bind K:=by
 unfold OR;split
 ·exact h _
 ·exact h _
 ·rfl
end
abbrev bH:=(R:Type)->FuncId->gK R
def bH.Nat(C:bH):Prop:=∀(R S:Type) (f:FuncId) l b (F:List SV->ae fp->ae R) (G:List SV->ae fp->ae S) (K:S->ae R),(∀r b,F r b=(G r b).bind K)->C R f l b F=(C S f l b G).bind K
section
variable {R S:Type} {F:Out->ae R} {G:Out->ae S} {K:S->ae R} {C:bH}
theorem Vx(hC:C.Nat){s:State}{dst:ae Nat}{f:FuncId}{vs:List SV}(h:∀y,F y=(G y).bind K):pa (C R) s dst f vs F=(pa (C S) s dst f vs G).bind K:=by
 unfold pa;split
 ·refine hC R S f _ _ _ _ K λr b=> ?_;split
  ·exact h _
  ·split
   ·split
    ·exact h _
    ·rfl
   ·rfl
 ·refine zm rfl (hC R S f _ _ _ _ K λr b=> ?_);split
  ·exact zm (h _) rfl
  ·rfl
 ·rfl
theorem afw(hC:C.Nat){s:State}{f:FuncId}{t id:Nat}{a b:Ty}{j:Nat}{vs:List SV}(h:∀y,F y=(G y).bind K):sT (C R) s f t id a b j vs F=(sT (C S) s f t id a b j vs G).bind K:=by
 unfold sT;refine zm rfl ?_;split
 ·refine z49 λx o=> ?_;split
  ·refine hC R S f _ _ _ _ K λr b=> ?_;split
   ·split
    ·exact zk (h _) rfl
    ·rfl
   ·rfl
  ·rfl
 ·rfl
theorem afB{f:FuncId}{x:SV}(h:∀y,F y=(G y).bind K):vS f x F=(vS f x G).bind K:=by
 unfold vS;split
 ·exact zm rfl (h _)
 ·rfl
theorem aiy{f:FuncId}{x y:SV}(h:∀y,F y=(G y).bind K):BX f x y F=(BX f x y G).bind K:=by
 unfold BX;split
 ·exact h _
 ·rfl
theorem aiF{n id:Nat}{a b:Ty}{lo hi:ae SV}(h:∀y,F y=(G y).bind K):B4 n id a b lo hi F=(B4 n id a b lo hi G).bind K:=by
 unfold B4;split
 ·rfl
 ·exact zd0 λl=>h _
theorem zy5{t:Ty}{s:State}{id n lo:Nat}{a b:Ty}{x:SV}{e:TypeId}(h:∀y,F y=(G y).bind K):qJ t s id n lo a b x e F=(qJ t s id n lo a b x e G).bind K:=by
 unfold qJ;refine zm (zw λys=> ?_) rfl;split
 ·split
  ·exact zk (zk (h _) rfl) rfl
  ·rfl
 ·rfl
theorem aiE{E:Env}{T:TypeId}{s:State}{id n:Nat}{t:Ty}{lo hi:ae SV}(h:∀y,F y=(G y).bind K):Aa E T s id n t lo hi F=(Aa E T s id n t lo hi G).bind K:=by
 unfold Aa;split
 ·refine zm ?_ rfl;split
  ·split
   ·exact h _
   ·rfl
  ·rfl
 ·rfl
theorem afF{t:Ty}{s:State}{id n:Nat}{a b:Ty}{y:af}(h:∀y,F y=(G y).bind K):sW t s id n a b y F=(sW t s id n a b y G).bind K:=by
 unfold sW;refine zm (zm ?_ rfl) rfl;split
 ·split
  ·exact zk (h _) rfl
  ·rfl
 ·rfl
theorem afG{E:Env}{T:TypeId}{s:State}{d x:SV}(h:∀y,F y=(G y).bind K):copyV E T s d x F=(copyV E T s d x G).bind K:=by
 unfold copyV;split
 ·split
  ·exact afF h
  ·exact zy5 h
 ·exact zy5 h
 ·rfl
theorem zza{g:Bool}{x y:SV}(h:∀y,F y=(G y).bind K):ti g x y F=(ti g x y G).bind K:=by
 unfold ti;split
 ·exact h _
 ·rfl
theorem PN{E:Env}{T:TypeId}(h:∀y,F y=(G y).bind K):xJ E T F=(xJ E T G).bind K:=by
 unfold xJ;split
 ·exact h _
 ·exact h _
theorem Fo(hC:C.Nat){E:Env}{ops:List Oper}{o:Oper}{s:State}(h:∀y,F y=(G y).bind K):act E (C R) ops o s F=(act E (C S) ops o s G).bind K:=by
 unfold act;split
 ·split
  ·exact zk (h _) (h _)
  ·split
   ·exact zk (h _) (h _)
   ·rfl
   ·rfl
   ·exact PN h
   ·exact h _
 ·split
  ·exact h _
  ·rfl
  ·rfl
  ·exact PN h
  ·exact h _
 ·split
  ·exact zk (h _) (h _)
  ·rfl
 ·exact als λl=>h _
 ·exact al4 h
 ·split
  ·exact afD h
  ·exact afE h
 ·exact ajd h
 ·exact agN h
 ·split
  ·exact zm rfl (h _)
  ·exact h _
  ·rfl
 ·split
  ·exact adq h
  ·exact z198 h
 ·exact adv h
 ·exact adw h
 ·split
  ·refine zm rfl (zw λy=> ?_);split
   ·exact h _
   ·rfl
  ·rfl
 ·split
  ·split
   ·exact zm (aiF h) rfl
   ·rfl
  ·exact aiE h
  ·exact aiG h
 ·split
  ·exact afB h
  ·exact aiy h
  ·rfl
 ·split
  ·split
   ·exact h _
   ·rfl
  ·split
   ·split
    ·exact h _
    ·rfl
   ·split
    ·split
     ·exact h _
     ·rfl
    ·rfl
  ·rfl
 ·split
  ·split
   ·exact zw λy=>h _
   ·rfl
  ·rfl
 ·split
  ·exact zm rfl (zrl (λy o=>h _) _ _ _)
  ·rfl
 ·split
  ·exact zm rfl (zk (zrm (λy=>h _) _ _) rfl)
  ·rfl
 ·split
  ·refine zm ?_ ?_
   ·split
    ·exact h _
    ·rfl
   split
   ·exact h _
   ·rfl
   ·rfl
   ·exact h _
   ·rfl
  ·rfl
 ·split
  ·exact zoa h
  ·rfl
 ·exact agb h
 ·exact P9 h
 ·exact P9 h
 ·split
  ·exact zw λy=>zoa h
  ·rfl
 ·exact agi h
 ·exact agd h
 ·split
  ·exact afw hC h
  ·exact Vx hC λu=>h _
 ·split
  ·exact zm rfl (Vx hC h)
  ·exact Vx hC h
  ·rfl
 ·split
  ·exact afG h
  ·rfl
 ·split
  ·exact ai9 h
  ·rfl
 ·split
  ·exact aco h
  ·rfl
 ·split
  ·exact zza h
  ·rfl
 ·split
  ·exact zza h
  ·rfl
 ·rfl
end
section
variable {R S:Type} {F:State->ae R} {G:State->ae S} {K:S->ae R} {C:bH}
theorem zol(hC:C.Nat){E:Env}{ops:List Oper}{o:Oper}{s:State}(h:∀y,F y=(G y).bind K):step E (C R) ops o s F=(step E (C S) ops o s G).bind K:=by
 unfold step;simp only;split
 ·exact Fo hC λy=>h _
 ·split
  ·rfl
  ·split
   ·exact zk (zk (Fo hC λy=>h _) (h _)) (zk (h _) (Fo hC λy=>h _))
   ·exact h _
   ·rfl
theorem JZ(hC:C.Nat){E:Env}{ops:List Oper}(h:∀y,F y=(G y).bind K):∀(l:List Oper) (s:State),steps E (C R) ops l s F=(steps E (C S) ops l s G).bind K
 | [],s=>h s
 |o::r,s=>by simp only[steps];exact zol hC λs=>JZ hC h r s
theorem agL(hC:C.Nat){E:Env}{ops:List Oper}{o:Oper}{i:Nat}{s:State}{tr:List nb}{F:State->List nb->ae R}{G:State->List nb->ae S}(h:∀y t,F y t=(G y t).bind K):uC E (C R) ops o i s tr F=(uC E (C S) ops o i s tr G).bind K:=by
 unfold uC;simp only;split
 ·exact Fo hC λy=>zk (h _ _) rfl
 ·split
  ·rfl
  ·split
   ·exact zk (zk (Fo hC λy=>zk (h _ _) rfl) (zk (h _ _) rfl)) (zk (zk (h _ _) rfl) (Fo hC λy=>zk (h _ _) rfl))
   ·exact zk (h _ _) rfl
   ·rfl
theorem SK(hC:C.Nat){E:Env}{ops:List Oper}(h:∀y,F y=(G y).bind K):∀(l:List Oper) (i:Nat) (s:State) (tr:List nb),FA E (C R) ops l i s tr F=(FA E (C S) ops l i s tr G).bind K
 | [],i,s,tr=>h s
 |o::r,i,s,tr=>by simp only[FA];exact agL hC λs tr=>SK hC h r (i+1) s tr
theorem SE{l:List Nat}{s:State}(h:∀y,F y=(G y).bind K):AJ l s F=(AJ l s G).bind K:=by unfold AJ;exact zk (h _) rfl
end
theorem af5{R S:Type}{k:Nat}{F:Unit->ae R}{G:Unit->ae S}{K:S->ae R}(h:F ()=(G ()).bind K):ww k F=(ww k G).bind K:=by
 unfold ww;cases k
 ·rfl
 ·exact h
theorem ajg{R S:Type}{F:State->ae R}{G:State->ae S}{K:S->ae R}{E:Env}{k r:Nat}{s:State}(h:∀y,F y=(G y).bind K):wD E k r s F=(wD E k r s G).bind K:=by
 unfold wD;split
 ·exact h _
 ·exact SE λs=>af5 (h _)
theorem ajM{R S:Type}{F:State->ae R}{G:State->ae S}{K:S->ae R}{E:Env}{r:Nat}{s:State}(h:∀y,F y=(G y).bind K):Aw E r s F=(Aw E r s G).bind K:=by
 unfold Aw;split
 ·exact h _
 ·split
  ·refine zm ?_ rfl;split
   ·split
    ·exact zk (h _) rfl
    ·rfl
   ·rfl
  ·rfl
theorem zmj{R S:Type}{F:State->ae R}{G:State->ae S}{K:S->ae R}(h:∀y,F y=(G y).bind K):∀(l:List Nat) (s:State),Lx l s F=(Lx l s G).bind K
 | [],s=>h s
 |id::r,s=>by
  simp only[Lx];unfold Yv;split
  ·exact zm rfl (zmj h r _)
  ·rfl
section
variable {R S:Type} {F:Ex->State->ae R} {G:Ex->State->ae S} {K:S->ae R} {C:bH}
theorem zz9{body:State->(Ex->State->ae R)->ae R}{body':State->(Ex->State->ae S)->ae S}{l lx:List Nat}
 (hb:∀(F:Ex->State->ae R) (G:Ex->State->ae S),(∀e s,F e s=(G e s).bind K)->∀s,body s F=(body' s G).bind K) (h:∀e s,F e s=(G e s).bind K):
 ∀(k:Nat) (s:State),pu body l lx k s F=(pu body' l lx k s G).bind K
 |0,_=>rfl
 |k+1,s=>by
  simp only[pu];refine hb _ _ (λe s=> ?_) s;cases e with
  |normal=>exact SE λs=>zz9 hb h k s
  |exit id=>exact SE λs=>h _ _
  |ret=>exact SE λs=>h _ _
theorem P5{E:Env}{q:Nat×Nat×Nat}{ops:List Oper}{s:State}{F:State->ae R}{G:State->ae S}{K:S->ae R}(h:∀s,F s=(G s).bind K):uD E q ops s F=(uD E q ops s G).bind K:=by
 unfold uD;refine zk (zk ?_ rfl) rfl;split
 ·refine zk (zk ?_ rfl) rfl;unfold zd;exact zk (zk (h _) rfl) rfl
 ·rfl
theorem agr{E:Env}{oA oS:Oper}{s:State}{F:State->ae R}{G:State->ae S}{K:S->ae R}(h:∀s,F s=(G s).bind K):rR E oA oS s F=(rR E oA oS s G).bind K:=by
 unfold rR;split
 ·refine zk ?_ rfl;unfold CG;split
  ·refine zk ?_ rfl;split
   ·refine zk (zxc λn=>zw λy=> ?_) rfl;unfold zd;exact zk (zk (h _) rfl) rfl
   ·rfl
  ·rfl
 ·rfl
theorem PV(hC:C.Nat){E:Env}{ops:List Oper}{s:State}{F:State->ae R}{G:State->ae S}(h:∀s,F s=(G s).bind K):uy E (C R) ops s F=(uy E (C S) ops s G).bind K:=by
 unfold uy;split
 ·exact JZ hC (λs=>agr h) _ _
 ·rfl
theorem Rk(hC:C.Nat){E:Env}{ops:List Oper}{s:State}{F:State->ae R}{G:State->ae S}(h:∀s,F s=(G s).bind K):KZ E (C R) ops s F=(KZ E (C S) ops s G).bind K:=by
 unfold KZ;split
 ·refine JZ hC (λs=> ?_) _ _;unfold Aq;split
  ·split
   ·refine zk ?_ rfl;split
    ·refine zw λy=> ?_;split
     ·exact h _
     ·rfl
    ·rfl
   ·rfl
  ·rfl
 ·rfl
theorem PG(hC:C.Nat){E:Env}{k:Nat}{ops:List Oper}{s:State}{F:State->ae R}{G:State->ae S}(h:∀s,F s=(G s).bind K):Ap E (C R) k ops s F=(Ap E (C S) k ops s G).bind K:=by
 unfold Ap;split
 ·split
  ·split
   ·refine zk (SK hC (λs=> ?_) _ _ _ _) rfl;refine zk ?_ rfl;unfold tf;split
    ·refine zk (zm ?_ rfl) rfl;split
     ·refine z49 λz own=>zk ?_ rfl;split
      ·split
       ·split
        ·exact zk (h _) rfl
        ·rfl
       ·rfl
      ·exact h _
      ·rfl
     ·rfl
    ·rfl
   ·rfl
  ·rfl
 ·rfl
theorem Dg(hC:C.Nat){E:Env}{k:Nat}:∀(c:Code) (F:Ex->State->ae R) (G:Ex->State->ae S),(∀e s,F e s=(G e s).bind K)->∀s,ev E (C R) k c s F=(ev E (C S) k c s G).bind K
 | .skip,F,G,h,s=>h _ _
 | .region i ops d,F,G,h,s=>by
   simp only[ev];have key:Kh E (C R) i ops d s (F .normal)=(Kh E (C S) i ops d s (G .normal)).bind K:=ajM λs=>zmj (λs=>zk (SK hC (λs=>h _ _) _ _ _ _) (JZ hC (λs=>h _ _) _ _)) _ _;split
   ·refine zk ?_ key;cases d with
    |true=>rfl
    |false=>exact zk (PV hC λs=>h _ _) (P5 λs=>h _ _)
   ·split
    ·exact key
    ·refine zk ?_ (zk ?_ key)
     ·cases d with
      |true=>rfl
      |false=>exact Rk hC λs=>h _ _
     ·cases d with
      |true=>exact PG hC λs=>h _ _
      |false=>rfl
 | .seq a b,F,G,h,s=>by
   simp only[ev];refine Dg hC a _ _ (λe s=> ?_) s;cases e with
   |normal=>exact ajg λs=>Dg hC b _ _ h s
   |exit id=>exact h _ _
   |ret=>exact h _ _
 | .cond c a b,F,G,h,s=>by
   simp only[ev];split
   ·exact zk (Dg hC a _ _ h _) (Dg hC b _ _ h _)
   ·rfl
 | .block id b,F,G,h,s=>by
   simp only[ev];refine Dg hC b _ _ (λe s=> ?_) s;cases e with
   |normal=>exact h _ _
   |exit j=>exact zk (h _ _) (h _ _)
   |ret=>exact h _ _
 | .loop b,F,G,h,s=>by simp only[ev];exact SE λs=>zz9 (λF G h s=>Dg hC b F G h s) h k s
 | .exit id,F,G,h,s=>h _ _
 | .ret,F,G,h,s=>h _ _
 | .rangeFunc ..,F,G,h,s=>rfl
 | .scope _,F,G,h,s=>rfl
 | .label _,F,G,h,s=>rfl
 | .goto _,F,G,h,s=>rfl
 | .refuse _,F,G,h,s=>rfl
end
theorem sI{R S:Type}{x:ae R}{y:ae S}{K:S->ae R}(h:x=y.bind K){z:R}(hz:x=some z):∃w,y=some w/\K w=some z:=by rw[h] at hz;exact Option.bind_eq_some_iff.1 hz
end Go.Ref

namespace Go.Ref
open Go
def mW(t:Ty)(cs:List Value):Value:=if t.agg=true then .agg cs.toArray else cs.headD undef
def fa(X:cc)(pl:Place)(e:TypeId)(k n:Nat)(v:Value):Prop:=
 (v= .slice none 0 0/\n=0)\/∃g cap cur,v= .slice (some ⟨g,0,none⟩) n cap/\X.w.heap[g]? =some (.cells cur e (0,0))/\n<=cap/\cap<=maxLen/\cur.size=cap*k/\X.ow g= .row pl (n*k)
def eO(X:cc)(pl:List Nat->Place)(t:Ty)(x:El t)(cs:List Value)(own:List (List Nat)):Prop:=
 ∀p∈own,∃e t' xs v,t.nH p/\El.get t p x=some ⟨.sl e t',xs⟩/\cs[t.off p]? =some v/\fa X (pl p) e t'.cells (ag xs) v
def wG(t:Ty)(p:List Nat)(r:Nat)(v:Value):Prop:=
 match t,p with
 | .dJ .mp _ _,_=>v= .map (some r)
 | .dJ (.rh n) _ _,[]=>∃cap,v= .slice (some ⟨r,0,none⟩) n cap/\n<=cap
 | .dJ (.rh n) a _,[l]=>∃cap off,v= .slice (some ⟨r,off,none⟩) (n-l) cap/\n-l<=cap/\l<=n/\((n=l/\off=0)\/off=l*a.cells)
 | .dJ (.CX f) _ _,[]=>v= .func (.func f) #[] #[.pointer (some ⟨r,0,none⟩)]
 | .dJ .row a _,[i]=>v= .pointer (some ⟨r,i*a.cells,none⟩)
 | .dJ .lh a _,p=>v= .pointer (some ⟨r,vU a p,none⟩)/\gIn a p
 |t,p=>v= .pointer (some ⟨r,t.off p,none⟩)/\t.nH p
theorem yU{t:Ty}{p:List Nat}{r:Nat}{v:Value}(h:t.fG=false):wG t p r v↔v= .pointer (some ⟨r,t.off p,none⟩)/\t.nH p:=by
 unfold wG;split
 all_goals first
  |exact Iff.rfl
  |simp [Ty.fG] at h
theorem S1{t:Ty}{p:List Nat}{r:Nat}{v:Value}(h:t.yO=false):wG t p r v↔v= .pointer (some ⟨r,t.off p,none⟩)/\t.nH p:=by
 unfold wG;split
 all_goals first
  |exact Iff.rfl
  |simp [Ty.yO] at h
def cw(X:cc)(pl:List Nat->Place):SV->Value->Prop
 | .undef,_=>True
 | .skip,v=>v=aW
 | .jR,v=>v= .slice none 0 0
 | .nE,v=>v= .pointer none
 | .bY t x own,v=>∃cs,eI X t x cs/\v=mW t cs/\eO X pl t x cs own
 | .ptr id t p,v=>∃r,X.β id=some r/\wG t p r v
 | .view t x,v=>∃ad cs,v= .pointer (some ad)/\ad.spot=none/\eI X t x cs/\∀i u,cs[i]? =some u->X.cn (ad.add i) u
 | .cap f t x u y,v=>∃ad yJ cs nG,v= .func (.func f) #[] #[.pointer (some ad),.pointer (some yJ)]/\(ad.spot=none/\eI X t x cs/\∀i w,cs[i]? =some w->X.cn (ad.add i) w)/\(yJ.spot=none/\eI X u y nG/\∀i w,nG[i]? =some w->X.cn (yJ.add i) w)
 | .over,v=>v= .tuple #[.bool false]
 | .fc id a _ j,v=>∃r,X.β id=some r/\X.ow r= .box id/\X.w.cell? ⟨r,a.cells+j,none⟩=some v
theorem AA{X Y:cc}{pl pB:List Nat->Place}(h:∀a v,X.cn a v->Y.cn a v){f:Nat}{t u:Ty}{x:El t}{y:El u}{v:Value}(hr:cw X pl (.cap f t x u y) v):cw Y pB (.cap f t x u y) v:=by obtain⟨ad,yJ,cs,nG,h1,⟨h2,h3,h4⟩,h5,h6,h7⟩:=hr;exact⟨ad,yJ,cs,nG,h1,⟨h2,h3.bE h,λi w hi=>h _ _ (h4 i w hi)⟩,h5,h6.bE h,λi w hi=>h _ _ (h7 i w hi)⟩
def kC(X:cc)(pl:Nat->List Nat->Place)(l:List SV)(v:Value):Prop:=
 match l with
 | [s]=>cw X (pl 0) s v
 |l=>∃vs:Array Value,v= .tuple vs/\vs.size=l.length/\∀(j:Nat) s u,l[j]? =some s->vs[j]? =some u->cw X (pl j) s u
def nz(X:cc)(t:Ty)(x:El t)(v:Value):Prop:=∃cs,eI X t x cs/\v=mW t cs
def mC(X:cc)(pl:List Nat->Place)(b:Ty)(m:ae (El b))(v:Value):Prop:=
 match m with
 |none=>v= .pointer none
 |some y=>∃g cs T,v= .pointer (some ⟨g,0,none⟩)/\X.w.heap[g]? =some (.cells cs T (0,0))/\X.ow g= .row (pl []) 0/\eI X b y cs.toList/\eO X pl b y cs.toList HH
def qA(X:cc)(r:Nat)(pl:List Nat->Place)(a b:Ty)(x:El (.dJ .lh a b)):Prop:=
 ∃c p0 p1 T,X.w.heap[r]? =some (.cells (c++ [p0,p1,.int .i64 x.2.2]).toArray T (0,0))/\eI X a x.1 c/\mC X (λp=>pl (0::p)) b x.2.1.1 p0/\mC X (λp=>pl (1::p)) b x.2.1.2 p1
def mA(X:cc)(r:Nat)(pl:List Nat->Place):(t:Ty)->El t->List (List Nat)->Prop
 | .dJ .iter _ _,x,_=>X.w.heap[r]? =some (.stringIter x.1 x.2)
 | .dJ .mp kt vt,x,_=>∃es clock,X.w.heap[r]? =some (.map es clock)/\es.size=ag x/\∀(i:Nat) (q:El kt×El vt) (e:MapEntry),x[i]? =some q->es[i]? =some e->nz X kt q.1 e.key/\nz X vt q.2 e.val
 | .dJ .row t _,xs,_=>∃cs T,X.w.heap[r]? =some (.cells cs T (0,0))/\cs.size=ag xs*t.cells/\∀(j:Nat) (x:El t),xs[j]? =some x->eI X t x ((cs.toList.drop (j*t.cells)).take t.cells)
 | .dJ (.sd T e) _ _,x,own=>(∃o,X.w.heap[r]? =some o)/\([]∈own->∃v,CV T e r v (ew x) X.w/\∀g,v.ownBlock=some g->X.ow g= .row (pl []) 0)
 | .dJ .lh a b,x,own=>(∃o,X.w.heap[r]? =some o)/\((∀p∈tV,p∈own)->qA X r pl a b x)
 | .dJ _ _ _,_,_=>False
 |t,x,own=>∃cs T,X.w.heap[r]? =some (.cells cs T (0,0))/\eI X t x cs.toList/\eO X pl t x cs.toList own
theorem mA.plain{X:cc}{r:Nat}{pl:List Nat->Place}{t:Ty}{x:El t}{own:List (List Nat)}(hs:t.fG=false):mA X r pl t x own↔∃cs T,X.w.heap[r]? =some (.cells cs T (0,0))/\eI X t x cs.toList/\eO X pl t x cs.toList own:=by cases t<;>first|exact Iff.rfl|simp [Ty.fG] at hs
theorem mA.of{X:cc}{r:Nat}{pl:List Nat->Place}{t:Ty}{x:El t}{own:List (List Nat)}{cs:Array Value}{T:TypeId}(hs:t.fG=false)(h1:X.w.heap[r]? =some (.cells cs T (0,0)))(h2:eI X t x cs.toList)(h3:eO X pl t x cs.toList own):mA X r pl t x own:=(mA.plain hs).2 ⟨cs,T,h1,h2,h3⟩
theorem nz.mono{X Y:cc}(h:∀a v,X.cn a v->Y.cn a v){t:Ty}{x:El t}{v:Value}(hr:nz X t x v):nz Y t x v:=by obtain⟨cs,h1,h2⟩:=hr;exact⟨cs,h1.bE h,h2⟩
theorem mA.lt{X:cc}{r:Nat}{pl:List Nat->Place}{t:Ty}{x:El t}{own:List (List Nat)}(h:mA X r pl t x own):r<X.w.heap.size:=by
 have key:∀o,X.w.heap[r]? =some o->r<X.w.heap.size:=λo ho=>(fT.1 ho).1;unfold mA at h;split at h
 ·exact key _ h
 ·obtain⟨es,c,h1,_⟩:=h;exact key _ h1
 ·obtain⟨cs,T,h1,_⟩:=h;exact key _ h1
 ·obtain⟨⟨o,ho⟩,_⟩:=h;exact key _ ho
 ·obtain⟨⟨o,ho⟩,_⟩:=h;exact key _ ho
 ·exact h.elim
 ·obtain⟨cs,T,h1,_⟩:=h;exact key _ h1
theorem mC.move{X Y:cc}{pl pB:List Nat->Place}{b:Ty}{m:ae (El b)}{v:Value}(hs:∀a v,X.cn a v->Y.cn a v)
 (hg:∀p,p=[]\/p=[2]->∀g o n,X.w.heap[g]? =some o->X.ow g= .row (pl p) n->Y.w.heap[g]? =some o/\Y.ow g= .row (pB p) n) (h:mC X pl b m v):mC Y pB b m v:=by
 cases m with
 |none=>exact h
 |some y=>
  obtain⟨g,cs,T,h1,h2,h3,h4,h5⟩:=h;obtain⟨k1,k2⟩:=hg [] (.inl rfl) g _ _ h2 h3;refine⟨g,cs,T,h1,k1,k2,h4.bE hs,λp hp=> ?_⟩;have:p=[2]:=by simpa [HH] using hp
  subst this;obtain⟨e,t',xs,v,g0,g1,g2,g3⟩:=h5 [2] hp;refine⟨e,t',xs,v,g0,g1,g2,?_⟩;rcases g3 with g3|⟨g',cap,cur,q1,q2,q3,q4,q5,q6⟩
  ·exact .inl g3
  ·obtain⟨j1,j2⟩:=hg [2] (.inr rfl) g' _ _ q2 q6;exact .inr ⟨g',cap,cur,q1,j1,q3,q4,q5,j2⟩
theorem qA.move{X Y:cc}{r:Nat}{pl pB:List Nat->Place}{a b:Ty}{x:El (.dJ .lh a b)}(hs:∀a v,X.cn a v->Y.cn a v)(hh:Y.w.heap[r]? =X.w.heap[r]?)
 (hg:∀p∈tV,∀g o n,X.w.heap[g]? =some o->X.ow g= .row (pl p) n->Y.w.heap[g]? =some o/\Y.ow g= .row (pB p) n) (h:qA X r pl a b x):qA Y r pB a b x:=by
 obtain⟨c,p0,p1,T,h1,h2,h3,h4⟩:=h;refine⟨c,p0,p1,T,hh.trans h1,h2.bE hs,h3.move hs λp hp=> ?_,h4.move hs λp hp=> ?_⟩
 ·rcases hp with rfl|rfl<;>exact hg _ (by simp [tV])
 ·rcases hp with rfl|rfl<;>exact hg _ (by simp [tV])
theorem mA.move{X Y:cc}{r:Nat}{pl pB:List Nat->Place}{t:Ty}{x:El t}{own:List (List Nat)}(hs:∀a v,X.cn a v->Y.cn a v)(hh:Y.w.heap[r]? =X.w.heap[r]?)
 (ho:∀cs,eO X pl t x cs own->eO Y pB t x cs own) (hg:∀p∈own,∀g o n,X.w.heap[g]? =some o->X.ow g= .row (pl p) n->Y.w.heap[g]? =some o/\Y.ow g= .row (pB p) n) (h:mA X r pl t x own):mA Y r pB t x own:=by
 unfold mA at h⊢;split at h
 ·exact hh.trans h
 ·obtain⟨es,c,h1,h2,h3⟩:=h;exact⟨es,c,hh.trans h1,h2,λi q e hq he=>⟨(h3 i q e hq he).1.mono hs,(h3 i q e hq he).2.mono hs⟩⟩
 ·obtain⟨cs,T,h1,h2,h3⟩:=h;exact⟨cs,T,hh.trans h1,h2,λj x hj=>(h3 j x hj).bE hs⟩
 ·obtain⟨⟨o,h1⟩,h2⟩:=h;refine⟨⟨o,hh.trans h1⟩,λhm=> ?_⟩;obtain⟨v,h3,h4⟩:=h2 hm;refine⟨v,h3.same hh (λg o hv ho=>(hg _ hm g o _ ho (h4 g hv)).1),λg hv=> ?_⟩;obtain⟨cap,cur,Im⟩:∃cap cur,X.w.heap[g]? =some (.cells cur cap (0,0)):=by
   rcases h3.own.2 with⟨hn,_⟩|⟨g',cap,cur,rL,_,Im,_⟩
   ·rw[hn] at hv;simp [eN] at hv
   ·rw[rL] at hv;simp [eN] at hv;subst hv;exact⟨_,_,Im⟩
  exact(hg _ hm g _ _ Im (h4 g hv)).2
 ·obtain⟨⟨o,h1⟩,h2⟩:=h;exact⟨⟨o,hh.trans h1⟩,λhp=>(h2 hp).move hs hh λp hm=>hg p (hp p hm)⟩
 ·exact h.elim
 ·obtain⟨cs,T,h1,h2,h3⟩:=h;exact⟨cs,T,hh.trans h1,h2.bE hs,ho _ h3⟩
def fq(X:cc)(id r:Nat)(B:fp):Prop:=X.ow r= .box id/\mA X r (.b id) B.t B.x B.own
theorem fq.cells{X:cc}{id r:Nat}{B:fp}(h:fq X id r B)(hs:B.t.fG=false):∃cs T,X.w.heap[r]? =some (.cells cs T (0,0))/\eI X B.t B.x cs.toList/\X.ow r= .box id/\eO X (.b id) B.t B.x cs.toList B.own:=by obtain⟨cs,T,h1,h2,h3⟩:=(mA.plain hs).1 h.2;exact⟨cs,T,h1,h2,h.1,h3⟩
def qB(s:State):Prop:=∀(i:Nat) l id a b j,s.sl[i]? =some l->SV.fc id a b j∈l->l=[.fc id a b j]/\(∃x own,s.bs[id]? =some (some ⟨.dJ .lh a b,x,own⟩)/\ []∉own)/\
 ∀(i':Nat) l' a' b' j',s.sl[i']? =some l'->SV.fc id a' b' j'∈l'->i'=i
theorem qB.less{s s':State}(h:qB s)(hs:∀(i:Nat) l id a b j,s'.sl[i]? =some l->SV.fc id a b j∈l->∃l0,s.sl[i]? =some l0/\SV.fc id a b j∈l0/\(l0=[.fc id a b j]->l=[.fc id a b j]))
 (hb:∀(id:Nat) a b x own,(∃(i:Nat) (l:List SV) (j:Nat),s'.sl[i]? =some l/\SV.fc id a b j∈l)->s.bs[id]? =some (some ⟨.dJ .lh a b,x,own⟩)-> []∉own->∃x' si,s'.bs[id]? =some (some ⟨.dJ .lh a b,x',si⟩)/\ []∉si):qB s':=λi l id a b j hl hm=>by
 obtain⟨l0,h1,h2,h3⟩:=hs i l id a b j hl hm;obtain⟨g1,⟨x,own,g2,g3⟩,g4⟩:=h i l0 id a b j h1 h2;refine⟨h3 g1,hb id a b x own ⟨i,l,j,hl,hm⟩ g2 g3,λi' l' a' b' j' sZ AP=> ?_⟩;obtain⟨l1,k1,k2,_⟩:=hs i' l' id a' b' j' sZ AP;exact g4 i' l1 a' b' j' k1 k2
theorem qB.cG{s:State}(h:qB s){d:Nat}{B:fp}(hn:∀(i:Nat) (l:List SV) a b j,s.sl[i]? =some l->SV.fc d a b j∈l->False):qB (s.cG (some (d,B))):=
 h.less (λi l id a b j hl hm=>⟨l,hl,hm,λh=>h⟩) λid a b x own hex hb ho=>by obtain⟨i,l,j,hl,hm⟩:=hex;refine⟨x,own,?_,ho⟩;simp only[State.cG,az];rw[if_neg (λe=>by subst e;exact hn i l a b j hl hm)];exact hb
theorem qB.none{s:State}(h:qB s){d:Nat}(hb:∀a b x own,s.bs[d]? =some (some ⟨.dJ .lh a b,x,own⟩)-> []∈own):∀(i:Nat) (l:List SV) a b j,s.sl[i]? =some l->SV.fc d a b j∈l->False:=λi l a b j hl hm=>by obtain⟨_,⟨x,own,h1,h2⟩,_⟩:=h i l d a b j hl hm;exact h2 (hb a b x own h1)
theorem zsa{l:List SV}(h:l.any SV.gi=false){id:Nat}{a b:Ty}{j:Nat}(hm:SV.fc id a b j∈l):False:=by have:=cH.1 h _ hm;exact this rfl
abbrev oK:=List (Nat×Array Value)
variable {tq:oK}
def Good(tq:oK)(X:cc):Prop:=∀e∈tq,(X.ow e.1).still/\∃T z,X.w.heap[e.1]? =some (.cells e.2 T z)
theorem Good.CC{X Y:cc}(h:Good tq X)(hk:∀g,g<X.w.heap.size->(X.ow g).still->Y.ow g=X.ow g/\Y.w.heap[g]? =X.w.heap[g]?):Good tq Y:=λe he=>by obtain⟨h1,T,z,h2⟩:=h e he;obtain⟨k1,k2⟩:=hk e.1 (fT.1 h2).1 h1;exact⟨by rw[k1];exact h1,T,z,k2.trans h2⟩
theorem Good.ext{X Y:cc}(h:Good tq X)(hx:Ext X Y):Good tq Y:=h.CC hx.still
theorem Good.Av{X Y:cc}{g0:Nat}(h:Good tq X)(hn:¬(X.ow g0).still)(hw:∀b,b≠g0->Y.w.heap[b]? =X.w.heap[b]?)(ho:Y.ow=X.ow):Good tq Y:=h.CC λg _ hs=>⟨by rw[ho],hw g λe=>hn (e▸hs)⟩
structure Rel(tq:oK)(X:cc)(s:State)(a:Act):Prop where
 size:s.sl.length=a.tmps.size
 pW:s.bs.length=s.sl.length+1
 gC:∀(i:Nat) l v,s.sl[i]? =some l->a.tmps[i]? =some v->kC X (.c i) l v
 boxes:∀(id:Nat) B,s.bs[id]? =some (some B)->∃r,X.β id=some r/\fq X id r B
 live:∀(i:Nat) l id t p,s.sl[i]? =some l->SV.ptr id t p∈l->∃B,s.bs[id]? =some (some B)
 defers:a.defers=[]
 fc:qB s
 km:Good tq X
theorem De{w:World}{g:Nat}{o:Obj}(h:w.heap[g]? =some o):g<w.heap.size:=(fT.1 h).1
theorem kC.ru{X Y:cc}{pl pB:Nat->List Nat->Place}{l:List SV}{v:Value}(hr:kC X pl l v)(h:∀(j:Nat) s u,l[j]? =some s->cw X (pl j) s u->cw Y (pB j) s u):kC Y pB l v:=by
 match l,hr with
 | [s],hr=>exact h 0 s v (by simp) hr
 | [],⟨vs,h1,h2,h3⟩=>exact⟨vs,h1,h2,λj s u hs hu=>h j s u hs (h3 j s u hs hu)⟩
 |x::y::r,⟨vs,h1,h2,h3⟩=>exact⟨vs,h1,h2,λj s u hs hu=>h j s u hs (h3 j s u hs hu)⟩
def lv(s:State):Place->Prop
 | .c i j p=>∃l t x own,s.sl[i]? =some l/\l[j]? =some (.bY t x own)/\p∈own
 | .b id p=>∃B,s.bs[id]? =some (some B)/\p∈B.own
 | .r _ _=>False
structure Mod(s:State)(X Y:cc):Prop where
 cn:∀a v,X.cn a v->Y.cn a v
 size:X.w.heap.size<=Y.w.heap.size
 os:Y.w.os=X.w.os
 tape:Y.w.tape=X.w.tape
 output:Y.w.output=X.w.output
 β0:Y.β 0=X.β 0
 β:∀(id:Nat) B,s.bs[id]? =some (some B)->Y.β id=X.β id
 vR:∀g,g<X.w.heap.size->(Y.ow g=X.ow g/\Y.w.heap[g]? =X.w.heap[g]?)\/∃pl n,X.ow g= .row pl n/\¬lv s pl
theorem Mod.ext{s:State}{X Y:cc}(h:Mod s X Y):Ext X Y:=
 ⟨h.cn,h.size,h.os,h.tape,h.output,h.β0,λg hg gy=>by
   rcases h.vR g hg with e|⟨pl,n,h1,_⟩
   ·exact e
   ·rw[h1] at gy;exact gy.elim⟩
theorem Mod.refl(s:State)(X:cc):Mod s X X:=⟨λ_ _ h=>h,aZ _,rfl,rfl,rfl,rfl,λ_ _ _=>rfl,λ_ _=> .inl ⟨rfl,rfl⟩⟩
theorem fa.mod{s:State}{X Y:cc}(h:Mod s X Y){pl:Place}{e:TypeId}{k n:Nat}{v:Value}(hf:lv s pl)(ho:fa X pl e k n v):fa Y pl e k n v:=by
 rcases ho with ho|⟨g,cap,cur,h1,h2,h3,h4,h5,h6⟩
 ·exact .inl ho
 ·rcases h.vR g (De h2) with⟨k1,k2⟩|⟨pB,n',k1,k2⟩
  ·exact .inr ⟨g,cap,cur,h1,k2.trans h2,h3,h4,h5,k1.trans h6⟩
  ·rw[h6] at k1;injection k1 with k1;rw[k1] at hf;exact absurd hf k2
theorem eO.mod{s:State}{X Y:cc}(h:Mod s X Y){pl:List Nat->Place}{t:Ty}{x:El t}{cs:List Value}{own:List (List Nat)}(hf:∀p∈own,lv s (pl p))(ho:eO X pl t x cs own):eO Y pl t x cs own:=λp hp=>by obtain⟨e,t',xs,v,g0,g1,g2,g3⟩:=ho p hp;exact⟨e,t',xs,v,g0,g1,g2,g3.mod h (hf p hp)⟩
theorem cw.mod{s:State}{X Y:cc}(h:Mod s X Y){pl:List Nat->Place}{sv:SV}{v:Value}(hf:∀t x own,sv= .bY t x own->∀p∈own,lv s (pl p))(hl:∀id t p,sv= .ptr id t p->∃B,s.bs[id]? =some (some B))(hk:∀id a b j,sv= .fc id a b j->∃B,s.bs[id]? =some (some B))(hr:cw X pl sv v):cw Y pl sv v:=by
 cases sv with
 |undef=>trivial
 |skip=>exact hr
 |jR=>exact hr
 |nE=>exact hr
 |over=>exact hr
 |bY t x own=>obtain⟨cs,h1,h2,h3⟩:=hr;exact⟨cs,h1.bE h.cn,h2,h3.mod h (hf t x own rfl)⟩
 |ptr id t p=>obtain⟨r,h1,h2⟩:=hr;obtain⟨B,hB⟩:=hl id t p rfl;exact⟨r,(h.β id B hB).trans h1,h2⟩
 |view t x=>obtain⟨ad,cs,h1,h2,h3,h4⟩:=hr;exact⟨ad,cs,h1,h2,h3.bE h.cn,λi u hi=>h.cn _ _ (h4 i u hi)⟩
 |cap f t x u y=>exact AA h.cn hr
 |fc id a b j=>
  obtain⟨r,h1,h2,h3⟩:=hr;obtain⟨B,hB⟩:=hk id a b j rfl;have bR:r<X.w.heap.size:=eE X.w _ h3;rcases h.vR r bR with⟨k1,k2⟩|⟨pB,n',k1,_⟩
  ·refine⟨r,(h.β id B hB).trans h1,k1.trans h2,?_⟩;simp only[bT] at h3⊢;rw[k2];exact h3
  ·rw[h2] at k1;cases k1
theorem Rel.mod{s:State}{X Y:cc}{a:Act}(hr:Rel tq X s a)(h:Mod s X Y):Rel tq Y s a where
 size:=hr.size
 pW:=hr.pW
 gC:=λi l v hl hv=>(hr.gC i l v hl hv).ru λj sv u hm sD=>sD.mod h (λt x own e p hp=>⟨l,t,x,own,hl,e▸hm,hp⟩) (λid t p e=>hr.live i l id t p hl (e▸aL hm)) (λid a b j e=>by obtain⟨_,⟨x,own,hb,_⟩,_⟩:=hr.fc i l id a b j hl (e▸aL hm);exact⟨_,hb⟩)
 boxes:=λid B hB=>by
  obtain⟨r,h1,h4,h2⟩:=hr.boxes id B hB;have hk:Y.ow r=X.ow r/\Y.w.heap[r]? =X.w.heap[r]? :=by
   rcases h.vR r h2.lt with hk|⟨pB,n',k1,k2⟩
   ·exact hk
   ·rw[h4] at k1;cases k1
  exact⟨r,(h.β id B hB).trans h1,hk.1.trans h4,h2.move h.cn hk.2 (λcs h5=>h5.mod h λp hp=>⟨B,hB,hp⟩) λp hm g o n ho hw=>by
   rcases h.vR g (De ho) with e|⟨pl,n',e1,e2⟩
   ·exact⟨e.2.trans ho,e.1.trans hw⟩
   ·rw[hw] at e1;injection e1 with e1;exact absurd (e1▸(⟨B,hB,hm⟩:lv s (.b id p))) e2⟩
 live:=hr.live
 defers:=hr.defers
 fc:=hr.fc
 km:=hr.km.ext h.ext
structure nO(s:State)(X Y:cc):Prop where
 size:X.w.heap.size<=Y.w.heap.size
 os:Y.w.os=X.w.os
 tape:Y.w.tape=X.w.tape
 output:Y.w.output=X.w.output
 vR:∀g,g<X.w.heap.size->Y.ow g=X.ow g/\Y.w.heap[g]? =X.w.heap[g]?
 β0:Y.β 0=X.β 0
 β:∀(id:Nat) B,s.bs[id]? =some (some B)->Y.β id=X.β id
theorem nO.cn{s:State}{X Y:cc}(h:nO s X Y){a:Addr}{v:Value}(hs:X.cn a v):Y.cn a v:=by
 have bR:=cc.qV hs;obtain⟨h1,h2⟩:=h.vR _ bR;refine⟨hs.1,?_,?_⟩
 ·have:=hs.2.1;simp only[bT] at this⊢;rw[h2];exact this
 ·rw[h1];exact hs.2.2
theorem nO.mod{s:State}{X Y:cc}(h:nO s X Y):Mod s X Y:=
 ⟨λ_ _=>h.cn,h.size,h.os,h.tape,h.output,h.β0,h.β,λg hg=> .inl (h.vR g hg)⟩
theorem nO.ext{s:State}{X Y:cc}(h:nO s X Y):Ext X Y:=h.mod.ext
theorem fa.lV{s:State}{X Y:cc}(h:nO s X Y){pl:Place}{e:TypeId}{k n:Nat}{v:Value}(ho:fa X pl e k n v):fa Y pl e k n v:=by
 rcases ho with ho|⟨g,cap,cur,h1,h2,h3,h4,h5,h6⟩
 ·exact .inl ho
 ·obtain⟨k1,k2⟩:=h.vR g (De h2);exact .inr ⟨g,cap,cur,h1,k2.trans h2,h3,h4,h5,k1.trans h6⟩
theorem eO.lV{s:State}{X Y:cc}(h:nO s X Y){pl:List Nat->Place}{t:Ty}{x:El t}{cs:List Value}{own:List (List Nat)}(ho:eO X pl t x cs own):eO Y pl t x cs own:=λp hp=>by obtain⟨e,t',xs,v,g0,g1,g2,g3⟩:=ho p hp;exact⟨e,t',xs,v,g0,g1,g2,g3.lV h⟩
theorem Rel.lV{s:State}{X Y:cc}{a:Act}(hr:Rel tq X s a)(h:nO s X Y):Rel tq Y s a:=hr.mod h.mod
theorem Rel.put{X:cc}{s:State}{a:Act}(hr:Rel tq X s a){d:ae Nat}{l:List SV}{v:Value}(h:∀d',d=some d'->kC X (.c d') l v)(hl:∀id t p,SV.ptr id t p∈l->∃B,s.bs[id]? =some (some B))(hn:l.any SV.gi=false:=by rfl):Rel tq X (s.b7 d l) (a.put d v):=by
 cases d with
 |none=>exact hr
 |some d=>
  refine⟨by simpa [State.b7,Act.put] using hr.size,by simpa [State.b7] using hr.pW,λi l' v' hi hv=> ?_,hr.boxes,λi l' id t p hi hm=> ?_,hr.defers,hr.fc.less (λi l' id a b j hi hm=> ?_) (λid a b x own _ hb ho=>⟨x,own,hb,ho⟩),hr.km⟩
  ·simp only[State.b7,az] at hi;simp only[Act.put,di] at hv;by_cases e:d=i
   ·subst e;simp only[if_true] at hi hv;split at hi
    ·split at hv
     ·cases hi;cases hv;exact h d rfl
     ·cases hv
    ·cases hi
   ·rw[if_neg e] at hi hv;exact hr.gC i l' v' hi hv
  ·simp only[State.b7,az] at hi;split at hi
   ·split at hi
    ·cases hi;exact hl id t p hm
    ·cases hi
   ·exact hr.live i l' id t p hi hm
  ·simp only[State.b7,az] at hi;split at hi
   ·split at hi
    ·cases hi;exact(zsa hn hm).elim
    ·cases hi
   ·exact⟨l',hi,hm,λh=>h⟩
theorem Rel.skip{X:cc}{s:State}{a:Act}(hr:Rel tq X s a)(d:ae Nat):Rel tq X (s.b7 d [.skip]) (a.put d aW):=
 hr.put (λ_ _=>rfl) (λid t p h=>by simp at h)
structure ng(s:State)(X Y:cc):Prop where
 w:Y.w=X.w
 β:Y.β=X.β
 ow:∀g,Y.ow g=X.ow g\/∃pl n q,X.ow g= .row pl n/\¬lv s pl/\Y.ow g= .row q n
theorem ng.cn{s:State}{X Y:cc}(h:ng s X Y){a:Addr}{v:Value}:X.cn a v↔Y.cn a v:=by
 unfold cc.cn;rw[h.w];rcases h.ow a.block with e|⟨pl,n,q,h1,_,h2⟩
 ·rw[e]
 ·rw[h1,h2];rfl
theorem ng.mod{s:State}{X Y:cc}(h:ng s X Y):Mod s X Y:=
 ⟨λ_ _=>h.cn.1,by rw[h.w];exact aZ _,by rw[h.w],by rw[h.w],by rw[h.w],by rw[h.β],λ_ _ _=>by rw[h.β],λg _=>by
   rcases h.ow g with e|⟨pl,n,q,h1,h2,_⟩
   ·exact .inl ⟨e,by rw[h.w]⟩
   ·exact .inr ⟨pl,n,h1,h2⟩⟩
theorem ng.ext{s:State}{X Y:cc}(h:ng s X Y):Ext X Y:=h.mod.ext
theorem ng.refl(s:State)(X:cc):ng s X X:=⟨rfl,rfl,λ_=> .inl rfl⟩
theorem VZ{v:SV}{id:Nat}{t:Ty}{p:List Nat}:v.shut= .ptr id t p->v= .ptr id t p:=by cases v<;>simp [SV.shut]
theorem cw.shut{X:cc}{pl pB:List Nat->Place}{sv:SV}{v:Value}(hr:cw X pl sv v):cw X pB sv.shut v:=by
 cases sv with
 |bY t x own=>obtain⟨cs,h1,h2,_⟩:=hr;exact⟨cs,h1,h2,λp hp=>by cases hp⟩
 |fc id a b j=>trivial
 |_=>exact hr
theorem z7t:∀(l:List SV) (j:Nat),(gx l j).length=l.length
 | [],_=>rfl
 |_::_,0=>rfl
 |_::r,j+1=>by simp [gx,z7t r j]
theorem SJ:∀(l:List SV) (j i:Nat),(gx l j)[i]? =if i=j then(l[i]?).map SV.shut else l[i]?
 | [],j,i=>by simp [gx]
 |v::r,0,0=>by simp [gx]
 |v::r,0,i+1=>by simp [gx]
 |v::r,j+1,0=>by simp [gx]
 |v::r,j+1,i+1=>by simp only[gx,bI,SJ r j i];simp
theorem kC.gx{X:cc}{pl:Nat->List Nat->Place}{l:List SV}{v:Value}(hr:kC X pl l v)(j:Nat):kC X pl (gx l j) v:=by
 match l,hr with
 | [s],hr=>
   cases j with
   |zero=>exact hr.shut
   |succ j=>exact hr
 | [],hr=>exact hr
 |x::y::r,⟨vs,h1,h2,h3⟩=>
  have hlen:∃x' y' r',Ref.gx (x::y::r) j=x'::y'::r':=by
   match j with
   |0=>exact⟨_,_,_,rfl⟩
   |1=>exact⟨_,_,_,rfl⟩
   |j+2=>exact⟨_,_,_,rfl⟩
  obtain⟨x',y',r',he⟩:=hlen;have hl:=z7t (x::y::r) j;have hg:=SJ (x::y::r) j;rw[he] at hl hg⊢;refine⟨vs,h1,by rw[hl];exact h2,λi s u hs hu=> ?_⟩;rw[hg] at hs;split at hs
  ·obtain⟨s0,n5,rfl⟩:=ax.1 hs;exact(h3 i s0 u n5 hu).shut
  ·exact h3 i s u hs hu
theorem adK{l:List SV}{j:Nat}{id:Nat}{t:Ty}{p:List Nat}(h:SV.ptr id t p∈gx l j):SV.ptr id t p∈l:=by
 obtain⟨i,hi⟩:=cX.1 h;rw[SJ] at hi;split at hi
 ·obtain⟨s0,n5,he⟩:=ax.1 hi;rw[VZ he] at n5;exact aL n5
 ·exact aL hi
theorem yX{s:State}{i:Nat}(h:i<s.sl.length):s.sl[i]? =some (s.slot i):=by simp [State.slot,al,av h]
theorem adJ{l:List SV}{j:Nat}{id:Nat}{a b:Ty}{i:Nat}(h:SV.fc id a b i∈gx l j):SV.fc id a b i∈l/\(l=[.fc id a b i]->gx l j=[.fc id a b i]):=by
 obtain⟨k,hk⟩:=cX.1 h;have GH:=hk;rw[SJ] at hk;split at hk
 ·obtain⟨s0,n5,he⟩:=ax.1 hk;cases s0<;>simp [SV.shut] at he
 ·refine⟨aL hk,λe=> ?_⟩;subst e;cases j with
  |zero=>simp [gx,SV.shut] at h
  |succ j=>rfl
def State.iv(s:State)(i j:Nat):State:={s with sl:=s.sl.set i (gx (s.slot i) j)}
theorem JO{s:State}{i j:Nat}{r:List (Nat×Nat)}:s.close ((i,j)::r)=(s.iv i j).close r:=rfl
theorem zgi{r:List (Nat×Nat)}:∀(l:List (Nat×Nat)) (s:State),s.close (l++r)=(s.close l).close r
 | [],s=>rfl
 |(i,j)::l,s=>by rw[gv,JO,JO];exact zgi l _
theorem Rel.iv{X:cc}{s:State}{a:Act}(hr:Rel tq X s a)(i j:Nat):Rel tq X (s.iv i j) a:=by
 refine⟨by simpa [State.iv] using hr.size,by simpa [State.iv] using hr.pW,λk l v hl hv=> ?_,hr.boxes,λk l id t p hl hm=> ?_,hr.defers,hr.fc.less (λk l id a b n hl hm=> ?_) (λid a b x own _ hb ho=>⟨x,own,hb,ho⟩),hr.km⟩
 ·simp only[State.iv,az] at hl;split at hl
  ·rename_i e;subst e;split at hl
   ·rename_i bR;cases hl;exact(hr.gC i _ v (yX bR) hv).gx j
   ·cases hl
  ·exact hr.gC k l v hl hv
 ·simp only[State.iv,az] at hl;split at hl
  ·rename_i e;subst e;split at hl
   ·rename_i bR;cases hl;exact hr.live i _ id t p (yX bR) (adK hm)
   ·cases hl
  ·exact hr.live k l id t p hl hm
 ·simp only[State.iv,az] at hl;split at hl
  ·rename_i e;subst e;split at hl
   ·rename_i bR;cases hl;obtain⟨h1,h2⟩:=adJ hm;exact⟨_,yX bR,h1,h2⟩
   ·cases hl
  ·exact⟨l,hl,hm,λh=>h⟩
theorem Rel.close{X:cc}{a:Act}:∀(c:List (Nat×Nat)) {s:State},Rel tq X s a->Rel tq X (s.close c) a
 | [],s,hr=>hr
 |(i,j)::r,s,hr=>Rel.close r (hr.iv i j)
theorem Fl:∀{c:List (Nat×Nat)} {s:State},(s.close c).bs=s.bs
 | [],s=>rfl
 |(i,j)::r,s=>(Fl (c:=r) (s:=s.iv i j))
theorem SO:∀{c:List (Nat×Nat)} {s:State},(s.close c).sl.length=s.sl.length
 | [],s=>rfl
 |(i,j)::r,s=>by rw[JO,SO (c:=r)];simp [State.iv]
theorem lv.Ar{s:State}{i j:Nat}{pl:Place}(h:lv (s.iv i j) pl):lv s pl/\∀p,pl≠ .c i j p:=by
 cases pl with
 |r j p=>exact h.elim
 |b id p=>exact⟨h,λp=>by simp⟩
 |c i' j' p=>
  obtain⟨l,t,x,own,hl,hx,hp⟩:=h;simp only[State.iv,az] at hl;split at hl
  ·rename_i e;subst e;split at hl
   ·rename_i bR;cases hl;rw[SJ] at hx;split at hx
    ·obtain⟨s0,_,he⟩:=ax.1 hx;cases s0<;>simp [SV.shut] at he;obtain⟨rfl,_,rfl⟩:=he;cases hp
    ·rename_i fS;exact⟨⟨_,t,x,own,yX bR,hx,hp⟩,λq e=>by cases e;exact fS rfl⟩
   ·cases hl
  ·rename_i fS;exact⟨⟨l,t,x,own,hl,hx,hp⟩,λq e=>by cases e;exact fS rfl⟩
theorem lv.tk{pl:Place}:∀{c:List (Nat×Nat)} {s:State},lv (s.close c) pl->lv s pl/\∀i j,(i,j)∈c->∀p,pl≠ .c i j p
 | [],s,h=>⟨h,λi j hm=>by cases hm⟩
 |(i,j)::r,s,h=>by
  obtain⟨h1,h2⟩:=lv.tk (c:=r) (s:=s.iv i j) h;obtain⟨h3,h4⟩:=lv.Ar h1;refine⟨h3,λi' j' hm p=> ?_⟩;rcases List.mem_cons.1 hm with e|hm
  ·cases e;exact h4 p
  ·exact h2 i' j' hm p
theorem lv.close{s:State}{i j:Nat}{p:List Nat}:¬lv (s.close [(i,j)]) (.c i j p):=λh=>(lv.tk h).2 i j (by simp) p rfl
def cc.turn(X:cc)(i j:Nat)(q:List Nat->Place):cc:=
 {X with ow:=λg=>match X.ow g with
  | .row (.c i' j' p) n=>if i'=i/\j'=j then .row (q p) n else .row (.c i' j' p) n
  |w=>w}
theorem zzy{s:State}{X:cc}{i j:Nat}{q:List Nat->Place}(h:∀p,¬lv s (.c i j p)):ng s X (X.turn i j q):=by
 refine⟨rfl,rfl,λg=> ?_⟩;simp only[cc.turn];cases hg:X.ow g with
 |row pl n=>
  cases pl with
  |c i' j' p=>
   by_cases e:i'=i/\j'=j
   ·obtain⟨rfl,rfl⟩:=e;exact .inr ⟨_,n,q p,rfl,h p,by simp⟩
   ·exact .inl (by simp [e])
  |_=>exact .inl rfl
 |_=>exact .inl rfl
theorem fa.vg{X:cc}{i j:Nat}{q:List Nat->Place}{p:List Nat}{e:TypeId}{k n:Nat}{v:Value}(h:fa X (.c i j p) e k n v):fa (X.turn i j q) (q p) e k n v:=by
 rcases h with h|⟨g,cap,cur,h1,h2,h3,h4,h5,h6⟩
 ·exact .inl h
 ·exact .inr ⟨g,cap,cur,h1,h2,h3,h4,h5,by simp [cc.turn,h6]⟩
theorem eO.vg{X:cc}{i j:Nat}{q:List Nat->Place}{t:Ty}{x:El t}{cs:List Value}{own:List (List Nat)}(h:eO X (.c i j) t x cs own):eO (X.turn i j q) q t x cs own:=λp hp=>by obtain⟨e,t',xs,v,g0,g1,g2,g3⟩:=h p hp;exact⟨e,t',xs,v,g0,g1,g2,g3.vg⟩
def uM(X Y:cc):Prop:=Y.w=X.w/\∀g pl n,X.ow g= .row pl n->(∀i j p,pl≠ .c i j p)->Y.ow g= .row pl n
theorem agS{X:cc}{i j:Nat}{q:List Nat->Place}:uM X (X.turn i j q):=⟨rfl,λg pl n h hp=>by
 simp only[cc.turn,h];cases pl with
 |c i' j' p=>exact absurd rfl (hp i' j' p)
 |_=>rfl⟩
theorem uM.refl(X:cc):uM X X:=⟨rfl,λ_ _ _ h _=>h⟩
theorem eO.stay{X Y:cc}(h:uM X Y){pl:List Nat->Place}(hp:∀r i j p,pl r≠ .c i j p){t:Ty}{x:El t}{cs:List Value}{own:List (List Nat)}(ho:eO X pl t x cs own):eO Y pl t x cs own:=λp hm=>by
 obtain⟨e,t',xs,v,g0,g1,g2,g3⟩:=ho p hm;refine⟨e,t',xs,v,g0,g1,g2,?_⟩;rcases g3 with h0|⟨g,cap,cur,h1,h2,h3,h4,h5,h6⟩
 ·exact .inl h0
 ·exact .inr ⟨g,cap,cur,h1,by rw[h.1];exact h2,h3,h4,h5,h.2 g _ _ h6 (hp p)⟩
theorem Rel.take{X:cc}{s:State}{a:Act}(hr:Rel tq X s a){i j:Nat}{t:Ty}{x:El t}{w:List (List Nat)}{v:Value}(h:cw X (.c i j) (.bY t x w) v)(q:List Nat->Place):
 ∃Y,Y.w=X.w/\Ext X Y/\Rel tq Y (s.close [(i,j)]) a/\cw Y q (.bY t x w) v/\Y.β=X.β/\ng (s.close [(i,j)]) X Y/\uM X Y:=by
 obtain⟨cs,h1,h2,h3⟩:=h;have hT:ng (s.close [(i,j)]) X (X.turn i j q):=zzy λp=>lv.close;exact⟨X.turn i j q,rfl,hT.ext,(hr.close _).mod hT.mod,⟨cs,h1.bE (λ_ _=>hT.cn.1),h2,h3.vg⟩,rfl,hT,agS⟩
def cc.mZ(X:cc)(i d:Nat):cc:=
 {X with ow:=λg=>match X.ow g with
  | .row (.c i' j' p) n=>if i'=i then .row (.c d j' p) n else .row (.c i' j' p) n
  |w=>w}
theorem zzx(t:Nat):∀(n j:Nat),j<n->(t,j)∈tu t n
 |0,j,h=>absurd h (Nat.not_lt_zero j)
 |n+1,j,h=>by
  rcases Nat.lt_or_ge j n with h1|h1
  ·exact List.mem_cons_of_mem _ (zzx t n j h1)
  ·have:j=n:=by omega
   subst this;simp [tu]
theorem lv.closeAll{s:State}{t j:Nat}{p:List Nat}:¬lv (s.close (tu t (s.slot t).length)) (.c t j p):=λh=>by
 obtain⟨h1,h2⟩:=lv.tk h;obtain⟨l,ty,x,own,g1,g2,g3⟩:=h1;have hl:s.slot t=l:=by simp [State.slot,g1]
 have hj:j<l.length:=(aA.1 g2).1;exact h2 t j (zzx t _ j (by rw[hl];exact hj)) p rfl
theorem ack{s:State}{X:cc}{i d:Nat}(h:∀j p,¬lv s (.c i j p)):ng s X (X.mZ i d):=by
 refine⟨rfl,rfl,λg=> ?_⟩;simp only[cc.mZ];cases hg:X.ow g with
 |row pl n=>
  cases pl with
  |c i' j' p=>
   by_cases e:i'=i
   ·subst e;exact .inr ⟨_,n,.c d j' p,rfl,h j' p,by simp⟩
   ·exact .inl (by simp [e])
  |_=>exact .inl rfl
 |_=>exact .inl rfl
theorem fa.rE{X:cc}{i d j:Nat}{p:List Nat}{e:TypeId}{k n:Nat}{v:Value}(h:fa X (.c i j p) e k n v):fa (X.mZ i d) (.c d j p) e k n v:=by
 rcases h with h|⟨g,cap,cur,h1,h2,h3,h4,h5,h6⟩
 ·exact .inl h
 ·exact .inr ⟨g,cap,cur,h1,h2,h3,h4,h5,by simp [cc.mZ,h6]⟩
theorem cw.rE{s:State}{X:cc}{i d j:Nat}{sv:SV}{v:Value}(hT:ng s X (X.mZ i d))(h:cw X (.c i j) sv v):cw (X.mZ i d) (.c d j) sv v:=by
 cases sv with
 |bY t x own=>obtain⟨cs,h1,h2,h3⟩:=h;refine⟨cs,h1.bE (λ_ _=>hT.cn.1),h2,λp hp=> ?_⟩;obtain⟨e,t',xs,v,g0,g1,g2,g3⟩:=h3 p hp;exact⟨e,t',xs,v,g0,g1,g2,g3.rE⟩
 |view t x=>obtain⟨ad,cs,h1,h2,h3,h4⟩:=h;exact⟨ad,cs,h1,h2,h3.bE (λ_ _=>hT.cn.1),λi u hi=>hT.cn.1 (h4 i u hi)⟩
 |cap f t x u y=>exact AA (λ_ _=>hT.cn.1) h
 |fc id a b k=>obtain⟨r,h1,h2,h3⟩:=h;exact⟨r,h1,by simp [cc.mZ,h2],h3⟩
 |_=>exact h
theorem Rel.E6{X:cc}{s:State}{a:Act}(hr:Rel tq X s a){t:Nat}{v:Value}(h:kC X (.c t) (s.slot t) v)(d:Nat):
 ∃Y,Y.w=X.w/\Ext X Y/\Rel tq Y (s.close (tu t (s.slot t).length)) a/\kC Y (.c d) (s.slot t) v:=by
 have hT:ng (s.close (tu t (s.slot t).length)) X (X.mZ t d):=ack λj p=>lv.closeAll;exact⟨X.mZ t d,rfl,hT.ext,(hr.close _).mod hT.mod,h.ru λj sv u hj hu=>hu.rE hT⟩
end Go.Ref

namespace Go.Ref
open Go
variable {tq:oK}
def zo:Ty->List Value
 | .bool=>[.bool false]
 | .int k=>[.int k 0]
 | .str=>[.string ⟨#[]⟩]
 | .sl _ _=>[.slice none 0 0]
 | .arr n t=>(aw n (zo t)).flatten
 | .unit=>[]
 | .pair a b=>zo a++zo b
 | .dJ _ _ _=>[]
def rW(E:Env):List Field->Ty->Nat->Prop
 | [],.unit,_=>True
 |f::r,.pair a b,off=>f.offset=off/\E.ty f.type=some a/\f.name≠ "_" /\rW E r b (off+a.cells)
 |_,_,_=>False
def R7(P:Program)(E:Env)(T:TypeId):Ty->Prop
 | .bool=>P.underlying T=some .bool
 | .int k=>P.underlying T=some (.int k)
 | .str=>P.underlying T=some .string
 | .sl e t=>P.underlying T=some (.slice e)/\E.ty e=some t
 | .arr n t=>∃e,P.underlying T=some (.array n e)/\E.ty e=some t/\P.eqGuardType P.depth T=false
 | .dJ _ _ _=>False
 |t=>∃fs,P.underlying T=some (.struct fs)/\rW E fs.toList t 0/\P.stoodInHeld T=false/\P.eqGuardType P.depth T=false
structure uN(P:Program)(E:Env)(T:TypeId)(t:Ty):Prop where
 info:∃i,P.info? T=some i/\i.size=t.cells/\i.bytes=E.bytes T/\i.zero=some (mW t (zo t))
 me:R7 P E T t
structure bO(P:Program)(E:Env):Prop where
 ty:∀T t,E.ty T=some t->uN P E T t
 pt:∀T,E.pt T=true->∃e,P.underlying T=some (.pointer e)
 p1:∀T,E.pt T=true->∃i,P.info? T=some i/\i.size=1
 mp:∀T k e,E.mp T=some (k,e)->P.underlying T=some (.map k e)
 bl:∀T e,E.bl T=some e->∃i,P.info? T=some i/\i.zero=some (.agg #[.pointer none,.slice none 0 0])
 gr:∀T a b,E.gr T=some (a,b)->∃fs,P.underlying T=some (.struct fs)/\∀j,j<=2->∃f i,fs[j]? =some f/\f.offset=vU a [j]/\P.info? f.type=some i/\i.size≠0
 gz:∀T a b,E.gr T=some (a,b)->∃i,P.info? T=some i/\i.zero=some (.agg (zo a++ [Value.pointer none,Value.pointer none,Value.int .i64 0]).toArray)
 g3:∀T a b,E.gr T=some (a,b)->∃fs f,P.underlying T=some (.struct fs)/\fs[0]? =some f/\f.offset=0/\E.ty f.type=some a/\∀f∈fs.toList,∃i,P.info? f.type=some i
 ga:∀T,E.ga T=true->∃e i,P.underlying T=some (.array 2 e)/\P.info? e=some i/\i.size=1
theorem bO.rB{P:Program}{E:Env}(hE:bO P E){T:TypeId}{t:Ty}(h:E.ty T=some t):t.fG=false:=by have:=(hE.ty T t h).me;cases t<;>first|rfl|exact this.elim
theorem CQ:∀t:Ty,(zo t).length=t.cells
 | .bool=>rfl
 | .int _=>rfl
 | .str=>rfl
 | .sl _ _=>rfl
 | .unit=>rfl
 | .arr n t=>by simp [zo,Ty.cells,CQ t]
 | .pair a b=>by simp [zo,Ty.cells,CQ a,CQ b]
 | .dJ _ _ _=>rfl
theorem z97{l:List Value}{k:Nat}(hl:l.length=k):∀(n j:Nat),j<n->(((aw n l).flatten).drop (j*k)).take k=l
 |0,j,h=>by omega
 |n+1,0,_=>by simp only[fh,List.flatten_cons,Nat.zero_mul,aN];rw[<-hl];exact eb
 |n+1,j+1,h=>by simp only[fh,List.flatten_cons];rw[bL,ct,Nat.add_comm,<-dL];rw[show List.drop k (l++(aw n l).flatten)=(aw n l).flatten by rw[<-hl];exact gb];exact z97 hl n j (by omega)
theorem A3(X:cc):∀t:Ty,eI X t (El.gG t) (zo t)
 | .bool=>rfl
 | .int _=>rfl
 | .str=>rfl
 | .unit=>rfl
 | .sl _ t=>⟨none,0,rfl,aZ _,λj x h=>by simp [El.gG] at h⟩
 | .arr n t=>by
   refine⟨by simp [El.gG],by simp [zo,CQ],λj x h=> ?_⟩;have hj:j<n:=by have:=(aA.1 h).1;simpa [El.gG] using this
   have hx:x=El.gG t:=by simp only[El.gG,List.getElem?_replicate] at h;rw[if_pos hj] at h;exact(Option.some.inj h).symm
   subst hx;have:=z97 (CQ t) n j hj;simp only[zo];rw[this];exact A3 X t
 | .pair a b=>⟨zo a,zo b,rfl,A3 X a,A3 X b⟩
 | .dJ _ _ _=>rfl
theorem TS{t:Ty}{c:Value}(h:t.agg=false):mW t [c]=c:=by simp [mW,h]
theorem sw{t:Ty}{cs:List Value}(h:t.agg=true):mW t cs= .agg cs.toArray:=by simp [mW,h]
theorem Da{t:Ty}{X:cc}{x:El t}{cs:List Value}(h:eI X t x cs):(mW t cs).cells=cs.toArray:=by
 cases ht:t.agg with
 |true=>rw[sw ht];rfl
 |false=>
  have hl:=h.len;have h1:=h.one;have hc:t.cells=1:=by cases t<;>simp_all [Ty.agg,Ty.cells]
  rw[hc] at hl
  match cs,hl with
  | [c],_=>rw[TS ht];have:=h1 c (by simp);cases c<;>simp_all [Value.oneCell',Value.cells]
theorem zz{R:Type}{s:SV}{u:Ty}{K:El u->ae R}{z:R}(h:s.el u K=some z):
 ∃y,K y=some z/\∀(X:cc) pl v,cw X pl s v->∃cs,eI X u y cs/\v=mW u cs:=by
 cases s with
 |bY t x own=>
  simp only[SV.el] at h;split at h
  ·rename_i he;have e:=Ty.cT he;subst e;exact⟨x,h,λX pl v hv=>by obtain⟨cs,h1,h2,_⟩:=hv;exact⟨cs,h1,h2⟩⟩
  ·cases h
 |jR=>
  cases u<;>simp only[SV.el] at h<;>first|cases h|skip
  rename_i e t;refine⟨[],h,λX pl v hv=>⟨[.slice none 0 0],⟨none,0,rfl,aZ _,λj x hj=>by simp at hj⟩,hv⟩⟩
 |_=>simp [SV.el] at h
theorem uG{X:cc}{k:IntKind}{n:Int}{cs:List Value}(h:eI X (.int k) n cs):mW (.int k) cs= .int k n:=by cases h;rfl
theorem Dd{X:cc}{b:Bool}{cs:List Value}(h:eI X .bool b cs):mW .bool cs= .bool b:=by cases h;rfl
theorem wQ{X:cc}{s:af}{cs:List Value}(h:eI X .str s cs):mW .str cs= .string s:=by cases h;rfl
theorem vu{X:cc}{pl:List Nat->Place}{t:Ty}{x:El t}{cs:List Value}:eO X pl t x cs []:=λp hp=>by cases hp
theorem rV{X:cc}{pl:List Nat->Place}{k:IntKind}{n:Int}:cw X pl (.bY (.int k) n []) (.int k n):=⟨[.int k n],rfl,rfl,vu⟩
theorem wN{X:cc}{pl:List Nat->Place}{b:Bool}:cw X pl (.bY .bool b []) (.bool b):=⟨[.bool b],rfl,rfl,vu⟩
theorem Hr{X:cc}{pl:List Nat->Place}{s:af}:cw X pl (.bY .str s []) (.string s):=⟨[.string s],rfl,rfl,vu⟩
theorem Hh{X:cc}{pl:List Nat->Place}{k:IntKind}{n:Int}{o:List (List Nat)}{v:Value}(h:cw X pl (.bY (.int k) n o) v):v= .int k n:=by obtain⟨cs,h1,h2,_⟩:=h;rw[h2,uG h1]
theorem Su{X:cc}{pl:List Nat->Place}{b:Bool}{o:List (List Nat)}{v:Value}(h:cw X pl (.bY .bool b o) v):v= .bool b:=by obtain⟨cs,h1,h2,_⟩:=h;rw[h2,Dd h1]
theorem zhe{X:cc}{pl:List Nat->Place}{s:af}{o:List (List Nat)}{v:Value}(h:cw X pl (.bY .str s o) v):v= .string s:=by obtain⟨cs,h1,h2,_⟩:=h;rw[h2,wQ h1]
def E1:Operand->List Nat->Place
 | .tmp t=> .c t 0
 |_=> .r 0
theorem z154(X:cc)(pl:List Nat->Place)(v:Value):cw X pl (Hy v) v:=by
 unfold Hy;split
 ·exact wN
 ·exact rV
 ·exact Hr
 ·rfl
 ·rfl
 ·trivial
theorem Rel.slot{X:cc}{s:State}{a:Act}(hr:Rel tq X s a)(t:Nat):kC X (.c t) (s.slot t) (a.tmps.getD t aW):=by
 by_cases h:t<s.sl.length
 ·refine hr.gC t _ _ (yX h) ?_;have:=hr.size;simp [bh (show t<a.tmps.size by omega)]
 ·have:s.slot t=[.undef]:=by simp [State.slot,aS (show s.sl.length<=t by omega)]
  rw[this];trivial
theorem Rel.cP{X:cc}{s:State}{a:Act}(hr:Rel tq X s a)(x:Operand):cw X (E1 x) (s.cP x) (a.eval x):=by
 cases x with
 |tmp t=>
  have h:=hr.slot t;unfold State.cP State.EY;simp only[E1,Act.eval]
  match hl:s.slot t with
  | []=>trivial
  | [sv]=>rw[hl] at h;exact h
  |_::_::_=>trivial
 |const v=>exact z154 X _ v
 |_=>trivial
theorem A5{X:cc}{s:State}{a:Act}(hr:Rel tq X s a){x:Operand}{id:Nat}{t:Ty}{p:List Nat}(h:s.cP x= .ptr id t p):∃B,s.bs[id]? =some (some B):=by
 cases x with
 |tmp i=>
  unfold State.cP State.EY at h;simp only at h;by_cases hi:i<s.sl.length
  ·refine hr.live i _ id t p (yX hi) ?_
   match hl:s.slot i,h with
   | [sv],h=>have:sv= .ptr id t p:=h;simp [this]
   | [],h=>simp [one] at h
   |_::_::_,h=>simp [one] at h
  ·have:s.slot i=[.undef]:=by simp [State.slot,aS (eM hi)]
   rw[this] at h;simp [one] at h
 |const v=>unfold State.cP State.EY Hy at h;simp only[one] at h;split at h<;>simp at h
 |_=>simp [State.cP,State.EY,one] at h
theorem Rel.fin{Y:cc}{s:State}{a:Act}(hr:Rel tq Y s a){dst:ae Nat}{l:List SV}{v:Value}(h:kC Y (.c (dst.getD 0)) l v)(hl:∀id t p,SV.ptr id t p∈l->∃B,s.bs[id]? =some (some B))(hn:l.any SV.gi=false:=by rfl):Rel tq Y (s.b7 dst l) (a.put dst v):=
 hr.put (λd' e=>by subst e;exact h) hl hn
def cQ(P:Program)(tq:oK)(X:cc)(s:State)(a:Act)(o:Oper)(u:Out):Prop:=
 ∃Y v,((execOp a.eval o).run P X.w= .ok (.value v) Y.w\/((execOp a.eval o).run P X.w= .ok .skip Y.w/\v=aW))/\Ext X Y/\Rel tq Y (s.apply o.dst u) (a.put o.dst v)
theorem cQ.plain{P:Program}{X:cc}{s:State}{a:Act}{o:Oper}(hr:Rel tq X s a){sv:SV}{v:Value}
 (h:(execOp a.eval o).run P X.w= .ok (.value v) X.w) (hv:cw X (.c (o.dst.getD 0) 0) sv v) (hl:∀id t p,sv= .ptr id t p->∃B,s.bs[id]? =some (some B)) (hn:sv.gi=false:=by rfl):cQ P tq X s a o {v:=[sv]}:=
 ⟨X,v,.inl h,Ext.refl X,hr.fin hv (λid t p hm=>hl id t p (by have h':=hm;simp at h';exact h'.symm)) (by simp [hn])⟩
theorem cQ.G5{P:Program}{X:cc}{s:State}{a:Act}{o:Oper}(hr:Rel tq X s a){i j:Nat}{t:Ty}{x:El t}{w:List (List Nat)}{v:Value}
 (h:(execOp a.eval o).run P X.w= .ok (.value v) X.w) (hv:cw X (.c i j) (.bY t x w) v):cQ P tq X s a o {v:=[.bY t x w],cl:=[(i,j)]}:=by
 obtain⟨Y,h1,h2,h3,h4,_,_,_⟩:=hr.take hv (.c (o.dst.getD 0) 0);refine⟨Y,v,.inl (by rw[h1];exact h),h2,?_⟩;exact h3.fin h4 (λid t p hm=>by simp at hm)
end Go.Ref

namespace Go.Ref
open Go
variable {P:Program} {tq:oK} {E:Env} {X:cc} {s:State} {a:Act} {o:Oper} {u:Out}
def Plain:SV->Prop
 | .bY _ _ (_::_)=>False
 | .fc _ _ _ _=>False
 |_=>True
theorem Plain.xK{sv:SV}(h:Plain sv):sv.gi=false:=by cases sv<;>first|rfl|exact h.elim
theorem zok(sv:SV):sv.shut.gi=false:=by cases sv<;>rfl
theorem zhj(l:List SV):(l.map SV.shut).any SV.gi=false:=cH.2 λv hv=>by obtain⟨w,_,rfl⟩:=bm.1 hv;simp [zok]
theorem alY{sv:SV}{v:Value}(h:∀X pl,cw X pl sv v):sv.gi=false:=by
 cases sv with
 |fc id a b j=>obtain⟨r,h1,_⟩:=h ⟨default,λ_=> .all,λ_=>none⟩ (λ_=> .r 0 []);cases h1
 |_=>rfl
theorem zhr(hr:Rel tq X s a){t:Nat}(hb:ak (s.slot t).length 1=false):(s.slot t).any SV.gi=false:=cH.2 λv hv=>by
 cases v with
 |fc id c b j=>
  exfalso;by_cases bR:t<s.sl.length
  ·obtain⟨e,_⟩:=hr.fc t _ id c b j (yX bR) hv;rw[e] at hb;simp at hb
  ·have:s.slot t=[.undef]:=by simp [State.slot,aS (eM bR)]
   rw[this] at hv;simp at hv
 |_=>simp [SV.gi]
theorem cw.place{pl pB:List Nat->Place}{sv:SV}{v:Value}(h:cw X pl sv v)(hp:Plain sv):cw X pB sv v:=by
 cases sv with
 |bY t x w=>
  cases w with
  |nil=>obtain⟨cs,h1,h2,_⟩:=h;exact⟨cs,h1,h2,vu⟩
  |cons p w=>exact hp.elim
 |_=>exact h
theorem cw.bare{pl pB:List Nat->Place}{t:Ty}{x:El t}{w:List (List Nat)}{v:Value}(h:cw X pl (.bY t x w) v):cw X pB (.bY t x []) v:=by obtain⟨cs,h1,h2,_⟩:=h;exact⟨cs,h1,h2,vu⟩
theorem zgl{v:Value}{t:Ty}{y:El t}{w:List (List Nat)}(h:Hy v= .bY t y w):w=[]:=by
 unfold Hy at h;split at h<;>simp at h
 ·obtain⟨rfl,_,rfl⟩:=h;rfl
 ·obtain⟨rfl,_,rfl⟩:=h;rfl
 ·obtain⟨rfl,_,rfl⟩:=h;rfl
theorem alW{x:Operand}{t:Ty}{y:El t}{w:List (List Nat)}(h:s.cP x= .bY t y w)(hw:w≠ []):∃i,x= .tmp i:=by
 cases x with
 |tmp i=>exact⟨i,rfl⟩
 |const v=>exact absurd (zgl h) hw
 |_=>simp [State.cP,State.EY,one] at h
theorem zzj(hr:Rel tq X s a){x:Operand}(h:(execOp a.eval o).run P X.w= .ok (.value (a.eval x)) X.w)(hp:Plain (s.cP x)):cQ P tq X s a o {v:=[s.cP x]}:=
 cQ.plain hr h ((hr.cP x).place hp) (λid t p e=>A5 hr e) hp.xK
theorem zy7(hr:Rel tq X s a){x:Operand}{t:Ty}{y:El t}{w:List (List Nat)}(dK:(execOp a.eval o).run P X.w= .ok (.value (a.eval x)) X.w)(e:s.cP x= .bY t y w):cQ P tq X s a o {v:=[.bY t y w],cl:=Fp w x}:=by
 have jI:=hr.cP x;rw[e] at jI;cases hw:w with
 |nil=>subst hw;exact cQ.plain hr dK jI.bare (λ_ _ _ h=>by cases h)
 |cons p w'=>
 rw[<-hw];have oj:Fp w x=src x:=by rw[hw];rfl
 rw[oj];clear hw;cases x with
 |tmp i=>exact cQ.G5 hr dK jI
 |const v=>have hw:=zgl (show Hy v= .bY t y w from e);subst hw;exact cQ.plain hr dK jI.bare (λ_ _ _ h=>by cases h)
 |_=>simp [State.cP,State.EY,one] at e
theorem PO(hr:Rel tq X s a){T:TypeId}{v:Value}{pl:List Nat->Place}(dK:(execOp a.eval o).run P X.w= .ok (.value v) X.w)(hv:cw X pl .jR v)(h:xJ E T some=some u):cQ P tq X s a o u:=by
 unfold xJ at h;split at h
 ·cases h;refine cQ.plain hr dK ⟨[.slice none 0 0],⟨none,0,rfl,aZ _,λj x hj=>by simp at hj⟩,hv,λp hp=> ?_⟩ (λ_ _ _ e=>by cases e);rename_i e t _;have hp:p=[]:=by simpa using hp
  subst hp;exact⟨e,t,[],_,by simp [Ty.nH],rfl,rfl,.inl ⟨rfl,rfl⟩⟩
 ·cases h;exact cQ.plain hr dK hv (λ_ _ _ e=>by cases e)
theorem cw.oI{pl pB:List Nat->Place}{sv:SV}{v:Value}(hr:cw X pl sv v):cw X pB sv.shut v:=by
 cases sv with
 |bY t x own=>obtain⟨cs,h1,h2,_⟩:=hr;exact⟨cs,h1,h2,vu⟩
 |fc id a b j=>trivial
 |_=>exact hr
theorem kC.oI{pl pB:Nat->List Nat->Place}{l:List SV}{v:Value}(hr:kC X pl l v):kC X pB (l.map SV.shut) v:=by
 match l,hr with
 | [s],hr=>exact cw.oI hr
 | [],⟨vs,h1,h2,h3⟩=>exact⟨vs,h1,h2,λj s u hs=>by simp at hs⟩
 |x::y::r,⟨vs,h1,h2,h3⟩=>refine⟨vs,h1,by simpa using h2,λj s u hs hu=> ?_⟩;have hs:((x::y::r).map SV.shut)[j]? =some s:=hs;rw[aP] at hs;obtain⟨s0,n5,rfl⟩:=ax.1 hs;exact cw.oI (h3 j s0 u n5 hu)
theorem afO(hr:Rel tq X s a){ops:List Oper}{x:Operand}(ho:o.op= .move x){C:FuncId->gK Out}(h:act E C ops o s some=some u):cQ P tq X s a o u:=by
 have dK:(execOp a.eval o).run P X.w= .ok (.value (a.eval x)) X.w:=by simp [execOp,ho]
 unfold act at h;simp only[ho] at h;have jI:=hr.cP x;cases ht:wI s x with
 |some tl=>
  obtain⟨t,l⟩:=tl;rw[ht] at h;cases x with
  |tmp i=>
   change(bif ak (s.slot i).length 1 then none else some (i,s.slot i))=some (t,l) at ht;cases hb:ak (s.slot i).length 1 with
   |true=>rw[hb] at ht;cases ht
   |false=>
    rw[hb] at ht;cases ht;have NS:∀id ty p,SV.ptr id ty p∈s.slot t->∃B,s.bs[id]? =some (some B):=λid ty p hm=>by
     by_cases bR:t<s.sl.length
     ·exact hr.live t _ id _ p (yX bR) hm
     ·have:s.slot t=[.undef]:=by simp [State.slot,aS (eM bR)]
      rw[this] at hm;simp at hm
    cases GU:Go.Ref.oI E o.dst with
    |true=>rw[GU] at h;cases h;refine⟨X,_,.inl dK,Ext.refl X,?_⟩;refine Rel.fin hr (kC.oI (hr.slot t)) (λid ty p hm=> ?_) (zhj _);obtain⟨s0,n5,he⟩:=bm.1 hm;rw[VZ he] at n5;exact NS id ty p n5
    |false=>
    rw[GU] at h;cases h;cases gD:(s.slot t).all λv=>v.own.isEmpty with
    |true=>
     refine⟨X,_,.inl dK,Ext.refl X,?_⟩;refine Rel.fin hr ((hr.slot t).ru λj sv u hj hu=> ?_) (λid ty p hm=> ?_) (zhr hr hb)
     ·have:=aR.1 gD sv (aL hj);refine hu.place ?_;cases sv with
      |bY ty y w=>
       cases w with
       |nil=>trivial
       |cons p w=>simp [SV.own] at this
      |fc id a b j=>exact(zsa (zhr hr hb) (aL hj)).elim
      |_=>trivial
     ·by_cases bR:t<s.sl.length
      ·exact hr.live t _ id _ p (yX bR) hm
      ·have:s.slot t=[.undef]:=by simp [State.slot,aS (eM bR)]
       rw[this] at hm;simp at hm
    |false=>
    obtain⟨Y,h1,h2,h3,h4⟩:=hr.E6 (hr.slot t) (o.dst.getD 0);refine⟨Y,_,.inl (by rw[h1];exact dK),h2,?_⟩;refine h3.fin h4 (λid ty p hm=> ?_) (zhr hr hb);by_cases bR:t<s.sl.length
    ·obtain⟨B,hB⟩:=hr.live t _ id _ p (yX bR) hm;exact⟨B,by rw[Fl];exact hB⟩
    ·have:s.slot t=[.undef]:=by simp [State.slot,aS (eM bR)]
     rw[this] at hm;simp at hm
  |_=>cases ht
 |none=>
 rw[ht] at h;simp only at h;split at h
 ·rename_i t y w e;rw[e] at jI;cases hb:(Z8 ops o.dst||takes E o.dst) with
  |true=>rw[hb] at h;cases h;exact zy7 hr dK e
  |false=>rw[hb] at h;cases h;exact cQ.plain hr dK jI.bare (λ_ _ _ h=>by cases h)
 ·cases h
 ·cases h
 ·rename_i e;rw[e] at jI;exact PO hr dK jI h
 ·rename_i h1 h2 h3 h4;cases h;refine zzj hr dK ?_;cases hx:s.cP x with
  |bY t y w=>exact absurd hx (h1 t y w)
  |fc id c b j=>first|exact absurd hx (h2 id c b j)|exact absurd hx (h3 id c b j)
  |_=>trivial
theorem acs(hr:Rel tq X s a){ops:List Oper}{x:Operand}(ho:o.op= .assign x){C:FuncId->gK Out}(h:act E C ops o s some=some u):cQ P tq X s a o u:=by
 have dK:(execOp a.eval o).run P X.w= .ok (.value (a.eval x)) X.w:=by simp [execOp,ho]
 unfold act at h;simp only[ho] at h;have jI:=hr.cP x;split at h
 ·rename_i t y w e;rw[e] at jI;cases h;exact zy7 hr dK e
 ·cases h
 ·cases h
 ·rename_i e;rw[e] at jI;exact PO hr dK jI h
 ·rename_i h1 h2 h3 h4;cases h;refine zzj hr dK ?_;cases hx:s.cP x with
  |bY t y w=>exact absurd hx (h1 t y w)
  |fc id c b j=>first|exact absurd hx (h2 id c b j)|exact absurd hx (h3 id c b j)
  |_=>trivial
theorem afQ(hr:Rel tq X s a){ops:List Oper}{c x y:Operand}(ho:o.op= .pick c x y){C:FuncId->gK Out}(h:act E C ops o s some=some u):cQ P tq X s a o u:=by
 unfold act at h;simp only[ho] at h;have hc:=hr.cP c;split at h
 ·rename_i p w e;rw[e] at hc;have hv:=Su hc;have key:∀z,cQ P tq X s a o {v:=[(s.cP z).shut]}\/(execOp a.eval o).run P X.w≠ .ok (.value (a.eval z)) X.w:=by
   intro z;by_cases hz:(execOp a.eval o).run P X.w= .ok (.value (a.eval z)) X.w
   ·refine .inl (cQ.plain hr hz (hr.cP z).shut (λid t p e=> ?_) (zok _));exact A5 hr (VZ e)
   ·exact .inr hz
  cases p with
  |true=>cases h;exact(key x).resolve_right (by simp [execOp,ho,hv,asBool])
  |false=>cases h;exact(key y).resolve_right (by simp [execOp,ho,hv,asBool])
 ·cases h
theorem Ve(op:BinOp)(T:TypeId)(x y:Operand)(k k':IntKind)(m n:Int)(w:World):(eqGuard op T x y (.int k m) (.int k' n)).run P w= .ok () w:=by cases op<;>simp [eqGuard]
theorem za1(op:BinOp)(T:TypeId)(x y:Operand)(m n:af)(w:World):(eqGuard op T x y (.string m) (.string n)).run P w= .ok () w:=by cases op<;>simp [eqGuard]
theorem zoj(op:BinOp)(T:TypeId)(x y:Operand)(m n:Bool)(w:World):(eqGuard op T x y (.bool m) (.bool n)).run P w= .ok () w:=by cases op<;>simp [eqGuard]
theorem znx{op:BinOp}{T:TypeId}{k k':IntKind}{m n:Int}{l:List SV}(w:World)(h:zY op k m k' n some=some l):
 ∃sv v,l=[sv]/\(bQ op T (.int k m) (.int k' n)).run P w= .ok v w/\Plain sv/\(∀X pl,cw X pl sv v)/\∀id t p,sv≠ .ptr id t p:=by
 have done:∀{sv:SV} {v:Value},l=[sv]->(bQ op T (.int k m) (.int k' n)).run P w= .ok v w->Plain sv->(∀X pl,cw X pl sv v)->(∀id t p,sv≠ .ptr id t p)->∃sv v,l=[sv]/\(bQ op T (.int k m) (.int k' n)).run P w= .ok v w/\Plain sv/\(∀X pl,cw X pl sv v)/\∀id t p,sv≠ .ptr id t p:=λh1 h2 h3 h4 h5=>⟨_,_,h1,h2,h3,h4,h5⟩
 have pi:∀{k:IntKind} {n:Int},Plain (.bY (.int k) n []):=trivial;have pb:∀{b:Bool},Plain (.bY .bool b []):=trivial;unfold zY at h;cases op
 case shl=>
  simp only at h;cases hd:decide (n<0) with
  |true=>rw[hd] at h;cases h
  |false=>rw[hd] at h;cases h;have:¬n<0:=of_decide_eq_false hd;exact done rfl (by simp [bQ,Op.shift,this]) pi (λ_ _=>rV) (by simp)
 case shr=>
  simp only at h;cases hd:decide (n<0) with
  |true=>rw[hd] at h;cases h
  |false=>rw[hd] at h;cases h;have:¬n<0:=of_decide_eq_false hd;exact done rfl (by simp [bQ,Op.shift,this]) pi (λ_ _=>rV) (by simp)
 all_goals
  simp only at h;split at h
  case isFalse=>cases h
  rename_i hk;subst hk
 case quo=>
  cases hd:decide (n=0) with
  |true=>rw[hd] at h;cases h
  |false=>rw[hd] at h;cases h;have:¬n=0:=of_decide_eq_false hd;exact done rfl (by simp [bQ,Op.intDiv,this]) pi (λ_ _=>rV) (by simp)
 case rem=>
  cases hd:decide (n=0) with
  |true=>rw[hd] at h;cases h
  |false=>rw[hd] at h;cases h;have:¬n=0:=of_decide_eq_false hd;exact done rfl (by simp [bQ,Op.intDiv,this]) pi (λ_ _=>rV) (by simp)
 case add=>cases h;exact done rfl (by simp [bQ,ln]) pi (λ_ _=>rV) (by simp)
 case sub=>cases h;exact done rfl (by simp [bQ,ln]) pi (λ_ _=>rV) (by simp)
 case mul=>cases h;exact done rfl (by simp [bQ,ln]) pi (λ_ _=>rV) (by simp)
 case and=>cases h;exact done rfl (by simp only[bQ,ne_eq,not_true_eq_false,if_false];rfl) pi (λ_ _=>rV) (by simp)
 case or=>cases h;exact done rfl (by simp only[bQ,ne_eq,not_true_eq_false,if_false];rfl) pi (λ_ _=>rV) (by simp)
 case xor=>cases h;exact done rfl (by simp only[bQ,ne_eq,not_true_eq_false,if_false];rfl) pi (λ_ _=>rV) (by simp)
 case andNot=>cases h;exact done rfl (by simp only[bQ,ne_eq,not_true_eq_false,if_false];rfl) pi (λ_ _=>rV) (by simp)
 case eql=>cases h;exact done rfl (by simp only[bQ,ne_eq,not_true_eq_false,if_false];rfl) pb (λ_ _=>wN) (by simp)
 case neq=>cases h;exact done rfl (by simp only[bQ,ne_eq,not_true_eq_false,if_false];rfl) pb (λ_ _=>wN) (by simp)
 case lss=>cases h;exact done rfl (by simp only[bQ,ne_eq,not_true_eq_false,if_false];rfl) pb (λ_ _=>wN) (by simp)
 case leq=>cases h;exact done rfl (by simp only[bQ,ne_eq,not_true_eq_false,if_false];rfl) pb (λ_ _=>wN) (by simp)
 case gtr=>cases h;exact done rfl (by simp only[bQ,ne_eq,not_true_eq_false,if_false];rfl) pb (λ_ _=>wN) (by simp)
 case geq=>cases h;exact done rfl (by simp only[bQ,ne_eq,not_true_eq_false,if_false];rfl) pb (λ_ _=>wN) (by simp)
end Go.Ref

namespace Go.Ref
open Go
variable {P:Program} {E:Env} {X:cc} {s:State} {a:Act} {o:Oper} {u:Out}
theorem YE(x y:af):(x.toList==y.toList)=decide (x=y):=by
 rw[lC,lC];by_cases h:x=y
 ·subst h;simp
 ·have:¬x.data.toList=y.data.toList:=λe=>h (by cases x;cases y;congr;exact Array.toList_inj.1 e)
  rw[beq_eq_false_iff_ne.2 this,decide_eq_false h]
theorem ait{op:BinOp}{T:TypeId}{m n:af}{l:List SV}(w:World)(h:zZ op m n some=some l):
 ∃sv v,l=[sv]/\(bQ op T (.string m) (.string n)).run P w= .ok v w/\Plain sv/\(∀X pl,cw X pl sv v)/\∀id t p,sv≠ .ptr id t p:=by
 have pb:∀{b:Bool},Plain (.bY .bool b []):=trivial;unfold zZ at h;cases op<;>simp only at h<;>first|(cases h;done)|skip
 case add=>
  cases hd:decide (m.size+n.size<=9223372036854775807) with
  |false=>rw[hd] at h;cases h
  |true=>
   rw[hd] at h;cases h;have h1:=of_decide_eq_true hd;have h2:¬((((m.size+n.size:Nat)):Int)>IntKind.i64.max):=by show¬((((m.size+n.size:Nat)):Int)>9223372036854775807);omega
   refine⟨_,_,rfl,?_,trivial,λ_ _=>Hr,by simp⟩;simp only[bQ,lr];rw[if_neg h2];rfl
 all_goals
  cases h;refine⟨_,_,rfl,?_,pb,λ_ _=>wN,by simp⟩;simp only[bQ,lr,YE];rfl
theorem zz3(hE:bO P E){T:TypeId}{t:Ty}(ht:E.ty T=some t)(w:World):(isAgg T).run P w= .ok t.agg w:=by
 have hu:=(hE.ty T t ht).me;cases t
 case bool=>simp [isAgg,run_underlying hu,Ty.agg]
 case int=>simp [isAgg,run_underlying hu,Ty.agg]
 case str=>simp [isAgg,run_underlying hu,Ty.agg]
 case sl=>simp [isAgg,run_underlying hu.1,Ty.agg]
 case arr=>obtain⟨e,h1,_⟩:=hu;simp [isAgg,run_underlying h1,Ty.agg]
 case unit=>obtain⟨fs,h1,_⟩:=hu;simp [isAgg,run_underlying h1,Ty.agg]
 case pair=>obtain⟨fs,h1,_⟩:=hu;simp [isAgg,run_underlying h1,Ty.agg]
 case dJ=>exact hu.elim
theorem uE(hE:bO P E){T:TypeId}{t:Ty}(ht:E.ty T=some t)(w:World):(sizeOf T).run P w= .ok t.cells w:=by obtain⟨i,h1,h2,_⟩:=(hE.ty T t ht).info;simp [sizeOf,typeInfo,h1,h2]
theorem J3(hE:bO P E){T:TypeId}{t:Ty}(ht:E.ty T=some t){x:El t}{cs:List Value}(hr:eI X t x cs){all:Array Value}{off:Nat}(ha:(all.toList.drop off).take t.cells=cs)(w:World):
 (part T all off).run P w= .ok (mW t cs) w:=by
 have hl:=hr.len;unfold part;simp only[ay,zz3 hE ht,aj];cases hg:t.agg with
 |true=>simp only[if_true,ay,uE hE ht,aj,aG,sw hg];congr 2;apply Array.ext';rw[<-ha,Array.toList_extract,List.extract_eq_take_drop];simp
 |false=>
  simp only[cK,if_false];have hc:t.cells=1:=by cases t<;>simp_all [Ty.agg,Ty.cells]
  rw[hc] at hl ha
  match cs,hl with
  | [c],_=>
    rw[TS hg];have jH:all[off]? =some c:=by
     have h1:(all.toList.drop off)[0]? =some c:=by have:=congrArg (λl=>l[0]?) ha;simpa [bq] using this
     simpa using h1
    simp [jH]
def Ug(d:Nat)(xs ys:Array Value)(f:Field)(_:ae Bool×Unit):Sem (ForInStep (ae Bool×Unit)):=
 if f.name≠ "_" then do
  let __do_lift<-part f.type xs f.offset;let __do_lift_1<-part f.type ys f.offset;let __do_lift<-dp d f.type __do_lift __do_lift_1
  if(!__do_lift)=true then pure (ForInStep.done (some false,()))
   else pure (kS (none,()))
 else pure (kS (none,()))
theorem zrj(hE:bO P E){d:Nat}{xs ys:Array Value}(w:World)
 (ih:∀(t:Ty) (T:TypeId),E.ty T=some t->t.depth<=d->∀(x y:El t) (c1 c2:List Value) (r:Bool),eI X t x c1->eI X t y c2->mH t x y=some r->(dp d T (mW t c1) (mW t c2)).run P w= .ok r w):
 ∀(fl:List Field) (t:Ty) (off:Nat),rW E fl t off->t.depth<=d+1->∀(x y:El t) (c1 c2:List Value) (r:Bool),eI X t x c1->eI X t y c2->(xs.toList.drop off).take t.cells=c1->(ys.toList.drop off).take t.cells=c2->mH t x y=some r->
  (forIn fl (none,()) (Ug d xs ys)).run P w= .ok (if r=true then(none,()) else(some false,())) w:=by
 intro fl
 induction fl with
 |nil=>
  intro t off hf hd x y c1 c2 r h1 h2 h3 h4 he;cases t<;>simp only[rW] at hf<;>try exact hf.elim
  simp only[mH,aC] at he;subst he;simp [List.forIn_nil]
 |cons f fl ihl=>
  intro t off hf hd x y c1 c2 r h1 h2 h3 h4 he;cases t<;>simp only[rW] at hf<;>try exact hf.elim
  rename_i ta tb;obtain⟨ho,KY,hn,fF⟩:=hf;obtain⟨ca,cb,e1,ra,rb⟩:=h1;obtain⟨da,db,e2,sa,sb⟩:=h2;simp only[mH] at he;split at he
  case h_2=>cases he
  rename_i p q hp hq;cases he;simp only[Ty.depth] at hd;have la:=ra.len;have lb:=rb.len;have ma:=sa.len;have mb:=sb.len;have t1:(xs.toList.drop off).take ta.cells=ca:=by have:=congrArg (λl=>l.take ta.cells) (h3.trans e1);simp only[lA,Ty.cells] at this;rw[bN (Nat.le_add_right _ _),<-la,eb] at this;rw[<-la];exact this
  have t2:(ys.toList.drop off).take ta.cells=da:=by have:=congrArg (λl=>l.take ta.cells) (h4.trans e2);simp only[lA,Ty.cells] at this;rw[bN (Nat.le_add_right _ _),<-ma,eb] at this;rw[<-ma];exact this
  have u1:(xs.toList.drop (off+ta.cells)).take tb.cells=cb:=by have:=congrArg (λl=>l.drop ta.cells) (h3.trans e1);simp only[Ty.cells] at this;rw[lz,cp,dL,<-la,gb] at this;rw[<-la];exact this
  have u2:(ys.toList.drop (off+ta.cells)).take tb.cells=db:=by have:=congrArg (λl=>l.drop ta.cells) (h4.trans e2);simp only[Ty.cells] at this;rw[lz,cp,dL,<-ma,gb] at this;rw[<-ma];exact this
  have xE:=J3 hE KY ra (all:=xs) (off:=f.offset) (by rw[ho];exact t1) w;have Iz:=J3 hE KY sa (all:=ys) (off:=f.offset) (by rw[ho];exact t2) w;have heq:=ih ta f.type KY (by omega) x.1 y.1 ca da p ra sa hp;have Oe:(Ug d xs ys f (none,())).run P w= .ok (if p=true then kS (none,()) else ForInStep.done (some false,())) w:=by unfold Ug;rw[if_pos hn];simp only[ay,xE,Iz,heq,aj];cases p<;>rfl
  rw[List.forIn_cons];simp only[ay,Oe,aj];cases p with
  |false=>rfl
  |true=>simp only[if_true,dW];exact ihl tb (off+ta.cells) fF (by omega) x.2 y.2 cb db q rb sb u1 u2 hq
theorem afT(hE:bO P E)(w:World){d n:Nat}{k:IntKind}{T e:TypeId}(ht:P.underlying T=some (.array n e))(he:E.ty e=some (.int k)){x y:List Int}{c1 c2:List Value}(r1:eI X (.arr n (.int k)) x c1)(r2:eI X (.arr n (.int k)) y c2):
 (dp (d+2) T (.agg c1.toArray) (.agg c2.toArray)).run P w= .ok (decide (x=y)) w:=by
 obtain⟨l1,m1,e1⟩:=r1;obtain⟨l2,m2,e2⟩:=r2;have l1:x.length=n:=l1;have l2:y.length=n:=l2;have key:decide (x=y)=(List.range n).all λi=>decide (x.getD i 0=y.getD i 0):=by
  by_cases G0:x=y
  ·rw[decide_eq_true G0];exact(aR.2 λi _=>by rw[G0];simp).symm
  ·rw[decide_eq_false G0];cases ha:(List.range n).all λi=>decide (x.getD i 0=y.getD i 0) with
   |false=>rfl
   |true=>refine absurd (List.ext_getElem (l1.trans l2.symm) λi h1 h2=> ?_) G0;have:=of_decide_eq_true (aR.1 ha i (List.mem_range.2 (by omega)));simpa [al,av h1,av h2] using this
 rw[key,List.range_eq_range',dp];simp only[ay,run_underlying ht,aj,uE hE he,Std.Legacy.Range.forIn_eq_forIn_range',Std.Legacy.Range.size,Nat.sub_zero,Nat.add_sub_cancel,Nat.div_one];have hl:∀i∈List.range' 0 n 1,i<n:=λi hi=>by simpa using(List.mem_range'_1.1 hi).2
 generalize List.range' 0 n 1=l at hl⊢
 induction l with
 |nil=>simp
 |cons i l ih=>
  have hi:i<n:=hl i (by simp);have g1:x[i]? =some (x.getD i 0):=by rw[al,av (by omega)];rfl
  have g2:y[i]? =some (y.getD i 0):=by rw[al,av (by omega)];rfl
  have p1:=e1 i (x.getD i 0) g1;have p2:=e2 i (y.getD i 0) g2;have px:=J3 hE he p1 (all:=c1.toArray) (off:=i*(Ty.int k).cells) rfl w;have py:=J3 hE he p2 (all:=c2.toArray) (off:=i*(Ty.int k).cells) rfl w;rw[uG p1] at px;rw[uG p2] at py;have pe:(dp (d+1) e (.int k (x.getD i 0)) (.int k (y.getD i 0))).run P w= .ok (decide (x.getD i 0=y.getD i 0)) w:=by have hu:P.underlying e=some (.int k):=(hE.ty e _ he).me;unfold dp;simp only[ay,run_underlying hu,aj,if_true,aG];rfl
  simp only[List.forIn_cons,ay,px,py,pe,aj,List.all_cons];cases hb:decide (x.getD i 0=y.getD i 0)
  ·simp
  ·simp only[Bool.not_true,cK,if_false,aG,aj,dW];exact ih λj hj=>hl j (by simp [hj])
theorem zyl(hE:bO P E)(w:World):∀(d:Nat) (t:Ty) (T:TypeId),E.ty T=some t->t.depth<=d->∀(x y:El t) (c1 c2:List Value) (r:Bool),eI X t x c1->eI X t y c2->mH t x y=some r->(dp d T (mW t c1) (mW t c2)).run P w= .ok r w:=by
 intro d
 induction d with
 |zero=>intro t T ht hd;cases t<;>simp only[Ty.depth] at hd<;>omega
 |succ d ih=>
  intro t T ht hd x y c1 c2 r h1 h2 he;have hu:=(hE.ty T t ht).me;cases t with
  |bool=>rw[Dd h1,Dd h2];simp only[mH,aC] at he;subst he;unfold dp;simp only[ay,run_underlying hu,aj,aG]
  |int k=>rw[uG h1,uG h2];simp only[mH,aC] at he;subst he;unfold dp;simp only[ay,run_underlying hu,aj,if_true,aG];rfl
  |str=>rw[wQ h1,wQ h2];simp only[mH,aC] at he;subst he;unfold dp;simp only[ay,run_underlying hu,aj,aG];rw[beq_toListBytes,YE]
  |sl e t=>simp [mH] at he
  |arr n t=>
   cases t<;>simp only[mH,aC,reduceCtorEq] at he;rename_i k;subst he;obtain⟨e,qO,rl,_⟩:=hu;obtain⟨d,rfl⟩:∃d',d=d'+1:=⟨d-1,by simp only[Ty.depth] at hd;omega⟩
   rw[sw rfl,sw rfl];exact afT hE w qO rl h1 h2
  |dJ _ _ _=>exact hu.elim
  |unit=>obtain⟨fs,qO,rl,UR,_⟩:=hu;rw[sw rfl,sw rfl];unfold dp;simp only[ay,run_underlying qO,aj,run_program,UR,cK,if_false];rw[<-Array.forIn_toList];have:=zrj (X:=X) hE (d:=d) (xs:=c1.toArray) (ys:=c2.toArray) w ih fs.toList .unit 0 rl hd x y c1 c2 r h1 h2 (by have:=h1.len;simp [Ty.cells] at this⊢;subst this;rfl) (by have:=h2.len;simp [Ty.cells] at this⊢;subst this;rfl) he;unfold Ug at this;rw[this];simp only[aj];cases r<;>rfl
  |pair ta tb=>obtain⟨fs,qO,rl,UR,_⟩:=hu;rw[sw rfl,sw rfl];unfold dp;simp only[ay,run_underlying qO,aj,run_program,UR,cK,if_false];rw[<-Array.forIn_toList];have:=zrj (X:=X) hE (d:=d) (xs:=c1.toArray) (ys:=c2.toArray) w ih fs.toList (.pair ta tb) 0 rl hd x y c1 c2 r h1 h2 (by have:=h1.len;simp only[aN];rw[<-this];exact cF) (by have:=h2.len;simp only[aN];rw[<-this];exact cF) he;unfold Ug at this;rw[this];simp only[aj];cases r<;>rfl
end Go.Ref

namespace Go.Ref
open Go
variable {P:Program} {tq:oK} {E:Env} {X:cc} {s:State} {a:Act} {o:Oper} {u:Out}
theorem ais(hE:bO P E){op:BinOp}{T:TypeId}{x y:SV}{vx vy:Value}{px py:List Nat->Place}{l:List SV}(w:World)(xo yo:Operand)(hx:cw X px x vx)(hy:cw X py y vy)(h:zX E op T x y some=some l):
 ∃b:Bool,l=bl b/\(eqGuard op T xo yo vx vy).run P w= .ok () w/\(bQ op T vx vy).run P w= .ok (.bool b) w:=by
 unfold zX at h;split at h
 case h_2=>cases h
 rename_i t ht;split at h
 ·cases h
 rename_i aan;obtain⟨m,h,hm⟩:=zz h;obtain⟨n,h,hn⟩:=zz h;split at h
 case h_2=>cases h
 rename_i r hr;obtain⟨c1,r1,e1⟩:=hm X px vx hx;obtain⟨c2,r2,e2⟩:=hn X py vy hy;have hd:t.depth<=10000:=by
  have:bn t.depth 1000=true:=by simpa using aan
  have:=ci this;omega
 have heq:=zyl hE w 10000 t T ht hd m n c1 c2 r r1 r2 hr;have hu:=(hE.ty T t ht).me;have hg:(eqGuard op T xo yo vx vy).run P w= .ok () w:=by
  cases t
  case bool=>rw[e1,e2,Dd r1,Dd r2];exact zoj ..
  case int=>rw[e1,e2,uG r1,uG r2];exact Ve ..
  case str=>rw[e1,e2,wQ r1,wQ r2];exact za1 ..
  case sl=>simp [mH] at hr
  case arr=>obtain⟨fs,_,_,hq⟩:=hu;rw[e1,e2,sw rfl,sw rfl];cases op<;>simp [eqGuard,hq]
  case dJ=>simp [mH] at hr
  all_goals
   obtain⟨fs,_,_,_,hq⟩:=hu;rw[e1,e2,sw rfl,sw rfl];cases op<;>simp [eqGuard,hq]
 split at h
 ·cases h;refine⟨r,rfl,hg,?_⟩;rw[e1,e2];cases t
  case int=>rw[uG r1,uG r2];simp only[mH,aC] at hr;subst hr;simp only[bQ,ne_eq,not_true_eq_false,if_false];rfl
  case str=>rw[wQ r1,wQ r2];simp only[mH,aC] at hr;subst hr;simp only[bQ,lr,YE];rfl
  case bool=>rw[Dd r1,Dd r2] at heq⊢;simp only[bQ,ay,kJ,lp,heq,aj,aG]
  case sl=>simp [mH] at hr
  case dJ=>simp [mH] at hr
  all_goals
   rw[sw rfl,sw rfl] at heq⊢;simp only[bQ,ay,kJ,lp,heq,aj,aG]
 ·cases h;refine⟨!r,rfl,hg,?_⟩;rw[e1,e2];cases t
  case int=>rw[uG r1,uG r2];simp only[mH,aC] at hr;subst hr;simp only[bQ,ne_eq,not_true_eq_false,if_false];rfl
  case str=>rw[wQ r1,wQ r2];simp only[mH,aC] at hr;subst hr;simp only[bQ,lr,YE];rfl
  case bool=>rw[Dd r1,Dd r2] at heq⊢;simp only[bQ,ay,kJ,lp,heq,aj,aG]
  case sl=>simp [mH] at hr
  case dJ=>simp [mH] at hr
  all_goals
   rw[sw rfl,sw rfl] at heq⊢;simp only[bQ,ay,kJ,lp,heq,aj,aG]
 ·cases h
theorem Vf(op:BinOp)(T:TypeId)(x y:Operand)(p q:ae Addr)(w:World):(eqGuard op T x y (.pointer p) (.pointer q)).run P w= .ok () w:=by cases op<;>simp [eqGuard]
theorem aiS(d:Nat){T e:TypeId}(hu:P.underlying T=some (.pointer e))(w:World)(ad:Addr):(dp (d+1) T (.pointer (some ad)) (.pointer none)).run P w= .ok false w:=by unfold dp;simp only[ay,run_underlying hu,aj,aG]
theorem aiR(d:Nat){T e:TypeId}(hu:P.underlying T=some (.pointer e))(w:World):(dp (d+1) T (.pointer none) (.pointer none)).run P w= .ok true w:=by unfold dp;simp only[ay,run_underlying hu,aj,aG];rfl
theorem zzl{t:Ty}{p:List Nat}{r:Nat}{v:Value}(h:(t.fG&& !t.nI)=false)(hv:wG t p r v):∃ad,v= .pointer (some ad):=by
 cases hs:t.fG with
 |false=>exact⟨_,((yU hs).1 hv).1⟩
 |true=>
  rw[hs,dW,Bool.not_eq_false'] at h;unfold Ty.nI at h;split at h
  ·exact⟨_,hv.1⟩
  ·cases h
theorem alu(hE:bO P E){op:BinOp}{T:TypeId}{x y:SV}{vx vy:Value}{px py:List Nat->Place}{u:Out}(w:World)(xo yo:Operand)(hx:cw X px x vx)(hy:cw X py y vy)(h:bin E op T x y (λv=>some ({v:=v}:Out))=some u):
 ∃sv v,u={v:=[sv]}/\(eqGuard op T xo yo vx vy).run P w= .ok () w/\(bQ op T vx vy).run P w= .ok v w/\(∀X pl,cw X pl sv v)/\∀id t p,sv≠ .ptr id t p:=by
 unfold bin at h;split at h
 ·rename_i k m o1 k' n o2;rw[Hh hx,Hh hy];obtain⟨l,h1,h2⟩:=sI znw h;obtain⟨sv,v,rfl,hv,_,hr,hp⟩:=znx (T:=T) w h1;cases h2;exact⟨sv,v,rfl,Ve ..,hv,hr,hp⟩
 ·rename_i m o1 n o2;rw[zhe hx,zhe hy];obtain⟨l,h1,h2⟩:=sI zny h;obtain⟨sv,v,rfl,hv,_,hr,hp⟩:=ait (T:=T) w h1;cases h2;exact⟨sv,v,rfl,za1 ..,hv,hr,hp⟩
 ·obtain⟨r,_,hpv⟩:=hx;have IG:vy= .pointer none:=hy;subst IG;split at h
  ·cases h
  rename_i tC;rw[Bool.not_eq_true,Bool.or_eq_false_iff,Bool.not_eq_false'] at tC;obtain⟨ad,rfl⟩:=zzl tC.1 hpv;obtain⟨e,hu⟩:=hE.pt T tC.2;have heq:∀ad,(kJ T (.pointer (some ad)) (.pointer none)).run P w= .ok false w:=λad=>aiS 9999 hu w ad;split at h
  ·cases h;exact⟨_,_,rfl,Vf ..,by(simp only[bQ,ay,heq,aj,aG];try rfl),λ_ _=>wN,by simp⟩
  ·cases h;exact⟨_,_,rfl,Vf ..,by(simp only[bQ,ay,heq,aj,aG];try rfl),λ_ _=>wN,by simp⟩
  ·cases h
 ·have GZ:vx= .pointer none:=hx;have IG:vy= .pointer none:=hy;subst GZ IG;split at h
  ·cases h
  rename_i tC;obtain⟨e,hu⟩:=hE.pt T (by simpa using tC);have heq:(kJ T (.pointer none) (.pointer none)).run P w= .ok true w:=aiR 9999 hu w;split at h
  ·cases h;exact⟨_,_,rfl,Vf ..,by(simp only[bQ,ay,heq,aj,aG];try rfl),λ_ _=>wN,by simp⟩
  ·cases h;exact⟨_,_,rfl,Vf ..,by(simp only[bQ,ay,heq,aj,aG];try rfl),λ_ _=>wN,by simp⟩
  ·cases h
 ·obtain⟨l,h1,h2⟩:=sI znv h;obtain⟨b,rfl,hg,hv⟩:=ais hE w xo yo hx hy h1;cases h2;exact⟨_,_,rfl,hg,hv,λ_ _=>wN,by simp⟩
theorem aiK(hE:bO P E)(hr:Rel tq X s a){ops:List Oper}{op:BinOp}{T T':TypeId}{x y:Operand}(ho:o.op= .binOp op T x y T'){C:FuncId->gK Out}(h:act E C ops o s some=some u):cQ P tq X s a o u:=by unfold act at h;simp only[ho] at h;obtain⟨sv,v,rfl,hg,hv,de,hp⟩:=alu hE X.w x y (hr.cP x) (hr.cP y) h;exact cQ.plain hr (by simp only[execOp,ho,ay,hg,hv,aj,aG]) (de _ _) (λid t p e=>absurd e (hp id t p)) (alY de)
end Go.Ref

namespace Go.Ref
open Go
variable {P:Program} {tq:oK} {E:Env} {X:cc} {s:State} {a:Act} {o:Oper} {u:Out}
theorem TJ(ad:Addr)(h:ad.spot=none)(m n:Nat):(ad.add m).add n=ad.add (m+n):=by unfold Addr.add;by_cases h1:m=0<;>by_cases h2:n=0<;>simp [h1,h2,l4]
theorem Hq{ad:Addr}(h:ad.spot=none)(m:Nat):(ad.add m).spot=none:=by
 unfold Addr.add;split
 ·exact h
 ·rfl
theorem q7(g i j:Nat):(⟨g,i,none⟩:Addr).add j=⟨g,i+j,none⟩:=by unfold Addr.add;split<;>simp_all
theorem z59:∀(t:Ty) (p q:List Nat) (u:Ty),t.at_ p=some u->t.off (p++q)=t.off p+u.off q:=by
 intro t
 induction t with
 |arr n t ih=>
  intro p q u h;cases p with
  |nil=>simp only[Ty.at_,aC] at h;subst h;simp [Ty.off]
  |cons i p=>simp only[Ty.at_] at h;simp only[gv,Ty.off,ih p q u h];omega
 |pair x y Oq Ot=>
  intro p q u h;cases p with
  |nil=>simp only[Ty.at_,aC] at h;subst h;simp [Ty.off]
  |cons i p=>
   cases i with
   |zero=>simp only[Ty.at_] at h;simp only[gv,Ty.off,Oq p q u h]
   |succ i=>simp only[Ty.at_] at h;have:=Ot (i::p) q u h;simp only[gv,Ty.off] at this⊢;omega
 |_=>
  intro p q u h;cases p with
  |nil=>simp only[Ty.at_,aC] at h;subst h;simp [Ty.off]
  |cons i p=>simp [Ty.at_] at h
theorem SG:∀(t:Ty) (p q:List Nat) (u:Ty),t.at_ p=some u->t.nH p->u.nH q->t.nH (p++q):=by
 intro t
 induction t with
 |arr n t ih=>
  intro p q u h hp hq;cases p with
  |nil=>simp only[Ty.at_,aC] at h;subst h;exact hq
  |cons i p=>exact⟨hp.1,ih p q u h hp.2 hq⟩
 |pair x y Oq Ot=>
  intro p q u h hp hq;cases p with
  |nil=>simp only[Ty.at_,aC] at h;subst h;exact hq
  |cons i p=>
   cases i with
   |zero=>exact Oq p q u h hp hq
   |succ i=>exact Ot (i::p) q u h hp hq
 |_=>
  intro p q u h hp hq;cases p with
  |nil=>simp only[Ty.at_,aC] at h;subst h;exact hq
  |cons i p=>simp [Ty.at_] at h
theorem getD_some{α:Type}{xs:List α}{i:Nat}(d:α)(h:i<xs.length):xs[i]? =some (xs.getD i d):=by simp [al,av h]
theorem TQ{X:cc}:∀{t:Ty} {p:List Nat} {x:El t} {cs:List Value} {u:Ty} {y:El u},eI X t x cs->t.nH p->El.get t p x=some ⟨u,y⟩->
 t.at_ p=some u/\t.off p+u.cells<=t.cells/\eI X u y ((cs.drop (t.off p)).take u.cells):=by
 intro t
 induction t with
 |arr n t ih=>
  intro p x cs u y hr hp h;cases p with
  |nil=>simp only[El.get,aC,eh] at h;obtain⟨rfl,h⟩:=h;cases h;refine⟨rfl,by simp [Ty.off],?_⟩;have:=hr.len;simp only[Ty.off,aN];rw[<-this,cF];exact hr
  |cons i p=>obtain⟨hi,hp⟩:=hp;obtain⟨h1,h2,h3⟩:=hr;simp only[El.get] at h;obtain⟨k1,k2,k3⟩:=ih (h3 i _ (getD_some (El.gG t) (by omega))) hp h;have hn:(i+1)*t.cells<=n*t.cells:=bB _ hi;rw[bL,ct] at hn;refine⟨k1,by simp only[Ty.off,Ty.cells];omega,?_⟩;simp only[Ty.off];rw[lz,lA,dL,bN (by omega)] at k3;exact k3
 |pair ta tb uZ u6=>
  intro p x cs u y hr hp h;cases p with
  |nil=>simp only[El.get,aC,eh] at h;obtain⟨rfl,h⟩:=h;cases h;refine⟨rfl,by simp [Ty.off],?_⟩;have:=hr.len;simp only[Ty.off,aN];rw[<-this,cF];exact hr
  |cons i p=>
   obtain⟨c1,c2,rfl,r1,r2⟩:=hr;have l1:=r1.len;have l2:=r2.len;cases i with
   |zero=>obtain⟨k1,k2,k3⟩:=uZ r1 hp h;refine⟨k1,by simp only[Ty.off,Ty.cells];omega,?_⟩;simp only[Ty.off];rw[dE (by omega),er (by rw[bF];omega)];exact k3
   |succ i=>obtain⟨k1,k2,k3⟩:=u6 r2 hp h;refine⟨k1,by simp only[Ty.off,Ty.cells];omega,?_⟩;simp only[Ty.off];rw[<-dL,<-l1,gb];exact k3
 |_=>
  intro p x cs u y hr hp h;cases p with
  |nil=>simp only[El.get,aC,eh] at h;obtain⟨rfl,h⟩:=h;cases h;refine⟨rfl,by simp [Ty.off],?_⟩;have:=hr.len;simp only[Ty.off,aN];rw[<-this,cF];exact hr
  |cons i p=>simp [El.get] at h
theorem TO:∀(fl:List Field) (t:Ty) (off j:Nat) (ft:Ty),rW E fl t off->t.lT=true->t.at_ [j]=some ft->∃f,fl[j]? =some f/\f.offset=off+t.off [j]/\E.ty f.type=some ft/\t.nH [j]:=by
 intro fl
 induction fl with
 |nil=>intro t off j ft hf hp h;cases t<;>simp [rW,Ty.lT] at hf hp
 |cons f fl ih=>
  intro t off j ft hf hp h;cases t<;>simp only[rW] at hf<;>try exact hf.elim
  rename_i ta tb;obtain⟨h1,h2,h3,h4⟩:=hf;cases j with
  |zero=>simp only[Ty.at_,aC] at h;subst h;exact⟨f,rfl,by simp [Ty.off,h1],h2,by simp [Ty.nH]⟩
  |succ j=>
   simp only[Ty.at_] at h;cases htb:tb.lT with
   |true=>obtain⟨g,g1,g2,g3,g4⟩:=ih tb (off+ta.cells) j ft h4 htb h;exact⟨g,g1,by simp only[Ty.off];omega,g3,g4⟩
   |false=>
    cases fl with
    |nil=>cases tb<;>simp [rW,Ty.at_] at h4 h
    |cons g fl=>cases tb<;>simp [rW,Ty.lT] at h4 htb
theorem z85(hE:bO P E){T:TypeId}{t:Ty}(ht:E.ty T=some t)(hp:t.lT=true):∃fs,P.underlying T=some (.struct fs)/\rW E fs.toList t 0:=by have hu:=(hE.ty T t ht).me;cases t<;>simp [Ty.lT] at hp;obtain⟨fs,h1,h2,_⟩:=hu;exact⟨fs,h1,h2⟩
theorem z73(hE:bO P E){f:Field}{ft:Ty}(hf:E.ty f.type=some ft)(hc:ft.cells≠0)(ad:Addr)(w:World):(fieldPlace ad f).run P w= .ok (ad.add f.offset) w:=by simp [fieldPlace,uE hE hf,hc]
theorem Ui:∀(t:Ty) (p:List Nat) (x:El t) (u:Ty) (y:El u),El.get t p x=some ⟨u,y⟩->t.at_ p=some u:=by
 intro t
 induction t with
 |arr n t ih=>
  intro p x u y h;cases p with
  |nil=>simp only[El.get,aC,eh] at h;rw[Ty.at_,h.1]
  |cons i p=>exact ih p _ u y h
 |pair a b uZ u6=>
  intro p x u y h;cases p with
  |nil=>simp only[El.get,aC,eh] at h;rw[Ty.at_,h.1]
  |cons i p=>
   cases i with
   |zero=>exact uZ p _ u y h
   |succ i=>exact u6 (i::p) _ u y h
 |_=>
  intro p x u y h;cases p with
  |nil=>simp only[El.get,aC,eh] at h;rw[Ty.at_,h.1]
  |cons i p=>simp [El.get] at h
theorem z159(hE:bO P E)(hr:Rel tq X s a){T:TypeId}{x:Operand}{j:Nat}{ta tb:Ty}(ho:o.op= .fieldAddr T x j)(hg:E.gr T=some (ta,tb))(h:LM (s.cP x) j ta tb some=some u):cQ P tq X s a o u:=by
 have hx:=hr.cP x;unfold LM at h;split at h
 case h_2=>cases h
 rename_i id c d e;rw[e] at hx;obtain⟨r,hb,hv,_⟩:=hx;split at h
 case isFalse=>cases h
 rename_i hcd;rw[ap] at hcd;have:=Ty.cT hcd.1;subst this;cases hj:bn j 2 with
 |false=>rw[hj] at h;cases h
 |true=>
  rw[hj] at h;cases h;have hj:=ci hj;obtain⟨fs,hu,hf⟩:=hE.gr T _ _ hg;obtain⟨f,i,g1,g2,g3,g4⟩:=hf j hj;refine cQ.plain hr (v:= .pointer (some ⟨r,vU c [j],none⟩)) ?_ ⟨r,hb,rfl,?_⟩ (λdX t' p' e'=> ?_)
  ·have hp:∀(ad:Addr) (w:World),(fieldPlace ad f).run P w= .ok (ad.add f.offset) w:=λad w=>by simp [fieldPlace,sizeOf,typeInfo,g3,g4]
   simp only[execOp,ho,ay,ka,run_underlying hu,aj,g1,hv,Instr.sureAddr,aG,hp];rw[q7,g2];simp [vU]
  ·match j,hj with
   |0,_=>simp [gIn,Ty.nH]
   |1,_=>trivial
   |2,_=>trivial
  ·injection e' with e1 e2 e3
   subst e1;exact A5 hr e
theorem ab2(hE:bO P E)(hr:Rel tq X s a){T:TypeId}{x:Operand}{j:Nat}{u0:Ty}{id:Nat}{t:Ty}{p:List Nat}(ho:o.op= .fieldAddr T x j)(hT:E.ty T=some u0)(e:s.cP x= .ptr id t p)(h:Lw u0 id t p j some=some u):cQ P tq X s a o u:=by
 have hx:=hr.cP x;rw[e] at hx;obtain⟨r,hb,hx⟩:=hx;unfold Lw at h;split at h
 case h_2=>cases h
 rename_i ta tb q;obtain⟨hv,lR⟩:=hx;have hv:a.eval x= .pointer (some ⟨r,ta.off q,none⟩):=hv;have lR:ta.nH q:=lR;split at h
 case h_2=>cases h
 rename_i u'' iC;split at h
 case isFalse=>cases h
 rename_i rJ;rw[ap] at rJ;obtain⟨heq,n4⟩:=rJ;have:=Ty.cT heq;subst this;split at h
 case h_2=>cases h
 rename_i ft KN;split at h
 ·cases h
 rename_i mO;cases h;have hc:ft.cells≠0:=λe=>mO (by rw[e];rfl);obtain⟨fs,qO,rl⟩:=z85 hE hT n4;obtain⟨f,g1,g2,g3,g4⟩:=TO fs.toList u0 0 j ft rl n4 KN;refine cQ.plain hr (v:= .pointer (some ⟨r,ta.off (q++ [j]),none⟩)) ?_ ⟨r,hb,rfl,SG ta q [j] u0 iC lR g4⟩ (λdX t' p' e'=> ?_)
 ·have qn:fs[j]? =some f:=by rw[<-bz];exact g1
  simp only[execOp,ho,ay,ka,run_underlying qO,aj,qn,hv,Instr.sureAddr,aG,z73 hE g3 hc];rw[q7,z59 ta q [j] u0 iC,g2,bK]
 ·injection e' with e1 e2 e3
  subst e1;exact A5 hr e
theorem zx4(hE:bO P E)(hr:Rel tq X s a){ops:List Oper}{T:TypeId}{x:Operand}{j:Nat}(ho:o.op= .fieldAddr T x j){C:FuncId->gK Out}(h:act E C ops o s some=some u):cQ P tq X s a o u:=by
 unfold act at h;simp only[ho] at h;have hx:=hr.cP x;split at h
 ·rename_i ta tb hg;exact z159 hE hr ho hg h
 unfold Uh at h;split at h
 ·rename_i t u' id root p hT e;rw[e] at hx;obtain⟨r,hb,hx⟩:=hx;split at h
  ·exact ab2 hE hr ho hT e h
  rename_i nm;have nm:root.fG=false:=by simpa using nm
  obtain⟨hv,lR⟩:=(yU nm).1 hx;split at h
  case h_2=>cases h
  rename_i u'' iC;split at h
  case isFalse=>cases h
  rename_i rJ;rw[ap] at rJ;obtain⟨heq,n4⟩:=rJ;have:=Ty.cT heq;subst this;split at h
  case h_2=>cases h
  rename_i ft KN;split at h
  ·cases h
  rename_i mO;cases h;have hc:ft.cells≠0:=λe=>mO (by rw[e];rfl);obtain⟨fs,qO,rl⟩:=z85 hE hT n4;obtain⟨f,g1,g2,g3,g4⟩:=TO fs.toList u' 0 j ft rl n4 KN;refine cQ.plain hr (v:= .pointer (some ⟨r,root.off (p++ [j]),none⟩)) ?_ ⟨r,hb,(yU nm).2 ⟨rfl,SG root p [j] u' iC lR g4⟩⟩ (λdX t' p' e'=> ?_)
  ·have qn:fs[j]? =some f:=by rw[<-bz];exact g1
   simp only[execOp,ho,ay,ka,run_underlying qO,aj,qn,hv,Instr.sureAddr,aG,z73 hE g3 hc];rw[q7,z59 root p [j] u' iC,g2,bK]
  ·injection e' with e1 e2 e3
   subst e1;exact A5 hr e
 ·rename_i t u' root y hT e;rw[e] at hx;obtain⟨ad,cs,hv,vp,de,np⟩:=hx;split at h
  case isFalse=>cases h
  rename_i rJ;rw[ap] at rJ;obtain⟨heq,n4⟩:=rJ;have:=Ty.cT heq;subst this;split at h
  case h_2=>cases h
  rename_i ft z KN;split at h
  ·cases h
  rename_i mO;cases h;have hc:ft.cells≠0:=λe=>mO (by rw[e];rfl);obtain⟨fs,qO,rl⟩:=z85 hE hT n4;have iC:u'.at_ [j]=some ft:=Ui u' [j] y ft z KN;obtain⟨f,g1,g2,g3,g4⟩:=TO fs.toList u' 0 j ft rl n4 iC;obtain⟨k1,k2,k3⟩:=TQ de g4 KN;refine cQ.plain hr (v:= .pointer (some (ad.add (u'.off [j])))) ?_ ⟨ad.add (u'.off [j]),_,rfl,Hq vp _,k3,λi v hi=> ?_⟩ (λdX t' p' e'=>by cases e')
  ·have qn:fs[j]? =some f:=by rw[<-bz];exact g1
   simp only[execOp,ho,ay,ka,run_underlying qO,aj,qn,hv,Instr.sureAddr,aG,z73 hE g3 hc];rw[g2,bK]
  ·rw[TJ _ vp];refine np _ v ?_;rw[bq] at hi;split at hi
   ·rw[bJ] at hi;exact hi
   ·cases hi
 ·cases h
end Go.Ref

namespace Go.Ref
open Go
variable {P:Program} {tq:oK} {E:Env} {X:cc} {s:State} {a:Act} {o:Oper} {u:Out}
theorem C7{R:Type}{i:Int}{n:Nat}{x:ae R}{z:R}(h:zd i n x=some z):0<=i/\i<(n:Int)/\x=some z:=by
 unfold zd at h;cases h1:decide (0<=i)<;>rw[h1] at h
 ·cases h
 ·cases h2:decide (i<(n:Int))<;>rw[h2] at h
  ·cases h
  ·exact⟨of_decide_eq_true h1,of_decide_eq_true h2,h⟩
theorem zsh{e:TypeId}{t:Ty}{xs:List (El t)}{cs:List Value}(h:eI X (.sl e t) xs cs):∃A c,mW (.sl e t) cs= .slice A xs.length c/\xs.length<=c/\
 ∀(j:Nat) x,xs[j]? =some x->∃ad nG,A=some ad/\ad.spot=none/\eI X t x nG/\∀(i:Nat) v,nG[i]? =some v->X.cn (ad.add (j*t.cells+i)) v:=by
 obtain⟨A,c,rfl,h1,h2⟩:=h;exact⟨A,c,rfl,h1,h2⟩
theorem eI.E3{e:TypeId}{t:Ty}{xs:List (El t)}{A:ae Addr}{n c:Nat}(hn:xs.length=n)(h1:n<=c)(h2:∀(j:Nat) x,xs[j]? =some x->∃ad nG,A=some ad/\ad.spot=none/\eI X t x nG/\∀(i:Nat) v,nG[i]? =some v->X.cn (ad.add (j*t.cells+i)) v):eI X (.sl e t) xs [.slice A n c]:=by subst hn;exact⟨A,c,rfl,h1,h2⟩
theorem zob{R:Type}{s:SV}{K:Int->ae R}{z:R}(h:s.num K=some z):∃n k,K n=some z/\∀(X:cc) pl v,cw X pl s v->v= .int k n:=by
 unfold SV.num at h;split at h
 ·rename_i k n w;refine⟨n,k,h,λX pl v hv=> ?_⟩;obtain⟨cs,h1,h2,_⟩:=hv;rw[h2,uG h1]
 ·cases h
theorem ab3(hE:bO P E)(hr:Rel tq X s a){T:TypeId}{x i:Operand}{m:Nat}{t:Ty}{n:Int}{ik:IntKind}{id:Nat}{root:Ty}{p:List Nat}(ho:o.op= .indexAddr T x i)(ei:a.eval i= .int ik n)(hT:E.ty T=some (.arr m t))(mG:s.cP x= .ptr id root p)(hx:cw X (E1 x) (.ptr id root p) (a.eval x))(h:LA m t n id root p some=some u):cQ P tq X s a o u:=by
 obtain⟨r,hb,hx⟩:=hx;unfold LA at h;split at h
 case h_2=>cases h
 rename_i ta tb q;obtain⟨hv,lR⟩:=hx;have hv:a.eval x= .pointer (some ⟨r,ta.off q,none⟩):=hv;have lR:ta.nH q:=lR;split at h
 case h_2=>cases h
 rename_i u'' iC;split at h
 case isFalse=>cases h
 rename_i heq;have:=Ty.cT heq;subst this;obtain⟨h0,h1,h⟩:=C7 h;cases h;obtain⟨e,qO,rl,_⟩:=(hE.ty T _ hT).me;have bR:n.toNat<m:=by omega
 refine cQ.plain hr (v:= .pointer (some ⟨r,ta.off (q++ [n.toNat]),none⟩)) ?_ ⟨r,hb,rfl,SG ta q [n.toNat] _ iC lR ⟨bR,by simp [Ty.nH]⟩⟩ (λdX t' p' e'=> ?_)
 ·simp only[execOp,ho,ay,gA,ei,hv,asIntOf,aG,aj,run_underlying qO,Instr.sureAddr,iF,h0,h1,and_self,if_true,uE hE rl];rw[q7,z59 ta q [n.toNat] _ iC];simp [Ty.off]
 ·injection e' with e1 e2 e3
  subst e1;exact A5 hr mG
theorem zx5(hE:bO P E)(hr:Rel tq X s a){ops:List Oper}{T:TypeId}{x i:Operand}(ho:o.op= .indexAddr T x i){C:FuncId->gK Out}(h:act E C ops o s some=some u):cQ P tq X s a o u:=by
 unfold act at h;simp only[ho] at h;have hx:=hr.cP x;have hi:=hr.cP i;unfold Uk at h;obtain⟨n,ik,h,hn⟩:=zob h;have ei:=hn X _ _ hi;split at h
 ·rename_i e t t' xs w hT mG;rw[mG] at hx;obtain⟨ys,h,Cw⟩:=zz h;obtain⟨h0,h1,h⟩:=C7 h;cases h;obtain⟨cs,uB,ev⟩:=Cw X (E1 x) _ hx.bare;obtain⟨A,c,hm,hle,oF⟩:=zsh uB;rw[hm] at ev;have bR:n.toNat<ag ys:=by omega
  obtain⟨ad,nG,rfl,vp,de,np⟩:=oF n.toNat _ (getD_some (El.gG t) bR);have hu:=(hE.ty T _ hT).me;refine cQ.plain hr (v:= .pointer (some (ad.add (n.toNat*t.cells)))) ?_ ⟨ad.add (n.toNat*t.cells),nG,rfl,Hq vp _,de,λj v hj=> ?_⟩ (λ_ _ _ e'=>by cases e')
  ·simp only[execOp,ho,ay,gA,ei,ev,asIntOf,aG,aj,run_underlying hu.1,iF,h0,h1,and_self,if_true,uE hE hu.2]
  ·rw[TJ _ vp];exact np j v hj
 ·rename_i m t id root p hT mG;rw[mG] at hx;obtain⟨r,hb,hx⟩:=hx;split at h
  ·exact ab3 hE hr ho ei hT mG ⟨r,hb,hx⟩ h
  rename_i nm;have nm:root.fG=false:=by simpa using nm
  obtain⟨hv,lR⟩:=(yU nm).1 hx;split at h
  case h_2=>cases h
  rename_i u'' iC;split at h
  case isFalse=>cases h
  rename_i heq;have:=Ty.cT heq;subst this;obtain⟨h0,h1,h⟩:=C7 h;cases h;obtain⟨e,qO,rl,_⟩:=(hE.ty T _ hT).me;have bR:n.toNat<m:=by omega
  refine cQ.plain hr (v:= .pointer (some ⟨r,root.off (p++ [n.toNat]),none⟩)) ?_ ⟨r,hb,(yU nm).2 ⟨rfl,SG root p [n.toNat] _ iC lR ⟨bR,by simp [Ty.nH]⟩⟩⟩ (λdX t' p' e'=> ?_)
  ·simp only[execOp,ho,ay,gA,ei,hv,asIntOf,aG,aj,run_underlying qO,Instr.sureAddr,iF,h0,h1,and_self,if_true,uE hE rl];rw[q7,z59 root p [n.toNat] _ iC];simp [Ty.off]
  ·injection e' with e1 e2 e3
   subst e1;exact A5 hr mG
 ·rename_i m t t' xs hT mG;rw[mG] at hx;obtain⟨ad,cs,hv,vp,de,np⟩:=hx;simp only[SV.el] at h;split at h
  case isFalse=>cases h
  rename_i heq;have:=Ty.cT heq;subst this;obtain⟨h0,h1,h⟩:=C7 h;cases h;obtain⟨e,qO,rl,_⟩:=(hE.ty T _ hT).me;obtain⟨l1,l2,l3⟩:=de;have bR:n.toNat<m:=by omega
  have KP:=l3 n.toNat _ (getD_some (El.gG t) (by omega));refine cQ.plain hr (v:= .pointer (some (ad.add (n.toNat*t.cells)))) ?_ ⟨ad.add (n.toNat*t.cells),_,rfl,Hq vp _,KP,λj v hj=> ?_⟩ (λ_ _ _ e'=>by cases e')
  ·simp only[execOp,ho,ay,gA,ei,hv,asIntOf,aG,aj,run_underlying qO,Instr.sureAddr,iF,h0,h1,and_self,if_true,uE hE rl]
  ·rw[TJ _ vp];refine np _ v ?_;rw[bq] at hj;split at hj
   ·rw[bJ] at hj;exact hj
   ·cases hj
 ·rename_i e0 t id r p hT mG;rw[mG] at hx;unfold SX at h;split at h
  case h_2=>cases h
  rename_i m ta tb;split at h
  case isFalse=>cases h
  rename_i heq;have:=Ty.cT heq;subst this;obtain⟨h0,h1,h⟩:=C7 h;cases h;obtain⟨r0,hb,cap,hv,vY⟩:=hx;have hu:=(hE.ty T _ hT).me;refine cQ.plain hr (v:= .pointer (some ⟨r0,n.toNat*ta.cells,none⟩)) ?_ ⟨r0,hb,rfl⟩ (λdX t' p' e'=> ?_)
  ·simp only[execOp,ho,ay,gA,ei,hv,asIntOf,aG,aj,run_underlying hu.1,iF,h0,h1,and_self,if_true,uE hE hu.2];rw[q7,bK]
  ·injection e' with e1 e2 e3
   subst e1;exact A5 hr mG
 ·rename_i id ta tb hT mG;rw[mG] at hx;obtain⟨r0,hb,hv,_⟩:=hx;split at h
  case isFalse=>cases h
  rename_i hga;obtain⟨h0,h1,h⟩:=C7 h;cases h;obtain⟨e,i',hu,Ez,lL⟩:=hE.ga T hga;have bR:n.toNat<2:=by omega
  refine cQ.plain hr (v:= .pointer (some ⟨r0,vU ta [1,n.toNat],none⟩)) ?_ ⟨r0,hb,rfl,bR⟩ (λdX t' p' e'=> ?_)
  ·have po:(sizeOf e).run P X.w= .ok 1 X.w:=by simp [sizeOf,typeInfo,Ez,lL]
   have h1':n<((2:Nat):Int):=h1;simp only[execOp,ho,ay,gA,ei,hv,asIntOf,aG,aj,run_underlying hu,Instr.sureAddr,iF,h0,h1',and_self,if_true,po];rw[q7,Nat.mul_one];rfl
  ·injection e' with e1 e2 e3
   subst e1;exact A5 hr mG
 ·cases h
theorem HB{pl:List Nat->Place}{t:Ty}{x:El t}{cs:List Value}(h:eI X t x cs):cw X pl (.bY t x []) (mW t cs):=⟨cs,h,rfl,vu⟩
theorem z194(hE:bO P E)(hr:Rel tq X s a){ops:List Oper}{T:TypeId}{x i:Operand}(ho:o.op= .index T x i){C:FuncId->gK Out}(h:act E C ops o s some=some u):cQ P tq X s a o u:=by
 unfold act at h;simp only[ho] at h;have hx:=hr.cP x;have hi:=hr.cP i;unfold Ul at h;obtain⟨n,ik,h,hn⟩:=zob h;have ei:=hn X _ _ hi;split at h
 ·rename_i hT;obtain⟨st,h,gy⟩:=zz h;obtain⟨h0,h1,h⟩:=C7 h;cases h;obtain⟨cs,ON,ev⟩:=gy X _ _ hx;rw[wQ ON] at ev;have hu:=(hE.ty T _ hT).me;have bR:n.toNat<st.size:=by omega
  refine cQ.plain hr (v:= .int .u8 (ze st n.toNat)) ?_ rV (λ_ _ _ e'=>by cases e');have jH:st[n.toNat]? =some (st[n.toNat]'bR):=getElem?_pos st n.toNat bR;simp only[execOp,ho,ay,Instr.index,ei,ev,asIntOf,aG,aj,run_underlying hu,h0,if_true,jH];simp [ze,bR]
 ·rename_i m t hT;obtain⟨ys,h,Cw⟩:=zz h;obtain⟨h0,h1,h⟩:=C7 h;cases h;obtain⟨cs,uB,ev⟩:=Cw X _ _ hx;rw[sw rfl] at ev;obtain⟨e,qO,rl,_⟩:=(hE.ty T _ hT).me;obtain⟨l1,l2,l3⟩:=uB;have bR:n.toNat<m:=by omega
  have KP:=l3 n.toNat _ (getD_some (El.gG t) (by omega));refine cQ.plain hr ?_ (HB KP) (λ_ _ _ e'=>by cases e');have hp:=J3 hE rl KP (all:=cs.toArray) (off:=n.toNat*t.cells) rfl X.w;simp only[execOp,ho,ay,Instr.index,ei,ev,asIntOf,aG,aj,run_underlying qO,h0,h1,and_self,if_true,uE hE rl,hp]
 ·cases h
theorem z193(hE:bO P E)(hr:Rel tq X s a){ops:List Oper}{T:TypeId}{x:Operand}{j:Nat}(ho:o.op= .field T x j){C:FuncId->gK Out}(h:act E C ops o s some=some u):cQ P tq X s a o u:=by
 unfold act at h;simp only[ho] at h;have hx:=hr.cP x;split at h
 case h_2=>cases h
 rename_i t hT;split at h
 ·cases h
 rename_i n4;have n4:t.lT=true:=by simpa using n4
 obtain⟨y,h,hy⟩:=zz h;split at h
 case h_2=>cases h
 rename_i ft z hg;cases h;obtain⟨cs,rep,ev⟩:=hy X _ _ hx;have Af:t.agg=true:=by cases t<;>simp_all [Ty.lT,Ty.agg]
 rw[sw Af] at ev;obtain⟨fs,qO,rl⟩:=z85 hE hT n4;obtain⟨f,g1,g2,g3,lR⟩:=TO fs.toList t 0 j ft rl n4 (Ui t [j] y ft z hg);obtain⟨k1,k2,k3⟩:=TQ rep lR hg;have qn:fs[j]? =some f:=by rw[<-bz];exact g1
 refine cQ.plain hr ?_ (HB k3) (λ_ _ _ e'=>by cases e');have hp:=J3 hE g3 k3 (all:=cs.toArray) (off:=f.offset) (by rw[g2,bK]) X.w;simp only[execOp,ho,ay,Instr.field,run_underlying qO,aj,qn,ev,asAgg,aG,hp]
theorem aiN(hE:bO P E)(hr:Rel tq X s a){ops:List Oper}{x:Operand}{T:TypeId}{mN:Array Operand}{ts:Array TypeId}(ho:o.op= .call ⟨.builtin .len,mN,ts⟩){C:FuncId->gK Out}(h:act E C ops o s some=some u):cQ P tq X s a o u:=by
 unfold act at h;simp only[ho] at h;split at h
 case h_2=>cases h
 rename_i x T AV Ia;have has:mN= #[x]:=by rw[<-bW (xs:=mN),AV]
 have tD:ts= #[T]:=by rw[<-bW (xs:=ts),Ia]
 subst has tD;have hx:=hr.cP x;unfold CA at h;split at h
 ·rename_i hT;obtain⟨st,h,gy⟩:=zz h;cases h;obtain⟨cs,ON,ev⟩:=gy X _ _ hx;rw[wQ ON] at ev;have hu:=(hE.ty T _ hT).me;refine cQ.plain hr (v:= .int .i64 st.size) ?_ rV (λ_ _ _ e'=>by cases e');simp [execOp,ho,resolve,invoke,builtin,kE,ev,run_underlying hu,goInt]
 ·rename_i e t hT;have hu:=(hE.ty T _ hT).me;split at h
  ·rename_i id n ta tb mG;cases h;rw[mG] at hx;obtain⟨r0,hb,cap,ev,vY⟩:=hx;refine cQ.plain hr (v:= .int .i64 n) ?_ rV (λ_ _ _ e'=>by cases e');simp [execOp,ho,resolve,invoke,builtin,kE,ev,run_underlying hu.1,goInt]
  ·obtain⟨xs,h,aaK⟩:=zz h;cases h;obtain⟨cs,IV,ev⟩:=aaK X _ _ hx;obtain⟨A,c,hm,_,_⟩:=zsh IV;rw[hm] at ev;refine cQ.plain hr (v:= .int .i64 (ag xs)) ?_ rV (λ_ _ _ e'=>by cases e');simp [execOp,ho,resolve,invoke,builtin,kE,ev,run_underlying hu.1,goInt]
 ·rename_i n t hT;cases h;obtain⟨e,qO,rl,_⟩:=(hE.ty T _ hT).me;refine cQ.plain hr (v:= .int .i64 n) ?_ rV (λ_ _ _ e'=>by cases e');simp [execOp,ho,resolve,invoke,builtin,kE,run_underlying qO,goInt]
 ·cases h
theorem zyb(hr:Rel tq X s a){ops:List Oper}{g:Bool}{mN:Array Operand}{ts:Array TypeId}(ho:o.op= .call ⟨.builtin (if g then .max else .min),mN,ts⟩){C:FuncId->gK Out}(h:act E C ops o s some=some u):cQ P tq X s a o u:=by
 have key:∀x y,mN= #[x,y]->ti g (s.cP x) (s.cP y) some=some u->cQ P tq X s a o u:=by
  intro x y has h;subst has;have hx:=hr.cP x;have hy:=hr.cP y;unfold ti at h;split at h
  case h_2=>cases h
  rename_i k m _ k' n _ e1 e2;rw[e1] at hx;rw[e2] at hy;have vx:=Hh hx;have vy:=Hh hy;cases h;refine cQ.plain hr (v:= .int k (bif g then(if(m:Int)<n then n else m) else(if(n:Int)<m then n else m))) ?_ rV (λ_ _ _ e'=>by cases e');cases g
  ·simp [execOp,ho,resolve,invoke,builtin,Builtin.min_,Builtin.min2,vx,vy]
  ·simp [execOp,ho,resolve,invoke,builtin,Builtin.max_,Builtin.max2,vx,vy]
 unfold act at h;cases g with
 |true=>
  simp only[ho,if_true] at h;split at h
  ·rename_i x y e;exact key x y (by rw[<-bW (xs:=mN),e]) h
  ·cases h
 |false=>
  simp only[ho,cK,if_false] at h;split at h
  ·rename_i x y e;exact key x y (by rw[<-bW (xs:=mN),e]) h
  ·cases h
theorem alC(hr:Rel tq X s a){ops:List Oper}{op:UnOp}{T:TypeId}{x:Operand}(ho:o.op= .unOp op T x){C:FuncId->gK Out}(h:act E C ops o s some=some u):cQ P tq X s a o u:=by
 unfold act at h;simp only[ho] at h;have hx:=hr.cP x;unfold OR at h;split at h
 ·rename_i b w e;rw[e] at hx;cases h;refine cQ.plain hr (v:= .bool (!b)) ?_ wN (λ_ _ _ e'=>by cases e');simp [execOp,ho,Su hx,Op.unary]
 ·rename_i k n w e;rw[e] at hx;cases h;refine cQ.plain hr (v:= .int k (k.wrap (0-n))) ?_ rV (λ_ _ _ e'=>by cases e');simp [execOp,ho,Hh hx,Op.unary,ln]
 ·cases h
theorem abM(hr:Rel tq X s a){ops:List Oper}{x:Operand}(ho:o.op= .nilCheck x){C:FuncId->gK Out}(h:act E C ops o s some=some u):cQ P tq X s a o u:=by
 unfold act at h;simp only[ho] at h;have hx:=hr.cP x;split at h
 ·rename_i id t p e;rw[e] at hx;split at h
  ·cases h
  rename_i nm;have nm:(t.fG&& !t.nI)=false:=by simpa using nm
  cases h;obtain⟨r,h1,hx⟩:=hx;obtain⟨ad,h2⟩:=zzl nm hx;refine cQ.plain hr (v:= .pointer (some ad)) ?_ ⟨r,h1,h2▸hx⟩ (λdX t' p' e'=> ?_)
  ·simp [execOp,ho,h2]
  ·injection e' with e1 e2 e3
   subst e1;exact A5 hr e
 ·rename_i t y e;rw[e] at hx;cases h;obtain⟨ad,cs,h1,h2⟩:=hx;refine cQ.plain hr (v:= .pointer (some ad)) ?_ ⟨ad,cs,rfl,h2⟩ (λ_ _ _ e'=>by cases e');simp [execOp,ho,h1]
 ·cases h
theorem ab1(hr:Rel tq X s a){ops:List Oper}{x:Operand}{j:Nat}(ho:o.op= .extract x j){C:FuncId->gK Out}(h:act E C ops o s some=some u):cQ P tq X s a o u:=by
 unfold act at h;simp only[ho] at h;split at h
 case h_2=>cases h
 rename_i t;have hs:=hr.slot t;split at h
 ·rename_i hlen;split at h
  case h_2=>cases h
  rename_i Cm;cases h;have UN:=hr.cP (.tmp t);rw[show s.cP (.tmp t)=SV.over from Cm] at UN;have UN:a.eval (.tmp t)= .tuple #[.bool false]:=UN;refine cQ.plain hr (v:= .bool false) ?_ wN (λ_ _ _ e'=>by cases e');simp [execOp,ho,UN,Instr.extract]
 rename_i hlen;have GJ:(s.slot t).length≠1:=λe=>hlen (by rw[e];rfl);have IF:∃vs:Array Value,a.tmps.getD t aW= .tuple vs/\vs.size=(s.slot t).length/\∀(j:Nat) sv v,(s.slot t)[j]? =some sv->vs[j]? =some v->cw X (.c t j) sv v:=by
  match hm:s.slot t with
  | [sv]=>rw[hm] at GJ;exact absurd rfl GJ
  | []=>rw[hm] at hs;exact hs
  |_::_::_=>rw[hm] at hs;exact hs
 obtain⟨vs,h1,h2,h3⟩:=IF;have dK:∀v,vs[j]? =some v->(execOp a.eval o).run P X.w= .ok (.value v) X.w:=by intro v hv;simp only[execOp,ho,Act.eval,h1,ay,Instr.extract,hv,aG,aj]
 have hv:∀sv,(s.slot t)[j]? =some sv->∃v,vs[j]? =some v:=by intro sv sD;have:=(aA.1 sD).1;exact⟨_,bh (by omega)⟩
 split at h
 ·rename_i ut y w e;cases h;obtain⟨v,hv⟩:=hv _ e;cases w with
  |nil=>exact cQ.plain hr (dK v hv) (h3 j _ v e hv).bare (λ_ _ _ h=>by cases h)
  |cons p w=>exact cQ.G5 hr (dK v hv) (h3 j _ v e hv)
 ·cases h
 ·cases h
 ·rename_i sv h4 h5 h6 e;cases h;obtain⟨v,hv⟩:=hv _ e;have oP:Plain sv:=by
   cases sv with
   |bY ut y w=>exact(h4 ut y w rfl).elim
   |fc id c b n=>first|exact(h5 id c b n rfl).elim|exact(h6 id c b n rfl).elim
   |_=>trivial
  refine cQ.plain hr (dK v hv) ((h3 j _ v e hv).place oP) (λid ty p e'=> ?_) oP.xK
  ·by_cases bR:t<s.sl.length
   ·refine hr.live t _ id ty p (yX bR) ?_;rw[<-e'];exact aL e
   ·have:s.slot t=[.undef]:=by simp [State.slot,aS (eM bR)]
    rw[this] at GJ;exact absurd rfl GJ
 ·cases h
end Go.Ref

namespace Go.Ref
open Go
variable {P:Program} {tq:oK} {E:Env} {X:cc} {s:State} {a:Act} {o:Oper} {u:Out}
def xd(v:ae SV)(n:Nat)(d:Nat):Prop:=match v with
 |none=>n=d
 |some v=>∀(X:cc) pl val,cw X pl v val->val= .int .i64 (n:Int)
theorem P8{l:Int}{m:Nat}(h1:0<=l)(h2:l<=(m:Int)):l.toNat<=m:=by omega
theorem zsn{l:Int}(h1:0<=l):((l.toNat:Nat):Int)=l:=by omega
theorem zae{R:Type}{lo:ae SV}{m:Nat}{G:Nat->ae R}{z:R}(h:Fu lo m G=some z):∃l,G l=some z/\l<=m/\xd lo l 0:=by
 unfold Fu at h;cases lo with
 |none=>exact⟨0,h,bS _,rfl⟩
 |some v=>
  obtain⟨l,h,hl⟩:=zz h;cases h1:decide (0<=l)<;>rw[h1] at h
  ·cases h
  ·cases h2:decide (l<=(m:Int))<;>rw[h2] at h
   ·cases h
   ·have h1:=of_decide_eq_true h1;have h2:=of_decide_eq_true h2;refine⟨l.toNat,h,P8 h1 h2,λX pl val hv=> ?_⟩;obtain⟨cs,r,e⟩:=hl X pl val hv;rw[e,uG r,zsn h1]
theorem zre{R:Type}{lo hi:ae SV}{n:Nat}{F:Nat->Nat->ae R}{z:R}(h:cutAt lo hi n F=some z):∃l m,F l m=some z/\l<=m/\m<=n/\xd lo l 0/\xd hi m n:=by
 unfold cutAt at h;cases hi with
 |none=>obtain⟨l,h1,h2,h3⟩:=zae h;exact⟨l,n,h1,h2,aZ _,h3,rfl⟩
 |some v=>
  obtain⟨m,h,hm⟩:=zz h;cases h1:decide (0<=m)<;>rw[h1] at h
  ·cases h
  ·cases h2:decide (m<=(n:Int))<;>rw[h2] at h
   ·cases h
   ·have h1:=of_decide_eq_true h1;have h2:=of_decide_eq_true h2;have h:Fu lo (Int.toNat m) (λl=>F l (Int.toNat m))=some z:=h;obtain⟨l,g1,g2,g3⟩:=zae h;refine⟨l,m.toNat,g1,g2,P8 h1 h2,g3,λX pl val hv=> ?_⟩;obtain⟨cs,r,e⟩:=hm X pl val hv;rw[e,uG r,zsn h1]
theorem xd.val(hr:Rel tq X s a){x:ae Operand}{n d:Nat}(h:xd (x.map s.cP) n d):(x=none/\n=d)\/x.map a.eval=some (.int .i64 (n:Int)):=by
 cases x with
 |none=>exact .inl ⟨rfl,h⟩
 |some x=>exact .inr (by rw[Option.map_some,h X _ _ (hr.cP x)])
theorem zcu(hr:Rel tq X s a){isS:Bool}{lo hi:ae Operand}{l m n c:Nat}(hl:xd (lo.map s.cP) l 0)(hm:xd (hi.map s.cP) m n)(h1:l<=m)(h2:m<=n)(h3:n<=c)(w:World):
 (fQ isS n c (lo.map a.eval) (hi.map a.eval) none).run P w= .ok (l,m,c) w:=by
 have sb:∀(i y:Nat) (code:BoundsCode),i<=y->(Instr.sliceBound (.int .i64 (i:Int)) y code).run P w= .ok i w:=by intro i y code h;rw[run_sliceBound (P:=P) (w:=w) .i64 (i:Int) y code (by omega) (by omega)];simp
 rcases hl.val hr with⟨rfl,rfl⟩|hl<;>rcases hm.val hr with⟨rfl,rfl⟩|hm
 ·simp [fQ]
 ·simp [fQ,hm,sb m c _ (by omega)]
 ·simp [fQ,hl,sb l m _ h1]
 ·simp [fQ,hl,hm,sb l m _ h1,sb m c _ (by omega)]
theorem afM(hE:bO P E)(hr:Rel tq X s a){T:TypeId}{x:Operand}{lo hi:ae Operand}(ho:o.op= .slice T x lo hi none)(h:Ab E T (s.cP x) (lo.map s.cP) (hi.map s.cP) some=some u):cQ P tq X s a o u:=by
 have hx:=hr.cP x;unfold Ab at h;split at h
 ·rename_i hT;obtain⟨st,h,gy⟩:=zz h;obtain⟨l,m,h,h1,h2,hl,hm⟩:=zre h;cases h;obtain⟨cs,ON,ev⟩:=gy X _ _ hx;rw[wQ ON] at ev;have hu:=(hE.ty T _ hT).me;refine cQ.plain hr (v:= .string (st.extract l m)) ?_ Hr (λ_ _ _ e'=>by cases e');simp only[execOp,ho,ay,Instr.sliceAt,run_underlying hu,aj,Instr.slice,ev,Option.map_none,Option.isSome_none,cK,if_false,zcu hr hl hm h1 h2 (aZ _),aG]
 ·rename_i e t hT;obtain⟨xs,h,AV⟩:=zz h;obtain⟨l,m,h,h1,h2,hl,hm⟩:=zre h;cases h;obtain⟨cs,IV,ev⟩:=AV X _ _ hx;obtain⟨A,c,qo,hle,oF⟩:=zsh IV;rw[qo] at ev;have hu:=(hE.ty T _ hT).me;have hlen:((aJ m xs).drop l).length=m-l:=by rw[bF,aU,bN h2]
  refine cQ.plain hr (v:= .slice (if c=l then A else A.map (·.add (l*t.cells))) (m-l) (c-l)) ?_ ⟨_,eI.E3 (A:=if c=l then A else A.map (·.add (l*t.cells))) (n:=m-l) (c:=c-l) hlen (by omega) (λj y hj=> ?_),rfl,vu⟩ (λ_ _ _ e'=>by cases e')
  ·simp only[execOp,ho,ay,Instr.sliceAt,run_underlying hu.1,aj,Instr.slice,ev,Option.map_none,zcu hr hl hm h1 h2 hle,aG,uE hE hu.2]
  ·have Ce:=(aA.1 hj).1;rw[hlen] at Ce;have GG:xs[l+j]? =some y:=by rw[bJ,bq,if_pos (by omega)] at hj;exact hj
   obtain⟨ad,nG,rfl,vp,de,np⟩:=oF (l+j) y GG;rw[if_neg (by omega)];refine⟨ad.add (l*t.cells),nG,rfl,Hq vp _,de,λi v hi=> ?_⟩;rw[TJ _ vp,<-l4,<-bL];exact np i v hi
 ·cases h
theorem adl(hE:bO P E)(hr:Rel tq X s a){S T:TypeId}{x:Operand}(ho:o.op= .convert S T x)(h:ug E S T (s.cP x) some=some u):cQ P tq X s a o u:=by
 have hx:=hr.cP x;unfold ug at h;split at h
 ·rename_i k k' hS hT;obtain⟨n,h,hn⟩:=zz h;cases h;obtain⟨cs,rn,ev⟩:=hn X _ _ hx;rw[uG rn] at ev;have hu:=(hE.ty S _ hS).me;have hv:=(hE.ty T _ hT).me;refine cQ.plain hr (v:= .int k' (k'.wrap n)) ?_ rV (λ_ _ _ e'=>by cases e');simp [execOp,ho,ev,convert,run_underlying hu,run_underlying hv,Conv.intToInt]
 ·rename_i hS hT;obtain⟨st,h,gy⟩:=zz h;cases h;obtain⟨cs,rn,ev⟩:=gy X _ _ hx;rw[wQ rn] at ev;have hu:=(hE.ty S _ hS).me;have hv:=(hE.ty T _ hT).me;refine cQ.plain hr (v:= .string st) ?_ Hr (λ_ _ _ e'=>by cases e');simp [execOp,ho,ev,convert,run_underlying hu,run_underlying hv]
 ·rename_i e hS hT;obtain⟨xs,h,AV⟩:=zz h;cases h;obtain⟨cs,IV,ev⟩:=AV X _ _ hx;obtain⟨A,c,qo,hle,oF⟩:=zsh IV;rw[qo] at ev;have hu:=(hE.ty S _ hS).me;have he:=(hE.ty e _ hu.2).me;have hv:=(hE.ty T _ hT).me;refine cQ.plain hr (v:= .string (strOf xs)) ?_ Hr (λ_ _ _ e'=>by cases e');have key:(convert S T (.slice A (ag xs) c)).run P X.w= .ok (.string (strOf xs)) X.w:=by
   cases A with
   |none=>
    have Ck:xs=[]:=by
     cases xs with
     |nil=>rfl
     |cons y ys=>obtain⟨ad,_,h,_⟩:=oF 0 y rfl;cases h
    rw[run_convert_bytes_nil X.w S e hu.1 he _ _ T hv,Ck];rfl
   |some ad=>
    rw[run_convert_bytes_string X.w S T e _ _ c hu.1 he hv];have s4:(loadCells ad (ag xs)).run P X.w= .ok (List.map (Value.int .u8) xs).toArray X.w:=by
     have:=run_loadCells_list (P:=P) X.w ad (List.map (Value.int .u8) xs) (λj v hj=>by obtain⟨y,hy,rfl⟩:=aP .. ▸hj|>ax.1;obtain⟨yJ,nG,h1,vp,de,np⟩:=oF j y hy;cases h1;have hc:nG=[.int .u8 y]:=de;have:=np 0 (.int .u8 y) (by rw[hc];rfl);have h2:=this.2.1;simpa [Ty.cells] using h2)
     rw[List.length_map] at this;exact this
    rw[run_bytesToString X.w ad _ c xs s4,foldl_push_bytes];simp [strOf,ByteArray.empty,iY];rfl
  simp only[execOp,ho,ay,ev,key,aj,aG]
 ·cases h
def cc.new(X:cc)(cs:Array Value)(T:TypeId)(w:Ow)(β:Nat->ae Nat):cc:={w:=X.w.alloc (.cells cs T),ow:=λg=>if g=X.w.heap.size then w else X.ow g,β}
theorem SY(X:cc)(s:State)(cs:Array Value)(T:TypeId)(w:Ow)(β:Nat->ae Nat)(hβ0:β 0=X.β 0)(hβ:∀(id:Nat) B,s.bs[id]? =some (some B)->β id=X.β id):nO s X (X.new cs T w β) where
 size:=by simp [cc.new]
 os:=rfl
 tape:=rfl
 output:=rfl
 vR:=λg hg=>⟨by simp only[cc.new];rw[if_neg (by omega)],RowKit.Below.heap_alloc _ _ _ hg⟩
 β0:=hβ0
 β:=hβ
theorem SP(X:cc)(cs:Array Value)(T:TypeId)(w:Ow)(β:Nat->ae Nat):(X.new cs T w β).w.heap[X.w.heap.size]? =some (.cells cs T (0,0))/\(X.new cs T w β).ow X.w.heap.size=w:=⟨heap_alloc_new X.w _,by simp [cc.new]⟩
theorem SI(T:TypeId)(v:Value)(w:World):(newVar T v).run P w= .ok ⟨w.heap.size,0,none⟩ (w.alloc (.cells v.cells T)):=by simp [newVar,newRow]
theorem Rel.oq{Y:cc}(hr:Rel tq Y s a){d r:Nat}{B:fp}(hd:d<s.bs.length)(hb:s.bs[d]? =some none)(hβ:Y.β d=some r)(h:fq Y d r B):Rel tq Y (s.cG (some (d,B))) a where
 size:=hr.size
 pW:=by simpa [State.cG] using hr.pW
 gC:=hr.gC
 boxes:=λid B' nw=>by
  simp only[State.cG,az] at nw;by_cases e:d=id
  ·subst e;rw[if_pos rfl,if_pos hd] at nw;cases nw;exact⟨r,hβ,h⟩
  ·rw[if_neg e] at nw;exact hr.boxes id B' nw
 live:=λi l id t p hi hm=>by
  obtain⟨B',nw⟩:=hr.live i l id t p hi hm;simp only[State.cG,az];by_cases e:d=id
  ·subst e;rw[hb] at nw;cases nw
  ·rw[if_neg e];exact⟨B',nw⟩
 defers:=hr.defers
 fc:=hr.fc.cG (hr.fc.none λa b x own h=>by rw[hb] at h;cases h)
 km:=hr.km
theorem yV{d:Nat}{B:fp}(h:s.box d=some B):s.bs[d]? =some (some B):=by
 unfold State.box at h;rw[al] at h;cases hg:s.bs[d]? with
 |none=>rw[hg] at h;cases h
 |some x=>rw[hg] at h;simp at h;rw[h]
theorem zxm(hr:Rel tq X s a){x:Operand}{t:Ty}{R:Type}{K:El t->ae R}{z:R}(h:(s.cP x).el t K=some z){c:List (Nat×Nat)}(hc:c=src x\/((s.cP x).own=[]/\c=[])):
 ∃y,K y=some z/\∀q:List Nat->Place,∃Y cs,Y.w=X.w/\Ext X Y/\Rel tq Y (s.close c) a/\eI Y t y cs/\a.eval x=mW t cs/\eO Y q t y cs (s.cP x).own/\Y.β=X.β/\ng (s.close c) X Y/\uM X Y:=by
 have hx:=hr.cP x;cases hs:s.cP x with
 |bY t' y' w=>
  rw[hs] at hx h hc;simp only[SV.el] at h;split at h
  case isFalse=>cases h
  rename_i heq;have:=Ty.cT heq;subst this;refine⟨y',h,λq=> ?_⟩;have plain:w=[]->∃Y cs,Y.w=X.w/\Ext X Y/\Rel tq Y (s.close c) a/\eI Y t' y' cs/\a.eval x=mW t' cs/\eO Y q t' y' cs (SV.bY t' y' w).own/\Y.β=X.β/\ng (s.close c) X Y/\uM X Y:=by intro hw;subst hw;obtain⟨cs,h1,h2,_⟩:=hx;exact⟨X,cs,rfl,Ext.refl X,hr.close _,h1,h2,vu,rfl,ng.refl _ _,uM.refl X⟩
  rcases hc with hc|⟨hw,_⟩
  ·cases x with
   |tmp i=>obtain⟨Y,h1,h2,h3,⟨cs,h4,h5,h6⟩,h7,h8,h9⟩:=hr.take hx q;subst hc;exact⟨Y,cs,h1,h2,h3,h4,h5,h6,h7,h8,h9⟩
   |const v=>exact plain (zgl (show Hy v= .bY t' y' w from hs))
   |_=>simp [State.cP,State.EY,one] at hs
  ·exact plain hw
 |jR=>
  rw[hs] at hx h;cases t<;>simp only[SV.el] at h<;>try(cases h;done)
  rename_i e t;refine⟨[],h,λq=>⟨X,[.slice none 0 0],rfl,Ext.refl X,hr.close _,⟨none,0,rfl,aZ _,λj x hj=>by simp at hj⟩,hx,λp hp=> ?_,rfl,ng.refl _ _,uM.refl X⟩⟩;have hp:p=[]:=by simpa [SV.own] using hp
  subst hp;exact⟨e,t,[],_,by simp [Ty.nH],rfl,rfl,.inl ⟨rfl,rfl⟩⟩
 |_=>rw[hs] at h;simp [SV.el] at h
theorem cQ.oq{P:Program}(hr:Rel tq X s a){d:Nat}{T:TypeId}{t:Ty}{y:El t}{cs:List Value}{own:List (List Nat)}{c:List (Nat×Nat)}{W:cc}
 (nm:t.fG=false) (hd:o.dst=some d) (hb:s.bs[d+1]? =some none) (hW:W.w=X.w) (hX:Ext X W) (UP:Rel tq W (s.close c) a) (de:eI W t y cs)
 (gD:eO W (.b (d+1)) t y cs own)
 (dK:(execOp a.eval o).run P X.w= .ok (.value (.pointer (some ⟨X.w.heap.size,0,none⟩))) (X.w.alloc (.cells cs.toArray T))):cQ P tq X s a o {v:=[.ptr (d+1) t []],bx:=some (d+1,⟨t,y,own⟩),cl:=c}:=by
 let β:Nat->ae Nat:=λid=>if id=d+1 then some W.w.heap.size else W.β id;have bR:d+1<s.bs.length:=(aA.1 hb).1;have rI:(s.close c).bs[d+1]? =some none:=by rw[Fl];exact hb
 have hk:nO (s.close c) W (W.new cs.toArray T (.box (d+1)) β):=SY W _ _ _ _ _ (by show(if _ then _ else _)=_;rw[if_neg (by omega)]) (λid B hB=>by show(if id=d+1 then _ else _)=_;rw[if_neg (λe=>by rw[e,rI] at hB;cases hB)])
 obtain⟨n1,n2⟩:=SP W cs.toArray T (.box (d+1)) β;have fP:fq (W.new cs.toArray T (.box (d+1)) β) (d+1) W.w.heap.size ⟨t,y,own⟩:=
  ⟨n2,mA.of nm n1 (by simpa using de.bE (λ_ _=>hk.cn)) (by simpa using gD.lV hk)⟩
 have hβd:β (d+1)=some W.w.heap.size:=by show(if d+1=d+1 then _ else _)=_;rw[if_pos rfl]
 have nQ:=(UP.lV hk).oq (by rw[Fl];exact bR) rI hβd fP;refine⟨W.new cs.toArray T (.box (d+1)) β,.pointer (some ⟨X.w.heap.size,0,none⟩),.inl ?_,hX.trans hk.ext,?_⟩
 ·rw[dK];simp [cc.new,hW]
 ·rw[hd];refine nQ.put (λd' e=> ?_) (λid t' p hm=> ?_)
  ·cases e;refine⟨W.w.heap.size,hβd,(yU nm).2 ⟨?_,by simp [Ty.nH]⟩⟩;rw[hW];simp [Ty.off]
  ·have:id=d+1:=by have:=hm;simp at this;exact this.1
   subst this;exact⟨⟨t,y,own⟩,by simp [State.cG,az,Fl,bR]⟩
theorem V2(hE:bO P E){T:TypeId}{t:Ty}(ht:E.ty T=some t)(w:World):(zeroValue T).run P w= .ok (mW t (zo t)) w:=by obtain⟨i,h1,_,_,h2⟩:=(hE.ty T t ht).info;simp [zeroValue,typeInfo,h1,h2]
theorem zzb(X:cc)(pl:List Nat->Place):∀t:Ty,eO X pl t (El.gG t) (zo t) (Fm t):=by
 intro t
 induction t generalizing pl with
 |sl e t=>
  intro p hp;have hp:p=[]:=by simpa [Fm] using hp
  subst hp;exact⟨e,t,[],.slice none 0 0,by simp [Ty.nH],rfl,rfl,.inl ⟨rfl,rfl⟩⟩
 |pair ta tb uZ u6=>
  intro p hp;simp only[Fm,aT,bm,List.mem_filterMap] at hp;rcases hp with⟨q,hq,rfl⟩|⟨q,hq,he⟩
  ·obtain⟨e,t',xs,v,g0,g1,g2,g3⟩:=uZ (λq=>pl (0::q)) q hq;refine⟨e,t',xs,v,g0,g1,?_,g3⟩;have hl:=(aA.1 g2).1;simp only[Ty.off,zo];rw[bj hl];exact g2
  ·cases q with
   |nil=>simp [bump] at he
   |cons j q=>simp only[bump,aC] at he;subst he;obtain⟨e,t',xs,v,g0,g1,g2,g3⟩:=u6 (λq=>match q with| []=>pl []|j::q=>pl ((j+1)::q)) (j::q) hq;refine⟨e,t',xs,v,g0,g1,?_,g3⟩;simp only[Ty.off,zo];rw[bc (by rw[CQ];omega),CQ,cp];exact g2
 |_=>intro p hp;simp [Fm] at hp
theorem cQ.IK{P:Program}(hr:Rel tq X s a){d:Nat}{T e:TypeId}(hd:o.dst=some d)(hb:s.bs[d+1]? =some none)
 (dK:(execOp a.eval o).run P X.w= .ok (.value (.pointer (some ⟨X.w.heap.size,0,none⟩))) (X.w.alloc (.cells #[.pointer none,.slice none 0 0] T))):
 cQ P tq X s a o {v:=[.ptr (d+1) (.dJ (.sd T e) .unit .unit) []],bx:=some (d+1,⟨.dJ (.sd T e) .unit .unit,(⟨#[]⟩:af),[[]]⟩)}:=by
 let β:Nat->ae Nat:=λid=>if id=d+1 then some X.w.heap.size else X.β id;have bR:d+1<s.bs.length:=(aA.1 hb).1;have hk:nO s X (X.new #[.pointer none,.slice none 0 0] T (.box (d+1)) β):=SY X _ _ _ _ _ (by show(if _ then _ else _)=_;rw[if_neg (by omega)]) (λid B hB=>by show(if id=d+1 then _ else _)=_;rw[if_neg (λe=>by rw[e,hb] at hB;cases hB)])
 obtain⟨n1,n2⟩:=SP X #[.pointer none,.slice none 0 0] T (.box (d+1)) β;have fP:fq (X.new #[.pointer none,.slice none 0 0] T (.box (d+1)) β) (d+1) X.w.heap.size ⟨.dJ (.sd T e) .unit .unit,(⟨#[]⟩:af),[[]]⟩:=
  ⟨n2,⟨_,n1⟩,λ_=>⟨.slice none 0 0,⟨.inl n1,⟨rfl,.inl ⟨rfl,rfl⟩⟩,by simp [eN]⟩,λg hg=>by simp [eN] at hg⟩⟩
 have hβd:β (d+1)=some X.w.heap.size:=by show(if d+1=d+1 then _ else _)=_;rw[if_pos rfl]
 have nQ:=(hr.lV hk).oq bR hb hβd fP;refine⟨X.new #[.pointer none,.slice none 0 0] T (.box (d+1)) β,.pointer (some ⟨X.w.heap.size,0,none⟩),.inl dK,hk.ext,?_⟩;rw[hd];refine nQ.put (λd' e=> ?_) (λid t' p hm=> ?_)
 ·cases e;exact⟨X.w.heap.size,hβd,(S1 rfl).2 ⟨by simp [Ty.off],by simp [Ty.nH]⟩⟩
 ·have:id=d+1:=by have:=hm;simp at this;exact this.1
  subst this;exact⟨_,by simp [State.cG,az,bR];rfl⟩
theorem cQ.IL{P:Program}(hr:Rel tq X s a){d:Nat}{T:TypeId}{ta tb:Ty}(hd:o.dst=some d)(hb:s.bs[d+1]? =some none)
 (dK:(execOp a.eval o).run P X.w= .ok (.value (.pointer (some ⟨X.w.heap.size,0,none⟩))) (X.w.alloc (.cells (zo ta++ [Value.pointer none,Value.pointer none,Value.int .i64 0]).toArray T))):cQ P tq X s a o {v:=[.ptr (d+1) (.dJ .lh ta tb) []],bx:=some (d+1,⟨.dJ .lh ta tb,(El.gG ta,(none,none),(0:Int)),[]::tV⟩)}:=by
 let β:Nat->ae Nat:=λid=>if id=d+1 then some X.w.heap.size else X.β id;have bR:d+1<s.bs.length:=(aA.1 hb).1;have hk:nO s X (X.new (zo ta++ [Value.pointer none,Value.pointer none,Value.int .i64 0]).toArray T (.box (d+1)) β):=SY X _ _ _ _ _ (by show(if _ then _ else _)=_;rw[if_neg (by omega)]) (λid B hB=>by show(if id=d+1 then _ else _)=_;rw[if_neg (λe=>by rw[e,hb] at hB;cases hB)])
 obtain⟨n1,n2⟩:=SP X (zo ta++ [Value.pointer none,Value.pointer none,Value.int .i64 0]).toArray T (.box (d+1)) β;have fP:fq (X.new (zo ta++ [Value.pointer none,Value.pointer none,Value.int .i64 0]).toArray T (.box (d+1)) β) (d+1) X.w.heap.size ⟨.dJ .lh ta tb,(El.gG ta,(none,none),(0:Int)),[]::tV⟩:=
  ⟨n2,⟨_,n1⟩,λ_=>⟨zo ta,.pointer none,.pointer none,T,n1,(A3 X ta).bE (λ_ _=>hk.cn),rfl,rfl⟩⟩
 have hβd:β (d+1)=some X.w.heap.size:=by show(if d+1=d+1 then _ else _)=_;rw[if_pos rfl]
 have nQ:=(hr.lV hk).oq bR hb hβd fP;refine⟨X.new _ T (.box (d+1)) β,.pointer (some ⟨X.w.heap.size,0,none⟩),.inl dK,hk.ext,?_⟩;rw[hd];refine nQ.put (λd' e=> ?_) (λid t' p hm=> ?_)
 ·cases e;exact⟨X.w.heap.size,hβd,rfl,trivial⟩
 ·have:id=d+1:=by have:=hm;simp at this;exact this.1
  subst this;exact⟨⟨.dJ .lh ta tb,(El.gG ta,(none,none),(0:Int)),[]::tV⟩,by simp [State.cG,az,bR]⟩
theorem adg(hE:bO P E)(hr:Rel tq X s a){ops:List Oper}{T:TypeId}(ho:o.op= .alloc T){C:FuncId->gK Out}(h:act E C ops o s some=some u):cQ P tq X s a o u:=by
 unfold act at h;simp only[ho] at h;split at h
 case h_3=>cases h
 case h_2=>
  rename_i d hT hd;split at h
  ·rename_i ta tb Io;split at h
   case h_2=>cases h
   rename_i hb;cases h;obtain⟨i,h1,h2⟩:=hE.gz T ta tb Io;refine cQ.IL hr hd hb (T:=T) ?_;have hz:(zeroValue T).run P X.w= .ok (.agg (zo ta++ [Value.pointer none,Value.pointer none,Value.int .i64 0]).toArray) X.w:=by simp [zeroValue,typeInfo,h1,h2]
   simp only[execOp,ho,ay,mK,hz,aj,SI,aG];rfl
  split at h
  case h_2=>cases h
  rename_i e UH;split at h
  case h_2=>cases h
  rename_i hb;cases h;obtain⟨i,h1,h2⟩:=hE.bl T e UH;refine cQ.IK hr hd hb ?_;have hz:(zeroValue T).run P X.w= .ok (.agg #[.pointer none,.slice none 0 0]) X.w:=by simp [zeroValue,typeInfo,h1,h2]
  simp only[execOp,ho,ay,mK,hz,aj,SI,aG];rfl
 rename_i t d hT hd;split at h
 case h_2=>cases h
 rename_i hb;cases h;have de:=A3 X t;refine cQ.oq (T:=T) (cs:=zo t) (W:=X) (c:=[]) hr (hE.rB hT) hd hb rfl (Ext.refl X) hr de (zzb X _ t) ?_;simp only[execOp,ho,ay,mK,V2 hE hT,aj,SI,Da de,aG]
theorem aiL(hE:bO P E)(hr:Rel tq X s a){ops:List Oper}{T:TypeId}{x:Operand}(ho:o.op= .box T x){C:FuncId->gK Out}(h:act E C ops o s some=some u):cQ P tq X s a o u:=by
 unfold act at h;simp only[ho] at h;split at h
 case h_2=>cases h
 rename_i t d hT hd;split at h
 case h_2=>cases h
 rename_i hb;obtain⟨y,h,hy⟩:=zxm hr h (.inl rfl);cases h;obtain⟨W,cs,h1,h2,h3,h4,h5,h6,_,_,_⟩:=hy (.b (d+1));refine cQ.oq (T:=T) (cs:=cs) (W:=W) hr (hE.rB hT) hd hb h1 h2 h3 h4 h6 ?_;simp only[execOp,ho,ay,Instr.box,SI,aj,aG,h5,Da h4]
end Go.Ref

namespace Go.Ref
open Go
variable {P:Program} {tq:oK} {E:Env} {X:cc} {s:State} {a:Act} {o:Oper} {u:Out}
theorem Hj(hE:bO P E){T:TypeId}{t:Ty}(ht:E.ty T=some t){x:El t}{cs:List Value}(hr:eI X t x cs){ad:Addr}{w:World}(hc:∀(i:Nat) v,cs[i]? =some v->w.cell? (ad.add i)=some v):(loadVar T ad).run P w= .ok (mW t cs) w:=by
 have hl:=hr.len;unfold loadVar;simp only[ay,zz3 hE ht,aj];cases hg:t.agg with
 |true=>have:=run_loadCells_list (P:=P) w ad cs hc;rw[hl] at this;simp only[if_true,ay,uE hE ht,aj,this,aG,sw hg]
 |false=>
  have h1:t.cells=1:=by cases t<;>simp_all [Ty.agg,Ty.cells]
  rw[h1] at hl
  match cs,hl with
  | [c],_=>
    rw[TS hg];have:=hc 0 c rfl;have h0:ad.add 0=ad:=by simp [Addr.add]
    rw[h0] at this;simp only[cK,if_false,run_load,this]
theorem Hk{own:List (List Nat)}{p:List Nat}(h:pU own p=true):p∈own:=by unfold pU at h;obtain⟨q,hq,he⟩:=List.any_eq_true.1 h;rw[<-eq_of_beq he];exact hq
theorem zaf{own:List (List Nat)}{p q:List Nat}(h:q∈Fq own p):q∈own/\p.isPrefixOf q=false:=by unfold Fq at h;rw[bf] at h;exact⟨h.1,by simpa using h.2⟩
theorem TT{t:Ty}(h:t.fG=false):t.nI=false:=by cases t<;>first|rfl|cases h
theorem Rel.xK(hr:Rel tq X s a){id:Nat}{B:fp}(hb:s.bs[id]? =some (some B))(hg:B.t.nI=false\/ []∈B.own):∀(i:Nat) (l:List SV) a b j,s.sl[i]? =some l->SV.fc id a b j∈l->False:=hr.fc.none λc d x own h=>by rw[hb] at h;cases h;exact hg.resolve_left λe=>by cases e
theorem Rel.vf{Y:cc}(hr:Rel tq Y s a){id r:Nat}{B B':fp}(hb:s.bs[id]? =some (some B))(hβ:Y.β id=some r)(h:fq Y id r B')(hg:B.t.nI=false\/ []∈B.own):Rel tq Y (s.cG (some (id,B'))) a where
 size:=hr.size
 pW:=by simpa [State.cG] using hr.pW
 gC:=hr.gC
 boxes:=λdX B2 ll=>by
  have bR:id<s.bs.length:=(aA.1 hb).1;simp only[State.cG,az] at ll;by_cases e:id=dX
  ·subst e;rw[if_pos rfl,if_pos bR] at ll;cases ll;exact⟨r,hβ,h⟩
  ·rw[if_neg e] at ll;exact hr.boxes dX B2 ll
 live:=λi l dX t p hi hm=>by
  have bR:id<s.bs.length:=(aA.1 hb).1;obtain⟨B2,ll⟩:=hr.live i l dX t p hi hm;simp only[State.cG,az];by_cases e:id=dX
  ·subst e;exact⟨B',by rw[if_pos rfl,if_pos bR]⟩
  ·rw[if_neg e];exact⟨B2,ll⟩
 defers:=hr.defers
 fc:=hr.fc.cG (hr.fc.none λc d x own h=>by rw[hb] at h;cases h;exact hg.resolve_left λe=>by cases e)
 km:=hr.km
theorem Vr{id:Nat}{B B':fp}(hb:s.bs[id]? =some (some B)):(s.cG (some (id,B'))).bs[id]? =some (some B'):=by have bR:id<s.bs.length:=(aA.1 hb).1;simp [State.cG,az,bR]
theorem VR{r off i:Nat}{cs:Array Value}{T:TypeId}{w:World}(h:w.heap[r]? =some (.cells cs T (0,0))){k:Nat}{v:Value}(hv:((cs.toList.drop off).take k)[i]? =some v):w.cell? ((⟨r,off,none⟩:Addr).add i)=some v:=by
 rw[q7];rw[bq] at hv;split at hv
 ·rw[bJ] at hv;simpa [bT,h] using hv
 ·cases hv
theorem nY:∀(t:Ty) (p:List Nat) (u:Ty),t.at_ p=some u->t.nH p->t.off p+u.cells<=t.cells:=by
 intro t
 induction t with
 |arr n t ih=>
  intro p u h hp;cases p with
  |nil=>simp only[Ty.at_,aC] at h;subst h;simp [Ty.off]
  |cons i p=>have:=ih p u h hp.2;have hn:(i+1)*t.cells<=n*t.cells:=bB _ hp.1;rw[bL,ct] at hn;simp only[Ty.off,Ty.cells];omega
 |pair x y Oq Ot=>
  intro p u h hp;cases p with
  |nil=>simp only[Ty.at_,aC] at h;subst h;simp [Ty.off]
  |cons i p=>
   cases i with
   |zero=>have:=Oq p u h hp;simp only[Ty.off,Ty.cells];omega
   |succ i=>have:=Ot (i::p) u h hp;simp only[Ty.off,Ty.cells];omega
 |_=>
  intro p u h hp;cases p with
  |nil=>simp only[Ty.at_,aC] at h;subst h;simp [Ty.off]
  |cons i p=>simp [Ty.at_] at h
theorem am7{t:Ty}{p:List Nat}{e:TypeId}{t':Ty}(h:t.nH p)(iC:t.at_ p=some (.sl e t')):t.off p<t.cells:=by have:=nY t p _ iC h;simp only[Ty.cells] at this;omega
theorem adt:∀{t:Ty} {p q:List Nat} {x:El t} {u:Ty} {y:El u} {r:(u:Ty)×El u},El.get t p x=some ⟨u,y⟩->t.nH (p++q)->El.get t (p++q) x=some r->u.nH q/\El.get u q y=some r:=by
 intro t
 induction t with
 |arr n t ih=>
  intro p q x u y r h1 h2 h3;cases p with
  |nil=>simp only[El.get,aC,eh] at h1;obtain⟨rfl,h1⟩:=h1;cases h1;exact⟨h2,h3⟩
  |cons i p=>exact ih h1 h2.2 h3
 |pair ta tb uZ u6=>
  intro p q x u y r h1 h2 h3;cases p with
  |nil=>simp only[El.get,aC,eh] at h1;obtain⟨rfl,h1⟩:=h1;cases h1;exact⟨h2,h3⟩
  |cons i p=>
   cases i with
   |zero=>exact uZ h1 h2 h3
   |succ i=>exact u6 (p:=i::p) h1 h2 h3
 |_=>
  intro p q x u y r h1 h2 h3;cases p with
  |nil=>simp only[El.get,aC,eh] at h1;obtain⟨rfl,h1⟩:=h1;cases h1;exact⟨h2,h3⟩
  |cons i p=>simp [El.get] at h1
def cc.p9(X:cc)(id:Nat)(p:List Nat)(q:List Nat->Place):cc:=
 {X with ow:=λg=>match X.ow g with
  | .row (.b dX p') n=>if dX=id/\p.isPrefixOf p'=true then .row (q (p'.drop p.length)) n else .row (.b dX p') n
  |w=>w}
theorem zsq{s:State}{X:cc}{id:Nat}{p:List Nat}{q:List Nat->Place}(h:∀p',¬lv s (.b id (p++p'))):ng s X (X.p9 id p q):=by
 refine⟨rfl,rfl,λg=> ?_⟩;simp only[cc.p9];cases hg:X.ow g with
 |row pl n=>
  cases pl with
  |b dX p'=>
   by_cases e:dX=id/\p.isPrefixOf p'=true
   ·obtain⟨rfl,hp⟩:=e;obtain⟨r,rfl⟩:=gd.1 hp;exact .inr ⟨_,n,q r,rfl,h r,by simp⟩
   ·exact .inl (if_neg e)
  |_=>exact .inl rfl
 |_=>exact .inl rfl
theorem fa.yQ{X:cc}{id:Nat}{p r:List Nat}{q:List Nat->Place}{e:TypeId}{k n:Nat}{v:Value}(h:fa X (.b id (p++r)) e k n v):fa (X.p9 id p q) (q r) e k n v:=by
 rcases h with h|⟨g,cap,cur,h1,h2,h3,h4,h5,h6⟩
 ·exact .inl h
 ·exact .inr ⟨g,cap,cur,h1,h2,h3,h4,h5,by simp [cc.p9,h6]⟩
theorem Ki(hr:Rel tq X s a){id:Nat}{t b:Ty}{B:fp}(hB:s.box id=some B)(h:B.t.iS (.dJ .row t b)=true):s.bs[id]? =some (some B)/\∃r,X.β id=some r/\X.ow r= .box id/\∃cs T,X.w.heap[r]? =some (.cells cs T (0,0))/\cs.size=ag (Ty.cast h B.x:List (El t))*t.cells/\
 ∀(j:Nat) (x:El t),(Ty.cast h B.x:List (El t))[j]? =some x->eI X t x ((cs.toList.drop (j*t.cells)).take t.cells):=by
 have hb:=yV hB;obtain⟨r,h1,h2,h3⟩:=hr.boxes id B hb;refine⟨hb,r,h1,h2,?_⟩;obtain⟨bt,bx,bo⟩:=B;have e:=Ty.cT h;simp only at e;subst e;obtain⟨cs,T,g1,g2,g3⟩:=h3;exact⟨cs,T,g1,g2,g3⟩
theorem adk(hE:bO P E)(hr:Rel tq X s a){S T:TypeId}{x:Operand}(ho:o.op= .convert S T x){id n:Nat}{ta tb:Ty}(mG:s.cP x= .ptr id (.dJ (.rh n) ta tb) [])(h:sV E S T s id n ta tb some=some u):cQ P tq X s a o u:=by
 have hx:=hr.cP x;rw[mG] at hx;obtain⟨r0,hβ,cap,hv,vY⟩:=hx;unfold sV at h;split at h
 case h_2=>cases h
 rename_i e hS hT;split at h
 case isFalse=>cases h
 rename_i heq;have:=Ty.cT heq;subst this;split at h
 case h_2=>cases h
 rename_i B hB;split at h
 case isFalse=>cases h
 rename_i l8;obtain⟨hb,r,h1,h2,cs,T',cJ,lL,oF⟩:=Ki hr hB l8;rw[hβ] at h1;cases h1;generalize(Ty.cast l8 B.x:List Int)=xs at*;cases hn:ak n (ag xs) with
 |false=>rw[hn] at h;cases h
 |true=>
  rw[hn] at h;cases h;have hn:=aH hn;subst hn;have hu:=(hE.ty S _ hS).me;have he:=(hE.ty e _ hu.2).me;have hT:=(hE.ty T _ hT).me;refine cQ.plain hr (v:= .string (strOf xs)) ?_ Hr (λ_ _ _ e'=>by cases e');have key:(convert S T (.slice (some ⟨r0,0,none⟩) (ag xs) cap)).run P X.w= .ok (.string (strOf xs)) X.w:=by
   rw[run_convert_bytes_string X.w S T e _ _ cap hu.1 he hT];have s4:(loadCells ⟨r0,0,none⟩ (ag xs)).run P X.w= .ok (List.map (Value.int .u8) xs).toArray X.w:=by
    have:=run_loadCells_list (P:=P) X.w ⟨r0,0,none⟩ (List.map (Value.int .u8) xs) (λj v hj=>by obtain⟨y,hy,rfl⟩:=aP .. ▸hj|>ax.1;have hc:(cs.toList.drop (j*1)).take 1=[.int .u8 y]:=oF j y hy;have h0:=congrArg (λl=>l[0]?) hc;simp only[bq,bJ] at h0;simp only[Nat.zero_lt_one,if_true,Nat.mul_one,fj,bU] at h0;rw[q7,bK];simpa [bT,cJ] using h0)
    rw[List.length_map] at this;exact this
   rw[run_bytesToString X.w _ _ cap xs s4,foldl_push_bytes];simp [strOf,ByteArray.empty,iY];rfl
  simp only[execOp,ho,ay,hv,key,aj,aG]
theorem afK(hE:bO P E)(hr:Rel tq X s a){ops:List Oper}{S T:TypeId}{x:Operand}(ho:o.op= .convert S T x){C:FuncId->gK Out}(h:act E C ops o s some=some u):cQ P tq X s a o u:=by
 unfold act at h;simp only[ho] at h;split at h
 ·rename_i id n ta tb mG;exact adk hE hr ho mG h
 ·exact adl hE hr ho h
theorem Kf(hr:Rel tq X s a){id:Nat}{ta tb:Ty}{R:Type}{K:El (.dJ .lh ta tb)->List (List Nat)->ae R}{z:R}(h:xa s id ta tb K=some z):
 ∃(x:El (.dJ .lh ta tb)) (own:List (List Nat)) (r:Nat),s.bs[id]? =some (some ⟨.dJ .lh ta tb,x,own⟩)/\K x own=some z/\(∀p∈tV,p∈own)/\X.β id=some r/\X.ow r= .box id/\qA X r (.b id) ta tb x:=by
 unfold xa at h;split at h
 case h_2=>cases h
 rename_i B hB;split at h
 case isFalse=>cases h
 rename_i l8;have hb:=yV hB;obtain⟨bt,bx,bo⟩:=B;have e:=Ty.cT l8;simp only at e;subst e;cases ho:tV.all (pU bo) with
 |false=>simp only[ho] at h;cases h
 |true=>
  simp only[ho,cond_true] at h;have gD:∀p∈tV,p∈bo:=λp hp=>by
   have:=aR.1 ho p hp;unfold pU at this;obtain⟨q,h1,h2⟩:=List.any_eq_true.1 this;have:q=p:=by simpa using h2
   rw[<-this];exact h1
  obtain⟨r,h1,h2,h3⟩:=hr.boxes id _ hb;exact⟨bx,bo,r,hb,h,gD,h1,h2,h3.2 gD⟩
theorem zo5{w:World}{r k:Nat}{l:List Value}{T:TypeId}{v:Value}(h:w.heap[r]? =some (.cells l.toArray T (0,0)))(hv:l[k]? =some v):w.cell? ⟨r,k,none⟩=some v:=by simp only[bT,h];simpa using hv
theorem Rel.IQ(hr:Rel tq X s a){d:ae Nat}{id j:Nat}{ta tb:Ty}{x:El (.dJ .lh ta tb)}{own:List (List Nat)}{v:Value}(hb:s.bs[id]? =some (some ⟨.dJ .lh ta tb,x,own⟩))(ho: []∉own)
 (vn:∀(i:Nat) (l:List SV) a b j,s.sl[i]? =some l->SV.fc id a b j∈l->False) (hv:∀pl,cw X pl (.fc id ta tb j) v):Rel tq X (s.b7 d [.fc id ta tb j]) (a.put d v):=by
 cases d with
 |none=>exact hr
 |some d=>
  have nr:∀(i:Nat) (l:List SV),(s.b7 (some d) [.fc id ta tb j]).sl[i]? =some l->(i=d/\l=[.fc id ta tb j])\/(i≠d/\s.sl[i]? =some l):=λi l hi=>by
   simp only[State.b7,az] at hi;by_cases e:d=i
   ·rw[if_pos e] at hi;split at hi
    ·cases hi;exact .inl ⟨e.symm,rfl⟩
    ·cases hi
   ·rw[if_neg e] at hi;exact .inr ⟨λh=>e h.symm,hi⟩
  refine⟨by simpa [State.b7,Act.put] using hr.size,by simpa [State.b7] using hr.pW,λi l v' hi rL=> ?_,hr.boxes,λi l dX t p hi hm=> ?_,hr.defers,λi l dX a' b' j' hi hm=> ?_,hr.km⟩
  ·simp only[Act.put,di] at rL;rcases nr i l hi with⟨rfl,rfl⟩|⟨fS,hi⟩
   ·rw[if_pos rfl] at rL;split at rL
    ·cases rL;exact hv (.c i 0)
    ·cases rL
   ·rw[if_neg (λe=>fS e.symm)] at rL;exact hr.gC i l v' hi rL
  ·rcases nr i l hi with⟨rfl,rfl⟩|⟨_,hi⟩
   ·simp at hm
   ·exact hr.live i l dX t p hi hm
  ·rcases nr i l hi with⟨rfl,rfl⟩|⟨fS,Is⟩
   ·simp only[List.mem_singleton,SV.fc.injEq] at hm;obtain⟨rfl,rfl,rfl,rfl⟩:=hm;refine⟨rfl,⟨x,own,hb,ho⟩,λi' l' a' b' j' Ez AP=> ?_⟩;rcases nr i' l' Ez with⟨e1,_⟩|⟨_,hi3⟩
    ·exact e1
    ·exact(vn i' l' a' b' j' hi3 AP).elim
   ·obtain⟨g1,g2,g3⟩:=hr.fc i l dX a' b' j' Is hm;refine⟨g1,g2,λi' l' a'' b'' j'' Ez AP=> ?_⟩;rcases nr i' l' Ez with⟨_,e2⟩|⟨_,hi3⟩
    ·rw[e2] at AP;simp only[List.mem_singleton,SV.fc.injEq] at AP;obtain⟨e3,_,_,_⟩:=AP;rw[e3] at hm;exact(vn i l a' b' j' Is hm).elim
    ·exact g3 i' l' a'' b'' j'' hi3 AP
theorem ado(hE:bO P E)(hr:Rel tq X s a){T:TypeId}{x:Operand}(ho:o.op= .load T x)(h:tg E T s (s.cP x) some=some u):cQ P tq X s a o u:=by
 have hx:=hr.cP x;unfold tg at h;split at h
 case h_2=>cases h
 rename_i id ta tb j mG;rw[mG] at hx;obtain⟨r0,hβ,hv,hj⟩:=hx;have hv:a.eval x= .pointer (some ⟨r0,ta.cells+j,none⟩):=hv;have hj:j<2:=hj;split at h
 case isFalse=>cases h
 rename_i tC;obtain⟨e,hu⟩:=hE.pt T tC;obtain⟨x0,own,r,hb,h,gD,h1,how,c,p0,p1,T',cJ,de,AQ,AR⟩:=Kf hr h;rw[hβ] at h1;cases h1;cases qo:pU own [] with
 |false=>rw[qo] at h;cases h
 |true=>
 rw[qo,cond_true] at h;cases h;have qo:=Hk qo;obtain⟨v,mO⟩:∃v,(c++ [p0,p1,Value.int .i64 x0.2.2])[ta.cells+j]? =some v:=by
  rw[bc (by rw[de.len];omega),de.len,cp]
  match j,hj with
  |0,_=>exact⟨_,rfl⟩
  |1,_=>exact⟨_,rfl⟩
 have hc:=zo5 cJ mO;have dK:(execOp a.eval o).run P X.w= .ok (.value v) X.w:=by
  have hl:(loadVar T ⟨r0,ta.cells+j,none⟩).run P X.w= .ok v X.w:=by
   unfold loadVar;have hag:(isAgg T).run P X.w= .ok false X.w:=by simp [isAgg,run_underlying hu]
   simp only[ay,hag,aj,cK,if_false,run_load,hc]
  simp only[execOp,ho,ay,fZ,hv,Instr.sureAddr,aG,aj,hl]
 have hg:qA X r0 (.b id) ta tb x0:=⟨c,p0,p1,T',cJ,de,AQ,AR⟩
 have qL:=hr.fc.none (d:=id) λa' b' x' si h=>by rw[hb] at h;cases h;exact qo
 have mP:=hr.vf (B':=⟨.dJ .lh ta tb,x0,own.filter λq=> !q.isEmpty⟩) hb hβ ⟨how,⟨_,cJ⟩,λ_=>hg⟩ (.inr qo);refine⟨X,v,.inl dK,Ext.refl X,mP.IQ (Vr hb) (λhm=> ?_) qL λpl=>⟨r0,hβ,how,hc⟩⟩;have:=(bf.1 hm).2;simp at this
theorem ab5(hE:bO P E)(hr:Rel tq X s a){T:TypeId}{u':Ty}{x:Operand}(ho:o.op= .load T x)(hT:E.ty T=some u'){id:Nat}{t:Ty}{p:List Nat}(mG:s.cP x= .ptr id t p)(h:Kg u' s id t p some=some u):cQ P tq X s a o u:=by
 have hx:=hr.cP x;rw[mG] at hx;obtain⟨r0,hβ,hv⟩:=hx;unfold Kg at h;split at h
 case h_4=>cases h
 case h_2=>
  rename_i ta tb;split at h
  case isFalse=>cases h
  rename_i heq;have:=Ty.cT heq;subst this;obtain⟨x0,own,r,hb,h,_,h1,h2,c,p0,p1,T',cJ,de,_⟩:=Kf hr h;rw[hβ] at h1;cases h1;cases h;have hv:a.eval x= .pointer (some ⟨r0,0,none⟩):=by have:=hv.1;rw[this];simp [vU,Ty.off]
  refine cQ.plain hr ?_ (HB de) (λ_ _ _ e'=>by cases e');have hl:=Hj hE hT de (ad:=⟨r0,0,none⟩) (w:=X.w) (λj v hj=>by rw[q7,bK];refine zo5 cJ ?_;rw[bj ((aA.1 hj).1)];exact hj)
  simp only[execOp,ho,ay,fZ,hv,Instr.sureAddr,aG,aj,hl]
 case h_3=>
  rename_i ta tb;split at h
  case isFalse=>cases h
  rename_i heq;have:=Ty.cT heq;subst this;obtain⟨x0,own,r,hb,h,_,h1,h2,c,p0,p1,T',cJ,de,_⟩:=Kf hr h;rw[hβ] at h1;cases h1;cases h;have hv:a.eval x= .pointer (some ⟨r0,ta.cells+2,none⟩):=hv.1;have hl:=Hj (P:=P) hE hT (X:=X) (x:=x0.2.2) (cs:=[.int .i64 x0.2.2]) rfl (ad:=⟨r0,ta.cells+2,none⟩) (w:=X.w) (λj v hj=>by
   cases j with
   |succ j=>simp at hj
   |zero=>rw[q7,fj];refine zo5 cJ ?_;rw[bc (by rw[de.len];omega),de.len,cp];exact hj)
  refine cQ.plain hr (v:=mW (.int .i64) [.int .i64 x0.2.2]) ?_ rV (λ_ _ _ e'=>by cases e');simp only[execOp,ho,ay,fZ,hv,Instr.sureAddr,aG,aj,hl]
 rename_i ta tb i;split at h
 case h_2=>cases h
 rename_i B hB;split at h
 case isFalse=>cases h
 rename_i l8;split at h
 case isFalse=>cases h
 rename_i heq;have:=Ty.cT heq;subst this;obtain⟨hb,r,h1,h2,cs,T',cJ,lL,oF⟩:=Ki hr hB l8;rw[hβ] at h1;cases h1;generalize(Ty.cast l8 B.x:List (El u'))=xs at*;cases hn:bn (i+1) (ag xs) with
 |false=>rw[hn] at h;cases h
 |true=>rw[hn] at h;cases h;have bR:i<ag xs:=ci hn;have de:=oF i _ (getD_some (El.gG u') bR);have hv:a.eval x= .pointer (some ⟨r0,i*u'.cells,none⟩):=hv;refine cQ.plain hr ?_ (HB de) (λ_ _ _ e'=>by cases e');have hl:=Hj hE hT de (ad:=⟨r0,i*u'.cells,none⟩) (w:=X.w) (λj v hj=>VR cJ hj);simp only[execOp,ho,ay,fZ,hv,Instr.sureAddr,aG,aj,hl]
theorem ab4(hE:bO P E)(hr:Rel tq X s a){T:TypeId}{u':Ty}{x:Operand}(ho:o.op= .load T x)(hT:E.ty T=some u'){id:Nat}{t:Ty}{p:List Nat}(mG:s.cP x= .ptr id t p){B:fp}(hB:s.box id=some B)(h:LB u' B t p some=some u):cQ P tq X s a o u:=by
 have hx:=hr.cP x;rw[mG] at hx;obtain⟨r0,hβ,hv⟩:=hx;unfold LB at h;split at h
 case h_2=>cases h
 rename_i n e;split at h
 case isFalse=>cases h
 rename_i l8;split at h
 case isFalse=>cases h
 rename_i heq;have:=Ty.cT heq;subst this;obtain⟨hb,r,h1,h2,cs,T',cJ,lL,oF⟩:=Ki hr hB l8;rw[hβ] at h1;cases h1;generalize(Ty.cast l8 B.x:List (El e))=xs at*;cases hn:ak n (ag xs) with
 |false=>rw[hn] at h;cases h
 |true=>
  rw[hn] at h;cases h;have hn:=aH hn;have de:eI X (.arr n e) xs cs.toList:=⟨hn.symm,by rw[hn];simpa using lL,oF⟩
  have hv:=((yU rfl).1 hv).1;have hv:a.eval x= .pointer (some ⟨r0,0,none⟩):=by rw[hv];rfl
  refine cQ.plain hr ?_ (HB de) (λ_ _ _ e'=>by cases e');have hl:=Hj hE hT de (ad:=⟨r0,0,none⟩) (w:=X.w) (λj v hj=>VR (off:=0) (k:=cs.toList.length) cJ (by rw[aN,cF];exact hj));simp only[execOp,ho,ay,fZ,hv,Instr.sureAddr,aG,aj,hl]
theorem afN(hE:bO P E)(hr:Rel tq X s a){ops:List Oper}{T:TypeId}{x:Operand}(ho:o.op= .load T x){C:FuncId->gK Out}(h:act E C ops o s some=some u):cQ P tq X s a o u:=by
 unfold act at h;simp only[ho] at h;have hx:=hr.cP x;unfold load at h;split at h
 case h_2=>exact ado hE hr ho h
 rename_i u' hT;split at h
 ·rename_i t y e;rw[e] at hx;obtain⟨ad,cs,hv,vp,de,np⟩:=hx;split at h
  case isFalse=>cases h
  rename_i heq;have:=Ty.cT heq;subst this;cases h;refine cQ.plain hr ?_ (HB de) (λ_ _ _ e'=>by cases e');have hl:=Hj hE hT de (ad:=ad) (w:=X.w) (λi v hi=>(np i v hi).2.1);simp only[execOp,ho,ay,fZ,hv,Instr.sureAddr,aG,aj,hl]
 ·rename_i id t p e;rw[e] at hx;obtain⟨r,hβ,hx⟩:=hx;split at h
  ·exact ab5 hE hr ho hT e h
  rename_i nm;have nm:t.fG=false:=by simpa using nm
  obtain⟨hv,lR⟩:=(yU nm).1 hx;split at h
  case h_2=>cases h
  rename_i B hB;split at h
  case isFalse=>exact ab4 hE hr ho hT e hB h
  rename_i heq;have l8:=Ty.cT heq;split at h
  case h_2=>cases h
  rename_i ut y jH;split at h
  case isFalse=>cases h
  rename_i Ij;have:=Ty.cT Ij;subst this;have hb:=yV hB;obtain⟨r',hβ',B8⟩:=hr.boxes id B hb;rw[hβ] at hβ';cases hβ';subst l8;obtain⟨cs,T',cJ,de,how,gD⟩:=B8.cells nm;obtain⟨k1,k2,k3⟩:=TQ de lR jH;have hl:=Hj hE hT k3 (ad:=⟨r,B.t.off p,none⟩) (w:=X.w) (λi v hi=>VR cJ hi);have dK:(execOp a.eval o).run P X.w= .ok (.value (mW u' ((cs.toList.drop (B.t.off p)).take u'.cells))) X.w:=by simp only[execOp,ho,ay,fZ,hv,Instr.sureAddr,aG,aj,hl]
  cases hc:Z8 ops o.dst||G2 E ops o.dst||Sh ops o.dst with
  |false=>rw[hc] at h;cases h;exact cQ.plain hr dK (HB k3) (λ_ _ _ e'=>by cases e')
  |true=>
   rw[hc] at h;cases h;have mP:Rel tq X (s.cG (some (id,{B with own:=Fq B.own p}))) a:=hr.vf hb hβ ⟨how,mA.of nm cJ de λq hq=>gD q (zaf hq).1⟩ (.inl (TT nm));have KV:∀q,¬lv (s.cG (some (id,{B with own:=Fq B.own p}))) (.b id (p++q)):=by rintro q ⟨B2,ll,hp⟩;rw[Vr hb] at ll;cases ll;have:=(zaf hp).2;rw[gd.2 (List.prefix_append p q)] at this;cases this
   have vm:=zsq (X:=X) (q:= .c (o.dst.getD 0) 0) KV;refine⟨X.p9 id p (.c (o.dst.getD 0) 0),_,.inl dK,vm.ext,(mP.mod vm.mod).fin ⟨_,k3.bE (λ_ _=>vm.cn.1),rfl,?_⟩ (λid t p hm=>by simp at hm)⟩;intro q hq;obtain⟨q0,hq0,rfl⟩:=bm.1 hq;obtain⟨hq1,N6⟩:=bf.1 hq0;obtain⟨q,rfl⟩:=gd.1 N6;rw[gb];obtain⟨e',t',xs,v,h0,h1,h2,h3⟩:=gD _ hq1;obtain⟨j1,j2⟩:=adt jH h0 h1;have hle:=am7 j1 (Ui _ _ _ _ _ j2);refine⟨e',t',xs,v,j1,j2,?_,h3.yQ⟩;rw[z59 _ _ _ _ k1] at h2;rw[bq,if_pos hle,bJ];exact h2
 ·cases h
theorem zhk{cs c:List Value}{off:Nat}(h:off+c.length<=cs.length)(j k:Nat):(∀h1:j+k<=off\/off+c.length<=j,((cs.take off++c++cs.drop (off+c.length)).drop j).take k=(cs.drop j).take k):=by
 intro h1;apply bZ;intro q;simp only[bq,bJ];split
 ·rename_i hq;rw[aQ];rcases h1 with h1|h1
  ·rw[bj (by rw[aU];omega),bq,if_pos (by omega)]
  ·rw[bc (by rw[aU];omega),aU,bN (by omega),bc (by omega),bJ];congr 1;omega
 ·rfl
theorem ot{X:cc}:∀{t:Ty} {p:List Nat} {x:El t} {cs:List Value} {u:Ty} {y:El u} {z:El t} {c:List Value},eI X t x cs->t.nH p->t.at_ p=some u->El.set t p x u y=some z->eI X u y c->
 eI X t z (cs.take (t.off p)++c++cs.drop (t.off p+c.length)):=by
 intro t
 induction t with
 |arr n t ih=>
  intro p x cs u y z c hr hp iC h hc;have oj:=hc.len;cases p with
  |nil=>simp only[Ty.at_,aC] at iC;subst iC;simp only[El.set,Ty.iG,dite_true,aC] at h;subst h;have hl:=hr.len;simp only[Ty.off,bK,cZ,bD];rw[oj,<-hl,kx,bM];exact hc
  |cons i p=>
   obtain⟨hi,hp⟩:=hp;obtain⟨h1,h2,h3⟩:=hr;simp only[El.set] at h;obtain⟨z',wv,rfl⟩:=ax.1 h;have vW:t.at_ p=some u:=iC;have hle:=nY t p u vW hp;have hn:(i+1)*t.cells<=n*t.cells:=bB _ hi;rw[bL,ct] at hn;have Ez:=ih (h3 i _ (getD_some (El.gG t) (by omega))) hp vW wv hc;have lQ:i*t.cells+t.off p+c.length<=cs.length:=by rw[oj,h2];omega
   refine⟨by simpa using h1,?_,λj w hj=> ?_⟩
   ·simp only[Ty.off,aF,aU,bF];omega
   ·simp only[Ty.off];by_cases e:j=i
    ·subst e;rw[fB (by omega)] at hj;cases hj;have hL:((cs.take (j*t.cells+t.off p)++c++cs.drop (j*t.cells+t.off p+c.length)).drop (j*t.cells)).take t.cells=
      ((cs.drop (j*t.cells)).take t.cells).take (t.off p)++c++((cs.drop (j*t.cells)).take t.cells).drop (t.off p+c.length):=by
      apply bZ;intro q;rw[aQ,aQ];simp only[bq,bJ,iU,aU,bF];rw[bN (show j*t.cells+t.off p<=cs.length by omega),bN (show t.cells<=cs.length-j*t.cells by omega),bN (show t.off p<=t.cells by omega)];by_cases q1:q<t.cells
      ·by_cases q2:q<t.off p
       ·rw[if_pos q1,if_pos (by omega),if_pos (by omega),if_pos q2,if_pos q2,if_pos q1]
       ·by_cases q3:q-t.off p<c.length
        ·rw[if_pos q1,if_neg (by omega),if_pos (by omega),if_neg q2,if_pos q3];congr 1;omega
        ·rw[if_pos q1,if_neg (by omega),if_neg (by omega),if_neg q2,if_neg q3,if_pos (by omega)];congr 1;omega
      ·rw[if_neg q1,if_neg (by omega),if_neg (by omega),if_neg (by omega)]
     rw[hL];exact Ez
    ·rw[iV (Ne.symm e)] at hj;have Ce:=(aA.1 hj).1;rw[zhk lQ (j*t.cells) t.cells ?_]
     ·exact h3 j w hj
     ·rcases jE e with bR|hgt
      ·have:(j+1)*t.cells<=i*t.cells:=bB _ bR;rw[bL,ct] at this;exact .inl (by omega)
      ·have:(i+1)*t.cells<=j*t.cells:=bB _ hgt;rw[bL,ct] at this;exact .inr (by omega)
 |pair ta tb uZ u6=>
  intro p x cs u y z c hr hp iC h hc;have oj:=hc.len;cases p with
  |nil=>simp only[Ty.at_,aC] at iC;subst iC;simp only[El.set,Ty.iG,dite_true,aC] at h;subst h;have hl:=hr.len;simp only[Ty.off,bK,cZ,bD];rw[oj,<-hl,kx,bM];exact hc
  |cons i p=>
   obtain⟨c1,c2,rfl,r1,r2⟩:=hr;have l1:=r1.len;have l2:=r2.len;cases i with
   |zero=>simp only[El.set] at h;obtain⟨z',wv,rfl⟩:=ax.1 h;have vW:ta.at_ p=some u:=iC;have hle:=nY ta p u vW hp;have:=uZ r1 hp vW wv hc;refine⟨_,c2,?_,this,r2⟩;simp only[Ty.off];rw[er (by omega),dE (by omega)];simp [aQ]
   |succ i=>simp only[El.set] at h;obtain⟨z',wv,rfl⟩:=ax.1 h;have vW:tb.at_ (i::p)=some u:=iC;have hle:=nY tb (i::p) u vW hp;have:=u6 r2 hp vW wv hc;refine⟨c1,_,?_,r1,this⟩;simp only[Ty.off];rw[<-l1,List.take_length_add_append,l4,je];simp [aQ]
 |_=>
  intro p x cs u y z c hr hp iC h hc;have oj:=hc.len;cases p with
  |nil=>
   simp only[Ty.at_,aC] at iC;subst iC;simp only[El.set,Ty.iG,dite_true,aC] at h
   first|subst h|skip
   have hl:=hr.len;simp only[Ty.off,bK,cZ,bD];rw[oj,<-hl,kx,bM];exact hc
  |cons i p=>simp [Ty.at_] at iC
end Go.Ref

namespace Go.Ref
open Go
variable {P:Program} {tq:oK} {E:Env} {X:cc} {s:State} {a:Act} {o:Oper} {u:Out}
theorem abO:∀{t:Ty} {p q:List Nat} {x:El t} {u:Ty} {y:El u} {z:El t} {e:TypeId} {t':Ty} {xs:El (.sl e t')},El.set t p x u y=some z->t.at_ p=some u->t.nH p->t.nH q->p.isPrefixOf q=false->El.get t q x=some ⟨.sl e t',xs⟩->
 El.get t q z=some ⟨.sl e t',xs⟩/\(t.off q+1<=t.off p\/t.off p+u.cells<=t.off q):=by
 intro t
 induction t with
 |arr n t ih=>
  intro p q x u y z e t' xs hs iC hp hq pn hg;cases p with
  |nil=>simp at pn
  |cons i p=>
   cases q with
   |nil=>simp [El.get] at hg
   |cons j q=>
    simp only[El.set] at hs;obtain⟨z',wv,rfl⟩:=ax.1 hs;by_cases eij:i=j
    ·subst eij;have wl:p.isPrefixOf q=false:=by simpa [kW] using pn
     obtain⟨h1,h2⟩:=ih wv iC hp.2 hq.2 wl hg;refine⟨?_,by simp only[Ty.off];omega⟩;simp only[El.get];by_cases hl:i<ag x
     ·rw[al,fB hl];exact h1
     ·have oo:b8 x i z'=x:=by rw[List.set_eq_of_length_le (eM hl)]
      rw[oo];exact hg
    ·refine⟨?_,?_⟩
     ·simp only[El.get] at hg⊢;rw[al,iV eij,<-al];exact hg
     ·have a1:=nY t p u iC hp.2;have a2:t.off q+1<=t.cells:=by have:=nY t q _ (Ui t q _ _ _ hg) hq.2;simpa [Ty.cells] using this
      simp only[Ty.off];rcases jE eij with h|h
      ·have:(i+1)*t.cells<=j*t.cells:=bB _ h;rw[bL,ct] at this;omega
      ·have:(j+1)*t.cells<=i*t.cells:=bB _ h;rw[bL,ct] at this;omega
 |pair ta tb uZ u6=>
  intro p q x u y z e t' xs hs iC hp hq pn hg;cases p with
  |nil=>simp at pn
  |cons i p=>
   cases q with
   |nil=>simp [El.get] at hg
   |cons j q=>
    cases i with
    |zero=>
     simp only[El.set] at hs;obtain⟨z',wv,rfl⟩:=ax.1 hs;cases j with
     |zero=>
      have wl:p.isPrefixOf q=false:=by simpa [kW] using pn
      obtain⟨h1,h2⟩:=uZ wv iC hp hq wl hg;exact⟨h1,by simp only[Ty.off];omega⟩
     |succ j=>have a1:=nY ta p u iC hp;exact⟨hg,by simp only[Ty.off];omega⟩
    |succ i=>
     simp only[El.set] at hs;obtain⟨z',wv,rfl⟩:=ax.1 hs;cases j with
     |zero=>
      have a2:ta.off q+1<=ta.cells:=by have:=nY ta q _ (Ui ta q _ _ _ hg) hq;simpa [Ty.cells] using this
      exact⟨hg,by simp only[Ty.off];omega⟩
     |succ j=>
      have wl:(i::p).isPrefixOf (j::q)=false:=by simp [kW] at pn⊢;exact pn
      obtain⟨h1,h2⟩:=u6 wv iC hp hq wl hg;exact⟨h1,by simp only[Ty.off];omega⟩
 |_=>
  intro p q x u y z e t' xs hs iC hp hq pn hg;cases p with
  |nil=>simp at pn
  |cons i p=>simp [Ty.at_] at iC
def cc.row(X:cc)(r:Nat)(cs:Array Value):cc:={X with w:=X.w.setRow r cs}
theorem vv{r id:Nat}{cs:Array Value}(h:X.ow r= .box id){ad:Addr}{v:Value}(hs:X.cn ad v):(X.row r cs).cn ad v:=by
 have fS:ad.block≠r:=λe=>by have:=hs.2.2;rw[e,h] at this;exact this
 refine⟨hs.1,?_,hs.2.2⟩;have:=hs.2.1;simp only[bT,cc.row] at this⊢;rw[setRow_other X.w r ad.block cs fS];exact this
theorem HC{r id:Nat}{cs:Array Value}(h:X.ow r= .box id):Ext X (X.row r cs) where
 cn:=λ_ _=>vv h
 size:=by simp [cc.row]
 os:=rfl
 tape:=rfl
 output:=rfl
 β0:=rfl
 still:=λg _ gy=>by
  have fS:g≠r:=λe=>by rw[e,h] at gy;exact gy
  exact⟨rfl,setRow_other X.w r g cs fS⟩
theorem fa.row{r id:Nat}{cs:Array Value}(h:X.ow r= .box id){pl:Place}{e:TypeId}{k n:Nat}{v:Value}(ho:fa X pl e k n v):fa (X.row r cs) pl e k n v:=by
 rcases ho with ho|⟨g,cap,cur,h1,h2,h3,h4,h5,h6⟩
 ·exact .inl ho
 ·have fS:g≠r:=λe=>by rw[e,h] at h6;cases h6
  exact .inr ⟨g,cap,cur,h1,(setRow_other X.w r g cs fS).trans h2,h3,h4,h5,h6⟩
theorem eO.row{r id:Nat}{cs:Array Value}(h:X.ow r= .box id){pl:List Nat->Place}{t:Ty}{x:El t}{c:List Value}{own:List (List Nat)}(ho:eO X pl t x c own):eO (X.row r cs) pl t x c own:=λp hp=>by obtain⟨e,t',xs,v,g0,g1,g2,g3⟩:=ho p hp;exact⟨e,t',xs,v,g0,g1,g2,g3.row h⟩
theorem cw.row{r id:Nat}{cs:Array Value}(h:X.ow r= .box id){pl:List Nat->Place}{sv:SV}{v:Value}(hk:∀dX a b j,sv= .fc dX a b j->dX≠id)(hr:cw X pl sv v):cw (X.row r cs) pl sv v:=by
 cases sv with
 |undef=>trivial
 |skip=>exact hr
 |jR=>exact hr
 |nE=>exact hr
 |over=>exact hr
 |bY t x own=>obtain⟨c,h1,h2,h3⟩:=hr;exact⟨c,h1.bE (λ_ _=>vv h),h2,h3.row h⟩
 |ptr id t p=>exact hr
 |view t x=>obtain⟨ad,c,h1,h2,h3,h4⟩:=hr;exact⟨ad,c,h1,h2,h3.bE (λ_ _=>vv h),λi u hi=>vv h (h4 i u hi)⟩
 |cap f t x u y=>exact AA (λ_ _=>vv h) hr
 |fc dX a b j=>
  obtain⟨r',h1,h2,h3⟩:=hr;have fS:r'≠r:=λe=>by rw[e,h] at h2;injection h2 with h2;exact hk dX a b j rfl h2.symm
  refine⟨r',h1,h2,?_⟩;simp only[bT] at h3⊢;rw[show(X.row r cs).w.heap[r']? =X.w.heap[r']? from setRow_other X.w r r' cs fS];exact h3
theorem Rel.row{r id:Nat}{B B':fp}{cs:Array Value}(hr:Rel tq X s a)(hb:s.bs[id]? =some (some B))(hβ:X.β id=some r)(h:X.ow r= .box id)(hB:fq (X.row r cs) id r B')(hg:B.t.nI=false\/ []∈B.own):Rel tq (X.row r cs) (s.cG (some (id,B'))) a where
 size:=hr.size
 pW:=by simpa [State.cG] using hr.pW
 gC:=λi l v hl hv=>(hr.gC i l v hl hv).ru λj sv u hm sD=>sD.row h (λdX a b k e e2=>hr.xK hb hg i l a b k hl (e2▸e▸aL hm))
 boxes:=λdX B2 ll=>by
  have bR:id<s.bs.length:=(aA.1 hb).1;simp only[State.cG,az] at ll;by_cases e:id=dX
  ·subst e;rw[if_pos rfl,if_pos bR] at ll;cases ll;exact⟨r,hβ,hB⟩
  ·rw[if_neg e] at ll;obtain⟨r',h1,h4,h2⟩:=hr.boxes dX B2 ll;have fS:r'≠r:=λe2=>by rw[e2,h] at h4;cases h4;exact e rfl
   exact⟨r',h1,h4,h2.move (λ_ _=>vv h) (setRow_other X.w r r' cs fS) (λcs h5=>h5.row h) λ_ _ g o _ ho hw=>⟨(setRow_other X.w r g cs (λe3=>by rw[e3,h] at hw;cases hw)).trans ho,hw⟩⟩
 live:=λi l dX t p hi hm=>by
  have bR:id<s.bs.length:=(aA.1 hb).1;obtain⟨B2,ll⟩:=hr.live i l dX t p hi hm;simp only[State.cG,az];by_cases e:id=dX
  ·subst e;exact⟨B',by rw[if_pos rfl,if_pos bR]⟩
  ·rw[if_neg e];exact⟨B2,ll⟩
 defers:=hr.defers
 fc:=hr.fc.cG (hr.xK hb hg)
 km:=hr.km.ext (HC h)
theorem K6(hE:bO P E){T:TypeId}{t:Ty}(ht:E.ty T=some t){x:El t}{cs:List Value}(hr:eI X t x cs){r off:Nat}{cur:Array Value}{T':TypeId}{w:World}(hg:w.heap[r]? =some (.cells cur T' (0,0)))(hf:off+t.cells<=cur.size):
 (storeVar T ⟨r,off,none⟩ (mW t cs)).run P w= .ok () (w.setRow r (cur.toList.take off++cs++cur.toList.drop (off+cs.length)).toArray):=by
 have hl:=hr.len;have gy:=run_storeCells_at P r off T' cs 0 cur w hg (by omega) hr.one;simp only[fj] at gy;unfold storeVar;simp only[ay,uE hE ht,aj,Da hr];rw[if_neg (by simp [hl])];exact gy
theorem acB:∀{t:Ty} {p q:List Nat} {x:El t} {u:Ty} {y:El u} {z:El t} {r:(u:Ty)×El u} {X:cc} {cs:List Value},eI X t x cs->El.set t p x u y=some z->t.at_ p=some u->t.nH p->El.get u q y=some r->El.get t (p++q) z=some r:=by
 intro t
 induction t with
 |arr n t ih=>
  intro p q x u y z r X cs hr hs iC hp hg;cases p with
  |nil=>simp only[Ty.at_,aC] at iC;subst iC;simp only[El.set,Ty.iG,dite_true,aC] at hs;subst hs;exact hg
  |cons i p=>
   simp only[El.set] at hs;obtain⟨z',wv,rfl⟩:=ax.1 hs;obtain⟨h1,h2,h3⟩:=hr;have hi:i<ag x:=by rw[h1];exact hp.1
   simp only[El.get,gv];rw[al,fB hi];exact ih (h3 i _ (getD_some _ hi)) wv iC hp.2 hg
 |pair ta tb uZ u6=>
  intro p q x u y z r X cs hr hs iC hp hg;cases p with
  |nil=>simp only[Ty.at_,aC] at iC;subst iC;simp only[El.set,Ty.iG,dite_true,aC] at hs;subst hs;exact hg
  |cons i p=>
   obtain⟨c1,c2,_,r1,r2⟩:=hr;cases i with
   |zero=>simp only[El.set] at hs;obtain⟨z',wv,rfl⟩:=ax.1 hs;exact uZ r1 wv iC hp hg
   |succ i=>simp only[El.set] at hs;obtain⟨z',wv,rfl⟩:=ax.1 hs;exact u6 (p:=i::p) r2 wv iC hp hg
 |_=>
  intro p q x u y z r X cs hr hs iC hp hg;cases p with
  |nil=>
   simp only[Ty.at_,aC] at iC;subst iC;simp only[El.set,Ty.iG,dite_true,aC] at hs
   first|subst hs|skip
   exact hg
  |cons i p=>simp [Ty.at_] at iC
theorem Rq{t u:Ty}{p:List Nat}{x z:El t}{y:El u}{cs cv:List Value}{own oy:List (List Nat)}{pl:List Nat->Place}(hr:eI X t x cs)(lR:t.nH p)(iC:t.at_ p=some u)(oo:El.set t p x u y=some z)(rep:eI X u y cv)
 (ho:eO X pl t x cs own) (hy:eO X (λq=>pl (p++q)) u y cv oy):eO X pl t z (cs.take (t.off p)++cv++cs.drop (t.off p+cv.length)) (oy.map (λq=>p++q)++Fq own p):=by
 have oj:=rep.len;have hle:=nY t p u iC lR;have nB:=hr.len;intro q hq;rcases aT.1 hq with hq|hq
 ·obtain⟨q,N6,rfl⟩:=bm.1 hq;obtain⟨e,t',xs,v,g0,g1,g2,g3⟩:=hy q N6;have bR:=(aA.1 g2).1;refine⟨e,t',xs,v,SG t p q u iC lR g0,acB hr oo iC lR g1,?_,g3⟩;rw[z59 t p q u iC,aQ,bc (by rw[aU];omega),aU,bN (by omega),cp,bj bR];exact g2
 ·obtain⟨hqm,pn⟩:=zaf hq;obtain⟨e,t',xs,v,g0,g1,g2,g3⟩:=ho q hqm;obtain⟨k1,k2⟩:=abO oo iC lR g0 pn g1;refine⟨e,t',xs,v,g0,k1,?_,g3⟩;have vp:=zhk (cs:=cs) (c:=cv) (off:=t.off p) (by omega) (t.off q) 1 (by rw[oj];omega);have h0:=congrArg (λl=>l[0]?) vp;simp only[bq,bJ] at h0;simp only[Nat.zero_lt_one,if_true,fj] at h0;rw[h0];exact g2
theorem abN(hE:bO P E)(hr:Rel tq X s a){T:TypeId}{u0:Ty}{x y:Operand}(ho:o.op= .store T x y)(hT:E.ty T=some u0){id:Nat}{t:Ty}{p:List Nat}(mG:s.cP x= .ptr id t p)(h:J4 u0 s id t p (s.cP y) some=some u):cQ P tq X s a o u:=by
 have hx:=hr.cP x;rw[mG] at hx;obtain⟨r0,hβ,hv⟩:=hx;unfold J4 at h;split at h
 case h_4=>cases h
 case h_2=>
  rename_i ta tb q;split at h
  case h_2=>cases h
  rename_i u' iC;split at h
  case isFalse=>cases h
  rename_i heq;have:=Ty.cT heq;subst this;obtain⟨x0,own,r,hb,h,gD,h1,how,c,p0,p1,T',cJ,de,AQ,AR⟩:=Kf hr h;rw[hβ] at h1;cases h1;obtain⟨yv,h,hy⟩:=zz h;split at h
  case h_2=>cases h
  rename_i z hz;cases qo:pU own [] with
  |false=>rw[qo] at h;cases h
  |true=>
  rw[qo,cond_true] at h;cases h;have qo:=Hk qo;obtain⟨cv,rep,ev⟩:=hy X _ _ (hr.cP y);have lR:ta.nH q:=hv.2;have hv:a.eval x= .pointer (some ⟨r0,ta.off q,none⟩):=hv.1;have oj:=de.len;have hle:=nY ta q u' iC lR;have hvl:=rep.len;have gy:=K6 (P:=P) hE hT rep (off:=ta.off q) (w:=X.w) (r:=r0) (T':=T') cJ (by simp;omega);have oG:(c++ [p0,p1,Value.int .i64 x0.2.2]).take (ta.off q)++cv++(c++ [p0,p1,Value.int .i64 x0.2.2]).drop (ta.off q+cv.length)=(c.take (ta.off q)++cv++c.drop (ta.off q+cv.length))++ [p0,p1,Value.int .i64 x0.2.2]:=by rw[er (by omega),dE (by omega)];simp only[aQ]
  have dK:(execOp a.eval o).run P X.w= .ok .skip ((X.row r0 ((c.take (ta.off q)++cv++c.drop (ta.off q+cv.length))++ [p0,p1,Value.int .i64 x0.2.2]).toArray).w):=by simp only[execOp,ho,ay,eV,hv,Instr.sureAddr,aG,aj,ev,gy];have e2:(aJ (ta.off q) (c++ [p0,p1,Value.int .i64 x0.2.2]).toArray.toList++cv++List.drop (ta.off q+cv.length) (c++ [p0,p1,Value.int .i64 x0.2.2]).toArray.toList)=(c.take (ta.off q)++cv++c.drop (ta.off q+cv.length))++ [p0,p1,Value.int .i64 x0.2.2]:=oG;rw[e2];rfl
  have fP:fq (X.row r0 ((c.take (ta.off q)++cv++c.drop (ta.off q+cv.length))++ [p0,p1,Value.int .i64 x0.2.2]).toArray) id r0 ⟨.dJ .lh ta tb,(z,x0.2),own⟩:=by
   have hg:∀p∈tV,∀g o k,X.w.heap[g]? =some o->X.ow g= .row (.b id p) k->(X.row r0 ((c.take (ta.off q)++cv++c.drop (ta.off q+cv.length))++ [p0,p1,Value.int .i64 x0.2.2]).toArray).w.heap[g]? =some o/\(X.row r0 ((c.take (ta.off q)++cv++c.drop (ta.off q+cv.length))++ [p0,p1,Value.int .i64 x0.2.2]).toArray).ow g= .row (.b id p) k:=λp _ g o k hg hw=>by
    have fS:g≠r0:=λe=>by rw[e,how] at hw;cases hw
    exact⟨(setRow_other X.w r0 g _ fS).trans hg,hw⟩
   refine⟨how,⟨_,setRow_heap X.w r0 _ _ T' (0,0) cJ⟩,λ_=>⟨c.take (ta.off q)++cv++c.drop (ta.off q+cv.length),p0,p1,T',setRow_heap X.w r0 _ _ T' (0,0) cJ,(ot de lR iC hz rep).bE (λ_ _=>vv how),AQ.move (λ_ _=>vv how) λp hp=> ?_,AR.move (λ_ _=>vv how) λp hp=> ?_⟩⟩
   ·rcases hp with rfl|rfl<;>exact hg _ (by simp [tV])
   ·rcases hp with rfl|rfl<;>exact hg _ (by simp [tV])
  exact⟨X.row r0 _,aW,.inr ⟨dK,rfl⟩,HC how,(hr.row (cs:=_) hb hβ how fP (.inr qo)).skip o.dst⟩
 case h_3=>
  rename_i ta tb;split at h
  case isFalse=>cases h
  rename_i heq;have:=Ty.cT heq;subst this;obtain⟨x0,own,r,hb,h,gD,h1,how,c,p0,p1,T',cJ,de,AQ,AR⟩:=Kf hr h;rw[hβ] at h1;cases h1;obtain⟨n,h,hy⟩:=zz h;cases qo:pU own [] with
  |false=>rw[qo] at h;cases h
  |true=>
  rw[qo,cond_true] at h;cases h;have qo:=Hk qo;obtain⟨cv,rep,ev⟩:=hy X _ _ (hr.cP y);have rep:cv=[.int .i64 n]:=rep;subst rep;have hv:a.eval x= .pointer (some ⟨r0,ta.cells+2,none⟩):=hv.1;have oj:=de.len;have gy:=K6 (P:=P) hE hT (X:=X) (x:=n) (cs:=[.int .i64 n]) rfl (off:=ta.cells+2) (w:=X.w) (r:=r0) (T':=T') cJ (by simp [Ty.cells];omega);have oG:(c++ [p0,p1,Value.int .i64 x0.2.2]).take (ta.cells+2)++ [Value.int .i64 n]++(c++ [p0,p1,Value.int .i64 x0.2.2]).drop (ta.cells+2+1)=c++ [p0,p1,Value.int .i64 n]:=by rw[<-oj,List.take_append,List.drop_append];simp [bV,aK];omega
  have dK:(execOp a.eval o).run P X.w= .ok .skip ((X.row r0 (c++ [p0,p1,Value.int .i64 n]).toArray).w):=by simp only[execOp,ho,ay,eV,hv,Instr.sureAddr,aG,aj,ev,gy];have e2:(aJ (ta.cells+2) (c++ [p0,p1,Value.int .i64 x0.2.2]).toArray.toList++ [Value.int .i64 n]++List.drop (ta.cells+2+ [Value.int .i64 n].length) (c++ [p0,p1,Value.int .i64 x0.2.2]).toArray.toList)=c++ [p0,p1,Value.int .i64 n]:=oG;rw[e2];rfl
  have fP:fq (X.row r0 (c++ [p0,p1,Value.int .i64 n]).toArray) id r0 ⟨.dJ .lh ta tb,(x0.1,x0.2.1,n),own⟩:=by
   have hm:qA X r0 (.b id) ta tb x0:=⟨c,p0,p1,T',cJ,de,AQ,AR⟩
   have hg:∀p∈tV,∀g o k,X.w.heap[g]? =some o->X.ow g= .row (.b id p) k->(X.row r0 (c++ [p0,p1,Value.int .i64 n]).toArray).w.heap[g]? =some o/\(X.row r0 (c++ [p0,p1,Value.int .i64 n]).toArray).ow g= .row (.b id p) k:=λp _ g o k hg hw=>by
    have fS:g≠r0:=λe=>by rw[e,how] at hw;cases hw
    exact⟨(setRow_other X.w r0 g _ fS).trans hg,hw⟩
   refine⟨how,⟨_,setRow_heap X.w r0 _ _ T' (0,0) cJ⟩,λ_=>⟨c,p0,p1,T',setRow_heap X.w r0 _ _ T' (0,0) cJ,de.bE (λ_ _=>vv how),AQ.move (λ_ _=>vv how) λp hp=> ?_,AR.move (λ_ _=>vv how) λp hp=> ?_⟩⟩
   ·rcases hp with rfl|rfl<;>exact hg _ (by simp [tV])
   ·rcases hp with rfl|rfl<;>exact hg _ (by simp [tV])
  exact⟨X.row r0 _,aW,.inr ⟨dK,rfl⟩,HC how,(hr.row (cs:=_) hb hβ how fP (.inr qo)).skip o.dst⟩
 rename_i ta tb i;split at h
 case h_2=>cases h
 rename_i B hB;split at h
 case isFalse=>cases h
 rename_i l8;split at h
 case isFalse=>cases h
 rename_i heq;have:=Ty.cT heq;subst this;obtain⟨hb,r,h1,how,cs,T',cJ,lL,oF⟩:=Ki hr hB l8;rw[hβ] at h1;cases h1;obtain⟨yv,h,hy⟩:=zz h;obtain⟨cv,rep,ev⟩:=hy X _ _ (hr.cP y);generalize(Ty.cast l8 B.x:List (El ta))=xs at*;cases hn:bn (i+1) (ag xs) with
 |false=>rw[hn] at h;cases h
 |true=>
  rw[hn] at h;cases h;have bR:i<ag xs:=ci hn;have hv:a.eval x= .pointer (some ⟨r0,i*ta.cells,none⟩):=hv;have oj:=rep.len;have hmul:(i+1)*ta.cells<=ag xs*ta.cells:=bB _ bR;rw[bL,ct] at hmul;have lQ:i*ta.cells+ta.cells<=cs.size:=by omega
  have Ah:i*ta.cells+cv.length<=cs.toList.length:=by simp;omega
  let new:=(cs.toList.take (i*ta.cells)++cv++cs.toList.drop (i*ta.cells+cv.length)).toArray;have qq:new.toList=cs.toList.take (i*ta.cells)++cv++cs.toList.drop (i*ta.cells+cv.length):=rfl;have dK:(execOp a.eval o).run P X.w= .ok .skip ((X.row r0 new).w):=by have gy:=K6 (P:=P) hE hT rep (off:=i*ta.cells) (w:=X.w) (r:=r0) (cur:=cs) (T':=T') cJ lQ;simp only[execOp,ho,ay,eV,hv,Instr.sureAddr,aG,aj,ev,gy];rfl
  have hM:new.size=cs.size:=by
   have:new.toList.length=cs.toList.length:=by rw[qq];simp;omega
   simpa using this
  have fP:fq (X.row r0 new) id r0 ⟨.dJ .row ta tb,(b8 xs i yv:List (El ta)),[]⟩:=by
   refine⟨how,new,T',setRow_heap X.w r0 cs new T' (0,0) cJ,?_,λj z hj=> ?_⟩
   ·rw[hM,lL];show _=ag (b8 xs i yv)*_;rw[List.length_set]
   ·refine eI.bE (λ_ _=>vv (cs:=new) how) ?_;have hj:(b8 xs i yv)[j]? =some z:=hj;rw[qq];by_cases e:i=j
    ·subst e;rw[fB bR] at hj;cases hj;have:((cs.toList.take (i*ta.cells)++cv++cs.toList.drop (i*ta.cells+cv.length)).drop (i*ta.cells)).take ta.cells=cv:=by rw[aQ,dE (by rw[aU];omega),aK (by rw[aU];omega),bD,<-oj,eb]
     rw[this];exact rep
    ·rw[iV e] at hj;rw[zhk (cs:=cs.toList) (c:=cv) (off:=i*ta.cells) Ah (j*ta.cells) ta.cells ?_]
     ·exact oF j z hj
     ·rcases jE e with h|h
      ·have:(i+1)*ta.cells<=j*ta.cells:=bB _ h;rw[bL,ct] at this;right;omega
      ·have:(j+1)*ta.cells<=i*ta.cells:=bB _ h;rw[bL,ct] at this;left;omega
  exact⟨X.row r0 new,aW,.inr ⟨dK,rfl⟩,HC how,(hr.row (cs:=new) hb hβ how fP (.inl (by rw[Ty.cT l8];rfl))).skip o.dst⟩
theorem adp(hE:bO P E)(hr:Rel tq X s a){ops:List Oper}{T:TypeId}{x y:Operand}(ho:o.op= .store T x y){C:FuncId->gK Out}(h:act E C ops o s some=some u):cQ P tq X s a o u:=by
 unfold act at h;simp only[ho] at h;have hx:=hr.cP x;unfold store at h;split at h
 case h_2=>cases h
 rename_i u0 hT;split at h
 case h_2=>cases h
 rename_i id t p e;rw[e] at hx;obtain⟨r,hβ,hx⟩:=hx;split at h
 ·exact abN hE hr ho hT e h
 rename_i nm;have nm:t.fG=false:=by simpa using nm
 obtain⟨hv,lR⟩:=(yU nm).1 hx;split at h
 case h_2=>cases h
 rename_i B hB;split at h
 case isFalse=>cases h
 rename_i heq;have l8:=Ty.cT heq;subst l8;split at h
 case h_2=>cases h
 rename_i u' iC;split at h
 case isFalse=>cases h
 rename_i Ij;have:=Ty.cT Ij;subst this;have hb:=yV hB;obtain⟨yv,h,hy⟩:=zxm hr h (.inl rfl);split at h
 case h_2=>cases h
 rename_i z oo;cases h;obtain⟨W,cv,hW,hX,UP,rep,ev,hO,hβ2,vm,_⟩:=hy (λq=> .b id (p++q));obtain⟨r',hβW,B8⟩:=UP.boxes id B (by rw[Fl];exact hb);obtain⟨cs,T2,cJ,de,how,gD⟩:=B8.cells nm;have hrr:r'=r:=by rw[hβ2,hβ] at hβW;exact(Option.some.inj hβW).symm
 subst hrr;have lQ:B.t.off p+u'.cells<=cs.size:=by have:=nY B.t p u' iC lR;have hl:=de.len;simp at hl;omega
 let new:=(cs.toList.take (B.t.off p)++cv++cs.toList.drop (B.t.off p+cv.length)).toArray;have dK:(execOp a.eval o).run P X.w= .ok .skip ((W.row r' new).w):=by have gy:=K6 (P:=P) hE hT rep (off:=B.t.off p) (w:=X.w) (r:=r') (cur:=cs) (T':=T2) (by rw[<-hW];exact cJ) lQ;simp only[execOp,ho,ay,eV,hv,Instr.sureAddr,aG,aj,ev,gy];rw[<-hW];rfl
 have Cn:=Rq de lR iC oo rep gD hO;have fP:fq (W.row r' new) id r' {t:=B.t,x:=z,own:=(s.cP y).own.map (λq=>p++q)++Fq B.own p}:=by
  refine⟨how,mA.of nm (setRow_heap W.w r' cs new T2 (0,0) cJ) ?_ ?_⟩
  ·have:=(ot de lR iC oo rep).bE (λ_ _=>vv (cs:=new) how);simpa [new] using this
  ·have:=Cn.row (cs:=new) how;simpa [new] using this
 have nQ:=UP.row (cs:=new) (by rw[Fl];exact hb) hβW how fP (.inl (TT nm));exact⟨W.row r' new,aW,.inr ⟨dK,rfl⟩,hX.trans (HC how),nQ.skip o.dst⟩
end Go.Ref

namespace Go.Ref
open Go
variable {P:Program} {tq:oK} {E:Env} {X:cc} {s:State} {a:Act} {o:Oper} {u:Out}
theorem z130(off:Nat):∀(l:List Value) (k:Nat) (cs:Array Value),off+k+l.length<=cs.size->
 ((l.zipIdx k).foldl (λcs p=>cs.setIfInBounds (off+p.2) p.1) cs).toList=cs.toList.take (off+k)++l++cs.toList.drop (off+k+l.length)
 | [],k,cs,h=>by simp
 |v::r,k,cs,h=>by
  simp only[aB] at h;simp only[List.zipIdx_cons,List.foldl_cons];rw[z130 off r (k+1) _ (by simp;omega)];simp only[Array.toList_setIfInBounds,aB];apply bZ;intro q;simp only[iU,bq,bJ,aF,aU,List.length_set,Array.length_toList,az,aB,List.getElem?_cons];rw[bN (show off+(k+1)<=cs.size by omega),bN (show off+k<=cs.size by omega)];by_cases h1:q<off+k
  ·rw[if_pos (by omega),if_pos (by omega),if_pos (by omega),if_neg (by omega),if_pos (by omega),if_pos (by omega),if_pos (by omega)]
  ·by_cases h2:q=off+k
   ·subst h2;rw[if_pos (by omega),if_pos (by omega),if_pos (by omega),if_pos rfl,if_pos (by omega),if_pos (by omega),if_neg (by omega),if_pos (by omega)]
   ·by_cases h3:q<off+(k+1)+r.length
    ·rw[if_pos (by omega),if_neg (by omega),if_pos (by omega),if_neg (by omega),if_neg (by omega)]
     try(congr 1<;>omega)
    ·rw[if_neg (by omega),if_neg (by omega),if_neg (by omega)]
     first|done|(congr 1;omega)
theorem zo8(off:Nat)(l:List Value)(cs:Array Value)(h:off+l.length<=cs.size):
 ((l.toArray.zipIdx).foldl (λcs (p:Value×Nat)=>cs.setIfInBounds (off+p.2) p.1) cs).toList=cs.toList.take off++l++cs.toList.drop (off+l.length):=by
 have:=z130 off l 0 cs (by omega);rw[<-Array.foldl_toList,Array.toList_zipIdx];simpa using this
theorem Pt(hr:Rel tq X s a){t:Ty}{pl:Nat->ae (Nat×Nat)}(oP:∀i ft,t.at_ [i]=some ft->t.tO i=true->t.nH [i]/\pl i=some (t.off [i],ft.cells)){R:Type}{K:El t->List (List Nat)->ae R}{z:R}:
 ∀(parts:List (Nat×Operand)) (x:El t) (own:List (List Nat)) (cs:Array Value),eI X t x cs.toList->AH t x own (parts.map λp=>(p.1,s.cP p.2,[])) K=some z->
  ∃y si cells,K y si=some z/\kv pl cs (parts.map λp=>(p.1,a.eval p.2))=some cells/\eI X t y cells.toList
 | [],x,own,cs,rep,h=>⟨x,own,cs,h,rfl,rep⟩
 |(i,p)::r,x,own,cs,rep,h=>by
  simp only[bd,AH] at h;split at h
  case isTrue=>cases h
  rename_i hb;have hb:t.tO i=true:=by cases Ag:t.tO i<;>simp_all
  split at h
  case h_2=>cases h
  rename_i ft iC;obtain⟨y,h,hy⟩:=zz h;split at h
  case h_2=>cases h
  rename_i x' oo;obtain⟨c,rc,ec⟩:=hy X _ _ (hr.cP p);obtain⟨lR,hp⟩:=oP i ft iC hb;have oj:=rc.len;have nB:=rep.len;have hle:=nY t [i] ft iC lR;have Ct:=ot rep lR iC oo rc;have lQ:t.off [i]+c.length<=cs.size:=by rw[oj];simp at nB;omega
  have uk:=zo8 (t.off [i]) c cs lQ;obtain⟨y2,tm,cells,h1,h2,h3⟩:=Pt hr oP r x' _ _ (by rw[uk];exact Ct) h;refine⟨y2,tm,cells,h1,?_,h3⟩;simp only[bd,kv,hp,ec,Da rc];rw[if_neg (by simp only[List.size_toArray,oj];simp;simp at nB;omega)];exact h2
theorem Vz{t:Ty}{pl:Nat->ae (Nat×Nat)}(oP:∀i ft,t.at_ [i]=some ft->t.tO i=true->t.nH [i]/\pl i=some (t.off [i],ft.cells)){R:Type}{K:El t->List (List Nat)->ae R}{z:R}:
 ∀(parts:List (Nat×Operand)) (X:cc) (s:State) (x:El t) (own:List (List Nat)) (cs:Array Value),Rel tq X s a->eI X t x cs.toList->eO X (.r 0) t x cs.toList own->AH t x own (vw s parts).1 K=some z->
  ∃y si cells Y,K y si=some z/\Y.w=X.w/\Ext X Y/\Rel tq Y (s.close (vw s parts).2) a/\kv pl cs (parts.map λp=>(p.1,a.eval p.2))=some cells/\eI Y t y cells.toList/\eO Y (.r 0) t y cells.toList si
 | [],X,s,x,own,cs,hr,rep,ho,h=>⟨x,own,cs,X,h,rfl,Ext.refl X,hr,rfl,rep,ho⟩
 |(i,p)::r,X,s,x,own,cs,hr,rep,ho,h=>by
  simp only[vw,AH] at h;split at h
  case isTrue=>cases h
  rename_i hb;have hb:t.tO i=true:=by cases Ag:t.tO i<;>simp_all
  split at h
  case h_2=>cases h
  rename_i ft iC;have hc:Fp (s.cP p).own p=src p\/((s.cP p).own=[]/\Fp (s.cP p).own p=[]):=by
   cases gD:(s.cP p).own with
   |nil=>exact .inr ⟨rfl,rfl⟩
   |cons _ _=>exact .inl rfl
  obtain⟨y,h,hy⟩:=zxm hr h hc;split at h
  case h_2=>cases h
  rename_i x' oo;obtain⟨Y,c,hw,dO,fb,rc,ec,hO,hβ,hT,gy⟩:=hy (λq=> .r 0 ([i]++q));obtain⟨lR,hp⟩:=oP i ft iC hb;have oj:=rc.len;have nB:=rep.len;have hle:=nY t [i] ft iC lR;have OL:=rep.mono dO;have hoY:=ho.stay gy (by simp);have Ct:=ot OL lR iC oo rc;have Cn:=Rq OL lR iC oo rc hoY hO;have lQ:t.off [i]+c.length<=cs.size:=by rw[oj];simp at nB;omega
  have uk:=zo8 (t.off [i]) c cs lQ;obtain⟨y2,tm,cells,Z,h1,C4,iu,lB,h2,h3,h4⟩:=Vz oP r Y _ x' _ _ fb (by rw[uk];exact Ct) (by rw[uk];exact Cn) h;refine⟨y2,tm,cells,Z,h1,C4.trans hw,dO.trans iu,?_,?_,h3,h4⟩
  ·simp only[vw,zgi];exact lB
  ·simp only[bd,kv,hp,ec,Da rc];rw[if_neg (by simp only[List.size_toArray,oj];simp;simp at nB;omega)];exact h2
theorem zxf(hE:bO P E):∀(fl:List Field) (t:Ty) (off:Nat),rW E fl t off->∃places,fl.mapM (λ(f:Field)=>(P.info? f.type).map λi=>(f.offset,i.size))=some places/\
 ∀(j:Nat) (f:Field) (ft:Ty),fl[j]? =some f->E.ty f.type=some ft->places[j]? =some (f.offset,ft.cells)
 | [],t,off,h=>⟨[],rfl,λj f ft hj=>by simp at hj⟩
 |f::r,t,off,h=>by
  cases t<;>simp only[rW] at h<;>try exact h.elim
  rename_i ta tb;obtain⟨h1,h2,h3,h4⟩:=h;obtain⟨places,g1,g2⟩:=zxf hE r tb _ h4;obtain⟨i,i1,i2,_⟩:=(hE.ty _ _ h2).info;refine⟨(f.offset,i.size)::places,?_,λj g gt hj hg=> ?_⟩
  ·simp [List.mapM_cons,i1,g1]
  ·cases j with
   |zero=>simp only[bU,aC] at hj;subst hj;rw[h2] at hg;cases hg;simp [i2]
   |succ j=>simp only[bI] at hj⊢;exact g2 j g gt hj hg
theorem afr(hE:bO P E)(hr:Rel tq X s a){T:TypeId}{t:Ty}(hT:E.ty T=some t)(Af:t.agg=true){R:Type}{K:El t->List (List Nat)->ae R}{z:R}(parts:Array (Nat×Operand))
 (h:AH t (El.gG t) (Fm t) (vw s parts.toList).1 K=some z):
 ∃y own cs Y,K y own=some z/\Y.w=X.w/\Ext X Y/\Rel tq Y (s.close (vw s parts.toList).2) a/\eI Y t y cs/\eO Y (.r 0) t y cs own/\(Instr.build T (parts.map λ(i,x)=>(i,a.eval x))).run P X.w= .ok (mW t cs) X.w:=by
 have hf:=hE.ty T t hT;obtain⟨i,i1,i2,i3,i4⟩:=hf.info;have hz:=A3 X t;have hn:=zzb X (.r 0) t;have Om:(mW t (zo t)).cells=(zo t).toArray:=Da hz;have tN:(parts.map λ(i,x)=>(i,a.eval x)).toList=parts.toList.map λp=>(p.1,a.eval p.2):=by simp
 cases t with
 |arr n t=>
  obtain⟨e,hu,he,_⟩:=hf.me;obtain⟨ie,j1,j2,_⟩:=(hE.ty e t he).info;obtain⟨y,own,cells,Y,k1,hw,dO,fb,k2,k3,k4⟩:=Vz (pl:=λi=>some (i*ie.size,ie.size)) (λi ft iC hb=>by
   simp only[Ty.at_,aC] at iC;subst iC;have hb:i+1<=n:=by simpa [Ty.tO] using hb
   exact⟨⟨hb,by simp [Ty.nH]⟩,by simp [Ty.off,j2]⟩) parts.toList X s (El.gG (.arr n t)) _ (zo (.arr n t)).toArray hr (by simpa using hz) (by simpa using hn) h
  refine⟨y,own,cells.toList,Y,k1,hw,dO,fb,k3,k4,?_⟩;rw[sw rfl];refine run_build X.w T _ cells.toList.toArray ?_;unfold l5;simp only[i1,hu,i4,j1,Om,tN];simpa using k2
 |pair ta tb=>
  obtain⟨fs,hu,lQ,_⟩:=hf.me;obtain⟨places,p1,p2⟩:=zxf hE fs.toList _ 0 lQ;obtain⟨y,own,cells,Y,k1,hw,dO,fb,k2,k3,k4⟩:=Vz (pl:=(places.toArray[·]?)) (λi ft iC hb=>by obtain⟨f,g1,g2,g3,g4⟩:=TO fs.toList _ 0 i ft lQ rfl iC;refine⟨g4,?_⟩;have:=p2 i f ft g1 g3;simp only[List.getElem?_toArray,this,g2,bK]) parts.toList X s (El.gG (.pair ta tb)) _ (zo (.pair ta tb)).toArray hr (by simpa using hz) (by simpa using hn) h
  refine⟨y,own,cells.toList,Y,k1,hw,dO,fb,k3,k4,?_⟩;rw[sw rfl];refine run_build X.w T _ cells.toList.toArray ?_;unfold l5;simp only[i1,hu,i4,p1,Om,tN];simpa using k2
 |unit=>obtain⟨fs,hu,lQ,_⟩:=hf.me;obtain⟨places,p1,p2⟩:=zxf hE fs.toList _ 0 lQ;obtain⟨y,own,cells,Y,k1,hw,dO,fb,k2,k3,k4⟩:=Vz (pl:=(places.toArray[·]?)) (λi ft iC hb=>by simp [Ty.at_] at iC) parts.toList X s (El.gG .unit) _ (zo .unit).toArray hr (by simpa using hz) (by simpa using hn) h;refine⟨y,own,cells.toList,Y,k1,hw,dO,fb,k3,k4,?_⟩;rw[sw rfl];refine run_build X.w T _ cells.toList.toArray ?_;unfold l5;simp only[i1,hu,i4,p1,Om,tN];simpa using k2
 |dJ k a b=>exact absurd (hE.rB hT) (by simp [Ty.fG])
 |_=>simp [Ty.agg] at Af
def cc.wJ(X:cc)(j:Nat)(q:List Nat->Place):cc:=
 {X with ow:=λg=>match X.ow g with
  | .row (.r j' p) n=>if j'=j then .row (q p) n else .row (.r j' p) n
  |w=>w}
theorem adS{s:State}{X:cc}{j:Nat}{q:List Nat->Place}:ng s X (X.wJ j q):=by
 refine⟨rfl,rfl,λg=> ?_⟩;simp only[cc.wJ];cases hg:X.ow g with
 |row pl n=>
  cases pl with
  |r j' p=>
   by_cases e:j'=j
   ·subst e;exact .inr ⟨_,n,q p,rfl,λh=>h,by simp⟩
   ·exact .inl (if_neg e)
  |_=>exact .inl rfl
 |_=>exact .inl rfl
theorem eO.E8{X:cc}{j:Nat}{q:List Nat->Place}{t:Ty}{x:El t}{cs:List Value}{own:List (List Nat)}(h:eO X (.r j) t x cs own):eO (X.wJ j q) q t x cs own:=λp hp=>by
 obtain⟨e,t',xs,v,g0,g1,g2,g3⟩:=h p hp;refine⟨e,t',xs,v,g0,g1,g2,?_⟩;rcases g3 with h|⟨g,cap,cur,h1,h2,h3,h4,h5,h6⟩
 ·exact .inl h
 ·exact .inr ⟨g,cap,cur,h1,h2,h3,h4,h5,by simp [cc.wJ,h6]⟩
theorem adh(hE:bO P E)(hr:Rel tq X s a){ops:List Oper}{T:TypeId}{parts:Array (Nat×Operand)}(ho:o.op= .build T parts){C:FuncId->gK Out}(h:act E C ops o s some=some u):cQ P tq X s a o u:=by
 unfold act at h;simp only[ho] at h;split at h
 case h_2=>cases h
 rename_i t hT;split at h
 case isTrue=>cases h
 rename_i Af;have Af:t.agg=true:=by cases Ag:t.agg<;>simp_all
 obtain⟨y,own,cs,Y,h,hw,dO,fb,rep,hO,dK⟩:=afr hE hr hT Af parts h;cases h;have vm:=adS (s:=s.close (vw s parts.toList).2) (X:=Y) (j:=0) (q:= .c (o.dst.getD 0) 0);refine⟨Y.wJ 0 (.c (o.dst.getD 0) 0),mW t cs,.inl ?_,dO.trans vm.ext,(fb.mod vm.mod).fin ⟨cs,rep.bE (λ_ _=>vm.cn.1),rfl,hO.E8⟩ (λid t p hm=>by simp at hm)⟩;rw[vm.w,hw];simp only[execOp,ho,ay,dK,aj,aG]
end Go.Ref

namespace Go.Ref
open Go
variable {P:Program} {E:Env} {X:cc} {s:State} {a:Act} {o:Oper} {u:Out}
theorem aiq{t:Ty}{x:El t}{xs:List (El t)}{n:Nat}{c cs:List Value}(h1:eI X t x c)(h2:eI X (.arr n t) xs cs):eI X (.arr (n+1) t) (x::xs:List (El t)) (c++cs):=by
 obtain⟨k1,k2,k3⟩:=h2;have hl:=h1.len;refine⟨by simp;exact k1,by simp [k2,hl,bL];omega,λj y hj=> ?_⟩;cases j with
 |zero=>simp only[bU,aC] at hj;subst hj;rw[Nat.zero_mul,aN,<-hl,eb];exact h1
 |succ j=>
  simp only[bI] at hj;have hd:(c++cs).drop ((j+1)*t.cells)=cs.drop (j*t.cells):=by rw[bL,ct,Nat.add_comm,<-dL,<-hl,gb]
  rw[hd];exact k3 j y hj
theorem K9{t:Ty}{xs ys:List (El t)}{n m:Nat}{c d:List Value}(h1:eI X (.arr n t) xs c)(h2:eI X (.arr m t) ys d):eI X (.arr (n+m) t) (xs++ys:List (El t)) (c++d):=by
 obtain⟨j1,j2,j3⟩:=h1;obtain⟨k1,k2,k3⟩:=h2;refine⟨by rw[aF,j1,k1],by rw[aF,j2,k2,bL],λj y hj=> ?_⟩;by_cases bR:j<n
 ·rw[bj (by rw[j1];exact bR)] at hj;have hle:(j+1)*t.cells<=n*t.cells:=bB _ bR;rw[bL,ct] at hle;rw[dE (by omega),er (by rw[bF];omega)];exact j3 j y hj
 ·rw[bc (by rw[j1];omega),j1] at hj;have hd:(c++d).drop (j*t.cells)=d.drop ((j-n)*t.cells):=by
   have hm:j*t.cells=c.length+(j-n)*t.cells:=by rw[j2,<-bL];congr 1;omega
   rw[hm,je]
  rw[hd];exact k3 _ y hj
theorem zsk{t:Ty}{ad:Addr}(hs:ad.spot=none):∀(xs:List (El t)) (p:Nat),(∀(j:Nat) x,xs[j]? =some x->∃nG,eI X t x nG/\∀(i:Nat) v,nG[i]? =some v->X.cn (ad.add (p+(j*t.cells+i))) v)->
 ∃cs,eI X (.arr xs.length t) xs cs/\∀(i:Nat) v,cs[i]? =some v->X.cn (ad.add (p+i)) v
 | [],p,h=>⟨[],⟨rfl,by simp,λj x hj=>by simp at hj⟩,λi v hi=>by simp at hi⟩
 |x::xs,p,h=>by
  obtain⟨c,r1,s1⟩:=h 0 x rfl;obtain⟨cs,r2,s2⟩:=zsk hs xs (p+t.cells) (λj y hj=>by obtain⟨c',r',s'⟩:=h (j+1) y hj;refine⟨c',r',λi v hi=> ?_⟩;have:=s' i v hi;rw[show p+((j+1)*t.cells+i)=p+t.cells+(j*t.cells+i) by rw[bL];omega] at this;exact this)
  have hl:=r1.len;refine⟨c++cs,aiq r1 r2,λi v hi=> ?_⟩;rw[iU] at hi;split at hi
  ·have:=s1 i v hi
   rwa [show p+(0*t.cells+i)=p+i by omega] at this
  ·have:=s2 _ v hi
   rwa [show p+t.cells+(i-c.length)=p+i by omega] at this
theorem zal{e:TypeId}{t:Ty}{xs:List (El t)}{A:ae Addr}{n c:Nat}(h:eI X (.sl e t) xs [.slice A n c]):n=xs.length/\xs.length<=c/\
 ∃cs,eI X (.arr xs.length t) xs cs/\(A=none->xs=[])/\∀ad,A=some ad->∀(i:Nat) v,cs[i]? =some v->X.cn (ad.add i) v:=by
 obtain⟨A',c',h1,h2,h3⟩:=h;simp only[List.cons.injEq,Value.slice.injEq,and_true] at h1;obtain⟨rfl,rfl,rfl⟩:=h1;refine⟨rfl,h2,?_⟩;cases xs with
 |nil=>exact⟨[],⟨rfl,by simp,λj x hj=>by simp at hj⟩,λ_=>rfl,λad _ i v hi=>by simp at hi⟩
 |cons x r=>
  obtain⟨ad,_,hA,hs,_⟩:=h3 0 x rfl;subst hA;obtain⟨cs,k1,k2⟩:=zsk (X:=X) hs (x::r) 0 (λj y hj=>by obtain⟨yJ,c',e1,_,g1,g2⟩:=h3 j y hj;cases e1;exact⟨c',g1,λi v hi=>by rw[bK];exact g2 i v hi⟩)
  refine⟨cs,k1,(λe=>by cases e),λyJ e i v hi=> ?_⟩;cases e;have:=k2 i v hi
  rwa [bK] at this
theorem zhl{e:TypeId}{t:Ty}{xs:List (El t)}{g cap:Nat}{pl:Place}{cur:Array Value}{cs:List Value}(hg:X.w.heap[g]? =some (.cells cur e (0,0)))(how:X.ow g= .row pl (xs.length*t.cells))
 (wu:cur.toList.take (xs.length*t.cells)=cs) (de:eI X (.arr xs.length t) xs cs) (vY:xs.length<=cap):eI X (.sl e t) xs [.slice (some ⟨g,0,none⟩) xs.length cap]:=by
 refine⟨_,cap,rfl,vY,λj x hj=>⟨_,_,rfl,rfl,de.2.2 j x hj,λi v hi=> ?_⟩⟩;have Ce:=(aA.1 hj).1;have hle:(j+1)*t.cells<=xs.length*t.cells:=bB _ Ce;rw[bL,ct] at hle;rw[bq] at hi;split at hi
 case isFalse=>cases hi
 rename_i UK;rw[bJ,<-wu,bq,if_pos (by omega)] at hi;refine⟨Hq rfl _,?_,?_⟩
 ·rw[q7,bK];simp only[bT,hg];simpa using hi
 ·rw[q7,bK];show Ow.used (X.ow g) _;rw[how];show j*t.cells+i<_;omega
end Go.Ref

namespace Go.Ref
open Go
variable {P:Program} {tq:oK} {E:Env} {X:cc} {s:State} {a:Act} {o:Oper} {u:Out}
theorem zyp{R:Type}{t:Ty}{n:Nat}{K:List (El t)->ae R}:∀(parts:List (Nat×SV)) (xs:List (El t)) (own:List (List Nat)),xs.length=n->HG t xs parts K=AH (.arr n t) xs own (parts.map λp=>(p.1,p.2,[])) (λy _=>K y)
 | [],xs,own,h=>rfl
 |(i,v)::r,xs,own,h=>by subst h;simp only[HG,bd,AH,Ty.tO,Ty.at_,El.set,Ty.iG,dite_true,Option.map_some];congr 1;refine congrArg (v.el t) (funext λy=> ?_);exact zyp r (xs.set i y) _ (by simp)
theorem ag7{t:Ty}(n:Nat)(hk:0<t.cells):((fH (n*t.cells)).map λi=>(zo t).toArray[i % (zo t).toArray.size]!).toList=(aw n (zo t)).flatten:=by
 have hz:=CQ t;apply bZ;intro q;have hlen:((aw n (zo t)).flatten).length=n*t.cells:=by simp [hz]
 by_cases hq:q<n*t.cells
 ·have h1:q/t.cells<n:=(kQ hk).2 hq;have h2:=z97 hz n (q/t.cells) h1;have h3:=congrArg (λl=>l[q % t.cells]?) h2;simp only[bq,bJ,if_pos (Nat.mod_lt q hk)] at h3;rw[Nat.mul_comm,Nat.div_add_mod] at h3;rw[h3];have hm:q % t.cells<(zo t).length:=by rw[hz];exact Nat.mod_lt q hk
  rw[av hm];simp [hq,hz,hm];rw[av hm];rfl
 ·rw[aS (by simp;omega),aS (by omega)]
theorem Ro{X:cc}{pl:List Nat->Place}{e:TypeId}{t:Ty}{xs:List (El t)}{v:Value}(h:fa X (pl []) e t.cells xs.length v):eO X pl (.sl e t) xs [v] [[]]:=λp hp=>by
 have hp:p=[]:=by simpa using hp
 subst hp;exact⟨e,t,xs,v,by simp [Ty.nH],rfl,rfl,h⟩
theorem zrg(hE:bO P E)(hr:Rel tq X s a){ops:List Oper}{T:TypeId}{n:Nat}{parts:Array (Nat×Operand)}(ho:o.op= .buildSlice T n parts){C:FuncId->gK Out}(h:act E C ops o s some=some u):cQ P tq X s a o u:=by
 unfold act at h;simp only[ho] at h;split at h
 case h_2=>cases h
 rename_i e t hT;split at h
 case isTrue=>cases h
 rename_i GH;have hk:0<t.cells:=by rcases Nat.eq_zero_or_pos t.cells with h0|h0<;>simp_all
 cases hb:bn (n*t.cells) 16777216 with
 |false=>rw[hb] at h;cases h
 |true=>
  rw[hb] at h;simp only[cond_true] at h;have Cu:n*t.cells<=16777216:=ci hb;rw[zyp (n:=n) _ _ [] (by simp),List.map_map] at h;obtain⟨hu,he⟩:=(hE.ty T _ hT).me;have lL:=uE (P:=P) hE he X.w;have hzr:=V2 (P:=P) hE he X.w;have II:=A3 X (.arr n t);obtain⟨y,si,cells,k1,k2,k3⟩:=Pt (pl:=λi=>some (i*t.cells,t.cells)) hr (λi ft iC hb=>by
   simp only[Ty.at_,aC] at iC;subst iC;have hb:i+1<=n:=by simpa [Ty.tO] using hb
   exact⟨⟨hb,by simp [Ty.nH]⟩,by simp [Ty.off]⟩) parts.toList (El.gG (.arr n t)) [] (zo (.arr n t)).toArray (by simpa using II) h
  cases k1;have hy:ag y=n:=k3.1;have nB:cells.size=n*t.cells:=by have:=k3.2.1;simpa using this
  have hn:n<=n*t.cells:=Nat.le_mul_of_pos_right n hk;let Y:=X.new cells e (.row (.c (o.dst.getD 0) 0 []) (n*t.cells)) X.β;have EA:nO s X Y:=SY X s cells e _ _ rfl (λ_ _ _=>rfl);obtain⟨n1,n2⟩:=SP X cells e (.row (.c (o.dst.getD 0) 0 []) (n*t.cells)) X.β;refine⟨Y,.slice (some ⟨X.w.heap.size,0,none⟩) n n,.inl ?_,EA.ext,?_⟩
  ·have hcz:(Array.map (λx=>(mW t (zo t)).cells[x % (mW t (zo t)).cells.size]!) (fH (n*t.cells)))=(zo (.arr n t)).toArray:=by apply Array.ext';rw[Da (A3 X t),ag7 n hk];rfl
   have tN:(parts.map λ(i,x)=>(i,a.eval x)).toList=parts.toList.map λp=>(p.1,a.eval p.2):=by simp
   by_cases hn0:n*t.cells=0
   ·have aat:n=0:=by
     rcases Nat.mul_eq_zero.1 hn0 with h0|h0
     ·exact h0
     ·omega
    subst aat;have k2':kv (λi=>some (i*t.cells,t.cells)) #[] (parts.toList.map λp=>(p.1,a.eval p.2))=some cells:=k2;have anz:(parts.map λx=>(x.1,a.eval x.2)).toList=parts.toList.map λp=>(p.1,a.eval p.2):=by simp
    simp [execOp,ho,Instr.buildSlice,run_underlying hu,lL,newRow,Y,cc.new];rw[show(Array.map (λx=>default) (fH 0):Array Value)= #[] by simp,k2'];simp
   ·have hc:=hcz;simp [execOp,ho,Instr.buildSlice,run_underlying hu,lL,hzr,hn0,newRow,Y,cc.new,Nat.not_lt.2 Cu];rw[hcz,k2];simp
  ·refine(hr.lV EA).fin ?_ (λid t p hm=>by simp at hm);refine⟨[.slice (some ⟨X.w.heap.size,0,none⟩) n n],?_,rfl,Ro ?_⟩
   ·rw[<-hy];refine zhl (pl:= .c (o.dst.getD 0) 0 []) (cur:=cells) (cs:=cells.toList) n1 (by rw[hy];exact n2) ?_ ?_ (aZ _)
    ·rw[hy,bV (by simp [nB])]
    ·rw[hy];exact k3.bE (λ_ _=>EA.cn)
   ·refine .inr ⟨X.w.heap.size,n,cells,by rw[hy],n1,by rw[hy];exact aZ _,?_,nB,by rw[hy];exact n2⟩;simp only[maxLen];omega
end Go.Ref

