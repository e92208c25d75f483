/- No condition. -/
import Derived.Test.YtodeabafemckjaaGreatDoorK0
import Derived.WideKeyRuns
import Derived.MapKept
import Derived.Laws.CopyRow
set_option linter.unusedVariables false
set_option linter.unusedSimpArgs false
set_option maxRecDepth 100000
open Array renaming getD_eq_getD_getElem?->aZ,getElem?_eq_getElem->bf,getElem?_toList->bn,toArray_toList->bT,toList_append->cT,getElem?_setIfInBounds_ne->dk,getElem?_setIfInBounds->dc,length_toList->eV,toList_inj->iz,replicate->gC,all_eq_true_iff_forall_mem->gB,range->fB
open Bool renaming and_eq_true->ar,false_eq_true->cI,or_eq_false_iff->cF,or_eq_true->ja
open Function renaming comp_def->jK
open Go renaming undef->aT
open Go.Builtin renaming firstCells->dy,lenOf->fh,append_->jb
open Go.Call renaming operands->fj
open Go.Code renaming region->iu
open Go.Deferred renaming ofValue->ka
open Go.Instr renaming storeAt->eM,findAsking->iF,checkKey->ju,sameNow->jY,findNow->lL
open Go.IntKind renaming u8->lM
open Go.MapKept renaming run_getObj_map->hG,run_checkKey->kO,run_findKey->lp,IsKey->lN
open Go.Op renaming operands->aS
open Go.Oper renaming upon_value->jg,wp->gN,upon_skip->jw,upon_enter->kL
open Go.Region renaming wanted->cr,ready->eh,binds->fW
open Go.Result renaming andThen_ok->al
open Go.RowKit.Below renaming heap_alloc->j6
open Go.Sem renaming run_bind->ax,run_pure->aD
open Go.Utf8 renaming decode->dp
open Go.World renaming cell?->bP,block_lt_of_cell?->ey
open List renaming length->ag,getD_eq_getElem?_getD->aq,getElem?_eq_getElem->au,getElem?_set->ay,getElem?_eq_some_iff->aC,replicate->aB,mem_cons_of_mem->aG,length_cons->aF,length_append->aJ,mem_cons->aH,mem_of_getElem?->aN,getElem?_map->aL,getElem?_eq_none->aQ,take->aI,mem_append->aR,length_take->aU,all_eq_true->aY,getElem?_append_right->bh,mem_filter->bc,append_assoc->bd,getElem?_take->bj,pairwise_cons->bF,eq_nil_of_length_eq_zero->bD,getElem?_append_left->bG,map_cons->bq,mem_range->bU,getElem?_drop->bI,getElem?_cons_succ->bH,mem_map->bM,getElem?_cons_zero->bQ,length_drop->bW,ext_getElem?->bV,mem_singleton->cJ,pairwise_append->cG,take_of_length_le->cp,any_eq_false->cE,range->cW,map_append->cz,length_map->dG,mem_append_left->dm,filter_eq_self->dK,map_nil->eH,length_set->gD,map_congr_left->dL,filter_cons->dQ,take_left->dW,map_map->kq,range_succ->fx,size_toArray->jN,flatMap_cons->fJ,getElem?_toArray->kC,map_toArray->kg,flatMap_map->iJ,flatMap_def->iI,append_inj->jc,getElem?_range->jm,filter_congr->jL,flatMap_append->lm,set_set->l5
open Nat renaming beq->ak,eq_of_beq_eq_true->aE,mul_le_mul_right->bp,le_refl->bg,zero_add->bJ,add_mul->bK,min_eq_left->bL,le_of_ble_eq_true->b7,ble->bC,add_sub_cancel_left->cg,zero_le->bR,one_mul->cm,testBit_or->dX,lt_or_ge->eg,testBit_two_pow->dM,le_add_right->ki,shiftLeft_eq->iK,add_zero->eZ,ne_of_beq_eq_false->hJ,mul_one->mw,min_comm->l6,min->lr
open Option renaming map_eq_some_iff->av,getD_some->c8,map_some->dH,map_none->kM
open Option.some renaming injEq->az
open Prod.mk renaming injEq->gm
namespace Go.Ref
open Go
variable {P:Program} {tq:n4} {E:Env} {X:bZ} {s:State} {a:Act} {o:Oper} {u:Out}
inductive Grown(w w':World)(e:TypeId)(k:Nat)(vb v':Value)(cx cy:List Value)(n:Nat):Prop where
 |same (h:w'=w) (hv:v'=vb) (hy:cy=[])
 |room (g cap:Nat) (cur oj:Array Value) (hb:∃m,vb= .slice (some ⟨g,0,none⟩) m cap) (hg:w.heap[g]? =some (.cells cur e (0,0))) (hv:v'= .slice (some ⟨g,0,none⟩) n cap) (hn:n<=cap) (hm:cap<=maxLen)
   (hw:w'=w.setRow g oj) (hs:oj.size=cap*k) (ht:oj.toList.take (n*k)=cx++cy)
 |new (cap:Nat) (oj:Array Value) (hv:v'= .slice (some ⟨w.heap.size,0,none⟩) n cap) (hn:n<=cap) (hm:cap<=maxLen) (hw:w'=w.drew.alloc (.cells oj e)) (hs:oj.size=cap*k) (ht:oj.toList.take (n*k)=cx++cy)
theorem ady(hE:bN P E){T ty e:TypeId}{t:Ty}(hT:E.ty T=some (.sl e t))(hk:0<t.cells)(vL:E.bytes e≠0){xs ys:List (El t)}{vb vx:Value}{pl:Place}
 (gu:eO X pl e t.cells xs.length vb) {cx cy:List Value} (rx:eC X (.arr xs.length t) xs cx) (sx:∀g m c,vb= .slice (some ⟨g,0,none⟩) m c->∀(i:Nat) v,cx[i]? =some v->X.cf ((⟨g,0,none⟩:Addr).add i) v)
 (ry:eC X (.arr ys.length t) ys cy) (hvx:∃A c,vx= .slice A ys.length c/\(A=none->ys=[])/\∀ad,A=some ad->∀(i:Nat) v,cy[i]? =some v->X.cf (ad.add i) v)
 (hbound:(xs.length+ys.length)*E.bytes e<=140737488355328):
 ∃v' w',(jb #[T,T] ty #[vb,vx]).run P X.w= .ok v' w'/\Grown X.w w' e t.cells vb v' cx cy (xs.length+ys.length)/\(v'= .slice none 0 0->xs.length+ys.length=0):=by
 obtain⟨hu,he⟩:=(hE.ty T _ hT).lU;obtain⟨i,hi,gU,ot,hz⟩:=(hE.ty e t he).info;have hzs:(mH t (zp t)).cells.size=t.cells:=by rw[CX (Ax X t)];simp [Cv]
 have Ec:cx.length=xs.length*t.cells:=rx.2.1;have BP:cy.length=ys.length*t.cells:=ry.2.1;have h1:∀u∈cy,u.oneCell'=true:=ry.one;have hle:xs.length+ys.length<=140737488355328:=Nat.le_trans (Nat.le_mul_of_pos_right _ (Nat.pos_of_ne_zero vL)) hbound;have Gd:xs.length+ys.length<=maxLen:=by simp only[maxLen];omega
 obtain⟨A,c,rfl,hA,KE⟩:=hvx;cases A with
 |none=>
  have B5:=hA rfl;subst B5;have hcy:cy=[]:=bD (by simpa using BP);subst hcy;rcases gu with⟨rfl,hn⟩|⟨g,cap,cur,rfl,hg,NN,Aj,mZ,how⟩
  ·refine⟨.slice none 0 0,X.w,?_,.same rfl rfl rfl,λ_=>by simp [hn]⟩;simp [jb,run_underlying hu,sizeOf,typeInfo,hi,fh,dy]
  ·refine⟨_,X.w,?_,.same rfl rfl rfl,λe=>by cases e⟩;simp [jb,run_underlying hu,sizeOf,typeInfo,hi,fh,dy,NN,storeCells]
 |some ad=>
  have hny:∀j u,cy[j]? =some u->X.w.cell? (ad.add j)=some u:=λj u hj=>(KE ad rfl j u hj).2.1;have uc:∀(old:Nat),(cx.toArray++cy.toArray++Builtin.zeroCells (mH t (zp t)).cells (grownCap X.w (xs.length+ys.length) old e-(xs.length+ys.length))).size=grownCap X.w (xs.length+ys.length) old e*t.cells/\
   (cx.toArray++cy.toArray++Builtin.zeroCells (mH t (zp t)).cells (grownCap X.w (xs.length+ys.length) old e-(xs.length+ys.length))).toList.take ((xs.length+ys.length)*t.cells)=cx++cy:=by
   intro old;have UZ:=grownCap_ge X.w (xs.length+ys.length) old e;refine⟨?_,?_⟩
   ·simp only[Array.size_append,jN,size_zeroCells,hzs,Ec,BP,<-bK];congr 1;omega
   ·have hl:(cx++cy).length=(xs.length+ys.length)*t.cells:=by rw[aJ,Ec,BP,bK]
    rw[<-hl];simp only[cT];exact dW
  rcases gu with⟨rfl,hn⟩|⟨g,cap,cur,rfl,hg,NN,Aj,mZ,how⟩
  ·have D6:cx=[]:=bD (by rw[Ec,hn,Nat.zero_mul]);subst D6;by_cases hm:ys.length=0
   ·have hcy:cy=[]:=bD (by rw[BP,hm,Nat.zero_mul]);subst hcy;refine⟨.slice none 0 0,X.w,?_,.same rfl rfl rfl,λ_=>by omega⟩;simp [jb,run_underlying hu,sizeOf,typeInfo,hi,fh,dy,hm,loadCells,loadCellsFrom]
   ·have GC:xs.length=0:=hn;rw[GC,bJ] at hbound hle Gd;have hr:=run_append_nil (P:=P) X.w T ty e i (mH t (zp t)) hu hi hz ad ys.length c cy (by rw[gU];exact BP) hny (by omega) (by omega) (by rw[ot];omega);obtain⟨c1,c2⟩:=uc 0;have UZ:=grownCap_ge X.w (xs.length+ys.length) 0 e;have Aj:=grownCap_le_maxLen X.w (xs.length+ys.length) 0 e (by rw[GC,bJ];exact Gd);refine⟨_,_,hr,.new (grownCap X.w (xs.length+ys.length) 0 e) _ (by rw[GC,bJ]) UZ Aj ?_ c1 c2,λe=>by cases e⟩;rw[GC,bJ];simp
  ·by_cases vk:xs.length+ys.length<=cap
   ·have lD:xs.length*i.size+cy.length<=cur.size:=by rw[gU,BP,mZ,<-bK];exact bp _ vk
    have hr:=run_append_room (P:=P) X.w T ty e i hu hi g xs.length cap cur hg ad ys.length c cy (by rw[gU];exact BP) hny h1 vk lD;refine⟨_,_,hr,.room g cap cur _ ⟨_,rfl⟩ hg rfl vk Aj rfl ?_ ?_,λe=>by cases e⟩
    ·simp only[jN,aJ,aU,bW,eV];omega
    ·have vl:cur.toList.take (xs.length*i.size)=cx:=by
      rw[gU];apply bV;intro q;by_cases hq:q<xs.length*t.cells
      ·rw[bj,if_pos hq];have N7:=au (l:=cx) (i:=q) (by rw[Ec];exact hq);have:=(sx g _ _ rfl q _ N7).2.1;rw[qc,bJ] at this;simp only[bP,hg] at this;rw[N7];simpa using this
      ·rw[aQ (by rw[aU];omega),aQ (by omega)]
     have hl:(cx++cy).length=(xs.length+ys.length)*t.cells:=by rw[aJ,Ec,BP,bK]
     rw[vl,<-hl];simp only[dW]
   ·have holds:∀j u,cx[j]? =some u->X.w.cell? ((⟨g,0,none⟩:Addr).add j)=some u:=λj u hj=>(sx g _ _ rfl j u hj).2.1;have hr:=run_append_grow (P:=P) X.w T ty e i (mH t (zp t)) hu hi hz ⟨g,0,none⟩ xs.length cap cx (by rw[gU];exact Ec) holds ad ys.length c cy (by rw[gU];exact BP) hny (by omega) (by omega) (growslice_fits (by omega) (by rw[ot];exact hbound));obtain⟨c1,c2⟩:=uc cap;exact⟨_,_,hr,.new _ _ rfl (grownCap_ge _ _ _ _) (grownCap_le_maxLen _ _ _ _ Gd) rfl c1 c2,λe=>by cases e⟩
theorem eO.aai{X:bZ}{s:State}{pl:Place}{e:TypeId}{k n:Nat}{v:Value}(h:eO X pl e k n v)(hf:¬kW s pl)(q:Place):∃Y,mM s X Y/\eO Y q e k n v:=by
 rcases h with h|⟨g,cap,cur,h1,h2,h3,h4,h5,h6⟩
 ·exact⟨X,mM.refl s X,.inl h⟩
 ·refine⟨{X with ow:=λg'=>if g'=g then .row q (n*k) else X.ow g'},⟨rfl,rfl,λg'=> ?_⟩,.inr ⟨g,cap,cur,h1,h2,h3,h4,h5,by simp⟩⟩;by_cases e:g'=g
  ·subst e;exact .inr ⟨pl,_,q,h6,hf,by simp⟩
  ·exact .inl (by simp [e])
theorem an4{R:Type}{t t':Ty}{x:El t'}{w:List (List Nat)}{K:El t->ae R}{z:R}(h:(SV.b8 t' x w).el t K=some z):∃he:t'.iL t=true,K (Ty.cast he x)=some z:=by
 simp only[SV.el] at h;split at h
 ·rename_i he;exact⟨he,h⟩
 ·cases h
theorem acV(hE:bN P E)(hr:Rel tq X s a){ops:List Oper}{mA:Array Operand}{ts:Array TypeId}(ho:o.op= .call ⟨.builtin .append,mA,ts⟩){C:FuncId->gE Out}(h:act E C ops o s some=some u):cN P tq X s a o u:=by
 unfold act at h;simp only[ho] at h;split at h
 case h_2=>cases h
 rename_i b x T U Ao HJ;have has:mA= #[b,x]:=by rw[<-bT (xs:=mA),Ao]
 have sF:ts= #[T,U]:=by rw[<-bT (xs:=ts),HJ]
 subst has sF;have hb:=hr.cM b;have hx:=hr.cM x;unfold T1 at h;split at h
 case isTrue=>cases h
 rename_i hTU;have hTU:T=U:=by
  have:T.beq U=true:=by cases BG:ak T U<;>simp_all
  exact aE this
 subst hTU;split at h
 case h_2=>cases h
 rename_i e t hT;split at h
 case isTrue=>cases h
 rename_i h0;have h0:ak (E.bytes e) 0=false/\ak t.cells 0=false:=by cases h1:ak (E.bytes e) 0<;>cases h2:ak t.cells 0<;>simp_all
 have vL:E.bytes e≠0:=λe0=>by rw[e0] at h0;simp at h0
 have hk:0<t.cells:=by
  rcases Nat.eq_zero_or_pos t.cells with e0|e0
  ·rw[e0] at h0;simp at h0
  ·exact e0
 have key:∀(xs ys:List (El t)) (cl:List (Nat×Nat)) (pl:Place),¬kW (s.close cl) pl->eO X pl e t.cells xs.length (a.eval b)->eC X (.sl e t) xs [a.eval b]->eC X (.sl e t) ys [a.eval x]->
  (xs.length+ys.length)*E.bytes e<=140737488355328->cN P tq X s a o {v:=[.b8 (.sl e t) (xs++ys:List (El t)) [[]]],cl:=cl}:=by
  intro xs ys cl pl KC gu Ij tF hbound;obtain⟨A1,c1,Gx,GN⟩:=Ij;have e1:a.eval b= .slice A1 xs.length c1:=by simpa using Gx
  obtain⟨A2,c2,N5,OB⟩:=tF;have e2:a.eval x= .slice A2 ys.length c2:=by simpa using N5
  obtain⟨_,_,cx,rx,_,sx⟩:=zaq (X:=X) (e:=e) (show eC X (.sl e t) xs [.slice A1 xs.length c1] from⟨A1,c1,rfl,GN⟩);obtain⟨_,_,cy,ry,ny,sy⟩:=zaq (X:=X) (e:=e) (show eC X (.sl e t) ys [.slice A2 ys.length c2] from⟨A2,c2,rfl,OB⟩);have sx':∀g m c,a.eval b= .slice (some ⟨g,0,none⟩) m c->∀(i:Nat) v,cx[i]? =some v->X.cf ((⟨g,0,none⟩:Addr).add i) v:=by
   intro g m c hv;rw[e1] at hv;injection hv with hA
   exact sx _ hA
  obtain⟨v',w',dD,HT,q7⟩:=ady (ty:=o.type) hE hT hk vL gu rx sx' ry ⟨A2,c2,e2,ny,sy⟩ hbound;have Ec:cx.length=xs.length*t.cells:=rx.2.1;have BP:cy.length=ys.length*t.cells:=ry.2.1;have NY:(execOp a.eval o).run P X.w= .ok (.value v') w':=by simp only[execOp,ho,resolve,invoke,builtin,ax,aD,al,kg,bq,eH,dD]
  have fin:∀(Y:bZ),Y.w=w'->Mod (s.close cl) X Y->eC Y (.arr (xs.length+ys.length) t) (xs++ys:List (El t)) (cx++cy)->eO Y (.c (o.dst.getD 0) 0 []) e t.cells (xs.length+ys.length) v'->
   eC Y (.sl e t) (xs++ys:List (El t)) [v']->cN P tq X s a o {v:=[.b8 (.sl e t) (xs++ys:List (El t)) [[]]],cl:=cl}:=by
   intro Y hY hm mG ho2 H5;refine⟨Y,v',.inl (by rw[hY];exact NY),hm.ext,((hr.close cl).mod hm).fin ⟨[v'],H5,rfl,RS ?_⟩ (λid t p KB=>by simp at KB)⟩;rw[aJ];exact ho2
  cases HT with
  |same h1 h2 h3=>
   subst h2;have hy0:ys=[]:=by
    have:ys.length=0:=by
     rcases Nat.mul_eq_zero.1 (show ys.length*t.cells=0 by rw[<-BP,h3];rfl) with h|h
     ·exact h
     ·omega
    exact bD this
   subst hy0;obtain⟨Y,uw,hO2⟩:=eO.aai (s:=s.close cl) gu KC (.c (o.dst.getD 0) 0 []);refine fin Y (by rw[uw.w,h1]) uw.mod ?_ (by simpa using hO2) ?_
   ·have:=(KS rx ry)
    exact this.bz (λ_ _=>uw.cf.1)
   ·rw[List.append_nil];exact eC.bz (λ_ _=>uw.cf.1) (show eC X (.sl e t) xs [a.eval b] from⟨A1,c1,Gx,GN⟩)
  |new cap oj hv hn hm hw hs ht=>
   let Y:bZ:=⟨w',λg=>if g=X.w.heap.size then .row (.c (o.dst.getD 0) 0 []) ((xs.length+ys.length)*t.cells) else X.ow g,X.β⟩
   have Ea:nk (s.close cl) X Y:=⟨by simp [Y,hw],by simp only[Y,hw];rfl,by simp only[Y,hw];rfl,by simp only[Y,hw];rfl,λg hg=>⟨by simp only[Y];rw[if_neg (by omega)],by simp only[Y,hw];exact j6 _ _ _ hg⟩,rfl,λ_ _ _=>rfl⟩
   have cH:Y.w.heap[X.w.heap.size]? =some (.cells oj e (0,0)):=by simp only[Y,hw];exact heap_alloc_new X.w.drew _
   have how:Y.ow X.w.heap.size= .row (.c (o.dst.getD 0) 0 []) ((xs.length+ys.length)*t.cells):=by simp [Y]
   have cY:=(KS rx ry).bz (λ_ _=>Ea.cf);refine fin Y rfl Ea.mod cY (.inr ⟨_,cap,oj,hv,cH,hn,hm,hs,how⟩) ?_;rw[hv,<-aJ];exact zi4 (cs:=cx++cy) cH (by rw[aJ];exact how) (by rw[aJ];exact ht) (by rw[aJ];exact cY) (by rw[aJ];exact hn)
  |room g cap cur oj ub hg hv hn hm hw hs ht=>
   obtain⟨m,HK⟩:=ub;rcases gu with⟨hz,_⟩|⟨g',DY,Nf,qC,Kx,NN,Aj,mZ,how⟩
   ·rw[hz] at HK;cases HK
   have HS:g'=g:=by rw[HK] at qC;injection qC with h1;injection h1 with h1;injection h1 with h1;exact h1.symm
   subst HS;have aal:Nf=cur:=by rw[hg] at Kx;cases Kx;rfl
   subst aal;have bS:=C4 hg;let Y:bZ:=⟨w',λk=>if k=g' then .row (.c (o.dst.getD 0) 0 []) ((xs.length+ys.length)*t.cells) else X.ow k,X.β⟩
   have cH:Y.w.heap[g']? =some (.cells oj e (0,0)):=by simp only[Y,hw];exact setRow_heap X.w g' Nf oj e (0,0) hg
   have wJ:Y.ow g'= .row (.c (o.dst.getD 0) 0 []) ((xs.length+ys.length)*t.cells):=by simp [Y]
   have mS:∀ad v,X.cf ad v->Y.cf ad v:=by
    intro ad v rl;by_cases heq:ad.block=g'
    ·obtain⟨k1,k2,k3⟩:=rl;rw[heq,how] at k3;have k3:ad.off<xs.length*t.cells:=k3;have had:ad=(⟨g',0,none⟩:Addr).add ad.off:=by rw[qc,bJ];cases ad;simp_all
     have N7:=au (l:=cx) (i:=ad.off) (by rw[Ec];exact k3);have D6:=(sx' g' _ _ HK ad.off _ N7).2.1;rw[<-had,k2] at D6;refine⟨k1,?_,?_⟩
     ·have hq:oj.toList[ad.off]? =some v:=by have:=congrArg (λl=>l[ad.off]?) ht;simp only[bj] at this;have hle:xs.length*t.cells<=(xs.length+ys.length)*t.cells:=bp _ (ki _ _);rw[if_pos (by omega),bG (by rw[Ec];exact k3),N7] at this;rw[this];exact D6.symm
      simp only[bP,heq,cH,k1];simpa using hq
     ·rw[heq,wJ];have hle:xs.length*t.cells<=(xs.length+ys.length)*t.cells:=bp _ (ki _ _);show ad.off<_;omega
    ·refine⟨rl.1,?_,?_⟩
     ·have:=rl.2.1;simp only[bP,Y,hw] at this⊢;rw[setRow_other X.w g' ad.block oj heq];exact this
     ·simp only[Y];rw[if_neg heq];exact rl.2.2
   have H3:Mod (s.close cl) X Y:=⟨mS,by simp [Y,hw],by simp only[Y,hw];rfl,by simp only[Y,hw];rfl,by simp only[Y,hw];rfl,rfl,λ_ _ _=>rfl,λk hk=>by
    by_cases heq:k=g'
    ·subst heq;exact .inr ⟨pl,_,how,KC⟩
    ·refine .inl ⟨by simp only[Y];rw[if_neg heq],?_⟩;simp only[Y,hw];exact setRow_other X.w g' k oj heq⟩
   have cY:=(KS rx ry).bz mS;refine fin Y rfl H3 cY (.inr ⟨_,cap,oj,hv,cH,hn,hm,hs,wJ⟩) ?_;rw[hv,<-aJ];exact zi4 (cs:=cx++cy) cH (by rw[aJ];exact wJ) (by rw[aJ];exact ht) (by rw[aJ];exact cY) (by rw[aJ];exact hn)
 split at h
 ·rename_i qy;rw[qy] at hb;obtain⟨ys,h,B5⟩:=zy h;cases hd:decide (ag ys*E.bytes e<=140737488355328) with
  |false=>rw[hd] at h;cases h
  |true=>
   rw[hd] at h;cases h;obtain⟨cs,tF,ev⟩:=B5 X _ _ hx;have HK:a.eval b= .slice none 0 0:=hb;have BT:cs=[a.eval x]:=by obtain⟨A,c,mZ,_⟩:=tF;rw[ev,mZ];rfl
   have:=key [] ys [] (.r 0 []) (λhf=>hf) (.inl ⟨HK,rfl⟩) (by rw[HK];exact⟨none,0,rfl,bg _,λj x hj=>by simp at hj⟩) (by rw[<-BT];exact tF) (by simpa using of_decide_eq_true hd);simpa using this
 ·rename_i t' xs0 Ey qy;rw[qy] at hb;split at h
  case isTrue=>cases h
  rename_i Nx;have Nx:pa Ey []=true:=by cases BG:pa Ey []<;>simp_all
  obtain⟨heq,h⟩:=an4 h;have:=Ty.cS heq;subst this;obtain⟨ys,h,B5⟩:=zy h;cases hd:decide ((ag (Ty.cast heq xs0)+ag ys)*E.bytes e<=140737488355328) with
  |false=>rw[hd] at h;cases h
  |true=>
   rw[hd] at h;cases h;obtain⟨cs,tF,ev⟩:=B5 X _ _ hx;have jH:=G2 Nx;obtain⟨i,rfl⟩:=amV qy (λe=>by rw[e] at jH;cases jH);obtain⟨cs1,r1,UT,hO⟩:=hb;have BT:cs=[a.eval x]:=by obtain⟨A,c,mZ,_⟩:=tF;rw[ev,mZ];rfl
   have Gq:cs1=[a.eval (.tmp i)]:=by obtain⟨A,c,mZ,_⟩:=r1;rw[UT,mZ];rfl
   obtain⟨e',t'',xs',v',_,g1,g2,g3⟩:=hO [] jH;simp only[El.get,az,Sigma.mk.injEq,Ty.sl.injEq] at g1;obtain⟨⟨rfl,rfl⟩,g1⟩:=g1;cases g1;have qC:v'=a.eval (.tmp i):=by rw[Gq] at g2;simpa [Ty.off] using g2.symm
   rw[qC] at g3;exact key xs0 ys [(i,0)] (.c i 0 []) kW.close g3 (by rw[<-Gq];exact r1) (by rw[<-BT];exact tF) (of_decide_eq_true hd)
 ·cases h
end Go.Ref

namespace Go.Ref
open Go
variable {P:Program} {tq:n4} {E:Env} {X:bZ} {s:State} {a:Act} {o:Oper} {u:Out}
def bZ.obj(X:bZ)(r:Nat)(b:Obj):bZ:={X with w:={X.w with heap:=X.w.heap.setIfInBounds r b}}
theorem JD{r g:Nat}{b:Obj}(h:g≠r):(X.obj r b).w.heap[g]? =X.w.heap[g]? :=by simp [bZ.obj,Ne.symm h]
theorem z167{r:Nat}{b b':Obj}(h:X.w.heap[r]? =some b'):(X.obj r b).w.heap[r]? =some b:=(MapKept.heap_set h).1
theorem JG{r id:Nat}{b:Obj}(h:X.ow r= .box id){ad:Addr}{v:Value}(hs:X.cf ad v):(X.obj r b).cf ad v:=by
 have fL:ad.block≠r:=λe=>by have:=hs.2.2;rw[e,h] at this;exact this
 refine⟨hs.1,?_,hs.2.2⟩;have:=hs.2.1;simp only[bP] at this⊢;rw[JD fL];exact this
theorem RQ{r id:Nat}{b:Obj}(h:X.ow r= .box id):Ext X (X.obj r b) where
 cf:=λ_ _=>JG h
 size:=by simp [bZ.obj]
 os:=rfl
 tape:=rfl
 output:=rfl
 β0:=rfl
 still:=λg _ gv=>by
  have fL:g≠r:=λe=>by rw[e,h] at gv;exact gv
  exact⟨rfl,JD fL⟩
theorem eO.obj{r id:Nat}{b:Obj}(h:X.ow r= .box id){pl:Place}{e:TypeId}{k n:Nat}{v:Value}(ho:eO X pl e k n v):eO (X.obj r b) pl e k n v:=by
 rcases ho with ho|⟨g,cap,cur,h1,h2,h3,h4,h5,h6⟩
 ·exact .inl ho
 ·have fL:g≠r:=λe=>by rw[e,h] at h6;cases h6
  exact .inr ⟨g,cap,cur,h1,(JD fL).trans h2,h3,h4,h5,h6⟩
theorem eI.obj{r id:Nat}{b:Obj}(h:X.ow r= .box id){pl:List Nat->Place}{t:Ty}{x:El t}{c:List Value}{own:List (List Nat)}(ho:eI X pl t x c own):eI (X.obj r b) pl t x c own:=λp hp=>by obtain⟨e,t',xs,v,g0,g1,g2,g3⟩:=ho p hp;exact⟨e,t',xs,v,g0,g1,g2,g3.obj h⟩
theorem cq.obj{r id:Nat}{b:Obj}(h:X.ow r= .box id){pl:List Nat->Place}{sv:SV}{v:Value}(hk:∀dP c d j,sv= .eU dP c d j->dP≠id)(hr:cq X pl sv v):cq (X.obj r b) pl sv v:=by
 cases sv with
 |b8 t x own=>obtain⟨c,h1,h2,h3⟩:=hr;exact⟨c,h1.bz (λ_ _=>JG h),h2,h3.obj h⟩
 |view t x=>obtain⟨ad,c,h1,h2,h3,h4⟩:=hr;exact⟨ad,c,h1,h2,h3.bz (λ_ _=>JG h),λi u hi=>JG h (h4 i u hi)⟩
 |cap f t x u y=>exact Aa (λ_ _=>JG h) hr
 |eU dP c d j=>
  obtain⟨r',h1,h2,h3⟩:=hr;have fL:r'≠r:=λe=>by rw[e,h] at h2;injection h2 with h2;exact hk dP c d j rfl h2.symm
  refine⟨r',h1,h2,?_⟩;simp only[bP] at h3⊢;rw[show(X.obj r b).w.heap[r']? =X.w.heap[r']? from JD fL];exact h3
 |_=>exact hr
theorem Rel.obj{r id:Nat}{B B':fc}{b:Obj}(hr:Rel tq X s a)(hb:s.bs[id]? =some (some B))(hβ:X.β id=some r)(h:X.ow r= .box id)(hB:ff (X.obj r b) id r B')(hg:B.t.nf=false\/ []∈B.own):Rel tq (X.obj r b) (s.cD (some (id,B'))) a where
 size:=hr.size
 pc:=by simpa [State.cD] using hr.pc
 gn:=λi l v hl hv=>(hr.gn i l v hl hv).ql λj sv u hm rl=>rl.obj h (λdP c d k e e2=>hr.wP hb hg i l c d k hl (e2▸e▸aN hm))
 boxes:=λdP B2 kQ=>by
  have bS:id<s.bs.length:=(aC.1 hb).1;simp only[State.cD,ay] at kQ;by_cases e:id=dP
  ·subst e;rw[if_pos rfl,if_pos bS] at kQ;cases kQ;exact⟨r,hβ,hB⟩
  ·rw[if_neg e] at kQ;obtain⟨r',h1,h4,h2⟩:=hr.boxes dP B2 kQ;have fL:r'≠r:=λe2=>by rw[e2,h] at h4;cases h4;exact e rfl
   exact⟨r',h1,h4,h2.move (λ_ _=>JG h) (JD fL) (λcs h5=>h5.obj h) λ_ _ g o _ ho hw=>⟨(JD (λe3=>by rw[e3,h] at hw;cases hw)).trans ho,hw⟩⟩
 live:=λi l dP t p hi hm=>by
  have bS:id<s.bs.length:=(aC.1 hb).1;obtain⟨B2,kQ⟩:=hr.live i l dP t p hi hm;simp only[State.cD,ay];by_cases e:id=dP
  ·subst e;exact⟨B',by rw[if_pos rfl,if_pos bS]⟩
  ·rw[if_neg e];exact⟨B2,kQ⟩
 defers:=hr.defers
 eU:=hr.eU.cD (hr.wP hb hg)
 j8:=hr.j8.zS (by rw[h];exact λe=>e) (λb hb=>JD hb) rfl
def bZ.sT(X:bZ)(b:Obj)(w:Ow)(β:Nat->ae Nat):bZ:={w:=X.w.alloc b,ow:=λg=>if g=X.w.heap.size then w else X.ow g,β}
theorem Pt(X:bZ)(s:State)(b:Obj)(w:Ow)(β:Nat->ae Nat)(hβ0:β 0=X.β 0)(hβ:∀(id:Nat) B,s.bs[id]? =some (some B)->β id=X.β id):nk s X (X.sT b w β) where
 size:=by simp [bZ.sT]
 os:=rfl
 tape:=rfl
 output:=rfl
 uV:=λg hg=>⟨by simp only[bZ.sT];rw[if_neg (by omega)],j6 _ _ _ hg⟩
 β0:=hβ0
 β:=hβ
theorem zha(hr:Rel tq X s a){t p:Ty}{x:El t}{b:Obj}{v:Value}(dD:(execOp a.eval o).run P X.w= .ok (.value v) (X.w.alloc b))
 (Ny:∀Y:bZ,(∀ad v,X.cf ad v->Y.cf ad v)->Y.w.heap[X.w.heap.size]? =some b->∀pl,me Y X.w.heap.size pl t x []) (wM:vB p [] X.w.heap.size v) (h:sj s o.dst t x p some=some u):cN P tq X s a o u:=by
 unfold sj at h;split at h
 case h_2=>cases h
 rename_i d hd;split at h
 case h_2=>cases h
 rename_i hb;cases h;let β:Nat->ae Nat:=λid=>if id=d+1 then some X.w.heap.size else X.β id;have bS:d+1<s.bs.length:=(aC.1 hb).1;have hk:nk s X (X.sT b (.box (d+1)) β):=Pt X _ _ _ _ (by show(if _ then _ else _)=_;rw[if_neg (by omega)]) (λid B hB=>by show(if id=d+1 then _ else _)=_;rw[if_neg (λe=>by rw[e,hb] at hB;cases hB)])
 have fH:ff (X.sT b (.box (d+1)) β) (d+1) X.w.heap.size ⟨t,x,[]⟩:=⟨by simp [bZ.sT],Ny _ (λ_ _=>hk.cf) (heap_alloc_new X.w _) _⟩
 have hβd:β (d+1)=some X.w.heap.size:=by show(if d+1=d+1 then _ else _)=_;rw[if_pos rfl]
 have mG:=(hr.lH hk).nI bS hb hβd fH;refine⟨X.sT b (.box (d+1)) β,v,.inl dD,hk.ext,?_⟩;rw[hd];refine mG.put (λd' e=> ?_) (λid t' q hm=> ?_)
 ·cases e;exact⟨X.w.heap.size,hβd,wM⟩
 ·have:id=d+1:=by have:=hm;simp at this;exact this.1
  subst this;exact⟨⟨t,x,[]⟩,by simp [State.cD,ay,bS]⟩
def rZ:(t:Ty)->El t->Value
 | .bool,b=> .bool b
 | .int k,n=> .int k n
 | .str,x=> .string x
 |_,_=>aT
def Ty.pW:Ty->Bool
 | .bool| .int _| .str=>true
 |_=>false
theorem zpt{t:Ty}(hk:t.pW=true){x:El t}{v:Value}(h:mX X t x v):v=rZ t x:=by
 obtain⟨cs,h1,h2⟩:=h;cases t<;>simp [Ty.pW] at hk
 ·rw[h2,C2 h1];rfl
 ·rw[h2,tK h1];rfl
 ·rw[h2,z28 h1];rfl
theorem SA{T:TypeId}{t:Ty}(hE:bN P E)(hT:E.ty T=some t)(hk:t.pW=true)(x:El t):∃d,P.underlying T=some d/\lN d (rZ t x)/\∀y,jY d (rZ t x) (rZ t y)=some (oo t x y):=by
 have hu:=(hE.ty T t hT).lU;cases t<;>simp [Ty.pW] at hk
 ·have hu:P.underlying T=some .bool:=hu;exact⟨_,hu,trivial,λy=>by cases x<;>cases y<;>rfl⟩
 ·have hu:P.underlying T=some (.int _):=hu;refine⟨_,hu,by simp [lN,rZ],λy=> ?_⟩;simp only[jY,rZ,if_true,oo];congr 1
 ·have hu:P.underlying T=some .string:=hu;refine⟨_,hu,trivial,λy=> ?_⟩;simp only[jY,rZ,oo];congr 1;by_cases e:x=y
  ·rw[decide_eq_true e];exact(MapKept.bytes_beq _ _).2 e
  ·rw[decide_eq_false e];cases hb:(x==y) with
   |false=>rfl
   |true=>exact absurd ((MapKept.bytes_beq _ _).1 hb) e
theorem Qq{kt vt:Ty}{d:TypeDesc}{k:El kt}(hk:kt.pW=true)(hs:∀y,jY d (rZ kt k) (rZ kt y)=some (oo kt k y)):∀(es:List MapEntry) (xs:List (El kt×El vt)) (i:Nat),es.length=xs.length->
 (∀(i:Nat) q e,xs[i]? =some q->es[i]? =some e->mX X kt q.1 e.key/\mX X vt q.2 e.val)->
 (nC (oo kt) xs k=false/\nB (oo kt) (El.gA vt) xs k=El.gA vt/\lL d (rZ kt k) es i=some none)\/(nC (oo kt) xs k=true/\∃j v,lL d (rZ kt k) es i=some (some (j,v))/\mX X vt (nB (oo kt) (El.gA vt) xs k) v)
 | [],[],i,_,_=> .inl ⟨rfl,rfl,rfl⟩
 |e::es,q::xs,i,hl,hp=>by
  obtain⟨h1,h2⟩:=hp 0 q e rfl rfl;have hke:=zpt hk h1;have qB:=hs q.1;rw[<-hke] at qB;simp only[lL,qB,nC,nB];cases heq:oo kt k q.1 with
  |true=>exact .inr ⟨rfl,i,e.val,rfl,h2⟩
  |false=>exact Qq hk hs es xs (i+1) (by simpa using hl) (λi q e hq he=>hp (i+1) q e (by simpa using hq) (by simpa using he))
 | [],_::_,_,hl,_=>by simp at hl
 |_::_,[],_,hl,_=>by simp at hl
theorem ztx:∀{t:Ty},t.pD=true->t.depth<=2
 | .unit,_=>by decide
 | .pair (.int _) b,h=>by have:=ztx (t:=b) h;simp only[Ty.depth];omega
theorem RL:∀{t:Ty},t.pD=true->∀x y:El t,ml t x y=some (CH t x y)
 | .unit,_,_,_=>rfl
 | .pair (.int _) b,h,x,y=>by have:=RL (t:=b) h x.2 y.2;simp only[ml,this,CH]
theorem po(hE:bN P E){xs:Array Value}(w:World)(em:Bool)(n:Nat):
 ∀(fl:List Field) (t:Ty) (off:Nat),qO E fl t off->t.pD=true->∀(x:El t) (c1:List Value),eC X t x c1->(xs.toList.drop off).take t.cells=c1->
  (forIn fl () λ(f:Field) (_:Unit)=>(if f.name≠ "_" then do
    let __do_lift<-part f.type xs f.offset
    ju em (n+1) f.type __do_lift
    pure (ForInStep.yield ()) else pure (ForInStep.yield ()):Sem (ForInStep Unit))).run P w= .ok () w:=by
 intro fl
 induction fl with
 |nil=>intro t off hf hi x c1 h1 h3;simp [List.forIn_nil]
 |cons f fl ihl=>
  intro t off hf hi x c1 h1 h3;cases t<;>simp only[qO] at hf<;>try exact hf.elim
  rename_i ta tb;obtain⟨ho,KG,hn,fy⟩:=hf;obtain⟨ca,cb,e1,ra,rb⟩:=h1;have la:=ra.len;have t1:(xs.toList.drop off).take ta.cells=ca:=by have:=congrArg (λl=>l.take ta.cells) (h3.trans e1);simp only[List.take_take,Ty.cells] at this;rw[bL (ki _ _),<-la,dW] at this;rw[<-la];exact this
  have u1:(xs.toList.drop (off+ta.cells)).take tb.cells=cb:=by have:=congrArg (λl=>l.drop ta.cells) (h3.trans e1);simp only[Ty.cells] at this;rw[List.drop_take,cg,List.drop_drop,<-la,List.drop_left] at this;rw[<-la];exact this
  have wK:=JH hE KG ra (all:=xs) (off:=f.offset) (by rw[ho];exact t1) w;cases ta<;>simp [Ty.pD] at hi;rename_i k;have hu:P.underlying f.type=some (.int k):=(hE.ty f.type _ KG).lU;have Ku:(ju em (n+1) f.type (mH (.int k) ca)).run P w= .ok () w:=by rw[tK ra];exact kO hu (by simp [lN]) em n
  rw[List.forIn_cons];simp only[hn,ne_eq,not_false_eq_true,if_true,ax,wK,Ku,al,aD];exact ihl tb _ fy hi x.2 cb rb u1
theorem Pu{T:TypeId}{t:Ty}(hE:bN P E)(hT:E.ty T=some t)(hk:t.isKey=true){x:El t}{v:Value}(h:mX X t x v)(em:Bool)(w:World):(ju em 10000 T v).run P w= .ok () w:=by
 cases h1:t.pW with
 |true=>obtain⟨d,hd,U0,_⟩:=SA hE hT h1 x;rw[zpt h1 h];exact kO hd U0 em 9999
 |false=>have hu:=(hE.ty T t hT).lU;cases t<;>simp [Ty.isKey,Ty.pW] at hk h1;rename_i ta tb;obtain⟨fs,pU,qk,U7,_⟩:=hu;obtain⟨cs,hr,rfl⟩:=h;rw[rj rfl];unfold ju;simp only[ax,run_underlying pU,al];rw[<-Array.forIn_toList];have:=po (X:=X) hE (xs:=cs.toArray) w em 9998 fs.toList (.pair ta tb) 0 qk hk x cs hr (by have:=hr.len;simp only[List.drop_zero];rw[<-this];exact List.take_length);exact(congrArg (λr=>Result.andThen r (λa w'=>Sem.run P (pure ()) w')) this).trans (by simp)
theorem zne(hE:bN P E){T:TypeId}{kt vt:Ty}(hT:E.ty T=some kt)(hk:kt.pD=true){k:El kt}{v:Value}(h:mX X kt k v)(w:World):∀(es:List MapEntry) (xs:List (El kt×El vt)) (i:Nat),es.length=xs.length->
 (∀(i:Nat) q e,xs[i]? =some q->es[i]? =some e->mX X kt q.1 e.key/\mX X vt q.2 e.val)->
 (nC (CH kt) xs k=false/\nB (CH kt) (El.gA vt) xs k=El.gA vt/\(iF T v es i).run P w= .ok none w)\/(nC (CH kt) xs k=true/\∃j u,(iF T v es i).run P w= .ok (some (j,u)) w/\mX X vt (nB (CH kt) (El.gA vt) xs k) u)
 | [],[],i,_,_=> .inl ⟨rfl,rfl,by simp [iF]⟩
 |e::es,q::xs,i,hl,hp=>by
  obtain⟨h1,h2⟩:=hp 0 q e rfl rfl;obtain⟨c1,r1,rfl⟩:=h;obtain⟨c2,r2,e2⟩:=h1;have heq:(Op.equal T (mH kt c1) e.key).run P w= .ok (CH kt k q.1) w:=by rw[e2];exact O7 (X:=X) hE w 10000 kt T hT (Nat.le_trans (ztx hk) (by decide)) k q.1 c1 c2 _ r1 r2 (RL hk k q.1)
  unfold iF;simp only[ax,heq,al,nC,nB];cases heq:CH kt k q.1 with
  |true=>exact .inr ⟨rfl,i,e.val,by simp,h2⟩
  |false=>exact zne hE hT hk ⟨c1,r1,rfl⟩ w es xs (i+1) (by simpa using hl) (λi q e hq he=>hp (i+1) q e (by simpa using hq) (by simpa using he))
 | [],_::_,_,hl,_=>by simp at hl
 |_::_,[],_,hl,_=>by simp at hl
theorem QD(hE:bN P E){T:TypeId}{kt vt:Ty}(hT:E.ty T=some kt)(hk:kt.isKey=true){k:El kt}{v:Value}(h:mX X kt k v)(w:World)(es:List MapEntry)(xs:List (El kt×El vt))(hl:es.length=xs.length)
 (hp:∀(i:Nat) q e,xs[i]? =some q->es[i]? =some e->mX X kt q.1 e.key/\mX X vt q.2 e.val):
 (nC (oo kt) xs k=false/\nB (oo kt) (El.gA vt) xs k=El.gA vt/\(Instr.findKey T v es).run P w= .ok none w)\/(nC (oo kt) xs k=true/\∃j u,(Instr.findKey T v es).run P w= .ok (some (j,u)) w/\mX X vt (nB (oo kt) (El.gA vt) xs k) u):=by
 cases h1:kt.pW with
 |true=>
  obtain⟨d,hd,U0,qB⟩:=SA hE hT h1 k;rw[zpt h1 h];rcases Qq (X:=X) h1 qB es xs 0 hl hp with⟨g1,g2,g3⟩|⟨g1,j,u,g3,g4⟩
  ·exact .inl ⟨g1,g2,lp hd g3⟩
  ·exact .inr ⟨g1,j,u,lp hd g3,g4⟩
 |false=>have hu:=(hE.ty T kt hT).lU;cases kt<;>simp [Ty.isKey,Ty.pW] at hk h1;rename_i ta tb;obtain⟨fs,pU,_⟩:=hu;have e:=run_findKey_eq (P:=P) w (k:=T) (by rw[pU]) v es;have:=zne (X:=X) hE hT hk h w es xs 0 hl hp;rw[e];exact this
theorem zu4{T:TypeId}{kt vt:Ty}(hE:bN P E)(h:vv E T=some (kt,vt)):∃k e,P.underlying T=some (.map k e)/\E.ty k=some kt/\E.ty e=some vt/\kt.isKey=true:=by
 unfold vv at h;split at h
 case h_2=>cases h
 rename_i k e hm;split at h
 case h_2=>cases h
 rename_i kt' vt' h1 h2;split at h
 case isFalse=>cases h
 rename_i hk;cases h;exact⟨k,e,hE.mp T k e hm,h1,h2,hk⟩
theorem znp{m:Operand}{kt vt:Ty}{R:Type}{K:Nat->List (El kt×El vt)->ae R}{z:R}(hr:Rel tq X s a)(h:C8 s (s.cM m) kt vt K=some z):
 ∃id B r xs,K id xs=some z/\s.bs[id]? =some (some B)/\X.β id=some r/\X.ow r= .box id/\a.eval m= .map (some r)/\B.t.nf=false/\∃es clock,X.w.heap[r]? =some (.map es clock)/\es.size=xs.length/\
  ∀(i:Nat) (q:El kt×El vt) (e:MapEntry),xs[i]? =some q->es[i]? =some e->mX X kt q.1 e.key/\mX X vt q.2 e.val:=by
 have hx:=hr.cM m;unfold C8 at h;split at h
 case h_2=>cases h
 rename_i id kt' vt' hm;rw[hm] at hx;obtain⟨r,hβ,hv⟩:=hx;split at h
 case isFalse=>cases h
 split at h
 case h_2=>cases h
 rename_i B hB;split at h
 case isFalse=>cases h
 rename_i lR;have hb:=yt hB;obtain⟨r',h1,h2,h3⟩:=hr.boxes id B hb;rw[hβ] at h1;cases h1;refine⟨id,B,r,_,h,hb,hβ,h2,hv,by rw[Ty.cS lR];rfl,?_⟩;obtain⟨bt,bx,bo⟩:=B;have e:=Ty.cS lR;simp only at e;subst e;exact h3
theorem z157(hE:bN P E)(hr:Rel tq X s a){ops:List Oper}{T:TypeId}{rs:ae Operand}(ho:o.op= .makeMap T rs){C:FuncId->gE Out}(h:act E C ops o s some=some u):cN P tq X s a o u:=by
 unfold act at h;cases rs with
 |some r=>simp only[ho] at h;cases h
 |none=>
  simp only[ho] at h;split at h
  case h_2=>cases h
  rename_i kt vt hm;refine zha hr (t:= .dC .mp kt vt) (p:= .dC .mp kt vt) (x:=([]:List (El kt×El vt))) (b:= .map #[] 0) (v:= .map (some X.w.heap.size)) ?_ (λY _ hY pl=>⟨#[],0,hY,rfl,λi q e hq=>by simp at hq⟩) rfl h;simp [execOp,ho,Instr.makeMap]
theorem acY(hE:bN P E)(hr:Rel tq X s a){ops:List Oper}{T:TypeId}{x i:Operand}{ok:Bool}(ho:o.op= .lookup T x i ok){C:FuncId->gE Out}(h:act E C ops o s some=some u):cN P tq X s a o u:=by
 unfold act at h;cases ok with
 |true=>simp only[ho] at h;cases h
 |false=>
  simp only[ho] at h;unfold tw at h;split at h
  case h_2=>cases h
  rename_i kt vt hm;obtain⟨k,e,hu,hk,he,BN⟩:=zu4 hE hm;obtain⟨id,B,r,xs,h,hb,hβ,how,hv,hBg,es,clock,cH,lV,n5⟩:=znp hr h;obtain⟨key,h,hkv⟩:=zy h;cases h;obtain⟨ck,rk,evk⟩:=hkv X _ _ (hr.cM i);have Ku:=Pu hE hk BN (X:=X) (x:=key) ⟨ck,rk,evk⟩ es.isEmpty X.w;rcases QD (X:=X) hE hk BN (k:=key) ⟨ck,rk,evk⟩ X.w es.toList xs (by simpa using lV) (λi q e hq he=>n5 i q e hq (by simpa using he)) with⟨g1,g2,hf⟩|⟨g1,j,v,hf,g4⟩
  ·rw[g2];have hz:=Wk (P:=P) hE he X.w;refine cN.plain hr (v:=mH vt (zp vt)) ?_ (Hh (Ax X vt)) (λ_ _ _ e'=>by cases e');simp only[execOp,ho,ax,Instr.lookup,run_underlying hu,al,hv,hG cH,aD,Ku,hf,hz,cI,if_false]
  ·obtain⟨cv,rv,ev⟩:=g4;refine cN.plain hr (v:=v) ?_ ⟨cv,rv,ev,uB⟩ (λ_ _ _ e'=>by cases e');simp only[execOp,ho,ax,Instr.lookup,run_underlying hu,al,hv,hG cH,aD,Ku,hf,cI,if_false]
theorem Qm(hE:bN P E)(hr:Rel tq X s a){T:TypeId}{m k x:Operand}(ho:(execOp a.eval o).run P X.w=((Instr.mapUpdate T (a.eval m) (a.eval k) (a.eval x)).run P X.w).andThen λ_ w=> .ok .skip w)(h:ur E T s (s.cM m) (s.cM k) (s.cM x) some=some u):cN P tq X s a o u:=by
 unfold ur at h;split at h
 case h_2=>cases h
 rename_i kt vt hm;obtain⟨kT,eT,hu,hk,he,BN⟩:=zu4 hE hm;obtain⟨id,B,r,xs,h,hb,hβ,how,hv,hBg,es,clock,cH,lV,n5⟩:=znp hr h;obtain⟨key,h,hkv⟩:=zy h;obtain⟨y,h,hyv⟩:=zy h;obtain⟨ck,rk,HF⟩:=hkv X _ _ (hr.cM k);obtain⟨cy,ry,evy⟩:=hyv X _ _ (hr.cM x);have Ku:=Pu hE hk BN (X:=X) (x:=key) ⟨ck,rk,HF⟩ false X.w;rcases QD (X:=X) hE hk BN (k:=key) ⟨ck,rk,HF⟩ X.w es.toList xs (by simpa using lV) (λi q e hq he=>n5 i q e hq (by simpa using he)) with⟨g1,g2,hf⟩|⟨g1,j,v,hf,g4⟩
 ·rw[g1] at h;cases h;let new:Obj:= .map (es.push {key:=a.eval k,val:=a.eval x,born:=clock}) (clock+1);have dD:(execOp a.eval o).run P X.w= .ok .skip (X.obj r new).w:=by rw[ho];simp only[Instr.mapUpdate,ax,run_underlying hu,al,hv,hG cH,Ku,hf,MapKept.run_setObj_map _ cH];simp only[new];rfl
  have fH:ff (X.obj r new) id r ⟨.dC .mp kt vt,(xs++ [(key,y)]:List (El kt×El vt)),[]⟩:=by
   refine⟨how,es.push {key:=a.eval k,val:=a.eval x,born:=clock},clock+1,z167 cH,by simp [lV],λi q e hq he=> ?_⟩;have hs:∀ad v,X.cf ad v->(X.obj r new).cf ad v:=λ_ _=>JG how;have hq:(xs++ [(key,y)])[i]? =some q:=hq;rw[List.getElem?_append] at hq;rw[Array.getElem?_push] at he;split at hq
   ·rename_i bS;rw[if_neg (by omega)] at he;obtain⟨j1,j2⟩:=n5 i q e hq he;exact⟨j1.mono hs,j2.mono hs⟩
   ·rename_i bS;have hi:i-xs.length=0:=by have:=(aC.1 hq).1;simp at this;omega
    rw[hi] at hq;cases hq;rw[if_pos (by omega)] at he;cases he;exact⟨mX.mono hs ⟨ck,rk,HF⟩,mX.mono hs ⟨cy,ry,evy⟩⟩
  exact⟨X.obj r new,aT,.inr ⟨dD,rfl⟩,RQ how,(hr.obj hb hβ how fH (.inl hBg)).skip o.dst⟩
 ·rw[g1] at h;cases h
theorem zcb(hE:bN P E)(hr:Rel tq X s a){ops:List Oper}{T:TypeId}{m k x:Operand}(ho:o.op= .mapUpdate T m k x\/o.op= .insert T m k x){C:FuncId->gE Out}(h:act E C ops o s some=some u):cN P tq X s a o u:=by
 unfold act at h;rcases ho with ho|ho
 ·simp only[ho] at h;exact Qm hE hr (by simp [execOp,ho]) h
 ·simp only[ho] at h;exact Qm hE hr (by simp [execOp,ho]) h
theorem adR(hE:bN P E)(hr:Rel tq X s a){ops:List Oper}{T:TypeId}{x:Operand}(ho:o.op= .range T x){C:FuncId->gE Out}(h:act E C ops o s some=some u):cN P tq X s a o u:=by
 unfold act at h;simp only[ho] at h;split at h
 case h_2=>cases h
 rename_i hT;obtain⟨y,h,hy⟩:=zy h;obtain⟨cs,ry,ev⟩:=hy X _ _ (hr.cM x);rw[z28 ry] at ev;have hu:=(hE.ty T _ hT).lU;refine zha hr (t:=rY) (p:=rY) (x:=((y,0):af×Nat)) (b:= .stringIter y 0) (v:= .pointer (some ⟨X.w.heap.size,0,none⟩)) ?_ (λY _ hY pl=>hY) ⟨rfl,trivial⟩ h;simp [execOp,ho,Instr.range,run_underlying hu,ev]
theorem agD(hr:Rel tq X s a){ops:List Oper}{x:Operand}{str:Bool}(ho:o.op= .next x str){C:FuncId->gE Out}(h:act E C ops o s some=some u):cN P tq X s a o u:=by
 unfold act at h;cases str with
 |false=>simp only[ho] at h;cases h
 |true=>
  simp only[ho] at h;unfold tA at h;have hx:=hr.cM x;split at h
  case h_2=>cases h
  rename_i id hm;rw[hm] at hx;obtain⟨r,hβ,hv,_⟩:=hx;split at h
  case h_2=>cases h
  rename_i B hB;split at h
  case isFalse=>cases h
  rename_i lR;have hb:=yt hB;obtain⟨r',h1,how,h3⟩:=hr.boxes id B hb;rw[hβ] at h1;cases h1;have cH:X.w.heap[r]? =some (.stringIter (Ty.cast lR B.x:af×Nat).1 (Ty.cast lR B.x:af×Nat).2):=by obtain⟨bt,bx,bo⟩:=B;have e:=Ty.cS lR;simp only at e;subst e;exact h3
  generalize(Ty.cast lR B.x:af×Nat)=q at*;obtain⟨st,pos⟩:=q;simp only at h cH;have hv:a.eval x= .pointer (some ⟨r,0,none⟩):=by simpa [Ty.off] using hv
  have jx:(getObj r).run P X.w= .ok (.stringIter st pos) X.w:=by simp [getObj,Sem.run,cH]
  cases bS:decide (pos<st.size) with
  |false=>rw[bS] at h;cases h;have bS:=of_decide_eq_false bS;refine cN.plain hr (sv:= .over) (v:= .tuple #[.bool false]) ?_ rfl (λ_ _ _ e'=>by cases e');simp only[execOp,ho,ax,Instr.next,hv,jx,al,if_neg bS,aD]
  |true=>
   rw[bS] at h;cases h;have bS:=of_decide_eq_true bS;let new:Obj:= .stringIter st (pos+(dp st pos).2);have nH:(setObj r new).run P X.w= .ok () (X.obj r new).w:=by simp [setObj,Sem.run,cH,bZ.obj]
   have fH:ff (X.obj r new) id r ⟨rY,((st,pos+(dp st pos).2):af×Nat),[]⟩:=⟨how,z167 cH⟩
   have mG:=hr.obj hb hβ how fH (.inl (by rw[Ty.cS lR];rfl));refine⟨X.obj r new,.tuple #[.bool true,.int .i64 pos,.int .i32 (dp st pos).1],.inl ?_,RQ how,?_⟩
   ·simp only[execOp,ho,ax,Instr.next,hv,jx,al,if_pos bS,aD];simp only[new] at nH;rw[nH];rfl
   ·refine mG.put (λd' e=>⟨_,rfl,rfl,λj sv v hj hv=> ?_⟩) (λid t' q hm=>by simp at hm)
    match j with
    |0=>cases hj;cases hv;exact vI
    |1=>cases hj;cases hv;exact qN
    |2=>cases hj;cases hv;exact qN
    |j+3=>simp at hj
theorem ak0{t:Ty}{k:Nat}(hk:(zp t).length=k)(n:Nat):((fB (n*k)).map λi=>(zp t).toArray[i % (zp t).toArray.size]!).size=n*k/\
 ∀j,j<n->((((fB (n*k)).map λi=>(zp t).toArray[i % (zp t).toArray.size]!).toList.drop (j*k)).take k)=zp t:=by
 refine⟨by simp,λj hj=> ?_⟩;apply bV;intro i;rw[bj];split
 ·rename_i hi;have bS:j*k+i<n*k:=by have:(j+1)*k<=n*k:=bp _ hj;rw[bK,cm] at this;omega
  have H3:(j*k+i)% k=i:=by rw[Nat.mul_comm,Nat.mul_add_mod,Nat.mod_eq_of_lt hi]
  rw[bI,bn,Array.getElem?_map,Array.getElem?_range,if_pos bS];simp only[dH,jN,hk,H3];rw[au (by omega)];simp [getElem!_def,au (show i<(zp t).length by omega)]
 ·rename_i hi;rw[aQ (by omega)]
theorem QG(hE:bN P E){T e:TypeId}{t:Ty}(hT:E.ty T=some (.sl e t))(hk:t.cells≠0)(vL:E.bytes e≠0){n m:Int}(hn:0<=n)(hnm:n<=m)(hb:m*E.bytes e<=140737488355328)(w:World):
 m.toNat<=maxLen/\∃cur,cur.size=m.toNat*t.cells/\(∀j,j<m.toNat->(cur.toList.drop (j*t.cells)).take t.cells=zp t)/\
  (Instr.makeSlice T (.int .i64 n) (.int .i64 m)).run P w= .ok (.slice (some ⟨w.heap.size,0,none⟩) n.toNat m.toNat) (w.alloc (.cells cur e)):=by
 obtain⟨hu,he⟩:=(hE.ty T _ hT).lU;obtain⟨i,hi,gU,ot,hz⟩:=(hE.ty e t he).info;have hle:m<=m*E.bytes e:=by
  have h1:(1:Int)<=E.bytes e:=by omega
  have:=Int.mul_le_mul_of_nonneg_left h1 (show 0<=m by omega);simpa using this
 have H2:m.toNat<=maxLen:=by simp only[maxLen];omega
 have uc:(mH t (zp t)).cells=(zp t).toArray:=CX (X:=⟨w,λ_=> .all,λ_=>none⟩) (Ax _ t);obtain⟨z1,z2⟩:=ak0 (Cv t) m.toNat;refine⟨H2,(fB (m.toNat*t.cells)).map (λi=>(zp t).toArray[i % (zp t).toArray.size]!),z1,z2,?_⟩;have Va:IntKind.i64.wrap n=n:=by simp [IntKind.wrap,IntKind.signed,IntKind.bits];omega
 have CN:IntKind.i64.wrap m=m:=by simp [IntKind.wrap,IntKind.signed,IntKind.bits];omega
 have hmul:(i.bytes:Int)*m<=2^48:=by rw[ot,Int.mul_comm];omega
 have c1:¬m<0:=by omega
 have c2:¬(281474976710656:Int)<(i.bytes:Int)*m:=by omega
 have c3:¬n<0:=by omega
 have c4:¬m<n:=by omega
 have hai:∀(n:Int) (w:World),(asInt (.int .i64 n)).run P w= .ok n w:=λn w=>by simp [asInt,asIntOf]
 have hti:∀w:World,(typeInfo e).run P w= .ok i w:=λw=>by simp [typeInfo,hi]
 have oC:∀w:World,(sizeOf e).run P w= .ok t.cells w:=λw=>tJ hE he w;have hzv:∀w:World,(zeroValue e).run P w= .ok (mH t (zp t)) w:=λw=>Wk hE he w;simp only[Instr.makeSlice,ax,run_underlying hu,al,hai,hti,Va,CN];by_cases h0:m.toNat*t.cells=0
 ·simp [c1,c2,c3,c4,oC,h0,newRow];rw[show fB 0= #[] from rfl];simp
 ·simp [c1,c2,c3,c4,oC,h0,hzv,uc,newRow]
theorem zz8(hE:bN P E)(hr:Rel tq X s a){ops:List Oper}{T:TypeId}{l c:Operand}(ho:o.op= .makeSlice T l c){C:FuncId->gE Out}(h:act E C ops o s some=some u):cN P tq X s a o u:=by
 unfold act at h;simp only[ho] at h;unfold tz at h;split at h
 case h_2=>cases h
 rename_i e t hT;split at h
 ·cases h
 rename_i fL;have vL:E.bytes e≠0:=λe0=>fL (by rw[e0];rfl);have hk:t.cells≠0:=λe0=>fL (by rw[e0];simp);obtain⟨n,h,hn⟩:=zy h;obtain⟨m,h,hm⟩:=zy h;obtain⟨_,rn,en⟩:=hn X _ _ (hr.cM l);rw[tK rn] at en;obtain⟨_,rm,em⟩:=hm X _ _ (hr.cM c);rw[tK rm] at em;cases hc:z198 l with
 |true=>
  rw[hc] at h;simp only[cond_true] at h;cases d1:decide (n=0)<;>rw[d1] at h<;>simp only[cond_true,cond_false] at h
  ·cases h
  cases d2:decide (0<=m)<;>rw[d2] at h<;>simp only[cond_true,cond_false] at h
  ·cases h
  cases d3:decide (m*E.bytes e<=140737488355328)<;>rw[d3] at h<;>simp only[cond_true,cond_false] at h
  ·cases h
  cases h;have d1:=of_decide_eq_true d1;have d2:=of_decide_eq_true d2;have d3:=of_decide_eq_true d3;subst d1;obtain⟨H2,cur,g1,g2,dD⟩:=QG (P:=P) hE hT hk vL (n:=0) (m:=m) (by omega) d2 d3 X.w;have Ea:nk s X (X.sT (.cells cur e) (.row (.c (o.dst.getD 0) 0 []) 0) X.β):=Pt X _ _ _ _ rfl (λ_ _ _=>rfl);refine⟨X.sT (.cells cur e) (.row (.c (o.dst.getD 0) 0 []) 0) X.β,.slice (some ⟨X.w.heap.size,0,none⟩) 0 m.toNat,.inl ?_,Ea.ext,(hr.lH Ea).fin ⟨[.slice (some ⟨X.w.heap.size,0,none⟩) 0 m.toNat],⟨_,_,rfl,bR _,λj x hj=>by simp at hj⟩,rfl,λp hp=> ?_⟩ (λid t p hm=>by simp at hm)⟩
  ·simp only[execOp,ho,ax,en,em,dD,al,aD];rfl
  ·have hp:p=[]:=by simpa using hp
   subst hp;refine⟨e,t,[],_,by simp [Ty.nb],rfl,rfl,.inr ⟨X.w.heap.size,m.toNat,cur,rfl,heap_alloc_new X.w _,bR _,H2,g1,?_⟩⟩;simp [bZ.sT]
 |false=>
  rw[hc] at h;simp only[cond_false] at h;cases d1:decide (n=m)<;>rw[d1] at h<;>simp only[cond_true,cond_false] at h
  ·cases h
  cases d2:decide (0<=n)<;>rw[d2] at h<;>simp only[cond_true,cond_false] at h
  ·cases h
  cases d3:decide (n*E.bytes e<=140737488355328)<;>rw[d3] at h<;>simp only[cond_true,cond_false] at h
  ·cases h
  have d1:=of_decide_eq_true d1;have d2:=of_decide_eq_true d2;have d3:=of_decide_eq_true d3;have d1:m=n:=d1.symm;subst d1;obtain⟨H2,cur,g1,g2,dD⟩:=QG (P:=P) hE hT hk vL (n:=m) (m:=m) d2 (Int.le_refl _) d3 X.w;refine zha hr (t:= .dC .row t .unit) (p:= .dC (.qi m.toNat) t .unit) (x:=(aB m.toNat (El.gA t):List (El t))) (b:= .cells cur e) (v:= .slice (some ⟨X.w.heap.size,0,none⟩) m.toNat m.toNat) ?_ (λY _ hY pl=>⟨cur,e,hY,?_,λj x hj=> ?_⟩) ⟨_,rfl,bg _⟩ h
  ·simp only[execOp,ho,ax,en,em,dD,al,aD]
  ·rw[g1];show _=ag (aB _ _)*_;rw[List.length_replicate]
  ·have hj:(aB m.toNat (El.gA t))[j]? =some x:=hj;rw[List.getElem?_replicate] at hj;split at hj
   ·rename_i bS;cases hj;rw[g2 j bS];exact Ax Y t
   ·cases hj
end Go.Ref

namespace Go.Ref
open Go
variable {P:Program} {tq:n4} {E:Env} {X:bZ} {s:State} {a:Act} {o:Oper} {u:Out}
theorem ajZ(hE:bN P E)(hr:Rel tq X s a){ops:List Oper}{T:TypeId}{x:Operand}{lo hi:ae Operand}(ho:o.op= .slice T x lo hi none){C:FuncId->gE Out}(h:act E C ops o s some=some u):cN P tq X s a o u:=by
 unfold act at h;simp only[ho] at h;split at h
 ·rename_i id n ta tb mj;split at h
  case h_2=>cases h
  rename_i e t hT;split at h
  case isFalse=>cases h
  rename_i heq;have:=Ty.cS heq;subst this;unfold Bz at h;split at h
  ·cases h
  rename_i Nz;have HW:hi=none:=by
   cases hi with
   |none=>rfl
   |some _=>cases Nz
  subst HW;obtain⟨l,h,h1,hl⟩:=zaj h;cases h;have hx:=hr.cM x;rw[mj] at hx;obtain⟨r0,hβ,cap,hv,ve⟩:=hx;have hu:=(hE.ty T _ hT).lU;have hbd:=zd3 (P:=P) (isS:=true) hr hl (hi:=none) (m:=n) (n:=n) (c:=cap) rfl h1 (bg _) ve X.w;rw[kM] at hbd;refine cN.plain hr (v:= .slice (if cap=l then some ⟨r0,0,none⟩ else(some (⟨r0,0,none⟩:Addr)).map (·.add (l*ta.cells))) (n-l) (cap-l)) ?_ ⟨r0,hβ,?_⟩ (λ_ _ _ e=>by cases e;exact Az hr mj)
  ·simp only[execOp,ho,ax,Instr.sliceAt,run_underlying hu.1,al,Instr.slice,hv,kM,hbd,aD,tJ hE hu.2]
  ·show∃DY off,_=Value.slice (some ⟨r0,off,none⟩) (n-l) DY/\_;by_cases e':cap=l
   ·rw[if_pos e'];exact⟨_,_,rfl,by omega,h1,.inl ⟨by omega,rfl⟩⟩
   ·rw[if_neg e'];refine⟨cap-l,l*ta.cells,?_,by omega,h1,.inr rfl⟩;rw[dH,qc,bJ]
 ·rename_i id n t mj;have hx:=hr.cM x;rw[mj] at hx;obtain⟨r0,hβ,hv⟩:=hx;unfold yY at h;split at h
  case h_2=>cases h
  rename_i u' hT H0 Nz;have lo0:lo=none:=by
   cases lo with
   |none=>rfl
   |some _=>cases H0
  have HW:hi=none:=by
   cases hi with
   |none=>rfl
   |some _=>cases Nz
  subst lo0 HW;split at h
  case isFalse=>cases h
  rename_i heq;have:=Ty.cS heq;subst this;split at h
  case h_2=>cases h
  rename_i B hB;split at h
  case isFalse=>cases h
  rename_i lR;cases h;have hb:=yt hB;obtain⟨r,h1,BF⟩:=hr.boxes id B hb;rw[hβ] at h1;cases h1;obtain⟨bt,bx,bo⟩:=B;have e:=Ty.cS lR;simp only at e;subst e;obtain⟨cs,T',cH,cY,how,_⟩:=BF.cells rfl;have hv:a.eval x= .pointer (some ⟨r0,0,none⟩):=by rw[((yq rfl).1 hv).1];rfl
  obtain⟨e,pU,qk,_⟩:=(hE.ty T _ hT).lU;have hlen:ag (bx:List (El t))=n:=cY.1;have fH:ff X id r0 ⟨.dC .row t .unit,(bx:List (El t)),[]⟩:=⟨how,cs,T',cH,by have:=cY.2.1;rw[hlen];simpa using this,cY.2.2⟩
  have Nt:(Ty.cast lR bx:El (.arr n t))=bx:=rfl;rw[Nt];refine⟨X,.slice (some ⟨r0,0,none⟩) n n,.inl ?_,Ext.refl X,(hr.uo hb hβ fH (.inl rfl)).fin ⟨r0,hβ,n,rfl,bg _⟩ (λdP t' p' hm=> ?_)⟩
  ·simp only[execOp,ho,ax,Instr.sliceAt,run_underlying pU,al,kM,hv,Instr.sureAddr,aD,tJ hE qk];simp [Instr.sliceBounds];intro _;rw[qc]
  ·have Al:SV.ptr dP t' p'= .ptr id (.dC (.qi n) t .unit) []:=by simpa using hm
   cases Al;exact⟨_,VG hb⟩
 ·exact agA hE hr ho h
theorem ab7(hr:Rel tq X s a){ops:List Oper}{fn:Fn}{fi ca:Array Operand}(ho:o.op= .makeFunc fn fi ca){C:FuncId->gE Out}(h:act E C ops o s some=some u):cN P tq X s a o u:=by
 unfold act at h;cases fn with
 |func f=>
  simp only[ho] at h;split at h
  case h_3=>cases h
  case h_2=>
   rename_i x y BJ HL;have BJ:fi= #[]:=by rw[<-bT (xs:=fi),BJ]
   have HL:ca= #[x,y]:=by rw[<-bT (xs:=ca),HL]
   subst BJ HL;unfold Bv at h;split at h
   case h_2=>cases h
   rename_i t x1 u' y1 mj N8;cases h;have hx:=hr.cM x;have hy:=hr.cM y;rw[mj] at hx;rw[N8] at hy;obtain⟨ad,cs,h1,h2,h3,h4⟩:=hx;obtain⟨ye,m8,k1,k2,k3,k4⟩:=hy;refine cN.plain hr (v:= .func (.func f) #[] #[.pointer (some ad),.pointer (some ye)]) ?_ ⟨ad,ye,cs,m8,rfl,⟨h2,h3,h4⟩,k2,k3,k4⟩ (λ_ _ _ e=>by cases e);simp [execOp,ho,Instr.makeFunc,h1,k1]
  rename_i x BJ HL;have BJ:fi= #[]:=by rw[<-bT (xs:=fi),BJ]
  have HL:ca= #[x]:=by rw[<-bT (xs:=ca),HL]
  subst BJ HL;unfold uW at h;split at h
  case h_2=>cases h
  rename_i id u' mj;split at h
  case isTrue=>cases h
  rename_i hs;cases h;have hx:=hr.cM x;rw[mj] at hx;obtain⟨r0,hβ,hv⟩:=hx;have hv:=((Th (by simpa using hs)).1 hv).1;refine cN.plain hr (v:= .func (.func f) #[] #[.pointer (some ⟨r0,0,none⟩)]) ?_ ⟨r0,hβ,rfl⟩ (λ_ _ _ e=>by cases e;exact Az hr mj);have hv:a.eval x= .pointer (some ⟨r0,0,none⟩):=by rw[hv];simp [Ty.off]
  simp [execOp,ho,Instr.makeFunc,hv]
 |_=>simp only[ho] at h;cases h
theorem Qa{t:Ty}{xs:List (El t)}{n l:Nat}{cs:List Value}(h:eC X (.arr n t) xs cs)(hl:l<=n):eC X (.arr l t) (xs.take l:List (El t)) (cs.take (l*t.cells)):=by
 obtain⟨h1,h2,h3⟩:=h;have hm:=bp t.cells hl;refine⟨by rw[aU];omega,by rw[aU];omega,λj y hj=> ?_⟩;have hj:(xs.take l)[j]? =some y:=hj;rw[bj] at hj;split at hj
 case isFalse=>cases hj
 rename_i BM;have hk:(j+1)*t.cells<=l*t.cells:=bp _ BM;rw[bK,cm] at hk;have e:((cs.take (l*t.cells)).drop (j*t.cells)).take t.cells=(cs.drop (j*t.cells)).take t.cells:=by rw[List.drop_take,List.take_take,bL (by omega)]
 rw[e];exact h3 j y hj
theorem P9{t:Ty}{xs:List (El t)}{n l:Nat}{cs:List Value}(h:eC X (.arr n t) xs cs)(hl:l<=n):eC X (.arr (n-l) t) (xs.drop l:List (El t)) (cs.drop (l*t.cells)):=by obtain⟨h1,h2,h3⟩:=h;refine⟨by rw[bW];omega,by rw[bW,Nat.sub_mul];omega,λj y hj=> ?_⟩;have hj:(xs.drop l)[j]? =some y:=hj;rw[bI] at hj;rw[List.drop_drop,<-bK];exact h3 (l+j) y hj
theorem QM{α:Type}(xs ys:List α)(lo:Nat)(h:lo+ys.length<=xs.length):(gQ xs ys lo).length=xs.length:=by unfold gQ;simp;omega
theorem ztf(hE:bN P E)(hr:Rel tq X s a){d x:Operand}{T e:TypeId}{t:Ty}{ts:Array TypeId}(ho:o.op= .call ⟨.builtin .copy,#[d,x],ts⟩)(sF:ts[0]? =some T)(hT:E.ty T=some (.sl e t)){id n lo:Nat}{ta tb:Ty}{p:List Nat}
 (mj:s.cM d= .ptr id (.dC (.qi n) ta tb) p) (vm:∀r,vB (.dC (.qi n) ta tb) p r (a.eval d)->∃cap off,a.eval d= .slice (some ⟨r,off,none⟩) (n-lo) cap/\lo<=n/\((n=lo/\off=0)\/off=lo*ta.cells))
 (h:pP t s id n lo ta tb (s.cM x) e some=some u):cN P tq X s a o u:=by
 have hx:=hr.cM d;rw[mj] at hx;obtain⟨r0,hβ,hv⟩:=hx;unfold pP at h;split at h
 case isFalse=>cases h
 rename_i heq;have:=Ty.cS heq;subst this;obtain⟨ys,h,B5⟩:=zy h;split at h
 case h_2=>cases h
 rename_i B hB;split at h
 case isFalse=>cases h
 rename_i lR;obtain⟨hb,r,h1,how,cs,T',cH,lV,n5⟩:=J3 hr hB lR;rw[hβ] at h1;cases h1;generalize(Ty.cast lR B.x:List (El ta))=xs at*;cases hn:ak n (ag xs)<;>rw[hn] at h
 ·cases h
 cases H0:bC lo n<;>rw[H0] at h
 ·cases h
 cases h;have hn:=aE hn;have H0:=b7 H0;obtain⟨cap,off,hd,_,Ee⟩:=vm r0 hv;obtain⟨cx,tF,ev⟩:=B5 X _ _ (hr.cM x);have ab2:=tF;obtain⟨A,c,D6,_⟩:=ab2;have ev:a.eval x= .slice A ys.length c:=by rw[ev,D6];rfl
 rw[D6] at tF;obtain⟨_,hc,cy,ry,ny,sy⟩:=zaq (X:=X) tF;have hu:=(hE.ty T _ hT).lU;have hm:(ys.take (n-lo)).length=min ys.length (n-lo):=by rw[aU,l6]
 generalize KB:min ys.length (n-lo)=m at hm;have hmy:m<=ys.length:=by omega
 have hmn:m<=n-lo:=by omega
 have htk:ys.take (n-lo)=ys.take m:=by
  rw[<-KB];rcases Nat.le_total ys.length (n-lo) with g|g
  ·rw[bL g,cp g,cp (bg _)]
  ·rw[Nat.min_eq_right g]
 have rz:=Qa ry hmy;have Ob:(cy.take (m*ta.cells)).length=m*ta.cells:=rz.2.1;have mZ:eC X (.arr xs.length ta) xs cs.toList:=⟨rfl,by simpa using lV,n5⟩
 have rU:(dy ta.cells m (a.eval x)).run P X.w= .ok (cy.take (m*ta.cells)).toArray X.w:=by
  rw[ev];cases A with
  |none=>
   have:=ny rfl;subst this;have:m=0:=by simpa using hmy
   subst this;simp [dy]
  |some ad=>
   have:=run_loadCells_list (P:=P) X.w ad (cy.take (m*ta.cells)) (λj v hj=>by
    rw[bj] at hj;split at hj
    ·exact(sy ad rfl j v hj).2.1
    ·cases hj)
   rw[Ob] at this;simpa [dy] using this
 have lD:off+0+(cy.take (m*ta.cells)).length<=cs.size:=by
  rw[Ob,lV,<-hn];rcases Ee with⟨g1,g2⟩|g
  ·have:m=0:=by omega
   subst this;omega
  ·rw[g,eZ,<-bK];exact bp _ (by omega)
 let new:=(cs.toList.take off++cy.take (m*ta.cells)++cs.toList.drop (off+(cy.take (m*ta.cells)).length)).toArray;have gv:=run_storeCells_at P r0 off T' (cy.take (m*ta.cells)) 0 cs X.w cH lD rz.one;simp only[eZ] at gv lD;have dD:(execOp a.eval o).run P X.w= .ok (.value (.int .i64 m)) (X.row r0 new).w:=by
  have aaq:lr ys.length (n-lo)=m:=KB;simp only[execOp,ho,resolve,invoke,builtin,ax,aD,al,kg,bq,eH,Builtin.copy_,sF,hd];have e1:(fh (a.eval x)).run P X.w= .ok ys.length X.w:=by rw[ev];simp [fh]
  simp [run_underlying hu.1,e1,aaq,rU,gv,goInt,tJ hE hu.2];show _=X.w.setRow r0 new;congr 1;simp [new]
 have mJ:new.toList=cs.toList.take off++cy.take (m*ta.cells)++cs.toList.drop (off+(cy.take (m*ta.cells)).length):=rfl;have cY:eC X (.arr xs.length ta) (gQ xs (ys.take m) lo:List (El ta)) new.toList:=by
  rw[mJ,Ob];by_cases m0:m=0
  ·subst m0;have e1:gQ xs (ys.take 0) lo=xs:=by unfold gQ;simp
   rw[e1];simpa using mZ
  ·have g:off=lo*ta.cells:=by rcases Ee with⟨g1,_⟩|g<;>omega
   have h1:=Qa mZ (show lo<=xs.length by omega);have h3:=P9 mZ (show lo+m<=xs.length by omega);have:=KS h1 (KS rz h3);rw[show lo+(m+(xs.length-(lo+m)))=xs.length by omega] at this;unfold gQ;rw[show(ys.take m).length=m by rw[aU];omega,g,<-bK,bd];exact this
 have gU:new.size=cs.size:=by have h1:new.toList.length=xs.length*ta.cells:=cY.2.1;rw[lV,<-h1];simp
 have fH:ff (X.row r0 new) id r0 ⟨.dC .row ta tb,(gQ xs (ys.take (n-lo)) lo:List (El ta)),[]⟩:=by
  rw[htk];refine⟨how,new,T',setRow_heap X.w r0 cs new T' (0,0) cH,?_,λj z hj=> ?_⟩
  ·rw[gU,lV];show _=ag (gQ xs (ys.take m) lo)*_;rw[QM _ _ _ (by rw[aU];omega)]
  ·exact eC.bz (λ_ _=>uC (cs:=new) how) (cY.2.2 j z hj)
 refine⟨X.row r0 new,.int .i64 m,.inl dD,Hi how,?_⟩;rw[hm];exact(hr.row hb hβ how fH (.inl (by rw[Ty.cS lR];rfl))).fin qN (λid t p hm=>by simp [i64] at hm)
theorem agm{X:bZ}(l:List UInt8):eC X (.arr l.length (.int .u8)) (l.map λc=>(c.toNat:Int):List Int) (l.map λc=>Value.int .u8 c.toNat):=by
 refine⟨by show(l.map _).length=_;simp,by simp [Ty.cells],λj y hj=> ?_⟩;have hj:(l.map λc=>(c.toNat:Int))[j]? =some y:=hj;rw[aL] at hj;obtain⟨c,hc,rfl⟩:=av.1 hj;have:((l.map λc=>Value.int .u8 c.toNat).drop (j*(Ty.int lM).cells)).take (Ty.int lM).cells=[Value.int .u8 c.toNat]:=by
  rw[show(Ty.int lM).cells=1 from rfl,mw];apply bV;intro i;rw[bj];cases i with
  |zero=>simp [hc]
  |succ i=>simp
 rw[this];rfl
theorem adN(hE:bN P E)(hr:Rel tq X s a){d x:Operand}{T e:TypeId}{t:Ty}{ts:Array TypeId}(ho:o.op= .call ⟨.builtin .copy,#[d,x],ts⟩)(sF:ts[0]? =some T)(hT:E.ty T=some (.sl e t)){id n:Nat}{ta tb:Ty}
 (mj:s.cM d= .ptr id (.dC (.qi n) ta tb) []) {y:af} {w:List (List Nat)} (N8:s.cM x= .b8 .str y w) (h:rS t s id n ta tb y some=some u):cN P tq X s a o u:=by
 have hx:=hr.cM d;rw[mj] at hx;obtain⟨r0,hβ,cap,hd,ve⟩:=hx;unfold rS at h;split at h
 case isFalse=>cases h
 rename_i aan;have:=Ty.cS aan;subst this;split at h
 case isFalse=>cases h
 rename_i heq;have:=Ty.cS heq;subst this;split at h
 case h_2=>cases h
 rename_i B hB;split at h
 case isFalse=>cases h
 rename_i lR;obtain⟨hb,r,h1,how,cs,T',cH,lV,n5⟩:=J3 hr hB lR;rw[hβ] at h1;cases h1;generalize(Ty.cast lR B.x:List Int)=xs at*;cases hn:ak n (ag xs)<;>rw[hn] at h
 ·cases h
 cases h;have hn:=aE hn;have hy:=hr.cM x;rw[N8] at hy;obtain⟨cy,ry,ev,_⟩:=hy;have ev:a.eval x= .string y:=by rw[ev,z28 ry]
 have hu:=(hE.ty T _ hT).lU;have CK:(Ty.int lM).cells=1:=rfl;rw[CK,mw] at lV;let l:=y.data.toList.take n;have U2:l.length=min n y.size:=by simp [l]
 have UX:aI n (vT y)=l.map λc=>(c.toNat:Int):=by simp [vT,l]
 have rU:(dy 1 (lr y.size n) (.string y)).run P X.w= .ok (l.map λc=>Value.int .u8 c.toNat).toArray X.w:=by
  have e1:((y.extract 0 (lr y.size n)).data.map λb=>Value.int .u8 b.toNat)=(l.map λc=>Value.int .u8 c.toNat).toArray:=by
   apply Array.ext';have e0:(y.extract 0 (lr y.size n)).data.toList=l:=by rw[ByteArray.data_extract,Array.toList_extract,List.extract_eq_take_drop];show aI (lr y.size n-0) (y.data.toList.drop 0)=y.data.toList.take n;rw[Nat.sub_zero,List.drop_zero];show aI (min y.data.toList.length n) y.data.toList=y.data.toList.take n;rw[l6,<-List.take_eq_take_min]
   rw[Array.toList_map,e0]
  simp only[dy,aD,e1]
 have lD:0+(l.map λc=>Value.int .u8 c.toNat).length<=cs.size:=by rw[dG,lV,<-hn,U2];omega
 let new:=((l.map λc=>Value.int .u8 c.toNat)++cs.toList.drop l.length).toArray;have rz:=agm (X:=X) l;have gv:=run_storeCells_at P r0 0 T' (l.map λc=>Value.int .u8 c.toNat) 0 cs X.w cH (by simpa using lD) rz.one;have dD:(execOp a.eval o).run P X.w= .ok (.value (.int .i64 (l.length:Nat))) (X.row r0 new).w:=by
  have e1:(fh (a.eval x)).run P X.w= .ok y.size X.w:=by rw[ev];simp [fh]
  have e2:lr y.size n=l.length:=by rw[U2];exact l6 _ _
  have e3:=rU;rw[e2] at e3;simp only[execOp,ho,resolve,invoke,builtin,ax,aD,al,kg,bq,eH,Builtin.copy_,sF,hd];rw[ev] at e1⊢;simp [run_underlying hu.1,e1,e2,e3,gv,goInt,tJ hE hu.2,CK];rfl
 have mZ:eC X (.arr xs.length (.int .u8)) xs cs.toList:=⟨rfl,by simpa [CK] using lV,n5⟩
 have cY:eC X (.arr xs.length (.int .u8)) (gQ xs (l.map λc=>(c.toNat:Int)) 0:List Int) new.toList:=by
  have hle:l.length<=xs.length:=by rw[U2];omega
  have h3:=P9 mZ hle;have:=KS rz h3;rw[show l.length+(xs.length-l.length)=xs.length by omega] at this;unfold gQ;simp only[List.take_zero,List.nil_append,bJ,dG];rw[CK,mw] at this;exact this
 have gU:new.size=cs.size:=by have h1:new.toList.length=xs.length*1:=cY.2.1;rw[lV];simpa using h1
 have fH:ff (X.row r0 new) id r0 ⟨.dC .row (.int .u8) tb,(gQ xs (aI n (vT y)) 0:List Int),[]⟩:=by
  rw[UX];refine⟨how,new,T',setRow_heap X.w r0 cs new T' (0,0) cH,?_,λj z hj=> ?_⟩
  ·rw[gU,lV];show _=ag (gQ xs (l.map λc=>(c.toNat:Int)) 0)*_;rw[QM _ _ _ (by rw[dG,U2];omega)];simp [CK]
  ·exact eC.bz (λ_ _=>uC (cs:=new) how) (cY.2.2 j z hj)
 refine⟨X.row r0 new,.int .i64 (l.length:Nat),.inl dD,Hi how,?_⟩;have NH:(aI n (vT y)).length=l.length:=by rw[UX,dG]
 rw[NH];exact(hr.row hb hβ how fH (.inl (by rw[Ty.cS lR];rfl))).fin qN (λid t p hm=>by simp [i64] at hm)
theorem agz(hE:bN P E)(hr:Rel tq X s a){ops:List Oper}{mA:Array Operand}{ts:Array TypeId}(ho:o.op= .call ⟨.builtin .copy,mA,ts⟩){C:FuncId->gE Out}(h:act E C ops o s some=some u):cN P tq X s a o u:=by
 unfold act at h;simp only[ho] at h;split at h
 case h_2=>cases h
 rename_i d x T r Ao HJ;have has:mA= #[d,x]:=by rw[<-bT (xs:=mA),Ao]
 have sF:ts[0]? =some T:=by rw[<-bn,HJ];rfl
 subst has;unfold copyV at h;split at h
 ·rename_i e t id n ta tb hT mj;split at h
  ·rename_i y w N8;exact adN hE hr ho sF hT mj N8 h
  ·exact ztf hE hr ho sF hT mj (λr hv=>by obtain⟨cap,h1,h2⟩:=hv;exact⟨cap,0,h1,bR _,.inr (by simp)⟩) h
 ·rename_i e t id n ta tb l hT mj;exact ztf hE hr ho sF hT mj (λr hv=>by obtain⟨cap,off,h1,h2,h3,h4⟩:=hv;exact⟨cap,off,h1,h3,h4⟩) h
 ·cases h
end Go.Ref

namespace Go.Ref
open Go
variable {P:Program} {tq:n4} {E:Env} {X:bZ} {s:State} {a:Act} {o:Oper} {u:Out}
structure rF(tq:n4)(X:bZ)(l:List SV)(b:ae fc)(args:Array Value):Prop where
 size:args.size=l.length
 rep:∀(i:Nat) sv v,l[i]? =some sv->args[i]? =some v->cq X (.c i 0) sv v
 ptr:∀id t p,SV.ptr id t p∈l->id=0/\b.isSome=true
 box:∀B,b=some B->∃r,X.β 0=some r/\ff X 0 r B
 rows:b=none->∀g pl n,X.ow g≠ .row pl n
 wP:l.any SV.fY=false
 j8:Good tq X
def E8(X Y:bZ)(b:ae fc)(r:List SV)(b':ae fc)(v:Value):Prop:=
 ∃r0,kj {Y with β:=λ_=>some r0} .r r v/\
  (∀B',b'=some B'->ff Y 0 r0 B'/\(b.isSome=true->X.β 0=some r0))/\
  ((b'=none\/b.isSome=true)->∀id t p,SV.ptr id t p∉r)/\r.any SV.fY=false
def Ah(P:Program)(f:FuncId):Prop:=∃fn c,P.funcs[f]? =some fn/\(fn.name== "runtime.NumGoroutine")=false/\fn.body=some c
def kX(P:Program)(tq:n4)(C:bu)(f:FuncId):Prop:=
 ∀(l:List SV) (b:ae fc) (r:List SV) (b':ae fc),C (List SV×ae fc) f l b (λr b=>some (r,b))=some (r,b')->Ah P f/\
  ∀(X:bZ) (args:Array Value),rF tq X l b args->Calls P f args X.w λe w'=>match e with
   | .returned v=>∃Y,Y.w=w'/\Ext X Y/\E8 X Y b r b' v
   |_=>False
def pY(k:ae Nat):Ow->Bool
 | .box id=>decide (k=some id)
 | .row (.b id _) _=>decide (k=some id)
 |_=>false
def pV(k:ae Nat):Ow->Ow
 | .all=> .all
 | .ro n=> .ro n
 | .box id=>if k=some id then .box 0 else .ro 0
 | .row (.b id p) n=>if k=some id then .row (.b 0 p) n else .ro n
 | .row _ n=> .ro n
def qH(k:ae Nat)(d:Nat):Ow->Ow
 | .all=> .all
 | .ro n=> .ro n
 | .box 0=>match k with
   |some id=> .box id
   |none=> .ro 0
 | .box _=> .ro 0
 | .row (.r j p) n=> .row (.c d j p) n
 | .row (.b 0 p) n=>match k with
   |some id=> .row (.b id p) n
   |none=> .ro n
 | .row _ n=> .ro n
theorem Pp{k:ae Nat}{w:Ow}{i:Nat}:(pV k w).used i↔w.used i:=by
 cases w with
 |all=>rfl
 |ro n=>rfl
 |box id=>simp only[pV];split<;>simp [Ow.used]
 |row pl n=>
  cases pl with
  |b id p=>simp only[pV];split<;>simp [Ow.used]
  |_=>rfl
theorem ad9{k:ae Nat}{d:Nat}{w:Ow}{i:Nat}(h:w.used i):(qH k d w).used i:=by
 cases w with
 |all=>exact h
 |ro n=>exact h
 |box id=>exact h.elim
 |row pl n=>
  cases pl with
  |b id p=>
   cases id with
   |zero=>simp only[qH];split<;>exact h
   |succ id=>exact h
  |c i j p=>exact h
  |r j p=>exact h
theorem zde{k:ae Nat}{w:Ow}(h:pY k w=false):(pV k w).still:=by
 cases w with
 |all=>trivial
 |ro n=>trivial
 |box id=>simp only[pY,decide_eq_false_iff_not] at h;simp only[pV];rw[if_neg h];trivial
 |row pl n=>
  cases pl with
  |b id p=>simp only[pY,decide_eq_false_iff_not] at h;simp only[pV];rw[if_neg h];trivial
  |_=>trivial
def bZ.jI(X:bZ)(k:ae Nat):bZ:=⟨X.w,λg=>pV k (X.ow g),match k with
 |some id=>λ_=>X.β id
 |none=>X.β⟩
theorem Cx{k:ae Nat}{ad:Addr}{v:Value}:(X.jI k).cf ad v↔X.cf ad v:=by simp only[bZ.cf,bZ.jI,Pp]
def bZ.back(X Y:bZ)(k k':ae Nat)(d:Nat)(β:Nat->ae Nat):bZ:=
 ⟨Y.w,λg=>if g<X.w.heap.size/\pY k (X.ow g)=false then X.ow g else qH k' d (Y.ow g),β⟩
section
variable {k k':ae Nat} {d:Nat} {β:Nat->ae Nat} {Y:bZ}
theorem EQ(h:Ext (X.jI k) Y){g:Nat}(hg:g<X.w.heap.size)(hm:pY k (X.ow g)=false):(X.back Y k k' d β).ow g=X.ow g/\(X.back Y k k' d β).w.heap[g]? =X.w.heap[g]? /\(Y.ow g).still/\Y.ow g=pV k (X.ow g):=by obtain⟨h1,h2⟩:=h.still g hg (zde hm);refine⟨by simp only[bZ.back];rw[if_pos ⟨hg,hm⟩],h2,?_,h1⟩;rw[h1];exact zde hm
theorem zdk{w:Ow}(h:w.still):pY k w=false:=by cases w<;>first|rfl|exact h.elim
theorem Good.jI(h:Good tq X):Good tq (X.jI k):=λe he=>by obtain⟨h1,h2⟩:=h e he;exact⟨zde (zdk h1),h2⟩
theorem Good.back(h:Good tq X)(hx:Ext (X.jI k) Y):Good tq (X.back Y k k' d β):=h.Cc λg hg hs=>⟨(EQ hx hg (zdk hs)).1,(EQ (k':=k') (d:=d) (β:=β) hx hg (zdk hs)).2.1⟩
theorem zd1(h:Ext (X.jI k) Y){g:Nat}(hs:¬(Y.ow g).still):(X.back Y k k' d β).ow g=qH k' d (Y.ow g):=by simp only[bZ.back];rw[if_neg];rintro⟨hg,hm⟩;exact hs (EQ (k':=k') (d:=d) (β:=β) h hg hm).2.2.1
theorem Cw(h:Ext (X.jI k) Y){ad:Addr}{v:Value}(hs:Y.cf ad v):(X.back Y k k' d β).cf ad v:=by
 refine⟨hs.1,hs.2.1,?_⟩;simp only[bZ.back];split
 ·rename_i hc;have:=(EQ (k':=k') (d:=d) (β:=β) h hc.1 hc.2).2.2.2;have hu:=hs.2.2;rw[this,Pp] at hu;exact hu
 ·exact ad9 hs.2.2
theorem zp7(h:Ext (X.jI k) Y)(hβ:β 0=X.β 0):Ext X (X.back Y k k' d β) where
 cf:=λad v hs=>Cw h (h.cf ad v (Cx.2 hs))
 size:=h.size
 os:=h.os
 tape:=h.tape
 output:=h.output
 β0:=hβ
 still:=λg hg gv=>by
  have hm:pY k (X.ow g)=false:=by cases hx:X.ow g<;>rw[hx] at gv<;>first|rfl|exact gv.elim
  obtain⟨h1,h2,_⟩:=EQ (k':=k') (d:=d) (β:=β) h hg hm;exact⟨h1,h2⟩
theorem eO.back(h:Ext (X.jI k) Y){pl:Place}(n6:∀n,pY k (.row pl n)=false){e:TypeId}{m n:Nat}{v:Value}(ho:eO X pl e m n v):eO (X.back Y k k' d β) pl e m n v:=by
 rcases ho with ho|⟨g,cap,cur,h1,h2,h3,h4,h5,h6⟩
 ·exact .inl ho
 ·obtain⟨k1,k2,_⟩:=EQ (k':=k') (d:=d) (β:=β) h (C4 h2) (by rw[h6];exact n6 _);exact .inr ⟨g,cap,cur,h1,k2.trans h2,h3,h4,h5,k1.trans h6⟩
theorem eI.back(h:Ext (X.jI k) Y){pl:List Nat->Place}(n6:∀p n,pY k (.row (pl p) n)=false){t:Ty}{x:El t}{cs:List Value}{own:List (List Nat)}(ho:eI X pl t x cs own):eI (X.back Y k k' d β) pl t x cs own:=λp hp=>by obtain⟨e,t',xs,v,g0,g1,g2,g3⟩:=ho p hp;exact⟨e,t',xs,v,g0,g1,g2,g3.back h (n6 p)⟩
theorem eI.out(h:Ext (X.jI k) Y){pl oI:List Nat->Place}(n6:∀p n,qH k' d (.row (pl p) n)= .row (oI p) n){t:Ty}{x:El t}{cs:List Value}{own:List (List Nat)}(ho:eI Y pl t x cs own):eI (X.back Y k k' d β) oI t x cs own:=λp hp=>by
 obtain⟨e,t',xs,v,g0,g1,g2,g3⟩:=ho p hp;refine⟨e,t',xs,v,g0,g1,g2,?_⟩;rcases g3 with ho|⟨g,cap,cur,h1,h2,h3,h4,h5,h6⟩
 ·exact .inl ho
 ·refine .inr ⟨g,cap,cur,h1,h2,h3,h4,h5,?_⟩;rw[zd1 h (by rw[h6];exact λe=>e),h6,n6]
theorem cq.back(h:Ext (X.jI k) Y){i j:Nat}{sv:SV}{v:Value}(hβ:∀id t p,sv= .ptr id t p->β id=X.β id)(hl:∀id a b n,sv= .eU id a b n->k≠some id/\β id=X.β id)(hr:cq X (.c i j) sv v):cq (X.back Y k k' d β) (.c i j) sv v:=by
 cases sv with
 |undef=>trivial
 |skip=>exact hr
 |jJ=>exact hr
 |m5=>exact hr
 |over=>exact hr
 |b8 t x own=>obtain⟨cs,h1,h2,h3⟩:=hr;exact⟨cs,h1.bz (λ_ _ hs=>Cw h (h.cf _ _ (Cx.2 hs))),h2,h3.back h (λ_ _=>rfl)⟩
 |ptr id t p=>obtain⟨r,h1,h2⟩:=hr;exact⟨r,(hβ id t p rfl).trans h1,h2⟩
 |view t x=>obtain⟨ad,cs,h1,h2,h3,h4⟩:=hr;exact⟨ad,cs,h1,h2,h3.bz (λ_ _ hs=>Cw h (h.cf _ _ (Cx.2 hs))),λi u hi=>Cw h (h.cf _ _ (Cx.2 (h4 i u hi)))⟩
 |cap f t x u y=>exact Aa (λ_ _ hs=>Cw h (h.cf _ _ (Cx.2 hs))) hr
 |eU id a b n=>obtain⟨r,h1,h2,h3⟩:=hr;obtain⟨hk,hb⟩:=hl id a b n rfl;obtain⟨e1,e2,_⟩:=EQ (k':=k') (d:=d) (β:=β) h (ey X.w _ h3) (by rw[h2];simp [pY,hk]);refine⟨r,hb.trans h1,e1.trans h2,?_⟩;simp only[bP] at h3⊢;rw[e2];exact h3
theorem ff.back(h:Ext (X.jI k) Y){id r:Nat}{B:fc}(hk:k≠some id)(hb:ff X id r B):ff (X.back Y k k' d β) id r B:=by
 obtain⟨h3,h1⟩:=hb;have hm:pY k (X.ow r)=false:=by rw[h3];simp [pY,hk]
 obtain⟨k1,k2,_⟩:=EQ (k':=k') (d:=d) (β:=β) h h1.lt hm;exact⟨k1.trans h3,h1.move (λ_ _ hs=>Cw h (h.cf _ _ (Cx.2 hs))) k2 (λcs h4=>h4.back h (λ_ _=>by simp [pY,hk])) λ_ _ g o _ ho hw=>by obtain⟨e1,e2,_⟩:=EQ (k':=k') (d:=d) (β:=β) h (C4 ho) (by rw[hw];simp [pY,hk]);exact⟨e2.trans ho,e1.trans hw⟩⟩
theorem ff.out(h:Ext (X.jI k) Y){id r:Nat}{B:fc}(hk:k'=some id)(hb:ff Y 0 r B):ff (X.back Y k k' d β) id r B:=by obtain⟨h3,h1⟩:=hb;refine⟨?_,h1.move (λ_ _ hs=>Cw h hs) rfl (λcs h4=>h4.out h (λp n=>by simp [qH,hk])) λ_ _ g o _ ho hw=>⟨ho,by rw[zd1 h (by rw[hw];exact λhh=>hh),hw];simp [qH,hk]⟩⟩;rw[zd1 h (by rw[h3];exact λe=>e),h3];simp [qH,hk]
theorem cq.out(h:Ext (X.jI k) Y){r0 id j:Nat}{sv:SV}{v:Value}(hβ:∀dP t p,sv= .ptr dP t p->β id=some r0)(hn:sv.fY=false)(hr:cq {Y with β:=λ_=>some r0} (.r j) sv v):cq (X.back Y k k' d β) (.c d j) (sv.oK id) v:=by
 cases sv with
 |undef=>trivial
 |skip=>exact hr
 |jJ=>exact hr
 |m5=>exact hr
 |over=>exact hr
 |b8 t x own=>obtain⟨cs,h1,h2,h3⟩:=hr;have h3:eI Y (.r j) t x cs own:=h3;exact⟨cs,eC.bz (λad v (hs:({Y with β:=λ_=>some r0}:bZ).cf ad v)=>Cw (Y:=Y) h hs) h1,h2,h3.out h (λ_ _=>rfl)⟩
 |ptr dP t p=>obtain⟨r,h1,h2⟩:=hr;have h1:some r0=some r:=h1;cases h1;exact⟨r0,hβ dP t p rfl,h2⟩
 |view t x=>obtain⟨ad,cs,h1,h2,h3,h4⟩:=hr;exact⟨ad,cs,h1,h2,eC.bz (λad v (hs:({Y with β:=λ_=>some r0}:bZ).cf ad v)=>Cw (Y:=Y) h hs) h3,λi u hi=>Cw h (show Y.cf _ _ from h4 i u hi)⟩
 |cap f t x u y=>exact Aa (X:={Y with β:=λ_=>some r0}) (λad v (hs:({Y with β:=λ_=>some r0}:bZ).cf ad v)=>Cw (Y:=Y) h hs) hr
 |eU dP a b n=>cases hn
theorem Rel.back(h:Ext (X.jI k) Y)(hr:Rel tq X s a)(hβ:∀(id:Nat) B,s.bs[id]? =some (some B)->β id=X.β id)(hk:∀(id:Nat) B,s.bs[id]? =some (some B)->k≠some id):Rel tq (X.back Y k k' d β) s a where
 size:=hr.size
 pc:=hr.pc
 gn:=λi l v hl hv=>(hr.gn i l v hl hv).ql λj sv u hm rl=>rl.back h (λid t p e=>by
  obtain⟨B,hB⟩:=hr.live i l id t p hl (e▸aN hm);exact hβ id B hB) (λid c d n e=>by
  obtain⟨_,⟨x,own,hb,_⟩,_⟩:=hr.eU i l id c d n hl (e▸aN hm);exact⟨hk id _ hb,hβ id _ hb⟩)
 boxes:=λid B hB=>by obtain⟨r,h1,h2⟩:=hr.boxes id B hB;exact⟨r,(hβ id B hB).trans h1,h2.back h (hk id B hB)⟩
 live:=hr.live
 defers:=hr.defers
 eU:=hr.eU
 j8:=hr.j8.back h
theorem Rel.DX(h:Ext (X.jI k) Y)(hr:Rel tq X s a){id r:Nat}{B B':fc}(hb:s.bs[id]? =some (some B))(hk:k=some id)(ND:k'=some id)(hβ:X.β id=some r)(hB:ff Y 0 r B')(hg:B.t.nf=false\/ []∈B.own):Rel tq (X.back Y k k' d X.β) (s.cD (some (id,B'))) a where
 size:=hr.size
 pc:=by simpa [State.cD] using hr.pc
 gn:=λi l v hl hv=>(hr.gn i l v hl hv).ql λj sv u hm rl=>rl.back h (λ_ _ _ _=>rfl) (λdP c d n e=>⟨λe2=>by rw[hk] at e2;cases e2;exact hr.wP hb hg i l c d n hl (e▸aN hm),rfl⟩)
 boxes:=λdP B2 kQ=>by
  have bS:id<s.bs.length:=(aC.1 hb).1;simp only[State.cD,ay] at kQ;by_cases e:id=dP
  ·subst e;rw[if_pos rfl,if_pos bS] at kQ;cases kQ;exact⟨r,hβ,hB.out h ND⟩
  ·rw[if_neg e] at kQ;obtain⟨r',h1,h2⟩:=hr.boxes dP B2 kQ;exact⟨r',h1,h2.back h (by rw[hk];intro e2;cases e2;exact e rfl)⟩
 live:=λi l dP t p hi hm=>by
  have bS:id<s.bs.length:=(aC.1 hb).1;obtain⟨B2,kQ⟩:=hr.live i l dP t p hi hm;simp only[State.cD,ay];by_cases e:id=dP
  ·subst e;exact⟨B',by rw[if_pos rfl,if_pos bS]⟩
  ·rw[if_neg e];exact⟨B2,kQ⟩
 defers:=hr.defers
 eU:=hr.eU.cD (hr.wP hb hg)
 j8:=hr.j8.back h
end
theorem cq.jI{k:ae Nat}{pl oI:List Nat->Place}{t:Ty}{x:El t}{w:List (List Nat)}{v:Value}(hr:cq X pl (.b8 t x w) v):cq (X.jI k) oI (.b8 t x []) v:=by obtain⟨cs,h1,h2,_⟩:=hr;exact⟨cs,h1.bz (λ_ _=>Cx.2),h2,uB⟩
theorem ff.jI{id r:Nat}{B:fc}(hb:ff X id r B):ff (X.jI (some id)) 0 r B:=by
 obtain⟨h3,h1⟩:=hb;refine⟨by simp [bZ.jI,h3,pV],h1.move (λ_ _=>Cx.2) rfl (λcs h4 p hp=> ?_) λ_ _ g o _ ho hw=>⟨ho,by simp [bZ.jI,hw,pV]⟩⟩;obtain⟨e,t',xs,v,g0,g1,g2,g3⟩:=h4 p hp;refine⟨e,t',xs,v,g0,g1,g2,?_⟩;rcases g3 with ho|⟨g,cap,cur,k1,k2,k3,k4,k5,k6⟩
 ·exact .inl ho
 ·exact .inr ⟨g,cap,cur,k1,k2,k3,k4,k5,by simp [bZ.jI,k6,pV]⟩
theorem zp5:∀(vs l:List SV) (b:ae (Nat×fc)),qP s vs=some (l,b)->l.any SV.fY=false
 | [],l,b,h=>by simp only[qP,az,gm] at h;rw[<-h.1];rfl
 |v::r,l,b,h=>by
  simp only[qP] at h;split at h
  ·cases h
  rename_i l1 b1 h1;have ih:=zp5 r l1 b1 h1;split at h
  ·cases h;simpa [SV.fY] using ih
  ·cases h;simpa [SV.fY] using ih
  ·cases h;simpa [SV.fY] using ih
  ·split at h
   case h_2=>cases h
   split at h
   case isFalse=>cases h
   cases h;simpa [SV.fY] using ih
  ·cases h
theorem zp6(hr:Rel tq X s a):∀(vs:List (SV×Value)) (l:List SV) (b:ae (Nat×fc)),(∀x∈vs,∃q,cq X q x.1 x.2)->qP s (vs.map (·.1))=some (l,b)->l.length=vs.length/\
 (∀id B,b=some (id,B)->s.bs[id]? =some (some B))/\
 (∀id t p,SV.ptr id t p∈l->id=0/\b.isSome=true)/\
 ∀k,(∀id B,b=some (id,B)->k=some id)->∀(i:Nat) sv x,l[i]? =some sv->vs[i]? =some x->∀q,cq (X.jI k) q sv x.2:=by
 intro vs
 induction vs with
 |nil=>intro l b _ h;simp only[eH,qP,az,gm] at h;obtain⟨rfl,rfl⟩:=h;refine⟨rfl,(λid B e=>by cases e),(λid t p hm=>by cases hm),λk _ i sv x hl=>by simp at hl⟩
 |cons x r ih=>
  intro l b qA h;simp only[bq,qP] at h;split at h
  ·cases h
  rename_i l1 b1 h1;obtain⟨i1,i2,i3,i4⟩:=ih l1 b1 (λy hy=>qA y (aG _ hy)) h1;obtain⟨q0,hx⟩:=qA x List.mem_cons_self;have fin:∀(sv:SV),l=sv::l1->(∀id B,b1=some (id,B)->b=b1)->(∀id B,b=some (id,B)->s.bs[id]? =some (some B))->(∀id t p,sv= .ptr id t p->id=0/\b.isSome=true)->
   (∀k,(∀id B,b=some (id,B)->k=some id)->∀q,cq (X.jI k) q sv x.2)->l.length=(x::r).length/\
   (∀id B,b=some (id,B)->s.bs[id]? =some (some B))/\
   (∀id t p,SV.ptr id t p∈l->id=0/\b.isSome=true)/\
   ∀k,(∀id B,b=some (id,B)->k=some id)->∀(i:Nat) sv y,l[i]? =some sv->(x::r)[i]? =some y->∀q,cq (X.jI k) q sv y.2:=by
   intro sv hl hb fH fL cY;subst hl;refine⟨by simp [i1],fH,λid t p hm=> ?_,λk hk i sv' y hl hv=> ?_⟩
   ·rcases aH.1 hm with e|hm
    ·exact fL id t p e.symm
    ·obtain⟨j1,j2⟩:=i3 id t p hm;cases vK:b1 with
     |none=>rw[vK] at j2;cases j2
     |some bb=>rw[hb bb.1 bb.2 vK];exact⟨j1,j2⟩
   ·cases i with
    |zero=>simp only[bQ,az] at hl hv;subst hl hv;exact cY k hk
    |succ i=>simp only[bH] at hl hv;exact i4 k (λid B e=>hk id B (by rw[hb id B e];exact e)) i sv' y hl hv
  obtain⟨x1,x2⟩:=x;simp only at h hx fin;split at h
  ·cases h;exact fin _ rfl (λ_ _ _=>rfl) i2 (λ_ _ _ e=>by cases e) (λk _ q=>hx.jI)
  ·cases h;exact fin _ rfl (λ_ _ _=>rfl) i2 (λ_ _ _ e=>by cases e) (λk _ q=>hx)
  ·cases h;refine fin _ rfl (λ_ _ _=>rfl) i2 (λ_ _ _ e=>by cases e) (λk _ q=> ?_);obtain⟨ad,cs,g1,g2,g3,g4⟩:=hx;exact⟨ad,cs,g1,g2,g3.bz (λ_ _=>Cx.2),λi w hi=>Cx.2 (g4 i w hi)⟩
  ·rename_i id t;split at h
   case h_2=>cases h
   rename_i B hB;split at h
   case isFalse=>cases h
   cases h;obtain⟨rr,g1,g2⟩:=hx;refine fin _ rfl (λ_ _ e=>by cases e) (λid B e=>by cases e;exact yt hB) (λ_ _ _ e=>by cases e;exact⟨rfl,rfl⟩) (λk hk q=> ?_);have:=hk id B rfl;subst this;exact⟨rr,g1,g2⟩
  ·cases h
def sI(P:Program)(tq:n4)(X:bZ)(s:State)(a:Act)(o:Oper)(u:Out):Prop:=
 ∀(next:Act->World->Prop) (Q:Exit->Act->World->Prop),(∀Y v,Ext X Y->Rel tq Y (s.apply o.dst u) (a.put o.dst v)->next (a.put o.dst v) Y.w)->o.wp P a X.w next Q
theorem cN.does(h:cN P tq X s a o u):sI P tq X s a o u:=λnext Q hn=>by
 obtain⟨Y,v,h1,h2,h3⟩:=h;unfold gN;rcases h1 with h1|⟨h1,rfl⟩
 ·rw[h1,jg];exact hn Y v h2 h3
 ·rw[h1,jw];exact hn Y _ h2 h3
theorem O5{f:FuncId}(h:Ah P f){mA:Array Operand}{ts:Array TypeId}(ho:o.op= .call ⟨.value (.func f),mA,ts⟩)(w:World):(execOp a.eval o).run P w= .ok (.enter f (mA.map a.eval)) w:=by obtain⟨fn,c,h1,h2,h3⟩:=h;simp [execOp,ho,resolve,ka,Act.eval,invoke,callFunc,h1,h3];simpa using h2
theorem zub{l:List SV}{id:Nat}(h:∀id t p,SV.ptr id t p∉l):l.map (SV.oK id)=l:=by
 induction l with
 |nil=>rfl
 |cons v r ih=>
  rw[bq,ih (λid t p hm=>h id t p (aG _ hm))];congr 1;cases v<;>first|rfl|skip
  exact absurd (List.mem_cons_self) (h _ _ _)
theorem zpu{k k':ae Nat}{d:Nat}{β:Nat->ae Nat}{Y:bZ}(h:Ext (X.jI k) Y){r0 id:Nat}{r:List SV}{v:Value}(hβ:∀dP t p,SV.ptr dP t p∈r->β id=some r0)(hn:r.any SV.fY=false)(hr:kj {Y with β:=λ_=>some r0} .r r v):kj (X.back Y k k' d β) (.c d) (r.map (SV.oK id)) v:=by
 match r,hr with
 | [sv],hr=>exact cq.out h (λdP t p e=>hβ dP t p (by simp [e])) (by simpa using hn) hr
 | [],⟨vs,h1,h2,h3⟩=>exact⟨vs,h1,h2,λj s u hs=>by simp at hs⟩
 |x::y::r,⟨vs,h1,h2,h3⟩=>refine⟨vs,h1,by simpa using h2,λj sv u hs hu=> ?_⟩;have hs:((x::y::r).map (SV.oK id))[j]? =some sv:=hs;rw[aL] at hs;obtain⟨s0,na,rfl⟩:=av.1 hs;exact cq.out h (λdP t p e=>hβ dP t p (e▸aN na)) (by simpa using cE.1 hn s0 (aN na)) (h3 j s0 u na hu)
theorem PH{l:List SV}{id:Nat}(h:l.any SV.fY=false):(l.map (SV.oK id)).any SV.fY=false:=cE.2 λv hv=>by obtain⟨w,hw,rfl⟩:=bM.1 hv;have:=cE.1 h w hw;cases w<;>first|exact this|simp [SV.oK,SV.fY]
theorem ad2:∀g pl n,(X.jI none).ow g≠ .row pl n:=λg pl n=>by
 show pV none (X.ow g)≠_;cases X.ow g with
 |row q m=>cases q<;>simp [pV]
 |_=>simp [pV]
theorem zda(hr:Rel tq X s a){C:bu}(hC:C.Nat){f:FuncId}(hf:kX P tq C f){vs:List (SV×Value)}(Eh:∀x∈vs,∃q,cq X q x.1 x.2)(m3:Ah P f->(execOp a.eval o).run P X.w= .ok (.enter f (vs.map (·.2)).toArray) X.w)(h:oi (C Out) s o.dst f (vs.map (·.1)) some=some u):sI P tq X s a o u:=by
 have dD:=m3;clear m3;unfold oi at h;have enter:∀(l:List SV) (b:ae (Nat×fc)) (k:ae Nat),qP s (vs.map (·.1))=some (l,b)->(∀id B,b=some (id,B)->k=some id)->(b=none->k=none)->rF tq (X.jI k) l (b.map (·.2)) (vs.map (·.2)).toArray:=by
  intro l b k gM hk Gl;obtain⟨i1,i2,i3,i4⟩:=zp6 hr vs l b Eh gM;refine⟨by simpa using i1.symm,λi sv v hl hv=> ?_,λid t p hm=> ?_,λB hB=> ?_,λhb=> ?_,zp5 _ _ _ gM,hr.j8.jI⟩
  ·rw[kC,aL] at hv;obtain⟨x,hx,rfl⟩:=av.1 hv;exact i4 k hk i sv x hl hx _
  ·obtain⟨j1,j2⟩:=i3 id t p hm;exact⟨j1,by simpa using j2⟩
  ·obtain⟨bb,hbb,rfl⟩:=av.1 hB;obtain⟨id,B⟩:=bb;obtain⟨r,h1,h2⟩:=hr.boxes id B (i2 id B hbb);have:=hk id B hbb;subst this;exact⟨r,h1,h2.jI⟩
  ·have hb:b=none:=by cases b<;>simp at hb⊢
   rw[Gl hb];exact ad2
 split at h
 ·rename_i l gM;obtain⟨⟨r,b'⟩,vd,h⟩:=rC (hC Out _ f l none _ (λr b=>some (r,b)) (λz=>match z.2 with
   |none=>some {v:=z.1}
   |some B=>match o.dst with
    |some d=>match s.bs[d+1]? with
     |some none=>some {v:=z.1.map (SV.oK (d+1)),bx:=some (d+1,B)}
     |_=>none
    |none=>none) (λr b=>rfl)) h
  obtain⟨m3,vg⟩:=hf l none r b' vd;have pq:=enter l none none gM (λid B e=>by cases e) (λ_=>rfl);intro next Q hn
  unfold gN;rw[dD m3,kL];refine(vg (X.jI none) _ pq).mono λe w' he=> ?_;cases e with
  |returned v=>
   obtain⟨Y,rfl,dF,r0,cY,fH,wM,mJ⟩:=he;simp only at h;cases b' with
   |none=>cases h;have hp:=wM (.inl rfl);have ia:=zp7 (k':=none) (d:=o.dst.getD 0) (β:=X.β) dF rfl;refine hn (X.back Y none none (o.dst.getD 0) X.β) v ia ?_;refine(Rel.back (k':=none) dF hr (λ_ _ _=>rfl) (λ_ _ _=>by simp)).fin ?_ (λid t p hm=>absurd hm (hp id t p)) mJ;have:=zpu (k':=none) (d:=o.dst.getD 0) (β:=X.β) (id:=0) dF (λdP t p hm=>absurd hm (hp dP t p)) mJ cY;rw[zub hp] at this;exact this
   |some B=>
    simp only at h;split at h
    case h_2=>cases h
    rename_i d hd;split at h
    case h_2=>cases h
    rename_i qy;cases h;have bS:d+1<s.bs.length:=(aC.1 qy).1;obtain⟨hB,_⟩:=fH B rfl;let β:Nat->ae Nat:=λid=>if id=d+1 then some r0 else X.β id;have hβd:β (d+1)=some r0:=by simp [β]
    have ia:=zp7 (k':=some (d+1)) (d:=d) (β:=β) dF (by simp [β]);refine hn (X.back Y none (some (d+1)) d β) v ia ?_;have eQ:=(Rel.back (k':=some (d+1)) (d:=d) (β:=β) dF hr (λid B2 kQ=>by show(if _ then _ else _)=_;rw[if_neg (λe=>by rw[e,qy] at kQ;cases kQ)]) (λ_ _ _=>by simp)).nI bS qy hβd (hB.out dF rfl)
    rw[hd];refine eQ.put (λd' e=> ?_) (λid t p hm=> ?_) (PH mJ)
    ·cases e;exact zpu dF (λ_ _ _ _=>hβd) mJ cY
    ·obtain⟨s0,_,he0⟩:=bM.1 hm;have:id=d+1:=by cases s0<;>simp [SV.oK] at he0;exact he0.1.symm
     subst this;exact⟨B,by simp [State.close,State.cD,ay,bS]⟩
  |panicked c=>exact he.elim
  |outgrown=>exact he.elim
 ·rename_i l id B gM;split at h
  case isTrue=>cases h
  rename_i zH;have hg:B.t.nf=false\/ []∈B.own:=by rw[Bool.not_eq_true,Bool.and_eq_false_iff,Bool.not_eq_false'] at zH;exact zH.imp (λh=>h) G2
  obtain⟨⟨r,b'⟩,vd,h⟩:=rC (hC Out _ f l (some B) _ (λr b=>some (r,b)) (λz=>match z.2 with
   |some B'=>if B'.t.iL B.t=true then some {v:=z.1,bx:=some (id,B')} else none
   |none=>none) (λr b=>rfl)) h
  obtain⟨m3,vg⟩:=hf l (some B) r b' vd;have pq:=enter l (some (id,B)) (some id) gM (λid B e=>by cases e;rfl) (λe=>by cases e);obtain⟨_,i2,_,_⟩:=zp6 hr vs l _ Eh gM;have hb:=i2 id B rfl;intro next Q hn
  unfold gN;rw[dD m3,kL];refine(vg (X.jI (some id)) _ pq).mono λe w' he=> ?_;cases e with
  |returned v=>
   obtain⟨Y,rfl,dF,r0,cY,fH,wM,mJ⟩:=he;simp only at h;cases b' with
   |none=>cases h
   |some B'=>
    simp only at h;split at h
    case isFalse=>cases h
    cases h;have hp:=wM (.inr rfl);obtain⟨hB,hβ⟩:=fH B' rfl;have hβ:=hβ rfl;have ia:=zp7 (k':=some id) (d:=o.dst.getD 0) (β:=X.β) dF rfl;refine hn (X.back Y (some id) (some id) (o.dst.getD 0) X.β) v ia ?_;refine(Rel.DX (k:=some id) (k':=some id) dF hr hb rfl rfl hβ hB hg).fin ?_ (λid t p hm=>absurd hm (hp id t p)) mJ;have:=zpu (k':=some id) (d:=o.dst.getD 0) (β:=X.β) (id:=0) dF (λdP t p hm=>absurd hm (hp dP t p)) mJ cY;rw[zub hp] at this;exact this
  |panicked c=>exact he.elim
  |outgrown=>exact he.elim
 ·cases h
theorem zd0(hr:Rel tq X s a)(mA:Array Operand):∀x∈mA.toList.map (λx=>(s.cM x,a.eval x)),∃q,cq X q x.1 x.2:=λx hx=>by obtain⟨y,_,rfl⟩:=bM.1 hx;exact⟨_,hr.cM y⟩
theorem PN{X:bZ}{pl:List Nat->Place}{sv:SV}{v:Value}(h:cq X pl sv v):cq X pl sv.shut v:=by
 cases sv with
 |b8 t x own=>obtain⟨cs,h1,h2,_⟩:=h;exact⟨cs,h1,h2,uB⟩
 |eU id a b j=>trivial
 |_=>exact h
theorem ahs{X:bZ}{pl:Nat->List Nat->Place}{l:List SV}{v:Value}(h:kj X pl l v):kj X pl (l.map SV.shut) v:=by
 match l,h with
 | [sv],h=>exact PN (sv:=sv) h
 | [],h=>exact h
 |x::y::r,⟨vs,g1,g2,g3⟩=>refine⟨vs,g1,by simpa using g2,λj sv u ue hu=> ?_⟩;have ue:((x::y::r).map SV.shut)[j]? =some sv:=ue;rw[aL] at ue;obtain⟨s0,na,rfl⟩:=av.1 ue;exact PN (g3 j s0 u na hu)
theorem ahr{l:List SV}{j:Nat}{t:Ty}{p:List Nat}(h:SV.ptr j t p∈l.map SV.shut):SV.ptr j t p∈l:=by obtain⟨s0,na,he⟩:=bM.1 h;cases s0<;>first|(cases he;done)|(rw[<-he];exact na)|skip
theorem Rel.gj(hr:Rel tq X s a){d:Nat}{l:List SV}:Rel tq X {s with sl:=s.sl.set d l} a->Rel tq X {s with sl:=s.sl.set d (l.map SV.shut)} a:=λh=>{
 size:=by simpa using hr.size
 pc:=by simpa using hr.pc
 gn:=λi l' v hl hv=>by
  replace hl:(s.sl.set d (l.map SV.shut))[i]? =some l':=hl;rw[ay] at hl;split at hl
  ·rename_i BH;split at hl
   ·cases hl;rename_i bS;exact ahs (h.gn i l v (by show(s.sl.set d l)[i]? =_;rw[ay,if_pos BH,if_pos bS]) hv)
   ·cases hl
  ·rename_i BH;exact h.gn i l' v (by show(s.sl.set d l)[i]? =_;rw[ay,if_neg BH];exact hl) hv
 boxes:=h.boxes
 live:=λi l' id t p hl hm=>by
  replace hl:(s.sl.set d (l.map SV.shut))[i]? =some l':=hl;rw[ay] at hl;split at hl
  ·rename_i BH;split at hl
   ·cases hl;rename_i bS;exact h.live i l id t p (by show(s.sl.set d l)[i]? =_;rw[ay,if_pos BH,if_pos bS]) (ahr hm)
   ·cases hl
  ·rename_i BH;exact h.live i l' id t p (by show(s.sl.set d l)[i]? =_;rw[ay,if_neg BH];exact hl) hm
 defers:=h.defers
 j8:=h.j8
 eU:=h.eU.less (λi l' id c b j hl hm=>by
  replace hl:(s.sl.set d (l.map SV.shut))[i]? =some l':=hl;rw[ay] at hl;split at hl
  ·split at hl
   ·cases hl;exact(zu6 (zi2 l) hm).elim
   ·cases hl
  ·rename_i BH;exact⟨l',by show(s.sl.set d l)[i]? =_;rw[ay,if_neg BH];exact hl,hm,λh=>h⟩) (λid c b x own _ hb ho=>⟨x,own,hb,ho⟩)}
theorem sI.shut(h:sI P tq X s a o u):sI P tq X s a o u.shut:=λnext Q hn=>h next Q λY v dF eQ=>hn Y v dF (by
 unfold State.apply at eQ⊢;show Rel tq Y (((s.close u.cl).cD u.bx).bX o.dst (u.v.map SV.shut)) _;generalize(s.close u.cl).cD u.bx=s1 at*;cases hd:o.dst with
 |none=>rw[hd] at eQ;exact eQ
 |some d=>
  rw[hd] at eQ;have e:=Rel.gj (X:=Y) (s:={s1 with sl:=s1.sl.set d u.v}) (a:=a.put (some d) v) (d:=d) (l:=u.v) eQ (by show Rel tq Y {s1 with sl:=(s1.sl.set d u.v).set d u.v} _;rw[l5];exact eQ)
  show Rel tq Y {s1 with sl:=s1.sl.set d (u.v.map SV.shut)} _;have e2:Rel tq Y {s1 with sl:=(s1.sl.set d u.v).set d (u.v.map SV.shut)} (a.put (some d) v):=e;rw[l5] at e2;exact e2)
def nh(id j:Nat):Ow->Bool
 | .row (.b dP (j'::_)) _=>ak dP id&&ak j' j
 |_=>false
def E3(id j:Nat):Ow->Ow
 | .all=> .all
 | .ro n=> .ro n
 | .box _=> .ro 0
 | .row (.b dP (j'::p)) n=>if ak dP id&&ak j' j then .row (.b 0 p) n else .ro n
 | .row _ n=> .ro n
def zt9(id j d:Nat):Ow->Ow
 | .all=> .all
 | .ro n=> .ro n
 | .box _=> .ro 0
 | .row (.r i p) n=> .row (.c d i p) n
 | .row (.b 0 p) n=> .row (.b id (j::p)) n
 | .row _ n=> .ro n
theorem znm{id j:Nat}{w:Ow}{i:Nat}:(E3 id j w).used i↔w.used i:=by
 cases w with
 |all=>rfl
 |ro n=>rfl
 |box id=>simp [E3,Ow.used]
 |row pl n=>
  cases pl with
  |b dP p=>
   cases p with
   |nil=>rfl
   |cons j' p=>simp only[E3];split<;>rfl
  |_=>rfl
theorem acR{id j d:Nat}{w:Ow}{i:Nat}(h:w.used i):(zt9 id j d w).used i:=by
 cases w with
 |all=>exact h
 |ro n=>exact h
 |box id=>exact h.elim
 |row pl n=>
  cases pl with
  |b dP p=>cases dP<;>exact h
  |c i j p=>exact h
  |r j p=>exact h
theorem z9f{id j:Nat}{w:Ow}(h:nh id j w=false):(E3 id j w).still:=by
 cases w with
 |all=>trivial
 |ro n=>trivial
 |box id=>trivial
 |row pl n=>
  cases pl with
  |b dP p=>
   cases p with
   |nil=>trivial
   |cons j' p=>simp only[nh] at h;simp only[E3,h];trivial
  |_=>trivial
def bZ.lW(X:bZ)(id j g:Nat):bZ:=⟨X.w,λq=>if q=g then .box 0 else E3 id j (X.ow q),λ_=>some g⟩
def bZ.eA(X Y:bZ)(id j g d:Nat):bZ:=⟨Y.w,λq=>if q=g then .row (.b id [j]) 0 else if q<X.w.heap.size/\nh id j (X.ow q)=false then X.ow q else zt9 id j d (Y.ow q),X.β⟩
section
variable {Y:bZ} {id j g d:Nat}
theorem z117(hg:X.ow g= .row (.b id [j]) 0){ad:Addr}{v:Value}:(X.lW id j g).cf ad v↔X.cf ad v:=by
 simp only[bZ.cf,bZ.lW];split
 ·rename_i e;rw[e,hg];simp [Ow.used]
 ·rw[znm]
theorem EN(h:Ext (X.lW id j g) Y){q:Nat}(hq:q<X.w.heap.size)(hm:nh id j (X.ow q)=false)(fL:q≠g):(X.eA Y id j g d).ow q=X.ow q/\(X.eA Y id j g d).w.heap[q]? =X.w.heap[q]? /\(Y.ow q).still/\Y.ow q=E3 id j (X.ow q):=by
 have e:(X.lW id j g).ow q=E3 id j (X.ow q):=by simp only[bZ.lW];rw[if_neg fL]
 obtain⟨h1,h2⟩:=h.still q hq (by rw[e];exact z9f hm);refine⟨by simp only[bZ.eA];rw[if_neg fL,if_pos ⟨hq,hm⟩],h2,?_,h1.trans e⟩;rw[h1,e];exact z9f hm
theorem Good.lW(h:Good tq X)(hg:X.ow g= .row (.b id [j]) 0):Good tq (X.lW id j g):=λe he=>by
 obtain⟨h1,h2⟩:=h e he;have hm:nh id j (X.ow e.1)=false:=by cases hx:X.ow e.1<;>rw[hx] at h1<;>first|rfl|exact h1.elim
 refine⟨?_,h2⟩;simp only[bZ.lW];rw[if_neg (λe2=>by rw[e2,hg] at h1;exact h1)];exact z9f hm
theorem aes(h:Ext (X.lW id j g) Y){q:Nat}(fL:q≠g)(hs:¬(Y.ow q).still):(X.eA Y id j g d).ow q=zt9 id j d (Y.ow q):=by simp only[bZ.eA];rw[if_neg fL,if_neg];rintro⟨hq,hm⟩;exact hs (EN (d:=d) h hq hm fL).2.2.1
theorem zas(h:Ext (X.lW id j g) Y)(hY:Y.ow g= .box 0){ad:Addr}{v:Value}(hs:Y.cf ad v):(X.eA Y id j g d).cf ad v:=by
 have fL:ad.block≠g:=λe=>by have:=hs.2.2;rw[e,hY] at this;exact this
 refine⟨hs.1,hs.2.1,?_⟩;simp only[bZ.eA];rw[if_neg fL];split
 ·rename_i hc;have:=(EN (d:=d) h hc.1 hc.2 fL).2.2.2;have hu:=hs.2.2;rw[this,znm] at hu;exact hu
 ·exact acR hs.2.2
theorem SZ(h:Ext (X.lW id j g) Y)(hg:X.ow g= .row (.b id [j]) 0)(hY:Y.ow g= .box 0):Ext X (X.eA Y id j g d) where
 cf:=λad v hs=>zas h hY (h.cf ad v ((z117 hg).2 hs))
 size:=h.size
 os:=h.os
 tape:=h.tape
 output:=h.output
 β0:=rfl
 still:=λq hq gv=>by
  have hm:nh id j (X.ow q)=false:=by cases hx:X.ow q<;>rw[hx] at gv<;>first|rfl|exact gv.elim
  obtain⟨h1,h2,_⟩:=EN (d:=d) h hq hm (λe=>by rw[e,hg] at gv;exact gv);exact⟨h1,h2⟩
theorem eO.eA(h:Ext (X.lW id j g) Y)(hg:X.ow g= .row (.b id [j]) 0){pl:Place}(n6:∀n,nh id j (.row pl n)=false){e:TypeId}{m n:Nat}{v:Value}(ho:eO X pl e m n v):eO (X.eA Y id j g d) pl e m n v:=by
 rcases ho with ho|⟨q,cap,cur,h1,h2,h3,h4,h5,h6⟩
 ·exact .inl ho
 ·obtain⟨k1,k2,_⟩:=EN (d:=d) h (C4 h2) (by rw[h6];exact n6 _) (λe=>by
   rw[e,hg] at h6;injection h6 with h6 _
   have:=n6 0;rw[<-h6] at this;simp [nh] at this)
  exact .inr ⟨q,cap,cur,h1,k2.trans h2,h3,h4,h5,k1.trans h6⟩
theorem eI.eA(h:Ext (X.lW id j g) Y)(hg:X.ow g= .row (.b id [j]) 0){pl:List Nat->Place}(n6:∀p n,nh id j (.row (pl p) n)=false){t:Ty}{x:El t}{cs:List Value}{own:List (List Nat)}(ho:eI X pl t x cs own):eI (X.eA Y id j g d) pl t x cs own:=λp hp=>by obtain⟨e,t',xs,v,g0,g1,g2,g3⟩:=ho p hp;exact⟨e,t',xs,v,g0,g1,g2,g3.eA h hg (n6 p)⟩
theorem eI.zK(h:Ext (X.lW id j g) Y)(hY:Y.ow g= .box 0){pl oI:List Nat->Place}(n6:∀p n,zt9 id j d (.row (pl p) n)= .row (oI p) n){t:Ty}{x:El t}{cs:List Value}{own:List (List Nat)}(ho:eI Y pl t x cs own):eI (X.eA Y id j g d) oI t x cs own:=λp hp=>by
 obtain⟨e,t',xs,v,g0,g1,g2,g3⟩:=ho p hp;refine⟨e,t',xs,v,g0,g1,g2,?_⟩;rcases g3 with ho|⟨q,cap,cur,h1,h2,h3,h4,h5,h6⟩
 ·exact .inl ho
 ·refine .inr ⟨q,cap,cur,h1,h2,h3,h4,h5,?_⟩;rw[aes h (λe=>by rw[e,hY] at h6;cases h6) (by rw[h6];exact λe=>e),h6,n6]
theorem cq.eA(h:Ext (X.lW id j g) Y)(hg:X.ow g= .row (.b id [j]) 0)(hY:Y.ow g= .box 0){i k:Nat}{sv:SV}{v:Value}(hr:cq X (.c i k) sv v):cq (X.eA Y id j g d) (.c i k) sv v:=by
 have hs:∀a v,X.cf a v->(X.eA Y id j g d).cf a v:=(SZ h hg hY).cf;cases sv with
 |undef=>trivial
 |skip=>exact hr
 |jJ=>exact hr
 |m5=>exact hr
 |over=>exact hr
 |b8 t x own=>obtain⟨cs,h1,h2,h3⟩:=hr;exact⟨cs,h1.bz hs,h2,h3.eA h hg (λ_ _=>rfl)⟩
 |ptr dP t p=>obtain⟨r,h1,h2⟩:=hr;exact⟨r,h1,h2⟩
 |view t x=>obtain⟨ad,cs,h1,h2,h3,h4⟩:=hr;exact⟨ad,cs,h1,h2,h3.bz hs,λi u hi=>hs _ _ (h4 i u hi)⟩
 |cap f t x u y=>exact Aa hs hr
 |eU dP a b n=>obtain⟨r,h1,h2,h3⟩:=hr;obtain⟨e1,e2,_⟩:=EN (d:=d) (q:=r) h (ey X.w _ h3) (by rw[h2];rfl) (λe=>by rw[e,hg] at h2;cases h2);refine⟨r,h1,e1.trans h2,?_⟩;simp only[bP] at h3⊢;rw[e2];exact h3
theorem ff.eA(h:Ext (X.lW id j g) Y)(hg:X.ow g= .row (.b id [j]) 0)(hY:Y.ow g= .box 0){dP r:Nat}{B:fc}(fL:dP≠id)(hb:ff X dP r B):ff (X.eA Y id j g d) dP r B:=by
 obtain⟨h3,h1⟩:=hb;have hm:∀p n,nh id j (.row (.b dP p) n)=false:=λp n=>by
  cases p with
  |nil=>rfl
  |cons j' p=>simp [nh,fL]
 obtain⟨k1,k2,_⟩:=EN (d:=d) h h1.lt (by rw[h3];rfl) (λe=>by rw[e,hg] at h3;cases h3);exact⟨k1.trans h3,h1.move (SZ h hg hY).cf k2 (λcs h4=>h4.eA h hg hm) λp _ q o n ho hw=>by
  obtain⟨e1,e2,_⟩:=EN (d:=d) h (C4 ho) (by rw[hw];exact hm _ _) (λe=>by
   rw[e,hg] at hw;injection hw with hw _
   have:=hm p n;rw[<-hw] at this;simp [nh] at this)
  exact⟨e2.trans ho,e1.trans hw⟩⟩
theorem cq.zK(h:Ext (X.lW id j g) Y)(hY:Y.ow g= .box 0){r0 k:Nat}{sv:SV}{v:Value}(hp:∀id t p,sv≠ .ptr id t p)(hn:sv.fY=false)(hr:cq {Y with β:=λ_=>some r0} (.r k) sv v):cq (X.eA Y id j g d) (.c d k) sv v:=by
 have hs:∀a v,({Y with β:=λ_=>some r0}:bZ).cf a v->(X.eA Y id j g d).cf a v:=λa v hs=>zas h hY (show Y.cf a v from hs);cases sv with
 |undef=>trivial
 |skip=>exact hr
 |jJ=>exact hr
 |m5=>exact hr
 |over=>exact hr
 |b8 t x own=>obtain⟨cs,h1,h2,h3⟩:=hr;have h3:eI Y (.r k) t x cs own:=h3;exact⟨cs,eC.bz hs h1,h2,h3.zK h hY (λ_ _=>rfl)⟩
 |ptr dP t p=>exact absurd rfl (hp dP t p)
 |view t x=>obtain⟨ad,cs,h1,h2,h3,h4⟩:=hr;exact⟨ad,cs,h1,h2,eC.bz hs h3,λi u hi=>hs _ _ (h4 i u hi)⟩
 |cap f t x u y=>exact Aa (X:={Y with β:=λ_=>some r0}) hs hr
 |eU dP a b n=>cases hn
theorem kj.zK(h:Ext (X.lW id j g) Y)(hY:Y.ow g= .box 0){r0:Nat}{r:List SV}{v:Value}(hp:∀id t p,SV.ptr id t p∉r)(hn:r.any SV.fY=false)(hr:kj {Y with β:=λ_=>some r0} .r r v):kj (X.eA Y id j g d) (.c d) r v:=
 hr.ql λk sv u hk hu=>hu.zK h hY (λid t p e=>hp id t p (e▸aN hk)) (by simpa using cE.1 hn sv (aN hk))
theorem mf.eA(h:Ext (X.lW id j g) Y)(hg:X.ow g= .row (.b id [j]) 0)(hY:Y.ow g= .box 0){k:Nat}(hk:k≠j){b:Ty}{m:ae (El b)}{v:Value}(hm:mf X (λp=> .b id (k::p)) b m v):mf (X.eA Y id j g d) (λp=> .b id (k::p)) b m v:=
 hm.move (SZ h hg hY).cf λp _ q o n ho hw=>by
  have hf:nh id j (.row (.b id (k::p)) n)=false:=by
   simp only[nh];rw[show ak k j=false from by
    cases h:ak k j with
    |false=>rfl
    |true=>exact absurd (aE h) hk,Bool.and_false]
  obtain⟨e1,e2,_⟩:=EN (d:=d) h (C4 ho) (by rw[hw];exact hf) (λe=>by
   rw[e,hg] at hw;injection hw with hw _
   injection hw with _ hw
   injection hw with hw _
   exact hk hw.symm)
  exact⟨e2.trans ho,e1.trans hw⟩
end
theorem S1:∀(vs l:List SV),qP s vs=some (l,none)->∀sv∈l,(∃t x,sv= .b8 t x [])\/sv= .jJ\/∃t x,sv= .view t x
 | [],l,h,sv,hm=>by simp only[qP,az,gm] at h;rw[<-h.1] at hm;cases hm
 |v::r,l,h,sv,hm=>by
  simp only[qP] at h;split at h
  ·cases h
  rename_i l1 b1 h1;split at h
  ·cases h;rcases aH.1 hm with rfl|hm
   ·exact .inl ⟨_,_,rfl⟩
   ·exact S1 r l1 h1 sv hm
  ·cases h;rcases aH.1 hm with rfl|hm
   ·exact .inr (.inl rfl)
   ·exact S1 r l1 h1 sv hm
  ·cases h;rcases aH.1 hm with rfl|hm
   ·exact .inr (.inr ⟨_,_,rfl⟩)
   ·exact S1 r l1 h1 sv hm
  ·split at h
   case h_2=>cases h
   split at h
   case isFalse=>cases h
   cases h
  ·cases h
theorem znn{mA:List Operand}{t id j:Nat}{ta tb:Ty}{r:List Operand}(h:Ki s mA=some (t,id,ta,tb,j,r)):mA= .tmp t::r/\s.slot t=[.eU id ta tb j]:=by
 unfold Ki at h;split at h
 case h_2=>cases h
 split at h
 case h_2=>cases h
 rename_i hs;cases h;exact⟨rfl,hs⟩
theorem akb{X:bZ}{id j:Nat}{b:Ty}{m:ae (El b)×ae (El b)}{p0 p1:Value}{y:El b}(hj:j<2)(h0:mf X (λp=> .b id (0::p)) b m.1 p0)(h1:mf X (λp=> .b id (1::p)) b m.2 p1)(hy:getM j m=some y):mf X (λp=> .b id (j::p)) b (some y) (if j=0 then p0 else p1):=by
 match j,hj with
 |0,_=>have hy:m.1=some y:=hy;rw[hy] at h0;exact h0
 |1,_=>have hy:m.2=some y:=hy;rw[hy] at h1;exact h1
theorem adK(hr:Rel tq X s a){C:bu}(hC:C.Nat){f:FuncId}(hf:kX P tq C f){mA:Array Operand}{ts:Array TypeId}(ho:o.op= .call ⟨.value (.func f),mA,ts⟩){t id j:Nat}{ta tb:Ty}{r:List Operand}(hl:Ki s mA.toList=some (t,id,ta,tb,j,r))(h:rP (C Out) s f t id ta tb j (r.map s.cM) some=some u):sI P tq X s a o u:=by
 obtain⟨has,gv⟩:=znn hl;have pS:=hr.slot t;rw[gv] at pS;obtain⟨rr,hβ,how,mB⟩:cq X (.c t 0) (.eU id ta tb j) (a.tmps.getD t aT):=pS;have hti:t<s.sl.length:=by
  rcases eg t s.sl.length with h|h
  ·exact h
  ·simp [State.slot,aQ h] at gv
 have hsi:s.sl[t]? =some [.eU id ta tb j]:=by rw[yw hti,gv]
 obtain⟨_,⟨x1,Ok,vK,aor⟩,N4⟩:=hr.eU t _ id ta tb j hsi (by simp);unfold rP at h;split at h
 case isTrue=>cases h
 rename_i mQ;have mQ:tb.fA=false:=by simpa using mQ
 split at h
 case h_2=>cases h
 rename_i l gM;obtain⟨x,own,r1,hb,h,gu,h1,_,c,p0,p1,T,cH,cY,Am,An⟩:=J0 hr h;rw[hβ] at h1;cases h1;split at h
 case h_2=>cases h
 rename_i y hy;have hv:(c++ [p0,p1,Value.int .i64 x.2.2])[ta.cells+j]? =some (a.tmps.getD t aT):=by simp only[bP,cH] at mB;simpa using mB
 rw[bh (by rw[cY.len];omega),cY.len,cg] at hv;have hj:j<2:=by
  match j,hy with
  |0,_=>omega
  |1,_=>omega
  |j+2,hy=>cases hy
 obtain⟨g,csg,Tg,Gr,hhg,tu,hrg,hwg⟩:=akb hj Am An hy;have hvt:a.tmps.getD t aT= .pointer (some ⟨g,0,none⟩):=by
  match j,hj with
  |0,_=>
   have hv:p0=a.tmps.getD t aT:=by simpa using hv
   rw[<-hv];exact Gr
  |1,_=>
   have hv:p1=a.tmps.getD t aT:=by simpa using hv
   rw[<-hv];exact Gr
 obtain⟨⟨res,b'⟩,vd,h⟩:=rC (hC Out _ f (.ptr 0 tb []::l) (some ⟨tb,y,Hp⟩) _ (λr b=>some (r,b)) (λz=>match z.2 with
  |some B'=>if h:B'.t.iL tb=true then bif pa B'.own [2] then some {v:=z.1,bx:=some (id,⟨.dC .kF ta tb,(x.1,n3 j (some (Ty.cast h B'.x)) x.2.1,x.2.2),[]::own⟩),cl:=[(t,0)]} else none else none
  |none=>none) (λr b=>rfl)) h
 obtain⟨m3,vg⟩:=hf _ _ res b' vd;have pq:rF tq (X.lW id j g) (.ptr 0 tb []::l) (some ⟨tb,y,Hp⟩) (mA.map a.eval):=by
  have mS:∀ad v,X.cf ad v->(X.lW id j g).cf ad v:=λ_ _=>(z117 tu).2;have Np:mA.toList.map a.eval=a.eval (.tmp t)::r.map a.eval:=by rw[has];rfl
  have jx:∀i,(mA.map a.eval)[i]? =(a.eval (.tmp t)::r.map a.eval)[i]? :=λi=>by rw[<-Np,<-Array.toList_map,bn]
  obtain⟨i1,_,_,i4⟩:=zp6 hr (r.map λx=>(s.cM x,a.eval x)) l none (λz hz=>by obtain⟨q,_,rfl⟩:=bM.1 hz;exact⟨_,hr.cM q⟩) (by rw[kq];exact gM)
  refine⟨?_,λi sv v hs hv=> ?_,λdP t' p hm=> ?_,λB hB=> ?_,(λhb=>by cases hb),(by have:=zp5 _ _ _ gM;simpa [SV.fY] using this),hr.j8.lW tu⟩
  ·have:=congrArg ag Np;simp at this i1⊢;omega
  ·rw[jx] at hv;cases i with
   |zero=>simp only[bQ,az] at hs hv;subst hs hv;refine⟨g,rfl,(yq mQ).2 ⟨?_,by simp [Ty.nb]⟩⟩;show a.tmps.getD t aT=_;rw[hvt];simp [Ty.off]
   |succ i=>
    simp only[bH] at hs hv;have hx:=i4 none (λ_ _ e=>by cases e) i sv;rw[aL] at hv;obtain⟨q,hq,rfl⟩:=av.1 hv;have BV:=hx (s.cM q,a.eval q) hs (by rw[aL,hq];rfl) (.c (i+1) 0);have Gu:∀ad v,(X.jI none).cf ad v->(X.lW id j g).cf ad v:=λad v h=>mS ad v (Cx.1 h);rcases S1 _ _ gM sv (aN hs) with⟨t1,y1,rfl⟩|rfl|⟨t1,y1,rfl⟩
    ·obtain⟨cs,e1,e2,_⟩:=BV;exact⟨cs,e1.bz Gu,e2,uB⟩
    ·exact BV
    ·obtain⟨ad,cs,e1,e2,e3,e4⟩:=BV;exact⟨ad,cs,e1,e2,e3.bz Gu,λi w hi=>Gu _ _ (e4 i w hi)⟩
  ·rcases aH.1 hm with e|hm
   ·cases e;exact⟨rfl,rfl⟩
   ·rcases S1 _ _ gM _ hm with⟨_,_,e⟩|e|⟨_,_,e⟩<;>cases e
  ·cases hB;refine⟨g,rfl,by simp [bZ.lW],me.of mQ hhg (hrg.bz mS) λp hp=> ?_⟩;obtain⟨e,t',xs,v,g0,g1,g2,g3⟩:=hwg p hp;refine⟨e,t',xs,v,g0,g1,g2,?_⟩;rcases g3 with g3|⟨q,cap,cur,k1,k2,k3,k4,k5,k6⟩
   ·exact .inl g3
   ·refine .inr ⟨q,cap,cur,k1,k2,k3,k4,k5,?_⟩;have fL:q≠g:=λe=>by
     rw[e,tu] at k6;injection k6 with k6 _
     injection k6 with _ k6
     injection k6 with _ k6
     have:p=[2]:=by simpa [Hp] using hp
     rw[this] at k6;cases k6
    simp only[bZ.lW];rw[if_neg fL,k6];simp [E3]
 intro next Q hn
 unfold gN;rw[O5 m3 ho,kL];refine(vg (X.lW id j g) _ pq).mono λe w' he=> ?_;cases e with
 |panicked c=>exact he.elim
 |outgrown=>exact he.elim
 |returned v=>
  obtain⟨Y,rfl,dF,r0,NW,fH,wM,mJ⟩:=he;cases b' with
  |none=>cases h
  |some B'=>
   simp only at h;split at h
   case isFalse=>cases h
   rename_i lR;cases NM:pa B'.own [2] with
   |false=>rw[NM] at h;cases h
   |true=>
   rw[NM,cond_true] at h;cases h;have hp:=wM (.inr rfl);obtain⟨hB,hβ0⟩:=fH B' rfl;have hβ0:=hβ0 rfl;have:g=r0:=by have e:(X.lW id j g).β 0=some g:=rfl;rw[e] at hβ0;injection hβ0
   subst this;have hY:Y.ow g= .box 0:=hB.1;have hX:=SZ (d:=o.dst.getD 0) dF tu hY;refine hn (X.eA Y id j g (o.dst.getD 0)) v hX ?_;obtain⟨er1,er2,_⟩:=EN (d:=o.dst.getD 0) (q:=rr) dF (C4 cH) (by rw[how];rfl) (λe=>by rw[e,tu] at how;cases how);have jH:mf (X.eA Y id j g (o.dst.getD 0)) (λp=> .b id (j::p)) tb (some (Ty.cast lR B'.x)) (.pointer (some ⟨g,0,none⟩)):=by
    obtain⟨bt,bx,bo⟩:=B';have e:=Ty.cS lR;simp only at e;subst e;obtain⟨m8,T',k1,k2,k3⟩:=(me.plain mQ).1 hB.2;refine⟨g,m8,T',rfl,k1,by simp [bZ.eA],k2.bz λ_ _=>zas dF hY,?_⟩;have h2:eI (X.eA Y id j g (o.dst.getD 0)) (λp=> .b id (j::p)) bt bx m8.toList bo:=eI.zK dF hY (pl:= .b 0) (λ_ _=>rfl) k3;intro p hp;have:p=[2]:=by simpa [Hp] using hp
    subst this;exact h2 [2] (G2 NM)
   have HU:pH (X.eA Y id j g (o.dst.getD 0)) rr (.b id) ta tb (x.1,n3 j (some (Ty.cast lR B'.x)) x.2.1,x.2.2):=by
    refine⟨c,p0,p1,T,er2.trans cH,cY.bz hX.cf,?_,?_⟩
    ·match j,hj,Gr with
     |0,_,Gr=>have:p0= .pointer (some ⟨g,0,none⟩):=Gr;rw[this];exact jH
     |1,_,_=>exact Am.eA dF tu hY (by omega)
    ·match j,hj,Gr with
     |0,_,_=>exact An.eA dF tu hY (by omega)
     |1,_,Gr=>have:p1= .pointer (some ⟨g,0,none⟩):=Gr;rw[this];exact jH
   have m9:=hr.ic t 0;have pR:∀(i:Nat) (l:List SV) a b j,(s.ic t 0).sl[i]? =some l->SV.eU id a b j∈l->False:=λi l a' b' j' sP hm=>by
    simp only[State.ic,ay] at sP;split at sP
    ·first
      |(split at sP
        ·cases sP;rw[gv] at hm;simp [Ref.gj,SV.shut] at hm
        ·cases sP)
      |(cases sP
        rw[gv] at hm;simp [Ref.gj,SV.shut] at hm)
    ·rename_i e;exact e (N4 i l a' b' j' sP hm).symm
   have bS:id<(s.ic t 0).bs.length:=(aC.1 hb).1;have eQ:Rel tq (X.eA Y id j g (o.dst.getD 0)) ((s.ic t 0).cD (some (id,⟨.dC .kF ta tb,(x.1,n3 j (some (Ty.cast lR B'.x)) x.2.1,x.2.2),[]::own⟩))) a:=by
    refine⟨m9.size,by simpa [State.cD] using m9.pc,λi l v sP qC=>(m9.gn i l v sP qC).ql λk sv u hm hu=>hu.eA dF tu hY,λdP B2 kQ=> ?_,λi l dP t' p hi hm=> ?_,m9.defers,m9.eU.cD pR,m9.j8.ext (SZ dF tu hY)⟩
    ·simp only[State.cD,ay] at kQ;by_cases e:id=dP
     ·subst e;rw[if_pos rfl,if_pos bS] at kQ;cases kQ;exact⟨rr,hβ,er1.trans how,⟨_,er2.trans cH⟩,λ_=>HU⟩
     ·rw[if_neg e] at kQ;obtain⟨r',k1,k2⟩:=m9.boxes dP B2 kQ;exact⟨r',k1,k2.eA dF tu hY (λe2=>e e2.symm)⟩
    ·obtain⟨B2,kQ⟩:=m9.live i l dP t' p hi hm;simp only[State.cD,ay];by_cases e:id=dP
     ·subst e;exact⟨_,by rw[if_pos rfl,if_pos bS]⟩
     ·rw[if_neg e];exact⟨B2,kQ⟩
   exact eQ.fin (NW.zK dF hY hp mJ) (λid t p hm=>absurd hm (hp id t p)) mJ
theorem agx(hr:Rel tq X s a){C:bu}(hC:C.Nat){f:FuncId}(hf:kX P tq C f){ops:List Oper}{mA:Array Operand}{ts:Array TypeId}(ho:o.op= .call ⟨.value (.func f),mA,ts⟩)(h:act E (C Out) ops o s some=some u):sI P tq X s a o u:=by
 unfold act at h;simp only[ho] at h;split at h
 ·rename_i t id ta tb j r hl;exact adK hr hC hf ho hl h
 obtain⟨u0,h0,h1⟩:=rC (VP hC (F:=λu=>some (bif nT E o.dst then u.shut else u)) (G:=some) (K:=λu=>some (bif nT E o.dst then u.shut else u)) (λ_=>rfl)) h;have hd:sI P tq X s a o u0:=by refine zda hr hC hf (zd0 hr mA) (λm3=> ?_) (by rw[kq];exact h0);rw[O5 m3 ho];congr 2;apply iz.1;simp [jK]
 cases hs:nT E o.dst with
 |false=>rw[hs] at h1;cases h1;exact hd
 |true=>rw[hs] at h1;cases h1;exact hd.shut
theorem amx{f:FuncId}(h:Ah P f){x:Operand}{v:Value}{mA:Array Operand}{ts:Array TypeId}(ho:o.op= .call ⟨.value x,mA,ts⟩)(hx:a.eval x= .func (.func f) #[] #[v])(w:World):(execOp a.eval o).run P w= .ok (.enter f (mA.map a.eval++ #[v])) w:=by obtain⟨fn,c,h1,h2,h3⟩:=h;simp [execOp,ho,resolve,ka,hx,invoke,callFunc,h1,h3];simpa using h2
theorem ajP{f:FuncId}(h:Ah P f){x:Operand}{v v2:Value}{mA:Array Operand}{ts:Array TypeId}(ho:o.op= .call ⟨.value x,mA,ts⟩)(hx:a.eval x= .func (.func f) #[] #[v,v2])(w:World):(execOp a.eval o).run P w= .ok (.enter f (mA.map a.eval++ #[v,v2])) w:=by obtain⟨fn,c,h1,h2,h3⟩:=h;simp [execOp,ho,resolve,ka,hx,invoke,callFunc,h1,h3];simpa using h2
theorem adJ(hr:Rel tq X s a){C:bu}(hC:C.Nat)(hf:∀f,kX P tq C f){ops:List Oper}{y:Nat}{mA:Array Operand}{ts:Array TypeId}(ho:o.op= .call ⟨.value (.tmp y),mA,ts⟩)(h:act E (C Out) ops o s some=some u):sI P tq X s a o u:=by
 unfold act at h;simp only[ho] at h;split at h
 case h_3=>cases h
 case h_2=>
  rename_i f t x1 u' y1 mj;have hx:=hr.cM (.tmp y);rw[mj] at hx;obtain⟨ad,ye,cs,m8,hv,⟨g2,g3,g4⟩,k2,k3,k4⟩:=hx;refine zda hr hC (hf f) (vs:=mA.toList.map (λx=>(s.cM x,a.eval x))++ [(.view t x1,.pointer (some ad)),(.view u' y1,.pointer (some ye))]) (λx hx=> ?_) (λm3=> ?_) (by rw[cz,kq];exact h)
  ·rcases aR.1 hx with hx|hx
   ·exact zd0 hr mA x hx
   ·rcases aH.1 hx with rfl|hx
    ·exact⟨.r 0,ad,cs,rfl,g2,g3,g4⟩
    ·rw[cJ.1 hx];exact⟨.r 0,ye,m8,rfl,k2,k3,k4⟩
  ·rw[ajP m3 ho hv];congr 2;apply iz.1;simp [jK]
 rename_i id f t b mj;have hx:=hr.cM (.tmp y);rw[mj] at hx;obtain⟨r0,hβ,hv⟩:=hx;have hv:a.eval (.tmp y)= .func (.func f) #[] #[.pointer (some ⟨r0,0,none⟩)]:=hv;split at h
 case isTrue=>cases h
 rename_i hs;refine zda hr hC (hf f) (vs:=mA.toList.map (λx=>(s.cM x,a.eval x))++ [(.ptr id t [],.pointer (some ⟨r0,0,none⟩))]) (λx hx=> ?_) (λm3=> ?_) (by rw[cz,kq];exact h)
 ·rcases aR.1 hx with hx|hx
  ·exact zd0 hr mA x hx
  ·rw[cJ.1 hx];exact⟨.r 0,r0,hβ,(Th (by simpa using hs)).2 ⟨by simp [Ty.off],by simp [Ty.nb]⟩⟩
 ·rw[amx m3 ho hv];congr 2;apply iz.1;simp [jK]
end Go.Ref

namespace Go.Ref
open Go
variable {P:Program} {tq:n4} {E:Env} {X:bZ} {s:State} {a:Act} {o:Oper} {u:Out}
theorem ajz(hE:bN P E)(hr:Rel tq X s a){C:bu}(hC:C.Nat)(hf:∀f,kX P tq C f){ops:List Oper}(h:act E (C Out) ops o s some=some u):sI P tq X s a o u:=by
 cases ho:o.op with
 |move x=>exact(agC hr ho h).does
 |assign x=>exact(acW hr ho h).does
 |pick c x y=>exact(agE hr ho h).does
 |binOp op T x y T'=>exact(ajX hE hr ho h).does
 |unOp op T x=>exact(amA hr ho h).does
 |convert S T x=>exact(agy hE hr ho h).does
 |load T x=>exact(agB hE hr ho h).does
 |store T x y=>exact(adS hE hr ho h).does
 |nilCheck x=>exact(ab8 hr ho h).does
 |fieldAddr T x j=>exact(zz6 hE hr ho h).does
 |indexAddr T x i=>exact(zz7 hE hr ho h).does
 |index T x i=>exact(adP hE hr ho h).does
 |field T x j=>exact(adO hE hr ho h).does
 |slice T x lo hi mx=>
  cases mx with
  |none=>exact(ajZ hE hr ho h).does
  |some m=>unfold act at h;simp only[ho] at h;cases h
 |alloc T=>exact(adH hE hr ho h).does
 |box T x=>exact(ajY hE hr ho h).does
 |build T parts=>exact(adI hE hr ho h).does
 |buildSlice T n parts=>exact(zte hE hr ho h).does
 |extract x j=>exact(z152 hr ho h).does
 |makeMap T r=>exact(z157 hE hr ho h).does
 |lookup T x i ok=>exact(acY hE hr ho h).does
 |mapUpdate T m k x=>exact(zcb hE hr (.inl ho) h).does
 |insert T m k x=>exact(zcb hE hr (.inr ho) h).does
 |range T x=>exact(adR hE hr ho h).does
 |next x str=>exact(agD hr ho h).does
 |makeSlice T l c=>exact(zz8 hE hr ho h).does
 |makeFunc fn fi ca=>exact(ab7 hr ho h).does
 |call c=>
  obtain⟨callee,args,ts⟩:=c;cases callee with
  |value x=>
   cases x with
   |func f=>exact agx hr hC (hf f) ho h
   |tmp y=>exact adJ hr hC hf ho h
   |_=>unfold act at h;simp only[ho] at h;cases h
  |builtin b=>
   cases b with
   |len=>exact(aj0 (x:= .const aT) (T:=0) hE hr ho h).does
   |append=>exact(acV hE hr ho h).does
   |copy=>exact(agz hE hr ho h).does
   |max=>exact(OZ (g:=true) hr ho h).does
   |min=>exact(OZ (g:=false) hr ho h).does
   |_=>unfold act at h;simp only[ho] at h;cases h
  |_=>unfold act at h;simp only[ho] at h;cases h
 |_=>unfold act at h;simp only[ho] at h;cases h
theorem Rel.know(hr:Rel tq X s a){d:Nat}{p:Bool}{o:List (List Nat)}(h:s.slot d=[.b8 .bool p o]):Rel tq X (s.bX (some d) (bl p)) a/\a.tmps[d]? =some (.bool p):=by
 have hd:d<s.sl.length:=by
  rcases eg d s.sl.length with h1|h1
  ·exact h1
  ·simp [State.slot,aQ h1] at h
 have Ak:d<a.tmps.size:=by rw[<-hr.size];exact hd
 have hv:a.tmps[d]? =some (a.tmps.getD d aT):=by simp [bf Ak]
 have hs:=hr.slot d;rw[h] at hs;have hb:=SK (X:=X) hs;rw[hb] at hv;refine⟨?_,hv⟩;have aay:a.put (some d) (.bool p)=a:=by
  cases a with
  |mk tmps defers=>
   simp only[Act.put,Act.mk.injEq,and_true];apply Array.ext_getElem?;intro i;rw[dc];split
   ·rename_i e;subst e
    first
     |exact hv.symm
     |(rw[if_pos Ak];exact hv.symm)
   ·rfl
 have:=hr.put (d:=some d) (l:=bl p) (v:= .bool p) (λ_ _=>vI) (λid t q hm=>by simp [bl] at hm);rw[aay] at this;exact this
theorem Za(hE:bN P E)(hr:Rel tq X s a){C:bu}(hC:C.Nat)(hf:∀f,kX P tq C f){ops:Array Oper}{i:Nat}(hi:ops[i]? =some o){s':State}(h:step E (C State) ops.toList o s some=some s'){Q:Exit->Act->World->Prop}{K:Act->World->Prop}
 (hK:∀Y a',Ext X Y->Rel tq Y s' a'->K a' Y.w):wpOp P ops Q i K a X.w:=by
 unfold wpOp;simp only[hi];have zH:∀{s1:State},Rel tq X s1 a->(act E (C State) ops.toList o s1 λu=>some (s1.apply o.dst u))=some s'->o.wp P a X.w K Q:=by intro s1 m9 h1;obtain⟨u,hu,h2⟩:=rC (EU hC (F:=λu=>some (s1.apply o.dst u)) (G:=some) (K:=λu=>some (s1.apply o.dst u)) (λ_=>rfl)) h1;cases h2;exact ajz hE m9 hC hf hu K Q (λY v dF eQ=>hK Y _ dF eQ)
 have rV:∀{s1:State},Rel tq X s1 a->some (s1.bX o.dst [.skip])=some s'->K (a.put o.dst aT) X.w:=by intro s1 m9 h1;cases h1;exact hK X _ (Ext.refl X) (m9.skip o.dst)
 unfold step at h;simp only at h;split at h
 ·rename_i hg;have hw:cr o (yielded ops a.tmps)=true:=by simp [cr,hg]
  rw[if_pos hw];exact .inl (zH hr h)
 ·rename_i g want hg;split at h
  ·cases h
  rename_i d hd;have hd':(ops[g]?).bind (·.dst)=some d:=by simpa [T7] using hd
  split at h
  ·rename_i p hs;obtain⟨m9,hv⟩:=hr.know hs;have hy:yielded ops a.tmps g=some p:=by simp [yielded,hd',hv]
   have hw:cr o (yielded ops a.tmps)=(p==want):=by simp [cr,hg,hy]
   cases p<;>cases want<;>simp only[cond_true,cond_false] at h<;>rw[hw]
   ·exact .inl (zH m9 h)
   ·exact rV m9 h
   ·exact rV m9 h
   ·exact .inl (zH m9 h)
  ·rename_i hs;have pS:=hr.slot d;rw[hs] at pS;have vm:a.tmps.getD d aT=aT:=pS;have hy:yielded ops a.tmps g=none:=by
    simp only[yielded,hd',Option.bind_some];cases ht:a.tmps[d]? with
    |none=>rfl
    |some v=>
     have:v=aT:=by rw[<-vm];simp [aZ,ht]
     subst this;rfl
   have hw:cr o (yielded ops a.tmps)=false:=by simp [cr,hg,hy]
   rw[hw];exact rV hr h
  ·cases h
theorem QU(hE:bN P E){C:bu}(hC:C.Nat)(hf:∀f,kX P tq C f){ops:Array Oper}{s':State}{Q:Exit->Act->World->Prop}:∀(l:List Nat) (X:bZ) (s:State) (a:Act),Rel tq X s a->(∀i∈l,i<ops.size)->
 steps E (C State) ops.toList (l.map λi=>ops.getD i default) s some=some s'->(∀Y a',Ext X Y->Rel tq Y s' a'->Q .normal a' Y.w)->wpOps P ops Q l a X.w
 | [],X,s,a,hr,_,h,hQ=>by cases h;exact hQ X a (Ext.refl X) hr
 |i::r,X,s,a,hr,hl,h,hQ=>by
  simp only[bq,steps] at h;obtain⟨s1,h1,h2⟩:=rC (zpx hC (F:=λs=>steps E (C State) ops.toList (r.map λi=>ops.getD i default) s some) (G:=some) (K:=λs=>steps E (C State) ops.toList (r.map λi=>ops.getD i default) s some) (λ_=>rfl)) h;have hi:ops[i]? =some (ops.getD i default):=by have:=hl i (by simp);simp [this]
  rw[wpOps_cons];refine Za hE hr hC hf hi h1 λY a' dF eQ=> ?_;exact QU hE hC hf r Y s1 a' eQ (λj hj=>hl j (aG _ hj)) h2 λZ a2 ia lh=>hQ Z a2 (dF.trans ia) lh
end Go.Ref

namespace Go.Ref
open Go
variable {P:Program} {E:Env} {X:bZ} {s:State} {a:Act} {o:Oper} {u:Out}
theorem zpf(i j:Nat):(bit i).testBit j=decide (i=j):=by simp [bit,iK,dM]
theorem EP:∀(l:List Nat) (j:Nat),(qG l).testBit j=decide (j∈l)
 | [],j=>by simp [qG]
 |i::r,j=>by
  rw[qG,dX,zpf,EP r j];by_cases h:i=j
  ·subst h;simp
  ·have h':¬j=i:=λe=>h e.symm;simp [h,h']
theorem V9{a b:Nat}(h:ak (a&&&b) 0=true)(j:Nat):a.testBit j=true->b.testBit j=false:=by intro ha;have h0:=aE h;have:=congrArg (λn=>Nat.testBit n j) h0;simp only[Nat.testBit_and,Nat.zero_testBit,ha,Bool.true_and] at this;exact this
theorem Jt:∀(l:List Edge) (j:Nat),(zx l).testBit j=true->∃e∈l,fW .any e=true/\e.on=j
 | [],j,h=>by simp [zx] at h
 |e::r,j,h=>by
  simp only[zx] at h;cases hb:fW .any e with
  |false=>rw[hb] at h;obtain⟨e',h1,h2⟩:=Jt r j h;exact⟨e',aG _ h1,h2⟩
  |true=>
   rw[hb] at h;simp only[cond_true,dX,zpf,ja,decide_eq_true_eq] at h;rcases h with h|h
   ·exact⟨e,by simp,hb,h⟩
   ·obtain⟨e',h1,h2⟩:=Jt r j h;exact⟨e',aG _ h1,h2⟩
theorem zgq:∀(l:List Edge) (e:Edge),e∈l->fW .any e=true->(zx l).testBit e.on=true
 |e'::r,e,h,hb=>by
  simp only[zx];rcases aH.1 h with rfl|h
  ·rw[hb];simp [dX,zpf]
  ·have:=zgq r e h hb;cases fW .any e'<;>simp [dX,this]
theorem zzy{m i j:Nat}(h:bC (m+1) (bit i)=true)(hj:m.testBit j=true):j<i:=by
 have h1:m<2^i:=by have:=b7 h;simp only[bit,iK,cm] at this;omega
 rcases eg j i with h2|h2
 ·exact h2
 ·have h3:m<2^j:=Nat.lt_of_lt_of_le h1 (Nat.pow_le_pow_right (by omega) h2);rw[Nat.testBit_lt_two_pow h3] at hj;cases hj
def ni(E:Env)(C:bu)(ops:List Oper)(o:Oper)(s:State):ae Out:=
 match o.guard with
 |none=>act E (C Out) ops o s some
 |some (g,want)=>match T7 ops g with
  |none=>none
  |some d=>match s.slot d with
   | [.b8 .bool p []]=>if p=want then act E (C Out) ops o s some else some {v:=[.skip]}
   | [.skip]=>some {v:=[.skip]}
   |_=>none
theorem K1{d:Nat}{l:List SV}(h:s.slot d=l):s.bX (some d) l=s:=by
 cases s with
 |mk sl bs=>
  simp only[State.bX,State.mk.injEq,and_true];simp only[State.slot] at h;apply bV;intro i;rw[ay];split
  ·rename_i e;subst e;split
   ·rename_i bS;rw[aq,au bS] at h;rw[au bS];simpa using h.symm
   ·rename_i bS;rw[aQ (by omega)]
  ·rfl
theorem ahx{C:bu}(hC:C.Nat){R:Type}{ops:List Oper}{i:Nat}{tr:List mK}{K:State->List mK->ae R}{z:R}(h:tG E (C R) ops o i s tr K=some z):
 ∃u,ni E C ops o s=some u/\fits ops (zx o.after.toList) (oQ ops o i s u) tr=true/\K (s.apply o.dst u) (oQ ops o i s u::tr)=some z:=by
 have zH:(act E (C R) ops o s λu=>bif fits ops (zx o.after.toList) (oQ ops o i s u) tr then K (s.apply o.dst u) (oQ ops o i s u::tr) else none)=some z->
  ∃u,act E (C Out) ops o s some=some u/\fits ops (zx o.after.toList) (oQ ops o i s u) tr=true/\K (s.apply o.dst u) (oQ ops o i s u::tr)=some z:=by
  intro h;obtain⟨u,h1,h2⟩:=rC (EU hC (F:=λu=>bif fits ops (zx o.after.toList) (oQ ops o i s u) tr then K (s.apply o.dst u) (oQ ops o i s u::tr) else none) (G:=some) (K:=λu=>bif fits ops (zx o.after.toList) (oQ ops o i s u) tr then K (s.apply o.dst u) (oQ ops o i s u::tr) else none) (λ_=>rfl)) h;cases hf:fits ops (zx o.after.toList) (oQ ops o i s u) tr with
  |false=>rw[hf] at h2;cases h2
  |true=>rw[hf] at h2;exact⟨u,h1,hf,h2⟩
 have rV:(bif fits ops (zx o.after.toList) (oQ ops o i s {v:=[.skip]}) tr then K (s.apply o.dst {v:=[.skip]}) (oQ ops o i s {v:=[.skip]}::tr) else none)=some z->
  fits ops (zx o.after.toList) (oQ ops o i s {v:=[.skip]}) tr=true/\K (s.apply o.dst {v:=[.skip]}) (oQ ops o i s {v:=[.skip]}::tr)=some z:=by
  intro h;cases hf:fits ops (zx o.after.toList) (oQ ops o i s {v:=[.skip]}) tr with
  |false=>rw[hf] at h;cases h
  |true=>rw[hf] at h;exact⟨rfl,h⟩
 unfold tG at h;unfold ni;simp only at h;split at h
 ·rename_i hg
  try simp only[hg]
  exact zH h
 ·rename_i g want hg
  try simp only[hg]
  split at h
  ·cases h
  rename_i d hd
  try simp only[hd]
  split at h
  ·rename_i p hs;have ue:s.slot d=bl p:=hs
   try simp only[hs]
   cases p<;>cases want<;>simp only[cond_true,cond_false] at h
   ·rw[K1 ue] at h;rw[if_pos rfl];exact zH h
   ·rw[K1 ue] at h;rw[if_neg (by simp)];exact⟨_,rfl,rV h⟩
   ·rw[K1 ue] at h;rw[if_neg (by simp)];exact⟨_,rfl,rV h⟩
   ·rw[K1 ue] at h;rw[if_pos rfl];exact zH h
  ·rename_i hs
   try simp only[hs]
   exact⟨_,rfl,rV h⟩
  ·cases h
theorem znz{C:bu}(hC:C.Nat){ops:List Oper}(h:ni E C ops o s=some u):step E (C State) ops o s some=some (s.apply o.dst u):=by
 have zH:act E (C Out) ops o s some=some u->(act E (C State) ops o s λu=>some (s.apply o.dst u))=some (s.apply o.dst u):=by intro h;rw[EU hC (F:=λu=>some (s.apply o.dst u)) (G:=some) (K:=λu=>some (s.apply o.dst u)) (λ_=>rfl),h];rfl
 unfold ni at h;unfold step;simp only;split at h
 ·rename_i hg
  try simp only[hg]
  exact zH h
 ·rename_i g want hg
  try simp only[hg]
  split at h
  ·cases h
  rename_i d hd
  try simp only[hd]
  split at h
  ·rename_i p hs;have ue:s.slot d=bl p:=hs
   try simp only[hs]
   split at h
   ·rename_i e;subst e;cases p<;>simp only[cond_true,cond_false]<;>rw[K1 ue]<;>exact zH h
   ·rename_i e;cases h;cases p<;>cases want<;>simp only[cond_true,cond_false]<;>first|exact absurd rfl e|(rw[K1 ue];rfl)
  ·rename_i hs
   try simp only[hs]
   cases h;rfl
  ·cases h
structure uE(ts bs:List Nat)(s s':State):Prop where
 sl:∀t∈ts,s.slot t=s'.slot t
 bs:∀id∈bs,s.bs[id]? =s'.bs[id]?
theorem QX{l:List Operand}{t:Nat}:Operand.tmp t∈l->t∈Ae l:=by
 induction l with
 |nil=>intro h;cases h
 |cons x r ih=>
  intro h;rcases aH.1 h with e|h
  ·subst e;simp [Ae]
  ·have:=ih h;cases x<;>simp [Ae,this]
theorem zhv{s s':State}{ts:List Nat}(h:∀t∈ts,s.slot t=s'.slot t){l:List Operand}(hl:∀t∈Ae l,t∈ts){x:Operand}(hx:x∈l):s.cM x=s'.cM x:=by
 cases x with
 |tmp t=>simp only[State.cM,State.Eu,h t (hl t (QX hx))]
 |_=>rfl
theorem aej(j:Nat):gj [SV.undef] j=[SV.undef]:=by cases j<;>rfl
theorem zag{s:State}{i j t:Nat}:(s.ic i j).slot t=if t=i then gj (s.slot t) j else s.slot t:=by
 simp only[State.ic,State.slot,aq,ay];by_cases e:t=i
 ·subst e;rw[if_pos rfl,if_pos rfl];by_cases bS:t<s.sl.length
  ·rw[if_pos bS];rfl
  ·rw[if_neg bS,aQ (by omega)];simp [aej]
 ·rw[if_neg e,if_neg (λh=>e h.symm)]
theorem zn8{t:Nat}:∀{c:List (Nat×Nat)} {s s':State},s.slot t=s'.slot t->(s.close c).slot t=(s'.close c).slot t
 | [],s,s',h=>h
 |(i,j)::r,s,s',h=>by rw[Ju,Ju];refine zn8 (c:=r) ?_;rw[zag,zag,h]
theorem zns{ts:List Nat}:∀{l:List (Nat×Operand)} {s s':State},(∀t∈ts,s.slot t=s'.slot t)->(∀t∈Ae (l.map (·.2)),t∈ts)->uD s l=uD s' l
 | [],s,s',h,hl=>rfl
 |(i,x)::r,s,s',h,hl=>by
  have hx:s.cM x=s'.cM x:=zhv h hl (by simp);have hr:∀c:List (Nat×Nat),uD (s.close c) r=uD (s'.close c) r:=λc=>zns (λt ht=>zn8 (h t ht)) (λt ht=>hl t (by cases x<;>simp [Ae,ht]))
  simp only[uD,hx,hr]
theorem SP{s s':State}:∀{l:List SV},(∀id∈l.flatMap iy,s.box id=s'.box id)->qP s l=qP s' l
 | [],h=>rfl
 |v::r,h=>by
  have hr:qP s r=qP s' r:=SP λid nX=>h id (by simp only[fJ,aR];exact .inr nX);simp only[qP,hr];split
  ·rfl
  ·rename_i l b _;cases v with
   |ptr id t p=>
    have hb:s.box id=s'.box id:=h id (by simp [iy]);cases p with
    |nil=>cases b<;>simp only[hb]
    |cons _ _=>rfl
   |_=>rfl
theorem af2{C:FuncId->gE Out}{ops:List Oper}{s s':State}(h:uE (looks ops o) (zv s o) s s'):act E C ops o s some=act E C ops o s' some:=by
 have pS:∀t∈Ae o.op.operands.toList,s.slot t=s'.slot t:=λt ht=>h.sl t (by simp only[looks,aR];exact .inl ht);have jy:∀x∈o.op.operands.toList,s.cM x=s'.cM x:=λx hx=>zhv pS (λ_ ht=>ht) hx;have fH:∀id∈zv s o,s.box id=s'.box id:=λid nX=>by simp only[State.box,aq,h.bs id nX]
 unfold act;cases ho:o.op with
 |move x=>
  have ht:vD s x=vD s' x:=by
   cases x with
   |tmp t=>have:s.slot t=s'.slot t:=pS t (by simp [ho,aS,Ae]);simp only[vD,this]
   |_=>rfl
  simp only;rw[jy x (by simp [ho,aS]),ht]
 |assign x=>simp only;rw[jy x (by simp [ho,aS])]
 |pick c x y=>simp only;rw[jy c (by simp [ho,aS]),jy x (by simp [ho,aS]),jy y (by simp [ho,aS])]
 |binOp op T x y T'=>simp only;rw[jy x (by simp [ho,aS]),jy y (by simp [ho,aS])]
 |unOp op T x=>simp only;rw[jy x (by simp [ho,aS])]
 |convert S T x=>
  have hx:=jy x (by simp [ho,aS]);simp only;rw[<-hx];split
  ·rename_i id n ta tb e;simp only[rR,fH id (by simp [zv,ho,e,iy])]
  ·rfl
 |makeMap T r=>
  cases r with
  |some r=>rfl
  |none=>
   simp only;cases hd:o.dst with
   |none=>rfl
   |some d=>have:=h.bs (d+1) (by simp [zv,ho,hd]);simp only[sj,this]
 |lookup T x i ok=>
  cases ok with
  |true=>rfl
  |false=>
   simp only;rw[<-jy x (by simp [ho,aS]),<-jy i (by simp [ho,aS])];unfold tw C8;split
   ·split
    ·rename_i e;simp only[fH _ (by simp only[zv,ho,e,iy];exact cJ.2 rfl)]
    ·rfl
   ·rfl
 |mapUpdate T m k x=>
  simp only;rw[<-jy m (by simp [ho,aS]),<-jy k (by simp [ho,aS]),<-jy x (by simp [ho,aS])];unfold ur C8;split
  ·split
   ·rename_i e;simp only[fH _ (by simp only[zv,ho,e,iy];exact cJ.2 rfl)]
   ·rfl
  ·rfl
 |insert T m k x=>
  simp only;rw[<-jy m (by simp [ho,aS]),<-jy k (by simp [ho,aS]),<-jy x (by simp [ho,aS])];unfold ur C8;split
  ·split
   ·rename_i e;simp only[fH _ (by simp only[zv,ho,e,iy];exact cJ.2 rfl)]
   ·rfl
  ·rfl
 |range T x=>
  simp only;rw[<-jy x (by simp [ho,aS])];cases hd:o.dst with
  |none=>rfl
  |some d=>have:=h.bs (d+1) (by simp [zv,ho,hd]);simp only[sj,this]
 |next x str=>
  cases str with
  |false=>rfl
  |true=>
   simp only;rw[<-jy x (by simp [ho,aS])];unfold tA;split
   ·rename_i e;simp only[fH _ (by simp only[zv,ho,e,iy];exact cJ.2 rfl)]
   ·rfl
 |makeSlice T l c=>
  simp only;rw[<-jy l (by simp [ho,aS]),<-jy c (by simp [ho,aS])];cases hd:o.dst with
  |none=>rfl
  |some d=>have:=h.bs (d+1) (by simp [zv,ho,hd]);simp only[tz,sj,this]
 |load T x=>
  have hx:=jy x (by simp [ho,aS]);simp only;rw[<-hx];unfold load;split
  ·split
   ·rfl
   ·rename_i id t p e;simp only[J1,vU,fH id (by simp [zv,ho,e,iy])]
   ·rfl
  ·unfold sf;split
   ·rename_i id a b j e;simp only[vU,fH id (by simp [zv,ho,e,iy])]
   ·rfl
 |store T x y=>
  have hx:=jy x (by simp [ho,aS]);have hy:=jy y (by simp [ho,aS]);simp only;rw[<-hx];unfold store;rw[<-hy];split
  ·split
   ·rename_i id t p e;simp only[JI,vU,fH id (by simp [zv,ho,e,iy])]
   ·rfl
  ·rfl
 |nilCheck x=>simp only;rw[jy x (by simp [ho,aS])]
 |fieldAddr T x j=>simp only;rw[jy x (by simp [ho,aS])]
 |indexAddr T x i=>simp only;rw[jy x (by simp [ho,aS]),jy i (by simp [ho,aS])]
 |index T x i=>simp only;rw[jy x (by simp [ho,aS]),jy i (by simp [ho,aS])]
 |field T x j=>simp only;rw[jy x (by simp [ho,aS])]
 |slice T x lo hi mx=>
  cases mx with
  |none=>
   simp only;have H0:lo.map s.cM=lo.map s'.cM:=by
    cases lo with
    |none=>rfl
    |some l=>simp only[dH,jy l (by simp [ho,aS])]
   have Nz:hi.map s.cM=hi.map s'.cM:=by
    cases hi with
    |none=>rfl
    |some l=>simp only[dH,jy l (by simp [ho,aS])]
   rw[<-jy x (by simp [ho,aS]),H0,Nz];split
   ·rfl
   ·rename_i id n t e;simp only[yY,fH id (by simp [zv,ho,e,iy])]
   ·rfl
  |some m=>rfl
 |makeFunc fn fi ca=>
  cases fn with
  |func f=>
   simp only;split
   ·rename_i x e1 e2;have hm:x∈o.op.operands.toList:=by simp only[ho,aS,cT,aR,e2];exact .inr (by simp)
    rw[jy x hm]
   ·rename_i x y e1 e2;have hm:∀z∈ [x,y],z∈o.op.operands.toList:=λz hz=>by simp only[ho,aS,cT,aR,e2];exact .inr hz
    rw[jy x (hm x (by simp)),jy y (hm y (by simp))]
   ·rfl
  |_=>rfl
 |alloc T=>
  simp only;cases hd:o.dst with
  |none=>split<;>simp_all
  |some d=>have:=h.bs (d+1) (by simp [zv,ho,hd]);cases E.ty T<;>cases E.gr T<;>simp only[this]
 |box T x=>
  have hx:=jy x (by simp [ho,aS]);simp only;cases hd:o.dst with
  |none=>split<;>simp_all
  |some d=>have:=h.bs (d+1) (by simp [zv,ho,hd]);cases E.ty T<;>simp only[this,hx]
 |build T parts=>have hp:uD s parts.toList=uD s' parts.toList:=zns pS (λt ht=>by simpa [ho,aS] using ht);simp only[hp]
 |buildSlice T n parts=>
  have hp:(parts.toList.map λp=>(p.1,s.cM p.2))=parts.toList.map λp=>(p.1,s'.cM p.2):=dL λp hp=>by
   rw[jy p.2 (by simp only[ho,aS];exact bM.2 ⟨p,hp,rfl⟩)]
  simp only[hp]
 |extract x j=>
  cases x with
  |tmp t=>have:s.slot t=s'.slot t:=pS t (by simp [ho,aS,Ae]);simp only[this]
  |_=>rfl
 |call c=>
  obtain⟨callee,args,ts⟩:=c;cases callee with
  |value x=>
   cases x with
   |func f=>
    have gM:args.toList.map s.cM=args.toList.map s'.cM:=dL λx hx=>jy x (by simp only[ho,aS,fj,cT,aR];exact .inr hx)
    have qy:qP s (args.toList.map s'.cM)=qP s' (args.toList.map s'.cM):=SP λid nX=>fH id (by simp only[zv,ho,aR];refine .inl ?_;rw[<-gM,iJ] at nX;exact nX)
    have hlk:Ki s args.toList=Ki s' args.toList:=by
     cases Nn:args.toList with
     |nil=>rfl
     |cons x r=>
      cases x with
      |tmp t=>
       have:s.slot t=s'.slot t:=pS t (by simp only[ho,aS,fj,cT,Nn];exact QX (List.mem_append_right _ (by simp)))
       simp only[Ki,this]
      |_=>rfl
    simp only;rw[<-hlk];split
    ·rename_i t id a b j r hl;obtain⟨Nn,gv⟩:=znn hl;have hr:r.map s.cM=r.map s'.cM:=by have:=gM;rw[Nn] at this;simpa using(List.cons.inj this).2
     have hbr:qP s (r.map s'.cM)=qP s' (r.map s'.cM):=SP λid nX=>fH id (by simp only[zv,ho,aR];refine .inl ?_;rw[<-hr,iJ] at nX;rw[Nn,fJ,aR];exact .inr nX)
     have nX:s.box id=s'.box id:=fH id (by
      simp only[zv,ho,aR];refine .inl ?_;rw[Nn,fJ,aR];refine .inl ?_;have:s.cM (.tmp t)= .eU id a b j:=by show one (s.slot t)=_;rw[gv];rfl
      rw[this];simp [iy])
     simp only[rP,vU,hr,hbr,nX]
    simp only[oi,gM,qy];cases hd:o.dst with
    |none=>rfl
    |some d=>have:=h.bs (d+1) (by simp [zv,ho,hd]);simp only[this]
   |tmp y=>
    have hy:s.cM (.tmp y)=s'.cM (.tmp y):=jy (.tmp y) (by simp only[ho,aS,fj,cT,aR];exact .inl (by simp))
    have gM:args.toList.map s.cM=args.toList.map s'.cM:=dL λx hx=>jy x (by simp only[ho,aS,fj,cT,aR];exact .inr hx)
    simp only;rw[<-hy];split
    ·rename_i id f t b e;have qy:qP s (args.toList.map s'.cM++ [.ptr id t []])=qP s' (args.toList.map s'.cM++ [.ptr id t []]):=SP λdP nX=>fH dP (by
      simp only[zv,ho,aR,e];rw[lm,aR] at nX;rcases nX with nX|nX
      ·refine .inl ?_;rw[<-gM,iJ] at nX;exact nX
      ·exact .inr (.inl (by simpa [iy] using nX)))
     simp only[oi,gM,qy];cases hd:o.dst with
     |none=>rfl
     |some d=>have:=h.bs (d+1) (by simp [zv,ho,hd]);simp only[this]
    ·rename_i f t x u y e;have qy:qP s (args.toList.map s'.cM++ [.view t x,.view u y])=qP s' (args.toList.map s'.cM++ [.view t x,.view u y]):=SP λdP nX=>fH dP (by
      simp only[zv,ho,aR];rw[lm,aR] at nX;rcases nX with nX|nX
      ·refine .inl ?_;rw[<-gM,iJ] at nX;exact nX
      ·simp [iy] at nX)
     simp only[oi,gM,qy];cases hd:o.dst with
     |none=>rfl
     |some d=>have:=h.bs (d+1) (by simp [zv,ho,hd]);simp only[this]
    ·rfl
   |_=>rfl
  |builtin b=>
   have gM:∀x∈args.toList,s.cM x=s'.cM x:=λx hx=>jy x (by simp only[ho,aS,fj,cT,aR];exact .inr hx)
   cases b with
   |copy=>
    simp only;split
    ·rename_i d x T r e1 e2;rw[gM x (by rw[e1];simp),<-gM d (by rw[e1];simp)];unfold copyV;split
     ·rename_i e0 t0 id n ta tb hT e;have hb:s.box id=s'.box id:=fH id (by simp only[zv,ho,e1,fJ,e,iy];exact dm _ (cJ.2 rfl));simp only[pP,rS,hb]
     ·rename_i e0 t0 id n ta tb l hT e;have hb:s.box id=s'.box id:=fH id (by simp only[zv,ho,e1,fJ,e,iy];exact dm _ (cJ.2 rfl));simp only[pP,hb]
     ·rfl
    ·rfl
   |len=>
    simp only;split
    ·rename_i x T e1 e2;rw[gM x (by rw[e1];simp)]
    ·rfl
   |append=>
    simp only;split
    ·rename_i x y T U e1 e2;rw[gM x (by rw[e1];simp),gM y (by rw[e1];simp)]
    ·rfl
   |max=>
    simp only;split
    ·rename_i x y e1;rw[gM x (by rw[e1];simp),gM y (by rw[e1];simp)]
    ·rfl
   |min=>
    simp only;split
    ·rename_i x y e1;rw[gM x (by rw[e1];simp),gM y (by rw[e1];simp)]
    ·rfl
   |_=>rfl
  |_=>rfl
 |_=>rfl
end Go.Ref

namespace Go.Ref
open Go
variable {P:Program} {E:Env} {X:bZ} {s:State} {a:Act} {o:Oper} {u:Out}
def UG:List (Nat×Nat)->Nat->List SV->List SV
 | [],_,l=>l
 |(i,j)::r,t,l=>UG r t (if t=i then gj l j else l)
theorem VB{t:Nat}:∀{c:List (Nat×Nat)} {s:State},(s.close c).slot t=UG c t (s.slot t)
 | [],s=>rfl
 |(i,j)::r,s=>by rw[Ju,VB (c:=r),zag];rfl
theorem Av{t:Nat}:∀{c:List (Nat×Nat)} {l:List SV},t∉c.map (·.1)->UG c t l=l
 | [],l,h=>rfl
 |(i,j)::r,l,h=>by simp only[bq,aH,not_or] at h;simp only[UG];rw[if_neg h.1];exact Av h.2
theorem KV{d:ae Nat}:(s.apply d u).sl.length=s.sl.length:=by
 cases d with
 |none=>simp only[State.apply,State.bX];cases u.bx<;>simp [State.cD,S3]
 |some d=>simp only[State.apply,State.bX,gD];cases u.bx<;>simp [State.cD,S3]
theorem SO{d:ae Nat}{t:Nat}:(s.apply d u).slot t=if d=some t/\t<s.sl.length then u.v else UG u.cl t (s.slot t):=by
 have hb:∀(s:State) b,(s.cD b).slot t=s.slot t:=λs b=>by cases b<;>rfl
 cases d with
 |none=>simp only[State.apply,State.bX,hb,VB];rw[if_neg (by simp)]
 |some d=>
  simp only[State.apply];by_cases e:d=t
  ·subst e;by_cases bS:d<s.sl.length
   ·rw[if_pos ⟨rfl,bS⟩];have:d<((s.close u.cl).cD u.bx).sl.length:=by
     have:((s.close u.cl).cD u.bx).sl.length=s.sl.length:=by cases u.bx<;>simp [State.cD,S3]
     omega
    simp only[State.bX,State.slot,aq,List.getElem?_set_self this,c8]
   ·rw[if_neg (λh=>bS h.2)];have:((s.close u.cl).cD u.bx).sl.length<=d:=by
     have:((s.close u.cl).cD u.bx).sl.length=s.sl.length:=by cases u.bx<;>simp [State.cD,S3]
     omega
    have h2:(((s.close u.cl).cD u.bx).bX (some d) u.v).slot d=((s.close u.cl).cD u.bx).slot d:=by simp only[State.bX,State.slot];rw[List.set_eq_of_length_le this]
    rw[h2,hb,VB]
  ·rw[if_neg (λh=>e (by injection h.1))];have h2:(((s.close u.cl).cD u.bx).bX (some d) u.v).slot t=((s.close u.cl).cD u.bx).slot t:=by simp only[State.bX,State.slot,aq,List.getElem?_set_ne e]
   rw[h2,hb,VB]
theorem Ta{d:ae Nat}{id:Nat}:(s.apply d u).bs[id]? =match u.bx with
 |some (dP,B)=>if dP=id then(s.bs[id]?).map (λ_=>some B) else s.bs[id]?
 |none=>s.bs[id]? :=by
 have hs:∀(s:State) d l,(s.bX d l).bs=s.bs:=λs d l=>by cases d<;>rfl
 simp only[State.apply,hs];cases hb:u.bx with
 |none=>simp only[State.cD,ER]
 |some b=>
  obtain⟨dP,B⟩:=b;simp only[State.cD,ER];rw[ay];by_cases e:dP=id
  ·subst e;rw[if_pos rfl,if_pos rfl];by_cases bS:dP<s.bs.length
   ·rw[if_pos bS,au bS];rfl
   ·rw[if_neg bS,aQ (by omega)];rfl
  ·rw[if_neg e,if_neg e]
theorem ahv{s s':State}(h1:s.sl.length=s'.sl.length)(h2:∀t,s.slot t=s'.slot t)(h3:∀id:Nat,s.bs[id]? =s'.bs[id]?):s=s':=by
 cases s with
 |mk sl bs=>
  cases s' with
  |mk sl' bs'=>
   simp only[State.mk.injEq];refine⟨bV λi=> ?_,bV h3⟩;have:=h2 i;simp only[State.slot,aq] at this h1;by_cases bS:i<sl.length
   ·rw[au bS,au (by omega)] at this⊢;simpa using this
   ·rw[aQ (by omega),aQ (by omega)]
structure Hr(R1 W1 b1 c1 R2 W2 b2 c2:List Nat):Prop where
 h1:∀t∈W1,t∉R2/\t∉W2
 h2:∀t∈W2,t∉R1
 h3:∀id∈c1,id∉b2/\id∉c2
 h4:∀id∈c2,id∉b1
theorem acq{o1 o2:Oper}{ops:List Oper}{i1 i2:Nat}{s1 s2:State}{u1 u2:Out}(h:(oQ ops o1 i1 s1 u1).apart (oQ ops o2 i2 s2 u2)=true):
 Hr (looks ops o1) (o1.dst.toList++u1.cl.map (·.1)) (zv s1 o1) (u1.bx.toList.map (·.1)) (looks ops o2) (o2.dst.toList++u2.cl.map (·.1)) (zv s2 o2) (u2.bx.toList.map (·.1)):=by
 simp only[mK.apart,oQ,ar] at h;obtain⟨g1,g2,g3,g4⟩:=h;refine⟨λt ht=> ?_,λt ht=> ?_,λt ht=> ?_,λt ht=> ?_⟩
 ·have:=V9 g1 t (by rw[EP];exact decide_eq_true ht);simp only[dX,EP,cF,decide_eq_false_iff_not] at this;exact this
 ·have:=V9 g2 t (by rw[EP];exact decide_eq_true ht);simpa only[EP,decide_eq_false_iff_not] using this
 ·have:=V9 g3 t (by rw[EP];exact decide_eq_true ht);simp only[dX,EP,cF,decide_eq_false_iff_not] at this;exact this
 ·have:=V9 g4 t (by rw[EP];exact decide_eq_true ht);simpa only[EP,decide_eq_false_iff_not] using this
theorem zn5{d:ae Nat}{ts bs:List Nat}(h1:∀t∈ts,t∉d.toList++u.cl.map (·.1))(h2:∀id∈bs,id∉u.bx.toList.map (·.1)):uE ts bs (s.apply d u) s where
 sl:=λt ht=>by have h:=h1 t ht;simp only[aR,not_or] at h;rw[SO,if_neg (λhc=>h.1 (by rw[hc.1];simp)),Av h.2]
 bs:=λid nX=>by
  have h:=h2 id nX;rw[Ta];cases hb:u.bx with
  |none=>rfl
  |some b=>obtain⟨dP,B⟩:=b;rw[hb] at h;simp only;rw[if_neg (λe=>h (by simp [e]))]
theorem adz{d1 d2:ae Nat}{u1 u2:Out}(h1:∀t∈d1.toList++u1.cl.map (·.1),t∉d2.toList++u2.cl.map (·.1))(h2:∀id∈u1.bx.toList.map (·.1),id∉u2.bx.toList.map (·.1)):
 (s.apply d1 u1).apply d2 u2=(s.apply d2 u2).apply d1 u1:=by
 refine ahv (by rw[KV,KV,KV,KV]) (λt=> ?_) (λid=> ?_)
 ·rw[SO,SO,SO,SO,KV,KV];by_cases HO:d1=some t
  ·have hm:t∈d1.toList++u1.cl.map (·.1):=by rw[HO];simp
   have hn:=h1 t hm;simp only[aR,not_or] at hn;have Ak:¬d2=some t:=λe=>hn.1 (by rw[e];simp);by_cases bS:t<s.sl.length
   ·rw[if_neg (λh=>Ak h.1),if_pos ⟨HO,bS⟩,Av hn.2,if_pos ⟨HO,bS⟩]
   ·rw[if_neg (λh=>Ak h.1),if_neg (λh=>bS h.2),if_neg (λh=>bS h.2),if_neg (λh=>bS h.2),Av hn.2,Av hn.2]
  ·by_cases Ak:d2=some t
   ·have hn:t∉d1.toList++u1.cl.map (·.1):=λhm=>h1 t hm (by rw[Ak];simp);simp only[aR,not_or] at hn;by_cases bS:t<s.sl.length
    ·rw[if_pos ⟨Ak,bS⟩,if_neg (λh=>HO h.1),if_pos ⟨Ak,bS⟩,Av hn.2]
    ·rw[if_neg (λh=>bS h.2),if_neg (λh=>bS h.2),if_neg (λh=>bS h.2),if_neg (λh=>bS h.2),Av hn.2,Av hn.2]
   ·rw[if_neg (λh=>Ak h.1),if_neg (λh=>HO h.1),if_neg (λh=>HO h.1),if_neg (λh=>Ak h.1)];by_cases hm:t∈u1.cl.map (·.1)
    ·have hn:=h1 t (by simp only[aR];exact .inr hm);simp only[aR,not_or] at hn;rw[Av hn.2,Av hn.2]
    ·rw[Av hm,Av hm]
 ·rw[Ta,Ta,Ta,Ta];cases vK:u1.bx with
  |none=>rfl
  |some b1=>
   obtain⟨id1,B1⟩:=b1;cases ub:u2.bx with
   |none=>rfl
   |some b2=>
    obtain⟨zJ,B2⟩:=b2;rw[vK,ub] at h2;have fL:id1≠zJ:=λe=>h2 id1 (by simp) (by simp [e]);simp only;by_cases e1:id1=id
    ·subst e1;rw[if_neg (λe=>fL e.symm),if_pos rfl,if_pos rfl,if_neg (λe=>fL e.symm)]
    ·by_cases e2:zJ=id
     ·subst e2;rw[if_pos rfl,if_neg e1,if_neg e1,if_pos rfl]
     ·rw[if_neg e2,if_neg e1,if_neg e1,if_neg e2]
theorem znu{ops:List Oper}{s s':State}(h:∀t∈looks ops o,s.slot t=s'.slot t):zv s o=zv s' o:=by
 have jy:∀x∈o.op.operands.toList,s.cM x=s'.cM x:=λx hx=>zhv (ts:=Ae o.op.operands.toList) (λt ht=>h t (by simp only[looks,aR];exact .inl ht)) (λ_ ht=>ht) hx;unfold zv;cases ho:o.op with
 |load T x=>simp only;rw[jy x (by simp [ho,aS])]
 |store T x y=>simp only;rw[jy x (by simp [ho,aS])]
 |convert S T x=>simp only;rw[jy x (by simp [ho,aS])]
 |slice T x lo hi mx=>simp only;rw[jy x (by simp [ho,aS])]
 |lookup T x i ok=>simp only;rw[jy x (by simp [ho,aS])]
 |mapUpdate T m k x=>simp only;rw[jy m (by simp [ho,aS])]
 |insert T m k x=>simp only;rw[jy m (by simp [ho,aS])]
 |next x str=>simp only;rw[jy x (by simp [ho,aS])]
 |call c=>
  obtain⟨callee,args,ts⟩:=c;have:(args.toList.map λx=>iy (s.cM x))=args.toList.map λx=>iy (s'.cM x):=dL λx hx=>by
   rw[jy x (by simp only[ho,aS,fj,cT,aR];exact .inr hx)]
  cases callee with
  |value f=>
   simp only;have hf:s.cM f=s'.cM f:=jy f (by simp only[ho,aS,fj,cT,aR];exact .inl (by simp))
   rw[hf,iI,iI,this]
  |builtin b=>
   cases b with
   |copy=>simp only;rw[iI,iI,this]
   |_=>rfl
  |_=>rfl
 |_=>rfl
theorem PC{C:bu}{ops:List Oper}{s s':State}(h:uE (looks ops o) (zv s o) s s'):ni E C ops o s=ni E C ops o s':=by
 unfold ni;rw[af2 h];split
 ·rfl
 ·rename_i g want hg;split
  ·rfl
  ·rename_i d hd;rw[h.sl d (by simp [looks,hg,hd])]
theorem swap{C:bu}{ops:List Oper}{o1 o2:Oper}{i1 i2:Nat}{u1 u2:Out}(h1:ni E C ops o1 s=some u1)(h2:ni E C ops o2 (s.apply o1.dst u1)=some u2)(h:(oQ ops o1 i1 s u1).apart (oQ ops o2 i2 (s.apply o1.dst u1) u2)=true):
 ni E C ops o2 s=some u2/\oQ ops o2 i2 s u2=oQ ops o2 i2 (s.apply o1.dst u1) u2/\ni E C ops o1 (s.apply o2.dst u2)=some u1/\oQ ops o1 i1 (s.apply o2.dst u2) u1=oQ ops o1 i1 s u1/\
  (s.apply o2.dst u2).apply o1.dst u1=(s.apply o1.dst u1).apply o2.dst u2:=by
 have hp:=acq h;have ag1:uE (looks ops o2) (zv (s.apply o1.dst u1) o2) (s.apply o1.dst u1) s:=zn5 (λt ht hm=>(hp.h1 t hm).1 ht) (λid nX hm=>(hp.h3 id hm).1 nX);have m9:=znu (ops:=ops) (o:=o2) ag1.sl;have ag2:uE (looks ops o1) (zv s o1) (s.apply o2.dst u2) s:=zn5 (λt ht hm=>hp.h2 t hm ht) (λid nX hm=>hp.h4 id hm nX);have mG:=znu (ops:=ops) (o:=o1) ag2.sl;refine⟨by rw[<-PC ag1];exact h2,by simp only[oQ,m9],?_,by simp only[oQ,mG],(adz (λt ht=>(hp.h1 t ht).2) (λid nX=>(hp.h3 id nX).2)).symm⟩;rw[PC (s:=s.apply o2.dst u2) (s':=s) ⟨ag2.sl,λid nX=>ag2.bs id (by rw[<-mG];exact nX)⟩];exact h1
end Go.Ref

namespace Go.Ref
open Go
variable {P:Program} {tq:n4} {E:Env} {X:bZ} {s:State} {a:Act} {o:Oper} {u:Out}
def wE(E:Env)(C:bu)(ops:Array Oper):List Nat->State->List mK->State->Prop
 | [],s,tr,z=>s=z/\tr=[]
 |i::r,s,f::tr,z=>∃u,ni E C ops.toList (ops.getD i default) s=some u/\f=oQ ops.toList (ops.getD i default) i s u/\wE E C ops r (s.apply (ops.getD i default).dst u) tr z
 |_::_,_,[],_=>False
def CE(ops:Array Oper)(i:Nat):Nat:=zx (ops.getD i default).after.toList
theorem PO{ops:List Oper}{q:Nat}:∀(n m:Nat),m.testBit q=true->(qK ops n m).testBit q=true
 |0,m,h=>h
 |i+1,m,h=>by
  refine PO i _ ?_;split
  ·cases m.testBit i with
   |false=>exact h
   |true=>rw[cond_true,dX,h];rfl
  ·exact h
theorem zno{listed:Array Bool}{i q:Nat}(h:listed.getD q false=true):(listed.setIfInBounds i true).getD q false=true:=by
 simp only[aZ,dc] at h⊢;split
 ·split
  ·rfl
  ·rename_i h1 h2;subst h1;rw[Array.getElem?_eq_none (by omega)] at h;exact h
 ·exact h
theorem agU{listed:Array Bool}{i q:Nat}(e:q≠i):(listed.setIfInBounds i true).getD q false=listed.getD q false:=by simp only[aZ];rw[dk (by omega)]
def Br(ops:Array Oper)(listed:Array Bool):Prop:=∀i,listed.getD i false=true->∀q,(CE ops i).testBit q=true->listed.getD q false=true
theorem Vx{ops:Array Oper}{listed:Array Bool}(nG:Br ops listed):∀(n m:Nat),(∀q,m.testBit q=true->listed.getD q false=true)->∀q,(qK ops.toList n m).testBit q=true->listed.getD q false=true
 |0,m,h=>h
 |i+1,m,h=>by
  refine Vx nG i _ λq hq=> ?_;split at hq
  ·rename_i o ho;cases hb:m.testBit i with
   |false=>rw[hb] at hq;exact h q hq
   |true=>
    rw[hb,cond_true,dX,ja] at hq;rcases hq with hq|hq
    ·exact h q hq
    ·refine nG i (h i hb) q ?_;have:ops.getD i default=o:=by rw[bn] at ho;simp only[aZ,ho,c8]
     unfold CE;rw[this];exact hq
  ·exact h q hq
theorem QR{ops:Array Oper}{listed:Array Bool}(nG:Br ops listed){i:Nat}(h:∀q,(CE ops i).testBit q=true->listed.getD q false=true):Br ops (listed.setIfInBounds i true):=λj hj q hq=>by
 by_cases e:j=i
 ·subst e;exact zno (h q hq)
 ·rw[agU e] at hj;exact zno (nG j hj q hq)
def Db(ops:Array Oper)(a b:mK):Prop:=(qK ops.toList b.i (CE ops b.i)).testBit a.i=true\/a.apart b=true
theorem Jn{C:bu}{ops:Array Oper}:∀{l:List Nat} {s z:State} {tr:List mK},wE E C ops l s tr z->tr.map (·.i)=l
 | [],s,z,tr,h=>by rw[h.2];rfl
 |i::r,s,z,f::tr,h=>by obtain⟨u,_,rfl,h3⟩:=h;simp only[bq,Jn h3];rfl
 |_::_,s,z,[],h=>h.elim
theorem zar{C:bu}(hC:C.Nat){ops:Array Oper}{z:State}:∀(l:List Nat) (i:Nat) (s:State) (tr:List mK),(∀(j:Nat) k,l[j]? =some k->k=i+j)->
 E6 E (C State) ops.toList (l.map λk=>ops.getD k default) i s tr some=some z->∃EI,wE E C ops l s EI z/\(∀a∈tr,∀b∈EI,Db ops a b)/\EI.Pairwise (Db ops)/\∀k∈l,bC (CE ops k+1) (bit k)=true
 | [],i,s,tr,hl,h=>by cases h;exact⟨[],⟨rfl,rfl⟩,(λa _ b hb=>by cases hb),List.Pairwise.nil,λk hk=>by cases hk⟩
 |k::r,i,s,tr,hl,h=>by
  have hk:k=i:=by simpa using hl 0 k rfl
  subst hk;simp only[bq,E6] at h;obtain⟨u,h1,h2,h3⟩:=ahx hC h;obtain⟨EI,r1,r2,r3,r4⟩:=zar hC r (k+1) _ _ (λj k' hj=>by have:=hl (j+1) k' hj;omega) h3
  simp only[fits,ar] at h2;obtain⟨h2a,h2b⟩:=h2;have h2b:=aY.1 h2b;refine⟨oQ ops.toList (ops.getD k default) k s u::EI,⟨u,h1,rfl,r1⟩,λa ha b hb=> ?_,?_,λk' ND=> ?_⟩
  ·rcases aH.1 hb with rfl|hb
   ·have:=h2b a ha;simp only[ja] at this;rcases this with this|this|this
    ·exact .inl (PO _ _ this)
    ·exact .inr this
    ·exact .inl this
   ·exact r2 a (aG _ ha) b hb
  ·exact bF.2 ⟨λb hb=>r2 _ (by simp) b hb,r3⟩
  ·rcases aH.1 ND with rfl|ND
   ·exact h2a
   ·exact r4 k' ND
theorem zq1{C:bu}{ops:Array Oper}{z:State}{i:Nat}{q:List Nat}:∀(p:List Nat) (s:State) (tr:List mK),wE E C ops (p++i::q) s tr z->(∀(tp:List mK) f tq,tr=tp++f::tq->tp.length=p.length->∀a∈tp,a.apart f=true)->
 ∃tp f tq u,tr=tp++f::tq/\tp.length=p.length/\ni E C ops.toList (ops.getD i default) s=some u/\f=oQ ops.toList (ops.getD i default) i s u/\wE E C ops (p++q) (s.apply (ops.getD i default).dst u) (tp++tq) z
 | [],s,[],h,Gf=>h.elim
 | [],s,f::tr,h,Gf=>by obtain⟨u,h1,h2,h3⟩:=h;exact⟨[],f,tr,u,rfl,rfl,h1,h2,h3⟩
 |j::p,s,[],h,Gf=>h.elim
 |j::p,s,g::tr,h,Gf=>by obtain⟨uj,h1,h2,h3⟩:=h;obtain⟨tp,f,tq,u,e1,e2,k1,k2,k3⟩:=zq1 p _ tr h3 (λtp f tq e hl a ha=>Gf (g::tp) f tq (by rw[e];rfl) (by simp [hl]) a (aG _ ha));have hg:=Gf (g::tp) f tq (by rw[e1];rfl) (by simp [e2]) g (by simp);rw[h2,k2] at hg;obtain⟨w1,w2,w3,w4,w5⟩:=swap h1 k1 hg;refine⟨g::tp,f,tq,u,by rw[e1];rfl,by simp [e2],w1,by rw[k2,w2],uj,w3,by rw[h2,w4],?_⟩;rw[w5];exact k3
theorem QT{l:List Nat}{i:Nat}(h:i∈l):∃p q,l=p++i::q:=List.append_of_mem h
theorem ztl{p q:List Nat}{i:Nat}(h:(p++i::q).Nodup):(p++i::q).filter (λj=> !(ak j i))=p++q:=by
 have h':=List.nodup_append.1 h;have hp:∀j∈p,j≠i:=λj hj=>h'.2.2 j hj i (by simp);have hq:∀j∈q,j≠i:=λj hj e=>by have:=(List.nodup_cons.1 h'.2.1).1;rw[e] at hj;exact this hj
 rw[List.filter_append,dQ];have hb:∀j,j≠i->(!(ak j i))=true:=λj hj=>by
  cases hh:ak j i with
  |false=>rfl
  |true=>exact absurd (aE hh) hj
 rw[dK.2 (λj hj=>hb j (hp j hj)),dK.2 (λj hj=>hb j (hq j hj))];have:(!(ak i i))=false:=by simp
 rw[this];simp
def rest(n:Nat)(listed:Array Bool):List Nat:=(cW n).filter λi=> !listed.getD i true
theorem akH{n:Nat}{listed:Array Bool}(hs:listed.size=n){i:Nat}{p q:List Nat}(h:rest n listed=p++i::q):rest n (listed.setIfInBounds i true)=p++q:=by
 have vN:(rest n listed).Nodup:=List.nodup_range.filter _;rw[h] at vN;rw[<-ztl vN,<-h];simp only[rest,List.filter_filter];refine jL λj hj=> ?_;have hjn:=bU.1 hj;by_cases e:j=i
 ·subst e;have:(listed.setIfInBounds j true).getD j true=true:=by simp [aZ,hs,hjn]
  rw[this];simp
 ·have h1:(listed.setIfInBounds i true).getD j true=listed.getD j true:=by simp only[aZ];rw[dk (λh=>e h.symm)]
  have h2:ak j i=false:=by
   cases hh:ak j i with
   |false=>rfl
   |true=>exact absurd (aE hh) e
  rw[h1,h2];simp
theorem KY{ops:Array Oper}{listed:Array Bool}{i:Nat}(h:i∈eh .any ops listed):i∈rest ops.size listed/\∀e∈(ops.getD i default).after.toList,fW .any e=true->listed.getD e.on false=true:=by
 unfold eh at h;obtain⟨h1,h2⟩:=bc.1 h;have hi:=bU.1 h1;rw[ar] at h2;refine⟨bc.2 ⟨h1,h2.1⟩,λe he hb=> ?_⟩;have h3:=h2.2;rw[bf hi] at h3;simp only[dH,c8] at h3;have jx:ops.getD i default=ops[i]:=by simp [hi]
 rw[jx] at he;have h4:=gB.1 h3 e (by simpa using he);rw[hb] at h4;simpa using h4
theorem QO{ops:Array Oper}{listed:Array Bool}{i:Nat}(h:i∈rest ops.size listed)(ha:∀e∈(ops.getD i default).after.toList,fW .any e=true->listed.getD e.on false=true):i∈eh .any ops listed:=by
 obtain⟨h1,h2⟩:=bc.1 h;have hi:=bU.1 h1;refine bc.2 ⟨h1,?_⟩;rw[ar];refine⟨h2,?_⟩;have jx:ops.getD i default=ops[i]:=by simp [hi]
 rw[bf hi];simp only[dH,c8];refine gB.2 λe he=> ?_;cases hb:fW .any e with
 |false=>rfl
 |true=>rw[ha e (by rw[jx];simpa using he) hb];simp
theorem aj1(hE:bN P E){C:bu}(hC:C.Nat)(hf:∀f,kX P tq C f){ops:Array Oper}{z:State}{Q:Exit->Act->World->Prop}(ud:∀k,k<ops.size->bC (CE ops k+1) (bit k)=true):
 ∀(iM:Nat) (listed:Array Bool) (X:bZ) (s:State) (a:Act) (tr:List mK),Rel tq X s a->Br ops listed->listed.size=ops.size->iM=(rest ops.size listed).length->wE E C ops (rest ops.size listed) s tr z->tr.Pairwise (Db ops)->
  (∀Y a',Ext X Y->Rel tq Y z a'->Q .normal a' Y.w)->wpAny P .any ops Q iM listed a X.w:=by
 intro iM;have done:∀(listed:Array Bool),listed.size=ops.size->eh .any ops listed=[]->rest ops.size listed=[]:=by
  intro listed hs hr;rcases hl:rest ops.size listed with _|⟨i,r⟩
  ·rfl
  have jH:i∈rest ops.size listed:=by rw[hl];simp
  have lS:=bU.1 (bc.1 jH).1;have rX:i∈eh .any ops listed:=by
   refine QO jH λe he hb=> ?_;have bS:e.on<i:=zzy (ud i lS) (zgq _ e he hb);cases hx:listed.getD e.on false with
   |true=>rfl
   |false=>
    exfalso;have ou:e.on<listed.size:=by omega
    have Gz:listed.getD e.on true=false:=by simp only[aZ,bf ou,c8] at hx⊢;exact hx
    have hm:e.on∈rest ops.size listed:=bc.2 ⟨bU.2 (by omega),by rw[Gz];rfl⟩;have pT:(rest ops.size listed).Pairwise (· < ·):=List.pairwise_lt_range.filter _;rw[hl] at pT hm;rcases aH.1 hm with e1|hm
    ·omega
    ·have:=(bF.1 pT).1 _ hm;omega
  rw[hr] at rX;cases rX
 induction iM with
 |zero=>
  intro listed X s a tr hr nG hs vM mC CL hQ;have q7:rest ops.size listed=[]:=bD vM.symm;rw[q7] at mC;obtain⟨rfl,_⟩:=mC;refine⟨?_,hQ X a (Ext.refl X) hr⟩;rcases NU:eh .any ops listed with _|⟨i,r⟩
  ·rfl
  ·have:=(KY (i:=i) (by rw[NU];simp)).1;rw[q7] at this;cases this
 |succ iM ih=>
  intro listed X s a tr hr nG hs vM mC CL hQ;refine⟨λpR=> ?_,λi hi=> ?_⟩
  ·rw[done listed hs pR] at vM;cases vM
  ·obtain⟨jH,zE⟩:=KY hi;obtain⟨p,q,Ef⟩:=QT jH;have lS:=bU.1 (bc.1 jH).1;rw[Ef] at mC;have uf:=Jn mC;obtain⟨tp,f,tq,u,e1,e2,k1,k2,k3⟩:=zq1 p s tr mC (λtp f tq e hl a' Ge=>by
    have BJ:f.i=i:=by rw[e,cz,bq] at uf;have:=jc uf (by simp [hl]);injection this.2
    have haj:a'.i∈p:=by rw[e,cz,bq] at uf;have:=jc uf (by simp [hl]);rw[<-this.1];exact bM.2 ⟨a',Ge,rfl⟩
    rw[e] at CL;have BL:=(cG.1 CL).2.2 a' Ge f (by simp);rcases BL with hb|hb
    ·exfalso;rw[BJ] at hb;obtain nP:=Vx nG _ _ (λq hq=>by obtain⟨ed,D7,D8,Nw⟩:=Jt _ _ hq;have:=zE ed D7 D8;rw[Nw] at this;exact this) a'.i hb
     have fy:a'.i∈rest ops.size listed:=by rw[Ef];exact dm _ haj
     have mJ:=(bc.1 fy).2;have bS:=bU.1 (bc.1 fy).1;have ou:a'.i<listed.size:=by omega
     simp only[aZ,bf ou,c8] at nP mJ;rw[nP] at mJ;cases mJ
    ·exact hb)
   have fy:=akH hs Ef;have hio:ops[i]? =some (ops.getD i default):=by simp [lS]
   refine Za hE hr hC hf hio (znz hC k1) λY a' dF eQ=> ?_;refine ih (listed.setIfInBounds i true) Y _ a' (tp++tq) eQ (QR nG λq hq=>by obtain⟨ed,g1,g2,g3⟩:=Jt _ _ hq;have:=zE ed g1 g2;rw[g3] at this;exact this) (by simp [hs]) ?_ (by rw[fy];exact k3) ?_ (λZ a2 ia lh=>hQ Z a2 (dF.trans ia) lh)
   ·rw[fy];rw[Ef] at vM;simp only[aJ,aF] at vM⊢;omega
   ·rw[e1] at CL;obtain⟨a1,a2,a3⟩:=cG.1 CL;exact cG.2 ⟨a1,(bF.1 a2).2,λx hx y hy=>a3 x hx y (aG _ hy)⟩
theorem agF(hE:bN P E)(hm:P.follows .mixedOrders=true){C:bu}(hC:C.Nat)(hf:∀f,kX P tq C f){id:Nat}{ops:Array Oper}{z:State}{Q:Exit->Act->World->Prop}(hr:Rel tq X s a)(h:E6 E (C State) ops.toList ops.toList 0 s [] some=some z)
 (hQ:∀Y a',Ext X Y->Rel tq Y z a'->Q .normal a' Y.w):(iu id ops true).wp P Q a X.w:=by
 have rW:(cW ops.size).map (λi=>ops.getD i default)=ops.toList:=by
  apply bV;intro i;rw[aL];by_cases hi:i<ops.size
  ·simp [hi]
  ·simp [hi]
 have fy:rest ops.size (gC ops.size false)=cW ops.size:=by refine dK.2 λi hi=> ?_;have:=bU.1 hi;simp [this]
 obtain⟨EI,r1,_,r3,r4⟩:=zar hC (cW ops.size) 0 s [] (λj k hj=>by
  have:=(aC.1 hj)
  obtain⟨h1,h2⟩:=this;simp at h2;omega) (by rw[rW];exact h)
 have hk:nk s X {X with w:={X.w with drawn:=X.w.drawn+1}}:=⟨bg _,rfl,rfl,rfl,λg _=>⟨rfl,rfl⟩,rfl,λ_ _ _=>rfl⟩
 refine wp_region_any hm ?_;exact aj1 hE hC hf (λk hk=>r4 k (bU.2 hk)) ops.size (gC ops.size false) _ s a EI (hr.lH hk) (λi hi=>by by_cases h:i<ops.size<;>simp [h] at hi) (by simp) (by rw[fy];simp) (by rw[fy];exact r1) r3 (λY a' dF eQ=>hQ Y a' (hk.ext.trans dF) eQ)
end Go.Ref

namespace Go.Ref
open Go
variable {P:Program} {tq:n4} {E:Env} {X:bZ} {s:State} {a:Act}
theorem eC.flat{X Y:bZ}:∀{t:Ty} {x:El t} {cs:List Value},t.flat=true->eC X t x cs->eC Y t x cs
 | .bool,_,_,_,hr=>hr
 | .int _,_,_,_,hr=>hr
 | .str,_,_,_,hr=>hr
 | .unit,_,_,_,hr=>hr
 | .sl _ _,_,_,hf,_=>by cases hf
 | .dC _ _ _,_,_,hf,_=>by cases hf
 | .arr n t,xs,cs,hf,⟨h1,h2,h3⟩=>⟨h1,h2,λj x hj=>eC.flat (t:=t) hf (h3 j x hj)⟩
 | .pair a b,x,cs,hf,⟨c1,c2,h1,h2,h3⟩=>by have hf:(a.flat&&b.flat)=true:=hf;rw[ar] at hf;exact⟨c1,c2,h1,eC.flat hf.1 h2,eC.flat hf.2 h3⟩
theorem cq.flat{X Y:bZ}{pl:List Nat->Place}{sv:SV}{v:Value}(hf:sv.flat=true)(hr:cq X pl sv v):cq Y pl sv v:=by
 cases sv with
 |b8 t x own=>have hf:(t.flat&&own.isEmpty)=true:=hf;rw[ar] at hf;obtain⟨cs,h1,h2,_⟩:=hr;have:own=[]:=List.isEmpty_iff.1 hf.2;subst this;exact⟨cs,h1.flat hf.1,h2,uB⟩
 |undef=>trivial
 |skip=>exact hr
 |jJ=>exact hr
 |m5=>exact hr
 |over=>exact hr
 |_=>cases hf
theorem VS{o:Nat}:∀{sl:List (List SV)} {i:Nat},tk o i sl=true->∀(j:Nat) l,sl[j]? =some l->i+j≠o->∀sv∈l,SV.flat sv=true
 | [],i,_,j,l,h,_=>by simp at h
 |l0::r,i,h,j,l,hl,fL=>by
  rw[tk,ar,ja] at h;cases j with
  |zero=>
   cases hl;rcases h.1 with h1|h1
   ·exact absurd (aE h1) fL
   ·exact λsv hm=>aY.1 h1 sv hm
  |succ j=>exact VS h.2 j l hl (by omega)
structure vZ(X:bZ)(a:Act)(o:Nat)(e:TypeId)(xs:List Int)(own:List (List Nat))(g c:Nat)(cur:Array Value):Prop where
 val:a.tmps.getD o aT= .slice (some ⟨g,0,none⟩) xs.length c
 heap:X.w.heap[g]? =some (.cells cur e (0,0))
 cell:∀(j:Nat) x,xs[j]? =some x->X.w.cell? ⟨g,j,none⟩=some (.int .u8 x)
 le:xs.length<=c
 most:c<=maxLen
 size:cur.size=c
 ow:X.ow g= .row (.c o 0 []) (xs.length*1)
 own:∀p∈own,p=[]
theorem amU{o:Nat}{e:TypeId}{xs:List Int}{own:List (List Nat)}(hr:Rel tq X s a)(hs:s.slot o=[.b8 (.sl e (.int .u8)) xs own])(gu:pa own []=true){i:Nat}(hi:i<xs.length):∃g c cur,vZ X a o e xs own g c cur:=by
 have pS:=hr.slot o;rw[hs] at pS;obtain⟨cs,cY,hv,hO⟩:=(show cq X (.c o 0) (.b8 (.sl e (.int .u8)) xs own) (a.tmps.getD o aT) from pS)
 have jH:([]:List Nat)∈own:=by
  unfold pa at gu;obtain⟨q,h1,h2⟩:=List.any_eq_true.1 gu;have:q=[]:=by simpa using h2
  rw[<-this];exact h1
 have kG:∀p∈own,p=[]:=λp hp=>by
  obtain⟨e2,t2,xs2,v2,g1,g2,g3,g4⟩:=hO p hp;cases p with
  |cons q r=>simp [El.get] at g2
  |nil=>rfl
 obtain⟨e1,t1,xs1,v1,_,hg,hc,iq⟩:=hO [] jH;simp only[El.get,az] at hg;cases hg;obtain⟨A,c,mZ,hle,n5⟩:=cY;subst mZ;have hv:a.tmps.getD o aT= .slice A xs.length c:=hv;have Gx:v1= .slice A xs.length c:=by have:([Value.slice A xs.length c]:List Value)[0]? =some v1:=hc;simpa using this.symm
 subst Gx;rcases iq with⟨_,h0⟩|⟨g,cap,cur,h1,h2,h3,h4,h5,h6⟩
 ·have h0:ag xs=0:=h0;omega
 injection h1 with k1 k2 k3
 subst k1 k3;have h5:cur.size=c*1:=h5;have h6:X.ow g= .row (.c o 0 []) (ag xs*1):=h6;have mB:∀(j:Nat) x,xs[j]? =some x->X.w.cell? ⟨g,j,none⟩=some (.int .u8 x):=λj x hj=>by obtain⟨ad,m8,e1,_,e2,e3⟩:=n5 j x hj;cases e1;have e2:m8=[.int .u8 x]:=e2;subst e2;have:=(e3 0 (.int .u8 x) rfl).2.1;rw[qc] at this;simpa [Ty.cells] using this
 exact⟨g,c,cur,hv,h2,mB,hle,h4,by omega,h6,kG⟩
theorem akF{o:Nat}{e:TypeId}{xs:List Int}{own:List (List Nat)}{X0:bZ}(hF:∀g pl n,X0.ow g≠ .row pl n)(hx:Ext X0 X)(hr:Rel tq X s a)(ho:o<s.sl.length)(BK:tk o 0 s.sl=true)(qy:s.bs.all Option.isNone=true)
 {g c:Nat} {cur:Array Value} (hR:vZ X a o e xs own g c cur) {i:Nat} (hi:i<xs.length) (z:Int):
   Ext X0 (X.row g (cur.toList.take i++ [Value.int .u8 z]++cur.toList.drop (i+1)).toArray)/\Rel tq (X.row g (cur.toList.take i++ [Value.int .u8 z]++cur.toList.drop (i+1)).toArray) ⟨s.sl.set o [.b8 (.sl e (.int .u8)) (xs.set i z:List Int) own],s.bs⟩ a:=by
 obtain⟨hv,h2,mB,hle,h4,h5,h6,kG⟩:=hR;refine⟨?_,?_⟩
 ·
  have lE:∀b,b≠g->(X.row g (cur.toList.take i++ [Value.int .u8 z]++cur.toList.drop (i+1)).toArray).w.heap[b]? =X.w.heap[b]? :=λb hb=>setRow_other X.w g b _ hb;have vO:∀ad v,X0.cf ad v->ad.block≠g:=λad v mR e0=>by
   have bS:=bZ.p7 mR;have hu:=mR.2.2;cases hw:X0.ow ad.block with
   |all=>have:=(hx.still ad.block bS (by rw[hw];trivial)).1;rw[e0,h6] at this;rw[<-e0,hw] at this;cases this
   |ro n=>have:=(hx.still ad.block bS (by rw[hw];trivial)).1;rw[e0,h6] at this;rw[<-e0,hw] at this;cases this
   |box id=>rw[hw] at hu;exact hu
   |row pl n=>exact hF _ _ _ hw
  refine⟨λad v mR=> ?_,?_,hx.os,hx.tape,hx.output,hx.β0,λb hb gv=> ?_⟩
  ·have h7:=hx.cf ad v mR;refine⟨h7.1,?_,h7.2.2⟩;have:=h7.2.1;simp only[bP] at this⊢;rw[lE _ (vO ad v mR)];exact this
  ·have:=hx.size;simpa [bZ.row] using this
  ·have h7:=hx.still b hb gv;have fL:b≠g:=λe0=>by have h8:=h7.1;rw[e0,h6] at h8;rw[e0,<-h8] at gv;exact gv
   exact⟨h7.1,(lE b fL).trans h7.2⟩
 ·generalize pw:(cur.toList.take i++ [Value.int .u8 z]++cur.toList.drop (i+1)).toArray=new;have mJ:new.toList=cur.toList.take i++ [Value.int .u8 z]++cur.toList.drop (i+1):=by rw[<-pw]
  have mQ:new.size=cur.size:=by
   have:new.toList.length=cur.toList.length:=by rw[mJ];simp;omega
   simpa using this
  have cH:(X.row g new).w.heap[g]? =some (.cells new e (0,0)):=setRow_heap X.w g cur new e (0,0) h2;refine⟨by simpa using hr.size,by simpa using hr.pc,λj l v hl qC=> ?_,λid B hB=> ?_,λj l id t p hl hm=> ?_,hr.defers,λj l id c b k hl hm=> ?_,hr.j8.zS (by rw[h6];exact λe=>e) (λb hb=>setRow_other X.w g b _ hb) rfl⟩
  ·rw[ay] at hl;by_cases Gp:o=j
   ·subst Gp;rw[if_pos rfl,if_pos ho] at hl;cases hl;have hvv:a.tmps.getD o aT=v:=by rw[aZ,qC];rfl
    rw[hvv] at hv;subst hv;refine⟨[.slice (some ⟨g,0,none⟩) xs.length c],?_,rfl,λp hp=> ?_⟩
    ·refine eC.EE (t:= .int .u8) (gD ..) hle λj x hj=>⟨⟨g,0,none⟩,[.int .u8 x],rfl,rfl,rfl,λk w hk=> ?_⟩
     have BM:j<xs.length:=by have:=(aC.1 hj).1;rw[gD] at this;exact this
     cases k with
     |succ k=>simp at hk
     |zero=>
      have hk:Value.int .u8 x=w:=by simpa using hk
      subst hk;refine⟨G8 rfl _,?_,?_⟩
      ·rw[qc];show(X.row g new).w.cell? _=_;simp only[bP,cH,Ty.cells];rw[show 0+(j*1+0)=j by omega,<-bn,mJ];have hj:(xs.set i z)[j]? =some x:=hj;rw[ay] at hj;have aok:i<cur.toList.length:=by simp;omega
       by_cases hij:i=j
       ·subst hij;rw[if_pos rfl,if_pos hi] at hj;cases hj;rw[bd,bh (by simp;omega)];have:i-(cur.toList.take i).length=0:=by simp;omega
        rw[this];rfl
       ·rw[if_neg hij] at hj;have CK:=mB j x hj;simp only[bP,h2] at CK;rw[<-bn] at CK;rcases eg j i with bS|UZ
        ·rw[bd,bG (by simp;omega),bj,if_pos bS];exact CK
        ·have hgt:i<j:=by omega
         rw[bh (by simp;omega),bI];have:i+1+(j-(cur.toList.take i++ [Value.int .u8 z]).length)=j:=by simp;omega
         rw[this];exact CK
      ·rw[qc];show Ow.used (X.ow g) _;rw[h6];show _<_;simp only[Ty.cells];omega
    ·have:=kG p hp;subst this;refine⟨e,.int .u8,(xs.set i z:List Int),_,by simp [Ty.nb],rfl,rfl,?_⟩;have hls:ag (xs.set i z)=xs.length:=gD ..;rw[hls];exact .inr ⟨g,c,new,rfl,cH,hle,h4,by rw[mQ,h5];simp [Ty.cells],h6⟩
   ·rw[if_neg Gp] at hl;have:=VS BK j l hl (by omega);exact(hr.gn j l v hl qC).ql λk sv u hk hu=>hu.flat (this sv (aN hk))
  ·have:=aY.1 qy (some B) (aN hB);cases this
  ·rw[ay] at hl;by_cases Gp:o=j
   ·subst Gp;rw[if_pos rfl,if_pos ho] at hl;cases hl;simp at hm
   ·rw[if_neg Gp] at hl;have:=VS BK j l hl (by omega) _ hm;cases this
  ·exfalso;replace hl:(s.sl.set o [.b8 (.sl e (.int .u8)) (xs.set i z:List Int) own])[j]? =some l:=hl;rw[ay] at hl;by_cases Gp:o=j
   ·subst Gp;rw[if_pos rfl,if_pos ho] at hl;cases hl;simp at hm
   ·rw[if_neg Gp] at hl;have:=VS BK j l hl (by omega) _ hm;cases this
theorem vW{a:Act}{d i:Nat}{v:Value}(hd:d<a.tmps.size):(a.put (some d) v).tmps.getD i aT=if d=i then v else a.tmps.getD i aT:=by
 simp only[Act.put,aZ,dc];split
 ·first|rfl|(rw[if_pos hd];rfl)
 ·rfl
theorem Ab{a:Act}{d:Nat}{v:Value}:(a.put (some d) v).tmps.size=a.tmps.size:=by simp [Act.put]
theorem raw{ops:Array Oper}{Q:Exit->Act->World->Prop}{i d:Nat}{rest:List Nat}{a:Act}{w:World}{o:Oper}{v:Value}(hi:ops[i]? =some o)(hd:isDst o d=true)(dD:(execOp a.eval o).run P w= .ok (.value v) w)(K:wpOps P ops Q rest (a.put (some d) v) w):wpOps P ops Q (i::rest) a w:=by
 have tm:o.dst=some d/\o.guard=none:=by
  unfold isDst at hd;split at hd
  ·rename_i d' h1 h2;exact⟨by rw[h1,aE hd],h2⟩
  ·cases hd
 rw[wpOps_cons];unfold wpOp;simp only[hi];have hw:cr o (yielded ops a.tmps)=true:=by simp [cr,tm.2]
 rw[if_pos hw];refine .inl ?_;unfold gN;rw[dD,jg,tm.1];exact K
theorem CZ{x:Operand}{i:Nat}(h:nQ x i=true):x= .tmp i:=by
 unfold nQ at h;split at h
 ·rw[aE h]
 ·cases h
theorem RM{T:TypeId}(h:Ej E T=true):E.ty T=some (.int .u8):=by
 unfold Ej at h;split at h
 ·assumption
 ·cases h
theorem ztz{T:TypeId}(h:Y1 E T=true):∃e,E.ty T=some (.sl e (.int .u8)):=by
 unfold Y1 at h;split at h
 ·exact⟨_,by assumption⟩
 ·cases h
theorem C1{o:Oper}{d x:Nat}(h:Kh o d x=true):isDst o d=true/\∀(a:Act) (w:World),(execOp a.eval o).run P w= .ok (.value (a.tmps.getD x aT)) w:=by
 unfold Kh at h;rw[ar] at h;refine⟨h.1,λa w=> ?_⟩;have h:=h.2;split at h
 ·rename_i y ho;have:=CZ h;subst this;simp only[execOp,ho];rfl
 ·cases h
theorem Y4(hE:bN P E){o:Oper}{d x:Nat}(h:isLen E o d x=true):isDst o d=true/\∀(a:Act) (w:World) A n c,a.tmps.getD x aT= .slice A n c->(execOp a.eval o).run P w= .ok (.value (.int .i64 n)) w:=by
 unfold isLen at h;rw[ar] at h;refine⟨h.1,λa w A n c hv=> ?_⟩;have h:=h.2;split at h
 ·rename_i mA ts ho;split at h
  ·rename_i y T Ao HJ;have has:mA= #[y]:=by rw[<-bT (xs:=mA),Ao]
   have sF:ts= #[T]:=by rw[<-bT (xs:=ts),HJ]
   subst has sF;rw[ar] at h;have:=CZ h.1;subst this;obtain⟨e,hT⟩:=ztz h.2;have hu:=(hE.ty T _ hT).lU;have ev:a.eval (.tmp x)= .slice A n c:=hv;simp [execOp,ho,resolve,invoke,builtin,Builtin.len_,ev,run_underlying hu.1,goInt]
  ·cases h
 ·cases h
theorem We{o:Oper}{d x:Nat}(h:zu0 o d x=true):isDst o d=true/\∀(a:Act) (w:World) (n:Int),a.tmps.getD x aT= .int .i64 n->(execOp a.eval o).run P w= .ok (.value (.int .i64 (IntKind.i64.wrap (n-1)))) w:=by
 unfold zu0 at h;rw[ar] at h;refine⟨h.1,λa w n hv=> ?_⟩;have h:=h.2;split at h
 ·rename_i T y c T' ho;rw[ar] at h;have:=CZ h.1;subst this;have hc:=of_decide_eq_true h.2;subst hc;have ev:a.eval (.tmp x)= .int .i64 n:=hv;have ec:a.eval (.const (.int .i64 1))= .int .i64 1:=rfl;obtain⟨sv,v,hl,N5,_,hr,_⟩:=zpd (P:=P) (op:= .sub) (T:=T) (k:= .i64) (k':= .i64) (m:=n) (n:=1) w rfl;cases hl;have:=GZ (hr ⟨w,λ_=> .all,λ_=>none⟩ (λ_=> .r 0 []));subst this;simp only[execOp,ho,ax,ev,ec,Vs,al,N5,aD]
 ·cases h
theorem R4{o:Oper}{d x y:Nat}(h:B9 o d x y=true):isDst o d=true/\∀(a:Act) (w:World) (n m:Int),a.tmps.getD x aT= .int .u8 n->a.tmps.getD y aT= .int .u8 m->(execOp a.eval o).run P w= .ok (.value (.int .u8 (IntKind.u8.wrap (n+m)))) w:=by
 unfold B9 at h;rw[ar] at h;refine⟨h.1,λa w n m hv hu=> ?_⟩;have h:=h.2;split at h
 ·rename_i T u v T' ho;rw[ar] at h;have:=CZ h.1;subst this;have:=CZ h.2;subst this;have ev:a.eval (.tmp x)= .int .u8 n:=hv;have eu:a.eval (.tmp y)= .int .u8 m:=hu;obtain⟨sv,v,hl,N5,_,hr,_⟩:=zpd (P:=P) (op:= .add) (T:=T) (k:= .u8) (k':= .u8) (m:=n) (n:=m) w rfl;cases hl;have:=GZ (hr ⟨w,λ_=> .all,λ_=>none⟩ (λ_=> .r 0 []));subst this;simp only[execOp,ho,ax,ev,eu,Vs,al,N5,aD]
 ·cases h
theorem zt8(hE:bN P E){o:Oper}{d x i:Nat}(h:Ei E o d x i=true):isDst o d=true/\∀(a:Act) (w:World) (g n c:Nat) (j:Int),a.tmps.getD x aT= .slice (some ⟨g,0,none⟩) n c->a.tmps.getD i aT= .int .i64 j->0<=j->j<n->(execOp a.eval o).run P w= .ok (.value (.pointer (some ⟨g,j.toNat,none⟩))) w:=by
 unfold Ei at h;rw[ar] at h;refine⟨h.1,λa w g n c j hv hj h0 h1=> ?_⟩;have h:=h.2;split at h
 ·rename_i T y z ho;rw[ar,ar] at h;have:=CZ h.1;subst this;have:=CZ h.2.1;subst this;obtain⟨e,hT⟩:=ztz h.2.2;have hu:=(hE.ty T _ hT).lU;have ev:a.eval (.tmp x)= .slice (some ⟨g,0,none⟩) n c:=hv;have ei:a.eval (.tmp i)= .int .i64 j:=hj;simp only[execOp,ho,ax,Instr.indexAt,ei,ev,asIntOf,aD,al,run_underlying hu.1,Sem.run_ite,h0,h1,and_self,if_true,tJ hE hu.2];simp [Ty.cells,qc]
 ·cases h
theorem QF(hE:bN P E){o:Oper}{d x:Nat}(h:Jl E o d x=true):isDst o d=true/\∀(a:Act) (w:World) (g j:Nat) (y:Int),a.tmps.getD x aT= .pointer (some ⟨g,j,none⟩)->w.cell? ⟨g,j,none⟩=some (.int .u8 y)->(execOp a.eval o).run P w= .ok (.value (.int .u8 y)) w:=by
 unfold Jl at h;rw[ar] at h;refine⟨h.1,λa w g j y hv hc=> ?_⟩;have h:=h.2;split at h
 ·rename_i T z ho;rw[ar] at h;have:=CZ h.1;subst this;have hT:=RM h.2;have ev:a.eval (.tmp x)= .pointer (some ⟨g,j,none⟩):=hv;have hl:=G1 (P:=P) hE hT (X:=⟨w,λ_=> .all,λ_=>none⟩) (x:=y) (cs:=[.int .u8 y]) rfl (ad:=⟨g,j,none⟩) (w:=w) (λk v hk=>by
   cases k with
   |zero=>rw[qc];have hk:Value.int .u8 y=v:=by simpa using hk
          rw[<-hk];exact hc
   |succ k=>simp at hk)
  simp only[execOp,ho,ax,Instr.loadAt,ev,Instr.sureAddr,aD,al,hl];rfl
 ·cases h
theorem amW(hE:bN P E){ops:Array Oper}{Q:Exit->Act->World->Prop}{o:Oper}{x y:Nat}(h:B8 E o x y=true){k:Nat}{rest:List Nat}(hi:ops[k]? =some o){a:Act}{X:bZ}{g j:Nat}{z:Int}{cur:Array Value}{T':TypeId}(hv:a.tmps.getD x aT= .pointer (some ⟨g,j,none⟩))(hz:a.tmps.getD y aT= .int .u8 z)(hg:X.w.heap[g]? =some (.cells cur T' (0,0)))(hj:j+1<=cur.size)
 (K:wpOps P ops Q rest (a.put none aT) (X.row g (cur.toList.take j++ [Value.int .u8 z]++cur.toList.drop (j+1)).toArray).w):wpOps P ops Q (k::rest) a X.w:=by
 unfold B8 at h;rw[ar] at h;have tm:o.dst=none/\o.guard=none:=by
  have h:=h.1;split at h
  ·exact⟨by assumption,by assumption⟩
  ·cases h
 have h:=h.2;rw[wpOps_cons];unfold wpOp;simp only[hi];have hw:cr o (yielded ops a.tmps)=true:=by simp [cr,tm.2]
 rw[if_pos hw];refine .inl ?_;unfold gN;split at h
 ·rename_i T u v ho;rw[ar,ar] at h;have:=CZ h.1;subst this;have:=CZ h.2.1;subst this;have hT:=RM h.2.2;have ev:a.eval (.tmp x)= .pointer (some ⟨g,j,none⟩):=hv;have ez:a.eval (.tmp y)= .int .u8 z:=hz;have gv:=KQ (P:=P) hE hT (X:=X) (x:=z) (cs:=[.int .u8 z]) rfl (off:=j) (w:=X.w) (r:=g) (cur:=cur) (T':=T') hg hj;have pu:mH (.int .u8) [.int .u8 z]= .int .u8 z:=rfl;rw[pu] at gv;have dD:(execOp a.eval o).run P X.w= .ok .skip (X.row g (cur.toList.take j++ [Value.int .u8 z]++cur.toList.drop (j+1)).toArray).w:=by simp only[execOp,ho,ax,eM,ev,Instr.sureAddr,aD,al,ez,gv];rfl
  rw[dD,jw,tm.1];exact K
 ·cases h
theorem z116:∀(n m:Nat) (sl:List (List SV)),(sc n m sl).length=sl.length
 |0,m,sl=>rfl
 |n+1,m,sl=>by rw[sc,z116 n (m+1),gD]
def dead(s:State)(d:Nat):State:=s.bX (some d) [.undef]
theorem Rel.dead(hr:Rel tq X s a)(d:Nat)(v:Value):Rel tq X (Ref.dead s d) (a.put (some d) v):=hr.put (λ_ _=>trivial) (λid t p hm=>by simp at hm)
theorem ahB(hE:bN P E){X0:bZ}(hF:∀g pl n,X0.ow g≠ .row pl n)(hx:Ext X0 X)(hr:Rel tq X s a){q:Nat×Nat×Nat}{id:Nat}{ops:Array Oper}{s':State}(h:tH E q ops.toList s some=some s'){Q:Exit->Act->World->Prop}(hQ:∀Y a',Ext X0 Y->Rel tq Y s' a'->Q .normal a' Y.w):(iu id ops false).wp P Q a X.w:=by
 obtain⟨o,x,m⟩:=q;unfold tH at h;simp only at h;cases oP:Jp E o x m ops.toList with
 |false=>rw[oP] at h;cases h
 |true=>
 rw[oP,cond_true] at h;cases hb:(bC (o+1) m&&(bC (x+1) m&&(!(ak o x)&&bC (m+13) s.sl.length))) with
 |false=>rw[hb] at h;cases h
 |true=>
 rw[hb,cond_true] at h;simp only[ar,Bool.not_eq_true',Nat.ble_eq] at hb;obtain⟨hom,hxm,hox,H2⟩:=hb;split at h
 case h_2=>cases h
 rename_i et xs own y ow2 oC N3;cases gu:pa own [] with
 |false=>rw[gu] at h;cases h
 |true=>
 rw[gu,cond_true] at h;cases BK:(tk o 0 (sc 13 m s.sl)&&s.bs.all Option.isNone) with
 |false=>rw[BK] at h;cases h
 |true=>
 rw[BK,cond_true] at h;rw[ar] at BK;obtain⟨h0,h1,h⟩:=CT h;cases h;generalize hj:IntKind.i64.wrap ((ag xs:Int)-1)=j at h0 h1;have hi:j.toNat<xs.length:=by omega
 obtain⟨g,c,cur,hR⟩:=amU hr oC gu hi;have lV:m+13<=a.tmps.size:=by rw[<-hr.size];exact H2
 have hy:a.tmps.getD x aT= .int .u8 y:=by have pS:=hr.slot x;rw[N3] at pS;exact GZ (show cq X (.c x 0) (.b8 (.int .u8) y ow2) _ from pS)
 have hgx:xs[j.toNat]? =some (xs.getD j.toNat 0):=by rw[aq,au hi];rfl
 have D6:=hR.cell _ _ hgx;unfold Jp at oP;split at oP
 case h_2=>cases oP
 rename_i o0 o1 o2 o3 o4 o5 o6 o7 o8 o9 o10 o11 o12 o13 pB;simp only[ar] at oP;obtain⟨k0,k1,k2,k3,k4,k5,k6,k7,k8,k9,k10,k11,k12,k13⟩:=oP;have jx:∀i,ops[i]? =([o0,o1,o2,o3,o4,o5,o6,o7,o8,o9,o10,o11,o12,o13]:List Oper)[i]? :=λi=>by rw[<-bn,pB]
 have gU:ops.size=14:=by rw[<-eV,pB];rfl
 refine wp_region ?_;rw[gU,show cW 14=[0,1,2,3,4,5,6,7,8,9,10,11,12,13] from rfl];have vo:=hR.val;generalize Eh:(Value.slice (some ⟨g,0,none⟩) xs.length c)=vs at vo;refine raw (jx 0) (C1 (P:=P) k0).1 ((C1 k0).2 a X.w) ?_;rw[vo];have e1:=λi=>vW (i:=i) (v:=vs) (show m<a.tmps.size by omega);have r1:=hr.dead m vs;generalize NS:a.put (some m) vs=a1 at e1 r1;have z1:a1.tmps.size=a.tmps.size:=by rw[<-NS,Ab]
 refine raw (jx 1) (C1 (P:=P) k1).1 ((C1 k1).2 a1 X.w) ?_;rw[e1,if_neg (by omega),vo];have e2:=λi=>vW (a:=a1) (i:=i) (v:=vs) (show m+1<a1.tmps.size by omega);have r2:=r1.dead (m+1) vs;generalize hp2:a1.put (some (m+1)) vs=a2 at e2 r2;have z2:a2.tmps.size=a.tmps.size:=by rw[<-hp2,Ab,z1]
 refine raw (jx 2) (Y4 hE k2).1 ((Y4 hE k2).2 a2 X.w _ _ _ (by rw[e2,if_pos rfl];exact Eh.symm)) ?_;have e3:=λi=>vW (a:=a2) (i:=i) (v:= .int .i64 (xs.length:Nat)) (show m+2<a2.tmps.size by omega);have r3:=r2.dead (m+2) (.int .i64 (xs.length:Nat));generalize hp3:a2.put (some (m+2)) (.int .i64 (xs.length:Nat))=a3 at e3 r3⊢;have z3:a3.tmps.size=a.tmps.size:=by rw[<-hp3,Ab,z2]
 refine raw (jx 3) (We (P:=P) k3).1 ((We k3).2 a3 X.w _ (by rw[e3,if_pos rfl])) ?_;rw[hj];have e4:=λi=>vW (a:=a3) (i:=i) (v:= .int .i64 j) (show m+3<a3.tmps.size by omega);have r4:=r3.dead (m+3) (.int .i64 j);generalize hp4:a3.put (some (m+3)) (.int .i64 j)=a4 at e4 r4⊢;have z4:a4.tmps.size=a.tmps.size:=by rw[<-hp4,Ab,z3]
 have q4:∀i,i<m->a4.tmps.getD i aT=a.tmps.getD i aT:=λi hi=>by rw[e4,if_neg (by omega),e3,if_neg (by omega),e2,if_neg (by omega),e1,if_neg (by omega)]
 have qm:a4.tmps.getD m aT=vs:=by rw[e4,if_neg (by omega),e3,if_neg (by omega),e2,if_neg (by omega),e1,if_pos rfl]
 refine raw (jx 4) (C1 (P:=P) k4).1 ((C1 k4).2 a4 X.w) ?_;rw[q4 o (by omega),vo];have e5:=λi=>vW (a:=a4) (i:=i) (v:=vs) (show m+4<a4.tmps.size by omega);have r5:=r4.dead (m+4) vs;generalize hp5:a4.put (some (m+4)) vs=a5 at e5 r5⊢;have z5:a5.tmps.size=a.tmps.size:=by rw[<-hp5,Ab,z4]
 refine raw (jx 5) (C1 (P:=P) k5).1 ((C1 k5).2 a5 X.w) ?_;rw[e5,if_neg (by omega),q4 o (by omega),vo];have e6:=λi=>vW (a:=a5) (i:=i) (v:=vs) (show m+5<a5.tmps.size by omega);have r6:=r5.dead (m+5) vs;generalize hp6:a5.put (some (m+5)) vs=a6 at e6 r6⊢;have z6:a6.tmps.size=a.tmps.size:=by rw[<-hp6,Ab,z5]
 refine raw (jx 6) (Y4 hE k6).1 ((Y4 hE k6).2 a6 X.w _ _ _ (by rw[e6,if_pos rfl];exact Eh.symm)) ?_;have e7:=λi=>vW (a:=a6) (i:=i) (v:= .int .i64 (xs.length:Nat)) (show m+6<a6.tmps.size by omega);have r7:=r6.dead (m+6) (.int .i64 (xs.length:Nat));generalize hp7:a6.put (some (m+6)) (.int .i64 (xs.length:Nat))=a7 at e7 r7⊢;have z7:a7.tmps.size=a.tmps.size:=by rw[<-hp7,Ab,z6]
 refine raw (jx 7) (We (P:=P) k7).1 ((We k7).2 a7 X.w _ (by rw[e7,if_pos rfl])) ?_;rw[hj];have e8:=λi=>vW (a:=a7) (i:=i) (v:= .int .i64 j) (show m+7<a7.tmps.size by omega);have r8:=r7.dead (m+7) (.int .i64 j);generalize hp8:a7.put (some (m+7)) (.int .i64 j)=a8 at e8 r8⊢;have z8:a8.tmps.size=a.tmps.size:=by rw[<-hp8,Ab,z7]
 have q8:∀i,i<=m+3->a8.tmps.getD i aT=a4.tmps.getD i aT:=λi hi=>by rw[e8,if_neg (by omega),e7,if_neg (by omega),e6,if_neg (by omega),e5,if_neg (by omega)]
 refine raw (jx 8) (zt8 hE k8).1 ((zt8 hE k8).2 a8 X.w g xs.length c j (by rw[e8,if_neg (by omega),e7,if_neg (by omega),e6,if_neg (by omega),e5,if_pos rfl];exact Eh.symm) (by rw[e8,if_pos rfl]) h0 h1) ?_;have e9:=λi=>vW (a:=a8) (i:=i) (v:= .pointer (some ⟨g,j.toNat,none⟩)) (show m+8<a8.tmps.size by omega);have r9:=r8.dead (m+8) (.pointer (some ⟨g,j.toNat,none⟩));generalize hp9:a8.put (some (m+8)) (.pointer (some ⟨g,j.toNat,none⟩))=a9 at e9 r9⊢;have z9:a9.tmps.size=a.tmps.size:=by rw[<-hp9,Ab,z8]
 refine raw (jx 9) (QF hE k9).1 ((QF hE k9).2 a9 X.w g j.toNat _ (by rw[e9,if_pos rfl]) D6) ?_;generalize hwx:xs.getD j.toNat 0=wx;have Kr:=λi=>vW (a:=a9) (i:=i) (v:= .int .u8 wx) (show m+9<a9.tmps.size by omega);have um:=r9.dead (m+9) (.int .u8 wx);generalize aav:a9.put (some (m+9)) (.int .u8 wx)=HD at Kr um⊢;have z10:HD.tmps.size=a.tmps.size:=by rw[<-aav,Ab,z9]
 refine raw (jx 10) (C1 (P:=P) k10).1 ((C1 k10).2 HD X.w) ?_;rw[Kr,if_neg (by omega),e9,if_neg (by omega),q8 x (by omega),q4 x (by omega),hy];have Ks:=λi=>vW (a:=HD) (i:=i) (v:= .int .u8 y) (show m+10<HD.tmps.size by omega);have vC:=um.dead (m+10) (.int .u8 y);generalize aaw:HD.put (some (m+10)) (.int .u8 y)=HE at Ks vC⊢;have z11:HE.tmps.size=a.tmps.size:=by rw[<-aaw,Ab,z10]
 refine raw (jx 11) (R4 (P:=P) k11).1 ((R4 k11).2 HE X.w wx y (by rw[Ks,if_neg (by omega),Kr,if_pos rfl]) (by rw[Ks,if_pos rfl])) ?_;generalize hwz:IntKind.u8.wrap (wx+y)=wz;have e12:=λi=>vW (a:=HE) (i:=i) (v:= .int .u8 wz) (show m+11<HE.tmps.size by omega);have yj:=vC.dead (m+11) (.int .u8 wz);generalize aax:HE.put (some (m+11)) (.int .u8 wz)=a12 at e12 yj⊢;have z12:a12.tmps.size=a.tmps.size:=by rw[<-aax,Ab,z11]
 have q12:∀i,i<=m+3->a12.tmps.getD i aT=a4.tmps.getD i aT:=λi hi=>by rw[e12,if_neg (by omega),Ks,if_neg (by omega),Kr,if_neg (by omega),e9,if_neg (by omega),q8 i hi]
 refine raw (jx 12) (zt8 hE k12).1 ((zt8 hE k12).2 a12 X.w g xs.length c j (by rw[q12 m (by omega),qm];exact Eh.symm) (by rw[q12 (m+3) (by omega),e4,if_pos rfl]) h0 h1) ?_;have US:=λi=>vW (a:=a12) (i:=i) (v:= .pointer (some ⟨g,j.toNat,none⟩)) (show m+12<a12.tmps.size by omega);have vP:=yj.dead (m+12) (.pointer (some ⟨g,j.toNat,none⟩));generalize aos:a12.put (some (m+12)) (.pointer (some ⟨g,j.toNat,none⟩))=Nb at US vP⊢;have aaj:vZ X Nb o et xs own g c cur:=⟨by rw[US,if_neg (by omega),q12 o (by omega),q4 o (by omega),hR.val],hR.heap,hR.cell,hR.le,hR.most,hR.size,hR.ow,hR.own⟩
 refine amW hE k13 (jx 13) (by rw[US,if_pos rfl]) (by rw[US,if_neg (by omega),e12,if_pos rfl]) hR.heap (by rw[hR.size];have:=hR.le;omega) ?_;have aaC:Rel tq X ⟨sc 13 m s.sl,s.bs⟩ Nb:=vP;obtain⟨hX,eQ⟩:=akF hF hx aaC (by rw[z116];omega) BK.1 BK.2 aaj hi wz;have HQ:=hQ _ Nb hX (by unfold GV;rw[hj,hwx,hwz];exact eQ)
 exact HQ
end Go.Ref

namespace Go.Ref
open Go
variable {P:Program} {tq:n4} {E:Env} {X:bZ} {s:State} {a:Act}
structure wF(X Y:bZ)(g0:Nat):Prop where
 heap:∀b,b≠g0->Y.w.heap[b]? =X.w.heap[b]?
 ow:Y.ow=X.ow
 β:Y.β=X.β
theorem wF.cf{Y:bZ}{g0:Nat}(h:wF X Y g0){ad:Addr}{v:Value}(fL:ad.block≠g0)(hs:X.cf ad v):Y.cf ad v:=by
 refine⟨hs.1,?_,?_⟩
 ·have:=hs.2.1;simp only[bP] at this⊢;rw[h.heap _ fL];exact this
 ·rw[h.ow];exact hs.2.2
theorem RK{own:List (List Nat)}{p:List Nat}(h:pa own p=true):p∈own:=by
 unfold pa at h;obtain⟨q,h1,h2⟩:=List.any_eq_true.1 h;have:q=p:=by simpa using h2
 rw[<-this];exact h1
def plS(pl:List Nat->Place):List Nat->Place
 |j::p=>pl ((j+1)::p)
 | []=>pl []
theorem akC{pl:List Nat->Place}{a b:Ty}{x:El (.pair a b)}{c1 c2:List Value}{own:List (List Nat)}(hr:eC X a x.1 c1)(h:eI X pl (.pair a b) x (c1++c2) own):eI X (λp=>pl (0::p)) a x.1 c1 (UH own [0]):=λp hp=>by
 unfold UH at hp;obtain⟨q,hq,rfl⟩:=bM.1 hp;obtain⟨hq,ox⟩:=bc.1 hq
 match q,ox with
 |0::q,_=>obtain⟨e,t',xs,v,g0,g1,g2,g3⟩:=h (0::q) hq;have g2:(c1++c2)[a.off q]? =some v:=g2;refine⟨e,t',xs,v,g0,g1,?_,g3⟩;show c1[a.off q]? =some v;rw[<-g2,bG];obtain⟨_,k2,_⟩:=T6 hr (show a.nb q from g0) (show El.get a q x.1=_ from g1);have k2:a.off q+1<=a.cells:=k2;have:=hr.len;omega
 | [],ox=>simp at ox
 |(j+1)::q,ox=>simp at ox
theorem akD{pl:List Nat->Place}{a b:Ty}{x:El (.pair a b)}{c1 c2:List Value}{own:List (List Nat)}(hl:c1.length=a.cells)(h:eI X pl (.pair a b) x (c1++c2) own):eI X (plS pl) b x.2 c2 (D0 own):=λp hp=>by
 unfold D0 at hp;obtain⟨q,hq,he⟩:=List.mem_filterMap.1 hp
 match q,he with
 |(j+1)::q,he=>cases he;obtain⟨e,t',xs,v,g0,g1,g2,g3⟩:=h ((j+1)::q) hq;refine⟨e,t',xs,v,g0,g1,?_,g3⟩;have g2:(c1++c2)[a.cells+b.off (j::q)]? =some v:=g2;rw[bh (by omega)] at g2;rw[<-g2];congr 1;omega
 | [],he=>cases he
 |0::q,he=>cases he
theorem eI.zS{Y:bZ}{g0:Nat}(h:wF X Y g0){pl:List Nat->Place}(n6:∀p n,X.ow g0≠ .row (pl p) n){t:Ty}{x:El t}{cs:List Value}{own:List (List Nat)}(ho:eI X pl t x cs own):eI Y pl t x cs own:=λp hp=>by
 obtain⟨e,t',xs,v,k0,k1,k2,k3⟩:=ho p hp;refine⟨e,t',xs,v,k0,k1,k2,?_⟩;rcases k3 with ho|⟨g,cap,cur,h1,h2,h3,h4,h5,h6⟩
 ·exact .inl ho
 ·have fL:g≠g0:=λe=>n6 p _ (e▸h6);exact .inr ⟨g,cap,cur,h1,(h.heap g fL).trans h2,h3,h4,h5,by rw[h.ow];exact h6⟩
theorem eC.j7{Y:bZ}{g0:Nat}(h:wF X Y g0):∀{t:Ty} {x:El t} {cs:List Value} {own:List (List Nat)} {pl:List Nat->Place},(∀p n,X.ow g0≠ .row (pl p) n)->t.j7 own=true->eC X t x cs->eI X pl t x cs own->eC Y t x cs
 | .bool,_,_,_,_,_,_,hr,_=>hr
 | .int _,_,_,_,_,_,_,hr,_=>hr
 | .str,_,_,_,_,_,_,hr,_=>hr
 | .unit,_,_,_,_,_,_,hr,_=>hr
 | .dC _ _ _,_,_,_,_,_,hs,_,_=>by cases hs
 | .arr n t,xs,cs,own,pl,_,hs,hr,_=>eC.flat (t:= .arr n t) (show t.flat=true from hs) hr
 | .pair a b,x,cs,own,pl,n6,hs,hr,ho=>by have hs:(a.j7 (UH own [0])&&b.j7 (D0 own))=true:=hs;rw[ar] at hs;obtain⟨c1,c2,h1,h2,h3⟩:=hr;subst h1;exact⟨c1,c2,rfl,eC.j7 h (pl:=λp=>pl (0::p)) (λp n=>n6 _ n) hs.1 h2 (akC h2 ho),eC.j7 h (pl:=plS pl) (λp n=>by cases p<;>exact n6 _ n) hs.2 h3 (akD h2.len ho)⟩
 | .sl e t,xs,cs,own,pl,n6,hs,hr,ho=>by
   have hs:(t.flat&&pa own [])=true:=hs;rw[ar] at hs;obtain⟨A,c,mZ,hle,n5⟩:=hr;subst mZ;refine⟨A,c,rfl,hle,λj x hj=> ?_⟩;obtain⟨ad,m8,e1,e2,e3,e4⟩:=n5 j x hj;subst e1;refine⟨ad,m8,rfl,e2,e3.flat hs.1,λi v hi=>h.cf ?_ (e4 i v hi)⟩;obtain⟨e1,t1,xs1,v1,_,hg,hc,iq⟩:=ho [] (RK hs.2);simp only[El.get,az] at hg;cases hg;have Gx:v1= .slice (some ad) xs.length c:=by have:([Value.slice (some ad) xs.length c]:List Value)[0]? =some v1:=hc;simpa using this.symm
   subst Gx;rcases iq with⟨h0,_⟩|⟨g,cap,cur,h1,h2,h3,h4,h5,h6⟩
   ·cases h0
   ·injection h1 with k1 k2 k3
    cases k1;rw[qc];intro e;have e:g=g0:=e;exact n6 [] _ (e▸h6)
theorem cq.j7{Y:bZ}{g0:Nat}(h:wF X Y g0){pl:List Nat->Place}(n6:∀p n,X.ow g0≠ .row (pl p) n){bs:List (ae fc)}{sv:SV}{v:Value}(hs:sv.j7 bs=true)(hr:cq X pl sv v):cq Y pl sv v:=by
 cases sv with
 |b8 t x own=>obtain⟨cs,h1,h2,h3⟩:=hr;exact⟨cs,h1.j7 h n6 hs h3,h2,h3.zS h n6⟩
 |undef=>trivial
 |skip=>exact hr
 |jJ=>exact hr
 |m5=>exact hr
 |over=>exact hr
 |ptr id t p=>obtain⟨r,h1,h2⟩:=hr;exact⟨r,by rw[h.β];exact h1,h2⟩
 |_=>cases hs
theorem aem{bs:List (ae fc)}{id:Nat}{B:fc}(h:(bs.map zuf)[id]? =some (some B)):bs[id]? =some (some B)/\B.j7=true:=by
 rw[aL] at h;obtain⟨b0,h0,h1⟩:=av.1 h;cases b0 with
 |none=>cases h1
 |some B0=>
  unfold zuf at h1;simp only at h1;cases hb:B0.j7 with
  |false=>rw[hb] at h1;cases h1
  |true=>rw[hb] at h1;cases h1;exact⟨h0,hb⟩
structure aad(X:bZ)(o:Nat)(e:TypeId)(k n:Nat)(v:Value)(g c:Nat)(cur:Array Value):Prop where
 val:v= .slice (some ⟨g,0,none⟩) n c
 heap:X.w.heap[g]? =some (.cells cur e (0,0))
 le:n<=c
 size:cur.size=c*k
 ow:X.ow g= .row (.c o 0 []) (n*k)
theorem Ot{o:Nat}{e:TypeId}{t:Ty}{xs:List (El t)}{own:List (List Nat)}(hr:Rel tq X s a)(hs:s.slot o=[.b8 (.sl e t) xs own])(gu:pa own []=true){i:Nat}(hi:i<xs.length):∃g c cur,aad X o e t.cells xs.length (a.tmps.getD o aT) g c cur:=by
 have pS:=hr.slot o;rw[hs] at pS;obtain⟨cs,cY,hv,hO⟩:=(show cq X (.c o 0) (.b8 (.sl e t) xs own) (a.tmps.getD o aT) from pS)
 obtain⟨e1,t1,xs1,v1,_,hg,hc,iq⟩:=hO [] (RK gu);simp only[El.get,az] at hg;cases hg;obtain⟨A,c,mZ,hle,n5⟩:=cY;subst mZ;have hv:a.tmps.getD o aT= .slice A xs.length c:=hv;have Gx:v1= .slice A xs.length c:=by have:([Value.slice A xs.length c]:List Value)[0]? =some v1:=hc;simpa using this.symm
 subst Gx;rcases iq with⟨_,h0⟩|⟨g,cap,cur,h1,h2,h3,h4,h5,h6⟩
 ·have h0:ag xs=0:=h0;omega
 injection h1 with k1 k2 k3
 subst k1 k3;exact⟨g,c,cur,hv,h2,hle,h5,h6⟩
theorem QP{g:Nat}{new:Array Value}:wF X (X.row g new) g:=⟨λb hb=>setRow_other X.w g b _ hb,rfl,rfl⟩
theorem akI{X0:bZ}(hF:∀g pl n,X0.ow g≠ .row pl n)(hx:Ext X0 X){g m:Nat}{pl:Place}{new:Array Value}(how:X.ow g= .row pl m):Ext X0 (X.row g new):=by
 have lE:∀b,b≠g->(X.row g new).w.heap[b]? =X.w.heap[b]? :=λb hb=>setRow_other X.w g b _ hb;have vO:∀ad v,X0.cf ad v->ad.block≠g:=λad v mR e0=>by
  have bS:=bZ.p7 mR;have hu:=mR.2.2;cases hw:X0.ow ad.block with
  |all=>have:=(hx.still ad.block bS (by rw[hw];trivial)).1;rw[e0,how] at this;rw[<-e0,hw] at this;cases this
  |ro n=>have:=(hx.still ad.block bS (by rw[hw];trivial)).1;rw[e0,how] at this;rw[<-e0,hw] at this;cases this
  |box id=>rw[hw] at hu;exact hu
  |row pl n=>exact hF _ _ _ hw
 refine⟨λad v mR=>QP.cf (vO ad v mR) (hx.cf ad v mR),?_,hx.os,hx.tape,hx.output,hx.β0,λb hb gv=> ?_⟩
 ·have:=hx.size;simpa [bZ.row] using this
 ·have h7:=hx.still b hb gv;have fL:b≠g:=λe0=>by have h8:=h7.1;rw[e0,how] at h8;rw[e0,<-h8] at gv;exact gv
  exact⟨h7.1,(lE b fL).trans h7.2⟩
theorem aht(hr:Rel tq X s a){x g m:Nat}{new:Array Value}(how:X.ow g= .row (.c x 0 []) m):Rel tq (X.row g new) (s.j7 x) a:=by
 have hB:wF X (X.row g new) g:=QP;refine⟨by simpa [State.j7] using hr.size,by simpa [State.j7] using hr.pc,λj l v hl hv=> ?_,λid B hb=> ?_,λj l id t p hl hm=> ?_,hr.defers,λj l id c b k hl hm=> ?_,hr.j8.zS (by rw[how];exact λe=>e) (λb hb=>setRow_other X.w g b _ hb) rfl⟩
 ·simp only[State.j7,aL] at hl;obtain⟨l0,h0,rfl⟩:=av.1 hl;unfold hold;cases kG:l0.all (SV.j7 s.bs) with
  |false=>trivial
  |true=>
   rw[cond_true];rw[ay] at h0;by_cases hxj:x=j
   ·subst hxj;rw[if_pos rfl] at h0;split at h0
    ·cases h0;trivial
    ·cases h0
   ·rw[if_neg hxj] at h0;exact(hr.gn j l0 v h0 hv).ql λk sv u hk hu=>hu.j7 hB (λp n e=>by rw[how] at e;injection e with e _;injection e with e _;exact hxj e) (aY.1 kG sv (aN hk))
 ·obtain⟨h1,h2⟩:=aem hb;obtain⟨r,k1,k2⟩:=hr.boxes id B h1;unfold fc.j7 at h2;rw[ar] at h2;have mQ:B.t.fA=false:=by simpa using h2.1
  obtain⟨cs,T,cH,cY,wJ,gu⟩:=k2.cells mQ;have fL:r≠g:=λe=>by rw[e,how] at wJ;cases wJ
  have n6:∀p n,X.ow g≠ .row (.b id p) n:=λp n e=>by rw[how] at e;injection e with e _;cases e
  exact⟨r,k1,by rw[hB.ow];exact wJ,me.of mQ ((hB.heap r fL).trans cH) (cY.j7 hB n6 h2.2 gu) (gu.zS hB n6)⟩
 ·simp only[State.j7,aL] at hl;obtain⟨l0,h0,rfl⟩:=av.1 hl;unfold hold at hm;cases kG:l0.all (SV.j7 s.bs) with
  |false=>rw[kG] at hm;simp at hm
  |true=>
   rw[kG,cond_true] at hm;have h1:=aY.1 kG _ hm;unfold SV.j7 at h1;simp only at h1;split at h1
   case h_2=>cases h1
   rename_i B hB;have hb:=yt (s:=s) hB;exact⟨B,by simp only[State.j7,aL,hb,dH,zuf,h1,cond_true]⟩
 ·exfalso;simp only[State.j7,aL] at hl;obtain⟨l0,h0,rfl⟩:=av.1 hl;unfold hold at hm;cases kG:l0.all (SV.j7 s.bs) with
  |false=>rw[kG] at hm;simp at hm
  |true=>rw[kG,cond_true] at hm;have:=aY.1 kG _ hm;cases this
theorem zu2{α:Type}:∀{l r:List α} {x y:α},Y3 l=some (r,x,y)->l=r++ [x,y]
 | [],_,_,_,h=>by cases h
 | [_],_,_,_,h=>by cases h
 | [a,b],_,_,_,h=>by cases h;rfl
 |a::b::c::r,_,_,_,h=>by
  simp only[Y3] at h;split at h
  case h_2=>cases h
  rename_i l x y hl;cases h;have:=zu2 (l:=b::c::r) hl;rw[this];rfl
theorem zpy(hE:bN P E){C:bu}(hC:C.Nat)(hf:∀f,kX P tq C f){ops:Array Oper}{s':State}{Q:Exit->Act->World->Prop}{rest:List Nat}:∀(l:List Nat) (X:bZ) (s:State) (a:Act),Rel tq X s a->(∀i∈l,i<ops.size)->
 steps E (C State) ops.toList (l.map λi=>ops.getD i default) s some=some s'->(∀Y a',Ext X Y->Rel tq Y s' a'->wpOps P ops Q rest a' Y.w)->wpOps P ops Q (l++rest) a X.w
 | [],X,s,a,hr,_,h,hQ=>by cases h;exact hQ X a (Ext.refl X) hr
 |i::r,X,s,a,hr,hl,h,hQ=>by
  simp only[bq,steps] at h;obtain⟨s1,h1,h2⟩:=rC (zpx hC (F:=λs=>steps E (C State) ops.toList (r.map λi=>ops.getD i default) s some) (G:=some) (K:=λs=>steps E (C State) ops.toList (r.map λi=>ops.getD i default) s some) (λ_=>rfl)) h;have hi:ops[i]? =some (ops.getD i default):=by have:=hl i (by simp);simp [this]
  rw[List.cons_append,wpOps_cons];refine Za hE hr hC hf hi h1 λY a' dF eQ=> ?_;exact zpy hE hC hf r Y s1 a' eQ (λj hj=>hl j (aG _ hj)) h2 λZ a2 ia lh=>hQ Z a2 (dF.trans ia) lh
theorem akE(hE:bN P E){X0:bZ}(hF:∀g pl n,X0.ow g≠ .row pl n)(hx:Ext X0 X)(hr:Rel tq X s a){ops:Array Oper}{k l:Nat}{oA oS:Oper}(hA:ops[k]? =some oA)(hS:ops[l]? =some oS){s':State}(h:qJ E oA oS s some=some s'){Q:Exit->Act->World->Prop}(hQ:∀Y a',Ext X0 Y->Rel tq Y s' a'->Q .normal a' Y.w):wpOps P ops Q [k,l] a X.w:=by
 unfold qJ at h;split at h
 case h_2=>cases h
 rename_i T x i T' d vo hoA hoS;cases oP:(isDst oA d&&(!(ak x d)&&tC oS)) with
 |false=>rw[oP] at h;cases h
 |true=>
 rw[oP,cond_true] at h;rw[ar,ar] at oP;obtain⟨hd,hxd,tm⟩:=oP;have tm:oS.dst=none/\oS.guard=none:=by
  unfold tC at tm;split at tm
  ·exact⟨by assumption,by assumption⟩
  ·cases tm
 have hxd:x≠d:=λe=>by rw[e] at hxd;simp at hxd
 unfold Cg at h;split at h
 case h_2=>cases h
 rename_i e t xs own N3;cases hb:pa own [] with
 |false=>rw[hb] at h;cases h
 |true=>
 rw[hb,cond_true] at h;split at h
 case h_2=>cases h
 rename_i u w hT CJ;cases hu:(u.iL (.sl e t)&&(w.iL t&&bC (d+1) s.sl.length)) with
 |false=>rw[hu] at h;cases h
 |true=>
 rw[hu,cond_true] at h;rw[ar,ar] at hu;have:=Ty.cS hu.1;subst this;have:=Ty.cS hu.2.1;subst this;have hds:d<a.tmps.size:=by rw[<-hr.size];exact b7 hu.2.2
 obtain⟨n,kk,h,hn⟩:=zpp h;obtain⟨y,h,hy⟩:=zy h;obtain⟨h0,h1,h⟩:=CT h;cases h;have hi:n.toNat<xs.length:=by omega
 obtain⟨g,c,cur,hR⟩:=Ot hr N3 hb hi;have lS:=hn X _ _ (hr.cM i);have hU:=hE.ty T _ hT;have ev:a.eval (.tmp x)= .slice (some ⟨g,0,none⟩) xs.length c:=hR.val;have BX:(execOp a.eval oA).run P X.w= .ok (.value (.pointer (some ⟨g,n.toNat*w.cells,none⟩))) X.w:=by have bS:n<(xs.length:Int):=h1;simp only[execOp,hoA,ax,Instr.indexAt,lS,ev,asIntOf,aD,al,run_underlying hU.lU.1,Sem.run_ite,h0,bS,and_self,if_true,tJ hE hU.lU.2];simp [qc]
 refine raw hA hd BX ?_;have m9:Rel tq X (s.bX (some d) [.undef]) (a.put (some d) (.pointer (some ⟨g,n.toNat*w.cells,none⟩))):=hr.put (λ_ _=>trivial) (λid t p hm=>by simp at hm);have evd:(a.put (some d) (.pointer (some ⟨g,n.toNat*w.cells,none⟩))).eval (.tmp d)= .pointer (some ⟨g,n.toNat*w.cells,none⟩):=by show(a.put (some d) _).tmps.getD d aT=_;rw[vW hds,if_pos rfl]
 generalize a.put (some d) (.pointer (some ⟨g,n.toNat*w.cells,none⟩))=a1 at m9 evd⊢;obtain⟨cs,tF,evy⟩:=hy X _ _ (m9.cM vo);have hle:(n.toNat+1)*w.cells<=c*w.cells:=bp _ (by have:=hR.le;omega);rw[bK,cm] at hle;have gv:=KQ (P:=P) hE CJ tF (r:=g) (off:=n.toNat*w.cells) (w:=X.w) hR.heap (by rw[hR.size];exact hle);rw[wpOps_cons];unfold wpOp;simp only[hS];have hw:cr oS (yielded ops a1.tmps)=true:=by simp [cr,tm.2]
 rw[if_pos hw];refine .inl ?_;unfold gN;generalize pw:(cur.toList.take (n.toNat*w.cells)++cs++cur.toList.drop (n.toNat*w.cells+cs.length)).toArray=new at gv;have dD:(execOp a1.eval oS).run P X.w= .ok .skip (X.row g new).w:=by simp only[execOp,hoS,ax,eM,evd,Instr.sureAddr,aD,al,evy,gv];rfl
 rw[dD,jw,tm.1];exact hQ _ a1 (akI hF hx hR.ow) (aht m9 hR.ow)
theorem ahe(hE:bN P E){C:bu}(hC:C.Nat)(hf:∀f,kX P tq C f){X0:bZ}(hF:∀g pl n,X0.ow g≠ .row pl n)(hx:Ext X0 X)(hr:Rel tq X s a){id:Nat}{ops:Array Oper}{s':State}(h:tE E (C State) ops.toList s some=some s'){Q:Exit->Act->World->Prop}(hQ:∀Y a',Ext X0 Y->Rel tq Y s' a'->Q .normal a' Y.w):(iu id ops false).wp P Q a X.w:=by
 unfold tE at h;split at h
 case h_2=>cases h
 rename_i l oA oS hl;obtain⟨s1,h1,h2⟩:=rC (JF hC (F:=λs=>qJ E oA oS s some) (G:=some) (K:=λs=>qJ E oA oS s some) (λ_=>rfl) l s) h;have pB:=zu2 hl;have gU:ops.size=l.length+2:=by rw[<-eV,pB];simp
 refine wp_region ?_;have rW:cW ops.size=cW l.length++ [l.length,l.length+1]:=by rw[gU,fx,fx,bd];rfl
 rw[rW];have hA:ops[l.length]? =some oA:=by rw[<-bn,pB,bh (bg _),Nat.sub_self];rfl
 have hS:ops[l.length+1]? =some oS:=by rw[<-bn,pB,bh (by omega),cg];rfl
 have sQ:(cW l.length).map (λi=>ops.getD i default)=l:=by
  apply bV;intro i;rw[aL];by_cases hi:i<l.length
  ·have h3:ops[i]? =l[i]? :=by rw[<-bn,pB,bG hi]
   have h4:i<ops.size:=by omega
   rw[jm hi,<-h3];simp [h4]
  ·rw[aQ (by simpa using hi),aQ (by omega)];rfl
 refine zpy hE hC hf (cW l.length) X s a hr (λi hi=>by have:=bU.1 hi;omega) (by rw[sQ];exact h1) λY a' dF eQ=> ?_;exact akE hE hF (hx.trans dF) eQ hA hS h2 hQ
end Go.Ref

namespace Go.Ref
open Go
variable {P:Program} {tq:n4} {E:Env} {X:bZ} {s:State} {a:Act}
theorem abY{ops:Array Oper}{Q:Exit->Act->World->Prop}{i d:Nat}{rest:List Nat}{a:Act}{w w':World}{o:Oper}{v:Value}(hi:ops[i]? =some o)(hd:isDst o d=true)(dD:(execOp a.eval o).run P w= .ok (.value v) w')(K:wpOps P ops Q rest (a.put (some d) v) w'):wpOps P ops Q (i::rest) a w:=by
 have tm:o.dst=some d/\o.guard=none:=by
  unfold isDst at hd;split at hd
  ·rename_i d' h1 h2;exact⟨by rw[h1,aE hd],h2⟩
  ·cases hd
 rw[wpOps_cons];unfold wpOp;simp only[hi];have hw:cr o (yielded ops a.tmps)=true:=by simp [cr,tm.2]
 rw[if_pos hw];refine .inl ?_;unfold gN;rw[dD,jg,tm.1];exact K
theorem zht{α:Type}:∀{l r:List α} {x y z:α},VU l=some (r,x,y,z)->l=r++ [x,y,z]
 | [],_,_,_,_,h=>by cases h
 | [_],_,_,_,_,h=>by cases h
 | [_,_],_,_,_,_,h=>by cases h
 | [a,b,c],_,_,_,_,h=>by cases h;rfl
 |a::b::c::d::r,_,_,_,_,h=>by
  simp only[VU] at h;split at h
  case h_2=>cases h
  rename_i l x y z hl;cases h;have:=zht (l:=b::c::d::r) hl;rw[this];rfl
theorem Rel.kill(hr:Rel tq X s a)(d:Nat):Rel tq X (s.bX (some d) [.undef]) a:=by
 have mT:∀(i:Nat) (l:List SV),(s.bX (some d) [.undef]).sl[i]? =some l->l=[.undef]\/s.sl[i]? =some l:=λi l hi=>by
  simp only[State.bX,ay] at hi;split at hi
  ·split at hi
   ·cases hi;exact .inl rfl
   ·cases hi
  ·exact .inr hi
 refine⟨by simpa [State.bX] using hr.size,by simpa [State.bX] using hr.pc,λi l v hi hv=> ?_,hr.boxes,λi l id t p hi hm=> ?_,hr.defers,hr.eU.less (λi l id c b j hi hm=> ?_) (λid c b x own _ hb ho=>⟨x,own,hb,ho⟩),hr.j8⟩
 ·rcases mT i l hi with rfl|hi
  ·trivial
  ·exact hr.gn i l v hi hv
 ·rcases mT i l hi with rfl|hi
  ·simp at hm
  ·exact hr.live i l id t p hi hm
 ·rcases mT i l hi with rfl|hi
  ·simp at hm
  ·exact⟨l,hi,hm,λh=>h⟩
theorem aaO{P:Program}{fs:Array Field}(h:∀f∈fs.toList,∃i,P.info? f.type=some i):∃places,fs.toList.mapM (λ(f:Field)=>(P.info? f.type).map λi=>(f.offset,i.size))=some places/\∀(j:Nat) (f:Field) i,fs.toList[j]? =some f->P.info? f.type=some i->places[j]? =some (f.offset,i.size):=by
 generalize fs.toList=l at h
 induction l with
 |nil=>exact⟨[],rfl,λj f i hj=>by simp at hj⟩
 |cons f r ih=>
  obtain⟨i,hi⟩:=h f (by simp);obtain⟨places,h1,h2⟩:=ih λf hf=>h f (aG _ hf);refine⟨(f.offset,i.size)::places,by simp [List.mapM_cons,hi,h1],λj g k hj hg=> ?_⟩;cases j with
  |zero=>simp only[bQ,az] at hj;subst hj;rw[hi] at hg;cases hg;rfl
  |succ j=>exact h2 j g k (by simpa using hj) hg
theorem agk(hE:bN P E){T:TypeId}{ta tb:Ty}(hT:E.gr T=some (ta,tb)){y:El ta}{cs:List Value}(hr:eC X ta y cs)(w:World):(Instr.build T #[(0,mH ta cs)]).run P w= .ok (.agg (cs++ [Value.pointer none,Value.pointer none,Value.int .i64 0]).toArray) w:=by obtain⟨fs,f0,hu,hf0,Ee,ht0,kG⟩:=hE.g3 T ta tb hT;obtain⟨i,hi,hz⟩:=hE.gz T ta tb hT;obtain⟨places,NS,hp2⟩:=aaO (P:=P) (fs:=fs) kG;obtain⟨i0,HW,na,_⟩:=(hE.ty _ _ ht0).info;have n6:places[0]? =some (f0.offset,i0.size):=hp2 0 f0 i0 (by rw[bn];exact hf0) HW;have hmc:=CX hr;have nG:=hr.len;have Ob:=Cv ta;refine run_build w T _ _ ?_;unfold Program.built;simp only[hi,hu,hz,NS];have Oa:(Value.agg (zp ta++ [Value.pointer none,Value.pointer none,Value.int .i64 0]).toArray).cells=(zp ta++ [Value.pointer none,Value.pointer none,Value.int .i64 0]).toArray:=rfl;simp only[Oa,Instr.fill,kC,n6,Ee,na,hmc];rw[if_neg (by simp;omega)];have tn:=zpl 0 cs (zp ta++ [Value.pointer none,Value.pointer none,Value.int .i64 0]).toArray (by simp;omega);congr 1;apply iz.1;rw[tn];simp only[List.take_zero,List.nil_append,bJ];rw[nG,<-Ob,List.drop_left]
theorem amP(hE:bN P E){X0:bZ}(hx:Ext X0 X)(hr:Rel tq X s a){ops:Array Oper}{k:Nat}{oB oX oA:Oper}(hB:ops[k]? =some oB)(hX:ops[k+1]? =some oX)(hA:ops[k+2]? =some oA){s':State}(h:zN E oB oX oA s some=some s'){Q:Exit->Act->World->Prop}(hQ:∀Y a',Ext X0 Y->Rel tq Y s' a'->Q .normal a' Y.w):wpOps P ops Q [k,k+1,k+2] a X.w:=by
 unfold zN at h;split at h
 case h_2=>cases h
 rename_i T parts T' e1 e2 hoB hoX hoA;split at h
 case h_2=>cases h
 rename_i d1 d2 d3 HO Ak hd3;cases oP:(ak T T'&&(ak d1 e1&&(ak d2 e2&&(isDst oB d1&&(isDst oX d2&&(isDst oA d3&&(bC (d1+1) s.sl.length&&bC (d2+1) s.sl.length))))))) with
 |false=>rw[oP] at h;cases h
 |true=>
 rw[oP,cond_true] at h;simp only[ar] at oP;obtain⟨hTT,D7,D8,hB1,hX1,hA1,CM,Gu⟩:=oP;have hTT:=aE hTT;have D7:=aE D7;have D8:=aE D8;subst hTT D7 D8;split at h
 case h_2=>cases h
 rename_i x ta tb wL HT;obtain⟨y,h,hy⟩:=zy h;split at h
 case h_2=>cases h
 rename_i qy;cases h;have wL:parts= #[(0,x)]:=by rw[<-bT (xs:=parts),wL]
 subst wL;obtain⟨cs,tF,evx⟩:=hy X _ _ (hr.cM x);have aaE:d1<a.tmps.size:=by rw[<-hr.size];exact b7 CM
 have aaF:d2<a.tmps.size:=by rw[<-hr.size];exact b7 Gu
 have NZ:(execOp a.eval oB).run P X.w= .ok (.value (.agg (cs++ [Value.pointer none,Value.pointer none,Value.int .i64 0]).toArray)) X.w:=by
  have:=agk (X:=X) hE HT tF X.w;simp only[execOp,hoB,ax];have e:(#[((0:Nat),x)].map λ(i,x)=>(i,a.eval x))= #[(0,mH ta cs)]:=by simp [evx]
  rw[e,this];rfl
 refine raw hB hB1 NZ ?_;have m9:Rel tq X (s.bX (some d1) [.undef]) (a.put (some d1) (.agg (cs++ [Value.pointer none,Value.pointer none,Value.int .i64 0]).toArray)):=hr.put (λ_ _=>trivial) (λid t p hm=>by simp at hm);have UT:(a.put (some d1) (.agg (cs++ [Value.pointer none,Value.pointer none,Value.int .i64 0]).toArray)).eval (.tmp d1)= .agg (cs++ [Value.pointer none,Value.pointer none,Value.int .i64 0]).toArray:=by show(a.put (some d1) _).tmps.getD d1 aT=_;rw[vW aaE,if_pos rfl]
 have Vc:(a.put (some d1) (.agg (cs++ [Value.pointer none,Value.pointer none,Value.int .i64 0]).toArray)).tmps.size=a.tmps.size:=Ab;generalize a.put (some d1) (.agg (cs++ [Value.pointer none,Value.pointer none,Value.int .i64 0]).toArray)=a1 at m9 UT Vc⊢;let β:Nat->ae Nat:=λid=>if id=d2+1 then some X.w.heap.size else X.β id;have Nq:(s.bX (some d1) [.undef]).bs[d2+1]? =some none:=qy;have bS:d2+1<s.bs.length:=(aC.1 qy).1;have hk:nk (s.bX (some d1) [.undef]) X (X.new (cs++ [Value.pointer none,Value.pointer none,Value.int .i64 0]).toArray T (.box (d2+1)) β):=Te X _ _ _ _ _ (by show(if _ then _ else _)=_;rw[if_neg (by omega)]) (λid B hB=>by show(if id=d2+1 then _ else _)=_;rw[if_neg (λe=>by rw[e,Nq] at hB;cases hB)])
 obtain⟨n1,n2⟩:=S6 X (cs++ [Value.pointer none,Value.pointer none,Value.int .i64 0]).toArray T (.box (d2+1)) β;have N1:(execOp a1.eval oX).run P X.w= .ok (.value (.pointer (some ⟨X.w.heap.size,0,none⟩))) (X.new (cs++ [Value.pointer none,Value.pointer none,Value.int .i64 0]).toArray T (.box (d2+1)) β).w:=by simp only[execOp,hoX,ax,Instr.box,UT,SW,al,aD];rfl
 refine abY hX hX1 N1 ?_;have fH:ff (X.new (cs++ [Value.pointer none,Value.pointer none,Value.int .i64 0]).toArray T (.box (d2+1)) β) (d2+1) X.w.heap.size ⟨.dC .kF ta tb,(y,(none,none),(0:Int)),[]::sZ⟩:=
  ⟨n2,⟨_,n1⟩,λ_=>⟨cs,.pointer none,.pointer none,T,n1,tF.bz (λ_ _=>hk.cf),rfl,rfl⟩⟩
 have hβd:β (d2+1)=some X.w.heap.size:=by show(if d2+1=d2+1 then _ else _)=_;rw[if_pos rfl]
 have mG:=((m9.lH hk).nI (d:=d2+1) bS Nq hβd fH).dead d2 (.pointer (some ⟨X.w.heap.size,0,none⟩));have ev2:(a1.put (some d2) (.pointer (some ⟨X.w.heap.size,0,none⟩))).eval (.tmp d2)= .pointer (some ⟨X.w.heap.size,0,none⟩):=by show(a1.put (some d2) _).tmps.getD d2 aT=_;rw[vW (show d2<a1.tmps.size by rw[Vc];exact aaF),if_pos rfl]
 generalize a1.put (some d2) (.pointer (some ⟨X.w.heap.size,0,none⟩))=a2 at mG ev2⊢;have BX:(execOp a2.eval oA).run P (X.new (cs++ [Value.pointer none,Value.pointer none,Value.int .i64 0]).toArray T (.box (d2+1)) β).w= .ok (.value (.pointer (some ⟨X.w.heap.size,0,none⟩))) (X.new (cs++ [Value.pointer none,Value.pointer none,Value.int .i64 0]).toArray T (.box (d2+1)) β).w:=by simp only[execOp,hoA,ax,ev2,aD,al]
 refine raw hA hA1 BX ?_;refine hQ (X.new _ T (.box (d2+1)) β) _ (hx.trans hk.ext) (mG.put (λd' e=> ?_) λid t p hm=> ?_)
 ·exact⟨X.w.heap.size,hβd,rfl,trivial⟩
 ·have:id=d2+1:=by have:=hm;simp at this;exact this.1
  subst this;exact⟨⟨.dC .kF ta tb,(y,(none,none),(0:Int)),[]::sZ⟩,by simp [State.cD,State.bX,Ref.dead,ay,bS]⟩
theorem aks(hE:bN P E){C:bu}(hC:C.Nat)(hf:∀f,kX P tq C f){X0:bZ}(hx:Ext X0 X)(hr:Rel tq X s a){id:Nat}{ops:Array Oper}{s':State}(h:KH E (C State) ops.toList s some=some s'){Q:Exit->Act->World->Prop}(hQ:∀Y a',Ext X0 Y->Rel tq Y s' a'->Q .normal a' Y.w):(iu id ops false).wp P Q a X.w:=by
 unfold KH at h;split at h
 case h_2=>cases h
 rename_i l oB oX oA hl;obtain⟨s1,h1,h2⟩:=rC (JF hC (F:=λs=>zN E oB oX oA s some) (G:=some) (K:=λs=>zN E oB oX oA s some) (λ_=>rfl) l s) h;have pB:=zht hl;have gU:ops.size=l.length+3:=by rw[<-eV,pB];simp
 refine wp_region ?_;have rW:cW ops.size=cW l.length++ [l.length,l.length+1,l.length+2]:=by rw[gU,fx,fx,fx,bd,bd];rfl
 rw[rW];have jx:∀j,ops[l.length+j]? =[oB,oX,oA][j]? :=λj=>by rw[<-bn,pB,bh (by omega),cg]
 have sQ:(cW l.length).map (λi=>ops.getD i default)=l:=by
  apply bV;intro i;rw[aL];by_cases hi:i<l.length
  ·have h3:ops[i]? =l[i]? :=by rw[<-bn,pB,bG hi]
   have h4:i<ops.size:=by omega
   rw[jm hi,<-h3];simp [h4]
  ·rw[aQ (by simpa using hi),aQ (by omega)];rfl
 refine zpy hE hC hf (cW l.length) X s a hr (λi hi=>by have:=bU.1 hi;omega) (by rw[sQ];exact h1) λY a' dF eQ=> ?_;exact amP hE (hx.trans dF) eQ (jx 0) (jx 1) (jx 2) h2 hQ
theorem Qj{Y:bZ}{id:Nat}{pl:Nat->List Nat->Place}{l:List SV}{v:Value}(hr:kj Y pl l v):kj Y pl (tZ id l) v:=by
 have key:∀(sv:SV) (q:List Nat->Place) (w:Value),cq Y q sv w->cq Y q (match sv with
  | .ptr j _ _=>bif ak j id then .undef else sv
  |v=>v) w:=by
  intro sv q w h;cases sv with
  |ptr j t p=>
   simp only;cases ak j id with
   |true=>trivial
   |false=>exact h
  |_=>exact h
 match l,hr with
 | [sv],hr=>exact key sv _ _ hr
 | [],hr=>exact hr
 |x::y::r,⟨vs,h1,h2,h3⟩=>refine⟨vs,h1,by simpa [tZ] using h2,λj s u hs hu=> ?_⟩;have hs:(tZ id (x::y::r))[j]? =some s:=hs;unfold tZ at hs;rw[aL] at hs;obtain⟨s0,na,rfl⟩:=av.1 hs;exact key s0 _ _ (h3 j s0 u na hu)
theorem RF{id:Nat}{l:List SV}{j:Nat}{t:Ty}{p:List Nat}(h:SV.ptr j t p∈tZ id l):SV.ptr j t p∈l/\j≠id:=by
 unfold tZ at h;obtain⟨s0,na,he⟩:=bM.1 h;cases s0 with
 |ptr j' t' p'=>
  simp only at he;cases hb:ak j' id with
  |true=>rw[hb] at he;cases he
  |false=>rw[hb] at he;cases he;exact⟨na,λe=>hJ hb e⟩
 |_=>simp only at he;cases he
theorem zz4{id:Nat}{l:List SV}{i j:Nat}{a b:Ty}(h:SV.eU i a b j∈tZ id l):SV.eU i a b j∈l/\(l=[.eU i a b j]->tZ id l=[.eU i a b j]):=by
 refine⟨?_,λe=>by rw[e];rfl⟩;unfold tZ at h;obtain⟨s0,na,he⟩:=bM.1 h;cases s0 with
 |ptr j' t' p'=>simp only at he;cases hb:ak j' id<;>rw[hb] at he<;>cases he
 |_=>simp only at he;first|(cases he;done)|(rw[<-he];exact na)
def E4(id m j g:Nat)(X:bZ)(q:Nat):Ow:=
 if q=g then .row (.b id [j]) 0 else match X.ow q with
  | .row (.b m' p) n=>if m'=m then .row (.b id (j::p)) n else .row (.b m' p) n
  |w=>w
theorem ac8{id m j g q i:Nat}(hg:∃b,X.ow g= .box b):(E4 id m j g X q).used i↔(X.ow q).used i:=by
 unfold E4;split
 ·rename_i e;obtain⟨b,hb⟩:=hg;rw[e,hb];simp [Ow.used]
 ·cases hq:X.ow q with
  |row pl n=>
   cases pl with
   |b m' p=>simp only;split<;>rfl
   |_=>rfl
  |_=>rfl
theorem ac7{id m j g q:Nat}(fL:q≠g)(h:∀p n,X.ow q≠ .row (.b m p) n):E4 id m j g X q=X.ow q:=by
 unfold E4;rw[if_neg fL];cases hq:X.ow q with
 |row pl n=>
  cases pl with
  |b m' p=>simp only;rw[if_neg (λe=>h p n (by rw[hq,e]))]
  |_=>rfl
 |_=>rfl
theorem aeo{T:TypeId}(hE:bN P E)(tv:E.pt T=true){r off:Nat}{cur:Array Value}{T':TypeId}{w:World}{v:Value}(hv:v.cells= #[v])(ho:v.oneCell'=true)(hg:w.heap[r]? =some (.cells cur T' (0,0)))(hf:off+1<=cur.size):
 (storeVar T ⟨r,off,none⟩ v).run P w= .ok () (w.setRow r (cur.toList.take off++ [v]++cur.toList.drop (off+1)).toArray):=by
 obtain⟨i,hi,hs⟩:=hE.p1 T tv;have gv:=run_storeCells_at P r off T' [v] 0 cur w hg (by simpa using hf) (λu hu=>by
  have:u=v:=by simpa using hu
  rw[this];exact ho)
 simp only[eZ] at gv;have oC:(sizeOf T).run P w= .ok 1 w:=by simp [sizeOf,typeInfo,hi,hs]
 unfold storeVar;simp only[ax,oC,al,hv];rw[if_neg (by simp)];exact gv
theorem akL{c:List Value}{p0 p1 n v:Value}{k j:Nat}(hk:c.length=k)(hj:j<2):(c++ [p0,p1,n]).take (k+j)++ [v]++(c++ [p0,p1,n]).drop (k+j+1)=c++ [if j=0 then v else p0,if j=1 then v else p1,n]:=by
 subst hk
 match j,hj with
 |0,_=>simp
 |1,_=>rw[List.take_append,List.drop_append];simp [cp];rw[List.drop_eq_nil_of_le (by omega),show c.length+1+1-c.length=2 by omega];rfl
theorem akn(hE:bN P E)(hr:Rel tq X s a){oS:Oper}{s':State}(h:se E oS s some=some s'):(oS.dst=none/\oS.guard=none)/\(∀i,s.slot i=[.undef]->s'.slot i=[.undef])/\∃Z,(execOp a.eval oS).run P X.w= .ok .skip Z.w/\Ext X Z/\Rel tq Z s' a:=by
 unfold se at h;split at h
 case h_2=>cases h
 rename_i T tx ty ho;cases vN:tC oS with
 |false=>rw[vN] at h;cases h
 |true=>
 rw[vN,cond_true] at h;have tm:oS.dst=none/\oS.guard=none:=by
  unfold tC at vN;split at vN
  ·exact⟨by assumption,by assumption⟩
  ·cases vN
 refine⟨tm,?_⟩;split at h
 case isFalse=>cases h
 rename_i tv;split at h
 case h_2=>cases h
 rename_i id ta tb j N3;have hx:=hr.slot tx;rw[N3] at hx;obtain⟨rr,hβ,hv,hj⟩:cq X (.c tx 0) (.ptr id (.dC .kF ta tb) [1,j]) (a.tmps.getD tx aT):=hx;have hv:a.tmps.getD tx aT= .pointer (some ⟨rr,ta.cells+j,none⟩):=hv;have hj:j<2:=hj;have evx:a.eval (.tmp tx)= .pointer (some ⟨rr,ta.cells+j,none⟩):=hv;obtain⟨z,own,r1,hb,h,gu,h1,how,c,p0,p1,T',cH,cY,Am,An⟩:=J0 hr h;rw[hβ] at h1;cases h1;cases pu:pa own [] with
 |false=>rw[pu] at h;cases h
 |true=>
 rw[pu,cond_true] at h;have pu:=G2 pu;have nG:=cY.len;have lD:ta.cells+j+1<=(c++ [p0,p1,Value.int .i64 z.2.2]).toArray.size:=by simp;omega
 have dD:∀v,v.cells= #[v]->v.oneCell'=true->a.eval (.tmp ty)=v->(execOp a.eval oS).run P X.w= .ok .skip (X.row rr (c++ [if j=0 then v else p0,if j=1 then v else p1,Value.int .i64 z.2.2]).toArray).w:=λv h1 h2 h3=>by have gv:=aeo (P:=P) hE tv h1 h2 cH lD;rw[akL nG hj] at gv;simp only[execOp,ho,ax,eM,evx,Instr.sureAddr,aD,al,h3,gv];rfl
 split at h
 case h_3=>cases h
 case h_2=>
  rename_i KE;cases h;have hy:=hr.slot ty;rw[KE] at hy;have hy:a.tmps.getD ty aT= .pointer none:=hy;have dD:=dD (.pointer none) rfl rfl hy;generalize pw:(c++ [if j=0 then Value.pointer none else p0,if j=1 then Value.pointer none else p1,Value.int .i64 z.2.2]).toArray=new at dD;refine⟨λi hi=>hi,X.row rr new,dD,Hi how,hr.row hb hβ how ⟨how,⟨_,setRow_heap X.w rr _ _ T' (0,0) cH⟩,λ_=> ?_⟩ (.inr pu)⟩;have hg:∀k,∀{m:ae (El tb)} {v:Value},mf X (λp=> .b id (k::p)) tb m v->mf (X.row rr new) (λp=> .b id (k::p)) tb m v:=λk m v hm=>hm.move (λ_ _=>uC how) λp _ q o n hq hw=>by
   have fL:q≠rr:=λe=>by rw[e,how] at hw;cases hw
   exact⟨(setRow_other X.w rr q _ fL).trans hq,hw⟩
  refine⟨c,if j=0 then Value.pointer none else p0,if j=1 then Value.pointer none else p1,T',?_,cY.bz (λ_ _=>uC how),?_,?_⟩
  ·rw[pw];exact setRow_heap X.w rr _ _ T' (0,0) cH
  ·match j,hj with
   |0,_=>rfl
   |1,_=>exact hg 0 Am
  ·match j,hj with
   |0,_=>exact hg 1 An
   |1,_=>rfl
 rename_i m tb' KE;split at h
 case h_2=>cases h
 rename_i B hB;split at h
 case isFalse=>cases h
 rename_i lR;cases oP:(tb'.iL tb&&(!tb.fA&&(pa B.own [2]&& !(ak id m)))) with
 |false=>rw[oP] at h;cases h
 |true=>
 rw[oP,cond_true] at h;cases h;simp only[ar,Bool.not_eq_true'] at oP;obtain⟨ht,mQ,NM,Kz⟩:=oP;have:=Ty.cS ht;subst this;have Kz:id≠m:=λe=>by rw[e] at Kz;simp at Kz
 have hbm:=yt hB;obtain⟨g,hβm,BF⟩:=hr.boxes m B hbm;obtain⟨bt,bx,bo⟩:=B;have e:=Ty.cS lR;simp only at e;subst e;obtain⟨csg,Tg,hhg,hrg,tu,hwg⟩:=BF.cells mQ;have hy:=hr.slot ty;rw[KE] at hy;obtain⟨g',hβ',hvy⟩:cq X (.c ty 0) (.ptr m bt []) (a.tmps.getD ty aT):=hy;rw[hβm] at hβ';cases hβ';have hvy:a.tmps.getD ty aT= .pointer (some ⟨g,0,none⟩):=by have:=((yq mQ).1 hvy).1;rw[this];simp [Ty.off]
 have HT:g≠rr:=λe=>by rw[e,how] at tu;injection tu with tu;exact Kz tu
 generalize pw:(c++ [if j=0 then Value.pointer (some ⟨g,0,none⟩) else p0,if j=1 then Value.pointer (some ⟨g,0,none⟩) else p1,Value.int .i64 z.2.2]).toArray=new at*;have dD:=dD (.pointer (some ⟨g,0,none⟩)) rfl rfl hvy;rw[pw] at dD;let Z:bZ:=⟨(X.row rr new).w,E4 id m j g X,X.β⟩
 have lE:∀q,q≠rr->Z.w.heap[q]? =X.w.heap[q]? :=λq hq=>setRow_other X.w rr q _ hq;have mS:∀ad v,X.cf ad v->Z.cf ad v:=λad v hs=>by
  have fL:ad.block≠rr:=λe=>by have:=hs.2.2;rw[e,how] at this;exact this
  refine⟨hs.1,?_,(ac8 ⟨m,tu⟩).2 hs.2.2⟩;have:=hs.2.1;simp only[bP] at this⊢;rw[lE _ fL];exact this
 have qB:∀q,q≠g->(∀p n,X.ow q≠ .row (.b m p) n)->Z.ow q=X.ow q:=λq h1 h2=>ac7 h1 h2;have fH:∀q b,b≠m->X.ow q= .box b->Z.ow q= .box b:=λq b hb hq=>by rw[qB q (λe=>by rw[e,tu] at hq;injection hq with hq;exact hb hq.symm) (λp n e=>by rw[hq] at e;cases e)];exact hq
 have H7:∀q pl n,X.ow q= .row pl n->(∀p,pl≠ .b m p)->Z.ow q= .row pl n:=λq pl n hq hp=>by rw[qB q (λe=>by rw[e,tu] at hq;cases hq) (λp n' e=>by rw[hq] at e;injection e with e _;exact hp p e)];exact hq
 have Nl:∀{pl:Place} {e:TypeId} {k n:Nat} {v:Value},(∀p,pl≠ .b m p)->eO X pl e k n v->eO Z pl e k n v:=λhp ho=>by
  rcases ho with ho|⟨q,cap,cur,k1,k2,k3,k4,k5,k6⟩
  ·exact .inl ho
  ·exact .inr ⟨q,cap,cur,k1,(lE q (λe=>by rw[e,how] at k6;cases k6)).trans k2,k3,k4,k5,H7 q _ _ k6 hp⟩
 have Gn:∀k,∀{x:ae (El bt)} {v:Value},mf X (λp=> .b id (k::p)) bt x v->mf Z (λp=> .b id (k::p)) bt x v:=λk x v hm=>hm.move mS λp _ q o n hq hw=>⟨(lE q (λe=>by rw[e,how] at hw;cases hw)).trans hq,H7 q _ _ hw (λp' e=>by injection e with e _;exact Kz e)⟩
 have jH:mf Z (λp=> .b id (j::p)) bt (some bx) (.pointer (some ⟨g,0,none⟩)):=by
  refine⟨g,csg,Tg,rfl,(lE g HT).trans hhg,by show E4 id m j g X g=_;simp [E4],hrg.bz mS,λp hp=> ?_⟩;have:p=[2]:=by simpa [Hp] using hp
  subst this;obtain⟨e,t',xs,v,g0,g1,g2,g3⟩:=hwg [2] (G2 NM);refine⟨e,t',xs,v,g0,g1,g2,?_⟩;rcases g3 with g3|⟨q,cap,cur,k1,k2,k3,k4,k5,k6⟩
  ·exact .inl g3
  ·refine .inr ⟨q,cap,cur,k1,(lE q (λe=>by rw[e,how] at k6;cases k6)).trans k2,k3,k4,k5,?_⟩;show E4 id m j g X q=_;unfold E4;rw[if_neg (λe=>by rw[e,tu] at k6;cases k6),k6];simp
 have HU:pH Z rr (.b id) ta bt (z.1,n3 j (some bx) z.2.1,z.2.2):=by
  refine⟨c,if j=0 then Value.pointer (some ⟨g,0,none⟩) else p0,if j=1 then Value.pointer (some ⟨g,0,none⟩) else p1,T',?_,cY.bz mS,?_,?_⟩
  ·rw[pw];exact setRow_heap X.w rr _ _ T' (0,0) cH
  ·match j,hj,jH with
   |0,_,jH=>exact jH
   |1,_,_=>exact Gn 0 Am
  ·match j,hj,jH with
   |0,_,_=>exact Gn 1 An
   |1,_,jH=>exact jH
 have NQ:=hr.wP hb (.inr pu);have NR:=hr.wP hbm (.inl (T9 mQ));have dF:Ext X Z:=⟨mS,by show X.w.heap.size<=(X.row rr new).w.heap.size;simp [bZ.row],rfl,rfl,rfl,rfl,λq hq gv=>⟨qB q (λe=>by rw[e,tu] at gv;exact gv) (λp n e=>by rw[e] at gv;exact gv),lE q (λe=>by rw[e,how] at gv;exact gv)⟩⟩
 have NA:id<s.bs.length:=(aC.1 hb).1;refine⟨λi hi=> ?_,Z,dD,dF,by simpa [vu] using hr.size,by simpa [vu] using hr.pc,λi l v hl hx=> ?_,λdP B' mW=> ?_,λi l dP t p hl hm=> ?_,hr.defers,hr.eU.less (λi l zJ c2 d2 k hl hm=> ?_) (λzJ c2 d2 x2 sr hex ub ho2=> ?_),hr.j8.ext dF⟩
 ·by_cases bS:i<s.sl.length
  ·have:=yw bS;rw[hi] at this;simp [vu,State.slot,this,tZ]
  ·simp [vu,State.slot,aQ (Nat.le_of_not_lt bS)]
 ·replace hl:(s.sl.map (tZ m))[i]? =some l:=hl;rw[aL] at hl;obtain⟨l0,h0,rfl⟩:=av.1 hl;refine Qj ((hr.gn i l0 v h0 hx).ql λk sv u hk hu=> ?_);cases sv with
  |undef=>trivial
  |skip=>exact hu
  |jJ=>exact hu
  |m5=>exact hu
  |over=>exact hu
  |b8 t x own=>obtain⟨cs,q1,q2,q3⟩:=hu;refine⟨cs,q1.bz mS,q2,λp hp=> ?_⟩;obtain⟨e,t',xs,v,g0,g1,g2,g3⟩:=q3 p hp;exact⟨e,t',xs,v,g0,g1,g2,Nl (λp' e=>by cases e) g3⟩
  |ptr dP t p=>exact hu
  |view t x=>obtain⟨ad,cs,q1,q2,q3,q4⟩:=hu;exact⟨ad,cs,q1,q2,q3.bz mS,λi u hi=>mS _ _ (q4 i u hi)⟩
  |cap f t x u y=>exact Aa mS hu
  |eU dP c' d' n=>obtain⟨r',q1,q2,q3⟩:=hu;have fL:dP≠id:=λe=>NQ i l0 c' d' n h0 (e▸aN hk);have hnm:dP≠m:=λe=>NR i l0 c' d' n h0 (e▸aN hk);refine⟨r',q1,fH r' dP hnm q2,?_⟩;simp only[bP] at q3⊢;rw[lE r' (λe=>by rw[e,how] at q2;injection q2 with q2;exact fL q2.symm)];exact q3
 ·replace mW:((s.bs.set m none).set id (some ⟨.dC .kF ta bt,(z.1,n3 j (some bx) z.2.1,z.2.2),own⟩))[dP]? =some (some B'):=mW;rw[ay] at mW;by_cases e1:id=dP
  ·subst e1;rw[if_pos rfl,if_pos (by simpa using NA)] at mW;cases mW;exact⟨rr,hβ,fH rr id Kz how,⟨_,setRow_heap X.w rr _ _ T' (0,0) cH⟩,λ_=>HU⟩
  ·rw[if_neg e1,ay] at mW;by_cases e2:m=dP
   ·rw[if_pos e2] at mW;split at mW<;>cases mW
   ·rw[if_neg e2] at mW;obtain⟨r',q1,q2,q3⟩:=hr.boxes dP B' mW;have fL:r'≠rr:=λe=>by rw[e,how] at q2;injection q2 with q2;exact e1 q2
    exact⟨r',q1,fH r' dP (λe=>e2 e.symm) q2,q3.move mS (lE r' fL) (λcs ho p hp=>by obtain⟨e,t',xs,v,g0,g1,g2,g3⟩:=ho p hp;exact⟨e,t',xs,v,g0,g1,g2,Nl (λp' e=>by injection e with e _;exact e2 e.symm) g3⟩) λp _ q o n hq hw=>⟨(lE q (λe=>by rw[e,how] at hw;cases hw)).trans hq,H7 q _ _ hw (λp' e=>by injection e with e _;exact e2 e.symm)⟩⟩
 ·replace hl:(s.sl.map (tZ m))[i]? =some l:=hl;rw[aL] at hl;obtain⟨l0,h0,rfl⟩:=av.1 hl;obtain⟨hm,fL⟩:=RF hm;obtain⟨B2,kQ⟩:=hr.live i l0 dP t p h0 hm;show∃B,((s.bs.set m none).set id (some ⟨.dC .kF ta bt,(z.1,n3 j (some bx) z.2.1,z.2.2),own⟩))[dP]? =some (some B);rw[ay];by_cases e1:id=dP
  ·rw[if_pos e1,if_pos (by simpa using NA)];exact⟨_,rfl⟩
  ·rw[if_neg e1,ay,if_neg (λe=>fL e.symm)];exact⟨B2,kQ⟩
 ·replace hl:(s.sl.map (tZ m))[i]? =some l:=hl;rw[aL] at hl;obtain⟨l0,h0,rfl⟩:=av.1 hl;obtain⟨g1,g2⟩:=zz4 hm;exact⟨l0,h0,g1,g2⟩
 ·obtain⟨i,l,k,hl,hm⟩:=hex;replace hl:(s.sl.map (tZ m))[i]? =some l:=hl;rw[aL] at hl;obtain⟨l0,h0,rfl⟩:=av.1 hl;obtain⟨g1,_⟩:=zz4 hm;refine⟨x2,sr,?_,ho2⟩;show((s.bs.set m none).set id (some ⟨.dC .kF ta bt,(z.1,n3 j (some bx) z.2.1,z.2.2),own⟩))[zJ]? =_;rw[ay,if_neg (show¬id=zJ from λe=>NQ i l0 c2 d2 k h0 (by rw[e];exact g1)),ay,if_neg (show¬m=zJ from λe=>NR i l0 c2 d2 k h0 (by rw[e];exact g1))];exact ub
theorem zu1{α:Type}:∀{l r:List α} {x:α},Y2 l=some (r,x)->l=r++ [x]
 | [],_,_,h=>by cases h
 | [a],_,_,h=>by cases h;rfl
 |a::b::r,_,_,h=>by
  simp only[Y2] at h;split at h
  case h_2=>cases h
  rename_i l x hl;cases h;have:=zu1 (l:=b::r) hl;rw[this];rfl
theorem PI{n:Nat}{listed:Array Bool}(hs:n<=listed.size){i:Nat}{p q:List Nat}(h:rest n listed=p++i::q):rest n (listed.setIfInBounds i true)=p++q:=by
 have vN:(rest n listed).Nodup:=List.nodup_range.filter _;rw[h] at vN;rw[<-ztl vN,<-h];simp only[rest,List.filter_filter];refine jL λj hj=> ?_;have hjn:=bU.1 hj;by_cases e:j=i
 ·subst e;have:(listed.setIfInBounds j true).getD j true=true:=by
   have:j<listed.size:=by omega
   simp [aZ,this]
  rw[this];simp
 ·have h1:(listed.setIfInBounds i true).getD j true=listed.getD j true:=by simp only[aZ];rw[dk (λh=>e h.symm)]
  have h2:ak j i=false:=by
   cases hh:ak j i with
   |false=>rfl
   |true=>exact absurd (aE hh) e
  rw[h1,h2];simp
theorem aed{n:Nat}{listed:Array Bool}{i:Nat}(h:n<=i):rest n (listed.setIfInBounds i true)=rest n listed:=by simp only[rest];refine jL λj hj=> ?_;have hjn:=bU.1 hj;simp only[aZ];rw[dk (by omega)]
theorem PJ{n:Nat}{listed:Array Bool}(hs:listed.size=n+1):rest (n+1) listed=rest n listed++(if listed.getD n true=true then [] else [n]):=by
 simp only[rest,fx,List.filter_append];congr 1;cases h:listed.getD n true with
 |false=>rw[if_neg (by simp)];simp only[dQ,h,Bool.not_false,if_true,List.filter_nil]
 |true=>rw[if_pos rfl];simp only[dQ,h,Bool.not_true,cI,if_false,List.filter_nil]
theorem zu7{ops:Array Oper}(ud:∀k,k<ops.size->bC (CE ops k+1) (bit k)=true){listed:Array Bool}(hs:listed.size=ops.size)(hr:eh .any ops listed=[]):rest ops.size listed=[]:=by
 rcases hl:rest ops.size listed with _|⟨i,r⟩
 ·rfl
 have jH:i∈rest ops.size listed:=by rw[hl];simp
 have lS:=bU.1 (bc.1 jH).1;have rX:i∈eh .any ops listed:=by
  refine QO jH λe he hb=> ?_;have bS:e.on<i:=zzy (ud i lS) (zgq _ e he hb);cases hx:listed.getD e.on false with
  |true=>rfl
  |false=>
   exfalso;have ou:e.on<listed.size:=by omega
   have Gz:listed.getD e.on true=false:=by simp only[aZ,bf ou,c8] at hx⊢;exact hx
   have hm:e.on∈rest ops.size listed:=bc.2 ⟨bU.2 (by omega),by rw[Gz];rfl⟩;have pT:(rest ops.size listed).Pairwise (· < ·):=List.pairwise_lt_range.filter _;rw[hl] at pT hm;rcases aH.1 hm with e1|hm
   ·omega
   ·have:=(bF.1 pT).1 _ hm;omega
 rw[hr] at rX;cases rX
theorem ac1{o:Oper}{t j:Nat}(ho:o.op= .extract (.tmp t) j){vs:Array Value}(hv:a.tmps.getD t aT= .tuple vs){v:Value}(hj:vs[j]? =some v)(w:World):(execOp a.eval o).run P w= .ok (.value v) w:=by have ev:a.eval (.tmp t)= .tuple vs:=hv;simp [execOp,ho,ev,Instr.extract,hj]
structure LC(E:Env)(C:bu)(ops:Array Oper)(n k t j d:Nat)(oS oD:Oper)(s1 s':State):Prop where
 size:ops.size=n+1
 last:ops[n]? =some oS
 Ng:ops[k]? =some oD
 kn:k<n
 ext:oD.op= .extract (.tmp t) j
 dst:isDst oD d=true
 aaM:bC (zx oS.after.toList+1) (bit n)=true
 mask:qK ops.toList n (zx oS.after.toList)|||bit k=bit n-1
 low:∀i,i<n->bC (CE ops i+1) (bit i)=true
 len:j<(s1.slot t).length
 tup:(s1.slot t).length≠1
 link:se E oS (s1.bX (some d) [.undef]) some=some s'
theorem ahk{m n k i:Nat}(h:m|||bit k=bit n-1)(hi:i<n)(hk:i≠k):m.testBit i=true:=by
 have h1:(m|||bit k).testBit i=true:=by rw[h];simp only[bit,iK,cm];rw[Nat.testBit_two_pow_sub_one];simpa using hi
 rw[dX] at h1;have h2:(bit k).testBit i=false:=by simp only[bit,iK,cm];rw[dM];simp;omega
 rw[h2,Bool.or_false] at h1;exact h1
theorem aek(c:List (Nat×Nat)):∀(s:State) (t:Nat),((s.close c).slot t).length=(s.slot t).length:=by
 induction c with
 |nil=>intro s t;rfl
 |cons x r ih=>
  intro s t;obtain⟨i,j⟩:=x;rw[Ju,ih];simp only[State.ic,State.slot,aq,ay];by_cases e:i=t
  ·subst e;by_cases bS:i<s.sl.length
   ·rw[if_pos rfl,if_pos bS,au bS];simp [z7n]
   ·rw[if_pos rfl,if_neg bS,aQ (by omega)]
  ·rw[if_neg e]
theorem agw{s:State}{d:Nat}(h:s.slot d=[.undef]):s.bX (some d) [.undef]=s:=by
 simp only[State.bX];have:s.sl.set d [.undef]=s.sl:=by
  apply bV;intro i;rw[ay];by_cases e:d=i
  ·subst e;by_cases bS:d<s.sl.length
   ·rw[if_pos rfl,if_pos bS,yw bS,h]
   ·rw[if_pos rfl,if_neg bS,aQ (by omega)]
  ·rw[if_neg e]
 rw[this]
theorem ael(s:State)(d:Nat):(s.bX (some d) [.undef]).slot d=[.undef]:=by
 simp only[State.slot,State.bX,aq,ay];by_cases bS:d<s.sl.length
 ·simp [bS]
 ·simp [bS]
theorem ac0{C:bu}{ops:List Oper}{o:Oper}{t j:Nat}(ho:o.op= .extract (.tmp t) j){u:Out}(h:act E (C Out) ops o s some=some u):u.bx=none/\u.v.length=1:=by
 unfold act at h;simp only[ho] at h;split at h
 ·split at h
  ·cases h;exact⟨rfl,rfl⟩
  ·cases h
 ·split at h<;>cases h<;>exact⟨rfl,rfl⟩
theorem amO(hE:bN P E){C:bu}(hC:C.Nat)(hf:∀f,kX P tq C f){ops:Array Oper}{n k t j d:Nat}{oS oD:Oper}{s1 s':State}(H:LC E C ops n k t j d oS oD s1 s'){Q:Exit->Act->World->Prop}:
 ∀(iM:Nat) (listed:Array Bool) (X:bZ) (s:State) (a:Act) (tr:List mK),Rel tq X s a->Br ops listed->listed.size=n+1->listed.getD n true=false->iM=(rest n listed).length+1->wE E C ops (rest n listed) s tr s1->tr.Pairwise (Db ops)->
  (∀Y a',Ext X Y->Rel tq Y s' a'->Q .normal a' Y.w)->wpAny P .any ops Q iM listed a X.w:=by
 have hgS:ops.getD n default=oS:=by have:=H.last;simp only[aZ,this,c8]
 have hgD:ops.getD k default=oD:=by have:=H.Ng;simp only[aZ,this,c8]
 have ud:∀i,i<ops.size->bC (CE ops i+1) (bit i)=true:=λi hi=>by
  rcases eg i n with h|h
  ·exact H.low i h
  ·have:i=n:=by have:=H.size;omega
   subst this;unfold CE;rw[hgS];exact H.aaM
 intro iM
 induction iM with
 |zero=>intro listed X s a tr hr nG hs hn vM;omega
 |succ iM ih=>
  intro listed X s a tr hr nG hs hn vM mC CL hQ;have hrs:rest ops.size listed=rest n listed++ [n]:=by rw[H.size,PJ hs,if_neg (by rw[hn];simp)]
  refine⟨λpR=> ?_,λi hi=> ?_⟩
  ·have:=zu7 ud (by rw[hs,H.size]) pR;rw[hrs] at this;simp at this
  ·obtain⟨NL,zE⟩:=KY hi;have jH:=NL;rw[hrs] at jH;rcases aR.1 jH with jH|jH
   ·obtain⟨p,q,Ef⟩:=QT jH;have lS:=bU.1 (bc.1 jH).1;rw[Ef] at mC;have uf:=Jn mC;obtain⟨tp,f,tq,u,e1,e2,k1,k2,k3⟩:=zq1 p s tr mC (λtp f tq e hl a' Ge=>by
     have BJ:f.i=i:=by rw[e,cz,bq] at uf;have:=jc uf (by simp [hl]);injection this.2
     have haj:a'.i∈p:=by rw[e,cz,bq] at uf;have:=jc uf (by simp [hl]);rw[<-this.1];exact bM.2 ⟨a',Ge,rfl⟩
     rw[e] at CL;have BL:=(cG.1 CL).2.2 a' Ge f (by simp);rcases BL with hb|hb
     ·exfalso;rw[BJ] at hb;obtain nP:=Vx nG _ _ (λq hq=>by obtain⟨ed,D7,D8,Nw⟩:=Jt _ _ hq;have:=zE ed D7 D8;rw[Nw] at this;exact this) a'.i hb
      have fy:a'.i∈rest n listed:=by rw[Ef];exact dm _ haj
      have mJ:=(bc.1 fy).2;have bS:=bU.1 (bc.1 fy).1;have ou:a'.i<listed.size:=by omega
      simp only[aZ,bf ou,c8] at nP mJ;rw[nP] at mJ;cases mJ
     ·exact hb)
    have fy:=PI (n:=n) (by omega) Ef;have hio:ops[i]? =some (ops.getD i default):=by
     have:i<ops.size:=by rw[H.size];omega
     simp [this]
    refine Za hE hr hC hf hio (znz hC k1) λY a' dF eQ=> ?_;refine ih (listed.setIfInBounds i true) Y _ a' (tp++tq) eQ (QR nG λq hq=>by obtain⟨ed,g1,g2,g3⟩:=Jt _ _ hq;have:=zE ed g1 g2;rw[g3] at this;exact this) (by simp [hs]) ?_ ?_ (by rw[fy];exact k3) ?_ (λZ a2 ia lh=>hQ Z a2 (dF.trans ia) lh)
    ·simp only[aZ] at hn⊢;rw[dk (by omega)];exact hn
    ·rw[fy];rw[Ef] at vM;simp only[aJ,aF] at vM⊢;omega
    ·rw[e1] at CL;obtain⟨a1,a2,a3⟩:=cG.1 CL;exact cG.2 ⟨a1,(bF.1 a2).2,λx hx y hy=>a3 x hx y (aG _ hy)⟩
   ·have lS:i=n:=by simpa using jH
    subst lS;have kG:∀q∈rest i listed,q=k:=λq hq=>by
     obtain⟨h1,h2⟩:=bc.1 hq;have hqn:=bU.1 h1;by_cases e:q=k
     ·exact e
     ·exfalso;have nP:=Vx nG _ _ (λq hq=>by obtain⟨ed,D7,D8,Nw⟩:=Jt _ _ hq;have:=zE ed (by rw[hgS];exact D7) D8;rw[Nw] at this;exact this) q (ahk H.mask hqn e)
      have ou:q<listed.size:=by omega
      simp only[aZ,bf ou,c8] at nP h2;rw[nP] at h2;cases h2
    have vN:(rest i listed).Nodup:=List.nodup_range.filter _;have fy:rest i listed=[]\/rest i listed=[k]:=by
     match hl:rest i listed,kG,vN with
     | [],_,_=>exact .inl rfl
     | [q],kG,_=>exact .inr (by rw[kG q (by simp)])
     |q::q'::r,kG,vN=>have h1:=kG q (by simp);have h2:=kG q' (by simp);have:=(List.nodup_cons.1 vN).1;rw[h1,h2] at this;simp at this
    have NT:Rel tq X (s1.bX (some d) [.undef]) a/\(rest i listed=[k]->d≠t/\(s1.slot t).length=(s.slot t).length):=by
     rcases fy with fy|fy
     ·rw[fy] at mC;obtain⟨rfl,_⟩:=mC;exact⟨hr.kill d,λe=>by rw[fy] at e;cases e⟩
     ·rw[fy] at mC
      match tr,mC with
      | [],mC=>exact mC.elim
      |f::tr,⟨u,h1,_,h3,_⟩=>
       rw[hgD] at h1 h3;have Nu:oD.dst=some d/\oD.guard=none:=by
        have:=H.dst;unfold isDst at this;split at this
        ·rename_i d' h1 h2;exact⟨by rw[h1,aE this],h2⟩
        ·cases this
       unfold ni at h1;rw[Nu.2] at h1;obtain⟨hbx,hvl⟩:=ac0 H.ext h1;rw[Nu.1] at h3;have e:s1=(s.close u.cl).bX (some d) u.v:=by rw[<-h3];unfold State.apply;rw[hbx];rfl
       have Nv:d≠t:=λe2=>by
        have h5:=H.tup;have h6:=H.len;rw[e,e2] at h5 h6;simp only[State.slot,State.bX,aq,ay] at h5 h6;by_cases bS:t<(s.close u.cl).sl.length
        ·simp [bS] at h5;omega
        ·simp [bS] at h5
       refine⟨?_,λ_=>⟨Nv,?_⟩⟩
       ·have e3:s1.bX (some d) [.undef]=(s.close u.cl).bX (some d) [.undef]:=by rw[e];simp only[State.bX,l5]
        rw[e3];exact(hr.close u.cl).kill d
       ·rw[e,<-aek u.cl s t];simp only[State.slot,State.bX,aq,ay];rw[if_neg Nv]
    obtain⟨lh,NE⟩:=NT;obtain⟨tm,aaH,Z,dD,dF,Gs⟩:=akn hE lh H.link;have hud:=aaH d (ael s1 d);unfold wpOp;simp only[H.last];have hw:cr oS (yielded ops a.tmps)=true:=by simp [cr,tm.2]
    rw[if_pos hw];refine .inl ?_;unfold gN;rw[dD,jw,tm.1];show wpAny P .any ops Q iM (listed.setIfInBounds i true) a Z.w;have H8:(listed.setIfInBounds i true).size=i+1:=by simpa using hs
    have nH:(listed.setIfInBounds i true).getD i true=true:=by
     have:i<listed.size:=by omega
     simp [aZ,this]
    have Eg:rest ops.size (listed.setIfInBounds i true)=rest i listed:=by rw[H.size,PJ H8,if_pos nH,List.append_nil,aed (bg _)]
    rcases fy with fy|fy
    ·have:iM=0:=by rw[fy] at vM;simpa using vM
     subst this;refine⟨?_,hQ Z a dF Gs⟩;rcases NU:eh .any ops (listed.setIfInBounds i true) with _|⟨q,r⟩
     ·rfl
     ·have:=(KY (i:=q) (by rw[NU];simp)).1;rw[Eg,fy] at this;cases this
    ·have:iM=1:=by rw[fy] at vM;simpa using vM
     subst this;refine⟨λpR=> ?_,λq hq=> ?_⟩
     ·have:=zu7 ud (by rw[H8,H.size]) pR;rw[Eg,fy] at this;cases this
     ·have U4:=(KY hq).1;rw[Eg,fy] at U4;have U4:q=k:=by simpa using U4
      subst U4;obtain⟨Nv,hlen⟩:=NE fy;have Nu:oD.dst=some d/\oD.guard=none:=by
       have:=H.dst;unfold isDst at this;split at this
       ·rename_i d' h1 h2;exact⟨by rw[h1,aE this],h2⟩
       ·cases this
      have H9:∃vs:Array Value,a.tmps.getD t aT= .tuple vs/\vs.size=(s.slot t).length:=by
       have pS:=hr.slot t;have h5:=H.tup;rw[hlen] at h5
       match hq:s.slot t,pS,h5 with
       | [],⟨vs,g1,g2,_⟩,_=>exact⟨vs,g1,by rw[g2]⟩
       | [x],_,h5=>simp at h5
       |x::y::r,⟨vs,g1,g2,_⟩,_=>exact⟨vs,g1,by rw[g2]⟩
      obtain⟨vs,hv,Eh⟩:=H9;have BM:j<vs.size:=by rw[Eh,<-hlen];exact H.len
      have N0:=ac1 (P:=P) H.ext hv (bf BM) Z.w;unfold wpOp;simp only[H.Ng];have hw:cr oD (yielded ops a.tmps)=true:=by simp [cr,Nu.2]
      rw[if_pos hw];refine .inl ?_;unfold gN;rw[N0,jg,Nu.1];have HQ:Rel tq Z s' (a.put (some d) vs[j]):=by have:=Gs.dead d vs[j];rw[Ref.dead,agw hud] at this;exact this
      refine⟨?_,hQ Z _ dF HQ⟩;have hkn:=H.kn;have aaB:rest ops.size ((listed.setIfInBounds i true).setIfInBounds q true)=[]:=by have:=PI (n:=ops.size) (listed:=listed.setIfInBounds i true) (i:=q) (p:=[]) (q:=[]) (by rw[H8,H.size];exact bg _) (by rw[Eg,fy];rfl);simpa using this
      rcases NU:eh .any ops ((listed.setIfInBounds i true).setIfInBounds q true) with _|⟨z,r⟩
      ·rfl
      ·have:=(KY (i:=z) (by rw[NU];simp)).1;rw[aaB] at this;cases this
theorem agV(hE:bN P E)(hm:P.follows .mixedOrders=true){C:bu}(hC:C.Nat)(hf:∀f,kX P tq C f){X0:bZ}(hx:Ext X0 X)(hr:Rel tq X s a){id k:Nat}{ops:Array Oper}{s':State}(h:zM E (C State) k ops.toList s some=some s'){Q:Exit->Act->World->Prop}(hQ:∀Y a',Ext X0 Y->Rel tq Y s' a'->Q .normal a' Y.w):(iu id ops true).wp P Q a X.w:=by
 unfold zM at h;split at h
 case h_2=>cases h
 rename_i l oS hl;split at h
 case h_2=>cases h
 rename_i oD hoD;split at h
 case h_2=>cases h
 rename_i t j d dF aoq;cases oP:(isDst oD d&&(bC (k+1) l.length&&(bC (zx oS.after.toList+1) (bit l.length)&&ak (qK ops.toList l.length (zx oS.after.toList)|||bit k) (bit l.length-1)))) with
 |false=>rw[oP] at h;cases h
 |true=>
 rw[oP,cond_true] at h;simp only[ar] at oP;obtain⟨hd,hkl,NK,BQ⟩:=oP;have hkl:k<l.length:=b7 hkl;have BQ:=aE BQ;obtain⟨s1,h1,h2⟩:=rC (SY hC (F:=λs=>bif bC (j+1) (s.slot t).length&& !(ak (s.slot t).length 1) then se E oS (s.bX (some d) [.undef]) some else none) (G:=some) (K:=λs=>bif bC (j+1) (s.slot t).length&& !(ak (s.slot t).length 1) then se E oS (s.bX (some d) [.undef]) some else none) (λ_=>rfl) l 0 s []) h;cases hlen:(bC (j+1) (s1.slot t).length&& !(ak (s1.slot t).length 1)) with
 |false=>simp only[hlen] at h2;cases h2
 |true=>
 simp only[hlen,cond_true] at h2;rw[ar] at hlen;have pB:=zu1 hl;have gU:ops.size=l.length+1:=by rw[<-eV,pB];simp
 have vf:ops[l.length]? =some oS:=by rw[<-bn,pB,bh (bg _),Nat.sub_self];rfl
 have sQ:(cW l.length).map (λi=>ops.getD i default)=l:=by
  apply bV;intro i;rw[aL];by_cases hi:i<l.length
  ·have h3:ops[i]? =l[i]? :=by rw[<-bn,pB,bG hi]
   have h4:i<ops.size:=by omega
   rw[jm hi,<-h3];simp [h4]
  ·rw[aQ (by simpa using hi),aQ (by omega)];rfl
 obtain⟨EI,r1,_,r3,r4⟩:=zar hC (cW l.length) 0 s [] (λj k hj=>by obtain⟨g1,g2⟩:=aC.1 hj;simp at g2;omega) (by rw[sQ];exact h1)
 have H:LC E C ops l.length k t j d oS oD s1 s':=⟨gU,vf,by rw[<-bn];exact hoD,hkl,dF,hd,NK,BQ,λi hi=>r4 i (bU.2 hi),b7 hlen.1,λe=>by rw[e] at hlen;simp at hlen,h2⟩
 have hk:nk s X {X with w:={X.w with drawn:=X.w.drawn+1}}:=⟨bg _,rfl,rfl,rfl,λg _=>⟨rfl,rfl⟩,rfl,λ_ _ _=>rfl⟩
 have fy:rest l.length (gC ops.size false)=cW l.length:=by
  refine dK.2 λi hi=> ?_;have:=bU.1 hi;have h2:i<ops.size:=by omega
  simp [h2]
 refine wp_region_any hm ?_;have vM:ops.size=(rest l.length (gC ops.size false)).length+1:=by rw[fy,gU];simp
 exact amO hE hC hf H ops.size (gC ops.size false) _ s a EI (hr.lH hk) (λi hi=>by by_cases h:i<ops.size<;>simp [h] at hi) (by simp [gU]) (by simp [gU]) vM (by rw[fy];exact r1) r3 (λY a' dF eQ=>hQ Y a' (hx.trans (hk.ext.trans dF)) eQ)
end Go.Ref

namespace Go.Ref
open Go
variable {P:Program} {tq:n4} {E:Env} {X:bZ} {s:State} {a:Act}
def Ex.exit':Ex->Exit
 | .normal=> .normal
 | .exit id=> .exit id
 | .ret=> .ret
theorem ahS{Q:Exit->Act->World->Prop}{c:Code}(I:Nat->Act->World->Prop)(round:∀n a w,I n a w->∃m,n=m+1/\c.wp P (Exit.then (I m) Q) a w){n:Nat}{a:Act}{w:World}(h₀:I n a w):(Code.loop c).wp P Q a w:=by
 intro b k cs;have key:∀n a w,I n a w->∃e a' w',Q e a' w'/\Arrives P (lone (b.at a (.code c:: .inLoop c::k)) cs w) b k cs e a' w':=by
  intro n
  induction n with
  |zero=>intro a w h;obtain⟨m,hm,_⟩:=round 0 a w h;cases hm
  |succ n ih=>
   intro a w h;obtain⟨m,hm,hr⟩:=round (n+1) a w h;cases hm;obtain⟨e,a₁,w₁,hq,u7⟩:=hr b (.inLoop c::k) cs;cases e with
   |normal=>obtain⟨e₂,a₂,w₂,hq₂,harr₂⟩:=ih a₁ w₁ hq;exact⟨e₂,a₂,w₂,hq₂,.of_steps (Steps.trans u7 (.one step_inLoop)) harr₂⟩
   |exit id=>exact⟨_,a₁,w₁,hq,.pass (x:= .inLoop c) rfl (λ_ _=> .inl (by simp)) u7⟩
   |goto l=>exact⟨_,a₁,w₁,hq,.pass (x:= .inLoop c) rfl (λ_ _=> .inl (by simp)) u7⟩
   |ret=>exact⟨_,a₁,w₁,hq,.pass (x:= .inLoop c) rfl (λ_ _=> .inl (by simp)) u7⟩
   |panic ch=>exact⟨_,a₁,w₁,hq,.pass (x:= .inLoop c) rfl (λ_ _=> .inl (by simp)) u7⟩
   |outgrown=>exact⟨_,a₁,w₁,hq,.pass (x:= .inLoop c) rfl (λ_ _=> .inl (by simp)) u7⟩
 obtain⟨e,a',w',hq,u7⟩:=key n a w h₀;exact⟨e,a',w',hq,.of_steps (.one step_loop) u7⟩
theorem JA{α:Type}(z:α)(l:List Nat):∀(xs:List α) (i j:Nat),(oE z l i xs)[j]? =(xs[j]?).map λx=>bif l.any (ak (i+j)) then x else z
 | [],i,j=>by simp [oE]
 |x::r,i,0=>by simp [oE]
 |x::r,i,j+1=>by simp only[oE,bH];rw[JA z l r (i+1) j,show i+1+j=i+(j+1) by omega]
theorem zhs{α:Type}(z:α)(l:List Nat):∀(xs:List α) (i:Nat),(oE z l i xs).length=xs.length
 | [],i=>rfl
 |x::r,i=>by simp [oE,zhs z l r]
theorem z160{p q:List Nat}:∀{l:List (List Nat)},q∈B7 p l->q=p\/q∈l
 | [],h=>by simp [B7] at h;exact .inl h
 |r::l,h=>by
  simp only[B7] at h;cases hl:ltL r p with
  |false=>rw[hl] at h;simpa using h
  |true=>
   rw[hl] at h;rcases aH.1 h with h|h
   ·exact .inr (by simp [h])
   ·rcases z160 h with h|h
    ·exact .inl h
    ·exact .inr (aG _ h)
theorem VV{q:List Nat}:∀{l:List (List Nat)},q∈vA l->q∈l
 | [],h=>h
 |p::l,h=>by
  rcases z160 h with h|h
  ·simp [h]
  ·exact aG _ (VV h)
theorem akA{v:SV}{id:Nat}{t:Ty}{p:List Nat}(h:v.norm= .ptr id t p):v= .ptr id t p:=by cases v<;>simp [SV.norm] at h;obtain⟨h1,h2,h3⟩:=h;rw[h1,h2,h3]
theorem cq.norm{pl:List Nat->Place}{sv:SV}{v:Value}(hr:cq X pl sv v):cq X pl sv.norm v:=by
 cases sv with
 |b8 t x own=>obtain⟨cs,h1,h2,h3⟩:=hr;exact⟨cs,h1,h2,λp hp=>h3 p (VV hp)⟩
 |_=>exact hr
theorem kj.norm{pl:Nat->List Nat->Place}{l:List SV}{v:Value}(hr:kj X pl l v):kj X pl (l.map SV.norm) v:=by
 match l,hr with
 | [s],hr=>exact cq.norm hr
 | [],hr=>exact hr
 |x::y::r,⟨vs,h1,h2,h3⟩=>refine⟨vs,h1,by simpa using h2,λj s u hs hu=> ?_⟩;have hs:((x::y::r).map SV.norm)[j]? =some s:=hs;rw[aL] at hs;obtain⟨s0,na,rfl⟩:=av.1 hs;exact cq.norm (h3 j s0 u na hu)
theorem me.less{r:Nat}{pl:List Nat->Place}{t:Ty}{x:El t}{own re:List (List Nat)}(ho:∀p∈re,p∈own)(h:me X r pl t x own):me X r pl t x re:=by
 unfold me at h⊢;split at h
 ·exact h
 ·exact h
 ·exact h
 ·exact⟨h.1,λhm=>h.2 (ho [] hm)⟩
 ·exact⟨h.1,λhp=>h.2 λp hm=>ho p (hp p hm)⟩
 ·exact h.elim
 ·obtain⟨cs,T,h1,h2,h3⟩:=h;exact⟨cs,T,h1,h2,λp hp=>h3 p (ho p hp)⟩
theorem Rel.norm(hr:Rel tq X s a):Rel tq X s.norm a where
 size:=by simpa [State.norm] using hr.size
 pc:=by simpa [State.norm] using hr.pc
 gn:=λi l v hl hv=>by simp only[State.norm,aL] at hl;obtain⟨l0,h0,rfl⟩:=av.1 hl;exact kj.norm (hr.gn i l0 v h0 hv)
 boxes:=λid B hB=>by simp only[State.norm,aL] at hB;obtain⟨b0,h0,h1⟩:=av.1 hB;obtain⟨B0,rfl,rfl⟩:=av.1 h1;obtain⟨r,g1,g2,g3⟩:=hr.boxes id B0 h0;exact⟨r,g1,g2,g3.less λp hp=>VV hp⟩
 live:=λi l id t p hl hm=>by simp only[State.norm,aL] at hl;obtain⟨l0,h0,rfl⟩:=av.1 hl;obtain⟨v0,U8,he⟩:=bM.1 hm;rw[akA he] at U8;obtain⟨B,hB⟩:=hr.live i l0 id t p h0 U8;exact⟨B.norm,by simp [State.norm,hB]⟩
 defers:=hr.defers
 j8:=hr.j8
 eU:=hr.eU.less (λi l id b c j hl hm=>by
  simp only[State.norm,aL] at hl;obtain⟨l0,h0,rfl⟩:=av.1 hl;obtain⟨v0,U8,he⟩:=bM.1 hm;have:v0= .eU id b c j:=by cases v0<;>simp [SV.norm] at he;rw[he.1,he.2.1,he.2.2.1,he.2.2.2]
  subst this;exact⟨l0,h0,U8,λe=>by rw[e];rfl⟩) (λid b c x own _ hb ho=>⟨x,vA own,by simp [State.norm,hb,fc.norm],λhm=>ho (VV hm)⟩)
theorem SS(hr:Rel tq X s a){l:List Nat}{R:Type}{K:State->ae R}{z:R}(h:Ad l s K=some z):∃s',K s'=some z/\Rel tq X s' a:=by
 unfold Ad at h;simp only at h;cases hb:(oE [.undef] l 0 s.sl).all (λv=>v.all (SV.roots l)) with
 |false=>rw[hb] at h;cases h
 |true=>
  rw[hb] at h;refine⟨_,h,Rel.norm ?_⟩;have qy:s.bs=s.bs.headD none::s.bs.tail:=by
   have:=hr.pc;cases hs:s.bs with
   |nil=>rw[hs] at this;simp at this
   |cons b r=>rfl
  have jx:∀(id:Nat) B,(s.bs.headD none::oE none l 0 s.bs.tail)[id]? =some (some B)->s.bs[id]? =some (some B):=by
   intro id B hB;rw[qy];cases id with
   |zero=>exact hB
   |succ id=>
    simp only[bH] at hB⊢;rw[JA] at hB;obtain⟨x,hx,he⟩:=av.1 hB;rw[hx];cases hl:l.any (ak (0+id))<;>rw[hl] at he
    ·cases he
    ·rw[<-he];rfl
  refine⟨by rw[zhs];exact hr.size,?_,λi v x hv hx=> ?_,λid B hB=>hr.boxes id B (jx id B hB),λi v id t p hv hm=> ?_,hr.defers,hr.eU.less (λi v id c d j hv hm=> ?_) (λid c d x own hex vK ho=> ?_),hr.j8⟩
  ·simp only[aF,zhs,List.length_tail];have:=hr.pc;omega
  ·rw[JA] at hv;obtain⟨y,hy,rfl⟩:=av.1 hv;cases hl:l.any (ak (0+i)) with
   |false=>trivial
   |true=>exact hr.gn i y x hy hx
  ·have BW:SV.roots l (.ptr id t p)=true:=by have:=aY.1 hb v (aN hv);exact aY.1 this _ hm
   rw[JA] at hv;obtain⟨y,hy,he⟩:=av.1 hv;have Al:SV.ptr id t p∈y:=by
    cases hl:l.any (ak (0+i)) with
    |false=>rw[hl] at he;subst he;simp at hm
    |true=>rw[hl] at he;subst he;exact hm
   obtain⟨B,hB⟩:=hr.live i y id t p hy Al;refine⟨B,?_⟩;rw[qy] at hB;cases id with
   |zero=>exact hB
   |succ id=>
    simp only[bH] at hB⊢;rw[JA,hB];have:l.any (ak id)=true:=BW;have h2:l.any (ak (0+id))=true:=by rw[bJ];exact this
    simp [this]
  ·rw[JA] at hv;obtain⟨y,hy,he⟩:=av.1 hv;cases hl:l.any (ak (0+i)) with
   |false=>rw[hl] at he;subst he;simp at hm
   |true=>rw[hl] at he;subst he;exact⟨y,hy,hm,λh=>h⟩
  ·obtain⟨i,v,j,hv,hm⟩:=hex;have BW:SV.roots l (.eU id c d j)=true:=by have:=aY.1 hb v (aN hv);exact aY.1 this _ hm
   refine⟨x,own,?_,ho⟩;rw[qy] at vK;cases id with
   |zero=>exact vK
   |succ id=>
    simp only[bH] at vK⊢;rw[JA,vK];have:l.any (ak id)=true:=BW;have h2:l.any (ak (0+id))=true:=by rw[bJ];exact this
    simp [this]
def bZ.still(X:bZ)(r n:Nat):bZ:={X with ow:=λg=>if g=r then .ro n else X.ow g}
theorem EM{r n id:Nat}(h:X.ow r= .box id){ad:Addr}{v:Value}(hs:X.cf ad v):(X.still r n).cf ad v:=by
 have fL:ad.block≠r:=λe=>by have:=hs.2.2;rw[e,h] at this;exact this
 refine⟨hs.1,hs.2.1,?_⟩;simp only[bZ.still];rw[if_neg fL];exact hs.2.2
theorem V1{r n id:Nat}(h:X.ow r= .box id):Ext X (X.still r n) where
 cf:=λ_ _=>EM h
 size:=bg _
 os:=rfl
 tape:=rfl
 output:=rfl
 β0:=rfl
 still:=λg _ gv=>by
  have fL:g≠r:=λe=>by rw[e,h] at gv;exact gv
  exact⟨by simp only[bZ.still];rw[if_neg fL],rfl⟩
theorem eO.nj{r n id:Nat}(h:X.ow r= .box id){pl:Place}{e:TypeId}{k m:Nat}{v:Value}(ho:eO X pl e k m v):eO (X.still r n) pl e k m v:=by
 rcases ho with ho|⟨g,cap,cur,h1,h2,h3,h4,h5,h6⟩
 ·exact .inl ho
 ·have fL:g≠r:=λe=>by rw[e,h] at h6;cases h6
  exact .inr ⟨g,cap,cur,h1,h2,h3,h4,h5,by simp only[bZ.still];rw[if_neg fL];exact h6⟩
theorem eI.nj{r n id:Nat}(h:X.ow r= .box id){pl:List Nat->Place}{t:Ty}{x:El t}{c:List Value}{own:List (List Nat)}(ho:eI X pl t x c own):eI (X.still r n) pl t x c own:=λp hp=>by obtain⟨e,t',xs,v,g0,g1,g2,g3⟩:=ho p hp;exact⟨e,t',xs,v,g0,g1,g2,g3.nj h⟩
theorem cq.nj{r n id:Nat}(h:X.ow r= .box id){pl:List Nat->Place}{sv:SV}{v:Value}(hk:∀dP c d j,sv= .eU dP c d j->dP≠id)(hr:cq X pl sv v):cq (X.still r n) pl sv v:=by
 cases sv with
 |b8 t x own=>obtain⟨c,h1,h2,h3⟩:=hr;exact⟨c,h1.bz (λ_ _=>EM h),h2,h3.nj h⟩
 |view t x=>obtain⟨ad,c,h1,h2,h3,h4⟩:=hr;exact⟨ad,c,h1,h2,h3.bz (λ_ _=>EM h),λi u hi=>EM h (h4 i u hi)⟩
 |cap f t x u y=>exact Aa (λ_ _=>EM h) hr
 |eU dP c d j=>
  obtain⟨r',h1,h2,h3⟩:=hr;have fL:r'≠r:=λe=>by rw[e,h] at h2;injection h2 with h2;exact hk dP c d j rfl h2.symm
  exact⟨r',h1,by simp only[bZ.still];rw[if_neg fL];exact h2,h3⟩
 |_=>exact hr
theorem VQ(l:List Nat):∀(xs:List (ae fc)) (i j:Nat),(qx l i xs)[j]? =(xs[j]?).map λb=>bif l.any (ak (i+j)) then b.map (λB=>{B with own:=[]}) else b
 | [],i,j=>by simp [qx]
 |x::r,i,0=>by simp [qx]
 |x::r,i,j+1=>by simp only[qx,bH];rw[VQ l r (i+1) j,show i+1+j=i+(j+1) by omega]
theorem O0(l:List Nat):∀(xs:List (ae fc)) (i:Nat),(qx l i xs).length=xs.length
 | [],i=>rfl
 |x::r,i=>by simp [qx,O0 l r]
theorem Rel.drop(hr:Rel tq X s a)(l:List Nat):Rel tq X (s.drop l) a where
 size:=hr.size
 pc:=by simp only[State.drop,O0];exact hr.pc
 gn:=hr.gn
 boxes:=λid B hB=>by
  simp only[State.drop,VQ] at hB;obtain⟨b0,h0,h1⟩:=av.1 hB;cases hl:l.any (ak (0+id)) with
  |false=>rw[hl] at h1;simp only[cond_false] at h1;subst h1;exact hr.boxes id B h0
  |true=>rw[hl] at h1;simp only[cond_true] at h1;obtain⟨B0,rfl,rfl⟩:=av.1 h1;obtain⟨r,g1,g2,g3⟩:=hr.boxes id B0 h0;exact⟨r,g1,g2,g3.less λp hp=>by cases hp⟩
 live:=λi v id t p hv hm=>by obtain⟨B,hB⟩:=hr.live i v id t p hv hm;simp only[State.drop,VQ,hB,dH];cases l.any (ak (0+id))<;>exact⟨_,rfl⟩
 defers:=hr.defers
 j8:=hr.j8
 eU:=hr.eU.less (λi l id c d j hl hm=>⟨l,hl,hm,λh=>h⟩) (λid c d x own _ hb ho=>by
  simp only[State.drop,VQ,hb,dH];cases l.any (ak (0+id)) with
  |false=>exact⟨x,own,rfl,ho⟩
  |true=>exact⟨x,[],rfl,by simp⟩)
theorem akR(hr:Rel tq X s a){r:Nat}{R:Type}{K:State->ae R}{z:R}(h:zV E r s K=some z):∃Y s',Y.w=X.w/\Ext X Y/\K s'=some z/\Rel tq Y s' a:=by
 unfold zV at h;split at h
 ·exact⟨X,s,rfl,Ext.refl X,h,hr⟩
 rename_i d T hfz;split at h
 case h_2=>cases h
 rename_i id n ta tb e t pS hT;split at h
 case isFalse=>cases h
 rename_i heq;have:=Ty.cS heq;subst this;split at h
 case h_2=>cases h
 rename_i B hB;split at h
 case isFalse=>cases h
 rename_i lR;obtain⟨hb,rr,h1,how,cs,T',cH,lV,n5⟩:=J3 hr hB lR;generalize(Ty.cast lR B.x:List (El ta))=xs at*;cases hn:ak n (ag xs) with
 |false=>rw[hn] at h;cases h
 |true=>
  rw[hn] at h;have hn:=aE hn;have hd:d<s.sl.length:=by
   rcases eg d s.sl.length with h1|h1
   ·exact h1
   ·simp [State.slot,aQ h1] at pS
  have mT:=hr.slot d;rw[pS] at mT;obtain⟨r0,hβ,cap,hv,ve⟩:=(show cq X (.c d 0) (.ptr id (.dC (.qi n) ta tb) []) _ from mT)
  rw[h1] at hβ;cases hβ;have bS:id<s.bs.length:=(aC.1 hb).1;have vO:=hr.wP hb (.inl (by rw[Ty.cS lR];rfl));refine⟨X.still rr (xs.length*ta.cells),_,rfl,V1 how,h,?_,?_,λi l v hl hx=> ?_,λdP B' mW=> ?_,λi l j t p hl hm=> ?_,hr.defers,hr.eU.less (λi l zJ c2 d2 j hl hm=> ?_) (λzJ c2 d2 x2 sr hex ub ho=> ?_),hr.j8.ext (V1 how)⟩
  ·simpa using hr.size
  ·simpa using hr.pc
  ·replace hl:((s.sl.map (tZ id)).set d [.b8 (.sl e ta) xs []])[i]? =some l:=hl;rw[ay] at hl;split at hl
   ·rename_i BH;subst BH;rw[if_pos (by simpa using hd)] at hl;cases hl;have N6:a.tmps.getD d aT=v:=by rw[aZ,hx];rfl
    rw[N6] at hv;refine⟨[v],?_,rfl,uB⟩;rw[hv,hn];refine eC.EE rfl (by omega) (λj y hj=>⟨⟨rr,0,none⟩,_,rfl,rfl,(n5 j y hj).bz (λ_ _=>EM how),λi u hi=> ?_⟩);have BM:=(aC.1 hj).1;have hle:(j+1)*ta.cells<=xs.length*ta.cells:=bp _ BM;rw[bK,cm] at hle;rw[bj] at hi;split at hi
    case isFalse=>cases hi
    rename_i U0;rw[bI] at hi;refine⟨G8 rfl _,?_,?_⟩
    ·rw[qc,bJ];show X.w.cell? _=_;simp only[bP,cH];simpa using hi
    ·rw[qc,bJ];show Ow.used (if rr=rr then .ro (xs.length*ta.cells) else X.ow rr) _;rw[if_pos rfl];show j*ta.cells+i<_;omega
   ·rw[aL] at hl;obtain⟨l0,h0,rfl⟩:=av.1 hl;exact Qj ((hr.gn i l0 v h0 hx).ql λj sv u hm rl=>rl.nj how (λdP c d k e e2=>vO i l0 c d k h0 (e2▸e▸aN hm)))
  ·replace mW:(s.bs.set id none)[dP]? =some (some B'):=mW;rw[ay] at mW;split at mW
   ·rename_i NB;cases mW
   ·rename_i NB;obtain⟨r',g1,g2,g3⟩:=hr.boxes dP B' mW;have fL:r'≠rr:=λe2=>by rw[e2,how] at g2;cases g2;exact NB rfl
    exact⟨r',g1,by simp only[bZ.still];rw[if_neg fL];exact g2,g3.move (λ_ _=>EM how) rfl (λcs h5=>h5.nj how) λ_ _ g o _ ho hw=>⟨ho,by simp only[bZ.still];rw[if_neg (λe3=>by rw[e3,how] at hw;cases hw)];exact hw⟩⟩
  ·replace hl:((s.sl.map (tZ id)).set d [.b8 (.sl e ta) xs []])[i]? =some l:=hl;rw[ay] at hl;split at hl
   ·rw[if_pos (by simpa using hd)] at hl;cases hl;simp at hm
   ·rw[aL] at hl;obtain⟨l0,h0,rfl⟩:=av.1 hl;obtain⟨hm,fL⟩:=RF hm;obtain⟨B2,kQ⟩:=hr.live i l0 j t p h0 hm;exact⟨B2,by show(s.bs.set id none)[j]? =_;rw[ay,if_neg (λe=>fL e.symm)];exact kQ⟩
  ·replace hl:((s.sl.map (tZ id)).set d [.b8 (.sl e ta) xs []])[i]? =some l:=hl;rw[ay] at hl;split at hl
   ·rw[if_pos (by simpa using hd)] at hl;cases hl;simp at hm
   ·rw[aL] at hl;obtain⟨l0,h0,rfl⟩:=av.1 hl;obtain⟨g1,g2⟩:=zz4 hm;exact⟨l0,h0,g1,g2⟩
  ·refine⟨x2,sr,?_,ho⟩;show(s.bs.set id none)[zJ]? =_;rw[ay,if_neg (λe=> ?_)]
   ·exact ub
   ·subst e;rw[hb] at ub;cases ub;cases(Ty.cS lR)
theorem PW(hr:Rel tq X s a){id rr:Nat}{B:fc}(hb:s.bs[id]? =some (some B))(hs:B.t.fA=false)(h1:X.β id=some rr)(how:X.ow rr= .box id){cs:Array Value}{T:TypeId}(cH:X.w.heap[rr]? =some (.cells cs T (0,0)))(cY:eC X B.t B.x cs.toList){pl:List Nat->Place}{sv:SV}{v:Value}(hk:∀dP c d j,sv= .eU dP c d j->dP≠id)(h:cq X pl sv v):cq (X.still rr cs.size) pl (Ag id B sv) v:=by
 have lH:=h.nj (n:=cs.size) how hk;cases sv with
 |ptr j t p=>
  unfold Ag;simp only;cases hj:ak j id with
  |false=>exact lH
  |true=>
   have:=aE hj;subst this;simp only[cond_true];split
   case isFalse=>trivial
   rename_i heq;have:=Ty.cS heq;subst this;split
   case h_2=>trivial
   rename_i u y jx;obtain⟨r0,hβ,hv⟩:=h;rw[h1] at hβ;cases hβ;obtain⟨hv,lS⟩:=(yq hs).1 hv;obtain⟨k1,k2,k3⟩:=T6 cY lS jx;refine⟨_,_,hv,rfl,k3.bz (λ_ _=>EM how),λi w hi=>⟨G8 rfl _,?_,?_⟩⟩
   ·exact Wa cH hi
   ·rw[qc];show Ow.used (if rr=rr then .ro cs.size else X.ow rr) _;rw[if_pos rfl];rw[bj] at hi;split at hi
    case isFalse=>cases hi
    rw[bI] at hi;have:=(aC.1 hi).1;show _<cs.size;simpa using this
 |_=>exact lH
theorem ahO(hr:Rel tq X s a){id rr:Nat}{B:fc}(hb:s.bs[id]? =some (some B))(hs:B.t.fA=false)(h1:X.β id=some rr)(how:X.ow rr= .box id){cs:Array Value}{T:TypeId}(cH:X.w.heap[rr]? =some (.cells cs T (0,0)))(cY:eC X B.t B.x cs.toList){pl:Nat->List Nat->Place}{l:List SV}{v:Value}(hk:∀dP c d j,SV.eU dP c d j∈l->dP≠id)(h:kj X pl l v):kj (X.still rr cs.size) pl (l.map (Ag id B)) v:=by
 match l,h with
 | [sv],h=>exact PW hr hb hs h1 how cH cY (λdP c d j e=>hk dP c d j (by simp [e])) h
 | [],⟨vs,g1,g2,g3⟩=>exact⟨vs,g1,g2,λj sv u ue=>by simp at ue⟩
 |x::y::r,⟨vs,g1,g2,g3⟩=>refine⟨vs,g1,by simpa using g2,λj sv u ue hu=> ?_⟩;have ue:((x::y::r).map (Ag id B))[j]? =some sv:=ue;rw[aL] at ue;obtain⟨s0,na,rfl⟩:=av.1 ue;exact PW hr hb hs h1 how cH cY (λdP c d j e=>hk dP c d j (e▸aN na)) (g3 j s0 u na hu)
theorem akW{id:Nat}{B:fc}{l:List SV}{j:Nat}{t:Ty}{p:List Nat}(h:SV.ptr j t p∈l.map (Ag id B)):SV.ptr j t p∈l/\j≠id:=by
 obtain⟨s0,na,he⟩:=bM.1 h;unfold Ag at he;cases s0 with
 |ptr j' t' p'=>
  simp only at he;cases hb:ak j' id with
  |true=>
   rw[hb] at he;simp only[cond_true] at he;split at he
   ·split at he<;>cases he
   ·cases he
  |false=>rw[hb] at he;cases he;exact⟨na,λe=>hJ hb e⟩
 |_=>simp only at he;cases he
theorem akV{id:Nat}{B:fc}{l:List SV}{i j:Nat}{a b:Ty}(h:SV.eU i a b j∈l.map (Ag id B)):SV.eU i a b j∈l/\(l=[.eU i a b j]->l.map (Ag id B)=[.eU i a b j]):=by
 refine⟨?_,λe=>by rw[e];rfl⟩;obtain⟨s0,na,he⟩:=bM.1 h;unfold Ag at he;cases s0 with
 |ptr j' t' p'=>
  simp only at he;cases hb:ak j' id with
  |true=>
   rw[hb] at he;simp only[cond_true] at he;split at he
   ·split at he<;>cases he
   ·cases he
  |false=>rw[hb] at he;cases he
 |_=>simp only at he;first|(cases he;done)|(rw[<-he];exact na)
theorem ac3(hr:Rel tq X s a){id:Nat}{R:Type}{K:State->ae R}{z:R}(h:Y0 id s K=some z):∃Y s',Y.w=X.w/\Ext X Y/\K s'=some z/\Rel tq Y s' a:=by
 unfold Y0 at h;split at h
 case h_2=>cases h
 rename_i B hB;split at h
 case isTrue=>cases h
 rename_i hs;have hs:B.t.fA=false:=by simpa using hs
 have hb:=yt hB;obtain⟨rr,h1,BF⟩:=hr.boxes id B hb;obtain⟨cs,T,cH,cY,how,_⟩:=BF.cells hs;refine⟨X.still rr cs.size,_,rfl,V1 how,h,by simpa using hr.size,by simpa using hr.pc,λi l v hl hx=> ?_,λdP B' mW=> ?_,λi l j t p hl hm=> ?_,hr.defers,hr.eU.less (λi l zJ c2 d2 j hl hm=> ?_) (λzJ c2 d2 x2 sr hex ub ho=> ?_),hr.j8.ext (V1 how)⟩
 ·replace hl:(s.sl.map λl=>l.map (Ag id B))[i]? =some l:=hl;rw[aL] at hl;obtain⟨l0,h0,rfl⟩:=av.1 hl;exact ahO hr hb hs h1 how cH cY (λdP c d j hm e=>hr.wP hb (.inl (T9 hs)) i l0 c d j h0 (e▸hm)) (hr.gn i l0 v h0 hx)
 ·replace mW:(s.bs.set id none)[dP]? =some (some B'):=mW;rw[ay] at mW;split at mW
  ·split at mW<;>cases mW
  ·rename_i NB;obtain⟨r',g1,g2,g3⟩:=hr.boxes dP B' mW;have fL:r'≠rr:=λe2=>by rw[e2,how] at g2;cases g2;exact NB rfl
   exact⟨r',g1,by simp only[bZ.still];rw[if_neg fL];exact g2,g3.move (λ_ _=>EM how) rfl (λcs h5=>h5.nj how) λ_ _ g o _ ho hw=>⟨ho,by simp only[bZ.still];rw[if_neg (λe3=>by rw[e3,how] at hw;cases hw)];exact hw⟩⟩
 ·replace hl:(s.sl.map λl=>l.map (Ag id B))[i]? =some l:=hl;rw[aL] at hl;obtain⟨l0,h0,rfl⟩:=av.1 hl;obtain⟨hm,fL⟩:=akW hm;obtain⟨B2,kQ⟩:=hr.live i l0 j t p h0 hm;exact⟨B2,by show(s.bs.set id none)[j]? =_;rw[ay,if_neg (λe=>fL e.symm)];exact kQ⟩
 ·replace hl:(s.sl.map λl=>l.map (Ag id B))[i]? =some l:=hl;rw[aL] at hl;obtain⟨l0,h0,rfl⟩:=av.1 hl;obtain⟨g1,g2⟩:=akV hm;exact⟨l0,h0,g1,g2⟩
 ·refine⟨x2,sr,?_,ho⟩;show(s.bs.set id none)[zJ]? =_;rw[ay,if_neg (λe=> ?_)]
  ·exact ub
  ·subst e;rw[hb] at ub;cases ub;cases hs
theorem znh{R:Type}{K:State->ae R}{z:R}:∀(l:List Nat) (X:bZ) (s:State),Rel tq X s a->Lj l s K=some z->∃Y s',Y.w=X.w/\Ext X Y/\K s'=some z/\Rel tq Y s' a
 | [],X,s,hr,h=>⟨X,s,rfl,Ext.refl X,h,hr⟩
 |id::r,X,s,hr,h=>by obtain⟨Y,s1,h1,h2,h3,h4⟩:=ac3 hr h;obtain⟨Z,s2,k1,k2,k3,k4⟩:=znh r Y s1 h4 h3;exact⟨Z,s2,k1.trans h1,h2.trans k2,k3,k4⟩
def Fr(E:Env)(X0:bZ):Prop:=E.sp≠none->∀g pl n,X0.ow g≠ .row pl n
def P0(P:Program)(tq:n4)(E:Env)(C:bu)(k:Nat)(c:Code):Prop:=
 ∀(X0 X:bZ) (s:State) (a:Act) (e:Ex) (s':State),Fr E X0->Ext X0 X->Rel tq X s a->ev E (C (Ex×State)) k c s (λe s=>some (e,s))=some (e,s')->
  ∀(Q:Exit->Act->World->Prop),(∀Y a',Ext X0 Y->Rel tq Y s' a'->Q e.exit' a' Y.w)->c.wp P Q a X.w
theorem akq(hr:Rel tq X s a){k r:Nat}{R:Type}{K:State->ae R}{z:R}(h:vw E k r s K=some z):∃s',K s'=some z/\Rel tq X s' a:=by
 unfold vw at h;split at h
 ·exact⟨s,h,hr⟩
 ·obtain⟨s',h1,h2⟩:=SS hr h;refine⟨s',?_,h2⟩;unfold jR at h1;split at h1
  ·cases h1
  ·exact h1
theorem agY{C:bu}(hC:C.Nat){k:Nat}{b:Code}(hb:P0 P tq E C k b){l lx:List Nat}{Q:Exit->Act->World->Prop}{e':Ex}{s':State}{X0:bZ}(hF:Fr E X0)(hQ:∀Y a',Ext X0 Y->Rel tq Y s' a'->Q e'.exit' a' Y.w):
 ∀(n:Nat) (a:Act) (w:World),(∃X s,X.w=w/\Ext X0 X/\Rel tq X s a/\oG (ev E (C (Ex×State)) k b) l lx n s (λe s=>some (e,s))=some (e',s'))->
  ∃m,n=m+1/\b.wp P (Exit.then (λa w=>∃X s,X.w=w/\Ext X0 X/\Rel tq X s a/\oG (ev E (C (Ex×State)) k b) l lx m s (λe s=>some (e,s))=some (e',s')) Q) a w:=by
 rintro n a w ⟨X,s,rfl,dF,hr,h⟩;cases n with
 |zero=>cases h
 |succ m=>
  refine⟨m,rfl,?_⟩;simp only[oG] at h;obtain⟨⟨e1,s2⟩,h1,h2⟩:=rC (C7 hC b _ (λe s=>some (e,s)) (K:=λz=>match z.1 with
   | .normal=>Ad l z.2 λs=>oG (ev E (C (Ex×State)) k b) l lx m s (λe s=>some (e,s))
   |e=>Ad lx z.2 λs=>some (e,s)) (λe s=>by cases e<;>rfl) s) h
  refine hb X0 X s a e1 s2 hF dF hr h1 _ λY a' ia eQ=> ?_;cases e1 with
  |normal=>obtain⟨s3,h3,H5⟩:=SS eQ h2;exact⟨Y,s3,rfl,ia,H5,h3⟩
  |exit id=>obtain⟨s3,h3,H5⟩:=SS eQ h2;cases h3;exact hQ Y a' ia H5
  |ret=>obtain⟨s3,h3,H5⟩:=SS eQ h2;cases h3;exact hQ Y a' ia H5
theorem z9k(hE:bN P E)(hm:P.follows .mixedOrders=true){C:bu}(hC:C.Nat)(hf:∀f,kX P tq C f){id:Nat}{ops:Array Oper}{d:Bool}{X00 X0:bZ}{s0:State}{a:Act}{e:Ex}{s':State}(hx:Ext X00 X0)(hr0:Rel tq X0 s0 a)(h0:J2 E (C (Ex×State)) id ops d s0 ((λe s=>some (e,s)) Ex.normal)=some (e,s')){Q:Exit->Act->World->Prop}(hQ0:∀Y a',Ext X00 Y->Rel tq Y s' a'->Q e.exit' a' Y.w):(iu id ops d).wp P Q a X0.w:=by
 unfold J2 at h0;obtain⟨X1,s1,Va,Gj,h01,m9⟩:=akR hr0 h0;obtain⟨X,s,CN,ia,h,hr⟩:=znh _ X1 s1 m9 h01;have hw:X.w=X0.w:=CN.trans Va;have Gi:Ext X0 X:=Gj.trans ia;clear h01 m9 Va CN Gj ia;have hQ:∀Y a',Ext X Y->Rel tq Y s' a'->Q e.exit' a' Y.w:=λY a' dF eQ=>hQ0 Y a' (hx.trans (Gi.trans dF)) eQ;rw[<-hw];clear h0 hr0 hQ0 Gi hw;cases d with
 |true=>simp only[cond_true] at h;obtain⟨s1,h1,h2⟩:=rC (SY hC (F:=λs=>some (Ex.normal,s)) (G:=some) (K:=λs=>some (Ex.normal,s)) (λ_=>rfl) ops.toList 0 s []) h;cases h2;exact agF hE hm hC hf hr h1 hQ
 |false=>
  simp only[cond_false] at h;obtain⟨s1,h1,h2⟩:=rC (JF hC (F:=λs=>some (Ex.normal,s)) (G:=some) (K:=λs=>some (Ex.normal,s)) (λ_=>rfl) ops.toList s) h;cases h2;refine wp_region (QU hE hC hf (cW ops.size) X s a hr (λi hi=>bU.1 hi) ?_ hQ);have:(cW ops.size).map (λi=>ops.getD i default)=ops.toList:=by
   apply bV;intro i;rw[aL];by_cases hi:i<ops.size
   ·simp [hi]
   ·simp [hi]
  rw[this];exact h1
theorem Jy(hE:bN P E)(hm:P.follows .mixedOrders=true){C:bu}(hC:C.Nat)(hf:∀f,kX P tq C f)(k:Nat):∀c:Code,P0 P tq E C k c
 | .skip=>λX0 X s a e s' hF hx hr h Q hQ=>by simp only[ev,az,gm] at h;obtain⟨rfl,rfl⟩:=h;exact wp_skip (hQ X a hx hr)
 | .region id ops d=>λX0 X s a e s' hF hx hr h Q hQ=>by
   simp only[ev] at h;split at h
   ·rename_i j q ux;cases hj:ak id j with
    |true=>
     rw[hj,cond_true] at h;cases d with
     |true=>cases h
     |false=>
      cases hq:ak q.2.2 0 with
      |true=>simp only[hq,cond_true] at h;obtain⟨s1,h1,h2⟩:=rC (QL hC (F:=λs=>some (Ex.normal,s)) (G:=some) (K:=λs=>some (Ex.normal,s)) (λ_=>rfl)) h;cases h2;exact ahe hE hC hf (hF (by rw[ux];exact λe=>by cases e)) hx hr h1 hQ
      |false=>
      simp only[hq,cond_false] at h;obtain⟨s1,h1,h2⟩:=rC (QV (F:=λs=>some (Ex.normal,s)) (G:=some) (K:=λs=>some (Ex.normal,s)) (λ_=>rfl)) h;cases h2;exact ahB hE (hF (by rw[ux];exact λe=>by cases e)) hx hr h1 hQ
    |false=>rw[hj,cond_false] at h;exact z9k hE hm hC hf hx hr h hQ
   ·split at h
    ·exact z9k hE hm hC hf hx hr h hQ
    ·rename_i m l k hsg;cases hi:ak id m with
     |true=>
      rw[hi,cond_true] at h;cases d with
      |true=>cases h
      |false=>obtain⟨s1,h1,h2⟩:=rC (RO hC (F:=λs=>some (Ex.normal,s)) (G:=some) (K:=λs=>some (Ex.normal,s)) (λ_=>rfl)) h;cases h2;exact aks hE hC hf hx hr h1 hQ
     |false=>
     rw[hi,cond_false] at h;cases HX:ak id l with
     |true=>
      rw[HX,cond_true] at h;cases d with
      |false=>cases h
      |true=>obtain⟨s1,h1,h2⟩:=rC (QE hC (F:=λs=>some (Ex.normal,s)) (G:=some) (K:=λs=>some (Ex.normal,s)) (λ_=>rfl)) h;cases h2;exact agV hE hm hC hf hx hr h1 hQ
     |false=>rw[HX,cond_false] at h;exact z9k hE hm hC hf hx hr h hQ
 | .seq x y=>λX0 X s a e s' hF hx hr h Q hQ=>by
   simp only[ev] at h;obtain⟨⟨e1,s1⟩,h1,h2⟩:=rC (C7 hC x _ (λe s=>some (e,s)) (K:=λz=>match z.1 with
    | .normal=>vw E k (wU y) z.2 λs=>ev E (C (Ex×State)) k y s (λe s=>some (e,s))
    |e=>some (e,z.2)) (λe s=>by cases e<;>rfl) s) h
   refine wp_seq (Jy hE hm hC hf k x X0 X s a e1 s1 hF hx hr h1 _ λY a' dF eQ=> ?_);cases e1 with
   |normal=>obtain⟨s2,h2,eQ⟩:=akq eQ h2;exact Jy hE hm hC hf k y X0 Y s2 a' e s' hF dF eQ h2 Q hQ
   |exit id=>cases h2;exact hQ Y a' dF eQ
   |ret=>cases h2;exact hQ Y a' dF eQ
 | .cond c x y=>λX0 X s a e s' hF hx hr h Q hQ=>by
   simp only[ev] at h;have hc:=hr.cM c;split at h
   case h_2=>cases h
   rename_i p w hs;rw[hs] at hc;have hv:=SK hc;have m9:Rel tq X (s.bX (Cn c) (bl p)) a:=by
    cases c with
    |tmp i=>
     have pS:s.slot i=[.b8 .bool p w]:=by
      have hh:one (s.slot i)= .b8 .bool p w:=hs
      match hm:s.slot i,hh with
      | [sv],hh=>have HV:sv= .b8 .bool p w:=hh;rw[HV]
      | [],hh=>cases hh
      |_::_::_,hh=>cases hh
     exact(hr.know pS).1
    |_=>exact hr
   refine wp_cond_split hv (λhp=> ?_) (λhp=> ?_)
   ·subst hp;exact Jy hE hm hC hf k x X0 X _ a e s' hF hx m9 h Q hQ
   ·subst hp;exact Jy hE hm hC hf k y X0 X _ a e s' hF hx m9 h Q hQ
 | .block id b=>λX0 X s a e s' hF hx hr h Q hQ=>by
   simp only[ev] at h;obtain⟨⟨e1,s1⟩,h1,h2⟩:=rC (C7 hC b _ (λe s=>some (e,s)) (K:=λz=>match z.1 with
    | .exit j=>bif ak j id then some (.normal,z.2) else some (.exit j,z.2)
    |e=>some (e,z.2)) (λe s=>by cases e<;>rfl) s) h
   refine wp_block (Jy hE hm hC hf k b X0 X s a e1 s1 hF hx hr h1 _ λY a' dF eQ=> ?_);cases e1 with
   |normal=>cases h2;exact hQ Y a' dF eQ
   |ret=>cases h2;exact hQ Y a' dF eQ
   |exit j=>
    simp only at h2;show(if j=id then Q .normal a' Y.w else Q (.exit j) a' Y.w);cases hj:ak j id with
    |true=>rw[hj] at h2;cases h2;rw[if_pos (aE hj)];exact hQ Y a' dF eQ
    |false=>rw[hj] at h2;cases h2;rw[if_neg (hJ hj)];exact hQ Y a' dF eQ
 | .loop b=>λX0 X s a e s' hF hx hr h Q hQ=>by simp only[ev] at h;obtain⟨s1,h,m9⟩:=SS (hr.drop _) h;exact ahS _ (agY hC (Jy hE hm hC hf k b) hF (Q:=Q) hQ) ⟨X,s1,rfl,hx,m9,h⟩
 | .exit id=>λX0 X s a e s' hF hx hr h Q hQ=>by simp only[ev,az,gm] at h;obtain⟨rfl,rfl⟩:=h;exact wp_exit (hQ X a hx hr)
 | .ret=>λX0 X s a e s' hF hx hr h Q hQ=>by simp only[ev,az,gm] at h;obtain⟨rfl,rfl⟩:=h;exact wp_ret (hQ X a hx hr)
 | .rangeFunc .. =>λX0 X s a e s' hF hx hr h Q hQ=>by simp only[ev] at h;cases h
 | .scope _=>λX0 X s a e s' hF hx hr h Q hQ=>by simp only[ev] at h;cases h
 | .label _=>λX0 X s a e s' hF hx hr h Q hQ=>by simp only[ev] at h;cases h
 | .goto _=>λX0 X s a e s' hF hx hr h Q hQ=>by simp only[ev] at h;cases h
 | .refuse _=>λX0 X s a e s' hF hx hr h Q hQ=>by simp only[ev] at h;cases h
end Go.Ref

