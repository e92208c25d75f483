/- No condition. -/
import Derived.Test.YtodeabafemckjaaGreatDoorK0
import Derived.WideKeyRuns
import Derived.MapKept
import Derived.Laws.CopyRow
set_option linter.unusedVariables false
set_option linter.unusedSimpArgs false
set_option maxRecDepth 100000
open Array renaming getD_eq_getD_getElem?->bg,getElem?_eq_getElem->bh,getElem?_toList->bz,toArray_toList->bW,toList_append->cW,getElem?_setIfInBounds_ne->du,getElem?_setIfInBounds->di,length_toList->ff,toList_inj->iJ,replicate->gI,all_eq_true_iff_forall_mem->gH,range->fH
open Bool renaming and_eq_true->ap,false_eq_true->cK,or_eq_false_iff->cR,or_eq_true->jh
open Function renaming comp_def->jS
open Go renaming undef->aW
open Go.Builtin renaming firstCells->dH,lenOf->fu,append_->ji
open Go.Call renaming operands->fw
open Go.Code renaming region->iD
open Go.Deferred renaming ofValue->kq
open Go.Instr renaming storeAt->eV,findAsking->iN,checkKey->jB,sameNow->kb,findNow->lW
open Go.IntKind renaming u8->lX
open Go.MapKept renaming run_getObj_map->ii,run_checkKey->lj,run_findKey->lG,IsKey->lZ
open Go.Op renaming operands->aV
open Go.Oper renaming upon_value->jn,wp->gT,upon_skip->jF,upon_enter->kZ
open Go.Region renaming wanted->cA,ready->eC,binds->gf
open Go.Result renaming andThen_ok->aj
open Go.RowKit.Below renaming heap_alloc->kg
open Go.Sem renaming run_bind->ay,run_pure->aG
open Go.Utf8 renaming decode->dw
open Go.World renaming cell?->bT,block_lt_of_cell?->eE
open List renaming length->ag,getD_eq_getElem?_getD->al,getElem?_eq_getElem->av,getElem?_eq_some_iff->aA,getElem?_set->az,replicate->aw,length_cons->aB,mem_cons_of_mem->aE,length_append->aF,mem_cons->aD,mem_of_getElem?->aL,getElem?_map->aP,getElem?_eq_none->aS,take->aJ,append_assoc->aQ,mem_append->aT,all_eq_true->aR,length_take->aU,getElem?_append_right->bc,getElem?_append_left->bj,mem_filter->bf,pairwise_cons->bk,map_cons->bd,eq_nil_of_length_eq_zero->bp,getElem?_take->bq,mem_map->bm,getElem?_drop->bJ,mem_range->bX,getElem?_cons_succ->bI,length_drop->bF,getElem?_cons_zero->bU,ext_getElem?->bZ,length_map->cf,mem_singleton->cL,take_of_length_le->bV,map_append->cg,mem_append_left->cI,pairwise_append->cz,any_eq_false->cH,range->cY,filter_eq_self->dz,map_nil->eA,length_set->gJ,map_congr_left->dT,filter_cons->dY,take_left->eb,map_map->kH,range_succ->fE,size_toArray->jW,flatMap_cons->fR,getElem?_toArray->kO,map_toArray->ky,flatMap_map->iQ,flatMap_def->iP,append_inj->jk,getElem?_range->jt,filter_congr->jT,flatMap_append->lE,set_set->mo
open Nat renaming eq_of_beq_eq_true->aH,beq->ak,le_refl->aZ,mul_le_mul_right->bB,zero_add->bK,ble->bn,add_mul->bL,min_eq_left->bN,le_of_ble_eq_true->ci,add_sub_cancel_left->cp,zero_le->bS,one_mul->ct,lt_or_ge->eB,testBit_or->eg,testBit_two_pow->dU,le_add_right->kA,shiftLeft_eq->iR,add_zero->fj,ne_of_beq_eq_false->il,mul_one->mL,min_comm->mr,min->lH
open Option renaming map_eq_some_iff->ax,getD_some->dh,map_some->dP,map_none->ld
open Option.some renaming injEq->aC
open Prod.mk renaming injEq->gB
namespace Go.Ref
open Go
variable {P:Program} {tq:oK} {E:Env} {X:cc} {s:State} {a:Act} {o:Oper} {u:Out}
inductive Grown(w w':World)(e:TypeId)(k:Nat)(vb v':Value)(cx cy:List Value)(n:Nat):Prop where
 |same (h:w'=w) (hv:v'=vb) (hy:cy=[])
 |room (g cap:Nat) (cur pc:Array Value) (hb:∃m,vb= .slice (some ⟨g,0,none⟩) m cap) (hg:w.heap[g]? =some (.cells cur e (0,0))) (hv:v'= .slice (some ⟨g,0,none⟩) n cap) (hn:n<=cap) (hm:cap<=maxLen)
   (hw:w'=w.setRow g pc) (hs:pc.size=cap*k) (ht:pc.toList.take (n*k)=cx++cy)
 |new (cap:Nat) (pc:Array Value) (hv:v'= .slice (some ⟨w.heap.size,0,none⟩) n cap) (hn:n<=cap) (hm:cap<=maxLen) (hw:w'=w.drew.alloc (.cells pc e)) (hs:pc.size=cap*k) (ht:pc.toList.take (n*k)=cx++cy)
theorem ac3(hE:bO P E){T ty e:TypeId}{t:Ty}(hT:E.ty T=some (.sl e t))(hk:0<t.cells)(wS:E.bytes e≠0){xs ys:List (El t)}{vb vx:Value}{pl:Place}
 (gD:fa X pl e t.cells xs.length vb) {cx cy:List Value} (rx:eI X (.arr xs.length t) xs cx) (sx:∀g m c,vb= .slice (some ⟨g,0,none⟩) m c->∀(i:Nat) v,cx[i]? =some v->X.cn ((⟨g,0,none⟩:Addr).add i) v)
 (ry:eI X (.arr ys.length t) ys cy) (hvx:∃A c,vx= .slice A ys.length c/\(A=none->ys=[])/\∀ad,A=some ad->∀(i:Nat) v,cy[i]? =some v->X.cn (ad.add i) v)
 (hbound:(xs.length+ys.length)*E.bytes e<=140737488355328):
 ∃v' w',(ji #[T,T] ty #[vb,vx]).run P X.w= .ok v' w'/\Grown X.w w' e t.cells vb v' cx cy (xs.length+ys.length)/\(v'= .slice none 0 0->xs.length+ys.length=0):=by
 obtain⟨hu,he⟩:=(hE.ty T _ hT).me;obtain⟨i,hi,hM,ph,hz⟩:=(hE.ty e t he).info;have Oo:(mW t (zo t)).cells.size=t.cells:=by rw[Da (A3 X t)];simp [CQ]
 have EC:cx.length=xs.length*t.cells:=rx.2.1;have Ch:cy.length=ys.length*t.cells:=ry.2.1;have h1:∀u∈cy,u.oneCell'=true:=ry.one;have hle:xs.length+ys.length<=140737488355328:=Nat.le_trans (Nat.le_mul_of_pos_right _ (Nat.pos_of_ne_zero wS)) hbound;have Gq:xs.length+ys.length<=maxLen:=by simp only[maxLen];omega
 obtain⟨A,c,rfl,hA,KW⟩:=hvx;cases A with
 |none=>
  have Cw:=hA rfl;subst Cw;have hcy:cy=[]:=bp (by simpa using Ch);subst hcy;rcases gD with⟨rfl,hn⟩|⟨g,cap,cur,rfl,hg,NW,AO,nB,how⟩
  ·refine⟨.slice none 0 0,X.w,?_,.same rfl rfl rfl,λ_=>by simp [hn]⟩;simp [ji,run_underlying hu,sizeOf,typeInfo,hi,fu,dH]
  ·refine⟨_,X.w,?_,.same rfl rfl rfl,λe=>by cases e⟩;simp [ji,run_underlying hu,sizeOf,typeInfo,hi,fu,dH,NW,storeCells]
 |some ad=>
  have hny:∀j u,cy[j]? =some u->X.w.cell? (ad.add j)=some u:=λj u hj=>(KW ad rfl j u hj).2.1;have uV:∀(old:Nat),(cx.toArray++cy.toArray++Builtin.zeroCells (mW t (zo t)).cells (grownCap X.w (xs.length+ys.length) old e-(xs.length+ys.length))).size=grownCap X.w (xs.length+ys.length) old e*t.cells/\
   (cx.toArray++cy.toArray++Builtin.zeroCells (mW t (zo t)).cells (grownCap X.w (xs.length+ys.length) old e-(xs.length+ys.length))).toList.take ((xs.length+ys.length)*t.cells)=cx++cy:=by
   intro old;have UJ:=grownCap_ge X.w (xs.length+ys.length) old e;refine⟨?_,?_⟩
   ·simp only[Array.size_append,jW,size_zeroCells,Oo,EC,Ch,<-bL];congr 1;omega
   ·have hl:(cx++cy).length=(xs.length+ys.length)*t.cells:=by rw[aF,EC,Ch,bL]
    rw[<-hl];simp only[cW];exact eb
  rcases gD with⟨rfl,hn⟩|⟨g,cap,cur,rfl,hg,NW,AO,nB,how⟩
  ·have Eu:cx=[]:=bp (by rw[EC,hn,Nat.zero_mul]);subst Eu;by_cases hm:ys.length=0
   ·have hcy:cy=[]:=bp (by rw[Ch,hm,Nat.zero_mul]);subst hcy;refine⟨.slice none 0 0,X.w,?_,.same rfl rfl rfl,λ_=>by omega⟩;simp [ji,run_underlying hu,sizeOf,typeInfo,hi,fu,dH,hm,loadCells,loadCellsFrom]
   ·have AU:xs.length=0:=hn;rw[AU,bK] at hbound hle Gq;have hr:=run_append_nil (P:=P) X.w T ty e i (mW t (zo t)) hu hi hz ad ys.length c cy (by rw[hM];exact Ch) hny (by omega) (by omega) (by rw[ph];omega);obtain⟨c1,c2⟩:=uV 0;have UJ:=grownCap_ge X.w (xs.length+ys.length) 0 e;have AO:=grownCap_le_maxLen X.w (xs.length+ys.length) 0 e (by rw[AU,bK];exact Gq);refine⟨_,_,hr,.new (grownCap X.w (xs.length+ys.length) 0 e) _ (by rw[AU,bK]) UJ AO ?_ c1 c2,λe=>by cases e⟩;rw[AU,bK];simp
  ·by_cases wq:xs.length+ys.length<=cap
   ·have lQ:xs.length*i.size+cy.length<=cur.size:=by rw[hM,Ch,nB,<-bL];exact bB _ wq
    have hr:=run_append_room (P:=P) X.w T ty e i hu hi g xs.length cap cur hg ad ys.length c cy (by rw[hM];exact Ch) hny h1 wq lQ;refine⟨_,_,hr,.room g cap cur _ ⟨_,rfl⟩ hg rfl wq AO rfl ?_ ?_,λe=>by cases e⟩
    ·simp only[jW,aF,aU,bF,ff];omega
    ·have wu:cur.toList.take (xs.length*i.size)=cx:=by
      rw[hM];apply bZ;intro q;by_cases hq:q<xs.length*t.cells
      ·rw[bq,if_pos hq];have Ok:=av (l:=cx) (i:=q) (by rw[EC];exact hq);have:=(sx g _ _ rfl q _ Ok).2.1;rw[q7,bK] at this;simp only[bT,hg] at this;rw[Ok];simpa using this
      ·rw[aS (by rw[aU];omega),aS (by omega)]
     have hl:(cx++cy).length=(xs.length+ys.length)*t.cells:=by rw[aF,EC,Ch,bL]
     rw[wu,<-hl];simp only[eb]
   ·have holds:∀j u,cx[j]? =some u->X.w.cell? ((⟨g,0,none⟩:Addr).add j)=some u:=λj u hj=>(sx g _ _ rfl j u hj).2.1;have hr:=run_append_grow (P:=P) X.w T ty e i (mW t (zo t)) hu hi hz ⟨g,0,none⟩ xs.length cap cx (by rw[hM];exact EC) holds ad ys.length c cy (by rw[hM];exact Ch) hny (by omega) (by omega) (growslice_fits (by omega) (by rw[ph];exact hbound));obtain⟨c1,c2⟩:=uV cap;exact⟨_,_,hr,.new _ _ rfl (grownCap_ge _ _ _ _) (grownCap_le_maxLen _ _ _ _ Gq) rfl c1 c2,λe=>by cases e⟩
theorem fa.aah{X:cc}{s:State}{pl:Place}{e:TypeId}{k n:Nat}{v:Value}(h:fa X pl e k n v)(hf:¬lv s pl)(q:Place):∃Y,ng s X Y/\fa Y q e k n v:=by
 rcases h with h|⟨g,cap,cur,h1,h2,h3,h4,h5,h6⟩
 ·exact⟨X,ng.refl s X,.inl h⟩
 ·refine⟨{X with ow:=λg'=>if g'=g then .row q (n*k) else X.ow g'},⟨rfl,rfl,λg'=> ?_⟩,.inr ⟨g,cap,cur,h1,h2,h3,h4,h5,by simp⟩⟩;by_cases e:g'=g
  ·subst e;exact .inr ⟨pl,_,q,h6,hf,by simp⟩
  ·exact .inl (by simp [e])
theorem anc{R:Type}{t t':Ty}{x:El t'}{w:List (List Nat)}{K:El t->ae R}{z:R}(h:(SV.bY t' x w).el t K=some z):∃he:t'.iS t=true,K (Ty.cast he x)=some z:=by
 simp only[SV.el] at h;split at h
 ·rename_i he;exact⟨he,h⟩
 ·cases h
theorem z157(hE:bO P E)(hr:Rel tq X s a){ops:List Oper}{mN:Array Operand}{ts:Array TypeId}(ho:o.op= .call ⟨.builtin .append,mN,ts⟩){C:FuncId->gK Out}(h:act E C ops o s some=some u):cQ P tq X s a o u:=by
 unfold act at h;simp only[ho] at h;split at h
 case h_2=>cases h
 rename_i b x T U AV Ia;have has:mN= #[b,x]:=by rw[<-bW (xs:=mN),AV]
 have tD:ts= #[T,U]:=by rw[<-bW (xs:=ts),Ia]
 subst has tD;have hb:=hr.cP b;have hx:=hr.cP x;unfold TK at h;split at h
 case isTrue=>cases h
 rename_i hTU;have hTU:T=U:=by
  have:T.beq U=true:=by cases Ag:ak T U<;>simp_all
  exact aH this
 subst hTU;split at h
 case h_2=>cases h
 rename_i e t hT;split at h
 case isTrue=>cases h
 rename_i h0;have h0:ak (E.bytes e) 0=false/\ak t.cells 0=false:=by cases h1:ak (E.bytes e) 0<;>cases h2:ak t.cells 0<;>simp_all
 have wS:E.bytes e≠0:=λe0=>by rw[e0] at h0;simp at h0
 have hk:0<t.cells:=by
  rcases Nat.eq_zero_or_pos t.cells with e0|e0
  ·rw[e0] at h0;simp at h0
  ·exact e0
 have key:∀(xs ys:List (El t)) (cl:List (Nat×Nat)) (pl:Place),¬lv (s.close cl) pl->fa X pl e t.cells xs.length (a.eval b)->eI X (.sl e t) xs [a.eval b]->eI X (.sl e t) ys [a.eval x]->
  (xs.length+ys.length)*E.bytes e<=140737488355328->cQ P tq X s a o {v:=[.bY (.sl e t) (xs++ys:List (El t)) [[]]],cl:=cl}:=by
  intro xs ys cl pl KV gD IV uB hbound;obtain⟨A1,c1,GX,Ha⟩:=IV;have e1:a.eval b= .slice A1 xs.length c1:=by simpa using GX
  obtain⟨A2,c2,Oj,OM⟩:=uB;have e2:a.eval x= .slice A2 ys.length c2:=by simpa using Oj
  obtain⟨_,_,cx,rx,_,sx⟩:=zal (X:=X) (e:=e) (show eI X (.sl e t) xs [.slice A1 xs.length c1] from⟨A1,c1,rfl,Ha⟩);obtain⟨_,_,cy,ry,ny,sy⟩:=zal (X:=X) (e:=e) (show eI X (.sl e t) ys [.slice A2 ys.length c2] from⟨A2,c2,rfl,OM⟩);have sx':∀g m c,a.eval b= .slice (some ⟨g,0,none⟩) m c->∀(i:Nat) v,cx[i]? =some v->X.cn ((⟨g,0,none⟩:Addr).add i) v:=by
   intro g m c hv;rw[e1] at hv;injection hv with hA
   exact sx _ hA
  obtain⟨v',w',dK,Io,Ck⟩:=ac3 (ty:=o.type) hE hT hk wS gD rx sx' ry ⟨A2,c2,e2,ny,sy⟩ hbound;have EC:cx.length=xs.length*t.cells:=rx.2.1;have Ch:cy.length=ys.length*t.cells:=ry.2.1;have Oa:(execOp a.eval o).run P X.w= .ok (.value v') w':=by simp only[execOp,ho,resolve,invoke,builtin,ay,aG,aj,ky,bd,eA,dK]
  have fin:∀(Y:cc),Y.w=w'->Mod (s.close cl) X Y->eI Y (.arr (xs.length+ys.length) t) (xs++ys:List (El t)) (cx++cy)->fa Y (.c (o.dst.getD 0) 0 []) e t.cells (xs.length+ys.length) v'->
   eI Y (.sl e t) (xs++ys:List (El t)) [v']->cQ P tq X s a o {v:=[.bY (.sl e t) (xs++ys:List (El t)) [[]]],cl:=cl}:=by
   intro Y hY hm nQ ho2 IA;refine⟨Y,v',.inl (by rw[hY];exact Oa),hm.ext,((hr.close cl).mod hm).fin ⟨[v'],IA,rfl,Ro ?_⟩ (λid t p KU=>by simp at KU)⟩;rw[aF];exact ho2
  cases Io with
  |same h1 h2 h3=>
   subst h2;have hy0:ys=[]:=by
    have:ys.length=0:=by
     rcases Nat.mul_eq_zero.1 (show ys.length*t.cells=0 by rw[<-Ch,h3];rfl) with h|h
     ·exact h
     ·omega
    exact bp this
   subst hy0;obtain⟨Y,vm,hO2⟩:=fa.aah (s:=s.close cl) gD KV (.c (o.dst.getD 0) 0 []);refine fin Y (by rw[vm.w,h1]) vm.mod ?_ (by simpa using hO2) ?_
   ·have:=(K9 rx ry)
    exact this.bE (λ_ _=>vm.cn.1)
   ·rw[List.append_nil];exact eI.bE (λ_ _=>vm.cn.1) (show eI X (.sl e t) xs [a.eval b] from⟨A1,c1,GX,Ha⟩)
  |new cap pc hv hn hm hw hs ht=>
   let Y:cc:=⟨w',λg=>if g=X.w.heap.size then .row (.c (o.dst.getD 0) 0 []) ((xs.length+ys.length)*t.cells) else X.ow g,X.β⟩
   have EA:nO (s.close cl) X Y:=⟨by simp [Y,hw],by simp only[Y,hw];rfl,by simp only[Y,hw];rfl,by simp only[Y,hw];rfl,λg hg=>⟨by simp only[Y];rw[if_neg (by omega)],by simp only[Y,hw];exact kg _ _ _ hg⟩,rfl,λ_ _ _=>rfl⟩
   have cJ:Y.w.heap[X.w.heap.size]? =some (.cells pc e (0,0)):=by simp only[Y,hw];exact heap_alloc_new X.w.drew _
   have how:Y.ow X.w.heap.size= .row (.c (o.dst.getD 0) 0 []) ((xs.length+ys.length)*t.cells):=by simp [Y]
   have de:=(K9 rx ry).bE (λ_ _=>EA.cn);refine fin Y rfl EA.mod de (.inr ⟨_,cap,pc,hv,cJ,hn,hm,hs,how⟩) ?_;rw[hv,<-aF];exact zhl (cs:=cx++cy) cJ (by rw[aF];exact how) (by rw[aF];exact ht) (by rw[aF];exact de) (by rw[aF];exact hn)
  |room g cap cur pc tA hg hv hn hm hw hs ht=>
   obtain⟨m,Ic⟩:=tA;rcases gD with⟨hz,_⟩|⟨g',Em,Np,rL,KO,NW,AO,nB,how⟩
   ·rw[hz] at Ic;cases Ic
   have Im:g'=g:=by rw[Ic] at rL;injection rL with h1;injection h1 with h1;injection h1 with h1;exact h1.symm
   subst Im;have aam:Np=cur:=by rw[hg] at KO;cases KO;rfl
   subst aam;have bR:=De hg;let Y:cc:=⟨w',λk=>if k=g' then .row (.c (o.dst.getD 0) 0 []) ((xs.length+ys.length)*t.cells) else X.ow k,X.β⟩
   have cJ:Y.w.heap[g']? =some (.cells pc e (0,0)):=by simp only[Y,hw];exact setRow_heap X.w g' Np pc e (0,0) hg
   have xD:Y.ow g'= .row (.c (o.dst.getD 0) 0 []) ((xs.length+ys.length)*t.cells):=by simp [Y]
   have nq:∀ad v,X.cn ad v->Y.cn ad v:=by
    intro ad v sD;by_cases heq:ad.block=g'
    ·obtain⟨k1,k2,k3⟩:=sD;rw[heq,how] at k3;have k3:ad.off<xs.length*t.cells:=k3;have had:ad=(⟨g',0,none⟩:Addr).add ad.off:=by rw[q7,bK];cases ad;simp_all
     have Ok:=av (l:=cx) (i:=ad.off) (by rw[EC];exact k3);have Eu:=(sx' g' _ _ Ic ad.off _ Ok).2.1;rw[<-had,k2] at Eu;refine⟨k1,?_,?_⟩
     ·have hq:pc.toList[ad.off]? =some v:=by have:=congrArg (λl=>l[ad.off]?) ht;simp only[bq] at this;have hle:xs.length*t.cells<=(xs.length+ys.length)*t.cells:=bB _ (kA _ _);rw[if_pos (by omega),bj (by rw[EC];exact k3),Ok] at this;rw[this];exact Eu.symm
      simp only[bT,heq,cJ,k1];simpa using hq
     ·rw[heq,xD];have hle:xs.length*t.cells<=(xs.length+ys.length)*t.cells:=bB _ (kA _ _);show ad.off<_;omega
    ·refine⟨sD.1,?_,?_⟩
     ·have:=sD.2.1;simp only[bT,Y,hw] at this⊢;rw[setRow_other X.w g' ad.block pc heq];exact this
     ·simp only[Y];rw[if_neg heq];exact sD.2.2
   have Iy:Mod (s.close cl) X Y:=⟨nq,by simp [Y,hw],by simp only[Y,hw];rfl,by simp only[Y,hw];rfl,by simp only[Y,hw];rfl,rfl,λ_ _ _=>rfl,λk hk=>by
    by_cases heq:k=g'
    ·subst heq;exact .inr ⟨pl,_,how,KV⟩
    ·refine .inl ⟨by simp only[Y];rw[if_neg heq],?_⟩;simp only[Y,hw];exact setRow_other X.w g' k pc heq⟩
   have de:=(K9 rx ry).bE nq;refine fin Y rfl Iy de (.inr ⟨_,cap,pc,hv,cJ,hn,hm,hs,xD⟩) ?_;rw[hv,<-aF];exact zhl (cs:=cx++cy) cJ (by rw[aF];exact xD) (by rw[aF];exact ht) (by rw[aF];exact de) (by rw[aF];exact hn)
 split at h
 ·rename_i rI;rw[rI] at hb;obtain⟨ys,h,Cw⟩:=zz h;cases hd:decide (ag ys*E.bytes e<=140737488355328) with
  |false=>rw[hd] at h;cases h
  |true=>
   rw[hd] at h;cases h;obtain⟨cs,uB,ev⟩:=Cw X _ _ hx;have Ic:a.eval b= .slice none 0 0:=hb;have Cm:cs=[a.eval x]:=by obtain⟨A,c,nB,_⟩:=uB;rw[ev,nB];rfl
   have:=key [] ys [] (.r 0 []) (λhf=>hf) (.inl ⟨Ic,rfl⟩) (by rw[Ic];exact⟨none,0,rfl,aZ _,λj x hj=>by simp at hj⟩) (by rw[<-Cm];exact uB) (by simpa using of_decide_eq_true hd);simpa using this
 ·rename_i t' xs0 E0 rI;rw[rI] at hb;split at h
  case isTrue=>cases h
  rename_i NH;have NH:pU E0 []=true:=by cases Ag:pU E0 []<;>simp_all
  obtain⟨heq,h⟩:=anc h;have:=Ty.cT heq;subst this;obtain⟨ys,h,Cw⟩:=zz h;cases hd:decide ((ag (Ty.cast heq xs0)+ag ys)*E.bytes e<=140737488355328) with
  |false=>rw[hd] at h;cases h
  |true=>
   rw[hd] at h;cases h;obtain⟨cs,uB,ev⟩:=Cw X _ _ hx;have gL:=Hk NH;obtain⟨i,rfl⟩:=alW rI (λe=>by rw[e] at gL;cases gL);obtain⟨cs1,r1,UD,hO⟩:=hb;have Cm:cs=[a.eval x]:=by obtain⟨A,c,nB,_⟩:=uB;rw[ev,nB];rfl
   have GM:cs1=[a.eval (.tmp i)]:=by obtain⟨A,c,nB,_⟩:=r1;rw[UD,nB];rfl
   obtain⟨e',t'',xs',v',_,g1,g2,g3⟩:=hO [] gL;simp only[El.get,aC,Sigma.mk.injEq,Ty.sl.injEq] at g1;obtain⟨⟨rfl,rfl⟩,g1⟩:=g1;cases g1;have rL:v'=a.eval (.tmp i):=by rw[GM] at g2;simpa [Ty.off] using g2.symm
   rw[rL] at g3;exact key xs0 ys [(i,0)] (.c i 0 []) lv.close g3 (by rw[<-GM];exact r1) (by rw[<-Cm];exact uB) (of_decide_eq_true hd)
 ·cases h
end Go.Ref

namespace Go.Ref
open Go
variable {P:Program} {tq:oK} {E:Env} {X:cc} {s:State} {a:Act} {o:Oper} {u:Out}
def cc.obj(X:cc)(r:Nat)(b:Obj):cc:={X with w:={X.w with heap:=X.w.heap.setIfInBounds r b}}
theorem JX{r g:Nat}{b:Obj}(h:g≠r):(X.obj r b).w.heap[g]? =X.w.heap[g]? :=by simp [cc.obj,Ne.symm h]
theorem PQ{r:Nat}{b b':Obj}(h:X.w.heap[r]? =some b'):(X.obj r b).w.heap[r]? =some b:=(MapKept.heap_set h).1
theorem J2{r id:Nat}{b:Obj}(h:X.ow r= .box id){ad:Addr}{v:Value}(hs:X.cn ad v):(X.obj r b).cn ad v:=by
 have fS:ad.block≠r:=λe=>by have:=hs.2.2;rw[e,h] at this;exact this
 refine⟨hs.1,?_,hs.2.2⟩;have:=hs.2.1;simp only[bT] at this⊢;rw[JX fS];exact this
theorem Rm{r id:Nat}{b:Obj}(h:X.ow r= .box id):Ext X (X.obj r b) where
 cn:=λ_ _=>J2 h
 size:=by simp [cc.obj]
 os:=rfl
 tape:=rfl
 output:=rfl
 β0:=rfl
 still:=λg _ gy=>by
  have fS:g≠r:=λe=>by rw[e,h] at gy;exact gy
  exact⟨rfl,JX fS⟩
theorem fa.obj{r id:Nat}{b:Obj}(h:X.ow r= .box id){pl:Place}{e:TypeId}{k n:Nat}{v:Value}(ho:fa X pl e k n v):fa (X.obj r b) pl e k n v:=by
 rcases ho with ho|⟨g,cap,cur,h1,h2,h3,h4,h5,h6⟩
 ·exact .inl ho
 ·have fS:g≠r:=λe=>by rw[e,h] at h6;cases h6
  exact .inr ⟨g,cap,cur,h1,(JX fS).trans h2,h3,h4,h5,h6⟩
theorem eO.obj{r id:Nat}{b:Obj}(h:X.ow r= .box id){pl:List Nat->Place}{t:Ty}{x:El t}{c:List Value}{own:List (List Nat)}(ho:eO X pl t x c own):eO (X.obj r b) pl t x c own:=λp hp=>by obtain⟨e,t',xs,v,g0,g1,g2,g3⟩:=ho p hp;exact⟨e,t',xs,v,g0,g1,g2,g3.obj h⟩
theorem cw.obj{r id:Nat}{b:Obj}(h:X.ow r= .box id){pl:List Nat->Place}{sv:SV}{v:Value}(hk:∀dX c d j,sv= .fc dX c d j->dX≠id)(hr:cw X pl sv v):cw (X.obj r b) pl sv v:=by
 cases sv with
 |bY t x own=>obtain⟨c,h1,h2,h3⟩:=hr;exact⟨c,h1.bE (λ_ _=>J2 h),h2,h3.obj h⟩
 |view t x=>obtain⟨ad,c,h1,h2,h3,h4⟩:=hr;exact⟨ad,c,h1,h2,h3.bE (λ_ _=>J2 h),λi u hi=>J2 h (h4 i u hi)⟩
 |cap f t x u y=>exact AA (λ_ _=>J2 h) hr
 |fc dX c d j=>
  obtain⟨r',h1,h2,h3⟩:=hr;have fS:r'≠r:=λe=>by rw[e,h] at h2;injection h2 with h2;exact hk dX c d j rfl h2.symm
  refine⟨r',h1,h2,?_⟩;simp only[bT] at h3⊢;rw[show(X.obj r b).w.heap[r']? =X.w.heap[r']? from JX fS];exact h3
 |_=>exact hr
theorem Rel.obj{r id:Nat}{B B':fp}{b:Obj}(hr:Rel tq X s a)(hb:s.bs[id]? =some (some B))(hβ:X.β id=some r)(h:X.ow r= .box id)(hB:fq (X.obj r b) id r B')(hg:B.t.nI=false\/ []∈B.own):Rel tq (X.obj r b) (s.cG (some (id,B'))) a where
 size:=hr.size
 pW:=by simpa [State.cG] using hr.pW
 gC:=λi l v hl hv=>(hr.gC i l v hl hv).ru λj sv u hm sD=>sD.obj h (λdX c d k e e2=>hr.xK hb hg i l c d k hl (e2▸e▸aL hm))
 boxes:=λdX B2 ll=>by
  have bR:id<s.bs.length:=(aA.1 hb).1;simp only[State.cG,az] at ll;by_cases e:id=dX
  ·subst e;rw[if_pos rfl,if_pos bR] at ll;cases ll;exact⟨r,hβ,hB⟩
  ·rw[if_neg e] at ll;obtain⟨r',h1,h4,h2⟩:=hr.boxes dX B2 ll;have fS:r'≠r:=λe2=>by rw[e2,h] at h4;cases h4;exact e rfl
   exact⟨r',h1,h4,h2.move (λ_ _=>J2 h) (JX fS) (λcs h5=>h5.obj h) λ_ _ g o _ ho hw=>⟨(JX (λe3=>by rw[e3,h] at hw;cases hw)).trans ho,hw⟩⟩
 live:=λi l dX t p hi hm=>by
  have bR:id<s.bs.length:=(aA.1 hb).1;obtain⟨B2,ll⟩:=hr.live i l dX t p hi hm;simp only[State.cG,az];by_cases e:id=dX
  ·subst e;exact⟨B',by rw[if_pos rfl,if_pos bR]⟩
  ·rw[if_neg e];exact⟨B2,ll⟩
 defers:=hr.defers
 fc:=hr.fc.cG (hr.xK hb hg)
 km:=hr.km.Av (by rw[h];exact λe=>e) (λb hb=>JX hb) rfl
def cc.tP(X:cc)(b:Obj)(w:Ow)(β:Nat->ae Nat):cc:={w:=X.w.alloc b,ow:=λg=>if g=X.w.heap.size then w else X.ow g,β}
theorem zz5(X:cc)(s:State)(b:Obj)(w:Ow)(β:Nat->ae Nat)(hβ0:β 0=X.β 0)(hβ:∀(id:Nat) B,s.bs[id]? =some (some B)->β id=X.β id):nO s X (X.tP b w β) where
 size:=by simp [cc.tP]
 os:=rfl
 tape:=rfl
 output:=rfl
 vR:=λg hg=>⟨by simp only[cc.tP];rw[if_neg (by omega)],kg _ _ _ hg⟩
 β0:=hβ0
 β:=hβ
theorem zgm(hr:Rel tq X s a){t p:Ty}{x:El t}{b:Obj}{v:Value}(dK:(execOp a.eval o).run P X.w= .ok (.value v) (X.w.alloc b))
 (NI:∀Y:cc,(∀ad v,X.cn ad v->Y.cn ad v)->Y.w.heap[X.w.heap.size]? =some b->∀pl,mA Y X.w.heap.size pl t x []) (xG:wG p [] X.w.heap.size v) (h:tj s o.dst t x p some=some u):cQ P tq X s a o u:=by
 unfold tj at h;split at h
 case h_2=>cases h
 rename_i d hd;split at h
 case h_2=>cases h
 rename_i hb;cases h;let β:Nat->ae Nat:=λid=>if id=d+1 then some X.w.heap.size else X.β id;have bR:d+1<s.bs.length:=(aA.1 hb).1;have hk:nO s X (X.tP b (.box (d+1)) β):=zz5 X _ _ _ _ (by show(if _ then _ else _)=_;rw[if_neg (by omega)]) (λid B hB=>by show(if id=d+1 then _ else _)=_;rw[if_neg (λe=>by rw[e,hb] at hB;cases hB)])
 have fP:fq (X.tP b (.box (d+1)) β) (d+1) X.w.heap.size ⟨t,x,[]⟩:=⟨by simp [cc.tP],NI _ (λ_ _=>hk.cn) (heap_alloc_new X.w _) _⟩
 have hβd:β (d+1)=some X.w.heap.size:=by show(if d+1=d+1 then _ else _)=_;rw[if_pos rfl]
 have nQ:=(hr.lV hk).oq bR hb hβd fP;refine⟨X.tP b (.box (d+1)) β,v,.inl dK,hk.ext,?_⟩;rw[hd];refine nQ.put (λd' e=> ?_) (λid t' q hm=> ?_)
 ·cases e;exact⟨X.w.heap.size,hβd,xG⟩
 ·have:id=d+1:=by have:=hm;simp at this;exact this.1
  subst this;exact⟨⟨t,x,[]⟩,by simp [State.cG,az,bR]⟩
def td:(t:Ty)->El t->Value
 | .bool,b=> .bool b
 | .int k,n=> .int k n
 | .str,x=> .string x
 |_,_=>aW
def Ty.qQ:Ty->Bool
 | .bool| .int _| .str=>true
 |_=>false
theorem zog{t:Ty}(hk:t.qQ=true){x:El t}{v:Value}(h:nz X t x v):v=td t x:=by
 obtain⟨cs,h1,h2⟩:=h;cases t<;>simp [Ty.qQ] at hk
 ·rw[h2,Dd h1];rfl
 ·rw[h2,uG h1];rfl
 ·rw[h2,wQ h1];rfl
theorem Si{T:TypeId}{t:Ty}(hE:bO P E)(hT:E.ty T=some t)(hk:t.qQ=true)(x:El t):∃d,P.underlying T=some d/\lZ d (td t x)/\∀y,kb d (td t x) (td t y)=some (pf t x y):=by
 have hu:=(hE.ty T t hT).me;cases t<;>simp [Ty.qQ] at hk
 ·have hu:P.underlying T=some .bool:=hu;exact⟨_,hu,trivial,λy=>by cases x<;>cases y<;>rfl⟩
 ·have hu:P.underlying T=some (.int _):=hu;refine⟨_,hu,by simp [lZ,td],λy=> ?_⟩;simp only[kb,td,if_true,pf];congr 1
 ·have hu:P.underlying T=some .string:=hu;refine⟨_,hu,trivial,λy=> ?_⟩;simp only[kb,td,pf];congr 1;by_cases e:x=y
  ·rw[decide_eq_true e];exact(MapKept.bytes_beq _ _).2 e
  ·rw[decide_eq_false e];cases hb:(x==y) with
   |false=>rfl
   |true=>exact absurd ((MapKept.bytes_beq _ _).1 hb) e
theorem Pu{kt vt:Ty}{d:TypeDesc}{k:El kt}(hk:kt.qQ=true)(hs:∀y,kb d (td kt k) (td kt y)=some (pf kt k y)):∀(es:List MapEntry) (xs:List (El kt×El vt)) (i:Nat),es.length=xs.length->
 (∀(i:Nat) q e,xs[i]? =some q->es[i]? =some e->nz X kt q.1 e.key/\nz X vt q.2 e.val)->
 (n8 (pf kt) xs k=false/\n7 (pf kt) (El.gG vt) xs k=El.gG vt/\lW d (td kt k) es i=some none)\/(n8 (pf kt) xs k=true/\∃j v,lW d (td kt k) es i=some (some (j,v))/\nz X vt (n7 (pf kt) (El.gG vt) xs k) v)
 | [],[],i,_,_=> .inl ⟨rfl,rfl,rfl⟩
 |e::es,q::xs,i,hl,hp=>by
  obtain⟨h1,h2⟩:=hp 0 q e rfl rfl;have hke:=zog hk h1;have rK:=hs q.1;rw[<-hke] at rK;simp only[lW,rK,n8,n7];cases heq:pf kt k q.1 with
  |true=>exact .inr ⟨rfl,i,e.val,rfl,h2⟩
  |false=>exact Pu hk hs es xs (i+1) (by simpa using hl) (λi q e hq he=>hp (i+1) q e (by simpa using hq) (by simpa using he))
 | [],_::_,_,hl,_=>by simp at hl
 |_::_,[],_,hl,_=>by simp at hl
theorem zrz:∀{t:Ty},t.qu=true->t.depth<=2
 | .unit,_=>by decide
 | .pair (.int _) b,h=>by have:=zrz (t:=b) h;simp only[Ty.depth];omega
theorem Rf:∀{t:Ty},t.qu=true->∀x y:El t,mH t x y=some (CY t x y)
 | .unit,_,_,_=>rfl
 | .pair (.int _) b,h,x,y=>by have:=Rf (t:=b) h x.2 y.2;simp only[mH,this,CY]
theorem qh(hE:bO P E){xs:Array Value}(w:World)(em:Bool)(n:Nat):
 ∀(fl:List Field) (t:Ty) (off:Nat),rW E fl t off->t.qu=true->∀(x:El t) (c1:List Value),eI X t x c1->(xs.toList.drop off).take t.cells=c1->
  (forIn fl () λ(f:Field) (_:Unit)=>(if f.name≠ "_" then do
    let __do_lift<-part f.type xs f.offset
    jB em (n+1) f.type __do_lift
    pure (ForInStep.yield ()) else pure (ForInStep.yield ()):Sem (ForInStep Unit))).run P w= .ok () w:=by
 intro fl
 induction fl with
 |nil=>intro t off hf hi x c1 h1 h3;simp [List.forIn_nil]
 |cons f fl ihl=>
  intro t off hf hi x c1 h1 h3;cases t<;>simp only[rW] at hf<;>try exact hf.elim
  rename_i ta tb;obtain⟨ho,KY,hn,fF⟩:=hf;obtain⟨ca,cb,e1,ra,rb⟩:=h1;have la:=ra.len;have t1:(xs.toList.drop off).take ta.cells=ca:=by have:=congrArg (λl=>l.take ta.cells) (h3.trans e1);simp only[List.take_take,Ty.cells] at this;rw[bN (kA _ _),<-la,eb] at this;rw[<-la];exact this
  have u1:(xs.toList.drop (off+ta.cells)).take tb.cells=cb:=by have:=congrArg (λl=>l.drop ta.cells) (h3.trans e1);simp only[Ty.cells] at this;rw[List.drop_take,cp,List.drop_drop,<-la,List.drop_left] at this;rw[<-la];exact this
  have xE:=J3 hE KY ra (all:=xs) (off:=f.offset) (by rw[ho];exact t1) w;cases ta<;>simp [Ty.qu] at hi;rename_i k;have hu:P.underlying f.type=some (.int k):=(hE.ty f.type _ KY).me;have KL:(jB em (n+1) f.type (mW (.int k) ca)).run P w= .ok () w:=by rw[uG ra];exact lj hu (by simp [lZ]) em n
  rw[List.forIn_cons];simp only[hn,ne_eq,not_false_eq_true,if_true,ay,xE,KL,aj,aG];exact ihl tb _ fF hi x.2 cb rb u1
theorem zz6{T:TypeId}{t:Ty}(hE:bO P E)(hT:E.ty T=some t)(hk:t.isKey=true){x:El t}{v:Value}(h:nz X t x v)(em:Bool)(w:World):(jB em 10000 T v).run P w= .ok () w:=by
 cases h1:t.qQ with
 |true=>obtain⟨d,hd,UK,_⟩:=Si hE hT h1 x;rw[zog h1 h];exact lj hd UK em 9999
 |false=>have hu:=(hE.ty T t hT).me;cases t<;>simp [Ty.isKey,Ty.qQ] at hk h1;rename_i ta tb;obtain⟨fs,qO,rl,UR,_⟩:=hu;obtain⟨cs,hr,rfl⟩:=h;rw[sw rfl];unfold jB;simp only[ay,run_underlying qO,aj];rw[<-Array.forIn_toList];have:=qh (X:=X) hE (xs:=cs.toArray) w em 9998 fs.toList (.pair ta tb) 0 rl hk x cs hr (by have:=hr.len;simp only[List.drop_zero];rw[<-this];exact List.take_length);exact(congrArg (λr=>Result.andThen r (λa w'=>Sem.run P (pure ()) w')) this).trans (by simp)
theorem zmh(hE:bO P E){T:TypeId}{kt vt:Ty}(hT:E.ty T=some kt)(hk:kt.qu=true){k:El kt}{v:Value}(h:nz X kt k v)(w:World):∀(es:List MapEntry) (xs:List (El kt×El vt)) (i:Nat),es.length=xs.length->
 (∀(i:Nat) q e,xs[i]? =some q->es[i]? =some e->nz X kt q.1 e.key/\nz X vt q.2 e.val)->
 (n8 (CY kt) xs k=false/\n7 (CY kt) (El.gG vt) xs k=El.gG vt/\(iN T v es i).run P w= .ok none w)\/(n8 (CY kt) xs k=true/\∃j u,(iN T v es i).run P w= .ok (some (j,u)) w/\nz X vt (n7 (CY kt) (El.gG vt) xs k) u)
 | [],[],i,_,_=> .inl ⟨rfl,rfl,by simp [iN]⟩
 |e::es,q::xs,i,hl,hp=>by
  obtain⟨h1,h2⟩:=hp 0 q e rfl rfl;obtain⟨c1,r1,rfl⟩:=h;obtain⟨c2,r2,e2⟩:=h1;have heq:(Op.equal T (mW kt c1) e.key).run P w= .ok (CY kt k q.1) w:=by rw[e2];exact zyl (X:=X) hE w 10000 kt T hT (Nat.le_trans (zrz hk) (by decide)) k q.1 c1 c2 _ r1 r2 (Rf hk k q.1)
  unfold iN;simp only[ay,heq,aj,n8,n7];cases heq:CY kt k q.1 with
  |true=>exact .inr ⟨rfl,i,e.val,by simp,h2⟩
  |false=>exact zmh hE hT hk ⟨c1,r1,rfl⟩ w es xs (i+1) (by simpa using hl) (λi q e hq he=>hp (i+1) q e (by simpa using hq) (by simpa using he))
 | [],_::_,_,hl,_=>by simp at hl
 |_::_,[],_,hl,_=>by simp at hl
theorem PF(hE:bO P E){T:TypeId}{kt vt:Ty}(hT:E.ty T=some kt)(hk:kt.isKey=true){k:El kt}{v:Value}(h:nz X kt k v)(w:World)(es:List MapEntry)(xs:List (El kt×El vt))(hl:es.length=xs.length)
 (hp:∀(i:Nat) q e,xs[i]? =some q->es[i]? =some e->nz X kt q.1 e.key/\nz X vt q.2 e.val):
 (n8 (pf kt) xs k=false/\n7 (pf kt) (El.gG vt) xs k=El.gG vt/\(Instr.findKey T v es).run P w= .ok none w)\/(n8 (pf kt) xs k=true/\∃j u,(Instr.findKey T v es).run P w= .ok (some (j,u)) w/\nz X vt (n7 (pf kt) (El.gG vt) xs k) u):=by
 cases h1:kt.qQ with
 |true=>
  obtain⟨d,hd,UK,rK⟩:=Si hE hT h1 k;rw[zog h1 h];rcases Pu (X:=X) h1 rK es xs 0 hl hp with⟨g1,g2,g3⟩|⟨g1,j,u,g3,g4⟩
  ·exact .inl ⟨g1,g2,lG hd g3⟩
  ·exact .inr ⟨g1,j,u,lG hd g3,g4⟩
 |false=>have hu:=(hE.ty T kt hT).me;cases kt<;>simp [Ty.isKey,Ty.qQ] at hk h1;rename_i ta tb;obtain⟨fs,qO,_⟩:=hu;have e:=run_findKey_eq (P:=P) w (k:=T) (by rw[qO]) v es;have:=zmh (X:=X) hE hT hk h w es xs 0 hl hp;rw[e];exact this
theorem zs7{T:TypeId}{kt vt:Ty}(hE:bO P E)(h:wC E T=some (kt,vt)):∃k e,P.underlying T=some (.map k e)/\E.ty k=some kt/\E.ty e=some vt/\kt.isKey=true:=by
 unfold wC at h;split at h
 case h_2=>cases h
 rename_i k e hm;split at h
 case h_2=>cases h
 rename_i kt' vt' h1 h2;split at h
 case isFalse=>cases h
 rename_i hk;cases h;exact⟨k,e,hE.mp T k e hm,h1,h2,hk⟩
theorem zmr{m:Operand}{kt vt:Ty}{R:Type}{K:Nat->List (El kt×El vt)->ae R}{z:R}(hr:Rel tq X s a)(h:Dh s (s.cP m) kt vt K=some z):
 ∃id B r xs,K id xs=some z/\s.bs[id]? =some (some B)/\X.β id=some r/\X.ow r= .box id/\a.eval m= .map (some r)/\B.t.nI=false/\∃es clock,X.w.heap[r]? =some (.map es clock)/\es.size=xs.length/\
  ∀(i:Nat) (q:El kt×El vt) (e:MapEntry),xs[i]? =some q->es[i]? =some e->nz X kt q.1 e.key/\nz X vt q.2 e.val:=by
 have hx:=hr.cP m;unfold Dh at h;split at h
 case h_2=>cases h
 rename_i id kt' vt' hm;rw[hm] at hx;obtain⟨r,hβ,hv⟩:=hx;split at h
 case isFalse=>cases h
 split at h
 case h_2=>cases h
 rename_i B hB;split at h
 case isFalse=>cases h
 rename_i l8;have hb:=yV hB;obtain⟨r',h1,h2,h3⟩:=hr.boxes id B hb;rw[hβ] at h1;cases h1;refine⟨id,B,r,_,h,hb,hβ,h2,hv,by rw[Ty.cT l8];rfl,?_⟩;obtain⟨bt,bx,bo⟩:=B;have e:=Ty.cT l8;simp only at e;subst e;exact h3
theorem ab6(hE:bO P E)(hr:Rel tq X s a){ops:List Oper}{T:TypeId}{rs:ae Operand}(ho:o.op= .makeMap T rs){C:FuncId->gK Out}(h:act E C ops o s some=some u):cQ P tq X s a o u:=by
 unfold act at h;cases rs with
 |some r=>simp only[ho] at h;cases h
 |none=>
  simp only[ho] at h;split at h
  case h_2=>cases h
  rename_i kt vt hm;refine zgm hr (t:= .dJ .mp kt vt) (p:= .dJ .mp kt vt) (x:=([]:List (El kt×El vt))) (b:= .map #[] 0) (v:= .map (some X.w.heap.size)) ?_ (λY _ hY pl=>⟨#[],0,hY,rfl,λi q e hq=>by simp at hq⟩) rfl h;simp [execOp,ho,Instr.makeMap]
theorem acu(hE:bO P E)(hr:Rel tq X s a){ops:List Oper}{T:TypeId}{x i:Operand}{ok:Bool}(ho:o.op= .lookup T x i ok){C:FuncId->gK Out}(h:act E C ops o s some=some u):cQ P tq X s a o u:=by
 unfold act at h;cases ok with
 |true=>simp only[ho] at h;cases h
 |false=>
  simp only[ho] at h;unfold uo at h;split at h
  case h_2=>cases h
  rename_i kt vt hm;obtain⟨k,e,hu,hk,he,Cf⟩:=zs7 hE hm;obtain⟨id,B,r,xs,h,hb,hβ,how,hv,hBg,es,clock,cJ,lL,oF⟩:=zmr hr h;obtain⟨key,h,hkv⟩:=zz h;cases h;obtain⟨ck,rk,evk⟩:=hkv X _ _ (hr.cP i);have KL:=zz6 hE hk Cf (X:=X) (x:=key) ⟨ck,rk,evk⟩ es.isEmpty X.w;rcases PF (X:=X) hE hk Cf (k:=key) ⟨ck,rk,evk⟩ X.w es.toList xs (by simpa using lL) (λi q e hq he=>oF i q e hq (by simpa using he)) with⟨g1,g2,hf⟩|⟨g1,j,v,hf,g4⟩
  ·rw[g2];have hz:=V2 (P:=P) hE he X.w;refine cQ.plain hr (v:=mW vt (zo vt)) ?_ (HB (A3 X vt)) (λ_ _ _ e'=>by cases e');simp only[execOp,ho,ay,Instr.lookup,run_underlying hu,aj,hv,ii cJ,aG,KL,hf,hz,cK,if_false]
  ·obtain⟨cv,rv,ev⟩:=g4;refine cQ.plain hr (v:=v) ?_ ⟨cv,rv,ev,vu⟩ (λ_ _ _ e'=>by cases e');simp only[execOp,ho,ay,Instr.lookup,run_underlying hu,aj,hv,ii cJ,aG,KL,hf,cK,if_false]
theorem Pp(hE:bO P E)(hr:Rel tq X s a){T:TypeId}{m k x:Operand}(ho:(execOp a.eval o).run P X.w=((Instr.mapUpdate T (a.eval m) (a.eval k) (a.eval x)).run P X.w).andThen λ_ w=> .ok .skip w)(h:vh E T s (s.cP m) (s.cP k) (s.cP x) some=some u):cQ P tq X s a o u:=by
 unfold vh at h;split at h
 case h_2=>cases h
 rename_i kt vt hm;obtain⟨kT,eT,hu,hk,he,Cf⟩:=zs7 hE hm;obtain⟨id,B,r,xs,h,hb,hβ,how,hv,hBg,es,clock,cJ,lL,oF⟩:=zmr hr h;obtain⟨key,h,hkv⟩:=zz h;obtain⟨y,h,hyv⟩:=zz h;obtain⟨ck,rk,H5⟩:=hkv X _ _ (hr.cP k);obtain⟨cy,ry,evy⟩:=hyv X _ _ (hr.cP x);have KL:=zz6 hE hk Cf (X:=X) (x:=key) ⟨ck,rk,H5⟩ false X.w;rcases PF (X:=X) hE hk Cf (k:=key) ⟨ck,rk,H5⟩ X.w es.toList xs (by simpa using lL) (λi q e hq he=>oF i q e hq (by simpa using he)) with⟨g1,g2,hf⟩|⟨g1,j,v,hf,g4⟩
 ·rw[g1] at h;cases h;let new:Obj:= .map (es.push {key:=a.eval k,val:=a.eval x,born:=clock}) (clock+1);have dK:(execOp a.eval o).run P X.w= .ok .skip (X.obj r new).w:=by rw[ho];simp only[Instr.mapUpdate,ay,run_underlying hu,aj,hv,ii cJ,KL,hf,MapKept.run_setObj_map _ cJ];simp only[new];rfl
  have fP:fq (X.obj r new) id r ⟨.dJ .mp kt vt,(xs++ [(key,y)]:List (El kt×El vt)),[]⟩:=by
   refine⟨how,es.push {key:=a.eval k,val:=a.eval x,born:=clock},clock+1,PQ cJ,by simp [lL],λi q e hq he=> ?_⟩;have hs:∀ad v,X.cn ad v->(X.obj r new).cn ad v:=λ_ _=>J2 how;have hq:(xs++ [(key,y)])[i]? =some q:=hq;rw[List.getElem?_append] at hq;rw[Array.getElem?_push] at he;split at hq
   ·rename_i bR;rw[if_neg (by omega)] at he;obtain⟨j1,j2⟩:=oF i q e hq he;exact⟨j1.mono hs,j2.mono hs⟩
   ·rename_i bR;have hi:i-xs.length=0:=by have:=(aA.1 hq).1;simp at this;omega
    rw[hi] at hq;cases hq;rw[if_pos (by omega)] at he;cases he;exact⟨nz.mono hs ⟨ck,rk,H5⟩,nz.mono hs ⟨cy,ry,evy⟩⟩
  exact⟨X.obj r new,aW,.inr ⟨dK,rfl⟩,Rm how,(hr.obj hb hβ how fP (.inl hBg)).skip o.dst⟩
 ·rw[g1] at h;cases h
theorem zc4(hE:bO P E)(hr:Rel tq X s a){ops:List Oper}{T:TypeId}{m k x:Operand}(ho:o.op= .mapUpdate T m k x\/o.op= .insert T m k x){C:FuncId->gK Out}(h:act E C ops o s some=some u):cQ P tq X s a o u:=by
 unfold act at h;rcases ho with ho|ho
 ·simp only[ho] at h;exact Pp hE hr (by simp [execOp,ho]) h
 ·simp only[ho] at h;exact Pp hE hr (by simp [execOp,ho]) h
theorem z196(hE:bO P E)(hr:Rel tq X s a){ops:List Oper}{T:TypeId}{x:Operand}(ho:o.op= .range T x){C:FuncId->gK Out}(h:act E C ops o s some=some u):cQ P tq X s a o u:=by
 unfold act at h;simp only[ho] at h;split at h
 case h_2=>cases h
 rename_i hT;obtain⟨y,h,hy⟩:=zz h;obtain⟨cs,ry,ev⟩:=hy X _ _ (hr.cP x);rw[wQ ry] at ev;have hu:=(hE.ty T _ hT).me;refine zgm hr (t:=tc) (p:=tc) (x:=((y,0):af×Nat)) (b:= .stringIter y 0) (v:= .pointer (some ⟨X.w.heap.size,0,none⟩)) ?_ (λY _ hY pl=>hY) ⟨rfl,trivial⟩ h;simp [execOp,ho,Instr.range,run_underlying hu,ev]
theorem afP(hr:Rel tq X s a){ops:List Oper}{x:Operand}{str:Bool}(ho:o.op= .next x str){C:FuncId->gK Out}(h:act E C ops o s some=some u):cQ P tq X s a o u:=by
 unfold act at h;cases str with
 |false=>simp only[ho] at h;cases h
 |true=>
  simp only[ho] at h;unfold uu at h;have hx:=hr.cP x;split at h
  case h_2=>cases h
  rename_i id hm;rw[hm] at hx;obtain⟨r,hβ,hv,_⟩:=hx;split at h
  case h_2=>cases h
  rename_i B hB;split at h
  case isFalse=>cases h
  rename_i l8;have hb:=yV hB;obtain⟨r',h1,how,h3⟩:=hr.boxes id B hb;rw[hβ] at h1;cases h1;have cJ:X.w.heap[r]? =some (.stringIter (Ty.cast l8 B.x:af×Nat).1 (Ty.cast l8 B.x:af×Nat).2):=by obtain⟨bt,bx,bo⟩:=B;have e:=Ty.cT l8;simp only at e;subst e;exact h3
  generalize(Ty.cast l8 B.x:af×Nat)=q at*;obtain⟨st,pos⟩:=q;simp only at h cJ;have hv:a.eval x= .pointer (some ⟨r,0,none⟩):=by simpa [Ty.off] using hv
  have jH:(getObj r).run P X.w= .ok (.stringIter st pos) X.w:=by simp [getObj,Sem.run,cJ]
  cases bR:decide (pos<st.size) with
  |false=>rw[bR] at h;cases h;have bR:=of_decide_eq_false bR;refine cQ.plain hr (sv:= .over) (v:= .tuple #[.bool false]) ?_ rfl (λ_ _ _ e'=>by cases e');simp only[execOp,ho,ay,Instr.next,hv,jH,aj,if_neg bR,aG]
  |true=>
   rw[bR] at h;cases h;have bR:=of_decide_eq_true bR;let new:Obj:= .stringIter st (pos+(dw st pos).2);have oo:(setObj r new).run P X.w= .ok () (X.obj r new).w:=by simp [setObj,Sem.run,cJ,cc.obj]
   have fP:fq (X.obj r new) id r ⟨tc,((st,pos+(dw st pos).2):af×Nat),[]⟩:=⟨how,PQ cJ⟩
   have nQ:=hr.obj hb hβ how fP (.inl (by rw[Ty.cT l8];rfl));refine⟨X.obj r new,.tuple #[.bool true,.int .i64 pos,.int .i32 (dw st pos).1],.inl ?_,Rm how,?_⟩
   ·simp only[execOp,ho,ay,Instr.next,hv,jH,aj,if_pos bR,aG];simp only[new] at oo;rw[oo];rfl
   ·refine nQ.put (λd' e=>⟨_,rfl,rfl,λj sv v hj hv=> ?_⟩) (λid t' q hm=>by simp at hm)
    match j with
    |0=>cases hj;cases hv;exact wN
    |1=>cases hj;cases hv;exact rV
    |2=>cases hj;cases hv;exact rV
    |j+3=>simp at hj
theorem ajW{t:Ty}{k:Nat}(hk:(zo t).length=k)(n:Nat):((fH (n*k)).map λi=>(zo t).toArray[i % (zo t).toArray.size]!).size=n*k/\
 ∀j,j<n->((((fH (n*k)).map λi=>(zo t).toArray[i % (zo t).toArray.size]!).toList.drop (j*k)).take k)=zo t:=by
 refine⟨by simp,λj hj=> ?_⟩;apply bZ;intro i;rw[bq];split
 ·rename_i hi;have bR:j*k+i<n*k:=by have:(j+1)*k<=n*k:=bB _ hj;rw[bL,ct] at this;omega
  have Iy:(j*k+i)% k=i:=by rw[Nat.mul_comm,Nat.mul_add_mod,Nat.mod_eq_of_lt hi]
  rw[bJ,bz,Array.getElem?_map,Array.getElem?_range,if_pos bR];simp only[dP,jW,hk,Iy];rw[av (by omega)];simp [getElem!_def,av (show i<(zo t).length by omega)]
 ·rename_i hi;rw[aS (by omega)]
theorem PI(hE:bO P E){T e:TypeId}{t:Ty}(hT:E.ty T=some (.sl e t))(hk:t.cells≠0)(wS:E.bytes e≠0){n m:Int}(hn:0<=n)(hnm:n<=m)(hb:m*E.bytes e<=140737488355328)(w:World):
 m.toNat<=maxLen/\∃cur,cur.size=m.toNat*t.cells/\(∀j,j<m.toNat->(cur.toList.drop (j*t.cells)).take t.cells=zo t)/\
  (Instr.makeSlice T (.int .i64 n) (.int .i64 m)).run P w= .ok (.slice (some ⟨w.heap.size,0,none⟩) n.toNat m.toNat) (w.alloc (.cells cur e)):=by
 obtain⟨hu,he⟩:=(hE.ty T _ hT).me;obtain⟨i,hi,hM,ph,hz⟩:=(hE.ty e t he).info;have hle:m<=m*E.bytes e:=by
  have h1:(1:Int)<=E.bytes e:=by omega
  have:=Int.mul_le_mul_of_nonneg_left h1 (show 0<=m by omega);simpa using this
 have Ix:m.toNat<=maxLen:=by simp only[maxLen];omega
 have uV:(mW t (zo t)).cells=(zo t).toArray:=Da (X:=⟨w,λ_=> .all,λ_=>none⟩) (A3 _ t);obtain⟨z1,z2⟩:=ajW (CQ t) m.toNat;refine⟨Ix,(fH (m.toNat*t.cells)).map (λi=>(zo t).toArray[i % (zo t).toArray.size]!),z1,z2,?_⟩;have UT:IntKind.i64.wrap n=n:=by simp [IntKind.wrap,IntKind.signed,IntKind.bits];omega
 have C4:IntKind.i64.wrap m=m:=by simp [IntKind.wrap,IntKind.signed,IntKind.bits];omega
 have hmul:(i.bytes:Int)*m<=2^48:=by rw[ph,Int.mul_comm];omega
 have c1:¬m<0:=by omega
 have c2:¬(281474976710656:Int)<(i.bytes:Int)*m:=by omega
 have c3:¬n<0:=by omega
 have c4:¬m<n:=by omega
 have hai:∀(n:Int) (w:World),(asInt (.int .i64 n)).run P w= .ok n w:=λn w=>by simp [asInt,asIntOf]
 have hti:∀w:World,(typeInfo e).run P w= .ok i w:=λw=>by simp [typeInfo,hi]
 have po:∀w:World,(sizeOf e).run P w= .ok t.cells w:=λw=>uE hE he w;have hzv:∀w:World,(zeroValue e).run P w= .ok (mW t (zo t)) w:=λw=>V2 hE he w;simp only[Instr.makeSlice,ay,run_underlying hu,aj,hai,hti,UT,C4];by_cases h0:m.toNat*t.cells=0
 ·simp [c1,c2,c3,c4,po,h0,newRow];rw[show fH 0= #[] from rfl];simp
 ·simp [c1,c2,c3,c4,po,h0,hzv,uV,newRow]
theorem zx6(hE:bO P E)(hr:Rel tq X s a){ops:List Oper}{T:TypeId}{l c:Operand}(ho:o.op= .makeSlice T l c){C:FuncId->gK Out}(h:act E C ops o s some=some u):cQ P tq X s a o u:=by
 unfold act at h;simp only[ho] at h;unfold ur at h;split at h
 case h_2=>cases h
 rename_i e t hT;split at h
 ·cases h
 rename_i fS;have wS:E.bytes e≠0:=λe0=>fS (by rw[e0];rfl);have hk:t.cells≠0:=λe0=>fS (by rw[e0];simp);obtain⟨n,h,hn⟩:=zz h;obtain⟨m,h,hm⟩:=zz h;obtain⟨_,rn,en⟩:=hn X _ _ (hr.cP l);rw[uG rn] at en;obtain⟨_,rm,em⟩:=hm X _ _ (hr.cP c);rw[uG rm] at em;cases hc:Rg l with
 |true=>
  rw[hc] at h;simp only[cond_true] at h;cases d1:decide (n=0)<;>rw[d1] at h<;>simp only[cond_true,cond_false] at h
  ·cases h
  cases d2:decide (0<=m)<;>rw[d2] at h<;>simp only[cond_true,cond_false] at h
  ·cases h
  cases d3:decide (m*E.bytes e<=140737488355328)<;>rw[d3] at h<;>simp only[cond_true,cond_false] at h
  ·cases h
  cases h;have d1:=of_decide_eq_true d1;have d2:=of_decide_eq_true d2;have d3:=of_decide_eq_true d3;subst d1;obtain⟨Ix,cur,g1,g2,dK⟩:=PI (P:=P) hE hT hk wS (n:=0) (m:=m) (by omega) d2 d3 X.w;have EA:nO s X (X.tP (.cells cur e) (.row (.c (o.dst.getD 0) 0 []) 0) X.β):=zz5 X _ _ _ _ rfl (λ_ _ _=>rfl);refine⟨X.tP (.cells cur e) (.row (.c (o.dst.getD 0) 0 []) 0) X.β,.slice (some ⟨X.w.heap.size,0,none⟩) 0 m.toNat,.inl ?_,EA.ext,(hr.lV EA).fin ⟨[.slice (some ⟨X.w.heap.size,0,none⟩) 0 m.toNat],⟨_,_,rfl,bS _,λj x hj=>by simp at hj⟩,rfl,λp hp=> ?_⟩ (λid t p hm=>by simp at hm)⟩
  ·simp only[execOp,ho,ay,en,em,dK,aj,aG];rfl
  ·have hp:p=[]:=by simpa using hp
   subst hp;refine⟨e,t,[],_,by simp [Ty.nH],rfl,rfl,.inr ⟨X.w.heap.size,m.toNat,cur,rfl,heap_alloc_new X.w _,bS _,Ix,g1,?_⟩⟩;simp [cc.tP]
 |false=>
  rw[hc] at h;simp only[cond_false] at h;cases d1:decide (n=m)<;>rw[d1] at h<;>simp only[cond_true,cond_false] at h
  ·cases h
  cases d2:decide (0<=n)<;>rw[d2] at h<;>simp only[cond_true,cond_false] at h
  ·cases h
  cases d3:decide (n*E.bytes e<=140737488355328)<;>rw[d3] at h<;>simp only[cond_true,cond_false] at h
  ·cases h
  have d1:=of_decide_eq_true d1;have d2:=of_decide_eq_true d2;have d3:=of_decide_eq_true d3;have d1:m=n:=d1.symm;subst d1;obtain⟨Ix,cur,g1,g2,dK⟩:=PI (P:=P) hE hT hk wS (n:=m) (m:=m) d2 (Int.le_refl _) d3 X.w;refine zgm hr (t:= .dJ .row t .unit) (p:= .dJ (.rh m.toNat) t .unit) (x:=(aw m.toNat (El.gG t):List (El t))) (b:= .cells cur e) (v:= .slice (some ⟨X.w.heap.size,0,none⟩) m.toNat m.toNat) ?_ (λY _ hY pl=>⟨cur,e,hY,?_,λj x hj=> ?_⟩) ⟨_,rfl,aZ _⟩ h
  ·simp only[execOp,ho,ay,en,em,dK,aj,aG]
  ·rw[g1];show _=ag (aw _ _)*_;rw[List.length_replicate]
  ·have hj:(aw m.toNat (El.gG t))[j]? =some x:=hj;rw[List.getElem?_replicate] at hj;split at hj
   ·rename_i bR;cases hj;rw[g2 j bR];exact A3 Y t
   ·cases hj
end Go.Ref

namespace Go.Ref
open Go
variable {P:Program} {tq:oK} {E:Env} {X:cc} {s:State} {a:Act} {o:Oper} {u:Out}
theorem aiM(hE:bO P E)(hr:Rel tq X s a){ops:List Oper}{T:TypeId}{x:Operand}{lo hi:ae Operand}(ho:o.op= .slice T x lo hi none){C:FuncId->gK Out}(h:act E C ops o s some=some u):cQ P tq X s a o u:=by
 unfold act at h;simp only[ho] at h;split at h
 ·rename_i id n ta tb mG;split at h
  case h_2=>cases h
  rename_i e t hT;split at h
  case isFalse=>cases h
  rename_i heq;have:=Ty.cT heq;subst this;unfold B4 at h;split at h
  ·cases h
  rename_i NJ;have Ir:hi=none:=by
   cases hi with
   |none=>rfl
   |some _=>cases NJ
  subst Ir;obtain⟨l,h,h1,hl⟩:=zae h;cases h;have hx:=hr.cP x;rw[mG] at hx;obtain⟨r0,hβ,cap,hv,vY⟩:=hx;have hu:=(hE.ty T _ hT).me;have hbd:=zcu (P:=P) (isS:=true) hr hl (hi:=none) (m:=n) (n:=n) (c:=cap) rfl h1 (aZ _) vY X.w;rw[ld] at hbd;refine cQ.plain hr (v:= .slice (if cap=l then some ⟨r0,0,none⟩ else(some (⟨r0,0,none⟩:Addr)).map (·.add (l*ta.cells))) (n-l) (cap-l)) ?_ ⟨r0,hβ,?_⟩ (λ_ _ _ e=>by cases e;exact A5 hr mG)
  ·simp only[execOp,ho,ay,Instr.sliceAt,run_underlying hu.1,aj,Instr.slice,hv,ld,hbd,aG,uE hE hu.2]
  ·show∃Em off,_=Value.slice (some ⟨r0,off,none⟩) (n-l) Em/\_;by_cases e':cap=l
   ·rw[if_pos e'];exact⟨_,_,rfl,by omega,h1,.inl ⟨by omega,rfl⟩⟩
   ·rw[if_neg e'];refine⟨cap-l,l*ta.cells,?_,by omega,h1,.inr rfl⟩;rw[dP,q7,bK]
 ·rename_i id n t mG;have hx:=hr.cP x;rw[mG] at hx;obtain⟨r0,hβ,hv⟩:=hx;unfold Aa at h;split at h
  case h_2=>cases h
  rename_i u' hT Iv NJ;have lo0:lo=none:=by
   cases lo with
   |none=>rfl
   |some _=>cases Iv
  have Ir:hi=none:=by
   cases hi with
   |none=>rfl
   |some _=>cases NJ
  subst lo0 Ir;split at h
  case isFalse=>cases h
  rename_i heq;have:=Ty.cT heq;subst this;split at h
  case h_2=>cases h
  rename_i B hB;split at h
  case isFalse=>cases h
  rename_i l8;cases h;have hb:=yV hB;obtain⟨r,h1,B8⟩:=hr.boxes id B hb;rw[hβ] at h1;cases h1;obtain⟨bt,bx,bo⟩:=B;have e:=Ty.cT l8;simp only at e;subst e;obtain⟨cs,T',cJ,de,how,_⟩:=B8.cells rfl;have hv:a.eval x= .pointer (some ⟨r0,0,none⟩):=by rw[((yU rfl).1 hv).1];rfl
  obtain⟨e,qO,rl,_⟩:=(hE.ty T _ hT).me;have hlen:ag (bx:List (El t))=n:=de.1;have fP:fq X id r0 ⟨.dJ .row t .unit,(bx:List (El t)),[]⟩:=⟨how,cs,T',cJ,by have:=de.2.1;rw[hlen];simpa using this,de.2.2⟩
  have ND:(Ty.cast l8 bx:El (.arr n t))=bx:=rfl;rw[ND];refine⟨X,.slice (some ⟨r0,0,none⟩) n n,.inl ?_,Ext.refl X,(hr.vf hb hβ fP (.inl rfl)).fin ⟨r0,hβ,n,rfl,aZ _⟩ (λdX t' p' hm=> ?_)⟩
  ·simp only[execOp,ho,ay,Instr.sliceAt,run_underlying qO,aj,ld,hv,Instr.sureAddr,aG,uE hE rl];simp [Instr.sliceBounds];intro _;rw[q7]
  ·have AP:SV.ptr dX t' p'= .ptr id (.dJ (.rh n) t .unit) []:=by simpa using hm
   cases AP;exact⟨_,Vr hb⟩
 ·exact afM hE hr ho h
theorem abL(hr:Rel tq X s a){ops:List Oper}{fn:Fn}{fi ca:Array Operand}(ho:o.op= .makeFunc fn fi ca){C:FuncId->gK Out}(h:act E C ops o s some=some u):cQ P tq X s a o u:=by
 unfold act at h;cases fn with
 |func f=>
  simp only[ho] at h;split at h
  case h_3=>cases h
  case h_2=>
   rename_i x y Cc Ie;have Cc:fi= #[]:=by rw[<-bW (xs:=fi),Cc]
   have Ie:ca= #[x,y]:=by rw[<-bW (xs:=ca),Ie]
   subst Cc Ie;unfold BX at h;split at h
   case h_2=>cases h
   rename_i t x1 u' y1 mG Ol;cases h;have hx:=hr.cP x;have hy:=hr.cP y;rw[mG] at hx;rw[Ol] at hy;obtain⟨ad,cs,h1,h2,h3,h4⟩:=hx;obtain⟨yJ,nG,k1,k2,k3,k4⟩:=hy;refine cQ.plain hr (v:= .func (.func f) #[] #[.pointer (some ad),.pointer (some yJ)]) ?_ ⟨ad,yJ,cs,nG,rfl,⟨h2,h3,h4⟩,k2,k3,k4⟩ (λ_ _ _ e=>by cases e);simp [execOp,ho,Instr.makeFunc,h1,k1]
  rename_i x Cc Ie;have Cc:fi= #[]:=by rw[<-bW (xs:=fi),Cc]
  have Ie:ca= #[x]:=by rw[<-bW (xs:=ca),Ie]
  subst Cc Ie;unfold vS at h;split at h
  case h_2=>cases h
  rename_i id u' mG;split at h
  case isTrue=>cases h
  rename_i hs;cases h;have hx:=hr.cP x;rw[mG] at hx;obtain⟨r0,hβ,hv⟩:=hx;have hv:=((S1 (by simpa using hs)).1 hv).1;refine cQ.plain hr (v:= .func (.func f) #[] #[.pointer (some ⟨r0,0,none⟩)]) ?_ ⟨r0,hβ,rfl⟩ (λ_ _ _ e=>by cases e;exact A5 hr mG);have hv:a.eval x= .pointer (some ⟨r0,0,none⟩):=by rw[hv];simp [Ty.off]
  simp [execOp,ho,Instr.makeFunc,hv]
 |_=>simp only[ho] at h;cases h
theorem Pd{t:Ty}{xs:List (El t)}{n l:Nat}{cs:List Value}(h:eI X (.arr n t) xs cs)(hl:l<=n):eI X (.arr l t) (xs.take l:List (El t)) (cs.take (l*t.cells)):=by
 obtain⟨h1,h2,h3⟩:=h;have hm:=bB t.cells hl;refine⟨by rw[aU];omega,by rw[aU];omega,λj y hj=> ?_⟩;have hj:(xs.take l)[j]? =some y:=hj;rw[bq] at hj;split at hj
 case isFalse=>cases hj
 rename_i Ce;have hk:(j+1)*t.cells<=l*t.cells:=bB _ Ce;rw[bL,ct] at hk;have e:((cs.take (l*t.cells)).drop (j*t.cells)).take t.cells=(cs.drop (j*t.cells)).take t.cells:=by rw[List.drop_take,List.take_take,bN (by omega)]
 rw[e];exact h3 j y hj
theorem Pc{t:Ty}{xs:List (El t)}{n l:Nat}{cs:List Value}(h:eI X (.arr n t) xs cs)(hl:l<=n):eI X (.arr (n-l) t) (xs.drop l:List (El t)) (cs.drop (l*t.cells)):=by obtain⟨h1,h2,h3⟩:=h;refine⟨by rw[bF];omega,by rw[bF,Nat.sub_mul];omega,λj y hj=> ?_⟩;have hj:(xs.drop l)[j]? =some y:=hj;rw[bJ] at hj;rw[List.drop_drop,<-bL];exact h3 (l+j) y hj
theorem PW{α:Type}(xs ys:List α)(lo:Nat)(h:lo+ys.length<=xs.length):(gX xs ys lo).length=xs.length:=by unfold gX;simp;omega
theorem zrh(hE:bO P E)(hr:Rel tq X s a){d x:Operand}{T e:TypeId}{t:Ty}{ts:Array TypeId}(ho:o.op= .call ⟨.builtin .copy,#[d,x],ts⟩)(tD:ts[0]? =some T)(hT:E.ty T=some (.sl e t)){id n lo:Nat}{ta tb:Ty}{p:List Nat}
 (mG:s.cP d= .ptr id (.dJ (.rh n) ta tb) p) (xH:∀r,wG (.dJ (.rh n) ta tb) p r (a.eval d)->∃cap off,a.eval d= .slice (some ⟨r,off,none⟩) (n-lo) cap/\lo<=n/\((n=lo/\off=0)\/off=lo*ta.cells))
 (h:qJ t s id n lo ta tb (s.cP x) e some=some u):cQ P tq X s a o u:=by
 have hx:=hr.cP d;rw[mG] at hx;obtain⟨r0,hβ,hv⟩:=hx;unfold qJ at h;split at h
 case isFalse=>cases h
 rename_i heq;have:=Ty.cT heq;subst this;obtain⟨ys,h,Cw⟩:=zz h;split at h
 case h_2=>cases h
 rename_i B hB;split at h
 case isFalse=>cases h
 rename_i l8;obtain⟨hb,r,h1,how,cs,T',cJ,lL,oF⟩:=Ki hr hB l8;rw[hβ] at h1;cases h1;generalize(Ty.cast l8 B.x:List (El ta))=xs at*;cases hn:ak n (ag xs)<;>rw[hn] at h
 ·cases h
 cases Iv:bn lo n<;>rw[Iv] at h
 ·cases h
 cases h;have hn:=aH hn;have Iv:=ci Iv;obtain⟨cap,off,hd,_,EF⟩:=xH r0 hv;obtain⟨cx,uB,ev⟩:=Cw X _ _ (hr.cP x);have abI:=uB;obtain⟨A,c,Eu,_⟩:=abI;have ev:a.eval x= .slice A ys.length c:=by rw[ev,Eu];rfl
 rw[Eu] at uB;obtain⟨_,hc,cy,ry,ny,sy⟩:=zal (X:=X) uB;have hu:=(hE.ty T _ hT).me;have hm:(ys.take (n-lo)).length=min ys.length (n-lo):=by rw[aU,mr]
 generalize KU:min ys.length (n-lo)=m at hm;have hmy:m<=ys.length:=by omega
 have hmn:m<=n-lo:=by omega
 have htk:ys.take (n-lo)=ys.take m:=by
  rw[<-KU];rcases Nat.le_total ys.length (n-lo) with g|g
  ·rw[bN g,bV g,bV (aZ _)]
  ·rw[Nat.min_eq_right g]
 have rz:=Pd ry hmy;have On:(cy.take (m*ta.cells)).length=m*ta.cells:=rz.2.1;have nB:eI X (.arr xs.length ta) xs cs.toList:=⟨rfl,by simpa using lL,oF⟩
 have s4:(dH ta.cells m (a.eval x)).run P X.w= .ok (cy.take (m*ta.cells)).toArray X.w:=by
  rw[ev];cases A with
  |none=>
   have:=ny rfl;subst this;have:m=0:=by simpa using hmy
   subst this;simp [dH]
  |some ad=>
   have:=run_loadCells_list (P:=P) X.w ad (cy.take (m*ta.cells)) (λj v hj=>by
    rw[bq] at hj;split at hj
    ·exact(sy ad rfl j v hj).2.1
    ·cases hj)
   rw[On] at this;simpa [dH] using this
 have lQ:off+0+(cy.take (m*ta.cells)).length<=cs.size:=by
  rw[On,lL,<-hn];rcases EF with⟨g1,g2⟩|g
  ·have:m=0:=by omega
   subst this;omega
  ·rw[g,fj,<-bL];exact bB _ (by omega)
 let new:=(cs.toList.take off++cy.take (m*ta.cells)++cs.toList.drop (off+(cy.take (m*ta.cells)).length)).toArray;have gy:=run_storeCells_at P r0 off T' (cy.take (m*ta.cells)) 0 cs X.w cJ lQ rz.one;simp only[fj] at gy lQ;have dK:(execOp a.eval o).run P X.w= .ok (.value (.int .i64 m)) (X.row r0 new).w:=by
  have aas:lH ys.length (n-lo)=m:=KU;simp only[execOp,ho,resolve,invoke,builtin,ay,aG,aj,ky,bd,eA,Builtin.copy_,tD,hd];have e1:(fu (a.eval x)).run P X.w= .ok ys.length X.w:=by rw[ev];simp [fu]
  simp [run_underlying hu.1,e1,aas,s4,gy,goInt,uE hE hu.2];show _=X.w.setRow r0 new;congr 1;simp [new]
 have na:new.toList=cs.toList.take off++cy.take (m*ta.cells)++cs.toList.drop (off+(cy.take (m*ta.cells)).length):=rfl;have de:eI X (.arr xs.length ta) (gX xs (ys.take m) lo:List (El ta)) new.toList:=by
  rw[na,On];by_cases m0:m=0
  ·subst m0;have e1:gX xs (ys.take 0) lo=xs:=by unfold gX;simp
   rw[e1];simpa using nB
  ·have g:off=lo*ta.cells:=by rcases EF with⟨g1,_⟩|g<;>omega
   have h1:=Pd nB (show lo<=xs.length by omega);have h3:=Pc nB (show lo+m<=xs.length by omega);have:=K9 h1 (K9 rz h3);rw[show lo+(m+(xs.length-(lo+m)))=xs.length by omega] at this;unfold gX;rw[show(ys.take m).length=m by rw[aU];omega,g,<-bL,aQ];exact this
 have hM:new.size=cs.size:=by have h1:new.toList.length=xs.length*ta.cells:=de.2.1;rw[lL,<-h1];simp
 have fP:fq (X.row r0 new) id r0 ⟨.dJ .row ta tb,(gX xs (ys.take (n-lo)) lo:List (El ta)),[]⟩:=by
  rw[htk];refine⟨how,new,T',setRow_heap X.w r0 cs new T' (0,0) cJ,?_,λj z hj=> ?_⟩
  ·rw[hM,lL];show _=ag (gX xs (ys.take m) lo)*_;rw[PW _ _ _ (by rw[aU];omega)]
  ·exact eI.bE (λ_ _=>vv (cs:=new) how) (de.2.2 j z hj)
 refine⟨X.row r0 new,.int .i64 m,.inl dK,HC how,?_⟩;rw[hm];exact(hr.row hb hβ how fP (.inl (by rw[Ty.cT l8];rfl))).fin rV (λid t p hm=>by simp [i64] at hm)
theorem afv{X:cc}(l:List UInt8):eI X (.arr l.length (.int .u8)) (l.map λc=>(c.toNat:Int):List Int) (l.map λc=>Value.int .u8 c.toNat):=by
 refine⟨by show(l.map _).length=_;simp,by simp [Ty.cells],λj y hj=> ?_⟩;have hj:(l.map λc=>(c.toNat:Int))[j]? =some y:=hj;rw[aP] at hj;obtain⟨c,hc,rfl⟩:=ax.1 hj;have:((l.map λc=>Value.int .u8 c.toNat).drop (j*(Ty.int lX).cells)).take (Ty.int lX).cells=[Value.int .u8 c.toNat]:=by
  rw[show(Ty.int lX).cells=1 from rfl,mL];apply bZ;intro i;rw[bq];cases i with
  |zero=>simp [hc]
  |succ i=>simp
 rw[this];rfl
theorem adn(hE:bO P E)(hr:Rel tq X s a){d x:Operand}{T e:TypeId}{t:Ty}{ts:Array TypeId}(ho:o.op= .call ⟨.builtin .copy,#[d,x],ts⟩)(tD:ts[0]? =some T)(hT:E.ty T=some (.sl e t)){id n:Nat}{ta tb:Ty}
 (mG:s.cP d= .ptr id (.dJ (.rh n) ta tb) []) {y:af} {w:List (List Nat)} (Ol:s.cP x= .bY .str y w) (h:sW t s id n ta tb y some=some u):cQ P tq X s a o u:=by
 have hx:=hr.cP d;rw[mG] at hx;obtain⟨r0,hβ,cap,hd,vY⟩:=hx;unfold sW at h;split at h
 case isFalse=>cases h
 rename_i aao;have:=Ty.cT aao;subst this;split at h
 case isFalse=>cases h
 rename_i heq;have:=Ty.cT heq;subst this;split at h
 case h_2=>cases h
 rename_i B hB;split at h
 case isFalse=>cases h
 rename_i l8;obtain⟨hb,r,h1,how,cs,T',cJ,lL,oF⟩:=Ki hr hB l8;rw[hβ] at h1;cases h1;generalize(Ty.cast l8 B.x:List Int)=xs at*;cases hn:ak n (ag xs)<;>rw[hn] at h
 ·cases h
 cases h;have hn:=aH hn;have hy:=hr.cP x;rw[Ol] at hy;obtain⟨cy,ry,ev,_⟩:=hy;have ev:a.eval x= .string y:=by rw[ev,wQ ry]
 have hu:=(hE.ty T _ hT).me;have B9:(Ty.int lX).cells=1:=rfl;rw[B9,mL] at lL;let l:=y.data.toList.take n;have KT:l.length=min n y.size:=by simp [l]
 have UH:aJ n (z31 y)=l.map λc=>(c.toNat:Int):=by simp [z31,l]
 have s4:(dH 1 (lH y.size n) (.string y)).run P X.w= .ok (l.map λc=>Value.int .u8 c.toNat).toArray X.w:=by
  have e1:((y.extract 0 (lH y.size n)).data.map λb=>Value.int .u8 b.toNat)=(l.map λc=>Value.int .u8 c.toNat).toArray:=by
   apply Array.ext';have e0:(y.extract 0 (lH y.size n)).data.toList=l:=by rw[ByteArray.data_extract,Array.toList_extract,List.extract_eq_take_drop];show aJ (lH y.size n-0) (y.data.toList.drop 0)=y.data.toList.take n;rw[Nat.sub_zero,List.drop_zero];show aJ (min y.data.toList.length n) y.data.toList=y.data.toList.take n;rw[mr,<-List.take_eq_take_min]
   rw[Array.toList_map,e0]
  simp only[dH,aG,e1]
 have lQ:0+(l.map λc=>Value.int .u8 c.toNat).length<=cs.size:=by rw[cf,lL,<-hn,KT];omega
 let new:=((l.map λc=>Value.int .u8 c.toNat)++cs.toList.drop l.length).toArray;have rz:=afv (X:=X) l;have gy:=run_storeCells_at P r0 0 T' (l.map λc=>Value.int .u8 c.toNat) 0 cs X.w cJ (by simpa using lQ) rz.one;have dK:(execOp a.eval o).run P X.w= .ok (.value (.int .i64 (l.length:Nat))) (X.row r0 new).w:=by
  have e1:(fu (a.eval x)).run P X.w= .ok y.size X.w:=by rw[ev];simp [fu]
  have e2:lH y.size n=l.length:=by rw[KT];exact mr _ _
  have e3:=s4;rw[e2] at e3;simp only[execOp,ho,resolve,invoke,builtin,ay,aG,aj,ky,bd,eA,Builtin.copy_,tD,hd];rw[ev] at e1⊢;simp [run_underlying hu.1,e1,e2,e3,gy,goInt,uE hE hu.2,B9];rfl
 have nB:eI X (.arr xs.length (.int .u8)) xs cs.toList:=⟨rfl,by simpa [B9] using lL,oF⟩
 have de:eI X (.arr xs.length (.int .u8)) (gX xs (l.map λc=>(c.toNat:Int)) 0:List Int) new.toList:=by
  have hle:l.length<=xs.length:=by rw[KT];omega
  have h3:=Pc nB hle;have:=K9 rz h3;rw[show l.length+(xs.length-l.length)=xs.length by omega] at this;unfold gX;simp only[List.take_zero,List.nil_append,bK,cf];rw[B9,mL] at this;exact this
 have hM:new.size=cs.size:=by have h1:new.toList.length=xs.length*1:=de.2.1;rw[lL];simpa using h1
 have fP:fq (X.row r0 new) id r0 ⟨.dJ .row (.int .u8) tb,(gX xs (aJ n (z31 y)) 0:List Int),[]⟩:=by
  rw[UH];refine⟨how,new,T',setRow_heap X.w r0 cs new T' (0,0) cJ,?_,λj z hj=> ?_⟩
  ·rw[hM,lL];show _=ag (gX xs (l.map λc=>(c.toNat:Int)) 0)*_;rw[PW _ _ _ (by rw[cf,KT];omega)];simp [B9]
  ·exact eI.bE (λ_ _=>vv (cs:=new) how) (de.2.2 j z hj)
 refine⟨X.row r0 new,.int .i64 (l.length:Nat),.inl dK,HC how,?_⟩;have NQ:(aJ n (z31 y)).length=l.length:=by rw[UH,cf]
 rw[NQ];exact(hr.row hb hβ how fP (.inl (by rw[Ty.cT l8];rfl))).fin rV (λid t p hm=>by simp [i64] at hm)
theorem afL(hE:bO P E)(hr:Rel tq X s a){ops:List Oper}{mN:Array Operand}{ts:Array TypeId}(ho:o.op= .call ⟨.builtin .copy,mN,ts⟩){C:FuncId->gK Out}(h:act E C ops o s some=some u):cQ P tq X s a o u:=by
 unfold act at h;simp only[ho] at h;split at h
 case h_2=>cases h
 rename_i d x T r AV Ia;have has:mN= #[d,x]:=by rw[<-bW (xs:=mN),AV]
 have tD:ts[0]? =some T:=by rw[<-bz,Ia];rfl
 subst has;unfold copyV at h;split at h
 ·rename_i e t id n ta tb hT mG;split at h
  ·rename_i y w Ol;exact adn hE hr ho tD hT mG Ol h
  ·exact zrh hE hr ho tD hT mG (λr hv=>by obtain⟨cap,h1,h2⟩:=hv;exact⟨cap,0,h1,bS _,.inr (by simp)⟩) h
 ·rename_i e t id n ta tb l hT mG;exact zrh hE hr ho tD hT mG (λr hv=>by obtain⟨cap,off,h1,h2,h3,h4⟩:=hv;exact⟨cap,off,h1,h3,h4⟩) h
 ·cases h
end Go.Ref

namespace Go.Ref
open Go
variable {P:Program} {tq:oK} {E:Env} {X:cc} {s:State} {a:Act} {o:Oper} {u:Out}
structure sK(tq:oK)(X:cc)(l:List SV)(b:ae fp)(args:Array Value):Prop where
 size:args.size=l.length
 rep:∀(i:Nat) sv v,l[i]? =some sv->args[i]? =some v->cw X (.c i 0) sv v
 ptr:∀id t p,SV.ptr id t p∈l->id=0/\b.isSome=true
 box:∀B,b=some B->∃r,X.β 0=some r/\fq X 0 r B
 rows:b=none->∀g pl n,X.ow g≠ .row pl n
 xK:l.any SV.gi=false
 km:Good tq X
def FC(X Y:cc)(b:ae fp)(r:List SV)(b':ae fp)(v:Value):Prop:=
 ∃r0,kC {Y with β:=λ_=>some r0} .r r v/\
  (∀B',b'=some B'->fq Y 0 r0 B'/\(b.isSome=true->X.β 0=some r0))/\
  ((b'=none\/b.isSome=true)->∀id t p,SV.ptr id t p∉r)/\r.any SV.gi=false
def AM(P:Program)(f:FuncId):Prop:=∃fn c,P.funcs[f]? =some fn/\(fn.name== "runtime.NumGoroutine")=false/\fn.body=some c
def ly(P:Program)(tq:oK)(C:bH)(f:FuncId):Prop:=
 ∀(l:List SV) (b:ae fp) (r:List SV) (b':ae fp),C (List SV×ae fp) f l b (λr b=>some (r,b))=some (r,b')->AM P f/\
  ∀(X:cc) (args:Array Value),sK tq X l b args->Calls P f args X.w λe w'=>match e with
   | .returned v=>∃Y,Y.w=w'/\Ext X Y/\FC X Y b r b' v
   |_=>False
def qT(k:ae Nat):Ow->Bool
 | .box id=>decide (k=some id)
 | .row (.b id _) _=>decide (k=some id)
 |_=>false
def qP(k:ae Nat):Ow->Ow
 | .all=> .all
 | .ro n=> .ro n
 | .box id=>if k=some id then .box 0 else .ro 0
 | .row (.b id p) n=>if k=some id then .row (.b 0 p) n else .ro n
 | .row _ n=> .ro n
def rQ(k:ae Nat)(d:Nat):Ow->Ow
 | .all=> .all
 | .ro n=> .ro n
 | .box 0=>match k with
   |some id=> .box id
   |none=> .ro 0
 | .box _=> .ro 0
 | .row (.r j p) n=> .row (.c d j p) n
 | .row (.b 0 p) n=>match k with
   |some id=> .row (.b id p) n
   |none=> .ro n
 | .row _ n=> .ro n
theorem zz1{k:ae Nat}{w:Ow}{i:Nat}:(qP k w).used i↔w.used i:=by
 cases w with
 |all=>rfl
 |ro n=>rfl
 |box id=>simp only[qP];split<;>simp [Ow.used]
 |row pl n=>
  cases pl with
  |b id p=>simp only[qP];split<;>simp [Ow.used]
  |_=>rfl
theorem adC{k:ae Nat}{d:Nat}{w:Ow}{i:Nat}(h:w.used i):(rQ k d w).used i:=by
 cases w with
 |all=>exact h
 |ro n=>exact h
 |box id=>exact h.elim
 |row pl n=>
  cases pl with
  |b id p=>
   cases id with
   |zero=>simp only[rQ];split<;>exact h
   |succ id=>exact h
  |c i j p=>exact h
  |r j p=>exact h
theorem zd7{k:ae Nat}{w:Ow}(h:qT k w=false):(qP k w).still:=by
 cases w with
 |all=>trivial
 |ro n=>trivial
 |box id=>simp only[qT,decide_eq_false_iff_not] at h;simp only[qP];rw[if_neg h];trivial
 |row pl n=>
  cases pl with
  |b id p=>simp only[qT,decide_eq_false_iff_not] at h;simp only[qP];rw[if_neg h];trivial
  |_=>trivial
def cc.jQ(X:cc)(k:ae Nat):cc:=⟨X.w,λg=>qP k (X.ow g),match k with
 |some id=>λ_=>X.β id
 |none=>X.β⟩
theorem CT{k:ae Nat}{ad:Addr}{v:Value}:(X.jQ k).cn ad v↔X.cn ad v:=by simp only[cc.cn,cc.jQ,zz1]
def cc.back(X Y:cc)(k k':ae Nat)(d:Nat)(β:Nat->ae Nat):cc:=
 ⟨Y.w,λg=>if g<X.w.heap.size/\qT k (X.ow g)=false then X.ow g else rQ k' d (Y.ow g),β⟩
section
variable {k k':ae Nat} {d:Nat} {β:Nat->ae Nat} {Y:cc}
theorem Fk(h:Ext (X.jQ k) Y){g:Nat}(hg:g<X.w.heap.size)(hm:qT k (X.ow g)=false):(X.back Y k k' d β).ow g=X.ow g/\(X.back Y k k' d β).w.heap[g]? =X.w.heap[g]? /\(Y.ow g).still/\Y.ow g=qP k (X.ow g):=by obtain⟨h1,h2⟩:=h.still g hg (zd7 hm);refine⟨by simp only[cc.back];rw[if_pos ⟨hg,hm⟩],h2,?_,h1⟩;rw[h1];exact zd7 hm
theorem zde{w:Ow}(h:w.still):qT k w=false:=by cases w<;>first|rfl|exact h.elim
theorem Good.jQ(h:Good tq X):Good tq (X.jQ k):=λe he=>by obtain⟨h1,h2⟩:=h e he;exact⟨zd7 (zde h1),h2⟩
theorem Good.back(h:Good tq X)(hx:Ext (X.jQ k) Y):Good tq (X.back Y k k' d β):=h.CC λg hg hs=>⟨(Fk hx hg (zde hs)).1,(Fk (k':=k') (d:=d) (β:=β) hx hg (zde hs)).2.1⟩
theorem zcr(h:Ext (X.jQ k) Y){g:Nat}(hs:¬(Y.ow g).still):(X.back Y k k' d β).ow g=rQ k' d (Y.ow g):=by simp only[cc.back];rw[if_neg];rintro⟨hg,hm⟩;exact hs (Fk (k':=k') (d:=d) (β:=β) h hg hm).2.2.1
theorem CS(h:Ext (X.jQ k) Y){ad:Addr}{v:Value}(hs:Y.cn ad v):(X.back Y k k' d β).cn ad v:=by
 refine⟨hs.1,hs.2.1,?_⟩;simp only[cc.back];split
 ·rename_i hc;have:=(Fk (k':=k') (d:=d) (β:=β) h hc.1 hc.2).2.2.2;have hu:=hs.2.2;rw[this,zz1] at hu;exact hu
 ·exact adC hs.2.2
theorem znq(h:Ext (X.jQ k) Y)(hβ:β 0=X.β 0):Ext X (X.back Y k k' d β) where
 cn:=λad v hs=>CS h (h.cn ad v (CT.2 hs))
 size:=h.size
 os:=h.os
 tape:=h.tape
 output:=h.output
 β0:=hβ
 still:=λg hg gy=>by
  have hm:qT k (X.ow g)=false:=by cases hx:X.ow g<;>rw[hx] at gy<;>first|rfl|exact gy.elim
  obtain⟨h1,h2,_⟩:=Fk (k':=k') (d:=d) (β:=β) h hg hm;exact⟨h1,h2⟩
theorem fa.back(h:Ext (X.jQ k) Y){pl:Place}(oP:∀n,qT k (.row pl n)=false){e:TypeId}{m n:Nat}{v:Value}(ho:fa X pl e m n v):fa (X.back Y k k' d β) pl e m n v:=by
 rcases ho with ho|⟨g,cap,cur,h1,h2,h3,h4,h5,h6⟩
 ·exact .inl ho
 ·obtain⟨k1,k2,_⟩:=Fk (k':=k') (d:=d) (β:=β) h (De h2) (by rw[h6];exact oP _);exact .inr ⟨g,cap,cur,h1,k2.trans h2,h3,h4,h5,k1.trans h6⟩
theorem eO.back(h:Ext (X.jQ k) Y){pl:List Nat->Place}(oP:∀p n,qT k (.row (pl p) n)=false){t:Ty}{x:El t}{cs:List Value}{own:List (List Nat)}(ho:eO X pl t x cs own):eO (X.back Y k k' d β) pl t x cs own:=λp hp=>by obtain⟨e,t',xs,v,g0,g1,g2,g3⟩:=ho p hp;exact⟨e,t',xs,v,g0,g1,g2,g3.back h (oP p)⟩
theorem eO.out(h:Ext (X.jQ k) Y){pl pB:List Nat->Place}(oP:∀p n,rQ k' d (.row (pl p) n)= .row (pB p) n){t:Ty}{x:El t}{cs:List Value}{own:List (List Nat)}(ho:eO Y pl t x cs own):eO (X.back Y k k' d β) pB t x cs own:=λp hp=>by
 obtain⟨e,t',xs,v,g0,g1,g2,g3⟩:=ho p hp;refine⟨e,t',xs,v,g0,g1,g2,?_⟩;rcases g3 with ho|⟨g,cap,cur,h1,h2,h3,h4,h5,h6⟩
 ·exact .inl ho
 ·refine .inr ⟨g,cap,cur,h1,h2,h3,h4,h5,?_⟩;rw[zcr h (by rw[h6];exact λe=>e),h6,oP]
theorem cw.back(h:Ext (X.jQ k) Y){i j:Nat}{sv:SV}{v:Value}(hβ:∀id t p,sv= .ptr id t p->β id=X.β id)(hl:∀id a b n,sv= .fc id a b n->k≠some id/\β id=X.β id)(hr:cw X (.c i j) sv v):cw (X.back Y k k' d β) (.c i j) sv v:=by
 cases sv with
 |undef=>trivial
 |skip=>exact hr
 |jR=>exact hr
 |nE=>exact hr
 |over=>exact hr
 |bY t x own=>obtain⟨cs,h1,h2,h3⟩:=hr;exact⟨cs,h1.bE (λ_ _ hs=>CS h (h.cn _ _ (CT.2 hs))),h2,h3.back h (λ_ _=>rfl)⟩
 |ptr id t p=>obtain⟨r,h1,h2⟩:=hr;exact⟨r,(hβ id t p rfl).trans h1,h2⟩
 |view t x=>obtain⟨ad,cs,h1,h2,h3,h4⟩:=hr;exact⟨ad,cs,h1,h2,h3.bE (λ_ _ hs=>CS h (h.cn _ _ (CT.2 hs))),λi u hi=>CS h (h.cn _ _ (CT.2 (h4 i u hi)))⟩
 |cap f t x u y=>exact AA (λ_ _ hs=>CS h (h.cn _ _ (CT.2 hs))) hr
 |fc id a b n=>obtain⟨r,h1,h2,h3⟩:=hr;obtain⟨hk,hb⟩:=hl id a b n rfl;obtain⟨e1,e2,_⟩:=Fk (k':=k') (d:=d) (β:=β) h (eE X.w _ h3) (by rw[h2];simp [qT,hk]);refine⟨r,hb.trans h1,e1.trans h2,?_⟩;simp only[bT] at h3⊢;rw[e2];exact h3
theorem fq.back(h:Ext (X.jQ k) Y){id r:Nat}{B:fp}(hk:k≠some id)(hb:fq X id r B):fq (X.back Y k k' d β) id r B:=by
 obtain⟨h3,h1⟩:=hb;have hm:qT k (X.ow r)=false:=by rw[h3];simp [qT,hk]
 obtain⟨k1,k2,_⟩:=Fk (k':=k') (d:=d) (β:=β) h h1.lt hm;exact⟨k1.trans h3,h1.move (λ_ _ hs=>CS h (h.cn _ _ (CT.2 hs))) k2 (λcs h4=>h4.back h (λ_ _=>by simp [qT,hk])) λ_ _ g o _ ho hw=>by obtain⟨e1,e2,_⟩:=Fk (k':=k') (d:=d) (β:=β) h (De ho) (by rw[hw];simp [qT,hk]);exact⟨e2.trans ho,e1.trans hw⟩⟩
theorem fq.out(h:Ext (X.jQ k) Y){id r:Nat}{B:fp}(hk:k'=some id)(hb:fq Y 0 r B):fq (X.back Y k k' d β) id r B:=by obtain⟨h3,h1⟩:=hb;refine⟨?_,h1.move (λ_ _ hs=>CS h hs) rfl (λcs h4=>h4.out h (λp n=>by simp [rQ,hk])) λ_ _ g o _ ho hw=>⟨ho,by rw[zcr h (by rw[hw];exact λhh=>hh),hw];simp [rQ,hk]⟩⟩;rw[zcr h (by rw[h3];exact λe=>e),h3];simp [rQ,hk]
theorem cw.out(h:Ext (X.jQ k) Y){r0 id j:Nat}{sv:SV}{v:Value}(hβ:∀dX t p,sv= .ptr dX t p->β id=some r0)(hn:sv.gi=false)(hr:cw {Y with β:=λ_=>some r0} (.r j) sv v):cw (X.back Y k k' d β) (.c d j) (sv.pD id) v:=by
 cases sv with
 |undef=>trivial
 |skip=>exact hr
 |jR=>exact hr
 |nE=>exact hr
 |over=>exact hr
 |bY t x own=>obtain⟨cs,h1,h2,h3⟩:=hr;have h3:eO Y (.r j) t x cs own:=h3;exact⟨cs,eI.bE (λad v (hs:({Y with β:=λ_=>some r0}:cc).cn ad v)=>CS (Y:=Y) h hs) h1,h2,h3.out h (λ_ _=>rfl)⟩
 |ptr dX t p=>obtain⟨r,h1,h2⟩:=hr;have h1:some r0=some r:=h1;cases h1;exact⟨r0,hβ dX t p rfl,h2⟩
 |view t x=>obtain⟨ad,cs,h1,h2,h3,h4⟩:=hr;exact⟨ad,cs,h1,h2,eI.bE (λad v (hs:({Y with β:=λ_=>some r0}:cc).cn ad v)=>CS (Y:=Y) h hs) h3,λi u hi=>CS h (show Y.cn _ _ from h4 i u hi)⟩
 |cap f t x u y=>exact AA (X:={Y with β:=λ_=>some r0}) (λad v (hs:({Y with β:=λ_=>some r0}:cc).cn ad v)=>CS (Y:=Y) h hs) hr
 |fc dX a b n=>cases hn
theorem Rel.back(h:Ext (X.jQ k) Y)(hr:Rel tq X s a)(hβ:∀(id:Nat) B,s.bs[id]? =some (some B)->β id=X.β id)(hk:∀(id:Nat) B,s.bs[id]? =some (some B)->k≠some id):Rel tq (X.back Y k k' d β) s a where
 size:=hr.size
 pW:=hr.pW
 gC:=λi l v hl hv=>(hr.gC i l v hl hv).ru λj sv u hm sD=>sD.back h (λid t p e=>by
  obtain⟨B,hB⟩:=hr.live i l id t p hl (e▸aL hm);exact hβ id B hB) (λid c d n e=>by
  obtain⟨_,⟨x,own,hb,_⟩,_⟩:=hr.fc i l id c d n hl (e▸aL hm);exact⟨hk id _ hb,hβ id _ hb⟩)
 boxes:=λid B hB=>by obtain⟨r,h1,h2⟩:=hr.boxes id B hB;exact⟨r,(hβ id B hB).trans h1,h2.back h (hk id B hB)⟩
 live:=hr.live
 defers:=hr.defers
 fc:=hr.fc
 km:=hr.km.back h
theorem Rel.Ek(h:Ext (X.jQ k) Y)(hr:Rel tq X s a){id r:Nat}{B B':fp}(hb:s.bs[id]? =some (some B))(hk:k=some id)(NM:k'=some id)(hβ:X.β id=some r)(hB:fq Y 0 r B')(hg:B.t.nI=false\/ []∈B.own):Rel tq (X.back Y k k' d X.β) (s.cG (some (id,B'))) a where
 size:=hr.size
 pW:=by simpa [State.cG] using hr.pW
 gC:=λi l v hl hv=>(hr.gC i l v hl hv).ru λj sv u hm sD=>sD.back h (λ_ _ _ _=>rfl) (λdX c d n e=>⟨λe2=>by rw[hk] at e2;cases e2;exact hr.xK hb hg i l c d n hl (e▸aL hm),rfl⟩)
 boxes:=λdX B2 ll=>by
  have bR:id<s.bs.length:=(aA.1 hb).1;simp only[State.cG,az] at ll;by_cases e:id=dX
  ·subst e;rw[if_pos rfl,if_pos bR] at ll;cases ll;exact⟨r,hβ,hB.out h NM⟩
  ·rw[if_neg e] at ll;obtain⟨r',h1,h2⟩:=hr.boxes dX B2 ll;exact⟨r',h1,h2.back h (by rw[hk];intro e2;cases e2;exact e rfl)⟩
 live:=λi l dX t p hi hm=>by
  have bR:id<s.bs.length:=(aA.1 hb).1;obtain⟨B2,ll⟩:=hr.live i l dX t p hi hm;simp only[State.cG,az];by_cases e:id=dX
  ·subst e;exact⟨B',by rw[if_pos rfl,if_pos bR]⟩
  ·rw[if_neg e];exact⟨B2,ll⟩
 defers:=hr.defers
 fc:=hr.fc.cG (hr.xK hb hg)
 km:=hr.km.back h
end
theorem cw.jQ{k:ae Nat}{pl pB:List Nat->Place}{t:Ty}{x:El t}{w:List (List Nat)}{v:Value}(hr:cw X pl (.bY t x w) v):cw (X.jQ k) pB (.bY t x []) v:=by obtain⟨cs,h1,h2,_⟩:=hr;exact⟨cs,h1.bE (λ_ _=>CT.2),h2,vu⟩
theorem fq.jQ{id r:Nat}{B:fp}(hb:fq X id r B):fq (X.jQ (some id)) 0 r B:=by
 obtain⟨h3,h1⟩:=hb;refine⟨by simp [cc.jQ,h3,qP],h1.move (λ_ _=>CT.2) rfl (λcs h4 p hp=> ?_) λ_ _ g o _ ho hw=>⟨ho,by simp [cc.jQ,hw,qP]⟩⟩;obtain⟨e,t',xs,v,g0,g1,g2,g3⟩:=h4 p hp;refine⟨e,t',xs,v,g0,g1,g2,?_⟩;rcases g3 with ho|⟨g,cap,cur,k1,k2,k3,k4,k5,k6⟩
 ·exact .inl ho
 ·exact .inr ⟨g,cap,cur,k1,k2,k3,k4,k5,by simp [cc.jQ,k6,qP]⟩
theorem zno:∀(vs l:List SV) (b:ae (Nat×fp)),rX s vs=some (l,b)->l.any SV.gi=false
 | [],l,b,h=>by simp only[rX,aC,gB] at h;rw[<-h.1];rfl
 |v::r,l,b,h=>by
  simp only[rX] at h;split at h
  ·cases h
  rename_i l1 b1 h1;have ih:=zno r l1 b1 h1;split at h
  ·cases h;simpa [SV.gi] using ih
  ·cases h;simpa [SV.gi] using ih
  ·cases h;simpa [SV.gi] using ih
  ·split at h
   case h_2=>cases h
   split at h
   case isFalse=>cases h
   cases h;simpa [SV.gi] using ih
  ·cases h
theorem znp(hr:Rel tq X s a):∀(vs:List (SV×Value)) (l:List SV) (b:ae (Nat×fp)),(∀x∈vs,∃q,cw X q x.1 x.2)->rX s (vs.map (·.1))=some (l,b)->l.length=vs.length/\
 (∀id B,b=some (id,B)->s.bs[id]? =some (some B))/\
 (∀id t p,SV.ptr id t p∈l->id=0/\b.isSome=true)/\
 ∀k,(∀id B,b=some (id,B)->k=some id)->∀(i:Nat) sv x,l[i]? =some sv->vs[i]? =some x->∀q,cw (X.jQ k) q sv x.2:=by
 intro vs
 induction vs with
 |nil=>intro l b _ h;simp only[eA,rX,aC,gB] at h;obtain⟨rfl,rfl⟩:=h;refine⟨rfl,(λid B e=>by cases e),(λid t p hm=>by cases hm),λk _ i sv x hl=>by simp at hl⟩
 |cons x r ih=>
  intro l b ri h;simp only[bd,rX] at h;split at h
  ·cases h
  rename_i l1 b1 h1;obtain⟨i1,i2,i3,i4⟩:=ih l1 b1 (λy hy=>ri y (aE _ hy)) h1;obtain⟨q0,hx⟩:=ri x List.mem_cons_self;have fin:∀(sv:SV),l=sv::l1->(∀id B,b1=some (id,B)->b=b1)->(∀id B,b=some (id,B)->s.bs[id]? =some (some B))->(∀id t p,sv= .ptr id t p->id=0/\b.isSome=true)->
   (∀k,(∀id B,b=some (id,B)->k=some id)->∀q,cw (X.jQ k) q sv x.2)->l.length=(x::r).length/\
   (∀id B,b=some (id,B)->s.bs[id]? =some (some B))/\
   (∀id t p,SV.ptr id t p∈l->id=0/\b.isSome=true)/\
   ∀k,(∀id B,b=some (id,B)->k=some id)->∀(i:Nat) sv y,l[i]? =some sv->(x::r)[i]? =some y->∀q,cw (X.jQ k) q sv y.2:=by
   intro sv hl hb fP fS de;subst hl;refine⟨by simp [i1],fP,λid t p hm=> ?_,λk hk i sv' y hl hv=> ?_⟩
   ·rcases aD.1 hm with e|hm
    ·exact fS id t p e.symm
    ·obtain⟨j1,j2⟩:=i3 id t p hm;cases uU:b1 with
     |none=>rw[uU] at j2;cases j2
     |some bb=>rw[hb bb.1 bb.2 uU];exact⟨j1,j2⟩
   ·cases i with
    |zero=>simp only[bU,aC] at hl hv;subst hl hv;exact de k hk
    |succ i=>simp only[bI] at hl hv;exact i4 k (λid B e=>hk id B (by rw[hb id B e];exact e)) i sv' y hl hv
  obtain⟨x1,x2⟩:=x;simp only at h hx fin;split at h
  ·cases h;exact fin _ rfl (λ_ _ _=>rfl) i2 (λ_ _ _ e=>by cases e) (λk _ q=>hx.jQ)
  ·cases h;exact fin _ rfl (λ_ _ _=>rfl) i2 (λ_ _ _ e=>by cases e) (λk _ q=>hx)
  ·cases h;refine fin _ rfl (λ_ _ _=>rfl) i2 (λ_ _ _ e=>by cases e) (λk _ q=> ?_);obtain⟨ad,cs,g1,g2,g3,g4⟩:=hx;exact⟨ad,cs,g1,g2,g3.bE (λ_ _=>CT.2),λi w hi=>CT.2 (g4 i w hi)⟩
  ·rename_i id t;split at h
   case h_2=>cases h
   rename_i B hB;split at h
   case isFalse=>cases h
   cases h;obtain⟨rr,g1,g2⟩:=hx;refine fin _ rfl (λ_ _ e=>by cases e) (λid B e=>by cases e;exact yV hB) (λ_ _ _ e=>by cases e;exact⟨rfl,rfl⟩) (λk hk q=> ?_);have:=hk id B rfl;subst this;exact⟨rr,g1,g2⟩
  ·cases h
def tG(P:Program)(tq:oK)(X:cc)(s:State)(a:Act)(o:Oper)(u:Out):Prop:=
 ∀(next:Act->World->Prop) (Q:Exit->Act->World->Prop),(∀Y v,Ext X Y->Rel tq Y (s.apply o.dst u) (a.put o.dst v)->next (a.put o.dst v) Y.w)->o.wp P a X.w next Q
theorem cQ.does(h:cQ P tq X s a o u):tG P tq X s a o u:=λnext Q hn=>by
 obtain⟨Y,v,h1,h2,h3⟩:=h;unfold gT;rcases h1 with h1|⟨h1,rfl⟩
 ·rw[h1,jn];exact hn Y v h2 h3
 ·rw[h1,jF];exact hn Y _ h2 h3
theorem zyj{f:FuncId}(h:AM P f){mN:Array Operand}{ts:Array TypeId}(ho:o.op= .call ⟨.value (.func f),mN,ts⟩)(w:World):(execOp a.eval o).run P w= .ok (.enter f (mN.map a.eval)) w:=by obtain⟨fn,c,h1,h2,h3⟩:=h;simp [execOp,ho,resolve,kq,Act.eval,invoke,callFunc,h1,h3];simpa using h2
theorem zsi{l:List SV}{id:Nat}(h:∀id t p,SV.ptr id t p∉l):l.map (SV.pD id)=l:=by
 induction l with
 |nil=>rfl
 |cons v r ih=>
  rw[bd,ih (λid t p hm=>h id t p (aE _ hm))];congr 1;cases v<;>first|rfl|skip
  exact absurd (List.mem_cons_self) (h _ _ _)
theorem zoh{k k':ae Nat}{d:Nat}{β:Nat->ae Nat}{Y:cc}(h:Ext (X.jQ k) Y){r0 id:Nat}{r:List SV}{v:Value}(hβ:∀dX t p,SV.ptr dX t p∈r->β id=some r0)(hn:r.any SV.gi=false)(hr:kC {Y with β:=λ_=>some r0} .r r v):kC (X.back Y k k' d β) (.c d) (r.map (SV.pD id)) v:=by
 match r,hr with
 | [sv],hr=>exact cw.out h (λdX t p e=>hβ dX t p (by simp [e])) (by simpa using hn) hr
 | [],⟨vs,h1,h2,h3⟩=>exact⟨vs,h1,h2,λj s u hs=>by simp at hs⟩
 |x::y::r,⟨vs,h1,h2,h3⟩=>refine⟨vs,h1,by simpa using h2,λj sv u hs hu=> ?_⟩;have hs:((x::y::r).map (SV.pD id))[j]? =some sv:=hs;rw[aP] at hs;obtain⟨s0,n5,rfl⟩:=ax.1 hs;exact cw.out h (λdX t p e=>hβ dX t p (e▸aL n5)) (by simpa using cH.1 hn s0 (aL n5)) (h3 j s0 u n5 hu)
theorem zzn{l:List SV}{id:Nat}(h:l.any SV.gi=false):(l.map (SV.pD id)).any SV.gi=false:=cH.2 λv hv=>by obtain⟨w,hw,rfl⟩:=bm.1 hv;have:=cH.1 h w hw;cases w<;>first|exact this|simp [SV.pD,SV.gi]
theorem adx:∀g pl n,(X.jQ none).ow g≠ .row pl n:=λg pl n=>by
 show qP none (X.ow g)≠_;cases X.ow g with
 |row q m=>cases q<;>simp [qP]
 |_=>simp [qP]
theorem zd1(hr:Rel tq X s a){C:bH}(hC:C.Nat){f:FuncId}(hf:ly P tq C f){vs:List (SV×Value)}(EL:∀x∈vs,∃q,cw X q x.1 x.2)(nC:AM P f->(execOp a.eval o).run P X.w= .ok (.enter f (vs.map (·.2)).toArray) X.w)(h:pa (C Out) s o.dst f (vs.map (·.1)) some=some u):tG P tq X s a o u:=by
 have dK:=nC;clear nC;unfold pa at h;have enter:∀(l:List SV) (b:ae (Nat×fp)) (k:ae Nat),rX s (vs.map (·.1))=some (l,b)->(∀id B,b=some (id,B)->k=some id)->(b=none->k=none)->sK tq (X.jQ k) l (b.map (·.2)) (vs.map (·.2)).toArray:=by
  intro l b k gS hk GH;obtain⟨i1,i2,i3,i4⟩:=znp hr vs l b EL gS;refine⟨by simpa using i1.symm,λi sv v hl hv=> ?_,λid t p hm=> ?_,λB hB=> ?_,λhb=> ?_,zno _ _ _ gS,hr.km.jQ⟩
  ·rw[kO,aP] at hv;obtain⟨x,hx,rfl⟩:=ax.1 hv;exact i4 k hk i sv x hl hx _
  ·obtain⟨j1,j2⟩:=i3 id t p hm;exact⟨j1,by simpa using j2⟩
  ·obtain⟨bb,hbb,rfl⟩:=ax.1 hB;obtain⟨id,B⟩:=bb;obtain⟨r,h1,h2⟩:=hr.boxes id B (i2 id B hbb);have:=hk id B hbb;subst this;exact⟨r,h1,h2.jQ⟩
  ·have hb:b=none:=by cases b<;>simp at hb⊢
   rw[GH hb];exact adx
 split at h
 ·rename_i l gS;obtain⟨⟨r,b'⟩,vX,h⟩:=sI (hC Out _ f l none _ (λr b=>some (r,b)) (λz=>match z.2 with
   |none=>some {v:=z.1}
   |some B=>match o.dst with
    |some d=>match s.bs[d+1]? with
     |some none=>some {v:=z.1.map (SV.pD (d+1)),bx:=some (d+1,B)}
     |_=>none
    |none=>none) (λr b=>rfl)) h
  obtain⟨nC,wg⟩:=hf l none r b' vX;have ql:=enter l none none gS (λid B e=>by cases e) (λ_=>rfl);intro next Q hn
  unfold gT;rw[dK nC,kZ];refine(wg (X.jQ none) _ ql).mono λe w' he=> ?_;cases e with
  |returned v=>
   obtain⟨Y,rfl,dO,r0,de,fP,xG,na⟩:=he;simp only at h;cases b' with
   |none=>cases h;have hp:=xG (.inl rfl);have iu:=znq (k':=none) (d:=o.dst.getD 0) (β:=X.β) dO rfl;refine hn (X.back Y none none (o.dst.getD 0) X.β) v iu ?_;refine(Rel.back (k':=none) dO hr (λ_ _ _=>rfl) (λ_ _ _=>by simp)).fin ?_ (λid t p hm=>absurd hm (hp id t p)) na;have:=zoh (k':=none) (d:=o.dst.getD 0) (β:=X.β) (id:=0) dO (λdX t p hm=>absurd hm (hp dX t p)) na de;rw[zsi hp] at this;exact this
   |some B=>
    simp only at h;split at h
    case h_2=>cases h
    rename_i d hd;split at h
    case h_2=>cases h
    rename_i rI;cases h;have bR:d+1<s.bs.length:=(aA.1 rI).1;obtain⟨hB,_⟩:=fP B rfl;let β:Nat->ae Nat:=λid=>if id=d+1 then some r0 else X.β id;have hβd:β (d+1)=some r0:=by simp [β]
    have iu:=znq (k':=some (d+1)) (d:=d) (β:=β) dO (by simp [β]);refine hn (X.back Y none (some (d+1)) d β) v iu ?_;have fb:=(Rel.back (k':=some (d+1)) (d:=d) (β:=β) dO hr (λid B2 ll=>by show(if _ then _ else _)=_;rw[if_neg (λe=>by rw[e,rI] at ll;cases ll)]) (λ_ _ _=>by simp)).oq bR rI hβd (hB.out dO rfl)
    rw[hd];refine fb.put (λd' e=> ?_) (λid t p hm=> ?_) (zzn na)
    ·cases e;exact zoh dO (λ_ _ _ _=>hβd) na de
    ·obtain⟨s0,_,he0⟩:=bm.1 hm;have:id=d+1:=by cases s0<;>simp [SV.pD] at he0;exact he0.1.symm
     subst this;exact⟨B,by simp [State.close,State.cG,az,bR]⟩
  |panicked c=>exact he.elim
  |outgrown=>exact he.elim
 ·rename_i l id B gS;split at h
  case isTrue=>cases h
  rename_i Ai;have hg:B.t.nI=false\/ []∈B.own:=by rw[Bool.not_eq_true,Bool.and_eq_false_iff,Bool.not_eq_false'] at Ai;exact Ai.imp (λh=>h) Hk
  obtain⟨⟨r,b'⟩,vX,h⟩:=sI (hC Out _ f l (some B) _ (λr b=>some (r,b)) (λz=>match z.2 with
   |some B'=>if B'.t.iS B.t=true then some {v:=z.1,bx:=some (id,B')} else none
   |none=>none) (λr b=>rfl)) h
  obtain⟨nC,wg⟩:=hf l (some B) r b' vX;have ql:=enter l (some (id,B)) (some id) gS (λid B e=>by cases e;rfl) (λe=>by cases e);obtain⟨_,i2,_,_⟩:=znp hr vs l _ EL gS;have hb:=i2 id B rfl;intro next Q hn
  unfold gT;rw[dK nC,kZ];refine(wg (X.jQ (some id)) _ ql).mono λe w' he=> ?_;cases e with
  |returned v=>
   obtain⟨Y,rfl,dO,r0,de,fP,xG,na⟩:=he;simp only at h;cases b' with
   |none=>cases h
   |some B'=>
    simp only at h;split at h
    case isFalse=>cases h
    cases h;have hp:=xG (.inr rfl);obtain⟨hB,hβ⟩:=fP B' rfl;have hβ:=hβ rfl;have iu:=znq (k':=some id) (d:=o.dst.getD 0) (β:=X.β) dO rfl;refine hn (X.back Y (some id) (some id) (o.dst.getD 0) X.β) v iu ?_;refine(Rel.Ek (k:=some id) (k':=some id) dO hr hb rfl rfl hβ hB hg).fin ?_ (λid t p hm=>absurd hm (hp id t p)) na;have:=zoh (k':=some id) (d:=o.dst.getD 0) (β:=X.β) (id:=0) dO (λdX t p hm=>absurd hm (hp dX t p)) na de;rw[zsi hp] at this;exact this
  |panicked c=>exact he.elim
  |outgrown=>exact he.elim
 ·cases h
theorem zcq(hr:Rel tq X s a)(mN:Array Operand):∀x∈mN.toList.map (λx=>(s.cP x,a.eval x)),∃q,cw X q x.1 x.2:=λx hx=>by obtain⟨y,_,rfl⟩:=bm.1 hx;exact⟨_,hr.cP y⟩
theorem zzt{X:cc}{pl:List Nat->Place}{sv:SV}{v:Value}(h:cw X pl sv v):cw X pl sv.shut v:=by
 cases sv with
 |bY t x own=>obtain⟨cs,h1,h2,_⟩:=h;exact⟨cs,h1,h2,vu⟩
 |fc id a b j=>trivial
 |_=>exact h
theorem agH{X:cc}{pl:Nat->List Nat->Place}{l:List SV}{v:Value}(h:kC X pl l v):kC X pl (l.map SV.shut) v:=by
 match l,h with
 | [sv],h=>exact zzt (sv:=sv) h
 | [],h=>exact h
 |x::y::r,⟨vs,g1,g2,g3⟩=>refine⟨vs,g1,by simpa using g2,λj sv u uX hu=> ?_⟩;have uX:((x::y::r).map SV.shut)[j]? =some sv:=uX;rw[aP] at uX;obtain⟨s0,n5,rfl⟩:=ax.1 uX;exact zzt (g3 j s0 u n5 hu)
theorem agG{l:List SV}{j:Nat}{t:Ty}{p:List Nat}(h:SV.ptr j t p∈l.map SV.shut):SV.ptr j t p∈l:=by obtain⟨s0,n5,he⟩:=bm.1 h;cases s0<;>first|(cases he;done)|(rw[<-he];exact n5)|skip
theorem Rel.gx(hr:Rel tq X s a){d:Nat}{l:List SV}:Rel tq X {s with sl:=s.sl.set d l} a->Rel tq X {s with sl:=s.sl.set d (l.map SV.shut)} a:=λh=>{
 size:=by simpa using hr.size
 pW:=by simpa using hr.pW
 gC:=λi l' v hl hv=>by
  replace hl:(s.sl.set d (l.map SV.shut))[i]? =some l':=hl;rw[az] at hl;split at hl
  ·rename_i Ca;split at hl
   ·cases hl;rename_i bR;exact agH (h.gC i l v (by show(s.sl.set d l)[i]? =_;rw[az,if_pos Ca,if_pos bR]) hv)
   ·cases hl
  ·rename_i Ca;exact h.gC i l' v (by show(s.sl.set d l)[i]? =_;rw[az,if_neg Ca];exact hl) hv
 boxes:=h.boxes
 live:=λi l' id t p hl hm=>by
  replace hl:(s.sl.set d (l.map SV.shut))[i]? =some l':=hl;rw[az] at hl;split at hl
  ·rename_i Ca;split at hl
   ·cases hl;rename_i bR;exact h.live i l id t p (by show(s.sl.set d l)[i]? =_;rw[az,if_pos Ca,if_pos bR]) (agG hm)
   ·cases hl
  ·rename_i Ca;exact h.live i l' id t p (by show(s.sl.set d l)[i]? =_;rw[az,if_neg Ca];exact hl) hm
 defers:=h.defers
 km:=h.km
 fc:=h.fc.less (λi l' id c b j hl hm=>by
  replace hl:(s.sl.set d (l.map SV.shut))[i]? =some l':=hl;rw[az] at hl;split at hl
  ·split at hl
   ·cases hl;exact(zsa (zhj l) hm).elim
   ·cases hl
  ·rename_i Ca;exact⟨l',by show(s.sl.set d l)[i]? =_;rw[az,if_neg Ca];exact hl,hm,λh=>h⟩) (λid c b x own _ hb ho=>⟨x,own,hb,ho⟩)}
theorem tG.shut(h:tG P tq X s a o u):tG P tq X s a o u.shut:=λnext Q hn=>h next Q λY v dO fb=>hn Y v dO (by
 unfold State.apply at fb⊢;show Rel tq Y (((s.close u.cl).cG u.bx).b7 o.dst (u.v.map SV.shut)) _;generalize(s.close u.cl).cG u.bx=s1 at*;cases hd:o.dst with
 |none=>rw[hd] at fb;exact fb
 |some d=>
  rw[hd] at fb;have e:=Rel.gx (X:=Y) (s:={s1 with sl:=s1.sl.set d u.v}) (a:=a.put (some d) v) (d:=d) (l:=u.v) fb (by show Rel tq Y {s1 with sl:=(s1.sl.set d u.v).set d u.v} _;rw[mo];exact fb)
  show Rel tq Y {s1 with sl:=s1.sl.set d (u.v.map SV.shut)} _;have e2:Rel tq Y {s1 with sl:=(s1.sl.set d u.v).set d (u.v.map SV.shut)} (a.put (some d) v):=e;rw[mo] at e2;exact e2)
def nK(id j:Nat):Ow->Bool
 | .row (.b dX (j'::_)) _=>ak dX id&&ak j' j
 |_=>false
def Fx(id j:Nat):Ow->Ow
 | .all=> .all
 | .ro n=> .ro n
 | .box _=> .ro 0
 | .row (.b dX (j'::p)) n=>if ak dX id&&ak j' j then .row (.b 0 p) n else .ro n
 | .row _ n=> .ro n
def Z2(id j d:Nat):Ow->Ow
 | .all=> .all
 | .ro n=> .ro n
 | .box _=> .ro 0
 | .row (.r i p) n=> .row (.c d i p) n
 | .row (.b 0 p) n=> .row (.b id (j::p)) n
 | .row _ n=> .ro n
theorem zmo{id j:Nat}{w:Ow}{i:Nat}:(Fx id j w).used i↔w.used i:=by
 cases w with
 |all=>rfl
 |ro n=>rfl
 |box id=>simp [Fx,Ow.used]
 |row pl n=>
  cases pl with
  |b dX p=>
   cases p with
   |nil=>rfl
   |cons j' p=>simp only[Fx];split<;>rfl
  |_=>rfl
theorem acq{id j d:Nat}{w:Ow}{i:Nat}(h:w.used i):(Z2 id j d w).used i:=by
 cases w with
 |all=>exact h
 |ro n=>exact h
 |box id=>exact h.elim
 |row pl n=>
  cases pl with
  |b dX p=>cases dX<;>exact h
  |c i j p=>exact h
  |r j p=>exact h
theorem z9b{id j:Nat}{w:Ow}(h:nK id j w=false):(Fx id j w).still:=by
 cases w with
 |all=>trivial
 |ro n=>trivial
 |box id=>trivial
 |row pl n=>
  cases pl with
  |b dX p=>
   cases p with
   |nil=>trivial
   |cons j' p=>simp only[nK] at h;simp only[Fx,h];trivial
  |_=>trivial
def cc.mh(X:cc)(id j g:Nat):cc:=⟨X.w,λq=>if q=g then .box 0 else Fx id j (X.ow q),λ_=>some g⟩
def cc.eF(X Y:cc)(id j g d:Nat):cc:=⟨Y.w,λq=>if q=g then .row (.b id [j]) 0 else if q<X.w.heap.size/\nK id j (X.ow q)=false then X.ow q else Z2 id j d (Y.ow q),X.β⟩
section
variable {Y:cc} {id j g d:Nat}
theorem zz8(hg:X.ow g= .row (.b id [j]) 0){ad:Addr}{v:Value}:(X.mh id j g).cn ad v↔X.cn ad v:=by
 simp only[cc.cn,cc.mh];split
 ·rename_i e;rw[e,hg];simp [Ow.used]
 ·rw[zmo]
theorem Fh(h:Ext (X.mh id j g) Y){q:Nat}(hq:q<X.w.heap.size)(hm:nK id j (X.ow q)=false)(fS:q≠g):(X.eF Y id j g d).ow q=X.ow q/\(X.eF Y id j g d).w.heap[q]? =X.w.heap[q]? /\(Y.ow q).still/\Y.ow q=Fx id j (X.ow q):=by
 have e:(X.mh id j g).ow q=Fx id j (X.ow q):=by simp only[cc.mh];rw[if_neg fS]
 obtain⟨h1,h2⟩:=h.still q hq (by rw[e];exact z9b hm);refine⟨by simp only[cc.eF];rw[if_neg fS,if_pos ⟨hq,hm⟩],h2,?_,h1.trans e⟩;rw[h1,e];exact z9b hm
theorem Good.mh(h:Good tq X)(hg:X.ow g= .row (.b id [j]) 0):Good tq (X.mh id j g):=λe he=>by
 obtain⟨h1,h2⟩:=h e he;have hm:nK id j (X.ow e.1)=false:=by cases hx:X.ow e.1<;>rw[hx] at h1<;>first|rfl|exact h1.elim
 refine⟨?_,h2⟩;simp only[cc.mh];rw[if_neg (λe2=>by rw[e2,hg] at h1;exact h1)];exact z9b hm
theorem adW(h:Ext (X.mh id j g) Y){q:Nat}(fS:q≠g)(hs:¬(Y.ow q).still):(X.eF Y id j g d).ow q=Z2 id j d (Y.ow q):=by simp only[cc.eF];rw[if_neg fS,if_neg];rintro⟨hq,hm⟩;exact hs (Fh (d:=d) h hq hm fS).2.2.1
theorem zao(h:Ext (X.mh id j g) Y)(hY:Y.ow g= .box 0){ad:Addr}{v:Value}(hs:Y.cn ad v):(X.eF Y id j g d).cn ad v:=by
 have fS:ad.block≠g:=λe=>by have:=hs.2.2;rw[e,hY] at this;exact this
 refine⟨hs.1,hs.2.1,?_⟩;simp only[cc.eF];rw[if_neg fS];split
 ·rename_i hc;have:=(Fh (d:=d) h hc.1 hc.2 fS).2.2.2;have hu:=hs.2.2;rw[this,zmo] at hu;exact hu
 ·exact acq hs.2.2
theorem SL(h:Ext (X.mh id j g) Y)(hg:X.ow g= .row (.b id [j]) 0)(hY:Y.ow g= .box 0):Ext X (X.eF Y id j g d) where
 cn:=λad v hs=>zao h hY (h.cn ad v ((zz8 hg).2 hs))
 size:=h.size
 os:=h.os
 tape:=h.tape
 output:=h.output
 β0:=rfl
 still:=λq hq gy=>by
  have hm:nK id j (X.ow q)=false:=by cases hx:X.ow q<;>rw[hx] at gy<;>first|rfl|exact gy.elim
  obtain⟨h1,h2,_⟩:=Fh (d:=d) h hq hm (λe=>by rw[e,hg] at gy;exact gy);exact⟨h1,h2⟩
theorem fa.eF(h:Ext (X.mh id j g) Y)(hg:X.ow g= .row (.b id [j]) 0){pl:Place}(oP:∀n,nK id j (.row pl n)=false){e:TypeId}{m n:Nat}{v:Value}(ho:fa X pl e m n v):fa (X.eF Y id j g d) pl e m n v:=by
 rcases ho with ho|⟨q,cap,cur,h1,h2,h3,h4,h5,h6⟩
 ·exact .inl ho
 ·obtain⟨k1,k2,_⟩:=Fh (d:=d) h (De h2) (by rw[h6];exact oP _) (λe=>by
   rw[e,hg] at h6;injection h6 with h6 _
   have:=oP 0;rw[<-h6] at this;simp [nK] at this)
  exact .inr ⟨q,cap,cur,h1,k2.trans h2,h3,h4,h5,k1.trans h6⟩
theorem eO.eF(h:Ext (X.mh id j g) Y)(hg:X.ow g= .row (.b id [j]) 0){pl:List Nat->Place}(oP:∀p n,nK id j (.row (pl p) n)=false){t:Ty}{x:El t}{cs:List Value}{own:List (List Nat)}(ho:eO X pl t x cs own):eO (X.eF Y id j g d) pl t x cs own:=λp hp=>by obtain⟨e,t',xs,v,g0,g1,g2,g3⟩:=ho p hp;exact⟨e,t',xs,v,g0,g1,g2,g3.eF h hg (oP p)⟩
theorem eO.Ak(h:Ext (X.mh id j g) Y)(hY:Y.ow g= .box 0){pl pB:List Nat->Place}(oP:∀p n,Z2 id j d (.row (pl p) n)= .row (pB p) n){t:Ty}{x:El t}{cs:List Value}{own:List (List Nat)}(ho:eO Y pl t x cs own):eO (X.eF Y id j g d) pB t x cs own:=λp hp=>by
 obtain⟨e,t',xs,v,g0,g1,g2,g3⟩:=ho p hp;refine⟨e,t',xs,v,g0,g1,g2,?_⟩;rcases g3 with ho|⟨q,cap,cur,h1,h2,h3,h4,h5,h6⟩
 ·exact .inl ho
 ·refine .inr ⟨q,cap,cur,h1,h2,h3,h4,h5,?_⟩;rw[adW h (λe=>by rw[e,hY] at h6;cases h6) (by rw[h6];exact λe=>e),h6,oP]
theorem cw.eF(h:Ext (X.mh id j g) Y)(hg:X.ow g= .row (.b id [j]) 0)(hY:Y.ow g= .box 0){i k:Nat}{sv:SV}{v:Value}(hr:cw X (.c i k) sv v):cw (X.eF Y id j g d) (.c i k) sv v:=by
 have hs:∀a v,X.cn a v->(X.eF Y id j g d).cn a v:=(SL h hg hY).cn;cases sv with
 |undef=>trivial
 |skip=>exact hr
 |jR=>exact hr
 |nE=>exact hr
 |over=>exact hr
 |bY t x own=>obtain⟨cs,h1,h2,h3⟩:=hr;exact⟨cs,h1.bE hs,h2,h3.eF h hg (λ_ _=>rfl)⟩
 |ptr dX t p=>obtain⟨r,h1,h2⟩:=hr;exact⟨r,h1,h2⟩
 |view t x=>obtain⟨ad,cs,h1,h2,h3,h4⟩:=hr;exact⟨ad,cs,h1,h2,h3.bE hs,λi u hi=>hs _ _ (h4 i u hi)⟩
 |cap f t x u y=>exact AA hs hr
 |fc dX a b n=>obtain⟨r,h1,h2,h3⟩:=hr;obtain⟨e1,e2,_⟩:=Fh (d:=d) (q:=r) h (eE X.w _ h3) (by rw[h2];rfl) (λe=>by rw[e,hg] at h2;cases h2);refine⟨r,h1,e1.trans h2,?_⟩;simp only[bT] at h3⊢;rw[e2];exact h3
theorem fq.eF(h:Ext (X.mh id j g) Y)(hg:X.ow g= .row (.b id [j]) 0)(hY:Y.ow g= .box 0){dX r:Nat}{B:fp}(fS:dX≠id)(hb:fq X dX r B):fq (X.eF Y id j g d) dX r B:=by
 obtain⟨h3,h1⟩:=hb;have hm:∀p n,nK id j (.row (.b dX p) n)=false:=λp n=>by
  cases p with
  |nil=>rfl
  |cons j' p=>simp [nK,fS]
 obtain⟨k1,k2,_⟩:=Fh (d:=d) h h1.lt (by rw[h3];rfl) (λe=>by rw[e,hg] at h3;cases h3);exact⟨k1.trans h3,h1.move (SL h hg hY).cn k2 (λcs h4=>h4.eF h hg hm) λp _ q o n ho hw=>by
  obtain⟨e1,e2,_⟩:=Fh (d:=d) h (De ho) (by rw[hw];exact hm _ _) (λe=>by
   rw[e,hg] at hw;injection hw with hw _
   have:=hm p n;rw[<-hw] at this;simp [nK] at this)
  exact⟨e2.trans ho,e1.trans hw⟩⟩
theorem cw.Ak(h:Ext (X.mh id j g) Y)(hY:Y.ow g= .box 0){r0 k:Nat}{sv:SV}{v:Value}(hp:∀id t p,sv≠ .ptr id t p)(hn:sv.gi=false)(hr:cw {Y with β:=λ_=>some r0} (.r k) sv v):cw (X.eF Y id j g d) (.c d k) sv v:=by
 have hs:∀a v,({Y with β:=λ_=>some r0}:cc).cn a v->(X.eF Y id j g d).cn a v:=λa v hs=>zao h hY (show Y.cn a v from hs);cases sv with
 |undef=>trivial
 |skip=>exact hr
 |jR=>exact hr
 |nE=>exact hr
 |over=>exact hr
 |bY t x own=>obtain⟨cs,h1,h2,h3⟩:=hr;have h3:eO Y (.r k) t x cs own:=h3;exact⟨cs,eI.bE hs h1,h2,h3.Ak h hY (λ_ _=>rfl)⟩
 |ptr dX t p=>exact absurd rfl (hp dX t p)
 |view t x=>obtain⟨ad,cs,h1,h2,h3,h4⟩:=hr;exact⟨ad,cs,h1,h2,eI.bE hs h3,λi u hi=>hs _ _ (h4 i u hi)⟩
 |cap f t x u y=>exact AA (X:={Y with β:=λ_=>some r0}) hs hr
 |fc dX a b n=>cases hn
theorem kC.Ak(h:Ext (X.mh id j g) Y)(hY:Y.ow g= .box 0){r0:Nat}{r:List SV}{v:Value}(hp:∀id t p,SV.ptr id t p∉r)(hn:r.any SV.gi=false)(hr:kC {Y with β:=λ_=>some r0} .r r v):kC (X.eF Y id j g d) (.c d) r v:=
 hr.ru λk sv u hk hu=>hu.Ak h hY (λid t p e=>hp id t p (e▸aL hk)) (by simpa using cH.1 hn sv (aL hk))
theorem mC.eF(h:Ext (X.mh id j g) Y)(hg:X.ow g= .row (.b id [j]) 0)(hY:Y.ow g= .box 0){k:Nat}(hk:k≠j){b:Ty}{m:ae (El b)}{v:Value}(hm:mC X (λp=> .b id (k::p)) b m v):mC (X.eF Y id j g d) (λp=> .b id (k::p)) b m v:=
 hm.move (SL h hg hY).cn λp _ q o n ho hw=>by
  have hf:nK id j (.row (.b id (k::p)) n)=false:=by
   simp only[nK];rw[show ak k j=false from by
    cases h:ak k j with
    |false=>rfl
    |true=>exact absurd (aH h) hk,Bool.and_false]
  obtain⟨e1,e2,_⟩:=Fh (d:=d) h (De ho) (by rw[hw];exact hf) (λe=>by
   rw[e,hg] at hw;injection hw with hw _
   injection hw with _ hw
   injection hw with hw _
   exact hk hw.symm)
  exact⟨e2.trans ho,e1.trans hw⟩
end
theorem SN:∀(vs l:List SV),rX s vs=some (l,none)->∀sv∈l,(∃t x,sv= .bY t x [])\/sv= .jR\/∃t x,sv= .view t x
 | [],l,h,sv,hm=>by simp only[rX,aC,gB] at h;rw[<-h.1] at hm;cases hm
 |v::r,l,h,sv,hm=>by
  simp only[rX] at h;split at h
  ·cases h
  rename_i l1 b1 h1;split at h
  ·cases h;rcases aD.1 hm with rfl|hm
   ·exact .inl ⟨_,_,rfl⟩
   ·exact SN r l1 h1 sv hm
  ·cases h;rcases aD.1 hm with rfl|hm
   ·exact .inr (.inl rfl)
   ·exact SN r l1 h1 sv hm
  ·cases h;rcases aD.1 hm with rfl|hm
   ·exact .inr (.inr ⟨_,_,rfl⟩)
   ·exact SN r l1 h1 sv hm
  ·split at h
   case h_2=>cases h
   split at h
   case isFalse=>cases h
   cases h
  ·cases h
theorem zmp{mN:List Operand}{t id j:Nat}{ta tb:Ty}{r:List Operand}(h:Kv s mN=some (t,id,ta,tb,j,r)):mN= .tmp t::r/\s.slot t=[.fc id ta tb j]:=by
 unfold Kv at h;split at h
 case h_2=>cases h
 split at h
 case h_2=>cases h
 rename_i hs;cases h;exact⟨rfl,hs⟩
theorem aiZ{X:cc}{id j:Nat}{b:Ty}{m:ae (El b)×ae (El b)}{p0 p1:Value}{y:El b}(hj:j<2)(h0:mC X (λp=> .b id (0::p)) b m.1 p0)(h1:mC X (λp=> .b id (1::p)) b m.2 p1)(hy:getM j m=some y):mC X (λp=> .b id (j::p)) b (some y) (if j=0 then p0 else p1):=by
 match j,hj with
 |0,_=>have hy:m.1=some y:=hy;rw[hy] at h0;exact h0
 |1,_=>have hy:m.2=some y:=hy;rw[hy] at h1;exact h1
theorem adj(hr:Rel tq X s a){C:bH}(hC:C.Nat){f:FuncId}(hf:ly P tq C f){mN:Array Operand}{ts:Array TypeId}(ho:o.op= .call ⟨.value (.func f),mN,ts⟩){t id j:Nat}{ta tb:Ty}{r:List Operand}(hl:Kv s mN.toList=some (t,id,ta,tb,j,r))(h:sT (C Out) s f t id ta tb j (r.map s.cP) some=some u):tG P tq X s a o u:=by
 obtain⟨has,gy⟩:=zmp hl;have qM:=hr.slot t;rw[gy] at qM;obtain⟨rr,hβ,how,mO⟩:cw X (.c t 0) (.fc id ta tb j) (a.tmps.getD t aW):=qM;have hti:t<s.sl.length:=by
  rcases eB t s.sl.length with h|h
  ·exact h
  ·simp [State.slot,aS h] at gy
 have hsi:s.sl[t]? =some [.fc id ta tb j]:=by rw[yX hti,gy]
 obtain⟨_,⟨x1,OA,uU,anE⟩,Oh⟩:=hr.fc t _ id ta tb j hsi (by simp);unfold sT at h;split at h
 case isTrue=>cases h
 rename_i nm;have nm:tb.fG=false:=by simpa using nm
 split at h
 case h_2=>cases h
 rename_i l gS;obtain⟨x,own,r1,hb,h,gD,h1,_,c,p0,p1,T,cJ,de,AQ,AR⟩:=Kf hr h;rw[hβ] at h1;cases h1;split at h
 case h_2=>cases h
 rename_i y hy;have hv:(c++ [p0,p1,Value.int .i64 x.2.2])[ta.cells+j]? =some (a.tmps.getD t aW):=by simp only[bT,cJ] at mO;simpa using mO
 rw[bc (by rw[de.len];omega),de.len,cp] at hv;have hj:j<2:=by
  match j,hy with
  |0,_=>omega
  |1,_=>omega
  |j+2,hy=>cases hy
 obtain⟨g,csg,Tg,GN,hhg,um,hrg,hwg⟩:=aiZ hj AQ AR hy;have hvt:a.tmps.getD t aW= .pointer (some ⟨g,0,none⟩):=by
  match j,hj with
  |0,_=>
   have hv:p0=a.tmps.getD t aW:=by simpa using hv
   rw[<-hv];exact GN
  |1,_=>
   have hv:p1=a.tmps.getD t aW:=by simpa using hv
   rw[<-hv];exact GN
 obtain⟨⟨res,b'⟩,vX,h⟩:=sI (hC Out _ f (.ptr 0 tb []::l) (some ⟨tb,y,HH⟩) _ (λr b=>some (r,b)) (λz=>match z.2 with
  |some B'=>if h:B'.t.iS tb=true then bif pU B'.own [2] then some {v:=z.1,bx:=some (id,⟨.dJ .lh ta tb,(x.1,pS j (some (Ty.cast h B'.x)) x.2.1,x.2.2),[]::own⟩),cl:=[(t,0)]} else none else none
  |none=>none) (λr b=>rfl)) h
 obtain⟨nC,wg⟩:=hf _ _ res b' vX;have ql:sK tq (X.mh id j g) (.ptr 0 tb []::l) (some ⟨tb,y,HH⟩) (mN.map a.eval):=by
  have nq:∀ad v,X.cn ad v->(X.mh id j g).cn ad v:=λ_ _=>(zz8 um).2;have Ny:mN.toList.map a.eval=a.eval (.tmp t)::r.map a.eval:=by rw[has];rfl
  have jH:∀i,(mN.map a.eval)[i]? =(a.eval (.tmp t)::r.map a.eval)[i]? :=λi=>by rw[<-Ny,<-Array.toList_map,bz]
  obtain⟨i1,_,_,i4⟩:=znp hr (r.map λx=>(s.cP x,a.eval x)) l none (λz hz=>by obtain⟨q,_,rfl⟩:=bm.1 hz;exact⟨_,hr.cP q⟩) (by rw[kH];exact gS)
  refine⟨?_,λi sv v hs hv=> ?_,λdX t' p hm=> ?_,λB hB=> ?_,(λhb=>by cases hb),(by have:=zno _ _ _ gS;simpa [SV.gi] using this),hr.km.mh um⟩
  ·have:=congrArg ag Ny;simp at this i1⊢;omega
  ·rw[jH] at hv;cases i with
   |zero=>simp only[bU,aC] at hs hv;subst hs hv;refine⟨g,rfl,(yU nm).2 ⟨?_,by simp [Ty.nH]⟩⟩;show a.tmps.getD t aW=_;rw[hvt];simp [Ty.off]
   |succ i=>
    simp only[bI] at hs hv;have hx:=i4 none (λ_ _ e=>by cases e) i sv;rw[aP] at hv;obtain⟨q,hq,rfl⟩:=ax.1 hv;have Co:=hx (s.cP q,a.eval q) hs (by rw[aP,hq];rfl) (.c (i+1) 0);have GR:∀ad v,(X.jQ none).cn ad v->(X.mh id j g).cn ad v:=λad v h=>nq ad v (CT.1 h);rcases SN _ _ gS sv (aL hs) with⟨t1,y1,rfl⟩|rfl|⟨t1,y1,rfl⟩
    ·obtain⟨cs,e1,e2,_⟩:=Co;exact⟨cs,e1.bE GR,e2,vu⟩
    ·exact Co
    ·obtain⟨ad,cs,e1,e2,e3,e4⟩:=Co;exact⟨ad,cs,e1,e2,e3.bE GR,λi w hi=>GR _ _ (e4 i w hi)⟩
  ·rcases aD.1 hm with e|hm
   ·cases e;exact⟨rfl,rfl⟩
   ·rcases SN _ _ gS _ hm with⟨_,_,e⟩|e|⟨_,_,e⟩<;>cases e
  ·cases hB;refine⟨g,rfl,by simp [cc.mh],mA.of nm hhg (hrg.bE nq) λp hp=> ?_⟩;obtain⟨e,t',xs,v,g0,g1,g2,g3⟩:=hwg p hp;refine⟨e,t',xs,v,g0,g1,g2,?_⟩;rcases g3 with g3|⟨q,cap,cur,k1,k2,k3,k4,k5,k6⟩
   ·exact .inl g3
   ·refine .inr ⟨q,cap,cur,k1,k2,k3,k4,k5,?_⟩;have fS:q≠g:=λe=>by
     rw[e,um] at k6;injection k6 with k6 _
     injection k6 with _ k6
     injection k6 with _ k6
     have:p=[2]:=by simpa [HH] using hp
     rw[this] at k6;cases k6
    simp only[cc.mh];rw[if_neg fS,k6];simp [Fx]
 intro next Q hn
 unfold gT;rw[zyj nC ho,kZ];refine(wg (X.mh id j g) _ ql).mono λe w' he=> ?_;cases e with
 |panicked c=>exact he.elim
 |outgrown=>exact he.elim
 |returned v=>
  obtain⟨Y,rfl,dO,r0,N9,fP,xG,na⟩:=he;cases b' with
  |none=>cases h
  |some B'=>
   simp only at h;split at h
   case isFalse=>cases h
   rename_i l8;cases NV:pU B'.own [2] with
   |false=>rw[NV] at h;cases h
   |true=>
   rw[NV,cond_true] at h;cases h;have hp:=xG (.inr rfl);obtain⟨hB,hβ0⟩:=fP B' rfl;have hβ0:=hβ0 rfl;have:g=r0:=by have e:(X.mh id j g).β 0=some g:=rfl;rw[e] at hβ0;injection hβ0
   subst this;have hY:Y.ow g= .box 0:=hB.1;have hX:=SL (d:=o.dst.getD 0) dO um hY;refine hn (X.eF Y id j g (o.dst.getD 0)) v hX ?_;obtain⟨er1,er2,_⟩:=Fh (d:=o.dst.getD 0) (q:=rr) dO (De cJ) (by rw[how];rfl) (λe=>by rw[e,um] at how;cases how);have gL:mC (X.eF Y id j g (o.dst.getD 0)) (λp=> .b id (j::p)) tb (some (Ty.cast l8 B'.x)) (.pointer (some ⟨g,0,none⟩)):=by
    obtain⟨bt,bx,bo⟩:=B';have e:=Ty.cT l8;simp only at e;subst e;obtain⟨nG,T',k1,k2,k3⟩:=(mA.plain nm).1 hB.2;refine⟨g,nG,T',rfl,k1,by simp [cc.eF],k2.bE λ_ _=>zao dO hY,?_⟩;have h2:eO (X.eF Y id j g (o.dst.getD 0)) (λp=> .b id (j::p)) bt bx nG.toList bo:=eO.Ak dO hY (pl:= .b 0) (λ_ _=>rfl) k3;intro p hp;have:p=[2]:=by simpa [HH] using hp
    subst this;exact h2 [2] (Hk NV)
   have Ip:qA (X.eF Y id j g (o.dst.getD 0)) rr (.b id) ta tb (x.1,pS j (some (Ty.cast l8 B'.x)) x.2.1,x.2.2):=by
    refine⟨c,p0,p1,T,er2.trans cJ,de.bE hX.cn,?_,?_⟩
    ·match j,hj,GN with
     |0,_,GN=>have:p0= .pointer (some ⟨g,0,none⟩):=GN;rw[this];exact gL
     |1,_,_=>exact AQ.eF dO um hY (by omega)
    ·match j,hj,GN with
     |0,_,_=>exact AR.eF dO um hY (by omega)
     |1,_,GN=>have:p1= .pointer (some ⟨g,0,none⟩):=GN;rw[this];exact gL
   have mP:=hr.iv t 0;have qL:∀(i:Nat) (l:List SV) a b j,(s.iv t 0).sl[i]? =some l->SV.fc id a b j∈l->False:=λi l a' b' j' sZ hm=>by
    simp only[State.iv,az] at sZ;split at sZ
    ·first
      |(split at sZ
        ·cases sZ;rw[gy] at hm;simp [Ref.gx,SV.shut] at hm
        ·cases sZ)
      |(cases sZ
        rw[gy] at hm;simp [Ref.gx,SV.shut] at hm)
    ·rename_i e;exact e (Oh i l a' b' j' sZ hm).symm
   have bR:id<(s.iv t 0).bs.length:=(aA.1 hb).1;have fb:Rel tq (X.eF Y id j g (o.dst.getD 0)) ((s.iv t 0).cG (some (id,⟨.dJ .lh ta tb,(x.1,pS j (some (Ty.cast l8 B'.x)) x.2.1,x.2.2),[]::own⟩))) a:=by
    refine⟨mP.size,by simpa [State.cG] using mP.pW,λi l v sZ rL=>(mP.gC i l v sZ rL).ru λk sv u hm hu=>hu.eF dO um hY,λdX B2 ll=> ?_,λi l dX t' p hi hm=> ?_,mP.defers,mP.fc.cG qL,mP.km.ext (SL dO um hY)⟩
    ·simp only[State.cG,az] at ll;by_cases e:id=dX
     ·subst e;rw[if_pos rfl,if_pos bR] at ll;cases ll;exact⟨rr,hβ,er1.trans how,⟨_,er2.trans cJ⟩,λ_=>Ip⟩
     ·rw[if_neg e] at ll;obtain⟨r',k1,k2⟩:=mP.boxes dX B2 ll;exact⟨r',k1,k2.eF dO um hY (λe2=>e e2.symm)⟩
    ·obtain⟨B2,ll⟩:=mP.live i l dX t' p hi hm;simp only[State.cG,az];by_cases e:id=dX
     ·subst e;exact⟨_,by rw[if_pos rfl,if_pos bR]⟩
     ·rw[if_neg e];exact⟨B2,ll⟩
   exact fb.fin (N9.Ak dO hY hp na) (λid t p hm=>absurd hm (hp id t p)) na
theorem afJ(hr:Rel tq X s a){C:bH}(hC:C.Nat){f:FuncId}(hf:ly P tq C f){ops:List Oper}{mN:Array Operand}{ts:Array TypeId}(ho:o.op= .call ⟨.value (.func f),mN,ts⟩)(h:act E (C Out) ops o s some=some u):tG P tq X s a o u:=by
 unfold act at h;simp only[ho] at h;split at h
 ·rename_i t id ta tb j r hl;exact adj hr hC hf ho hl h
 obtain⟨u0,h0,h1⟩:=sI (Vx hC (F:=λu=>some (bif oI E o.dst then u.shut else u)) (G:=some) (K:=λu=>some (bif oI E o.dst then u.shut else u)) (λ_=>rfl)) h;have hd:tG P tq X s a o u0:=by refine zd1 hr hC hf (zcq hr mN) (λnC=> ?_) (by rw[kH];exact h0);rw[zyj nC ho];congr 2;apply iJ.1;simp [jS]
 cases hs:oI E o.dst with
 |false=>rw[hs] at h1;cases h1;exact hd
 |true=>rw[hs] at h1;cases h1;exact hd.shut
theorem alz{f:FuncId}(h:AM P f){x:Operand}{v:Value}{mN:Array Operand}{ts:Array TypeId}(ho:o.op= .call ⟨.value x,mN,ts⟩)(hx:a.eval x= .func (.func f) #[] #[v])(w:World):(execOp a.eval o).run P w= .ok (.enter f (mN.map a.eval++ #[v])) w:=by obtain⟨fn,c,h1,h2,h3⟩:=h;simp [execOp,ho,resolve,kq,hx,invoke,callFunc,h1,h3];simpa using h2
theorem aiB{f:FuncId}(h:AM P f){x:Operand}{v v2:Value}{mN:Array Operand}{ts:Array TypeId}(ho:o.op= .call ⟨.value x,mN,ts⟩)(hx:a.eval x= .func (.func f) #[] #[v,v2])(w:World):(execOp a.eval o).run P w= .ok (.enter f (mN.map a.eval++ #[v,v2])) w:=by obtain⟨fn,c,h1,h2,h3⟩:=h;simp [execOp,ho,resolve,kq,hx,invoke,callFunc,h1,h3];simpa using h2
theorem adi(hr:Rel tq X s a){C:bH}(hC:C.Nat)(hf:∀f,ly P tq C f){ops:List Oper}{y:Nat}{mN:Array Operand}{ts:Array TypeId}(ho:o.op= .call ⟨.value (.tmp y),mN,ts⟩)(h:act E (C Out) ops o s some=some u):tG P tq X s a o u:=by
 unfold act at h;simp only[ho] at h;split at h
 case h_3=>cases h
 case h_2=>
  rename_i f t x1 u' y1 mG;have hx:=hr.cP (.tmp y);rw[mG] at hx;obtain⟨ad,yJ,cs,nG,hv,⟨g2,g3,g4⟩,k2,k3,k4⟩:=hx;refine zd1 hr hC (hf f) (vs:=mN.toList.map (λx=>(s.cP x,a.eval x))++ [(.view t x1,.pointer (some ad)),(.view u' y1,.pointer (some yJ))]) (λx hx=> ?_) (λnC=> ?_) (by rw[cg,kH];exact h)
  ·rcases aT.1 hx with hx|hx
   ·exact zcq hr mN x hx
   ·rcases aD.1 hx with rfl|hx
    ·exact⟨.r 0,ad,cs,rfl,g2,g3,g4⟩
    ·rw[cL.1 hx];exact⟨.r 0,yJ,nG,rfl,k2,k3,k4⟩
  ·rw[aiB nC ho hv];congr 2;apply iJ.1;simp [jS]
 rename_i id f t b mG;have hx:=hr.cP (.tmp y);rw[mG] at hx;obtain⟨r0,hβ,hv⟩:=hx;have hv:a.eval (.tmp y)= .func (.func f) #[] #[.pointer (some ⟨r0,0,none⟩)]:=hv;split at h
 case isTrue=>cases h
 rename_i hs;refine zd1 hr hC (hf f) (vs:=mN.toList.map (λx=>(s.cP x,a.eval x))++ [(.ptr id t [],.pointer (some ⟨r0,0,none⟩))]) (λx hx=> ?_) (λnC=> ?_) (by rw[cg,kH];exact h)
 ·rcases aT.1 hx with hx|hx
  ·exact zcq hr mN x hx
  ·rw[cL.1 hx];exact⟨.r 0,r0,hβ,(S1 (by simpa using hs)).2 ⟨by simp [Ty.off],by simp [Ty.nH]⟩⟩
 ·rw[alz nC ho hv];congr 2;apply iJ.1;simp [jS]
end Go.Ref

namespace Go.Ref
open Go
variable {P:Program} {tq:oK} {E:Env} {X:cc} {s:State} {a:Act} {o:Oper} {u:Out}
theorem aik(hE:bO P E)(hr:Rel tq X s a){C:bH}(hC:C.Nat)(hf:∀f,ly P tq C f){ops:List Oper}(h:act E (C Out) ops o s some=some u):tG P tq X s a o u:=by
 cases ho:o.op with
 |move x=>exact(afO hr ho h).does
 |assign x=>exact(acs hr ho h).does
 |pick c x y=>exact(afQ hr ho h).does
 |binOp op T x y T'=>exact(aiK hE hr ho h).does
 |unOp op T x=>exact(alC hr ho h).does
 |convert S T x=>exact(afK hE hr ho h).does
 |load T x=>exact(afN hE hr ho h).does
 |store T x y=>exact(adp hE hr ho h).does
 |nilCheck x=>exact(abM hr ho h).does
 |fieldAddr T x j=>exact(zx4 hE hr ho h).does
 |indexAddr T x i=>exact(zx5 hE hr ho h).does
 |index T x i=>exact(z194 hE hr ho h).does
 |field T x j=>exact(z193 hE hr ho h).does
 |slice T x lo hi mx=>
  cases mx with
  |none=>exact(aiM hE hr ho h).does
  |some m=>unfold act at h;simp only[ho] at h;cases h
 |alloc T=>exact(adg hE hr ho h).does
 |box T x=>exact(aiL hE hr ho h).does
 |build T parts=>exact(adh hE hr ho h).does
 |buildSlice T n parts=>exact(zrg hE hr ho h).does
 |extract x j=>exact(ab1 hr ho h).does
 |makeMap T r=>exact(ab6 hE hr ho h).does
 |lookup T x i ok=>exact(acu hE hr ho h).does
 |mapUpdate T m k x=>exact(zc4 hE hr (.inl ho) h).does
 |insert T m k x=>exact(zc4 hE hr (.inr ho) h).does
 |range T x=>exact(z196 hE hr ho h).does
 |next x str=>exact(afP hr ho h).does
 |makeSlice T l c=>exact(zx6 hE hr ho h).does
 |makeFunc fn fi ca=>exact(abL hr ho h).does
 |call c=>
  obtain⟨callee,args,ts⟩:=c;cases callee with
  |value x=>
   cases x with
   |func f=>exact afJ hr hC (hf f) ho h
   |tmp y=>exact adi hr hC hf ho h
   |_=>unfold act at h;simp only[ho] at h;cases h
  |builtin b=>
   cases b with
   |len=>exact(aiN (x:= .const aW) (T:=0) hE hr ho h).does
   |append=>exact(z157 hE hr ho h).does
   |copy=>exact(afL hE hr ho h).does
   |max=>exact(zyb (g:=true) hr ho h).does
   |min=>exact(zyb (g:=false) hr ho h).does
   |_=>unfold act at h;simp only[ho] at h;cases h
  |_=>unfold act at h;simp only[ho] at h;cases h
 |_=>unfold act at h;simp only[ho] at h;cases h
theorem Rel.know(hr:Rel tq X s a){d:Nat}{p:Bool}{o:List (List Nat)}(h:s.slot d=[.bY .bool p o]):Rel tq X (s.b7 (some d) (bl p)) a/\a.tmps[d]? =some (.bool p):=by
 have hd:d<s.sl.length:=by
  rcases eB d s.sl.length with h1|h1
  ·exact h1
  ·simp [State.slot,aS h1] at h
 have wT:d<a.tmps.size:=by rw[<-hr.size];exact hd
 have hv:a.tmps[d]? =some (a.tmps.getD d aW):=by simp [bh wT]
 have hs:=hr.slot d;rw[h] at hs;have hb:=Su (X:=X) hs;rw[hb] at hv;refine⟨?_,hv⟩;have aaB:a.put (some d) (.bool p)=a:=by
  cases a with
  |mk tmps defers=>
   simp only[Act.put,Act.mk.injEq,and_true];apply Array.ext_getElem?;intro i;rw[di];split
   ·rename_i e;subst e
    first
     |exact hv.symm
     |(rw[if_pos wT];exact hv.symm)
   ·rfl
 have:=hr.put (d:=some d) (l:=bl p) (v:= .bool p) (λ_ _=>wN) (λid t q hm=>by simp [bl] at hm);rw[aaB] at this;exact this
theorem YD(hE:bO P E)(hr:Rel tq X s a){C:bH}(hC:C.Nat)(hf:∀f,ly P tq C f){ops:Array Oper}{i:Nat}(hi:ops[i]? =some o){s':State}(h:step E (C State) ops.toList o s some=some s'){Q:Exit->Act->World->Prop}{K:Act->World->Prop}
 (hK:∀Y a',Ext X Y->Rel tq Y s' a'->K a' Y.w):wpOp P ops Q i K a X.w:=by
 unfold wpOp;simp only[hi];have Ai:∀{s1:State},Rel tq X s1 a->(act E (C State) ops.toList o s1 λu=>some (s1.apply o.dst u))=some s'->o.wp P a X.w K Q:=by intro s1 mP h1;obtain⟨u,hu,h2⟩:=sI (Fo hC (F:=λu=>some (s1.apply o.dst u)) (G:=some) (K:=λu=>some (s1.apply o.dst u)) (λ_=>rfl)) h1;cases h2;exact aik hE mP hC hf hu K Q (λY v dO fb=>hK Y _ dO fb)
 have s6:∀{s1:State},Rel tq X s1 a->some (s1.b7 o.dst [.skip])=some s'->K (a.put o.dst aW) X.w:=by intro s1 mP h1;cases h1;exact hK X _ (Ext.refl X) (mP.skip o.dst)
 unfold step at h;simp only at h;split at h
 ·rename_i hg;have hw:cA o (yielded ops a.tmps)=true:=by simp [cA,hg]
  rw[if_pos hw];exact .inl (Ai hr h)
 ·rename_i g want hg;split at h
  ·cases h
  rename_i d hd;have Gu:(ops[g]?).bind (·.dst)=some d:=by simpa [TR] using hd
  split at h
  ·rename_i p hs;obtain⟨mP,hv⟩:=hr.know hs;have hy:yielded ops a.tmps g=some p:=by simp [yielded,Gu,hv]
   have hw:cA o (yielded ops a.tmps)=(p==want):=by simp [cA,hg,hy]
   cases p<;>cases want<;>simp only[cond_true,cond_false] at h<;>rw[hw]
   ·exact .inl (Ai mP h)
   ·exact s6 mP h
   ·exact s6 mP h
   ·exact .inl (Ai mP h)
  ·rename_i hs;have qM:=hr.slot d;rw[hs] at qM;have xH:a.tmps.getD d aW=aW:=qM;have hy:yielded ops a.tmps g=none:=by
    simp only[yielded,Gu,Option.bind_some];cases ht:a.tmps[d]? with
    |none=>rfl
    |some v=>
     have:v=aW:=by rw[<-xH];simp [bg,ht]
     subst this;rfl
   have hw:cA o (yielded ops a.tmps)=false:=by simp [cA,hg,hy]
   rw[hw];exact s6 hr h
  ·cases h
theorem P3(hE:bO P E){C:bH}(hC:C.Nat)(hf:∀f,ly P tq C f){ops:Array Oper}{s':State}{Q:Exit->Act->World->Prop}:∀(l:List Nat) (X:cc) (s:State) (a:Act),Rel tq X s a->(∀i∈l,i<ops.size)->
 steps E (C State) ops.toList (l.map λi=>ops.getD i default) s some=some s'->(∀Y a',Ext X Y->Rel tq Y s' a'->Q .normal a' Y.w)->wpOps P ops Q l a X.w
 | [],X,s,a,hr,_,h,hQ=>by cases h;exact hQ X a (Ext.refl X) hr
 |i::r,X,s,a,hr,hl,h,hQ=>by
  simp only[bd,steps] at h;obtain⟨s1,h1,h2⟩:=sI (zol hC (F:=λs=>steps E (C State) ops.toList (r.map λi=>ops.getD i default) s some) (G:=some) (K:=λs=>steps E (C State) ops.toList (r.map λi=>ops.getD i default) s some) (λ_=>rfl)) h;have hi:ops[i]? =some (ops.getD i default):=by have:=hl i (by simp);simp [this]
  rw[wpOps_cons];refine YD hE hr hC hf hi h1 λY a' dO fb=> ?_;exact P3 hE hC hf r Y s1 a' fb (λj hj=>hl j (aE _ hj)) h2 λZ a2 iu lB=>hQ Z a2 (dO.trans iu) lB
end Go.Ref

namespace Go.Ref
open Go
variable {P:Program} {E:Env} {X:cc} {s:State} {a:Act} {o:Oper} {u:Out}
theorem znz(i j:Nat):(bit i).testBit j=decide (i=j):=by simp [bit,iR,dU]
theorem Fj:∀(l:List Nat) (j:Nat),(rP l).testBit j=decide (j∈l)
 | [],j=>by simp [rP]
 |i::r,j=>by
  rw[rP,eg,znz,Fj r j];by_cases h:i=j
  ·subst h;simp
  ·have h':¬j=i:=λe=>h e.symm;simp [h,h']
theorem VP{a b:Nat}(h:ak (a&&&b) 0=true)(j:Nat):a.testBit j=true->b.testBit j=false:=by intro ha;have h0:=aH h;have:=congrArg (λn=>Nat.testBit n j) h0;simp only[Nat.testBit_and,Nat.zero_testBit,ha,Bool.true_and] at this;exact this
theorem JN:∀(l:List Edge) (j:Nat),(zy l).testBit j=true->∃e∈l,gf .any e=true/\e.on=j
 | [],j,h=>by simp [zy] at h
 |e::r,j,h=>by
  simp only[zy] at h;cases hb:gf .any e with
  |false=>rw[hb] at h;obtain⟨e',h1,h2⟩:=JN r j h;exact⟨e',aE _ h1,h2⟩
  |true=>
   rw[hb] at h;simp only[cond_true,eg,znz,jh,decide_eq_true_eq] at h;rcases h with h|h
   ·exact⟨e,by simp,hb,h⟩
   ·obtain⟨e',h1,h2⟩:=JN r j h;exact⟨e',aE _ h1,h2⟩
theorem zg0:∀(l:List Edge) (e:Edge),e∈l->gf .any e=true->(zy l).testBit e.on=true
 |e'::r,e,h,hb=>by
  simp only[zy];rcases aD.1 h with rfl|h
  ·rw[hb];simp [eg,znz]
  ·have:=zg0 r e h hb;cases gf .any e'<;>simp [eg,this]
theorem zxx{m i j:Nat}(h:bn (m+1) (bit i)=true)(hj:m.testBit j=true):j<i:=by
 have h1:m<2^i:=by have:=ci h;simp only[bit,iR,ct] at this;omega
 rcases eB j i with h2|h2
 ·exact h2
 ·have h3:m<2^j:=Nat.lt_of_lt_of_le h1 (Nat.pow_le_pow_right (by omega) h2);rw[Nat.testBit_lt_two_pow h3] at hj;cases hj
def nL(E:Env)(C:bH)(ops:List Oper)(o:Oper)(s:State):ae Out:=
 match o.guard with
 |none=>act E (C Out) ops o s some
 |some (g,want)=>match TR ops g with
  |none=>none
  |some d=>match s.slot d with
   | [.bY .bool p []]=>if p=want then act E (C Out) ops o s some else some {v:=[.skip]}
   | [.skip]=>some {v:=[.skip]}
   |_=>none
theorem Li{d:Nat}{l:List SV}(h:s.slot d=l):s.b7 (some d) l=s:=by
 cases s with
 |mk sl bs=>
  simp only[State.b7,State.mk.injEq,and_true];simp only[State.slot] at h;apply bZ;intro i;rw[az];split
  ·rename_i e;subst e;split
   ·rename_i bR;rw[al,av bR] at h;rw[av bR];simpa using h.symm
   ·rename_i bR;rw[aS (by omega)]
  ·rfl
theorem agM{C:bH}(hC:C.Nat){R:Type}{ops:List Oper}{i:Nat}{tr:List nb}{K:State->List nb->ae R}{z:R}(h:uC E (C R) ops o i s tr K=some z):
 ∃u,nL E C ops o s=some u/\fits ops (zy o.after.toList) (pI ops o i s u) tr=true/\K (s.apply o.dst u) (pI ops o i s u::tr)=some z:=by
 have Ai:(act E (C R) ops o s λu=>bif fits ops (zy o.after.toList) (pI ops o i s u) tr then K (s.apply o.dst u) (pI ops o i s u::tr) else none)=some z->
  ∃u,act E (C Out) ops o s some=some u/\fits ops (zy o.after.toList) (pI ops o i s u) tr=true/\K (s.apply o.dst u) (pI ops o i s u::tr)=some z:=by
  intro h;obtain⟨u,h1,h2⟩:=sI (Fo hC (F:=λu=>bif fits ops (zy o.after.toList) (pI ops o i s u) tr then K (s.apply o.dst u) (pI ops o i s u::tr) else none) (G:=some) (K:=λu=>bif fits ops (zy o.after.toList) (pI ops o i s u) tr then K (s.apply o.dst u) (pI ops o i s u::tr) else none) (λ_=>rfl)) h;cases hf:fits ops (zy o.after.toList) (pI ops o i s u) tr with
  |false=>rw[hf] at h2;cases h2
  |true=>rw[hf] at h2;exact⟨u,h1,hf,h2⟩
 have s6:(bif fits ops (zy o.after.toList) (pI ops o i s {v:=[.skip]}) tr then K (s.apply o.dst {v:=[.skip]}) (pI ops o i s {v:=[.skip]}::tr) else none)=some z->
  fits ops (zy o.after.toList) (pI ops o i s {v:=[.skip]}) tr=true/\K (s.apply o.dst {v:=[.skip]}) (pI ops o i s {v:=[.skip]}::tr)=some z:=by
  intro h;cases hf:fits ops (zy o.after.toList) (pI ops o i s {v:=[.skip]}) tr with
  |false=>rw[hf] at h;cases h
  |true=>rw[hf] at h;exact⟨rfl,h⟩
 unfold uC at h;unfold nL;simp only at h;split at h
 ·rename_i hg
  try simp only[hg]
  exact Ai h
 ·rename_i g want hg
  try simp only[hg]
  split at h
  ·cases h
  rename_i d hd
  try simp only[hd]
  split at h
  ·rename_i p hs;have uX:s.slot d=bl p:=hs
   try simp only[hs]
   cases p<;>cases want<;>simp only[cond_true,cond_false] at h
   ·rw[Li uX] at h;rw[if_pos rfl];exact Ai h
   ·rw[Li uX] at h;rw[if_neg (by simp)];exact⟨_,rfl,s6 h⟩
   ·rw[Li uX] at h;rw[if_neg (by simp)];exact⟨_,rfl,s6 h⟩
   ·rw[Li uX] at h;rw[if_pos rfl];exact Ai h
  ·rename_i hs
   try simp only[hs]
   exact⟨_,rfl,s6 h⟩
  ·cases h
theorem zmz{C:bH}(hC:C.Nat){ops:List Oper}(h:nL E C ops o s=some u):step E (C State) ops o s some=some (s.apply o.dst u):=by
 have Ai:act E (C Out) ops o s some=some u->(act E (C State) ops o s λu=>some (s.apply o.dst u))=some (s.apply o.dst u):=by intro h;rw[Fo hC (F:=λu=>some (s.apply o.dst u)) (G:=some) (K:=λu=>some (s.apply o.dst u)) (λ_=>rfl),h];rfl
 unfold nL at h;unfold step;simp only;split at h
 ·rename_i hg
  try simp only[hg]
  exact Ai h
 ·rename_i g want hg
  try simp only[hg]
  split at h
  ·cases h
  rename_i d hd
  try simp only[hd]
  split at h
  ·rename_i p hs;have uX:s.slot d=bl p:=hs
   try simp only[hs]
   split at h
   ·rename_i e;subst e;cases p<;>simp only[cond_true,cond_false]<;>rw[Li uX]<;>exact Ai h
   ·rename_i e;cases h;cases p<;>cases want<;>simp only[cond_true,cond_false]<;>first|exact absurd rfl e|(rw[Li uX];rfl)
  ·rename_i hs
   try simp only[hs]
   cases h;rfl
  ·cases h
structure vB(ts bs:List Nat)(s s':State):Prop where
 sl:∀t∈ts,s.slot t=s'.slot t
 bs:∀id∈bs,s.bs[id]? =s'.bs[id]?
theorem P7{l:List Operand}{t:Nat}:Operand.tmp t∈l->t∈z40 l:=by
 induction l with
 |nil=>intro h;cases h
 |cons x r ih=>
  intro h;rcases aD.1 h with e|h
  ·subst e;simp [z40]
  ·have:=ih h;cases x<;>simp [z40,this]
theorem zh9{s s':State}{ts:List Nat}(h:∀t∈ts,s.slot t=s'.slot t){l:List Operand}(hl:∀t∈z40 l,t∈ts){x:Operand}(hx:x∈l):s.cP x=s'.cP x:=by
 cases x with
 |tmp t=>simp only[State.cP,State.EY,h t (hl t (P7 hx))]
 |_=>rfl
theorem adL(j:Nat):gx [SV.undef] j=[SV.undef]:=by cases j<;>rfl
theorem zab{s:State}{i j t:Nat}:(s.iv i j).slot t=if t=i then gx (s.slot t) j else s.slot t:=by
 simp only[State.iv,State.slot,al,az];by_cases e:t=i
 ·subst e;rw[if_pos rfl,if_pos rfl];by_cases bR:t<s.sl.length
  ·rw[if_pos bR];rfl
  ·rw[if_neg bR,aS (by omega)];simp [adL]
 ·rw[if_neg e,if_neg (λh=>e h.symm)]
theorem zmb{t:Nat}:∀{c:List (Nat×Nat)} {s s':State},s.slot t=s'.slot t->(s.close c).slot t=(s'.close c).slot t
 | [],s,s',h=>h
 |(i,j)::r,s,s',h=>by rw[JO,JO];refine zmb (c:=r) ?_;rw[zab,zab,h]
theorem zmu{ts:List Nat}:∀{l:List (Nat×Operand)} {s s':State},(∀t∈ts,s.slot t=s'.slot t)->(∀t∈z40 (l.map (·.2)),t∈ts)->vw s l=vw s' l
 | [],s,s',h,hl=>rfl
 |(i,x)::r,s,s',h,hl=>by
  have hx:s.cP x=s'.cP x:=zh9 h hl (by simp);have hr:∀c:List (Nat×Nat),vw (s.close c) r=vw (s'.close c) r:=λc=>zmu (λt ht=>zmb (h t ht)) (λt ht=>hl t (by cases x<;>simp [z40,ht]))
  simp only[vw,hx,hr]
theorem SA{s s':State}:∀{l:List SV},(∀id∈l.flatMap iI,s.box id=s'.box id)->rX s l=rX s' l
 | [],h=>rfl
 |v::r,h=>by
  have hr:rX s r=rX s' r:=SA λid hid=>h id (by simp only[fR,aT];exact .inr hid);simp only[rX,hr];split
  ·rfl
  ·rename_i l b _;cases v with
   |ptr id t p=>
    have hb:s.box id=s'.box id:=h id (by simp [iI]);cases p with
    |nil=>cases b<;>simp only[hb]
    |cons _ _=>rfl
   |_=>rfl
theorem afb{C:FuncId->gK Out}{ops:List Oper}{s s':State}(h:vB (looks ops o) (zx s o) s s'):act E C ops o s some=act E C ops o s' some:=by
 have qM:∀t∈z40 o.op.operands.toList,s.slot t=s'.slot t:=λt ht=>h.sl t (by simp only[looks,aT];exact .inl ht);have jI:∀x∈o.op.operands.toList,s.cP x=s'.cP x:=λx hx=>zh9 qM (λ_ ht=>ht) hx;have fP:∀id∈zx s o,s.box id=s'.box id:=λid hid=>by simp only[State.box,al,h.bs id hid]
 unfold act;cases ho:o.op with
 |move x=>
  have ht:wI s x=wI s' x:=by
   cases x with
   |tmp t=>have:s.slot t=s'.slot t:=qM t (by simp [ho,aV,z40]);simp only[wI,this]
   |_=>rfl
  simp only;rw[jI x (by simp [ho,aV]),ht]
 |assign x=>simp only;rw[jI x (by simp [ho,aV])]
 |pick c x y=>simp only;rw[jI c (by simp [ho,aV]),jI x (by simp [ho,aV]),jI y (by simp [ho,aV])]
 |binOp op T x y T'=>simp only;rw[jI x (by simp [ho,aV]),jI y (by simp [ho,aV])]
 |unOp op T x=>simp only;rw[jI x (by simp [ho,aV])]
 |convert S T x=>
  have hx:=jI x (by simp [ho,aV]);simp only;rw[<-hx];split
  ·rename_i id n ta tb e;simp only[sV,fP id (by simp [zx,ho,e,iI])]
  ·rfl
 |makeMap T r=>
  cases r with
  |some r=>rfl
  |none=>
   simp only;cases hd:o.dst with
   |none=>rfl
   |some d=>have:=h.bs (d+1) (by simp [zx,ho,hd]);simp only[tj,this]
 |lookup T x i ok=>
  cases ok with
  |true=>rfl
  |false=>
   simp only;rw[<-jI x (by simp [ho,aV]),<-jI i (by simp [ho,aV])];unfold uo Dh;split
   ·split
    ·rename_i e;simp only[fP _ (by simp only[zx,ho,e,iI];exact cL.2 rfl)]
    ·rfl
   ·rfl
 |mapUpdate T m k x=>
  simp only;rw[<-jI m (by simp [ho,aV]),<-jI k (by simp [ho,aV]),<-jI x (by simp [ho,aV])];unfold vh Dh;split
  ·split
   ·rename_i e;simp only[fP _ (by simp only[zx,ho,e,iI];exact cL.2 rfl)]
   ·rfl
  ·rfl
 |insert T m k x=>
  simp only;rw[<-jI m (by simp [ho,aV]),<-jI k (by simp [ho,aV]),<-jI x (by simp [ho,aV])];unfold vh Dh;split
  ·split
   ·rename_i e;simp only[fP _ (by simp only[zx,ho,e,iI];exact cL.2 rfl)]
   ·rfl
  ·rfl
 |range T x=>
  simp only;rw[<-jI x (by simp [ho,aV])];cases hd:o.dst with
  |none=>rfl
  |some d=>have:=h.bs (d+1) (by simp [zx,ho,hd]);simp only[tj,this]
 |next x str=>
  cases str with
  |false=>rfl
  |true=>
   simp only;rw[<-jI x (by simp [ho,aV])];unfold uu;split
   ·rename_i e;simp only[fP _ (by simp only[zx,ho,e,iI];exact cL.2 rfl)]
   ·rfl
 |makeSlice T l c=>
  simp only;rw[<-jI l (by simp [ho,aV]),<-jI c (by simp [ho,aV])];cases hd:o.dst with
  |none=>rfl
  |some d=>have:=h.bs (d+1) (by simp [zx,ho,hd]);simp only[ur,tj,this]
 |load T x=>
  have hx:=jI x (by simp [ho,aV]);simp only;rw[<-hx];unfold load;split
  ·split
   ·rfl
   ·rename_i id t p e;simp only[Kg,xa,fP id (by simp [zx,ho,e,iI])]
   ·rfl
  ·unfold tg;split
   ·rename_i id a b j e;simp only[xa,fP id (by simp [zx,ho,e,iI])]
   ·rfl
 |store T x y=>
  have hx:=jI x (by simp [ho,aV]);have hy:=jI y (by simp [ho,aV]);simp only;rw[<-hx];unfold store;rw[<-hy];split
  ·split
   ·rename_i id t p e;simp only[J4,xa,fP id (by simp [zx,ho,e,iI])]
   ·rfl
  ·rfl
 |nilCheck x=>simp only;rw[jI x (by simp [ho,aV])]
 |fieldAddr T x j=>simp only;rw[jI x (by simp [ho,aV])]
 |indexAddr T x i=>simp only;rw[jI x (by simp [ho,aV]),jI i (by simp [ho,aV])]
 |index T x i=>simp only;rw[jI x (by simp [ho,aV]),jI i (by simp [ho,aV])]
 |field T x j=>simp only;rw[jI x (by simp [ho,aV])]
 |slice T x lo hi mx=>
  cases mx with
  |none=>
   simp only;have Iv:lo.map s.cP=lo.map s'.cP:=by
    cases lo with
    |none=>rfl
    |some l=>simp only[dP,jI l (by simp [ho,aV])]
   have NJ:hi.map s.cP=hi.map s'.cP:=by
    cases hi with
    |none=>rfl
    |some l=>simp only[dP,jI l (by simp [ho,aV])]
   rw[<-jI x (by simp [ho,aV]),Iv,NJ];split
   ·rfl
   ·rename_i id n t e;simp only[Aa,fP id (by simp [zx,ho,e,iI])]
   ·rfl
  |some m=>rfl
 |makeFunc fn fi ca=>
  cases fn with
  |func f=>
   simp only;split
   ·rename_i x e1 e2;have hm:x∈o.op.operands.toList:=by simp only[ho,aV,cW,aT,e2];exact .inr (by simp)
    rw[jI x hm]
   ·rename_i x y e1 e2;have hm:∀z∈ [x,y],z∈o.op.operands.toList:=λz hz=>by simp only[ho,aV,cW,aT,e2];exact .inr hz
    rw[jI x (hm x (by simp)),jI y (hm y (by simp))]
   ·rfl
  |_=>rfl
 |alloc T=>
  simp only;cases hd:o.dst with
  |none=>split<;>simp_all
  |some d=>have:=h.bs (d+1) (by simp [zx,ho,hd]);cases E.ty T<;>cases E.gr T<;>simp only[this]
 |box T x=>
  have hx:=jI x (by simp [ho,aV]);simp only;cases hd:o.dst with
  |none=>split<;>simp_all
  |some d=>have:=h.bs (d+1) (by simp [zx,ho,hd]);cases E.ty T<;>simp only[this,hx]
 |build T parts=>have hp:vw s parts.toList=vw s' parts.toList:=zmu qM (λt ht=>by simpa [ho,aV] using ht);simp only[hp]
 |buildSlice T n parts=>
  have hp:(parts.toList.map λp=>(p.1,s.cP p.2))=parts.toList.map λp=>(p.1,s'.cP p.2):=dT λp hp=>by
   rw[jI p.2 (by simp only[ho,aV];exact bm.2 ⟨p,hp,rfl⟩)]
  simp only[hp]
 |extract x j=>
  cases x with
  |tmp t=>have:s.slot t=s'.slot t:=qM t (by simp [ho,aV,z40]);simp only[this]
  |_=>rfl
 |call c=>
  obtain⟨callee,args,ts⟩:=c;cases callee with
  |value x=>
   cases x with
   |func f=>
    have gS:args.toList.map s.cP=args.toList.map s'.cP:=dT λx hx=>jI x (by simp only[ho,aV,fw,cW,aT];exact .inr hx)
    have rI:rX s (args.toList.map s'.cP)=rX s' (args.toList.map s'.cP):=SA λid hid=>fP id (by simp only[zx,ho,aT];refine .inl ?_;rw[<-gS,iQ] at hid;exact hid)
    have hlk:Kv s args.toList=Kv s' args.toList:=by
     cases Nw:args.toList with
     |nil=>rfl
     |cons x r=>
      cases x with
      |tmp t=>
       have:s.slot t=s'.slot t:=qM t (by simp only[ho,aV,fw,cW,Nw];exact P7 (List.mem_append_right _ (by simp)))
       simp only[Kv,this]
      |_=>rfl
    simp only;rw[<-hlk];split
    ·rename_i t id a b j r hl;obtain⟨Nw,gy⟩:=zmp hl;have hr:r.map s.cP=r.map s'.cP:=by have:=gS;rw[Nw] at this;simpa using(List.cons.inj this).2
     have hbr:rX s (r.map s'.cP)=rX s' (r.map s'.cP):=SA λid hid=>fP id (by simp only[zx,ho,aT];refine .inl ?_;rw[<-hr,iQ] at hid;rw[Nw,fR,aT];exact .inr hid)
     have hid:s.box id=s'.box id:=fP id (by
      simp only[zx,ho,aT];refine .inl ?_;rw[Nw,fR,aT];refine .inl ?_;have:s.cP (.tmp t)= .fc id a b j:=by show one (s.slot t)=_;rw[gy];rfl
      rw[this];simp [iI])
     simp only[sT,xa,hr,hbr,hid]
    simp only[pa,gS,rI];cases hd:o.dst with
    |none=>rfl
    |some d=>have:=h.bs (d+1) (by simp [zx,ho,hd]);simp only[this]
   |tmp y=>
    have hy:s.cP (.tmp y)=s'.cP (.tmp y):=jI (.tmp y) (by simp only[ho,aV,fw,cW,aT];exact .inl (by simp))
    have gS:args.toList.map s.cP=args.toList.map s'.cP:=dT λx hx=>jI x (by simp only[ho,aV,fw,cW,aT];exact .inr hx)
    simp only;rw[<-hy];split
    ·rename_i id f t b e;have rI:rX s (args.toList.map s'.cP++ [.ptr id t []])=rX s' (args.toList.map s'.cP++ [.ptr id t []]):=SA λdX hid=>fP dX (by
      simp only[zx,ho,aT,e];rw[lE,aT] at hid;rcases hid with hid|hid
      ·refine .inl ?_;rw[<-gS,iQ] at hid;exact hid
      ·exact .inr (.inl (by simpa [iI] using hid)))
     simp only[pa,gS,rI];cases hd:o.dst with
     |none=>rfl
     |some d=>have:=h.bs (d+1) (by simp [zx,ho,hd]);simp only[this]
    ·rename_i f t x u y e;have rI:rX s (args.toList.map s'.cP++ [.view t x,.view u y])=rX s' (args.toList.map s'.cP++ [.view t x,.view u y]):=SA λdX hid=>fP dX (by
      simp only[zx,ho,aT];rw[lE,aT] at hid;rcases hid with hid|hid
      ·refine .inl ?_;rw[<-gS,iQ] at hid;exact hid
      ·simp [iI] at hid)
     simp only[pa,gS,rI];cases hd:o.dst with
     |none=>rfl
     |some d=>have:=h.bs (d+1) (by simp [zx,ho,hd]);simp only[this]
    ·rfl
   |_=>rfl
  |builtin b=>
   have gS:∀x∈args.toList,s.cP x=s'.cP x:=λx hx=>jI x (by simp only[ho,aV,fw,cW,aT];exact .inr hx)
   cases b with
   |copy=>
    simp only;split
    ·rename_i d x T r e1 e2;rw[gS x (by rw[e1];simp),<-gS d (by rw[e1];simp)];unfold copyV;split
     ·rename_i e0 t0 id n ta tb hT e;have hb:s.box id=s'.box id:=fP id (by simp only[zx,ho,e1,fR,e,iI];exact cI _ (cL.2 rfl));simp only[qJ,sW,hb]
     ·rename_i e0 t0 id n ta tb l hT e;have hb:s.box id=s'.box id:=fP id (by simp only[zx,ho,e1,fR,e,iI];exact cI _ (cL.2 rfl));simp only[qJ,hb]
     ·rfl
    ·rfl
   |len=>
    simp only;split
    ·rename_i x T e1 e2;rw[gS x (by rw[e1];simp)]
    ·rfl
   |append=>
    simp only;split
    ·rename_i x y T U e1 e2;rw[gS x (by rw[e1];simp),gS y (by rw[e1];simp)]
    ·rfl
   |max=>
    simp only;split
    ·rename_i x y e1;rw[gS x (by rw[e1];simp),gS y (by rw[e1];simp)]
    ·rfl
   |min=>
    simp only;split
    ·rename_i x y e1;rw[gS x (by rw[e1];simp),gS y (by rw[e1];simp)]
    ·rfl
   |_=>rfl
  |_=>rfl
 |_=>rfl
end Go.Ref

namespace Go.Ref
open Go
variable {P:Program} {E:Env} {X:cc} {s:State} {a:Act} {o:Oper} {u:Out}
def Uo:List (Nat×Nat)->Nat->List SV->List SV
 | [],_,l=>l
 |(i,j)::r,t,l=>Uo r t (if t=i then gx l j else l)
theorem z80{t:Nat}:∀{c:List (Nat×Nat)} {s:State},(s.close c).slot t=Uo c t (s.slot t)
 | [],s=>rfl
 |(i,j)::r,s=>by rw[JO,z80 (c:=r),zab];rfl
theorem AX{t:Nat}:∀{c:List (Nat×Nat)} {l:List SV},t∉c.map (·.1)->Uo c t l=l
 | [],l,h=>rfl
 |(i,j)::r,l,h=>by simp only[bd,aD,not_or] at h;simp only[Uo];rw[if_neg h.1];exact AX h.2
theorem Lc{d:ae Nat}:(s.apply d u).sl.length=s.sl.length:=by
 cases d with
 |none=>simp only[State.apply,State.b7];cases u.bx<;>simp [State.cG,SO]
 |some d=>simp only[State.apply,State.b7,gJ];cases u.bx<;>simp [State.cG,SO]
theorem Sz{d:ae Nat}{t:Nat}:(s.apply d u).slot t=if d=some t/\t<s.sl.length then u.v else Uo u.cl t (s.slot t):=by
 have hb:∀(s:State) b,(s.cG b).slot t=s.slot t:=λs b=>by cases b<;>rfl
 cases d with
 |none=>simp only[State.apply,State.b7,hb,z80];rw[if_neg (by simp)]
 |some d=>
  simp only[State.apply];by_cases e:d=t
  ·subst e;by_cases bR:d<s.sl.length
   ·rw[if_pos ⟨rfl,bR⟩];have:d<((s.close u.cl).cG u.bx).sl.length:=by
     have:((s.close u.cl).cG u.bx).sl.length=s.sl.length:=by cases u.bx<;>simp [State.cG,SO]
     omega
    simp only[State.b7,State.slot,al,List.getElem?_set_self this,dh]
   ·rw[if_neg (λh=>bR h.2)];have:((s.close u.cl).cG u.bx).sl.length<=d:=by
     have:((s.close u.cl).cG u.bx).sl.length=s.sl.length:=by cases u.bx<;>simp [State.cG,SO]
     omega
    have h2:(((s.close u.cl).cG u.bx).b7 (some d) u.v).slot d=((s.close u.cl).cG u.bx).slot d:=by simp only[State.b7,State.slot];rw[List.set_eq_of_length_le this]
    rw[h2,hb,z80]
  ·rw[if_neg (λh=>e (by injection h.1))];have h2:(((s.close u.cl).cG u.bx).b7 (some d) u.v).slot t=((s.close u.cl).cG u.bx).slot t:=by simp only[State.b7,State.slot,al,List.getElem?_set_ne e]
   rw[h2,hb,z80]
theorem SS{d:ae Nat}{id:Nat}:(s.apply d u).bs[id]? =match u.bx with
 |some (dX,B)=>if dX=id then(s.bs[id]?).map (λ_=>some B) else s.bs[id]?
 |none=>s.bs[id]? :=by
 have hs:∀(s:State) d l,(s.b7 d l).bs=s.bs:=λs d l=>by cases d<;>rfl
 simp only[State.apply,hs];cases hb:u.bx with
 |none=>simp only[State.cG,Fl]
 |some b=>
  obtain⟨dX,B⟩:=b;simp only[State.cG,Fl];rw[az];by_cases e:dX=id
  ·subst e;rw[if_pos rfl,if_pos rfl];by_cases bR:dX<s.bs.length
   ·rw[if_pos bR,av bR];rfl
   ·rw[if_neg bR,aS (by omega)];rfl
  ·rw[if_neg e,if_neg e]
theorem agK{s s':State}(h1:s.sl.length=s'.sl.length)(h2:∀t,s.slot t=s'.slot t)(h3:∀id:Nat,s.bs[id]? =s'.bs[id]?):s=s':=by
 cases s with
 |mk sl bs=>
  cases s' with
  |mk sl' bs'=>
   simp only[State.mk.injEq];refine⟨bZ λi=> ?_,bZ h3⟩;have:=h2 i;simp only[State.slot,al] at this h1;by_cases bR:i<sl.length
   ·rw[av bR,av (by omega)] at this⊢;simpa using this
   ·rw[aS (by omega),aS (by omega)]
structure HJ(R1 W1 b1 c1 R2 W2 b2 c2:List Nat):Prop where
 h1:∀t∈W1,t∉R2/\t∉W2
 h2:∀t∈W2,t∉R1
 h3:∀id∈c1,id∉b2/\id∉c2
 h4:∀id∈c2,id∉b1
theorem abW{o1 o2:Oper}{ops:List Oper}{i1 i2:Nat}{s1 s2:State}{u1 u2:Out}(h:(pI ops o1 i1 s1 u1).apart (pI ops o2 i2 s2 u2)=true):
 HJ (looks ops o1) (o1.dst.toList++u1.cl.map (·.1)) (zx s1 o1) (u1.bx.toList.map (·.1)) (looks ops o2) (o2.dst.toList++u2.cl.map (·.1)) (zx s2 o2) (u2.bx.toList.map (·.1)):=by
 simp only[nb.apart,pI,ap] at h;obtain⟨g1,g2,g3,g4⟩:=h;refine⟨λt ht=> ?_,λt ht=> ?_,λt ht=> ?_,λt ht=> ?_⟩
 ·have:=VP g1 t (by rw[Fj];exact decide_eq_true ht);simp only[eg,Fj,cR,decide_eq_false_iff_not] at this;exact this
 ·have:=VP g2 t (by rw[Fj];exact decide_eq_true ht);simpa only[Fj,decide_eq_false_iff_not] using this
 ·have:=VP g3 t (by rw[Fj];exact decide_eq_true ht);simp only[eg,Fj,cR,decide_eq_false_iff_not] at this;exact this
 ·have:=VP g4 t (by rw[Fj];exact decide_eq_true ht);simpa only[Fj,decide_eq_false_iff_not] using this
theorem zm7{d:ae Nat}{ts bs:List Nat}(h1:∀t∈ts,t∉d.toList++u.cl.map (·.1))(h2:∀id∈bs,id∉u.bx.toList.map (·.1)):vB ts bs (s.apply d u) s where
 sl:=λt ht=>by have h:=h1 t ht;simp only[aT,not_or] at h;rw[Sz,if_neg (λhc=>h.1 (by rw[hc.1];simp)),AX h.2]
 bs:=λid hid=>by
  have h:=h2 id hid;rw[SS];cases hb:u.bx with
  |none=>rfl
  |some b=>obtain⟨dX,B⟩:=b;rw[hb] at h;simp only;rw[if_neg (λe=>h (by simp [e]))]
theorem ac6{d1 d2:ae Nat}{u1 u2:Out}(h1:∀t∈d1.toList++u1.cl.map (·.1),t∉d2.toList++u2.cl.map (·.1))(h2:∀id∈u1.bx.toList.map (·.1),id∉u2.bx.toList.map (·.1)):
 (s.apply d1 u1).apply d2 u2=(s.apply d2 u2).apply d1 u1:=by
 refine agK (by rw[Lc,Lc,Lc,Lc]) (λt=> ?_) (λid=> ?_)
 ·rw[Sz,Sz,Sz,Sz,Lc,Lc];by_cases Ii:d1=some t
  ·have hm:t∈d1.toList++u1.cl.map (·.1):=by rw[Ii];simp
   have hn:=h1 t hm;simp only[aT,not_or] at hn;have wT:¬d2=some t:=λe=>hn.1 (by rw[e];simp);by_cases bR:t<s.sl.length
   ·rw[if_neg (λh=>wT h.1),if_pos ⟨Ii,bR⟩,AX hn.2,if_pos ⟨Ii,bR⟩]
   ·rw[if_neg (λh=>wT h.1),if_neg (λh=>bR h.2),if_neg (λh=>bR h.2),if_neg (λh=>bR h.2),AX hn.2,AX hn.2]
  ·by_cases wT:d2=some t
   ·have hn:t∉d1.toList++u1.cl.map (·.1):=λhm=>h1 t hm (by rw[wT];simp);simp only[aT,not_or] at hn;by_cases bR:t<s.sl.length
    ·rw[if_pos ⟨wT,bR⟩,if_neg (λh=>Ii h.1),if_pos ⟨wT,bR⟩,AX hn.2]
    ·rw[if_neg (λh=>bR h.2),if_neg (λh=>bR h.2),if_neg (λh=>bR h.2),if_neg (λh=>bR h.2),AX hn.2,AX hn.2]
   ·rw[if_neg (λh=>wT h.1),if_neg (λh=>Ii h.1),if_neg (λh=>Ii h.1),if_neg (λh=>wT h.1)];by_cases hm:t∈u1.cl.map (·.1)
    ·have hn:=h1 t (by simp only[aT];exact .inr hm);simp only[aT,not_or] at hn;rw[AX hn.2,AX hn.2]
    ·rw[AX hm,AX hm]
 ·rw[SS,SS,SS,SS];cases uU:u1.bx with
  |none=>rfl
  |some b1=>
   obtain⟨id1,B1⟩:=b1;cases tA:u2.bx with
   |none=>rfl
   |some b2=>
    obtain⟨Aj,B2⟩:=b2;rw[uU,tA] at h2;have fS:id1≠Aj:=λe=>h2 id1 (by simp) (by simp [e]);simp only;by_cases e1:id1=id
    ·subst e1;rw[if_neg (λe=>fS e.symm),if_pos rfl,if_pos rfl,if_neg (λe=>fS e.symm)]
    ·by_cases e2:Aj=id
     ·subst e2;rw[if_pos rfl,if_neg e1,if_neg e1,if_pos rfl]
     ·rw[if_neg e2,if_neg e1,if_neg e1,if_neg e2]
theorem zmw{ops:List Oper}{s s':State}(h:∀t∈looks ops o,s.slot t=s'.slot t):zx s o=zx s' o:=by
 have jI:∀x∈o.op.operands.toList,s.cP x=s'.cP x:=λx hx=>zh9 (ts:=z40 o.op.operands.toList) (λt ht=>h t (by simp only[looks,aT];exact .inl ht)) (λ_ ht=>ht) hx;unfold zx;cases ho:o.op with
 |load T x=>simp only;rw[jI x (by simp [ho,aV])]
 |store T x y=>simp only;rw[jI x (by simp [ho,aV])]
 |convert S T x=>simp only;rw[jI x (by simp [ho,aV])]
 |slice T x lo hi mx=>simp only;rw[jI x (by simp [ho,aV])]
 |lookup T x i ok=>simp only;rw[jI x (by simp [ho,aV])]
 |mapUpdate T m k x=>simp only;rw[jI m (by simp [ho,aV])]
 |insert T m k x=>simp only;rw[jI m (by simp [ho,aV])]
 |next x str=>simp only;rw[jI x (by simp [ho,aV])]
 |call c=>
  obtain⟨callee,args,ts⟩:=c;have:(args.toList.map λx=>iI (s.cP x))=args.toList.map λx=>iI (s'.cP x):=dT λx hx=>by
   rw[jI x (by simp only[ho,aV,fw,cW,aT];exact .inr hx)]
  cases callee with
  |value f=>
   simp only;have hf:s.cP f=s'.cP f:=jI f (by simp only[ho,aV,fw,cW,aT];exact .inl (by simp))
   rw[hf,iP,iP,this]
  |builtin b=>
   cases b with
   |copy=>simp only;rw[iP,iP,this]
   |_=>rfl
  |_=>rfl
 |_=>rfl
theorem zzh{C:bH}{ops:List Oper}{s s':State}(h:vB (looks ops o) (zx s o) s s'):nL E C ops o s=nL E C ops o s':=by
 unfold nL;rw[afb h];split
 ·rfl
 ·rename_i g want hg;split
  ·rfl
  ·rename_i d hd;rw[h.sl d (by simp [looks,hg,hd])]
theorem swap{C:bH}{ops:List Oper}{o1 o2:Oper}{i1 i2:Nat}{u1 u2:Out}(h1:nL E C ops o1 s=some u1)(h2:nL E C ops o2 (s.apply o1.dst u1)=some u2)(h:(pI ops o1 i1 s u1).apart (pI ops o2 i2 (s.apply o1.dst u1) u2)=true):
 nL E C ops o2 s=some u2/\pI ops o2 i2 s u2=pI ops o2 i2 (s.apply o1.dst u1) u2/\nL E C ops o1 (s.apply o2.dst u2)=some u1/\pI ops o1 i1 (s.apply o2.dst u2) u1=pI ops o1 i1 s u1/\
  (s.apply o2.dst u2).apply o1.dst u1=(s.apply o1.dst u1).apply o2.dst u2:=by
 have hp:=abW h;have ag1:vB (looks ops o2) (zx (s.apply o1.dst u1) o2) (s.apply o1.dst u1) s:=zm7 (λt ht hm=>(hp.h1 t hm).1 ht) (λid hid hm=>(hp.h3 id hm).1 hid);have mP:=zmw (ops:=ops) (o:=o2) ag1.sl;have ag2:vB (looks ops o1) (zx s o1) (s.apply o2.dst u2) s:=zm7 (λt ht hm=>hp.h2 t hm ht) (λid hid hm=>hp.h4 id hm hid);have nQ:=zmw (ops:=ops) (o:=o1) ag2.sl;refine⟨by rw[<-zzh ag1];exact h2,by simp only[pI,mP],?_,by simp only[pI,nQ],(ac6 (λt ht=>(hp.h1 t ht).2) (λid hid=>(hp.h3 id hid).2)).symm⟩;rw[zzh (s:=s.apply o2.dst u2) (s':=s) ⟨ag2.sl,λid hid=>ag2.bs id (by rw[<-nQ];exact hid)⟩];exact h1
end Go.Ref

namespace Go.Ref
open Go
variable {P:Program} {tq:oK} {E:Env} {X:cc} {s:State} {a:Act} {o:Oper} {u:Out}
def xu(E:Env)(C:bH)(ops:Array Oper):List Nat->State->List nb->State->Prop
 | [],s,tr,z=>s=z/\tr=[]
 |i::r,s,f::tr,z=>∃u,nL E C ops.toList (ops.getD i default) s=some u/\f=pI ops.toList (ops.getD i default) i s u/\xu E C ops r (s.apply (ops.getD i default).dst u) tr z
 |_::_,_,[],_=>False
def CW(ops:Array Oper)(i:Nat):Nat:=zy (ops.getD i default).after.toList
theorem zzu{ops:List Oper}{q:Nat}:∀(n m:Nat),m.testBit q=true->(rU ops n m).testBit q=true
 |0,m,h=>h
 |i+1,m,h=>by
  refine zzu i _ ?_;split
  ·cases m.testBit i with
   |false=>exact h
   |true=>rw[cond_true,eg,h];rfl
  ·exact h
theorem zmq{listed:Array Bool}{i q:Nat}(h:listed.getD q false=true):(listed.setIfInBounds i true).getD q false=true:=by
 simp only[bg,di] at h⊢;split
 ·split
  ·rfl
  ·rename_i h1 h2;subst h1;rw[Array.getElem?_eq_none (by omega)] at h;exact h
 ·exact h
theorem af8{listed:Array Bool}{i q:Nat}(e:q≠i):(listed.setIfInBounds i true).getD q false=listed.getD q false:=by simp only[bg];rw[du (by omega)]
def BS(ops:Array Oper)(listed:Array Bool):Prop:=∀i,listed.getD i false=true->∀q,(CW ops i).testBit q=true->listed.getD q false=true
theorem Vk{ops:Array Oper}{listed:Array Bool}(oj:BS ops listed):∀(n m:Nat),(∀q,m.testBit q=true->listed.getD q false=true)->∀q,(rU ops.toList n m).testBit q=true->listed.getD q false=true
 |0,m,h=>h
 |i+1,m,h=>by
  refine Vk oj i _ λq hq=> ?_;split at hq
  ·rename_i o ho;cases hb:m.testBit i with
   |false=>rw[hb] at hq;exact h q hq
   |true=>
    rw[hb,cond_true,eg,jh] at hq;rcases hq with hq|hq
    ·exact h q hq
    ·refine oj i (h i hb) q ?_;have:ops.getD i default=o:=by rw[bz] at ho;simp only[bg,ho,dh]
     unfold CW;rw[this];exact hq
  ·exact h q hq
theorem P0{ops:Array Oper}{listed:Array Bool}(oj:BS ops listed){i:Nat}(h:∀q,(CW ops i).testBit q=true->listed.getD q false=true):BS ops (listed.setIfInBounds i true):=λj hj q hq=>by
 by_cases e:j=i
 ·subst e;exact zmq (h q hq)
 ·rw[af8 e] at hj;exact zmq (oj j hj q hq)
def Dj(ops:Array Oper)(a b:nb):Prop:=(rU ops.toList b.i (CW ops b.i)).testBit a.i=true\/a.apart b=true
theorem z145{C:bH}{ops:Array Oper}:∀{l:List Nat} {s z:State} {tr:List nb},xu E C ops l s tr z->tr.map (·.i)=l
 | [],s,z,tr,h=>by rw[h.2];rfl
 |i::r,s,z,f::tr,h=>by obtain⟨u,_,rfl,h3⟩:=h;simp only[bd,z145 h3];rfl
 |_::_,s,z,[],h=>h.elim
theorem zam{C:bH}(hC:C.Nat){ops:Array Oper}{z:State}:∀(l:List Nat) (i:Nat) (s:State) (tr:List nb),(∀(j:Nat) k,l[j]? =some k->k=i+j)->
 FA E (C State) ops.toList (l.map λk=>ops.getD k default) i s tr some=some z->∃E7,xu E C ops l s E7 z/\(∀a∈tr,∀b∈E7,Dj ops a b)/\E7.Pairwise (Dj ops)/\∀k∈l,bn (CW ops k+1) (bit k)=true
 | [],i,s,tr,hl,h=>by cases h;exact⟨[],⟨rfl,rfl⟩,(λa _ b hb=>by cases hb),List.Pairwise.nil,λk hk=>by cases hk⟩
 |k::r,i,s,tr,hl,h=>by
  have hk:k=i:=by simpa using hl 0 k rfl
  subst hk;simp only[bd,FA] at h;obtain⟨u,h1,h2,h3⟩:=agM hC h;obtain⟨E7,r1,r2,r3,r4⟩:=zam hC r (k+1) _ _ (λj k' hj=>by have:=hl (j+1) k' hj;omega) h3
  simp only[fits,ap] at h2;obtain⟨h2a,h2b⟩:=h2;have h2b:=aR.1 h2b;refine⟨pI ops.toList (ops.getD k default) k s u::E7,⟨u,h1,rfl,r1⟩,λa ha b hb=> ?_,?_,λk' NM=> ?_⟩
  ·rcases aD.1 hb with rfl|hb
   ·have:=h2b a ha;simp only[jh] at this;rcases this with this|this|this
    ·exact .inl (zzu _ _ this)
    ·exact .inr this
    ·exact .inl this
   ·exact r2 a (aE _ ha) b hb
  ·exact bk.2 ⟨λb hb=>r2 _ (by simp) b hb,r3⟩
  ·rcases aD.1 NM with rfl|NM
   ·exact h2a
   ·exact r4 k' NM
theorem zop{C:bH}{ops:Array Oper}{z:State}{i:Nat}{q:List Nat}:∀(p:List Nat) (s:State) (tr:List nb),xu E C ops (p++i::q) s tr z->(∀(tp:List nb) f tq,tr=tp++f::tq->tp.length=p.length->∀a∈tp,a.apart f=true)->
 ∃tp f tq u,tr=tp++f::tq/\tp.length=p.length/\nL E C ops.toList (ops.getD i default) s=some u/\f=pI ops.toList (ops.getD i default) i s u/\xu E C ops (p++q) (s.apply (ops.getD i default).dst u) (tp++tq) z
 | [],s,[],h,Gs=>h.elim
 | [],s,f::tr,h,Gs=>by obtain⟨u,h1,h2,h3⟩:=h;exact⟨[],f,tr,u,rfl,rfl,h1,h2,h3⟩
 |j::p,s,[],h,Gs=>h.elim
 |j::p,s,g::tr,h,Gs=>by obtain⟨uj,h1,h2,h3⟩:=h;obtain⟨tp,f,tq,u,e1,e2,k1,k2,k3⟩:=zop p _ tr h3 (λtp f tq e hl a ha=>Gs (g::tp) f tq (by rw[e];rfl) (by simp [hl]) a (aE _ ha));have hg:=Gs (g::tp) f tq (by rw[e1];rfl) (by simp [e2]) g (by simp);rw[h2,k2] at hg;obtain⟨w1,w2,w3,w4,w5⟩:=swap h1 k1 hg;refine⟨g::tp,f,tq,u,by rw[e1];rfl,by simp [e2],w1,by rw[k2,w2],uj,w3,by rw[h2,w4],?_⟩;rw[w5];exact k3
theorem P2{l:List Nat}{i:Nat}(h:i∈l):∃p q,l=p++i::q:=List.append_of_mem h
theorem zrn{p q:List Nat}{i:Nat}(h:(p++i::q).Nodup):(p++i::q).filter (λj=> !(ak j i))=p++q:=by
 have h':=List.nodup_append.1 h;have hp:∀j∈p,j≠i:=λj hj=>h'.2.2 j hj i (by simp);have hq:∀j∈q,j≠i:=λj hj e=>by have:=(List.nodup_cons.1 h'.2.1).1;rw[e] at hj;exact this hj
 rw[List.filter_append,dY];have hb:∀j,j≠i->(!(ak j i))=true:=λj hj=>by
  cases hh:ak j i with
  |false=>rfl
  |true=>exact absurd (aH hh) hj
 rw[dz.2 (λj hj=>hb j (hp j hj)),dz.2 (λj hj=>hb j (hq j hj))];have:(!(ak i i))=false:=by simp
 rw[this];simp
def rest(n:Nat)(listed:Array Bool):List Nat:=(cY n).filter λi=> !listed.getD i true
theorem ajD{n:Nat}{listed:Array Bool}(hs:listed.size=n){i:Nat}{p q:List Nat}(h:rest n listed=p++i::q):rest n (listed.setIfInBounds i true)=p++q:=by
 have wV:(rest n listed).Nodup:=List.nodup_range.filter _;rw[h] at wV;rw[<-zrn wV,<-h];simp only[rest,List.filter_filter];refine jT λj hj=> ?_;have hjn:=bX.1 hj;by_cases e:j=i
 ·subst e;have:(listed.setIfInBounds j true).getD j true=true:=by simp [bg,hs,hjn]
  rw[this];simp
 ·have h1:(listed.setIfInBounds i true).getD j true=listed.getD j true:=by simp only[bg];rw[du (λh=>e h.symm)]
  have h2:ak j i=false:=by
   cases hh:ak j i with
   |false=>rfl
   |true=>exact absurd (aH hh) e
  rw[h1,h2];simp
theorem Lf{ops:Array Oper}{listed:Array Bool}{i:Nat}(h:i∈eC .any ops listed):i∈rest ops.size listed/\∀e∈(ops.getD i default).after.toList,gf .any e=true->listed.getD e.on false=true:=by
 unfold eC at h;obtain⟨h1,h2⟩:=bf.1 h;have hi:=bX.1 h1;rw[ap] at h2;refine⟨bf.2 ⟨h1,h2.1⟩,λe he hb=> ?_⟩;have h3:=h2.2;rw[bh hi] at h3;simp only[dP,dh] at h3;have jH:ops.getD i default=ops[i]:=by simp [hi]
 rw[jH] at he;have h4:=gH.1 h3 e (by simpa using he);rw[hb] at h4;simpa using h4
theorem PY{ops:Array Oper}{listed:Array Bool}{i:Nat}(h:i∈rest ops.size listed)(ha:∀e∈(ops.getD i default).after.toList,gf .any e=true->listed.getD e.on false=true):i∈eC .any ops listed:=by
 obtain⟨h1,h2⟩:=bf.1 h;have hi:=bX.1 h1;refine bf.2 ⟨h1,?_⟩;rw[ap];refine⟨h2,?_⟩;have jH:ops.getD i default=ops[i]:=by simp [hi]
 rw[bh hi];simp only[dP,dh];refine gH.2 λe he=> ?_;cases hb:gf .any e with
 |false=>rfl
 |true=>rw[ha e (by rw[jH];simpa using he) hb];simp
theorem aiO(hE:bO P E){C:bH}(hC:C.Nat)(hf:∀f,ly P tq C f){ops:Array Oper}{z:State}{Q:Exit->Act->World->Prop}(uW:∀k,k<ops.size->bn (CW ops k+1) (bit k)=true):
 ∀(iT:Nat) (listed:Array Bool) (X:cc) (s:State) (a:Act) (tr:List nb),Rel tq X s a->BS ops listed->listed.size=ops.size->iT=(rest ops.size listed).length->xu E C ops (rest ops.size listed) s tr z->tr.Pairwise (Dj ops)->
  (∀Y a',Ext X Y->Rel tq Y z a'->Q .normal a' Y.w)->wpAny P .any ops Q iT listed a X.w:=by
 intro iT;have done:∀(listed:Array Bool),listed.size=ops.size->eC .any ops listed=[]->rest ops.size listed=[]:=by
  intro listed hs hr;rcases hl:rest ops.size listed with _|⟨i,r⟩
  ·rfl
  have gL:i∈rest ops.size listed:=by rw[hl];simp
  have lR:=bX.1 (bf.1 gL).1;have s8:i∈eC .any ops listed:=by
   refine PY gL λe he hb=> ?_;have bR:e.on<i:=zxx (uW i lR) (zg0 _ e he hb);cases hx:listed.getD e.on false with
   |true=>rfl
   |false=>
    exfalso;have pj:e.on<listed.size:=by omega
    have yN:listed.getD e.on true=false:=by simp only[bg,bh pj,dh] at hx⊢;exact hx
    have hm:e.on∈rest ops.size listed:=bf.2 ⟨bX.2 (by omega),by rw[yN];rfl⟩;have qN:(rest ops.size listed).Pairwise (· < ·):=List.pairwise_lt_range.filter _;rw[hl] at qN hm;rcases aD.1 hm with e1|hm
    ·omega
    ·have:=(bk.1 qN).1 _ hm;omega
  rw[hr] at s8;cases s8
 induction iT with
 |zero=>
  intro listed X s a tr hr oj hs wU mQ C2 hQ;have Ck:rest ops.size listed=[]:=bp wU.symm;rw[Ck] at mQ;obtain⟨rfl,_⟩:=mQ;refine⟨?_,hQ X a (Ext.refl X) hr⟩;rcases N7:eC .any ops listed with _|⟨i,r⟩
  ·rfl
  ·have:=(Lf (i:=i) (by rw[N7];simp)).1;rw[Ck] at this;cases this
 |succ iT ih=>
  intro listed X s a tr hr oj hs wU mQ C2 hQ;refine⟨λqL=> ?_,λi hi=> ?_⟩
  ·rw[done listed hs qL] at wU;cases wU
  ·obtain⟨gL,Ae⟩:=Lf hi;obtain⟨p,q,EG⟩:=P2 gL;have lR:=bX.1 (bf.1 gL).1;rw[EG] at mQ;have uY:=z145 mQ;obtain⟨tp,f,tq,u,e1,e2,k1,k2,k3⟩:=zop p s tr mQ (λtp f tq e hl a' Gr=>by
    have Cc:f.i=i:=by rw[e,cg,bd] at uY;have:=jk uY (by simp [hl]);injection this.2
    have haj:a'.i∈p:=by rw[e,cg,bd] at uY;have:=jk uY (by simp [hl]);rw[<-this.1];exact bm.2 ⟨a',Gr,rfl⟩
    rw[e] at C2;have Cd:=(cz.1 C2).2.2 a' Gr f (by simp);rcases Cd with hb|hb
    ·exfalso;rw[Cc] at hb;obtain oG:=Vk oj _ _ (λq hq=>by obtain⟨ed,Ew,Ey,NG⟩:=JN _ _ hq;have:=Ae ed Ew Ey;rw[NG] at this;exact this) a'.i hb
     have fF:a'.i∈rest ops.size listed:=by rw[EG];exact cI _ haj
     have na:=(bf.1 fF).2;have bR:=bX.1 (bf.1 fF).1;have pj:a'.i<listed.size:=by omega
     simp only[bg,bh pj,dh] at oG na;rw[oG] at na;cases na
    ·exact hb)
   have fF:=ajD hs EG;have hio:ops[i]? =some (ops.getD i default):=by simp [lR]
   refine YD hE hr hC hf hio (zmz hC k1) λY a' dO fb=> ?_;refine ih (listed.setIfInBounds i true) Y _ a' (tp++tq) fb (P0 oj λq hq=>by obtain⟨ed,g1,g2,g3⟩:=JN _ _ hq;have:=Ae ed g1 g2;rw[g3] at this;exact this) (by simp [hs]) ?_ (by rw[fF];exact k3) ?_ (λZ a2 iu lB=>hQ Z a2 (dO.trans iu) lB)
   ·rw[fF];rw[EG] at wU;simp only[aF,aB] at wU⊢;omega
   ·rw[e1] at C2;obtain⟨a1,a2,a3⟩:=cz.1 C2;exact cz.2 ⟨a1,(bk.1 a2).2,λx hx y hy=>a3 x hx y (aE _ hy)⟩
theorem afR(hE:bO P E)(hm:P.follows .mixedOrders=true){C:bH}(hC:C.Nat)(hf:∀f,ly P tq C f){id:Nat}{ops:Array Oper}{z:State}{Q:Exit->Act->World->Prop}(hr:Rel tq X s a)(h:FA E (C State) ops.toList ops.toList 0 s [] some=some z)
 (hQ:∀Y a',Ext X Y->Rel tq Y z a'->Q .normal a' Y.w):(iD id ops true).wp P Q a X.w:=by
 have s7:(cY ops.size).map (λi=>ops.getD i default)=ops.toList:=by
  apply bZ;intro i;rw[aP];by_cases hi:i<ops.size
  ·simp [hi]
  ·simp [hi]
 have fF:rest ops.size (gI ops.size false)=cY ops.size:=by refine dz.2 λi hi=> ?_;have:=bX.1 hi;simp [this]
 obtain⟨E7,r1,_,r3,r4⟩:=zam hC (cY ops.size) 0 s [] (λj k hj=>by
  have:=(aA.1 hj)
  obtain⟨h1,h2⟩:=this;simp at h2;omega) (by rw[s7];exact h)
 have hk:nO s X {X with w:={X.w with drawn:=X.w.drawn+1}}:=⟨aZ _,rfl,rfl,rfl,λg _=>⟨rfl,rfl⟩,rfl,λ_ _ _=>rfl⟩
 refine wp_region_any hm ?_;exact aiO hE hC hf (λk hk=>r4 k (bX.2 hk)) ops.size (gI ops.size false) _ s a E7 (hr.lV hk) (λi hi=>by by_cases h:i<ops.size<;>simp [h] at hi) (by simp) (by rw[fF];simp) (by rw[fF];exact r1) r3 (λY a' dO fb=>hQ Y a' (hk.ext.trans dO) fb)
end Go.Ref

namespace Go.Ref
open Go
variable {P:Program} {tq:oK} {E:Env} {X:cc} {s:State} {a:Act}
theorem eI.flat{X Y:cc}:∀{t:Ty} {x:El t} {cs:List Value},t.flat=true->eI X t x cs->eI Y t x cs
 | .bool,_,_,_,hr=>hr
 | .int _,_,_,_,hr=>hr
 | .str,_,_,_,hr=>hr
 | .unit,_,_,_,hr=>hr
 | .sl _ _,_,_,hf,_=>by cases hf
 | .dJ _ _ _,_,_,hf,_=>by cases hf
 | .arr n t,xs,cs,hf,⟨h1,h2,h3⟩=>⟨h1,h2,λj x hj=>eI.flat (t:=t) hf (h3 j x hj)⟩
 | .pair a b,x,cs,hf,⟨c1,c2,h1,h2,h3⟩=>by have hf:(a.flat&&b.flat)=true:=hf;rw[ap] at hf;exact⟨c1,c2,h1,eI.flat hf.1 h2,eI.flat hf.2 h3⟩
theorem cw.flat{X Y:cc}{pl:List Nat->Place}{sv:SV}{v:Value}(hf:sv.flat=true)(hr:cw X pl sv v):cw Y pl sv v:=by
 cases sv with
 |bY t x own=>have hf:(t.flat&&own.isEmpty)=true:=hf;rw[ap] at hf;obtain⟨cs,h1,h2,_⟩:=hr;have:own=[]:=List.isEmpty_iff.1 hf.2;subst this;exact⟨cs,h1.flat hf.1,h2,vu⟩
 |undef=>trivial
 |skip=>exact hr
 |jR=>exact hr
 |nE=>exact hr
 |over=>exact hr
 |_=>cases hf
theorem VA{o:Nat}:∀{sl:List (List SV)} {i:Nat},uh o i sl=true->∀(j:Nat) l,sl[j]? =some l->i+j≠o->∀sv∈l,SV.flat sv=true
 | [],i,_,j,l,h,_=>by simp at h
 |l0::r,i,h,j,l,hl,fS=>by
  rw[uh,ap,jh] at h;cases j with
  |zero=>
   cases hl;rcases h.1 with h1|h1
   ·exact absurd (aH h1) fS
   ·exact λsv hm=>aR.1 h1 sv hm
  |succ j=>exact VA h.2 j l hl (by omega)
structure xf(X:cc)(a:Act)(o:Nat)(e:TypeId)(xs:List Int)(own:List (List Nat))(g c:Nat)(cur:Array Value):Prop where
 val:a.tmps.getD o aW= .slice (some ⟨g,0,none⟩) xs.length c
 heap:X.w.heap[g]? =some (.cells cur e (0,0))
 cell:∀(j:Nat) x,xs[j]? =some x->X.w.cell? ⟨g,j,none⟩=some (.int .u8 x)
 le:xs.length<=c
 most:c<=maxLen
 size:cur.size=c
 ow:X.ow g= .row (.c o 0 []) (xs.length*1)
 own:∀p∈own,p=[]
theorem alV{o:Nat}{e:TypeId}{xs:List Int}{own:List (List Nat)}(hr:Rel tq X s a)(hs:s.slot o=[.bY (.sl e (.int .u8)) xs own])(gD:pU own []=true){i:Nat}(hi:i<xs.length):∃g c cur,xf X a o e xs own g c cur:=by
 have qM:=hr.slot o;rw[hs] at qM;obtain⟨cs,de,hv,hO⟩:=(show cw X (.c o 0) (.bY (.sl e (.int .u8)) xs own) (a.tmps.getD o aW) from qM)
 have gL:([]:List Nat)∈own:=by
  unfold pU at gD;obtain⟨q,h1,h2⟩:=List.any_eq_true.1 gD;have:q=[]:=by simpa using h2
  rw[<-this];exact h1
 have kR:∀p∈own,p=[]:=λp hp=>by
  obtain⟨e2,t2,xs2,v2,g1,g2,g3,g4⟩:=hO p hp;cases p with
  |cons q r=>simp [El.get] at g2
  |nil=>rfl
 obtain⟨e1,t1,xs1,v1,_,hg,hc,iC⟩:=hO [] gL;simp only[El.get,aC] at hg;cases hg;obtain⟨A,c,nB,hle,oF⟩:=de;subst nB;have hv:a.tmps.getD o aW= .slice A xs.length c:=hv;have GX:v1= .slice A xs.length c:=by have:([Value.slice A xs.length c]:List Value)[0]? =some v1:=hc;simpa using this.symm
 subst GX;rcases iC with⟨_,h0⟩|⟨g,cap,cur,h1,h2,h3,h4,h5,h6⟩
 ·have h0:ag xs=0:=h0;omega
 injection h1 with k1 k2 k3
 subst k1 k3;have h5:cur.size=c*1:=h5;have h6:X.ow g= .row (.c o 0 []) (ag xs*1):=h6;have mO:∀(j:Nat) x,xs[j]? =some x->X.w.cell? ⟨g,j,none⟩=some (.int .u8 x):=λj x hj=>by obtain⟨ad,nG,e1,_,e2,e3⟩:=oF j x hj;cases e1;have e2:nG=[.int .u8 x]:=e2;subst e2;have:=(e3 0 (.int .u8 x) rfl).2.1;rw[q7] at this;simpa [Ty.cells] using this
 exact⟨g,c,cur,hv,h2,mO,hle,h4,by omega,h6,kR⟩
theorem ajy{o:Nat}{e:TypeId}{xs:List Int}{own:List (List Nat)}{X0:cc}(hF:∀g pl n,X0.ow g≠ .row pl n)(hx:Ext X0 X)(hr:Rel tq X s a)(ho:o<s.sl.length)(Ah:uh o 0 s.sl=true)(rI:s.bs.all Option.isNone=true)
 {g c:Nat} {cur:Array Value} (hR:xf X a o e xs own g c cur) {i:Nat} (hi:i<xs.length) (z:Int):
   Ext X0 (X.row g (cur.toList.take i++ [Value.int .u8 z]++cur.toList.drop (i+1)).toArray)/\Rel tq (X.row g (cur.toList.take i++ [Value.int .u8 z]++cur.toList.drop (i+1)).toArray) ⟨s.sl.set o [.bY (.sl e (.int .u8)) (xs.set i z:List Int) own],s.bs⟩ a:=by
 obtain⟨hv,h2,mO,hle,h4,h5,h6,kR⟩:=hR;refine⟨?_,?_⟩
 ·
  have lS:∀b,b≠g->(X.row g (cur.toList.take i++ [Value.int .u8 z]++cur.toList.drop (i+1)).toArray).w.heap[b]? =X.w.heap[b]? :=λb hb=>setRow_other X.w g b _ hb;have vn:∀ad v,X0.cn ad v->ad.block≠g:=λad v np e0=>by
   have bR:=cc.qV np;have hu:=np.2.2;cases hw:X0.ow ad.block with
   |all=>have:=(hx.still ad.block bR (by rw[hw];trivial)).1;rw[e0,h6] at this;rw[<-e0,hw] at this;cases this
   |ro n=>have:=(hx.still ad.block bR (by rw[hw];trivial)).1;rw[e0,h6] at this;rw[<-e0,hw] at this;cases this
   |box id=>rw[hw] at hu;exact hu
   |row pl n=>exact hF _ _ _ hw
  refine⟨λad v np=> ?_,?_,hx.os,hx.tape,hx.output,hx.β0,λb hb gy=> ?_⟩
  ·have h7:=hx.cn ad v np;refine⟨h7.1,?_,h7.2.2⟩;have:=h7.2.1;simp only[bT] at this⊢;rw[lS _ (vn ad v np)];exact this
  ·have:=hx.size;simpa [cc.row] using this
  ·have h7:=hx.still b hb gy;have fS:b≠g:=λe0=>by have h8:=h7.1;rw[e0,h6] at h8;rw[e0,<-h8] at gy;exact gy
   exact⟨h7.1,(lS b fS).trans h7.2⟩
 ·generalize qq:(cur.toList.take i++ [Value.int .u8 z]++cur.toList.drop (i+1)).toArray=new;have na:new.toList=cur.toList.take i++ [Value.int .u8 z]++cur.toList.drop (i+1):=by rw[<-qq]
  have nm:new.size=cur.size:=by
   have:new.toList.length=cur.toList.length:=by rw[na];simp;omega
   simpa using this
  have cJ:(X.row g new).w.heap[g]? =some (.cells new e (0,0)):=setRow_heap X.w g cur new e (0,0) h2;refine⟨by simpa using hr.size,by simpa using hr.pW,λj l v hl rL=> ?_,λid B hB=> ?_,λj l id t p hl hm=> ?_,hr.defers,λj l id c b k hl hm=> ?_,hr.km.Av (by rw[h6];exact λe=>e) (λb hb=>setRow_other X.w g b _ hb) rfl⟩
  ·rw[az] at hl;by_cases GL:o=j
   ·subst GL;rw[if_pos rfl,if_pos ho] at hl;cases hl;have hvv:a.tmps.getD o aW=v:=by rw[bg,rL];rfl
    rw[hvv] at hv;subst hv;refine⟨[.slice (some ⟨g,0,none⟩) xs.length c],?_,rfl,λp hp=> ?_⟩
    ·refine eI.E3 (t:= .int .u8) (gJ ..) hle λj x hj=>⟨⟨g,0,none⟩,[.int .u8 x],rfl,rfl,rfl,λk w hk=> ?_⟩
     have Ce:j<xs.length:=by have:=(aA.1 hj).1;rw[gJ] at this;exact this
     cases k with
     |succ k=>simp at hk
     |zero=>
      have hk:Value.int .u8 x=w:=by simpa using hk
      subst hk;refine⟨Hq rfl _,?_,?_⟩
      ·rw[q7];show(X.row g new).w.cell? _=_;simp only[bT,cJ,Ty.cells];rw[show 0+(j*1+0)=j by omega,<-bz,na];have hj:(xs.set i z)[j]? =some x:=hj;rw[az] at hj;have anw:i<cur.toList.length:=by simp;omega
       by_cases hij:i=j
       ·subst hij;rw[if_pos rfl,if_pos hi] at hj;cases hj;rw[aQ,bc (by simp;omega)];have:i-(cur.toList.take i).length=0:=by simp;omega
        rw[this];rfl
       ·rw[if_neg hij] at hj;have B9:=mO j x hj;simp only[bT,h2] at B9;rw[<-bz] at B9;rcases eB j i with bR|UJ
        ·rw[aQ,bj (by simp;omega),bq,if_pos bR];exact B9
        ·have hgt:i<j:=by omega
         rw[bc (by simp;omega),bJ];have:i+1+(j-(cur.toList.take i++ [Value.int .u8 z]).length)=j:=by simp;omega
         rw[this];exact B9
      ·rw[q7];show Ow.used (X.ow g) _;rw[h6];show _<_;simp only[Ty.cells];omega
    ·have:=kR p hp;subst this;refine⟨e,.int .u8,(xs.set i z:List Int),_,by simp [Ty.nH],rfl,rfl,?_⟩;have hls:ag (xs.set i z)=xs.length:=gJ ..;rw[hls];exact .inr ⟨g,c,new,rfl,cJ,hle,h4,by rw[nm,h5];simp [Ty.cells],h6⟩
   ·rw[if_neg GL] at hl;have:=VA Ah j l hl (by omega);exact(hr.gC j l v hl rL).ru λk sv u hk hu=>hu.flat (this sv (aL hk))
  ·have:=aR.1 rI (some B) (aL hB);cases this
  ·rw[az] at hl;by_cases GL:o=j
   ·subst GL;rw[if_pos rfl,if_pos ho] at hl;cases hl;simp at hm
   ·rw[if_neg GL] at hl;have:=VA Ah j l hl (by omega) _ hm;cases this
  ·exfalso;replace hl:(s.sl.set o [.bY (.sl e (.int .u8)) (xs.set i z:List Int) own])[j]? =some l:=hl;rw[az] at hl;by_cases GL:o=j
   ·subst GL;rw[if_pos rfl,if_pos ho] at hl;cases hl;simp at hm
   ·rw[if_neg GL] at hl;have:=VA Ah j l hl (by omega) _ hm;cases this
theorem xb{a:Act}{d i:Nat}{v:Value}(hd:d<a.tmps.size):(a.put (some d) v).tmps.getD i aW=if d=i then v else a.tmps.getD i aW:=by
 simp only[Act.put,bg,di];split
 ·first|rfl|(rw[if_pos hd];rfl)
 ·rfl
theorem AB{a:Act}{d:Nat}{v:Value}:(a.put (some d) v).tmps.size=a.tmps.size:=by simp [Act.put]
theorem raw{ops:Array Oper}{Q:Exit->Act->World->Prop}{i d:Nat}{rest:List Nat}{a:Act}{w:World}{o:Oper}{v:Value}(hi:ops[i]? =some o)(hd:isDst o d=true)(dK:(execOp a.eval o).run P w= .ok (.value v) w)(K:wpOps P ops Q rest (a.put (some d) v) w):wpOps P ops Q (i::rest) a w:=by
 have ui:o.dst=some d/\o.guard=none:=by
  unfold isDst at hd;split at hd
  ·rename_i d' h1 h2;exact⟨by rw[h1,aH hd],h2⟩
  ·cases hd
 rw[wpOps_cons];unfold wpOp;simp only[hi];have hw:cA o (yielded ops a.tmps)=true:=by simp [cA,ui.2]
 rw[if_pos hw];refine .inl ?_;unfold gT;rw[dK,jn,ui.1];exact K
theorem Db{x:Operand}{i:Nat}(h:oH x i=true):x= .tmp i:=by
 unfold oH at h;split at h
 ·rw[aH h]
 ·cases h
theorem Ri{T:TypeId}(h:EN E T=true):E.ty T=some (.int .u8):=by
 unfold EN at h;split at h
 ·assumption
 ·cases h
theorem zs1{T:TypeId}(h:Yw E T=true):∃e,E.ty T=some (.sl e (.int .u8)):=by
 unfold Yw at h;split at h
 ·exact⟨_,by assumption⟩
 ·cases h
theorem Dc{o:Oper}{d x:Nat}(h:Ku o d x=true):isDst o d=true/\∀(a:Act) (w:World),(execOp a.eval o).run P w= .ok (.value (a.tmps.getD x aW)) w:=by
 unfold Ku at h;rw[ap] at h;refine⟨h.1,λa w=> ?_⟩;have h:=h.2;split at h
 ·rename_i y ho;have:=Db h;subst this;simp only[execOp,ho];rfl
 ·cases h
theorem Yz(hE:bO P E){o:Oper}{d x:Nat}(h:isLen E o d x=true):isDst o d=true/\∀(a:Act) (w:World) A n c,a.tmps.getD x aW= .slice A n c->(execOp a.eval o).run P w= .ok (.value (.int .i64 n)) w:=by
 unfold isLen at h;rw[ap] at h;refine⟨h.1,λa w A n c hv=> ?_⟩;have h:=h.2;split at h
 ·rename_i mN ts ho;split at h
  ·rename_i y T AV Ia;have has:mN= #[y]:=by rw[<-bW (xs:=mN),AV]
   have tD:ts= #[T]:=by rw[<-bW (xs:=ts),Ia]
   subst has tD;rw[ap] at h;have:=Db h.1;subst this;obtain⟨e,hT⟩:=zs1 h.2;have hu:=(hE.ty T _ hT).me;have ev:a.eval (.tmp x)= .slice A n c:=hv;simp [execOp,ho,resolve,invoke,builtin,Builtin.len_,ev,run_underlying hu.1,goInt]
  ·cases h
 ·cases h
theorem VX{o:Oper}{d x:Nat}(h:Z9 o d x=true):isDst o d=true/\∀(a:Act) (w:World) (n:Int),a.tmps.getD x aW= .int .i64 n->(execOp a.eval o).run P w= .ok (.value (.int .i64 (IntKind.i64.wrap (n-1)))) w:=by
 unfold Z9 at h;rw[ap] at h;refine⟨h.1,λa w n hv=> ?_⟩;have h:=h.2;split at h
 ·rename_i T y c T' ho;rw[ap] at h;have:=Db h.1;subst this;have hc:=of_decide_eq_true h.2;subst hc;have ev:a.eval (.tmp x)= .int .i64 n:=hv;have ec:a.eval (.const (.int .i64 1))= .int .i64 1:=rfl;obtain⟨sv,v,hl,Oj,_,hr,_⟩:=znx (P:=P) (op:= .sub) (T:=T) (k:= .i64) (k':= .i64) (m:=n) (n:=1) w rfl;cases hl;have:=Hh (hr ⟨w,λ_=> .all,λ_=>none⟩ (λ_=> .r 0 []));subst this;simp only[execOp,ho,ay,ev,ec,Ve,aj,Oj,aG]
 ·cases h
theorem Rx{o:Oper}{d x y:Nat}(h:Cz o d x y=true):isDst o d=true/\∀(a:Act) (w:World) (n m:Int),a.tmps.getD x aW= .int .u8 n->a.tmps.getD y aW= .int .u8 m->(execOp a.eval o).run P w= .ok (.value (.int .u8 (IntKind.u8.wrap (n+m)))) w:=by
 unfold Cz at h;rw[ap] at h;refine⟨h.1,λa w n m hv hu=> ?_⟩;have h:=h.2;split at h
 ·rename_i T u v T' ho;rw[ap] at h;have:=Db h.1;subst this;have:=Db h.2;subst this;have ev:a.eval (.tmp x)= .int .u8 n:=hv;have eu:a.eval (.tmp y)= .int .u8 m:=hu;obtain⟨sv,v,hl,Oj,_,hr,_⟩:=znx (P:=P) (op:= .add) (T:=T) (k:= .u8) (k':= .u8) (m:=n) (n:=m) w rfl;cases hl;have:=Hh (hr ⟨w,λ_=> .all,λ_=>none⟩ (λ_=> .r 0 []));subst this;simp only[execOp,ho,ay,ev,eu,Ve,aj,Oj,aG]
 ·cases h
theorem Z1(hE:bO P E){o:Oper}{d x i:Nat}(h:EM E o d x i=true):isDst o d=true/\∀(a:Act) (w:World) (g n c:Nat) (j:Int),a.tmps.getD x aW= .slice (some ⟨g,0,none⟩) n c->a.tmps.getD i aW= .int .i64 j->0<=j->j<n->(execOp a.eval o).run P w= .ok (.value (.pointer (some ⟨g,j.toNat,none⟩))) w:=by
 unfold EM at h;rw[ap] at h;refine⟨h.1,λa w g n c j hv hj h0 h1=> ?_⟩;have h:=h.2;split at h
 ·rename_i T y z ho;rw[ap,ap] at h;have:=Db h.1;subst this;have:=Db h.2.1;subst this;obtain⟨e,hT⟩:=zs1 h.2.2;have hu:=(hE.ty T _ hT).me;have ev:a.eval (.tmp x)= .slice (some ⟨g,0,none⟩) n c:=hv;have ei:a.eval (.tmp i)= .int .i64 j:=hj;simp only[execOp,ho,ay,Instr.indexAt,ei,ev,asIntOf,aG,aj,run_underlying hu.1,Sem.run_ite,h0,h1,and_self,if_true,uE hE hu.2];simp [Ty.cells,q7]
 ·cases h
theorem PH(hE:bO P E){o:Oper}{d x:Nat}(h:JG E o d x=true):isDst o d=true/\∀(a:Act) (w:World) (g j:Nat) (y:Int),a.tmps.getD x aW= .pointer (some ⟨g,j,none⟩)->w.cell? ⟨g,j,none⟩=some (.int .u8 y)->(execOp a.eval o).run P w= .ok (.value (.int .u8 y)) w:=by
 unfold JG at h;rw[ap] at h;refine⟨h.1,λa w g j y hv hc=> ?_⟩;have h:=h.2;split at h
 ·rename_i T z ho;rw[ap] at h;have:=Db h.1;subst this;have hT:=Ri h.2;have ev:a.eval (.tmp x)= .pointer (some ⟨g,j,none⟩):=hv;have hl:=Hj (P:=P) hE hT (X:=⟨w,λ_=> .all,λ_=>none⟩) (x:=y) (cs:=[.int .u8 y]) rfl (ad:=⟨g,j,none⟩) (w:=w) (λk v hk=>by
   cases k with
   |zero=>rw[q7];have hk:Value.int .u8 y=v:=by simpa using hk
          rw[<-hk];exact hc
   |succ k=>simp at hk)
  simp only[execOp,ho,ay,Instr.loadAt,ev,Instr.sureAddr,aG,aj,hl];rfl
 ·cases h
theorem alX(hE:bO P E){ops:Array Oper}{Q:Exit->Act->World->Prop}{o:Oper}{x y:Nat}(h:Cy E o x y=true){k:Nat}{rest:List Nat}(hi:ops[k]? =some o){a:Act}{X:cc}{g j:Nat}{z:Int}{cur:Array Value}{T':TypeId}(hv:a.tmps.getD x aW= .pointer (some ⟨g,j,none⟩))(hz:a.tmps.getD y aW= .int .u8 z)(hg:X.w.heap[g]? =some (.cells cur T' (0,0)))(hj:j+1<=cur.size)
 (K:wpOps P ops Q rest (a.put none aW) (X.row g (cur.toList.take j++ [Value.int .u8 z]++cur.toList.drop (j+1)).toArray).w):wpOps P ops Q (k::rest) a X.w:=by
 unfold Cy at h;rw[ap] at h;have ui:o.dst=none/\o.guard=none:=by
  have h:=h.1;split at h
  ·exact⟨by assumption,by assumption⟩
  ·cases h
 have h:=h.2;rw[wpOps_cons];unfold wpOp;simp only[hi];have hw:cA o (yielded ops a.tmps)=true:=by simp [cA,ui.2]
 rw[if_pos hw];refine .inl ?_;unfold gT;split at h
 ·rename_i T u v ho;rw[ap,ap] at h;have:=Db h.1;subst this;have:=Db h.2.1;subst this;have hT:=Ri h.2.2;have ev:a.eval (.tmp x)= .pointer (some ⟨g,j,none⟩):=hv;have ez:a.eval (.tmp y)= .int .u8 z:=hz;have gy:=K6 (P:=P) hE hT (X:=X) (x:=z) (cs:=[.int .u8 z]) rfl (off:=j) (w:=X.w) (r:=g) (cur:=cur) (T':=T') hg hj;have qo:mW (.int .u8) [.int .u8 z]= .int .u8 z:=rfl;rw[qo] at gy;have dK:(execOp a.eval o).run P X.w= .ok .skip (X.row g (cur.toList.take j++ [Value.int .u8 z]++cur.toList.drop (j+1)).toArray).w:=by simp only[execOp,ho,ay,eV,ev,Instr.sureAddr,aG,aj,ez,gy];rfl
  rw[dK,jF,ui.1];exact K
 ·cases h
theorem zz7:∀(n m:Nat) (sl:List (List SV)),(te n m sl).length=sl.length
 |0,m,sl=>rfl
 |n+1,m,sl=>by rw[te,zz7 n (m+1),gJ]
def dead(s:State)(d:Nat):State:=s.b7 (some d) [.undef]
theorem Rel.dead(hr:Rel tq X s a)(d:Nat)(v:Value):Rel tq X (Ref.dead s d) (a.put (some d) v):=hr.put (λ_ _=>trivial) (λid t p hm=>by simp at hm)
theorem agQ(hE:bO P E){X0:cc}(hF:∀g pl n,X0.ow g≠ .row pl n)(hx:Ext X0 X)(hr:Rel tq X s a){q:Nat×Nat×Nat}{id:Nat}{ops:Array Oper}{s':State}(h:uD E q ops.toList s some=some s'){Q:Exit->Act->World->Prop}(hQ:∀Y a',Ext X0 Y->Rel tq Y s' a'->Q .normal a' Y.w):(iD id ops false).wp P Q a X.w:=by
 obtain⟨o,x,m⟩:=q;unfold uD at h;simp only at h;cases pk:JJ E o x m ops.toList with
 |false=>rw[pk] at h;cases h
 |true=>
 rw[pk,cond_true] at h;cases hb:(bn (o+1) m&&(bn (x+1) m&&(!(ak o x)&&bn (m+13) s.sl.length))) with
 |false=>rw[hb] at h;cases h
 |true=>
 rw[hb,cond_true] at h;simp only[ap,Bool.not_eq_true',Nat.ble_eq] at hb;obtain⟨hom,hxm,hox,Ix⟩:=hb;split at h
 case h_2=>cases h
 rename_i et xs own y ow2 po Og;cases gD:pU own [] with
 |false=>rw[gD] at h;cases h
 |true=>
 rw[gD,cond_true] at h;cases Ah:(uh o 0 (te 13 m s.sl)&&s.bs.all Option.isNone) with
 |false=>rw[Ah] at h;cases h
 |true=>
 rw[Ah,cond_true] at h;rw[ap] at Ah;obtain⟨h0,h1,h⟩:=C7 h;cases h;generalize hj:IntKind.i64.wrap ((ag xs:Int)-1)=j at h0 h1;have hi:j.toNat<xs.length:=by omega
 obtain⟨g,c,cur,hR⟩:=alV hr po gD hi;have lL:m+13<=a.tmps.size:=by rw[<-hr.size];exact Ix
 have hy:a.tmps.getD x aW= .int .u8 y:=by have qM:=hr.slot x;rw[Og] at qM;exact Hh (show cw X (.c x 0) (.bY (.int .u8) y ow2) _ from qM)
 have hgx:xs[j.toNat]? =some (xs.getD j.toNat 0):=by rw[al,av hi];rfl
 have Eu:=hR.cell _ _ hgx;unfold JJ at pk;split at pk
 case h_2=>cases pk
 rename_i o0 o1 o2 o3 o4 o5 o6 o7 o8 o9 o10 o11 o12 o13 qs;simp only[ap] at pk;obtain⟨k0,k1,k2,k3,k4,k5,k6,k7,k8,k9,k10,k11,k12,k13⟩:=pk;have jH:∀i,ops[i]? =([o0,o1,o2,o3,o4,o5,o6,o7,o8,o9,o10,o11,o12,o13]:List Oper)[i]? :=λi=>by rw[<-bz,qs]
 have hM:ops.size=14:=by rw[<-ff,qs];rfl
 refine wp_region ?_;rw[hM,show cY 14=[0,1,2,3,4,5,6,7,8,9,10,11,12,13] from rfl];have vo:=hR.val;generalize EL:(Value.slice (some ⟨g,0,none⟩) xs.length c)=vs at vo;refine raw (jH 0) (Dc (P:=P) k0).1 ((Dc k0).2 a X.w) ?_;rw[vo];have e1:=λi=>xb (i:=i) (v:=vs) (show m<a.tmps.size by omega);have r1:=hr.dead m vs;generalize N4:a.put (some m) vs=a1 at e1 r1;have z1:a1.tmps.size=a.tmps.size:=by rw[<-N4,AB]
 refine raw (jH 1) (Dc (P:=P) k1).1 ((Dc k1).2 a1 X.w) ?_;rw[e1,if_neg (by omega),vo];have e2:=λi=>xb (a:=a1) (i:=i) (v:=vs) (show m+1<a1.tmps.size by omega);have r2:=r1.dead (m+1) vs;generalize hp2:a1.put (some (m+1)) vs=a2 at e2 r2;have z2:a2.tmps.size=a.tmps.size:=by rw[<-hp2,AB,z1]
 refine raw (jH 2) (Yz hE k2).1 ((Yz hE k2).2 a2 X.w _ _ _ (by rw[e2,if_pos rfl];exact EL.symm)) ?_;have e3:=λi=>xb (a:=a2) (i:=i) (v:= .int .i64 (xs.length:Nat)) (show m+2<a2.tmps.size by omega);have r3:=r2.dead (m+2) (.int .i64 (xs.length:Nat));generalize hp3:a2.put (some (m+2)) (.int .i64 (xs.length:Nat))=a3 at e3 r3⊢;have z3:a3.tmps.size=a.tmps.size:=by rw[<-hp3,AB,z2]
 refine raw (jH 3) (VX (P:=P) k3).1 ((VX k3).2 a3 X.w _ (by rw[e3,if_pos rfl])) ?_;rw[hj];have e4:=λi=>xb (a:=a3) (i:=i) (v:= .int .i64 j) (show m+3<a3.tmps.size by omega);have r4:=r3.dead (m+3) (.int .i64 j);generalize hp4:a3.put (some (m+3)) (.int .i64 j)=a4 at e4 r4⊢;have z4:a4.tmps.size=a.tmps.size:=by rw[<-hp4,AB,z3]
 have q4:∀i,i<m->a4.tmps.getD i aW=a.tmps.getD i aW:=λi hi=>by rw[e4,if_neg (by omega),e3,if_neg (by omega),e2,if_neg (by omega),e1,if_neg (by omega)]
 have qm:a4.tmps.getD m aW=vs:=by rw[e4,if_neg (by omega),e3,if_neg (by omega),e2,if_neg (by omega),e1,if_pos rfl]
 refine raw (jH 4) (Dc (P:=P) k4).1 ((Dc k4).2 a4 X.w) ?_;rw[q4 o (by omega),vo];have e5:=λi=>xb (a:=a4) (i:=i) (v:=vs) (show m+4<a4.tmps.size by omega);have r5:=r4.dead (m+4) vs;generalize hp5:a4.put (some (m+4)) vs=a5 at e5 r5⊢;have z5:a5.tmps.size=a.tmps.size:=by rw[<-hp5,AB,z4]
 refine raw (jH 5) (Dc (P:=P) k5).1 ((Dc k5).2 a5 X.w) ?_;rw[e5,if_neg (by omega),q4 o (by omega),vo];have e6:=λi=>xb (a:=a5) (i:=i) (v:=vs) (show m+5<a5.tmps.size by omega);have r6:=r5.dead (m+5) vs;generalize hp6:a5.put (some (m+5)) vs=a6 at e6 r6⊢;have z6:a6.tmps.size=a.tmps.size:=by rw[<-hp6,AB,z5]
 refine raw (jH 6) (Yz hE k6).1 ((Yz hE k6).2 a6 X.w _ _ _ (by rw[e6,if_pos rfl];exact EL.symm)) ?_;have e7:=λi=>xb (a:=a6) (i:=i) (v:= .int .i64 (xs.length:Nat)) (show m+6<a6.tmps.size by omega);have r7:=r6.dead (m+6) (.int .i64 (xs.length:Nat));generalize hp7:a6.put (some (m+6)) (.int .i64 (xs.length:Nat))=a7 at e7 r7⊢;have z7:a7.tmps.size=a.tmps.size:=by rw[<-hp7,AB,z6]
 refine raw (jH 7) (VX (P:=P) k7).1 ((VX k7).2 a7 X.w _ (by rw[e7,if_pos rfl])) ?_;rw[hj];have e8:=λi=>xb (a:=a7) (i:=i) (v:= .int .i64 j) (show m+7<a7.tmps.size by omega);have r8:=r7.dead (m+7) (.int .i64 j);generalize hp8:a7.put (some (m+7)) (.int .i64 j)=a8 at e8 r8⊢;have z8:a8.tmps.size=a.tmps.size:=by rw[<-hp8,AB,z7]
 have q8:∀i,i<=m+3->a8.tmps.getD i aW=a4.tmps.getD i aW:=λi hi=>by rw[e8,if_neg (by omega),e7,if_neg (by omega),e6,if_neg (by omega),e5,if_neg (by omega)]
 refine raw (jH 8) (Z1 hE k8).1 ((Z1 hE k8).2 a8 X.w g xs.length c j (by rw[e8,if_neg (by omega),e7,if_neg (by omega),e6,if_neg (by omega),e5,if_pos rfl];exact EL.symm) (by rw[e8,if_pos rfl]) h0 h1) ?_;have e9:=λi=>xb (a:=a8) (i:=i) (v:= .pointer (some ⟨g,j.toNat,none⟩)) (show m+8<a8.tmps.size by omega);have r9:=r8.dead (m+8) (.pointer (some ⟨g,j.toNat,none⟩));generalize hp9:a8.put (some (m+8)) (.pointer (some ⟨g,j.toNat,none⟩))=a9 at e9 r9⊢;have z9:a9.tmps.size=a.tmps.size:=by rw[<-hp9,AB,z8]
 refine raw (jH 9) (PH hE k9).1 ((PH hE k9).2 a9 X.w g j.toNat _ (by rw[e9,if_pos rfl]) Eu) ?_;generalize hwx:xs.getD j.toNat 0=wx;have KJ:=λi=>xb (a:=a9) (i:=i) (v:= .int .u8 wx) (show m+9<a9.tmps.size by omega);have qZ:=r9.dead (m+9) (.int .u8 wx);generalize aax:a9.put (some (m+9)) (.int .u8 wx)=uO at KJ qZ⊢;have z10:uO.tmps.size=a.tmps.size:=by rw[<-aax,AB,z9]
 refine raw (jH 10) (Dc (P:=P) k10).1 ((Dc k10).2 uO X.w) ?_;rw[KJ,if_neg (by omega),e9,if_neg (by omega),q8 x (by omega),q4 x (by omega),hy];have KK:=λi=>xb (a:=uO) (i:=i) (v:= .int .u8 y) (show m+10<uO.tmps.size by omega);have tn:=qZ.dead (m+10) (.int .u8 y);generalize aay:uO.put (some (m+10)) (.int .u8 y)=uP at KK tn⊢;have z11:uP.tmps.size=a.tmps.size:=by rw[<-aay,AB,z10]
 refine raw (jH 11) (Rx (P:=P) k11).1 ((Rx k11).2 uP X.w wx y (by rw[KK,if_neg (by omega),KJ,if_pos rfl]) (by rw[KK,if_pos rfl])) ?_;generalize hwz:IntKind.u8.wrap (wx+y)=wz;have e12:=λi=>xb (a:=uP) (i:=i) (v:= .int .u8 wz) (show m+11<uP.tmps.size by omega);have uz:=tn.dead (m+11) (.int .u8 wz);generalize aaz:uP.put (some (m+11)) (.int .u8 wz)=a12 at e12 uz⊢;have z12:a12.tmps.size=a.tmps.size:=by rw[<-aaz,AB,z11]
 have q12:∀i,i<=m+3->a12.tmps.getD i aW=a4.tmps.getD i aW:=λi hi=>by rw[e12,if_neg (by omega),KK,if_neg (by omega),KJ,if_neg (by omega),e9,if_neg (by omega),q8 i hi]
 refine raw (jH 12) (Z1 hE k12).1 ((Z1 hE k12).2 a12 X.w g xs.length c j (by rw[q12 m (by omega),qm];exact EL.symm) (by rw[q12 (m+3) (by omega),e4,if_pos rfl]) h0 h1) ?_;have UC:=λi=>xb (a:=a12) (i:=i) (v:= .pointer (some ⟨g,j.toNat,none⟩)) (show m+12<a12.tmps.size by omega);have sF:=uz.dead (m+12) (.pointer (some ⟨g,j.toNat,none⟩));generalize anF:a12.put (some (m+12)) (.pointer (some ⟨g,j.toNat,none⟩))=Ej at UC sF⊢;have aai:xf X Ej o et xs own g c cur:=⟨by rw[UC,if_neg (by omega),q12 o (by omega),q4 o (by omega),hR.val],hR.heap,hR.cell,hR.le,hR.most,hR.size,hR.ow,hR.own⟩
 refine alX hE k13 (jH 13) (by rw[UC,if_pos rfl]) (by rw[UC,if_neg (by omega),e12,if_pos rfl]) hR.heap (by rw[hR.size];have:=hR.le;omega) ?_;have aaE:Rel tq X ⟨te 13 m s.sl,s.bs⟩ Ej:=sF;obtain⟨hX,fb⟩:=ajy hF hx aaE (by rw[zz7];omega) Ah.1 Ah.2 aai hi wz;have Ik:=hQ _ Ej hX (by unfold He;rw[hj,hwx,hwz];exact fb)
 exact Ik
end Go.Ref

namespace Go.Ref
open Go
variable {P:Program} {tq:oK} {E:Env} {X:cc} {s:State} {a:Act}
structure xv(X Y:cc)(g0:Nat):Prop where
 heap:∀b,b≠g0->Y.w.heap[b]? =X.w.heap[b]?
 ow:Y.ow=X.ow
 β:Y.β=X.β
theorem xv.cn{Y:cc}{g0:Nat}(h:xv X Y g0){ad:Addr}{v:Value}(fS:ad.block≠g0)(hs:X.cn ad v):Y.cn ad v:=by
 refine⟨hs.1,?_,?_⟩
 ·have:=hs.2.1;simp only[bT] at this⊢;rw[h.heap _ fS];exact this
 ·rw[h.ow];exact hs.2.2
theorem Rd{own:List (List Nat)}{p:List Nat}(h:pU own p=true):p∈own:=by
 unfold pU at h;obtain⟨q,h1,h2⟩:=List.any_eq_true.1 h;have:q=p:=by simpa using h2
 rw[<-this];exact h1
def plS(pl:List Nat->Place):List Nat->Place
 |j::p=>pl ((j+1)::p)
 | []=>pl []
theorem ajt{pl:List Nat->Place}{a b:Ty}{x:El (.pair a b)}{c1 c2:List Value}{own:List (List Nat)}(hr:eI X a x.1 c1)(h:eO X pl (.pair a b) x (c1++c2) own):eO X (λp=>pl (0::p)) a x.1 c1 (Up own [0]):=λp hp=>by
 unfold Up at hp;obtain⟨q,hq,rfl⟩:=bm.1 hp;obtain⟨hq,pn⟩:=bf.1 hq
 match q,pn with
 |0::q,_=>obtain⟨e,t',xs,v,g0,g1,g2,g3⟩:=h (0::q) hq;have g2:(c1++c2)[a.off q]? =some v:=g2;refine⟨e,t',xs,v,g0,g1,?_,g3⟩;show c1[a.off q]? =some v;rw[<-g2,bj];obtain⟨_,k2,_⟩:=TQ hr (show a.nH q from g0) (show El.get a q x.1=_ from g1);have k2:a.off q+1<=a.cells:=k2;have:=hr.len;omega
 | [],pn=>simp at pn
 |(j+1)::q,pn=>simp at pn
theorem aju{pl:List Nat->Place}{a b:Ty}{x:El (.pair a b)}{c1 c2:List Value}{own:List (List Nat)}(hl:c1.length=a.cells)(h:eO X pl (.pair a b) x (c1++c2) own):eO X (plS pl) b x.2 c2 (En own):=λp hp=>by
 unfold En at hp;obtain⟨q,hq,he⟩:=List.mem_filterMap.1 hp
 match q,he with
 |(j+1)::q,he=>cases he;obtain⟨e,t',xs,v,g0,g1,g2,g3⟩:=h ((j+1)::q) hq;refine⟨e,t',xs,v,g0,g1,?_,g3⟩;have g2:(c1++c2)[a.cells+b.off (j::q)]? =some v:=g2;rw[bc (by omega)] at g2;rw[<-g2];congr 1;omega
 | [],he=>cases he
 |0::q,he=>cases he
theorem eO.Av{Y:cc}{g0:Nat}(h:xv X Y g0){pl:List Nat->Place}(oP:∀p n,X.ow g0≠ .row (pl p) n){t:Ty}{x:El t}{cs:List Value}{own:List (List Nat)}(ho:eO X pl t x cs own):eO Y pl t x cs own:=λp hp=>by
 obtain⟨e,t',xs,v,k0,k1,k2,k3⟩:=ho p hp;refine⟨e,t',xs,v,k0,k1,k2,?_⟩;rcases k3 with ho|⟨g,cap,cur,h1,h2,h3,h4,h5,h6⟩
 ·exact .inl ho
 ·have fS:g≠g0:=λe=>oP p _ (e▸h6);exact .inr ⟨g,cap,cur,h1,(h.heap g fS).trans h2,h3,h4,h5,by rw[h.ow];exact h6⟩
theorem eI.kh{Y:cc}{g0:Nat}(h:xv X Y g0):∀{t:Ty} {x:El t} {cs:List Value} {own:List (List Nat)} {pl:List Nat->Place},(∀p n,X.ow g0≠ .row (pl p) n)->t.kh own=true->eI X t x cs->eO X pl t x cs own->eI Y t x cs
 | .bool,_,_,_,_,_,_,hr,_=>hr
 | .int _,_,_,_,_,_,_,hr,_=>hr
 | .str,_,_,_,_,_,_,hr,_=>hr
 | .unit,_,_,_,_,_,_,hr,_=>hr
 | .dJ _ _ _,_,_,_,_,_,hs,_,_=>by cases hs
 | .arr n t,xs,cs,own,pl,_,hs,hr,_=>eI.flat (t:= .arr n t) (show t.flat=true from hs) hr
 | .pair a b,x,cs,own,pl,oP,hs,hr,ho=>by have hs:(a.kh (Up own [0])&&b.kh (En own))=true:=hs;rw[ap] at hs;obtain⟨c1,c2,h1,h2,h3⟩:=hr;subst h1;exact⟨c1,c2,rfl,eI.kh h (pl:=λp=>pl (0::p)) (λp n=>oP _ n) hs.1 h2 (ajt h2 ho),eI.kh h (pl:=plS pl) (λp n=>by cases p<;>exact oP _ n) hs.2 h3 (aju h2.len ho)⟩
 | .sl e t,xs,cs,own,pl,oP,hs,hr,ho=>by
   have hs:(t.flat&&pU own [])=true:=hs;rw[ap] at hs;obtain⟨A,c,nB,hle,oF⟩:=hr;subst nB;refine⟨A,c,rfl,hle,λj x hj=> ?_⟩;obtain⟨ad,nG,e1,e2,e3,e4⟩:=oF j x hj;subst e1;refine⟨ad,nG,rfl,e2,e3.flat hs.1,λi v hi=>h.cn ?_ (e4 i v hi)⟩;obtain⟨e1,t1,xs1,v1,_,hg,hc,iC⟩:=ho [] (Rd hs.2);simp only[El.get,aC] at hg;cases hg;have GX:v1= .slice (some ad) xs.length c:=by have:([Value.slice (some ad) xs.length c]:List Value)[0]? =some v1:=hc;simpa using this.symm
   subst GX;rcases iC with⟨h0,_⟩|⟨g,cap,cur,h1,h2,h3,h4,h5,h6⟩
   ·cases h0
   ·injection h1 with k1 k2 k3
    cases k1;rw[q7];intro e;have e:g=g0:=e;exact oP [] _ (e▸h6)
theorem cw.kh{Y:cc}{g0:Nat}(h:xv X Y g0){pl:List Nat->Place}(oP:∀p n,X.ow g0≠ .row (pl p) n){bs:List (ae fp)}{sv:SV}{v:Value}(hs:sv.kh bs=true)(hr:cw X pl sv v):cw Y pl sv v:=by
 cases sv with
 |bY t x own=>obtain⟨cs,h1,h2,h3⟩:=hr;exact⟨cs,h1.kh h oP hs h3,h2,h3.Av h oP⟩
 |undef=>trivial
 |skip=>exact hr
 |jR=>exact hr
 |nE=>exact hr
 |over=>exact hr
 |ptr id t p=>obtain⟨r,h1,h2⟩:=hr;exact⟨r,by rw[h.β];exact h1,h2⟩
 |_=>cases hs
theorem adO{bs:List (ae fp)}{id:Nat}{B:fp}(h:(bs.map zsl)[id]? =some (some B)):bs[id]? =some (some B)/\B.kh=true:=by
 rw[aP] at h;obtain⟨b0,h0,h1⟩:=ax.1 h;cases b0 with
 |none=>cases h1
 |some B0=>
  unfold zsl at h1;simp only at h1;cases hb:B0.kh with
  |false=>rw[hb] at h1;cases h1
  |true=>rw[hb] at h1;cases h1;exact⟨h0,hb⟩
structure aac(X:cc)(o:Nat)(e:TypeId)(k n:Nat)(v:Value)(g c:Nat)(cur:Array Value):Prop where
 val:v= .slice (some ⟨g,0,none⟩) n c
 heap:X.w.heap[g]? =some (.cells cur e (0,0))
 le:n<=c
 size:cur.size=c*k
 ow:X.ow g= .row (.c o 0 []) (n*k)
theorem OH{o:Nat}{e:TypeId}{t:Ty}{xs:List (El t)}{own:List (List Nat)}(hr:Rel tq X s a)(hs:s.slot o=[.bY (.sl e t) xs own])(gD:pU own []=true){i:Nat}(hi:i<xs.length):∃g c cur,aac X o e t.cells xs.length (a.tmps.getD o aW) g c cur:=by
 have qM:=hr.slot o;rw[hs] at qM;obtain⟨cs,de,hv,hO⟩:=(show cw X (.c o 0) (.bY (.sl e t) xs own) (a.tmps.getD o aW) from qM)
 obtain⟨e1,t1,xs1,v1,_,hg,hc,iC⟩:=hO [] (Rd gD);simp only[El.get,aC] at hg;cases hg;obtain⟨A,c,nB,hle,oF⟩:=de;subst nB;have hv:a.tmps.getD o aW= .slice A xs.length c:=hv;have GX:v1= .slice A xs.length c:=by have:([Value.slice A xs.length c]:List Value)[0]? =some v1:=hc;simpa using this.symm
 subst GX;rcases iC with⟨_,h0⟩|⟨g,cap,cur,h1,h2,h3,h4,h5,h6⟩
 ·have h0:ag xs=0:=h0;omega
 injection h1 with k1 k2 k3
 subst k1 k3;exact⟨g,c,cur,hv,h2,hle,h5,h6⟩
theorem PZ{g:Nat}{new:Array Value}:xv X (X.row g new) g:=⟨λb hb=>setRow_other X.w g b _ hb,rfl,rfl⟩
theorem ajE{X0:cc}(hF:∀g pl n,X0.ow g≠ .row pl n)(hx:Ext X0 X){g m:Nat}{pl:Place}{new:Array Value}(how:X.ow g= .row pl m):Ext X0 (X.row g new):=by
 have lS:∀b,b≠g->(X.row g new).w.heap[b]? =X.w.heap[b]? :=λb hb=>setRow_other X.w g b _ hb;have vn:∀ad v,X0.cn ad v->ad.block≠g:=λad v np e0=>by
  have bR:=cc.qV np;have hu:=np.2.2;cases hw:X0.ow ad.block with
  |all=>have:=(hx.still ad.block bR (by rw[hw];trivial)).1;rw[e0,how] at this;rw[<-e0,hw] at this;cases this
  |ro n=>have:=(hx.still ad.block bR (by rw[hw];trivial)).1;rw[e0,how] at this;rw[<-e0,hw] at this;cases this
  |box id=>rw[hw] at hu;exact hu
  |row pl n=>exact hF _ _ _ hw
 refine⟨λad v np=>PZ.cn (vn ad v np) (hx.cn ad v np),?_,hx.os,hx.tape,hx.output,hx.β0,λb hb gy=> ?_⟩
 ·have:=hx.size;simpa [cc.row] using this
 ·have h7:=hx.still b hb gy;have fS:b≠g:=λe0=>by have h8:=h7.1;rw[e0,how] at h8;rw[e0,<-h8] at gy;exact gy
  exact⟨h7.1,(lS b fS).trans h7.2⟩
theorem agI(hr:Rel tq X s a){x g m:Nat}{new:Array Value}(how:X.ow g= .row (.c x 0 []) m):Rel tq (X.row g new) (s.kh x) a:=by
 have hB:xv X (X.row g new) g:=PZ;refine⟨by simpa [State.kh] using hr.size,by simpa [State.kh] using hr.pW,λj l v hl hv=> ?_,λid B hb=> ?_,λj l id t p hl hm=> ?_,hr.defers,λj l id c b k hl hm=> ?_,hr.km.Av (by rw[how];exact λe=>e) (λb hb=>setRow_other X.w g b _ hb) rfl⟩
 ·simp only[State.kh,aP] at hl;obtain⟨l0,h0,rfl⟩:=ax.1 hl;unfold hold;cases kR:l0.all (SV.kh s.bs) with
  |false=>trivial
  |true=>
   rw[cond_true];rw[az] at h0;by_cases hxj:x=j
   ·subst hxj;rw[if_pos rfl] at h0;split at h0
    ·cases h0;trivial
    ·cases h0
   ·rw[if_neg hxj] at h0;exact(hr.gC j l0 v h0 hv).ru λk sv u hk hu=>hu.kh hB (λp n e=>by rw[how] at e;injection e with e _;injection e with e _;exact hxj e) (aR.1 kR sv (aL hk))
 ·obtain⟨h1,h2⟩:=adO hb;obtain⟨r,k1,k2⟩:=hr.boxes id B h1;unfold fp.kh at h2;rw[ap] at h2;have nm:B.t.fG=false:=by simpa using h2.1
  obtain⟨cs,T,cJ,de,xD,gD⟩:=k2.cells nm;have fS:r≠g:=λe=>by rw[e,how] at xD;cases xD
  have oP:∀p n,X.ow g≠ .row (.b id p) n:=λp n e=>by rw[how] at e;injection e with e _;cases e
  exact⟨r,k1,by rw[hB.ow];exact xD,mA.of nm ((hB.heap r fS).trans cJ) (de.kh hB oP h2.2 gD) (gD.Av hB oP)⟩
 ·simp only[State.kh,aP] at hl;obtain⟨l0,h0,rfl⟩:=ax.1 hl;unfold hold at hm;cases kR:l0.all (SV.kh s.bs) with
  |false=>rw[kR] at hm;simp at hm
  |true=>
   rw[kR,cond_true] at hm;have h1:=aR.1 kR _ hm;unfold SV.kh at h1;simp only at h1;split at h1
   case h_2=>cases h1
   rename_i B hB;have hb:=yV (s:=s) hB;exact⟨B,by simp only[State.kh,aP,hb,dP,zsl,h1,cond_true]⟩
 ·exfalso;simp only[State.kh,aP] at hl;obtain⟨l0,h0,rfl⟩:=ax.1 hl;unfold hold at hm;cases kR:l0.all (SV.kh s.bs) with
  |false=>rw[kR] at hm;simp at hm
  |true=>rw[kR,cond_true] at hm;have:=aR.1 kR _ hm;cases this
theorem zs5{α:Type}:∀{l r:List α} {x y:α},Yy l=some (r,x,y)->l=r++ [x,y]
 | [],_,_,_,h=>by cases h
 | [_],_,_,_,h=>by cases h
 | [a,b],_,_,_,h=>by cases h;rfl
 |a::b::c::r,_,_,_,h=>by
  simp only[Yy] at h;split at h
  case h_2=>cases h
  rename_i l x y hl;cases h;have:=zs5 (l:=b::c::r) hl;rw[this];rfl
theorem zom(hE:bO P E){C:bH}(hC:C.Nat)(hf:∀f,ly P tq C f){ops:Array Oper}{s':State}{Q:Exit->Act->World->Prop}{rest:List Nat}:∀(l:List Nat) (X:cc) (s:State) (a:Act),Rel tq X s a->(∀i∈l,i<ops.size)->
 steps E (C State) ops.toList (l.map λi=>ops.getD i default) s some=some s'->(∀Y a',Ext X Y->Rel tq Y s' a'->wpOps P ops Q rest a' Y.w)->wpOps P ops Q (l++rest) a X.w
 | [],X,s,a,hr,_,h,hQ=>by cases h;exact hQ X a (Ext.refl X) hr
 |i::r,X,s,a,hr,hl,h,hQ=>by
  simp only[bd,steps] at h;obtain⟨s1,h1,h2⟩:=sI (zol hC (F:=λs=>steps E (C State) ops.toList (r.map λi=>ops.getD i default) s some) (G:=some) (K:=λs=>steps E (C State) ops.toList (r.map λi=>ops.getD i default) s some) (λ_=>rfl)) h;have hi:ops[i]? =some (ops.getD i default):=by have:=hl i (by simp);simp [this]
  rw[List.cons_append,wpOps_cons];refine YD hE hr hC hf hi h1 λY a' dO fb=> ?_;exact zom hE hC hf r Y s1 a' fb (λj hj=>hl j (aE _ hj)) h2 λZ a2 iu lB=>hQ Z a2 (dO.trans iu) lB
theorem ajx(hE:bO P E){X0:cc}(hF:∀g pl n,X0.ow g≠ .row pl n)(hx:Ext X0 X)(hr:Rel tq X s a){ops:Array Oper}{k l:Nat}{oA oS:Oper}(hA:ops[k]? =some oA)(hS:ops[l]? =some oS){s':State}(h:rR E oA oS s some=some s'){Q:Exit->Act->World->Prop}(hQ:∀Y a',Ext X0 Y->Rel tq Y s' a'->Q .normal a' Y.w):wpOps P ops Q [k,l] a X.w:=by
 unfold rR at h;split at h
 case h_2=>cases h
 rename_i T x i T' d vo hoA hoS;cases pk:(isDst oA d&&(!(ak x d)&&uv oS)) with
 |false=>rw[pk] at h;cases h
 |true=>
 rw[pk,cond_true] at h;rw[ap,ap] at pk;obtain⟨hd,hxd,ui⟩:=pk;have ui:oS.dst=none/\oS.guard=none:=by
  unfold uv at ui;split at ui
  ·exact⟨by assumption,by assumption⟩
  ·cases ui
 have hxd:x≠d:=λe=>by rw[e] at hxd;simp at hxd
 unfold CG at h;split at h
 case h_2=>cases h
 rename_i e t xs own Og;cases hb:pU own [] with
 |false=>rw[hb] at h;cases h
 |true=>
 rw[hb,cond_true] at h;split at h
 case h_2=>cases h
 rename_i u w hT C1;cases hu:(u.iS (.sl e t)&&(w.iS t&&bn (d+1) s.sl.length)) with
 |false=>rw[hu] at h;cases h
 |true=>
 rw[hu,cond_true] at h;rw[ap,ap] at hu;have:=Ty.cT hu.1;subst this;have:=Ty.cT hu.2.1;subst this;have hds:d<a.tmps.size:=by rw[<-hr.size];exact ci hu.2.2
 obtain⟨n,kk,h,hn⟩:=zob h;obtain⟨y,h,hy⟩:=zz h;obtain⟨h0,h1,h⟩:=C7 h;cases h;have hi:n.toNat<xs.length:=by omega
 obtain⟨g,c,cur,hR⟩:=OH hr Og hb hi;have lR:=hn X _ _ (hr.cP i);have hU:=hE.ty T _ hT;have ev:a.eval (.tmp x)= .slice (some ⟨g,0,none⟩) xs.length c:=hR.val;have Cr:(execOp a.eval oA).run P X.w= .ok (.value (.pointer (some ⟨g,n.toNat*w.cells,none⟩))) X.w:=by have bR:n<(xs.length:Int):=h1;simp only[execOp,hoA,ay,Instr.indexAt,lR,ev,asIntOf,aG,aj,run_underlying hU.me.1,Sem.run_ite,h0,bR,and_self,if_true,uE hE hU.me.2];simp [q7]
 refine raw hA hd Cr ?_;have mP:Rel tq X (s.b7 (some d) [.undef]) (a.put (some d) (.pointer (some ⟨g,n.toNat*w.cells,none⟩))):=hr.put (λ_ _=>trivial) (λid t p hm=>by simp at hm);have evd:(a.put (some d) (.pointer (some ⟨g,n.toNat*w.cells,none⟩))).eval (.tmp d)= .pointer (some ⟨g,n.toNat*w.cells,none⟩):=by show(a.put (some d) _).tmps.getD d aW=_;rw[xb hds,if_pos rfl]
 generalize a.put (some d) (.pointer (some ⟨g,n.toNat*w.cells,none⟩))=a1 at mP evd⊢;obtain⟨cs,uB,evy⟩:=hy X _ _ (mP.cP vo);have hle:(n.toNat+1)*w.cells<=c*w.cells:=bB _ (by have:=hR.le;omega);rw[bL,ct] at hle;have gy:=K6 (P:=P) hE C1 uB (r:=g) (off:=n.toNat*w.cells) (w:=X.w) hR.heap (by rw[hR.size];exact hle);rw[wpOps_cons];unfold wpOp;simp only[hS];have hw:cA oS (yielded ops a1.tmps)=true:=by simp [cA,ui.2]
 rw[if_pos hw];refine .inl ?_;unfold gT;generalize qq:(cur.toList.take (n.toNat*w.cells)++cs++cur.toList.drop (n.toNat*w.cells+cs.length)).toArray=new at gy;have dK:(execOp a1.eval oS).run P X.w= .ok .skip (X.row g new).w:=by simp only[execOp,hoS,ay,eV,evd,Instr.sureAddr,aG,aj,evy,gy];rfl
 rw[dK,jF,ui.1];exact hQ _ a1 (ajE hF hx hR.ow) (agI mP hR.ow)
theorem ags(hE:bO P E){C:bH}(hC:C.Nat)(hf:∀f,ly P tq C f){X0:cc}(hF:∀g pl n,X0.ow g≠ .row pl n)(hx:Ext X0 X)(hr:Rel tq X s a){id:Nat}{ops:Array Oper}{s':State}(h:uy E (C State) ops.toList s some=some s'){Q:Exit->Act->World->Prop}(hQ:∀Y a',Ext X0 Y->Rel tq Y s' a'->Q .normal a' Y.w):(iD id ops false).wp P Q a X.w:=by
 unfold uy at h;split at h
 case h_2=>cases h
 rename_i l oA oS hl;obtain⟨s1,h1,h2⟩:=sI (JZ hC (F:=λs=>rR E oA oS s some) (G:=some) (K:=λs=>rR E oA oS s some) (λ_=>rfl) l s) h;have qs:=zs5 hl;have hM:ops.size=l.length+2:=by rw[<-ff,qs];simp
 refine wp_region ?_;have s7:cY ops.size=cY l.length++ [l.length,l.length+1]:=by rw[hM,fE,fE,aQ];rfl
 rw[s7];have hA:ops[l.length]? =some oA:=by rw[<-bz,qs,bc (aZ _),Nat.sub_self];rfl
 have hS:ops[l.length+1]? =some oS:=by rw[<-bz,qs,bc (by omega),cp];rfl
 have tN:(cY l.length).map (λi=>ops.getD i default)=l:=by
  apply bZ;intro i;rw[aP];by_cases hi:i<l.length
  ·have h3:ops[i]? =l[i]? :=by rw[<-bz,qs,bj hi]
   have h4:i<ops.size:=by omega
   rw[jt hi,<-h3];simp [h4]
  ·rw[aS (by simpa using hi),aS (by omega)];rfl
 refine zom hE hC hf (cY l.length) X s a hr (λi hi=>by have:=bX.1 hi;omega) (by rw[tN];exact h1) λY a' dO fb=> ?_;exact ajx hE hF (hx.trans dO) fb hA hS h2 hQ
end Go.Ref

namespace Go.Ref
open Go
variable {P:Program} {tq:oK} {E:Env} {X:cc} {s:State} {a:Act}
theorem abF{ops:Array Oper}{Q:Exit->Act->World->Prop}{i d:Nat}{rest:List Nat}{a:Act}{w w':World}{o:Oper}{v:Value}(hi:ops[i]? =some o)(hd:isDst o d=true)(dK:(execOp a.eval o).run P w= .ok (.value v) w')(K:wpOps P ops Q rest (a.put (some d) v) w'):wpOps P ops Q (i::rest) a w:=by
 have ui:o.dst=some d/\o.guard=none:=by
  unfold isDst at hd;split at hd
  ·rename_i d' h1 h2;exact⟨by rw[h1,aH hd],h2⟩
  ·cases hd
 rw[wpOps_cons];unfold wpOp;simp only[hi];have hw:cA o (yielded ops a.tmps)=true:=by simp [cA,ui.2]
 rw[if_pos hw];refine .inl ?_;unfold gT;rw[dK,jn,ui.1];exact K
theorem zh6{α:Type}:∀{l r:List α} {x y z:α},VD l=some (r,x,y,z)->l=r++ [x,y,z]
 | [],_,_,_,_,h=>by cases h
 | [_],_,_,_,_,h=>by cases h
 | [_,_],_,_,_,_,h=>by cases h
 | [a,b,c],_,_,_,_,h=>by cases h;rfl
 |a::b::c::d::r,_,_,_,_,h=>by
  simp only[VD] at h;split at h
  case h_2=>cases h
  rename_i l x y z hl;cases h;have:=zh6 (l:=b::c::d::r) hl;rw[this];rfl
theorem Rel.kill(hr:Rel tq X s a)(d:Nat):Rel tq X (s.b7 (some d) [.undef]) a:=by
 have nr:∀(i:Nat) (l:List SV),(s.b7 (some d) [.undef]).sl[i]? =some l->l=[.undef]\/s.sl[i]? =some l:=λi l hi=>by
  simp only[State.b7,az] at hi;split at hi
  ·split at hi
   ·cases hi;exact .inl rfl
   ·cases hi
  ·exact .inr hi
 refine⟨by simpa [State.b7] using hr.size,by simpa [State.b7] using hr.pW,λi l v hi hv=> ?_,hr.boxes,λi l id t p hi hm=> ?_,hr.defers,hr.fc.less (λi l id c b j hi hm=> ?_) (λid c b x own _ hb ho=>⟨x,own,hb,ho⟩),hr.km⟩
 ·rcases nr i l hi with rfl|hi
  ·trivial
  ·exact hr.gC i l v hi hv
 ·rcases nr i l hi with rfl|hi
  ·simp at hm
  ·exact hr.live i l id t p hi hm
 ·rcases nr i l hi with rfl|hi
  ·simp at hm
  ·exact⟨l,hi,hm,λh=>h⟩
theorem aaP{P:Program}{fs:Array Field}(h:∀f∈fs.toList,∃i,P.info? f.type=some i):∃places,fs.toList.mapM (λ(f:Field)=>(P.info? f.type).map λi=>(f.offset,i.size))=some places/\∀(j:Nat) (f:Field) i,fs.toList[j]? =some f->P.info? f.type=some i->places[j]? =some (f.offset,i.size):=by
 generalize fs.toList=l at h
 induction l with
 |nil=>exact⟨[],rfl,λj f i hj=>by simp at hj⟩
 |cons f r ih=>
  obtain⟨i,hi⟩:=h f (by simp);obtain⟨places,h1,h2⟩:=ih λf hf=>h f (aE _ hf);refine⟨(f.offset,i.size)::places,by simp [List.mapM_cons,hi,h1],λj g k hj hg=> ?_⟩;cases j with
  |zero=>simp only[bU,aC] at hj;subst hj;rw[hi] at hg;cases hg;rfl
  |succ j=>exact h2 j g k (by simpa using hj) hg
theorem afs(hE:bO P E){T:TypeId}{ta tb:Ty}(hT:E.gr T=some (ta,tb)){y:El ta}{cs:List Value}(hr:eI X ta y cs)(w:World):(Instr.build T #[(0,mW ta cs)]).run P w= .ok (.agg (cs++ [Value.pointer none,Value.pointer none,Value.int .i64 0]).toArray) w:=by obtain⟨fs,f0,hu,hf0,EF,ht0,kR⟩:=hE.g3 T ta tb hT;obtain⟨i,hi,hz⟩:=hE.gz T ta tb hT;obtain⟨places,N4,hp2⟩:=aaP (P:=P) (fs:=fs) kR;obtain⟨i0,Ir,n5,_⟩:=(hE.ty _ _ ht0).info;have oP:places[0]? =some (f0.offset,i0.size):=hp2 0 f0 i0 (by rw[bz];exact hf0) Ir;have hmc:=Da hr;have oj:=hr.len;have On:=CQ ta;refine run_build w T _ _ ?_;unfold Program.built;simp only[hi,hu,hz,N4];have Om:(Value.agg (zo ta++ [Value.pointer none,Value.pointer none,Value.int .i64 0]).toArray).cells=(zo ta++ [Value.pointer none,Value.pointer none,Value.int .i64 0]).toArray:=rfl;simp only[Om,Instr.fill,kO,oP,EF,n5,hmc];rw[if_neg (by simp;omega)];have uk:=zo8 0 cs (zo ta++ [Value.pointer none,Value.pointer none,Value.int .i64 0]).toArray (by simp;omega);congr 1;apply iJ.1;rw[uk];simp only[List.take_zero,List.nil_append,bK];rw[oj,<-On,List.drop_left]
theorem alR(hE:bO P E){X0:cc}(hx:Ext X0 X)(hr:Rel tq X s a){ops:Array Oper}{k:Nat}{oB oX oA:Oper}(hB:ops[k]? =some oB)(hX:ops[k+1]? =some oX)(hA:ops[k+2]? =some oA){s':State}(h:Aq E oB oX oA s some=some s'){Q:Exit->Act->World->Prop}(hQ:∀Y a',Ext X0 Y->Rel tq Y s' a'->Q .normal a' Y.w):wpOps P ops Q [k,k+1,k+2] a X.w:=by
 unfold Aq at h;split at h
 case h_2=>cases h
 rename_i T parts T' e1 e2 hoB hoX hoA;split at h
 case h_2=>cases h
 rename_i d1 d2 d3 Ii wT hd3;cases pk:(ak T T'&&(ak d1 e1&&(ak d2 e2&&(isDst oB d1&&(isDst oX d2&&(isDst oA d3&&(bn (d1+1) s.sl.length&&bn (d2+1) s.sl.length))))))) with
 |false=>rw[pk] at h;cases h
 |true=>
 rw[pk,cond_true] at h;simp only[ap] at pk;obtain⟨hTT,Ew,Ey,hB1,hX1,hA1,ID,GR⟩:=pk;have hTT:=aH hTT;have Ew:=aH Ew;have Ey:=aH Ey;subst hTT Ew Ey;split at h
 case h_2=>cases h
 rename_i x ta tb xF Io;obtain⟨y,h,hy⟩:=zz h;split at h
 case h_2=>cases h
 rename_i rI;cases h;have xF:parts= #[(0,x)]:=by rw[<-bW (xs:=parts),xF]
 subst xF;obtain⟨cs,uB,evx⟩:=hy X _ _ (hr.cP x);have aaH:d1<a.tmps.size:=by rw[<-hr.size];exact ci ID
 have EK:d2<a.tmps.size:=by rw[<-hr.size];exact ci GR
 have Ob:(execOp a.eval oB).run P X.w= .ok (.value (.agg (cs++ [Value.pointer none,Value.pointer none,Value.int .i64 0]).toArray)) X.w:=by
  have:=afs (X:=X) hE Io uB X.w;simp only[execOp,hoB,ay];have e:(#[((0:Nat),x)].map λ(i,x)=>(i,a.eval x))= #[(0,mW ta cs)]:=by simp [evx]
  rw[e,this];rfl
 refine raw hB hB1 Ob ?_;have mP:Rel tq X (s.b7 (some d1) [.undef]) (a.put (some d1) (.agg (cs++ [Value.pointer none,Value.pointer none,Value.int .i64 0]).toArray)):=hr.put (λ_ _=>trivial) (λid t p hm=>by simp at hm);have UD:(a.put (some d1) (.agg (cs++ [Value.pointer none,Value.pointer none,Value.int .i64 0]).toArray)).eval (.tmp d1)= .agg (cs++ [Value.pointer none,Value.pointer none,Value.int .i64 0]).toArray:=by show(a.put (some d1) _).tmps.getD d1 aW=_;rw[xb aaH,if_pos rfl]
 have UX:(a.put (some d1) (.agg (cs++ [Value.pointer none,Value.pointer none,Value.int .i64 0]).toArray)).tmps.size=a.tmps.size:=AB;generalize a.put (some d1) (.agg (cs++ [Value.pointer none,Value.pointer none,Value.int .i64 0]).toArray)=a1 at mP UD UX⊢;let β:Nat->ae Nat:=λid=>if id=d2+1 then some X.w.heap.size else X.β id;have NA:(s.b7 (some d1) [.undef]).bs[d2+1]? =some none:=rI;have bR:d2+1<s.bs.length:=(aA.1 rI).1;have hk:nO (s.b7 (some d1) [.undef]) X (X.new (cs++ [Value.pointer none,Value.pointer none,Value.int .i64 0]).toArray T (.box (d2+1)) β):=SY X _ _ _ _ _ (by show(if _ then _ else _)=_;rw[if_neg (by omega)]) (λid B hB=>by show(if id=d2+1 then _ else _)=_;rw[if_neg (λe=>by rw[e,NA] at hB;cases hB)])
 obtain⟨n1,n2⟩:=SP X (cs++ [Value.pointer none,Value.pointer none,Value.int .i64 0]).toArray T (.box (d2+1)) β;have Od:(execOp a1.eval oX).run P X.w= .ok (.value (.pointer (some ⟨X.w.heap.size,0,none⟩))) (X.new (cs++ [Value.pointer none,Value.pointer none,Value.int .i64 0]).toArray T (.box (d2+1)) β).w:=by simp only[execOp,hoX,ay,Instr.box,UD,SI,aj,aG];rfl
 refine abF hX hX1 Od ?_;have fP:fq (X.new (cs++ [Value.pointer none,Value.pointer none,Value.int .i64 0]).toArray T (.box (d2+1)) β) (d2+1) X.w.heap.size ⟨.dJ .lh ta tb,(y,(none,none),(0:Int)),[]::tV⟩:=
  ⟨n2,⟨_,n1⟩,λ_=>⟨cs,.pointer none,.pointer none,T,n1,uB.bE (λ_ _=>hk.cn),rfl,rfl⟩⟩
 have hβd:β (d2+1)=some X.w.heap.size:=by show(if d2+1=d2+1 then _ else _)=_;rw[if_pos rfl]
 have nQ:=((mP.lV hk).oq (d:=d2+1) bR NA hβd fP).dead d2 (.pointer (some ⟨X.w.heap.size,0,none⟩));have ev2:(a1.put (some d2) (.pointer (some ⟨X.w.heap.size,0,none⟩))).eval (.tmp d2)= .pointer (some ⟨X.w.heap.size,0,none⟩):=by show(a1.put (some d2) _).tmps.getD d2 aW=_;rw[xb (show d2<a1.tmps.size by rw[UX];exact EK),if_pos rfl]
 generalize a1.put (some d2) (.pointer (some ⟨X.w.heap.size,0,none⟩))=a2 at nQ ev2⊢;have Cr:(execOp a2.eval oA).run P (X.new (cs++ [Value.pointer none,Value.pointer none,Value.int .i64 0]).toArray T (.box (d2+1)) β).w= .ok (.value (.pointer (some ⟨X.w.heap.size,0,none⟩))) (X.new (cs++ [Value.pointer none,Value.pointer none,Value.int .i64 0]).toArray T (.box (d2+1)) β).w:=by simp only[execOp,hoA,ay,ev2,aG,aj]
 refine raw hA hA1 Cr ?_;refine hQ (X.new _ T (.box (d2+1)) β) _ (hx.trans hk.ext) (nQ.put (λd' e=> ?_) λid t p hm=> ?_)
 ·exact⟨X.w.heap.size,hβd,rfl,trivial⟩
 ·have:id=d2+1:=by have:=hm;simp at this;exact this.1
  subst this;exact⟨⟨.dJ .lh ta tb,(y,(none,none),(0:Int)),[]::tV⟩,by simp [State.cG,State.b7,Ref.dead,az,bR]⟩
theorem ajj(hE:bO P E){C:bH}(hC:C.Nat)(hf:∀f,ly P tq C f){X0:cc}(hx:Ext X0 X)(hr:Rel tq X s a){id:Nat}{ops:Array Oper}{s':State}(h:KZ E (C State) ops.toList s some=some s'){Q:Exit->Act->World->Prop}(hQ:∀Y a',Ext X0 Y->Rel tq Y s' a'->Q .normal a' Y.w):(iD id ops false).wp P Q a X.w:=by
 unfold KZ at h;split at h
 case h_2=>cases h
 rename_i l oB oX oA hl;obtain⟨s1,h1,h2⟩:=sI (JZ hC (F:=λs=>Aq E oB oX oA s some) (G:=some) (K:=λs=>Aq E oB oX oA s some) (λ_=>rfl) l s) h;have qs:=zh6 hl;have hM:ops.size=l.length+3:=by rw[<-ff,qs];simp
 refine wp_region ?_;have s7:cY ops.size=cY l.length++ [l.length,l.length+1,l.length+2]:=by rw[hM,fE,fE,fE,aQ,aQ];rfl
 rw[s7];have jH:∀j,ops[l.length+j]? =[oB,oX,oA][j]? :=λj=>by rw[<-bz,qs,bc (by omega),cp]
 have tN:(cY l.length).map (λi=>ops.getD i default)=l:=by
  apply bZ;intro i;rw[aP];by_cases hi:i<l.length
  ·have h3:ops[i]? =l[i]? :=by rw[<-bz,qs,bj hi]
   have h4:i<ops.size:=by omega
   rw[jt hi,<-h3];simp [h4]
  ·rw[aS (by simpa using hi),aS (by omega)];rfl
 refine zom hE hC hf (cY l.length) X s a hr (λi hi=>by have:=bX.1 hi;omega) (by rw[tN];exact h1) λY a' dO fb=> ?_;exact alR hE (hx.trans dO) fb (jH 0) (jH 1) (jH 2) h2 hQ
theorem Pm{Y:cc}{id:Nat}{pl:Nat->List Nat->Place}{l:List SV}{v:Value}(hr:kC Y pl l v):kC Y pl (uQ id l) v:=by
 have key:∀(sv:SV) (q:List Nat->Place) (w:Value),cw Y q sv w->cw Y q (match sv with
  | .ptr j _ _=>bif ak j id then .undef else sv
  |v=>v) w:=by
  intro sv q w h;cases sv with
  |ptr j t p=>
   simp only;cases ak j id with
   |true=>trivial
   |false=>exact h
  |_=>exact h
 match l,hr with
 | [sv],hr=>exact key sv _ _ hr
 | [],hr=>exact hr
 |x::y::r,⟨vs,h1,h2,h3⟩=>refine⟨vs,h1,by simpa [uQ] using h2,λj s u hs hu=> ?_⟩;have hs:(uQ id (x::y::r))[j]? =some s:=hs;unfold uQ at hs;rw[aP] at hs;obtain⟨s0,n5,rfl⟩:=ax.1 hs;exact key s0 _ _ (h3 j s0 u n5 hu)
theorem QY{id:Nat}{l:List SV}{j:Nat}{t:Ty}{p:List Nat}(h:SV.ptr j t p∈uQ id l):SV.ptr j t p∈l/\j≠id:=by
 unfold uQ at h;obtain⟨s0,n5,he⟩:=bm.1 h;cases s0 with
 |ptr j' t' p'=>
  simp only at he;cases hb:ak j' id with
  |true=>rw[hb] at he;cases he
  |false=>rw[hb] at he;cases he;exact⟨n5,λe=>il hb e⟩
 |_=>simp only at he;cases he
theorem zx1{id:Nat}{l:List SV}{i j:Nat}{a b:Ty}(h:SV.fc i a b j∈uQ id l):SV.fc i a b j∈l/\(l=[.fc i a b j]->uQ id l=[.fc i a b j]):=by
 refine⟨?_,λe=>by rw[e];rfl⟩;unfold uQ at h;obtain⟨s0,n5,he⟩:=bm.1 h;cases s0 with
 |ptr j' t' p'=>simp only at he;cases hb:ak j' id<;>rw[hb] at he<;>cases he
 |_=>simp only at he;first|(cases he;done)|(rw[<-he];exact n5)
def Fy(id m j g:Nat)(X:cc)(q:Nat):Ow:=
 if q=g then .row (.b id [j]) 0 else match X.ow q with
  | .row (.b m' p) n=>if m'=m then .row (.b id (j::p)) n else .row (.b m' p) n
  |w=>w
theorem acF{id m j g q i:Nat}(hg:∃b,X.ow g= .box b):(Fy id m j g X q).used i↔(X.ow q).used i:=by
 unfold Fy;split
 ·rename_i e;obtain⟨b,hb⟩:=hg;rw[e,hb];simp [Ow.used]
 ·cases hq:X.ow q with
  |row pl n=>
   cases pl with
   |b m' p=>simp only;split<;>rfl
   |_=>rfl
  |_=>rfl
theorem acE{id m j g q:Nat}(fS:q≠g)(h:∀p n,X.ow q≠ .row (.b m p) n):Fy id m j g X q=X.ow q:=by
 unfold Fy;rw[if_neg fS];cases hq:X.ow q with
 |row pl n=>
  cases pl with
  |b m' p=>simp only;rw[if_neg (λe=>h p n (by rw[hq,e]))]
  |_=>rfl
 |_=>rfl
theorem adQ{T:TypeId}(hE:bO P E)(tC:E.pt T=true){r off:Nat}{cur:Array Value}{T':TypeId}{w:World}{v:Value}(hv:v.cells= #[v])(ho:v.oneCell'=true)(hg:w.heap[r]? =some (.cells cur T' (0,0)))(hf:off+1<=cur.size):
 (storeVar T ⟨r,off,none⟩ v).run P w= .ok () (w.setRow r (cur.toList.take off++ [v]++cur.toList.drop (off+1)).toArray):=by
 obtain⟨i,hi,hs⟩:=hE.p1 T tC;have gy:=run_storeCells_at P r off T' [v] 0 cur w hg (by simpa using hf) (λu hu=>by
  have:u=v:=by simpa using hu
  rw[this];exact ho)
 simp only[fj] at gy;have po:(sizeOf T).run P w= .ok 1 w:=by simp [sizeOf,typeInfo,hi,hs]
 unfold storeVar;simp only[ay,po,aj,hv];rw[if_neg (by simp)];exact gy
theorem ajI{c:List Value}{p0 p1 n v:Value}{k j:Nat}(hk:c.length=k)(hj:j<2):(c++ [p0,p1,n]).take (k+j)++ [v]++(c++ [p0,p1,n]).drop (k+j+1)=c++ [if j=0 then v else p0,if j=1 then v else p1,n]:=by
 subst hk
 match j,hj with
 |0,_=>simp
 |1,_=>rw[List.take_append,List.drop_append];simp [bV];rw[List.drop_eq_nil_of_le (by omega),show c.length+1+1-c.length=2 by omega];rfl
theorem ajc(hE:bO P E)(hr:Rel tq X s a){oS:Oper}{s':State}(h:tf E oS s some=some s'):(oS.dst=none/\oS.guard=none)/\(∀i,s.slot i=[.undef]->s'.slot i=[.undef])/\∃Z,(execOp a.eval oS).run P X.w= .ok .skip Z.w/\Ext X Z/\Rel tq Z s' a:=by
 unfold tf at h;split at h
 case h_2=>cases h
 rename_i T tx ty ho;cases wV:uv oS with
 |false=>rw[wV] at h;cases h
 |true=>
 rw[wV,cond_true] at h;have ui:oS.dst=none/\oS.guard=none:=by
  unfold uv at wV;split at wV
  ·exact⟨by assumption,by assumption⟩
  ·cases wV
 refine⟨ui,?_⟩;split at h
 case isFalse=>cases h
 rename_i tC;split at h
 case h_2=>cases h
 rename_i id ta tb j Og;have hx:=hr.slot tx;rw[Og] at hx;obtain⟨rr,hβ,hv,hj⟩:cw X (.c tx 0) (.ptr id (.dJ .lh ta tb) [1,j]) (a.tmps.getD tx aW):=hx;have hv:a.tmps.getD tx aW= .pointer (some ⟨rr,ta.cells+j,none⟩):=hv;have hj:j<2:=hj;have evx:a.eval (.tmp tx)= .pointer (some ⟨rr,ta.cells+j,none⟩):=hv;obtain⟨z,own,r1,hb,h,gD,h1,how,c,p0,p1,T',cJ,de,AQ,AR⟩:=Kf hr h;rw[hβ] at h1;cases h1;cases qo:pU own [] with
 |false=>rw[qo] at h;cases h
 |true=>
 rw[qo,cond_true] at h;have qo:=Hk qo;have oj:=de.len;have lQ:ta.cells+j+1<=(c++ [p0,p1,Value.int .i64 z.2.2]).toArray.size:=by simp;omega
 have dK:∀v,v.cells= #[v]->v.oneCell'=true->a.eval (.tmp ty)=v->(execOp a.eval oS).run P X.w= .ok .skip (X.row rr (c++ [if j=0 then v else p0,if j=1 then v else p1,Value.int .i64 z.2.2]).toArray).w:=λv h1 h2 h3=>by have gy:=adQ (P:=P) hE tC h1 h2 cJ lQ;rw[ajI oj hj] at gy;simp only[execOp,ho,ay,eV,evx,Instr.sureAddr,aG,aj,h3,gy];rfl
 split at h
 case h_3=>cases h
 case h_2=>
  rename_i KW;cases h;have hy:=hr.slot ty;rw[KW] at hy;have hy:a.tmps.getD ty aW= .pointer none:=hy;have dK:=dK (.pointer none) rfl rfl hy;generalize qq:(c++ [if j=0 then Value.pointer none else p0,if j=1 then Value.pointer none else p1,Value.int .i64 z.2.2]).toArray=new at dK;refine⟨λi hi=>hi,X.row rr new,dK,HC how,hr.row hb hβ how ⟨how,⟨_,setRow_heap X.w rr _ _ T' (0,0) cJ⟩,λ_=> ?_⟩ (.inr qo)⟩;have hg:∀k,∀{m:ae (El tb)} {v:Value},mC X (λp=> .b id (k::p)) tb m v->mC (X.row rr new) (λp=> .b id (k::p)) tb m v:=λk m v hm=>hm.move (λ_ _=>vv how) λp _ q o n hq hw=>by
   have fS:q≠rr:=λe=>by rw[e,how] at hw;cases hw
   exact⟨(setRow_other X.w rr q _ fS).trans hq,hw⟩
  refine⟨c,if j=0 then Value.pointer none else p0,if j=1 then Value.pointer none else p1,T',?_,de.bE (λ_ _=>vv how),?_,?_⟩
  ·rw[qq];exact setRow_heap X.w rr _ _ T' (0,0) cJ
  ·match j,hj with
   |0,_=>rfl
   |1,_=>exact hg 0 AQ
  ·match j,hj with
   |0,_=>exact hg 1 AR
   |1,_=>rfl
 rename_i m tb' KW;split at h
 case h_2=>cases h
 rename_i B hB;split at h
 case isFalse=>cases h
 rename_i l8;cases pk:(tb'.iS tb&&(!tb.fG&&(pU B.own [2]&& !(ak id m)))) with
 |false=>rw[pk] at h;cases h
 |true=>
 rw[pk,cond_true] at h;cases h;simp only[ap,Bool.not_eq_true'] at pk;obtain⟨ht,nm,NV,KQ⟩:=pk;have:=Ty.cT ht;subst this;have KQ:id≠m:=λe=>by rw[e] at KQ;simp at KQ
 have hbm:=yV hB;obtain⟨g,hβm,B8⟩:=hr.boxes m B hbm;obtain⟨bt,bx,bo⟩:=B;have e:=Ty.cT l8;simp only at e;subst e;obtain⟨csg,Tg,hhg,hrg,um,hwg⟩:=B8.cells nm;have hy:=hr.slot ty;rw[KW] at hy;obtain⟨g',hβ',hvy⟩:cw X (.c ty 0) (.ptr m bt []) (a.tmps.getD ty aW):=hy;rw[hβm] at hβ';cases hβ';have hvy:a.tmps.getD ty aW= .pointer (some ⟨g,0,none⟩):=by have:=((yU nm).1 hvy).1;rw[this];simp [Ty.off]
 have Io:g≠rr:=λe=>by rw[e,how] at um;injection um with um;exact KQ um
 generalize qq:(c++ [if j=0 then Value.pointer (some ⟨g,0,none⟩) else p0,if j=1 then Value.pointer (some ⟨g,0,none⟩) else p1,Value.int .i64 z.2.2]).toArray=new at*;have dK:=dK (.pointer (some ⟨g,0,none⟩)) rfl rfl hvy;rw[qq] at dK;let Z:cc:=⟨(X.row rr new).w,Fy id m j g X,X.β⟩
 have lS:∀q,q≠rr->Z.w.heap[q]? =X.w.heap[q]? :=λq hq=>setRow_other X.w rr q _ hq;have nq:∀ad v,X.cn ad v->Z.cn ad v:=λad v hs=>by
  have fS:ad.block≠rr:=λe=>by have:=hs.2.2;rw[e,how] at this;exact this
  refine⟨hs.1,?_,(acF ⟨m,um⟩).2 hs.2.2⟩;have:=hs.2.1;simp only[bT] at this⊢;rw[lS _ fS];exact this
 have rK:∀q,q≠g->(∀p n,X.ow q≠ .row (.b m p) n)->Z.ow q=X.ow q:=λq h1 h2=>acE h1 h2;have fP:∀q b,b≠m->X.ow q= .box b->Z.ow q= .box b:=λq b hb hq=>by rw[rK q (λe=>by rw[e,um] at hq;injection hq with hq;exact hb hq.symm) (λp n e=>by rw[hq] at e;cases e)];exact hq
 have IC:∀q pl n,X.ow q= .row pl n->(∀p,pl≠ .b m p)->Z.ow q= .row pl n:=λq pl n hq hp=>by rw[rK q (λe=>by rw[e,um] at hq;cases hq) (λp n' e=>by rw[hq] at e;injection e with e _;exact hp p e)];exact hq
 have Nv:∀{pl:Place} {e:TypeId} {k n:Nat} {v:Value},(∀p,pl≠ .b m p)->fa X pl e k n v->fa Z pl e k n v:=λhp ho=>by
  rcases ho with ho|⟨q,cap,cur,k1,k2,k3,k4,k5,k6⟩
  ·exact .inl ho
  ·exact .inr ⟨q,cap,cur,k1,(lS q (λe=>by rw[e,how] at k6;cases k6)).trans k2,k3,k4,k5,IC q _ _ k6 hp⟩
 have GK:∀k,∀{x:ae (El bt)} {v:Value},mC X (λp=> .b id (k::p)) bt x v->mC Z (λp=> .b id (k::p)) bt x v:=λk x v hm=>hm.move nq λp _ q o n hq hw=>⟨(lS q (λe=>by rw[e,how] at hw;cases hw)).trans hq,IC q _ _ hw (λp' e=>by injection e with e _;exact KQ e)⟩
 have gL:mC Z (λp=> .b id (j::p)) bt (some bx) (.pointer (some ⟨g,0,none⟩)):=by
  refine⟨g,csg,Tg,rfl,(lS g Io).trans hhg,by show Fy id m j g X g=_;simp [Fy],hrg.bE nq,λp hp=> ?_⟩;have:p=[2]:=by simpa [HH] using hp
  subst this;obtain⟨e,t',xs,v,g0,g1,g2,g3⟩:=hwg [2] (Hk NV);refine⟨e,t',xs,v,g0,g1,g2,?_⟩;rcases g3 with g3|⟨q,cap,cur,k1,k2,k3,k4,k5,k6⟩
  ·exact .inl g3
  ·refine .inr ⟨q,cap,cur,k1,(lS q (λe=>by rw[e,how] at k6;cases k6)).trans k2,k3,k4,k5,?_⟩;show Fy id m j g X q=_;unfold Fy;rw[if_neg (λe=>by rw[e,um] at k6;cases k6),k6];simp
 have Ip:qA Z rr (.b id) ta bt (z.1,pS j (some bx) z.2.1,z.2.2):=by
  refine⟨c,if j=0 then Value.pointer (some ⟨g,0,none⟩) else p0,if j=1 then Value.pointer (some ⟨g,0,none⟩) else p1,T',?_,de.bE nq,?_,?_⟩
  ·rw[qq];exact setRow_heap X.w rr _ _ T' (0,0) cJ
  ·match j,hj,gL with
   |0,_,gL=>exact gL
   |1,_,_=>exact GK 0 AQ
  ·match j,hj,gL with
   |0,_,_=>exact GK 1 AR
   |1,_,gL=>exact gL
 have N0:=hr.xK hb (.inr qo);have N1:=hr.xK hbm (.inl (TT nm));have dO:Ext X Z:=⟨nq,by show X.w.heap.size<=(X.row rr new).w.heap.size;simp [cc.row],rfl,rfl,rfl,rfl,λq hq gy=>⟨rK q (λe=>by rw[e,um] at gy;exact gy) (λp n e=>by rw[e] at gy;exact gy),lS q (λe=>by rw[e,how] at gy;exact gy)⟩⟩
 have NK:id<s.bs.length:=(aA.1 hb).1;refine⟨λi hi=> ?_,Z,dK,dO,by simpa [wA] using hr.size,by simpa [wA] using hr.pW,λi l v hl hx=> ?_,λdX B' nw=> ?_,λi l dX t p hl hm=> ?_,hr.defers,hr.fc.less (λi l Aj c2 d2 k hl hm=> ?_) (λAj c2 d2 x2 tm hex tA ho2=> ?_),hr.km.ext dO⟩
 ·by_cases bR:i<s.sl.length
  ·have:=yX bR;rw[hi] at this;simp [wA,State.slot,this,uQ]
  ·simp [wA,State.slot,aS (Nat.le_of_not_lt bR)]
 ·replace hl:(s.sl.map (uQ m))[i]? =some l:=hl;rw[aP] at hl;obtain⟨l0,h0,rfl⟩:=ax.1 hl;refine Pm ((hr.gC i l0 v h0 hx).ru λk sv u hk hu=> ?_);cases sv with
  |undef=>trivial
  |skip=>exact hu
  |jR=>exact hu
  |nE=>exact hu
  |over=>exact hu
  |bY t x own=>obtain⟨cs,q1,q2,q3⟩:=hu;refine⟨cs,q1.bE nq,q2,λp hp=> ?_⟩;obtain⟨e,t',xs,v,g0,g1,g2,g3⟩:=q3 p hp;exact⟨e,t',xs,v,g0,g1,g2,Nv (λp' e=>by cases e) g3⟩
  |ptr dX t p=>exact hu
  |view t x=>obtain⟨ad,cs,q1,q2,q3,q4⟩:=hu;exact⟨ad,cs,q1,q2,q3.bE nq,λi u hi=>nq _ _ (q4 i u hi)⟩
  |cap f t x u y=>exact AA nq hu
  |fc dX c' d' n=>obtain⟨r',q1,q2,q3⟩:=hu;have fS:dX≠id:=λe=>N0 i l0 c' d' n h0 (e▸aL hk);have hnm:dX≠m:=λe=>N1 i l0 c' d' n h0 (e▸aL hk);refine⟨r',q1,fP r' dX hnm q2,?_⟩;simp only[bT] at q3⊢;rw[lS r' (λe=>by rw[e,how] at q2;injection q2 with q2;exact fS q2.symm)];exact q3
 ·replace nw:((s.bs.set m none).set id (some ⟨.dJ .lh ta bt,(z.1,pS j (some bx) z.2.1,z.2.2),own⟩))[dX]? =some (some B'):=nw;rw[az] at nw;by_cases e1:id=dX
  ·subst e1;rw[if_pos rfl,if_pos (by simpa using NK)] at nw;cases nw;exact⟨rr,hβ,fP rr id KQ how,⟨_,setRow_heap X.w rr _ _ T' (0,0) cJ⟩,λ_=>Ip⟩
  ·rw[if_neg e1,az] at nw;by_cases e2:m=dX
   ·rw[if_pos e2] at nw;split at nw<;>cases nw
   ·rw[if_neg e2] at nw;obtain⟨r',q1,q2,q3⟩:=hr.boxes dX B' nw;have fS:r'≠rr:=λe=>by rw[e,how] at q2;injection q2 with q2;exact e1 q2
    exact⟨r',q1,fP r' dX (λe=>e2 e.symm) q2,q3.move nq (lS r' fS) (λcs ho p hp=>by obtain⟨e,t',xs,v,g0,g1,g2,g3⟩:=ho p hp;exact⟨e,t',xs,v,g0,g1,g2,Nv (λp' e=>by injection e with e _;exact e2 e.symm) g3⟩) λp _ q o n hq hw=>⟨(lS q (λe=>by rw[e,how] at hw;cases hw)).trans hq,IC q _ _ hw (λp' e=>by injection e with e _;exact e2 e.symm)⟩⟩
 ·replace hl:(s.sl.map (uQ m))[i]? =some l:=hl;rw[aP] at hl;obtain⟨l0,h0,rfl⟩:=ax.1 hl;obtain⟨hm,fS⟩:=QY hm;obtain⟨B2,ll⟩:=hr.live i l0 dX t p h0 hm;show∃B,((s.bs.set m none).set id (some ⟨.dJ .lh ta bt,(z.1,pS j (some bx) z.2.1,z.2.2),own⟩))[dX]? =some (some B);rw[az];by_cases e1:id=dX
  ·rw[if_pos e1,if_pos (by simpa using NK)];exact⟨_,rfl⟩
  ·rw[if_neg e1,az,if_neg (λe=>fS e.symm)];exact⟨B2,ll⟩
 ·replace hl:(s.sl.map (uQ m))[i]? =some l:=hl;rw[aP] at hl;obtain⟨l0,h0,rfl⟩:=ax.1 hl;obtain⟨g1,g2⟩:=zx1 hm;exact⟨l0,h0,g1,g2⟩
 ·obtain⟨i,l,k,hl,hm⟩:=hex;replace hl:(s.sl.map (uQ m))[i]? =some l:=hl;rw[aP] at hl;obtain⟨l0,h0,rfl⟩:=ax.1 hl;obtain⟨g1,_⟩:=zx1 hm;refine⟨x2,tm,?_,ho2⟩;show((s.bs.set m none).set id (some ⟨.dJ .lh ta bt,(z.1,pS j (some bx) z.2.1,z.2.2),own⟩))[Aj]? =_;rw[az,if_neg (show¬id=Aj from λe=>N0 i l0 c2 d2 k h0 (by rw[e];exact g1)),az,if_neg (show¬m=Aj from λe=>N1 i l0 c2 d2 k h0 (by rw[e];exact g1))];exact tA
theorem zs4{α:Type}:∀{l r:List α} {x:α},Yx l=some (r,x)->l=r++ [x]
 | [],_,_,h=>by cases h
 | [a],_,_,h=>by cases h;rfl
 |a::b::r,_,_,h=>by
  simp only[Yx] at h;split at h
  case h_2=>cases h
  rename_i l x hl;cases h;have:=zs4 (l:=b::r) hl;rw[this];rfl
theorem zzo{n:Nat}{listed:Array Bool}(hs:n<=listed.size){i:Nat}{p q:List Nat}(h:rest n listed=p++i::q):rest n (listed.setIfInBounds i true)=p++q:=by
 have wV:(rest n listed).Nodup:=List.nodup_range.filter _;rw[h] at wV;rw[<-zrn wV,<-h];simp only[rest,List.filter_filter];refine jT λj hj=> ?_;have hjn:=bX.1 hj;by_cases e:j=i
 ·subst e;have:(listed.setIfInBounds j true).getD j true=true:=by
   have:j<listed.size:=by omega
   simp [bg,this]
  rw[this];simp
 ·have h1:(listed.setIfInBounds i true).getD j true=listed.getD j true:=by simp only[bg];rw[du (λh=>e h.symm)]
  have h2:ak j i=false:=by
   cases hh:ak j i with
   |false=>rfl
   |true=>exact absurd (aH hh) e
  rw[h1,h2];simp
theorem adF{n:Nat}{listed:Array Bool}{i:Nat}(h:n<=i):rest n (listed.setIfInBounds i true)=rest n listed:=by simp only[rest];refine jT λj hj=> ?_;have hjn:=bX.1 hj;simp only[bg];rw[du (by omega)]
theorem zzp{n:Nat}{listed:Array Bool}(hs:listed.size=n+1):rest (n+1) listed=rest n listed++(if listed.getD n true=true then [] else [n]):=by
 simp only[rest,fE,List.filter_append];congr 1;cases h:listed.getD n true with
 |false=>rw[if_neg (by simp)];simp only[dY,h,Bool.not_false,if_true,List.filter_nil]
 |true=>rw[if_pos rfl];simp only[dY,h,Bool.not_true,cK,if_false,List.filter_nil]
theorem zsb{ops:Array Oper}(uW:∀k,k<ops.size->bn (CW ops k+1) (bit k)=true){listed:Array Bool}(hs:listed.size=ops.size)(hr:eC .any ops listed=[]):rest ops.size listed=[]:=by
 rcases hl:rest ops.size listed with _|⟨i,r⟩
 ·rfl
 have gL:i∈rest ops.size listed:=by rw[hl];simp
 have lR:=bX.1 (bf.1 gL).1;have s8:i∈eC .any ops listed:=by
  refine PY gL λe he hb=> ?_;have bR:e.on<i:=zxx (uW i lR) (zg0 _ e he hb);cases hx:listed.getD e.on false with
  |true=>rfl
  |false=>
   exfalso;have pj:e.on<listed.size:=by omega
   have yN:listed.getD e.on true=false:=by simp only[bg,bh pj,dh] at hx⊢;exact hx
   have hm:e.on∈rest ops.size listed:=bf.2 ⟨bX.2 (by omega),by rw[yN];rfl⟩;have qN:(rest ops.size listed).Pairwise (· < ·):=List.pairwise_lt_range.filter _;rw[hl] at qN hm;rcases aD.1 hm with e1|hm
   ·omega
   ·have:=(bk.1 qN).1 _ hm;omega
 rw[hr] at s8;cases s8
theorem acx{o:Oper}{t j:Nat}(ho:o.op= .extract (.tmp t) j){vs:Array Value}(hv:a.tmps.getD t aW= .tuple vs){v:Value}(hj:vs[j]? =some v)(w:World):(execOp a.eval o).run P w= .ok (.value v) w:=by have ev:a.eval (.tmp t)= .tuple vs:=hv;simp [execOp,ho,ev,Instr.extract,hj]
structure LQ(E:Env)(C:bH)(ops:Array Oper)(n k t j d:Nat)(oS oD:Oper)(s1 s':State):Prop where
 size:ops.size=n+1
 last:ops[n]? =some oS
 Nq:ops[k]? =some oD
 kn:k<n
 ext:oD.op= .extract (.tmp t) j
 dst:isDst oD d=true
 aaN:bn (zy oS.after.toList+1) (bit n)=true
 mask:rU ops.toList n (zy oS.after.toList)|||bit k=bit n-1
 low:∀i,i<n->bn (CW ops i+1) (bit i)=true
 len:j<(s1.slot t).length
 tup:(s1.slot t).length≠1
 link:tf E oS (s1.b7 (some d) [.undef]) some=some s'
theorem agy{m n k i:Nat}(h:m|||bit k=bit n-1)(hi:i<n)(hk:i≠k):m.testBit i=true:=by
 have h1:(m|||bit k).testBit i=true:=by rw[h];simp only[bit,iR,ct];rw[Nat.testBit_two_pow_sub_one];simpa using hi
 rw[eg] at h1;have h2:(bit k).testBit i=false:=by simp only[bit,iR,ct];rw[dU];simp;omega
 rw[h2,Bool.or_false] at h1;exact h1
theorem adM(c:List (Nat×Nat)):∀(s:State) (t:Nat),((s.close c).slot t).length=(s.slot t).length:=by
 induction c with
 |nil=>intro s t;rfl
 |cons x r ih=>
  intro s t;obtain⟨i,j⟩:=x;rw[JO,ih];simp only[State.iv,State.slot,al,az];by_cases e:i=t
  ·subst e;by_cases bR:i<s.sl.length
   ·rw[if_pos rfl,if_pos bR,av bR];simp [z7t]
   ·rw[if_pos rfl,if_neg bR,aS (by omega)]
  ·rw[if_neg e]
theorem afH{s:State}{d:Nat}(h:s.slot d=[.undef]):s.b7 (some d) [.undef]=s:=by
 simp only[State.b7];have:s.sl.set d [.undef]=s.sl:=by
  apply bZ;intro i;rw[az];by_cases e:d=i
  ·subst e;by_cases bR:d<s.sl.length
   ·rw[if_pos rfl,if_pos bR,yX bR,h]
   ·rw[if_pos rfl,if_neg bR,aS (by omega)]
  ·rw[if_neg e]
 rw[this]
theorem adN(s:State)(d:Nat):(s.b7 (some d) [.undef]).slot d=[.undef]:=by
 simp only[State.slot,State.b7,al,az];by_cases bR:d<s.sl.length
 ·simp [bR]
 ·simp [bR]
theorem acw{C:bH}{ops:List Oper}{o:Oper}{t j:Nat}(ho:o.op= .extract (.tmp t) j){u:Out}(h:act E (C Out) ops o s some=some u):u.bx=none/\u.v.length=1:=by
 unfold act at h;simp only[ho] at h;split at h
 ·split at h
  ·cases h;exact⟨rfl,rfl⟩
  ·cases h
 ·split at h<;>cases h<;>exact⟨rfl,rfl⟩
theorem alP(hE:bO P E){C:bH}(hC:C.Nat)(hf:∀f,ly P tq C f){ops:Array Oper}{n k t j d:Nat}{oS oD:Oper}{s1 s':State}(H:LQ E C ops n k t j d oS oD s1 s'){Q:Exit->Act->World->Prop}:
 ∀(iT:Nat) (listed:Array Bool) (X:cc) (s:State) (a:Act) (tr:List nb),Rel tq X s a->BS ops listed->listed.size=n+1->listed.getD n true=false->iT=(rest n listed).length+1->xu E C ops (rest n listed) s tr s1->tr.Pairwise (Dj ops)->
  (∀Y a',Ext X Y->Rel tq Y s' a'->Q .normal a' Y.w)->wpAny P .any ops Q iT listed a X.w:=by
 have hgS:ops.getD n default=oS:=by have:=H.last;simp only[bg,this,dh]
 have hgD:ops.getD k default=oD:=by have:=H.Nq;simp only[bg,this,dh]
 have uW:∀i,i<ops.size->bn (CW ops i+1) (bit i)=true:=λi hi=>by
  rcases eB i n with h|h
  ·exact H.low i h
  ·have:i=n:=by have:=H.size;omega
   subst this;unfold CW;rw[hgS];exact H.aaN
 intro iT
 induction iT with
 |zero=>intro listed X s a tr hr oj hs hn wU;omega
 |succ iT ih=>
  intro listed X s a tr hr oj hs hn wU mQ C2 hQ;have hrs:rest ops.size listed=rest n listed++ [n]:=by rw[H.size,zzp hs,if_neg (by rw[hn];simp)]
  refine⟨λqL=> ?_,λi hi=> ?_⟩
  ·have:=zsb uW (by rw[hs,H.size]) qL;rw[hrs] at this;simp at this
  ·obtain⟨NU,Ae⟩:=Lf hi;have gL:=NU;rw[hrs] at gL;rcases aT.1 gL with gL|gL
   ·obtain⟨p,q,EG⟩:=P2 gL;have lR:=bX.1 (bf.1 gL).1;rw[EG] at mQ;have uY:=z145 mQ;obtain⟨tp,f,tq,u,e1,e2,k1,k2,k3⟩:=zop p s tr mQ (λtp f tq e hl a' Gr=>by
     have Cc:f.i=i:=by rw[e,cg,bd] at uY;have:=jk uY (by simp [hl]);injection this.2
     have haj:a'.i∈p:=by rw[e,cg,bd] at uY;have:=jk uY (by simp [hl]);rw[<-this.1];exact bm.2 ⟨a',Gr,rfl⟩
     rw[e] at C2;have Cd:=(cz.1 C2).2.2 a' Gr f (by simp);rcases Cd with hb|hb
     ·exfalso;rw[Cc] at hb;obtain oG:=Vk oj _ _ (λq hq=>by obtain⟨ed,Ew,Ey,NG⟩:=JN _ _ hq;have:=Ae ed Ew Ey;rw[NG] at this;exact this) a'.i hb
      have fF:a'.i∈rest n listed:=by rw[EG];exact cI _ haj
      have na:=(bf.1 fF).2;have bR:=bX.1 (bf.1 fF).1;have pj:a'.i<listed.size:=by omega
      simp only[bg,bh pj,dh] at oG na;rw[oG] at na;cases na
     ·exact hb)
    have fF:=zzo (n:=n) (by omega) EG;have hio:ops[i]? =some (ops.getD i default):=by
     have:i<ops.size:=by rw[H.size];omega
     simp [this]
    refine YD hE hr hC hf hio (zmz hC k1) λY a' dO fb=> ?_;refine ih (listed.setIfInBounds i true) Y _ a' (tp++tq) fb (P0 oj λq hq=>by obtain⟨ed,g1,g2,g3⟩:=JN _ _ hq;have:=Ae ed g1 g2;rw[g3] at this;exact this) (by simp [hs]) ?_ ?_ (by rw[fF];exact k3) ?_ (λZ a2 iu lB=>hQ Z a2 (dO.trans iu) lB)
    ·simp only[bg] at hn⊢;rw[du (by omega)];exact hn
    ·rw[fF];rw[EG] at wU;simp only[aF,aB] at wU⊢;omega
    ·rw[e1] at C2;obtain⟨a1,a2,a3⟩:=cz.1 C2;exact cz.2 ⟨a1,(bk.1 a2).2,λx hx y hy=>a3 x hx y (aE _ hy)⟩
   ·have lR:i=n:=by simpa using gL
    subst lR;have kR:∀q∈rest i listed,q=k:=λq hq=>by
     obtain⟨h1,h2⟩:=bf.1 hq;have hqn:=bX.1 h1;by_cases e:q=k
     ·exact e
     ·exfalso;have oG:=Vk oj _ _ (λq hq=>by obtain⟨ed,Ew,Ey,NG⟩:=JN _ _ hq;have:=Ae ed (by rw[hgS];exact Ew) Ey;rw[NG] at this;exact this) q (agy H.mask hqn e)
      have pj:q<listed.size:=by omega
      simp only[bg,bh pj,dh] at oG h2;rw[oG] at h2;cases h2
    have wV:(rest i listed).Nodup:=List.nodup_range.filter _;have fF:rest i listed=[]\/rest i listed=[k]:=by
     match hl:rest i listed,kR,wV with
     | [],_,_=>exact .inl rfl
     | [q],kR,_=>exact .inr (by rw[kR q (by simp)])
     |q::q'::r,kR,wV=>have h1:=kR q (by simp);have h2:=kR q' (by simp);have:=(List.nodup_cons.1 wV).1;rw[h1,h2] at this;simp at this
    have N5:Rel tq X (s1.b7 (some d) [.undef]) a/\(rest i listed=[k]->d≠t/\(s1.slot t).length=(s.slot t).length):=by
     rcases fF with fF|fF
     ·rw[fF] at mQ;obtain⟨rfl,_⟩:=mQ;exact⟨hr.kill d,λe=>by rw[fF] at e;cases e⟩
     ·rw[fF] at mQ
      match tr,mQ with
      | [],mQ=>exact mQ.elim
      |f::tr,⟨u,h1,_,h3,_⟩=>
       rw[hgD] at h1 h3;have NE:oD.dst=some d/\oD.guard=none:=by
        have:=H.dst;unfold isDst at this;split at this
        ·rename_i d' h1 h2;exact⟨by rw[h1,aH this],h2⟩
        ·cases this
       unfold nL at h1;rw[NE.2] at h1;obtain⟨hbx,hvl⟩:=acw H.ext h1;rw[NE.1] at h3;have e:s1=(s.close u.cl).b7 (some d) u.v:=by rw[<-h3];unfold State.apply;rw[hbx];rfl
       have NF:d≠t:=λe2=>by
        have h5:=H.tup;have h6:=H.len;rw[e,e2] at h5 h6;simp only[State.slot,State.b7,al,az] at h5 h6;by_cases bR:t<(s.close u.cl).sl.length
        ·simp [bR] at h5;omega
        ·simp [bR] at h5
       refine⟨?_,λ_=>⟨NF,?_⟩⟩
       ·have e3:s1.b7 (some d) [.undef]=(s.close u.cl).b7 (some d) [.undef]:=by rw[e];simp only[State.b7,mo]
        rw[e3];exact(hr.close u.cl).kill d
       ·rw[e,<-adM u.cl s t];simp only[State.slot,State.b7,al,az];rw[if_neg NF]
    obtain⟨lB,NN⟩:=N5;obtain⟨ui,aaJ,Z,dK,dO,GO⟩:=ajc hE lB H.link;have hud:=aaJ d (adN s1 d);unfold wpOp;simp only[H.last];have hw:cA oS (yielded ops a.tmps)=true:=by simp [cA,ui.2]
    rw[if_pos hw];refine .inl ?_;unfold gT;rw[dK,jF,ui.1];show wpAny P .any ops Q iT (listed.setIfInBounds i true) a Z.w;have IE:(listed.setIfInBounds i true).size=i+1:=by simpa using hs
    have oo:(listed.setIfInBounds i true).getD i true=true:=by
     have:i<listed.size:=by omega
     simp [bg,this]
    have EH:rest ops.size (listed.setIfInBounds i true)=rest i listed:=by rw[H.size,zzp IE,if_pos oo,List.append_nil,adF (aZ _)]
    rcases fF with fF|fF
    ·have:iT=0:=by rw[fF] at wU;simpa using wU
     subst this;refine⟨?_,hQ Z a dO GO⟩;rcases N7:eC .any ops (listed.setIfInBounds i true) with _|⟨q,r⟩
     ·rfl
     ·have:=(Lf (i:=q) (by rw[N7];simp)).1;rw[EH,fF] at this;cases this
    ·have:iT=1:=by rw[fF] at wU;simpa using wU
     subst this;refine⟨λqL=> ?_,λq hq=> ?_⟩
     ·have:=zsb uW (by rw[IE,H.size]) qL;rw[EH,fF] at this;cases this
     ·have UO:=(Lf hq).1;rw[EH,fF] at UO;have UO:q=k:=by simpa using UO
      subst UO;obtain⟨NF,hlen⟩:=NN fF;have NE:oD.dst=some d/\oD.guard=none:=by
       have:=H.dst;unfold isDst at this;split at this
       ·rename_i d' h1 h2;exact⟨by rw[h1,aH this],h2⟩
       ·cases this
      have IF:∃vs:Array Value,a.tmps.getD t aW= .tuple vs/\vs.size=(s.slot t).length:=by
       have qM:=hr.slot t;have h5:=H.tup;rw[hlen] at h5
       match hq:s.slot t,qM,h5 with
       | [],⟨vs,g1,g2,_⟩,_=>exact⟨vs,g1,by rw[g2]⟩
       | [x],_,h5=>simp at h5
       |x::y::r,⟨vs,g1,g2,_⟩,_=>exact⟨vs,g1,by rw[g2]⟩
      obtain⟨vs,hv,EL⟩:=IF;have Ce:j<vs.size:=by rw[EL,<-hlen];exact H.len
      have Oc:=acx (P:=P) H.ext hv (bh Ce) Z.w;unfold wpOp;simp only[H.Nq];have hw:cA oD (yielded ops a.tmps)=true:=by simp [cA,NE.2]
      rw[if_pos hw];refine .inl ?_;unfold gT;rw[Oc,jn,NE.1];have Ik:Rel tq Z s' (a.put (some d) vs[j]):=by have:=GO.dead d vs[j];rw[Ref.dead,afH hud] at this;exact this
      refine⟨?_,hQ Z _ dO Ik⟩;have hkn:=H.kn;have aaD:rest ops.size ((listed.setIfInBounds i true).setIfInBounds q true)=[]:=by have:=zzo (n:=ops.size) (listed:=listed.setIfInBounds i true) (i:=q) (p:=[]) (q:=[]) (by rw[IE,H.size];exact aZ _) (by rw[EH,fF];rfl);simpa using this
      rcases N7:eC .any ops ((listed.setIfInBounds i true).setIfInBounds q true) with _|⟨z,r⟩
      ·rfl
      ·have:=(Lf (i:=z) (by rw[N7];simp)).1;rw[aaD] at this;cases this
theorem af9(hE:bO P E)(hm:P.follows .mixedOrders=true){C:bH}(hC:C.Nat)(hf:∀f,ly P tq C f){X0:cc}(hx:Ext X0 X)(hr:Rel tq X s a){id k:Nat}{ops:Array Oper}{s':State}(h:Ap E (C State) k ops.toList s some=some s'){Q:Exit->Act->World->Prop}(hQ:∀Y a',Ext X0 Y->Rel tq Y s' a'->Q .normal a' Y.w):(iD id ops true).wp P Q a X.w:=by
 unfold Ap at h;split at h
 case h_2=>cases h
 rename_i l oS hl;split at h
 case h_2=>cases h
 rename_i oD hoD;split at h
 case h_2=>cases h
 rename_i t j d dO anD;cases pk:(isDst oD d&&(bn (k+1) l.length&&(bn (zy oS.after.toList+1) (bit l.length)&&ak (rU ops.toList l.length (zy oS.after.toList)|||bit k) (bit l.length-1)))) with
 |false=>rw[pk] at h;cases h
 |true=>
 rw[pk,cond_true] at h;simp only[ap] at pk;obtain⟨hd,hkl,NT,Ci⟩:=pk;have hkl:k<l.length:=ci hkl;have Ci:=aH Ci;obtain⟨s1,h1,h2⟩:=sI (SK hC (F:=λs=>bif bn (j+1) (s.slot t).length&& !(ak (s.slot t).length 1) then tf E oS (s.b7 (some d) [.undef]) some else none) (G:=some) (K:=λs=>bif bn (j+1) (s.slot t).length&& !(ak (s.slot t).length 1) then tf E oS (s.b7 (some d) [.undef]) some else none) (λ_=>rfl) l 0 s []) h;cases hlen:(bn (j+1) (s1.slot t).length&& !(ak (s1.slot t).length 1)) with
 |false=>simp only[hlen] at h2;cases h2
 |true=>
 simp only[hlen,cond_true] at h2;rw[ap] at hlen;have qs:=zs4 hl;have hM:ops.size=l.length+1:=by rw[<-ff,qs];simp
 have vZ:ops[l.length]? =some oS:=by rw[<-bz,qs,bc (aZ _),Nat.sub_self];rfl
 have tN:(cY l.length).map (λi=>ops.getD i default)=l:=by
  apply bZ;intro i;rw[aP];by_cases hi:i<l.length
  ·have h3:ops[i]? =l[i]? :=by rw[<-bz,qs,bj hi]
   have h4:i<ops.size:=by omega
   rw[jt hi,<-h3];simp [h4]
  ·rw[aS (by simpa using hi),aS (by omega)];rfl
 obtain⟨E7,r1,_,r3,r4⟩:=zam hC (cY l.length) 0 s [] (λj k hj=>by obtain⟨g1,g2⟩:=aA.1 hj;simp at g2;omega) (by rw[tN];exact h1)
 have H:LQ E C ops l.length k t j d oS oD s1 s':=⟨hM,vZ,by rw[<-bz];exact hoD,hkl,dO,hd,NT,Ci,λi hi=>r4 i (bX.2 hi),ci hlen.1,λe=>by rw[e] at hlen;simp at hlen,h2⟩
 have hk:nO s X {X with w:={X.w with drawn:=X.w.drawn+1}}:=⟨aZ _,rfl,rfl,rfl,λg _=>⟨rfl,rfl⟩,rfl,λ_ _ _=>rfl⟩
 have fF:rest l.length (gI ops.size false)=cY l.length:=by
  refine dz.2 λi hi=> ?_;have:=bX.1 hi;have h2:i<ops.size:=by omega
  simp [h2]
 refine wp_region_any hm ?_;have wU:ops.size=(rest l.length (gI ops.size false)).length+1:=by rw[fF,hM];simp
 exact alP hE hC hf H ops.size (gI ops.size false) _ s a E7 (hr.lV hk) (λi hi=>by by_cases h:i<ops.size<;>simp [h] at hi) (by simp [hM]) (by simp [hM]) wU (by rw[fF];exact r1) r3 (λY a' dO fb=>hQ Y a' (hx.trans (hk.ext.trans dO)) fb)
end Go.Ref

namespace Go.Ref
open Go
variable {P:Program} {tq:oK} {E:Env} {X:cc} {s:State} {a:Act}
def Ex.exit':Ex->Exit
 | .normal=> .normal
 | .exit id=> .exit id
 | .ret=> .ret
theorem ag5{Q:Exit->Act->World->Prop}{c:Code}(I:Nat->Act->World->Prop)(round:∀n a w,I n a w->∃m,n=m+1/\c.wp P (Exit.then (I m) Q) a w){n:Nat}{a:Act}{w:World}(h₀:I n a w):(Code.loop c).wp P Q a w:=by
 intro b k cs;have key:∀n a w,I n a w->∃e a' w',Q e a' w'/\Arrives P (lone (b.at a (.code c:: .inLoop c::k)) cs w) b k cs e a' w':=by
  intro n
  induction n with
  |zero=>intro a w h;obtain⟨m,hm,_⟩:=round 0 a w h;cases hm
  |succ n ih=>
   intro a w h;obtain⟨m,hm,hr⟩:=round (n+1) a w h;cases hm;obtain⟨e,a₁,w₁,hq,vV⟩:=hr b (.inLoop c::k) cs;cases e with
   |normal=>obtain⟨e₂,a₂,w₂,hq₂,harr₂⟩:=ih a₁ w₁ hq;exact⟨e₂,a₂,w₂,hq₂,.of_steps (Steps.trans vV (.one step_inLoop)) harr₂⟩
   |exit id=>exact⟨_,a₁,w₁,hq,.pass (x:= .inLoop c) rfl (λ_ _=> .inl (by simp)) vV⟩
   |goto l=>exact⟨_,a₁,w₁,hq,.pass (x:= .inLoop c) rfl (λ_ _=> .inl (by simp)) vV⟩
   |ret=>exact⟨_,a₁,w₁,hq,.pass (x:= .inLoop c) rfl (λ_ _=> .inl (by simp)) vV⟩
   |panic ch=>exact⟨_,a₁,w₁,hq,.pass (x:= .inLoop c) rfl (λ_ _=> .inl (by simp)) vV⟩
   |outgrown=>exact⟨_,a₁,w₁,hq,.pass (x:= .inLoop c) rfl (λ_ _=> .inl (by simp)) vV⟩
 obtain⟨e,a',w',hq,vV⟩:=key n a w h₀;exact⟨e,a',w',hq,.of_steps (.one step_loop) vV⟩
theorem JU{α:Type}(z:α)(l:List Nat):∀(xs:List α) (i j:Nat),(pq z l i xs)[j]? =(xs[j]?).map λx=>bif l.any (ak (i+j)) then x else z
 | [],i,j=>by simp [pq]
 |x::r,i,0=>by simp [pq]
 |x::r,i,j+1=>by simp only[pq,bI];rw[JU z l r (i+1) j,show i+1+j=i+(j+1) by omega]
theorem zh5{α:Type}(z:α)(l:List Nat):∀(xs:List α) (i:Nat),(pq z l i xs).length=xs.length
 | [],i=>rfl
 |x::r,i=>by simp [pq,zh5 z l r]
theorem PK{p q:List Nat}:∀{l:List (List Nat)},q∈Cx p l->q=p\/q∈l
 | [],h=>by simp [Cx] at h;exact .inl h
 |r::l,h=>by
  simp only[Cx] at h;cases hl:ltL r p with
  |false=>rw[hl] at h;simpa using h
  |true=>
   rw[hl] at h;rcases aD.1 h with h|h
   ·exact .inr (by simp [h])
   ·rcases PK h with h|h
    ·exact .inl h
    ·exact .inr (aE _ h)
theorem VE{q:List Nat}:∀{l:List (List Nat)},q∈wF l->q∈l
 | [],h=>h
 |p::l,h=>by
  rcases PK h with h|h
  ·simp [h]
  ·exact aE _ (VE h)
theorem ajr{v:SV}{id:Nat}{t:Ty}{p:List Nat}(h:v.norm= .ptr id t p):v= .ptr id t p:=by cases v<;>simp [SV.norm] at h;obtain⟨h1,h2,h3⟩:=h;rw[h1,h2,h3]
theorem cw.norm{pl:List Nat->Place}{sv:SV}{v:Value}(hr:cw X pl sv v):cw X pl sv.norm v:=by
 cases sv with
 |bY t x own=>obtain⟨cs,h1,h2,h3⟩:=hr;exact⟨cs,h1,h2,λp hp=>h3 p (VE hp)⟩
 |_=>exact hr
theorem kC.norm{pl:Nat->List Nat->Place}{l:List SV}{v:Value}(hr:kC X pl l v):kC X pl (l.map SV.norm) v:=by
 match l,hr with
 | [s],hr=>exact cw.norm hr
 | [],hr=>exact hr
 |x::y::r,⟨vs,h1,h2,h3⟩=>refine⟨vs,h1,by simpa using h2,λj s u hs hu=> ?_⟩;have hs:((x::y::r).map SV.norm)[j]? =some s:=hs;rw[aP] at hs;obtain⟨s0,n5,rfl⟩:=ax.1 hs;exact cw.norm (h3 j s0 u n5 hu)
theorem mA.less{r:Nat}{pl:List Nat->Place}{t:Ty}{x:El t}{own si:List (List Nat)}(ho:∀p∈si,p∈own)(h:mA X r pl t x own):mA X r pl t x si:=by
 unfold mA at h⊢;split at h
 ·exact h
 ·exact h
 ·exact h
 ·exact⟨h.1,λhm=>h.2 (ho [] hm)⟩
 ·exact⟨h.1,λhp=>h.2 λp hm=>ho p (hp p hm)⟩
 ·exact h.elim
 ·obtain⟨cs,T,h1,h2,h3⟩:=h;exact⟨cs,T,h1,h2,λp hp=>h3 p (ho p hp)⟩
theorem Rel.norm(hr:Rel tq X s a):Rel tq X s.norm a where
 size:=by simpa [State.norm] using hr.size
 pW:=by simpa [State.norm] using hr.pW
 gC:=λi l v hl hv=>by simp only[State.norm,aP] at hl;obtain⟨l0,h0,rfl⟩:=ax.1 hl;exact kC.norm (hr.gC i l0 v h0 hv)
 boxes:=λid B hB=>by simp only[State.norm,aP] at hB;obtain⟨b0,h0,h1⟩:=ax.1 hB;obtain⟨B0,rfl,rfl⟩:=ax.1 h1;obtain⟨r,g1,g2,g3⟩:=hr.boxes id B0 h0;exact⟨r,g1,g2,g3.less λp hp=>VE hp⟩
 live:=λi l id t p hl hm=>by simp only[State.norm,aP] at hl;obtain⟨l0,h0,rfl⟩:=ax.1 hl;obtain⟨v0,Oi,he⟩:=bm.1 hm;rw[ajr he] at Oi;obtain⟨B,hB⟩:=hr.live i l0 id t p h0 Oi;exact⟨B.norm,by simp [State.norm,hB]⟩
 defers:=hr.defers
 km:=hr.km
 fc:=hr.fc.less (λi l id b c j hl hm=>by
  simp only[State.norm,aP] at hl;obtain⟨l0,h0,rfl⟩:=ax.1 hl;obtain⟨v0,Oi,he⟩:=bm.1 hm;have:v0= .fc id b c j:=by cases v0<;>simp [SV.norm] at he;rw[he.1,he.2.1,he.2.2.1,he.2.2.2]
  subst this;exact⟨l0,h0,Oi,λe=>by rw[e];rfl⟩) (λid b c x own _ hb ho=>⟨x,wF own,by simp [State.norm,hb,fp.norm],λhm=>ho (VE hm)⟩)
theorem SF(hr:Rel tq X s a){l:List Nat}{R:Type}{K:State->ae R}{z:R}(h:AJ l s K=some z):∃s',K s'=some z/\Rel tq X s' a:=by
 unfold AJ at h;simp only at h;cases hb:(pq [.undef] l 0 s.sl).all (λv=>v.all (SV.roots l)) with
 |false=>rw[hb] at h;cases h
 |true=>
  rw[hb] at h;refine⟨_,h,Rel.norm ?_⟩;have rI:s.bs=s.bs.headD none::s.bs.tail:=by
   have:=hr.pW;cases hs:s.bs with
   |nil=>rw[hs] at this;simp at this
   |cons b r=>rfl
  have jH:∀(id:Nat) B,(s.bs.headD none::pq none l 0 s.bs.tail)[id]? =some (some B)->s.bs[id]? =some (some B):=by
   intro id B hB;rw[rI];cases id with
   |zero=>exact hB
   |succ id=>
    simp only[bI] at hB⊢;rw[JU] at hB;obtain⟨x,hx,he⟩:=ax.1 hB;rw[hx];cases hl:l.any (ak (0+id))<;>rw[hl] at he
    ·cases he
    ·rw[<-he];rfl
  refine⟨by rw[zh5];exact hr.size,?_,λi v x hv hx=> ?_,λid B hB=>hr.boxes id B (jH id B hB),λi v id t p hv hm=> ?_,hr.defers,hr.fc.less (λi v id c d j hv hm=> ?_) (λid c d x own hex uU ho=> ?_),hr.km⟩
  ·simp only[aB,zh5,List.length_tail];have:=hr.pW;omega
  ·rw[JU] at hv;obtain⟨y,hy,rfl⟩:=ax.1 hv;cases hl:l.any (ak (0+i)) with
   |false=>trivial
   |true=>exact hr.gC i y x hy hx
  ·have Cq:SV.roots l (.ptr id t p)=true:=by have:=aR.1 hb v (aL hv);exact aR.1 this _ hm
   rw[JU] at hv;obtain⟨y,hy,he⟩:=ax.1 hv;have AP:SV.ptr id t p∈y:=by
    cases hl:l.any (ak (0+i)) with
    |false=>rw[hl] at he;subst he;simp at hm
    |true=>rw[hl] at he;subst he;exact hm
   obtain⟨B,hB⟩:=hr.live i y id t p hy AP;refine⟨B,?_⟩;rw[rI] at hB;cases id with
   |zero=>exact hB
   |succ id=>
    simp only[bI] at hB⊢;rw[JU,hB];have:l.any (ak id)=true:=Cq;have h2:l.any (ak (0+id))=true:=by rw[bK];exact this
    simp [this]
  ·rw[JU] at hv;obtain⟨y,hy,he⟩:=ax.1 hv;cases hl:l.any (ak (0+i)) with
   |false=>rw[hl] at he;subst he;simp at hm
   |true=>rw[hl] at he;subst he;exact⟨y,hy,hm,λh=>h⟩
  ·obtain⟨i,v,j,hv,hm⟩:=hex;have Cq:SV.roots l (.fc id c d j)=true:=by have:=aR.1 hb v (aL hv);exact aR.1 this _ hm
   refine⟨x,own,?_,ho⟩;rw[rI] at uU;cases id with
   |zero=>exact uU
   |succ id=>
    simp only[bI] at uU⊢;rw[JU,uU];have:l.any (ak id)=true:=Cq;have h2:l.any (ak (0+id))=true:=by rw[bK];exact this
    simp [this]
def cc.still(X:cc)(r n:Nat):cc:={X with ow:=λg=>if g=r then .ro n else X.ow g}
theorem Fg{r n id:Nat}(h:X.ow r= .box id){ad:Addr}{v:Value}(hs:X.cn ad v):(X.still r n).cn ad v:=by
 have fS:ad.block≠r:=λe=>by have:=hs.2.2;rw[e,h] at this;exact this
 refine⟨hs.1,hs.2.1,?_⟩;simp only[cc.still];rw[if_neg fS];exact hs.2.2
theorem VJ{r n id:Nat}(h:X.ow r= .box id):Ext X (X.still r n) where
 cn:=λ_ _=>Fg h
 size:=aZ _
 os:=rfl
 tape:=rfl
 output:=rfl
 β0:=rfl
 still:=λg _ gy=>by
  have fS:g≠r:=λe=>by rw[e,h] at gy;exact gy
  exact⟨by simp only[cc.still];rw[if_neg fS],rfl⟩
theorem fa.nN{r n id:Nat}(h:X.ow r= .box id){pl:Place}{e:TypeId}{k m:Nat}{v:Value}(ho:fa X pl e k m v):fa (X.still r n) pl e k m v:=by
 rcases ho with ho|⟨g,cap,cur,h1,h2,h3,h4,h5,h6⟩
 ·exact .inl ho
 ·have fS:g≠r:=λe=>by rw[e,h] at h6;cases h6
  exact .inr ⟨g,cap,cur,h1,h2,h3,h4,h5,by simp only[cc.still];rw[if_neg fS];exact h6⟩
theorem eO.nN{r n id:Nat}(h:X.ow r= .box id){pl:List Nat->Place}{t:Ty}{x:El t}{c:List Value}{own:List (List Nat)}(ho:eO X pl t x c own):eO (X.still r n) pl t x c own:=λp hp=>by obtain⟨e,t',xs,v,g0,g1,g2,g3⟩:=ho p hp;exact⟨e,t',xs,v,g0,g1,g2,g3.nN h⟩
theorem cw.nN{r n id:Nat}(h:X.ow r= .box id){pl:List Nat->Place}{sv:SV}{v:Value}(hk:∀dX c d j,sv= .fc dX c d j->dX≠id)(hr:cw X pl sv v):cw (X.still r n) pl sv v:=by
 cases sv with
 |bY t x own=>obtain⟨c,h1,h2,h3⟩:=hr;exact⟨c,h1.bE (λ_ _=>Fg h),h2,h3.nN h⟩
 |view t x=>obtain⟨ad,c,h1,h2,h3,h4⟩:=hr;exact⟨ad,c,h1,h2,h3.bE (λ_ _=>Fg h),λi u hi=>Fg h (h4 i u hi)⟩
 |cap f t x u y=>exact AA (λ_ _=>Fg h) hr
 |fc dX c d j=>
  obtain⟨r',h1,h2,h3⟩:=hr;have fS:r'≠r:=λe=>by rw[e,h] at h2;injection h2 with h2;exact hk dX c d j rfl h2.symm
  exact⟨r',h1,by simp only[cc.still];rw[if_neg fS];exact h2,h3⟩
 |_=>exact hr
theorem Vy(l:List Nat):∀(xs:List (ae fp)) (i j:Nat),(rH l i xs)[j]? =(xs[j]?).map λb=>bif l.any (ak (i+j)) then b.map (λB=>{B with own:=[]}) else b
 | [],i,j=>by simp [rH]
 |x::r,i,0=>by simp [rH]
 |x::r,i,j+1=>by simp only[rH,bI];rw[Vy l r (i+1) j,show i+1+j=i+(j+1) by omega]
theorem zyc(l:List Nat):∀(xs:List (ae fp)) (i:Nat),(rH l i xs).length=xs.length
 | [],i=>rfl
 |x::r,i=>by simp [rH,zyc l r]
theorem Rel.drop(hr:Rel tq X s a)(l:List Nat):Rel tq X (s.drop l) a where
 size:=hr.size
 pW:=by simp only[State.drop,zyc];exact hr.pW
 gC:=hr.gC
 boxes:=λid B hB=>by
  simp only[State.drop,Vy] at hB;obtain⟨b0,h0,h1⟩:=ax.1 hB;cases hl:l.any (ak (0+id)) with
  |false=>rw[hl] at h1;simp only[cond_false] at h1;subst h1;exact hr.boxes id B h0
  |true=>rw[hl] at h1;simp only[cond_true] at h1;obtain⟨B0,rfl,rfl⟩:=ax.1 h1;obtain⟨r,g1,g2,g3⟩:=hr.boxes id B0 h0;exact⟨r,g1,g2,g3.less λp hp=>by cases hp⟩
 live:=λi v id t p hv hm=>by obtain⟨B,hB⟩:=hr.live i v id t p hv hm;simp only[State.drop,Vy,hB,dP];cases l.any (ak (0+id))<;>exact⟨_,rfl⟩
 defers:=hr.defers
 km:=hr.km
 fc:=hr.fc.less (λi l id c d j hl hm=>⟨l,hl,hm,λh=>h⟩) (λid c d x own _ hb ho=>by
  simp only[State.drop,Vy,hb,dP];cases l.any (ak (0+id)) with
  |false=>exact⟨x,own,rfl,ho⟩
  |true=>exact⟨x,[],rfl,by simp⟩)
theorem ajN(hr:Rel tq X s a){r:Nat}{R:Type}{K:State->ae R}{z:R}(h:Aw E r s K=some z):∃Y s',Y.w=X.w/\Ext X Y/\K s'=some z/\Rel tq Y s' a:=by
 unfold Aw at h;split at h
 ·exact⟨X,s,rfl,Ext.refl X,h,hr⟩
 rename_i d T hfz;split at h
 case h_2=>cases h
 rename_i id n ta tb e t qM hT;split at h
 case isFalse=>cases h
 rename_i heq;have:=Ty.cT heq;subst this;split at h
 case h_2=>cases h
 rename_i B hB;split at h
 case isFalse=>cases h
 rename_i l8;obtain⟨hb,rr,h1,how,cs,T',cJ,lL,oF⟩:=Ki hr hB l8;generalize(Ty.cast l8 B.x:List (El ta))=xs at*;cases hn:ak n (ag xs) with
 |false=>rw[hn] at h;cases h
 |true=>
  rw[hn] at h;have hn:=aH hn;have hd:d<s.sl.length:=by
   rcases eB d s.sl.length with h1|h1
   ·exact h1
   ·simp [State.slot,aS h1] at qM
  have nr:=hr.slot d;rw[qM] at nr;obtain⟨r0,hβ,cap,hv,vY⟩:=(show cw X (.c d 0) (.ptr id (.dJ (.rh n) ta tb) []) _ from nr)
  rw[h1] at hβ;cases hβ;have bR:id<s.bs.length:=(aA.1 hb).1;have vn:=hr.xK hb (.inl (by rw[Ty.cT l8];rfl));refine⟨X.still rr (xs.length*ta.cells),_,rfl,VJ how,h,?_,?_,λi l v hl hx=> ?_,λdX B' nw=> ?_,λi l j t p hl hm=> ?_,hr.defers,hr.fc.less (λi l Aj c2 d2 j hl hm=> ?_) (λAj c2 d2 x2 tm hex tA ho=> ?_),hr.km.ext (VJ how)⟩
  ·simpa using hr.size
  ·simpa using hr.pW
  ·replace hl:((s.sl.map (uQ id)).set d [.bY (.sl e ta) xs []])[i]? =some l:=hl;rw[az] at hl;split at hl
   ·rename_i Ca;subst Ca;rw[if_pos (by simpa using hd)] at hl;cases hl;have GZ:a.tmps.getD d aW=v:=by rw[bg,hx];rfl
    rw[GZ] at hv;refine⟨[v],?_,rfl,vu⟩;rw[hv,hn];refine eI.E3 rfl (by omega) (λj y hj=>⟨⟨rr,0,none⟩,_,rfl,rfl,(oF j y hj).bE (λ_ _=>Fg how),λi u hi=> ?_⟩);have Ce:=(aA.1 hj).1;have hle:(j+1)*ta.cells<=xs.length*ta.cells:=bB _ Ce;rw[bL,ct] at hle;rw[bq] at hi;split at hi
    case isFalse=>cases hi
    rename_i UK;rw[bJ] at hi;refine⟨Hq rfl _,?_,?_⟩
    ·rw[q7,bK];show X.w.cell? _=_;simp only[bT,cJ];simpa using hi
    ·rw[q7,bK];show Ow.used (if rr=rr then .ro (xs.length*ta.cells) else X.ow rr) _;rw[if_pos rfl];show j*ta.cells+i<_;omega
   ·rw[aP] at hl;obtain⟨l0,h0,rfl⟩:=ax.1 hl;exact Pm ((hr.gC i l0 v h0 hx).ru λj sv u hm sD=>sD.nN how (λdX c d k e e2=>vn i l0 c d k h0 (e2▸e▸aL hm)))
  ·replace nw:(s.bs.set id none)[dX]? =some (some B'):=nw;rw[az] at nw;split at nw
   ·rename_i NL;cases nw
   ·rename_i NL;obtain⟨r',g1,g2,g3⟩:=hr.boxes dX B' nw;have fS:r'≠rr:=λe2=>by rw[e2,how] at g2;cases g2;exact NL rfl
    exact⟨r',g1,by simp only[cc.still];rw[if_neg fS];exact g2,g3.move (λ_ _=>Fg how) rfl (λcs h5=>h5.nN how) λ_ _ g o _ ho hw=>⟨ho,by simp only[cc.still];rw[if_neg (λe3=>by rw[e3,how] at hw;cases hw)];exact hw⟩⟩
  ·replace hl:((s.sl.map (uQ id)).set d [.bY (.sl e ta) xs []])[i]? =some l:=hl;rw[az] at hl;split at hl
   ·rw[if_pos (by simpa using hd)] at hl;cases hl;simp at hm
   ·rw[aP] at hl;obtain⟨l0,h0,rfl⟩:=ax.1 hl;obtain⟨hm,fS⟩:=QY hm;obtain⟨B2,ll⟩:=hr.live i l0 j t p h0 hm;exact⟨B2,by show(s.bs.set id none)[j]? =_;rw[az,if_neg (λe=>fS e.symm)];exact ll⟩
  ·replace hl:((s.sl.map (uQ id)).set d [.bY (.sl e ta) xs []])[i]? =some l:=hl;rw[az] at hl;split at hl
   ·rw[if_pos (by simpa using hd)] at hl;cases hl;simp at hm
   ·rw[aP] at hl;obtain⟨l0,h0,rfl⟩:=ax.1 hl;obtain⟨g1,g2⟩:=zx1 hm;exact⟨l0,h0,g1,g2⟩
  ·refine⟨x2,tm,?_,ho⟩;show(s.bs.set id none)[Aj]? =_;rw[az,if_neg (λe=> ?_)]
   ·exact tA
   ·subst e;rw[hb] at tA;cases tA;cases(Ty.cT l8)
theorem OX(hr:Rel tq X s a){id rr:Nat}{B:fp}(hb:s.bs[id]? =some (some B))(hs:B.t.fG=false)(h1:X.β id=some rr)(how:X.ow rr= .box id){cs:Array Value}{T:TypeId}(cJ:X.w.heap[rr]? =some (.cells cs T (0,0)))(de:eI X B.t B.x cs.toList){pl:List Nat->Place}{sv:SV}{v:Value}(hk:∀dX c d j,sv= .fc dX c d j->dX≠id)(h:cw X pl sv v):cw (X.still rr cs.size) pl (AL id B sv) v:=by
 have lV:=h.nN (n:=cs.size) how hk;cases sv with
 |ptr j t p=>
  unfold AL;simp only;cases hj:ak j id with
  |false=>exact lV
  |true=>
   have:=aH hj;subst this;simp only[cond_true];split
   case isFalse=>trivial
   rename_i heq;have:=Ty.cT heq;subst this;split
   case h_2=>trivial
   rename_i u y jH;obtain⟨r0,hβ,hv⟩:=h;rw[h1] at hβ;cases hβ;obtain⟨hv,lR⟩:=(yU hs).1 hv;obtain⟨k1,k2,k3⟩:=TQ de lR jH;refine⟨_,_,hv,rfl,k3.bE (λ_ _=>Fg how),λi w hi=>⟨Hq rfl _,?_,?_⟩⟩
   ·exact VR cJ hi
   ·rw[q7];show Ow.used (if rr=rr then .ro cs.size else X.ow rr) _;rw[if_pos rfl];rw[bq] at hi;split at hi
    case isFalse=>cases hi
    rw[bJ] at hi;have:=(aA.1 hi).1;show _<cs.size;simpa using this
 |_=>exact lV
theorem agZ(hr:Rel tq X s a){id rr:Nat}{B:fp}(hb:s.bs[id]? =some (some B))(hs:B.t.fG=false)(h1:X.β id=some rr)(how:X.ow rr= .box id){cs:Array Value}{T:TypeId}(cJ:X.w.heap[rr]? =some (.cells cs T (0,0)))(de:eI X B.t B.x cs.toList){pl:Nat->List Nat->Place}{l:List SV}{v:Value}(hk:∀dX c d j,SV.fc dX c d j∈l->dX≠id)(h:kC X pl l v):kC (X.still rr cs.size) pl (l.map (AL id B)) v:=by
 match l,h with
 | [sv],h=>exact OX hr hb hs h1 how cJ de (λdX c d j e=>hk dX c d j (by simp [e])) h
 | [],⟨vs,g1,g2,g3⟩=>exact⟨vs,g1,g2,λj sv u uX=>by simp at uX⟩
 |x::y::r,⟨vs,g1,g2,g3⟩=>refine⟨vs,g1,by simpa using g2,λj sv u uX hu=> ?_⟩;have uX:((x::y::r).map (AL id B))[j]? =some sv:=uX;rw[aP] at uX;obtain⟨s0,n5,rfl⟩:=ax.1 uX;exact OX hr hb hs h1 how cJ de (λdX c d j e=>hk dX c d j (e▸aL n5)) (g3 j s0 u n5 hu)
theorem ajS{id:Nat}{B:fp}{l:List SV}{j:Nat}{t:Ty}{p:List Nat}(h:SV.ptr j t p∈l.map (AL id B)):SV.ptr j t p∈l/\j≠id:=by
 obtain⟨s0,n5,he⟩:=bm.1 h;unfold AL at he;cases s0 with
 |ptr j' t' p'=>
  simp only at he;cases hb:ak j' id with
  |true=>
   rw[hb] at he;simp only[cond_true] at he;split at he
   ·split at he<;>cases he
   ·cases he
  |false=>rw[hb] at he;cases he;exact⟨n5,λe=>il hb e⟩
 |_=>simp only at he;cases he
theorem ajR{id:Nat}{B:fp}{l:List SV}{i j:Nat}{a b:Ty}(h:SV.fc i a b j∈l.map (AL id B)):SV.fc i a b j∈l/\(l=[.fc i a b j]->l.map (AL id B)=[.fc i a b j]):=by
 refine⟨?_,λe=>by rw[e];rfl⟩;obtain⟨s0,n5,he⟩:=bm.1 h;unfold AL at he;cases s0 with
 |ptr j' t' p'=>
  simp only at he;cases hb:ak j' id with
  |true=>
   rw[hb] at he;simp only[cond_true] at he;split at he
   ·split at he<;>cases he
   ·cases he
  |false=>rw[hb] at he;cases he
 |_=>simp only at he;first|(cases he;done)|(rw[<-he];exact n5)
theorem acz(hr:Rel tq X s a){id:Nat}{R:Type}{K:State->ae R}{z:R}(h:Yv id s K=some z):∃Y s',Y.w=X.w/\Ext X Y/\K s'=some z/\Rel tq Y s' a:=by
 unfold Yv at h;split at h
 case h_2=>cases h
 rename_i B hB;split at h
 case isTrue=>cases h
 rename_i hs;have hs:B.t.fG=false:=by simpa using hs
 have hb:=yV hB;obtain⟨rr,h1,B8⟩:=hr.boxes id B hb;obtain⟨cs,T,cJ,de,how,_⟩:=B8.cells hs;refine⟨X.still rr cs.size,_,rfl,VJ how,h,by simpa using hr.size,by simpa using hr.pW,λi l v hl hx=> ?_,λdX B' nw=> ?_,λi l j t p hl hm=> ?_,hr.defers,hr.fc.less (λi l Aj c2 d2 j hl hm=> ?_) (λAj c2 d2 x2 tm hex tA ho=> ?_),hr.km.ext (VJ how)⟩
 ·replace hl:(s.sl.map λl=>l.map (AL id B))[i]? =some l:=hl;rw[aP] at hl;obtain⟨l0,h0,rfl⟩:=ax.1 hl;exact agZ hr hb hs h1 how cJ de (λdX c d j hm e=>hr.xK hb (.inl (TT hs)) i l0 c d j h0 (e▸hm)) (hr.gC i l0 v h0 hx)
 ·replace nw:(s.bs.set id none)[dX]? =some (some B'):=nw;rw[az] at nw;split at nw
  ·split at nw<;>cases nw
  ·rename_i NL;obtain⟨r',g1,g2,g3⟩:=hr.boxes dX B' nw;have fS:r'≠rr:=λe2=>by rw[e2,how] at g2;cases g2;exact NL rfl
   exact⟨r',g1,by simp only[cc.still];rw[if_neg fS];exact g2,g3.move (λ_ _=>Fg how) rfl (λcs h5=>h5.nN how) λ_ _ g o _ ho hw=>⟨ho,by simp only[cc.still];rw[if_neg (λe3=>by rw[e3,how] at hw;cases hw)];exact hw⟩⟩
 ·replace hl:(s.sl.map λl=>l.map (AL id B))[i]? =some l:=hl;rw[aP] at hl;obtain⟨l0,h0,rfl⟩:=ax.1 hl;obtain⟨hm,fS⟩:=ajS hm;obtain⟨B2,ll⟩:=hr.live i l0 j t p h0 hm;exact⟨B2,by show(s.bs.set id none)[j]? =_;rw[az,if_neg (λe=>fS e.symm)];exact ll⟩
 ·replace hl:(s.sl.map λl=>l.map (AL id B))[i]? =some l:=hl;rw[aP] at hl;obtain⟨l0,h0,rfl⟩:=ax.1 hl;obtain⟨g1,g2⟩:=ajR hm;exact⟨l0,h0,g1,g2⟩
 ·refine⟨x2,tm,?_,ho⟩;show(s.bs.set id none)[Aj]? =_;rw[az,if_neg (λe=> ?_)]
  ·exact tA
  ·subst e;rw[hb] at tA;cases tA;cases hs
theorem zmk{R:Type}{K:State->ae R}{z:R}:∀(l:List Nat) (X:cc) (s:State),Rel tq X s a->Lx l s K=some z->∃Y s',Y.w=X.w/\Ext X Y/\K s'=some z/\Rel tq Y s' a
 | [],X,s,hr,h=>⟨X,s,rfl,Ext.refl X,h,hr⟩
 |id::r,X,s,hr,h=>by obtain⟨Y,s1,h1,h2,h3,h4⟩:=acz hr h;obtain⟨Z,s2,k1,k2,k3,k4⟩:=zmk r Y s1 h4 h3;exact⟨Z,s2,k1.trans h1,h2.trans k2,k3,k4⟩
def Fr(E:Env)(X0:cc):Prop:=E.sp≠none->∀g pl n,X0.ow g≠ .row pl n
def O1(P:Program)(tq:oK)(E:Env)(C:bH)(k:Nat)(c:Code):Prop:=
 ∀(X0 X:cc) (s:State) (a:Act) (e:Ex) (s':State),Fr E X0->Ext X0 X->Rel tq X s a->ev E (C (Ex×State)) k c s (λe s=>some (e,s))=some (e,s')->
  ∀(Q:Exit->Act->World->Prop),(∀Y a',Ext X0 Y->Rel tq Y s' a'->Q e.exit' a' Y.w)->c.wp P Q a X.w
theorem ajh(hr:Rel tq X s a){k r:Nat}{R:Type}{K:State->ae R}{z:R}(h:wD E k r s K=some z):∃s',K s'=some z/\Rel tq X s' a:=by
 unfold wD at h;split at h
 ·exact⟨s,h,hr⟩
 ·obtain⟨s',h1,h2⟩:=SF hr h;refine⟨s',?_,h2⟩;unfold ww at h1;split at h1
  ·cases h1
  ·exact h1
theorem agc{C:bH}(hC:C.Nat){k:Nat}{b:Code}(hb:O1 P tq E C k b){l lx:List Nat}{Q:Exit->Act->World->Prop}{e':Ex}{s':State}{X0:cc}(hF:Fr E X0)(hQ:∀Y a',Ext X0 Y->Rel tq Y s' a'->Q e'.exit' a' Y.w):
 ∀(n:Nat) (a:Act) (w:World),(∃X s,X.w=w/\Ext X0 X/\Rel tq X s a/\pu (ev E (C (Ex×State)) k b) l lx n s (λe s=>some (e,s))=some (e',s'))->
  ∃m,n=m+1/\b.wp P (Exit.then (λa w=>∃X s,X.w=w/\Ext X0 X/\Rel tq X s a/\pu (ev E (C (Ex×State)) k b) l lx m s (λe s=>some (e,s))=some (e',s')) Q) a w:=by
 rintro n a w ⟨X,s,rfl,dO,hr,h⟩;cases n with
 |zero=>cases h
 |succ m=>
  refine⟨m,rfl,?_⟩;simp only[pu] at h;obtain⟨⟨e1,s2⟩,h1,h2⟩:=sI (Dg hC b _ (λe s=>some (e,s)) (K:=λz=>match z.1 with
   | .normal=>AJ l z.2 λs=>pu (ev E (C (Ex×State)) k b) l lx m s (λe s=>some (e,s))
   |e=>AJ lx z.2 λs=>some (e,s)) (λe s=>by cases e<;>rfl) s) h
  refine hb X0 X s a e1 s2 hF dO hr h1 _ λY a' iu fb=> ?_;cases e1 with
  |normal=>obtain⟨s3,h3,IA⟩:=SF fb h2;exact⟨Y,s3,rfl,iu,IA,h3⟩
  |exit id=>obtain⟨s3,h3,IA⟩:=SF fb h2;cases h3;exact hQ Y a' iu IA
  |ret=>obtain⟨s3,h3,IA⟩:=SF fb h2;cases h3;exact hQ Y a' iu IA
theorem z9g(hE:bO P E)(hm:P.follows .mixedOrders=true){C:bH}(hC:C.Nat)(hf:∀f,ly P tq C f){id:Nat}{ops:Array Oper}{d:Bool}{X00 X0:cc}{s0:State}{a:Act}{e:Ex}{s':State}(hx:Ext X00 X0)(hr0:Rel tq X0 s0 a)(h0:Kh E (C (Ex×State)) id ops d s0 ((λe s=>some (e,s)) Ex.normal)=some (e,s')){Q:Exit->Act->World->Prop}(hQ0:∀Y a',Ext X00 Y->Rel tq Y s' a'->Q e.exit' a' Y.w):(iD id ops d).wp P Q a X0.w:=by
 unfold Kh at h0;obtain⟨X1,s1,UT,GC,h01,mP⟩:=ajN hr0 h0;obtain⟨X,s,C4,iu,h,hr⟩:=zmk _ X1 s1 mP h01;have hw:X.w=X0.w:=C4.trans UT;have Gz:Ext X0 X:=GC.trans iu;clear h01 mP UT C4 GC iu;have hQ:∀Y a',Ext X Y->Rel tq Y s' a'->Q e.exit' a' Y.w:=λY a' dO fb=>hQ0 Y a' (hx.trans (Gz.trans dO)) fb;rw[<-hw];clear h0 hr0 hQ0 Gz hw;cases d with
 |true=>simp only[cond_true] at h;obtain⟨s1,h1,h2⟩:=sI (SK hC (F:=λs=>some (Ex.normal,s)) (G:=some) (K:=λs=>some (Ex.normal,s)) (λ_=>rfl) ops.toList 0 s []) h;cases h2;exact afR hE hm hC hf hr h1 hQ
 |false=>
  simp only[cond_false] at h;obtain⟨s1,h1,h2⟩:=sI (JZ hC (F:=λs=>some (Ex.normal,s)) (G:=some) (K:=λs=>some (Ex.normal,s)) (λ_=>rfl) ops.toList s) h;cases h2;refine wp_region (P3 hE hC hf (cY ops.size) X s a hr (λi hi=>bX.1 hi) ?_ hQ);have:(cY ops.size).map (λi=>ops.getD i default)=ops.toList:=by
   apply bZ;intro i;rw[aP];by_cases hi:i<ops.size
   ·simp [hi]
   ·simp [hi]
  rw[this];exact h1
theorem JR(hE:bO P E)(hm:P.follows .mixedOrders=true){C:bH}(hC:C.Nat)(hf:∀f,ly P tq C f)(k:Nat):∀c:Code,O1 P tq E C k c
 | .skip=>λX0 X s a e s' hF hx hr h Q hQ=>by simp only[ev,aC,gB] at h;obtain⟨rfl,rfl⟩:=h;exact wp_skip (hQ X a hx hr)
 | .region id ops d=>λX0 X s a e s' hF hx hr h Q hQ=>by
   simp only[ev] at h;split at h
   ·rename_i j q vp;cases hj:ak id j with
    |true=>
     rw[hj,cond_true] at h;cases d with
     |true=>cases h
     |false=>
      cases hq:ak q.2.2 0 with
      |true=>simp only[hq,cond_true] at h;obtain⟨s1,h1,h2⟩:=sI (PV hC (F:=λs=>some (Ex.normal,s)) (G:=some) (K:=λs=>some (Ex.normal,s)) (λ_=>rfl)) h;cases h2;exact ags hE hC hf (hF (by rw[vp];exact λe=>by cases e)) hx hr h1 hQ
      |false=>
      simp only[hq,cond_false] at h;obtain⟨s1,h1,h2⟩:=sI (P5 (F:=λs=>some (Ex.normal,s)) (G:=some) (K:=λs=>some (Ex.normal,s)) (λ_=>rfl)) h;cases h2;exact agQ hE (hF (by rw[vp];exact λe=>by cases e)) hx hr h1 hQ
    |false=>rw[hj,cond_false] at h;exact z9g hE hm hC hf hx hr h hQ
   ·split at h
    ·exact z9g hE hm hC hf hx hr h hQ
    ·rename_i m l k hsg;cases hi:ak id m with
     |true=>
      rw[hi,cond_true] at h;cases d with
      |true=>cases h
      |false=>obtain⟨s1,h1,h2⟩:=sI (Rk hC (F:=λs=>some (Ex.normal,s)) (G:=some) (K:=λs=>some (Ex.normal,s)) (λ_=>rfl)) h;cases h2;exact ajj hE hC hf hx hr h1 hQ
     |false=>
     rw[hi,cond_false] at h;cases Is:ak id l with
     |true=>
      rw[Is,cond_true] at h;cases d with
      |false=>cases h
      |true=>obtain⟨s1,h1,h2⟩:=sI (PG hC (F:=λs=>some (Ex.normal,s)) (G:=some) (K:=λs=>some (Ex.normal,s)) (λ_=>rfl)) h;cases h2;exact af9 hE hm hC hf hx hr h1 hQ
     |false=>rw[Is,cond_false] at h;exact z9g hE hm hC hf hx hr h hQ
 | .seq x y=>λX0 X s a e s' hF hx hr h Q hQ=>by
   simp only[ev] at h;obtain⟨⟨e1,s1⟩,h1,h2⟩:=sI (Dg hC x _ (λe s=>some (e,s)) (K:=λz=>match z.1 with
    | .normal=>wD E k (xT y) z.2 λs=>ev E (C (Ex×State)) k y s (λe s=>some (e,s))
    |e=>some (e,z.2)) (λe s=>by cases e<;>rfl) s) h
   refine wp_seq (JR hE hm hC hf k x X0 X s a e1 s1 hF hx hr h1 _ λY a' dO fb=> ?_);cases e1 with
   |normal=>obtain⟨s2,h2,fb⟩:=ajh fb h2;exact JR hE hm hC hf k y X0 Y s2 a' e s' hF dO fb h2 Q hQ
   |exit id=>cases h2;exact hQ Y a' dO fb
   |ret=>cases h2;exact hQ Y a' dO fb
 | .cond c x y=>λX0 X s a e s' hF hx hr h Q hQ=>by
   simp only[ev] at h;have hc:=hr.cP c;split at h
   case h_2=>cases h
   rename_i p w hs;rw[hs] at hc;have hv:=Su hc;have mP:Rel tq X (s.b7 (CM c) (bl p)) a:=by
    cases c with
    |tmp i=>
     have qM:s.slot i=[.bY .bool p w]:=by
      have hh:one (s.slot i)= .bY .bool p w:=hs
      match hm:s.slot i,hh with
      | [sv],hh=>have Iq:sv= .bY .bool p w:=hh;rw[Iq]
      | [],hh=>cases hh
      |_::_::_,hh=>cases hh
     exact(hr.know qM).1
    |_=>exact hr
   refine wp_cond_split hv (λhp=> ?_) (λhp=> ?_)
   ·subst hp;exact JR hE hm hC hf k x X0 X _ a e s' hF hx mP h Q hQ
   ·subst hp;exact JR hE hm hC hf k y X0 X _ a e s' hF hx mP h Q hQ
 | .block id b=>λX0 X s a e s' hF hx hr h Q hQ=>by
   simp only[ev] at h;obtain⟨⟨e1,s1⟩,h1,h2⟩:=sI (Dg hC b _ (λe s=>some (e,s)) (K:=λz=>match z.1 with
    | .exit j=>bif ak j id then some (.normal,z.2) else some (.exit j,z.2)
    |e=>some (e,z.2)) (λe s=>by cases e<;>rfl) s) h
   refine wp_block (JR hE hm hC hf k b X0 X s a e1 s1 hF hx hr h1 _ λY a' dO fb=> ?_);cases e1 with
   |normal=>cases h2;exact hQ Y a' dO fb
   |ret=>cases h2;exact hQ Y a' dO fb
   |exit j=>
    simp only at h2;show(if j=id then Q .normal a' Y.w else Q (.exit j) a' Y.w);cases hj:ak j id with
    |true=>rw[hj] at h2;cases h2;rw[if_pos (aH hj)];exact hQ Y a' dO fb
    |false=>rw[hj] at h2;cases h2;rw[if_neg (il hj)];exact hQ Y a' dO fb
 | .loop b=>λX0 X s a e s' hF hx hr h Q hQ=>by simp only[ev] at h;obtain⟨s1,h,mP⟩:=SF (hr.drop _) h;exact ag5 _ (agc hC (JR hE hm hC hf k b) hF (Q:=Q) hQ) ⟨X,s1,rfl,hx,mP,h⟩
 | .exit id=>λX0 X s a e s' hF hx hr h Q hQ=>by simp only[ev,aC,gB] at h;obtain⟨rfl,rfl⟩:=h;exact wp_exit (hQ X a hx hr)
 | .ret=>λX0 X s a e s' hF hx hr h Q hQ=>by simp only[ev,aC,gB] at h;obtain⟨rfl,rfl⟩:=h;exact wp_ret (hQ X a hx hr)
 | .rangeFunc .. =>λX0 X s a e s' hF hx hr h Q hQ=>by simp only[ev] at h;cases h
 | .scope _=>λX0 X s a e s' hF hx hr h Q hQ=>by simp only[ev] at h;cases h
 | .label _=>λX0 X s a e s' hF hx hr h Q hQ=>by simp only[ev] at h;cases h
 | .goto _=>λX0 X s a e s' hF hx hr h Q hQ=>by simp only[ev] at h;cases h
 | .refuse _=>λX0 X s a e s' hF hx hr h Q hQ=>by simp only[ev] at h;cases h
end Go.Ref

