/- No condition. -/
import Derived.Test.YtpjkbbihjoflnaaGreatDoorK0
import Derived.WideKeyRuns
import Derived.MapKept
import Derived.Laws.CopyRow
set_option linter.unusedVariables false
set_option linter.unusedSimpArgs false
set_option maxRecDepth 100000
open Array renaming getD_eq_getD_getElem?->NX,getElem?_eq_getElem->XN,getElem?_toList->zad,toArray_toList->zaC,toList_append->zbe,getElem?_setIfInBounds_ne->zbl,getElem?_setIfInBounds->zbF,length_toList->zb9,toList_inj->zdG,replicate->zdT,all_eq_true_iff_forall_mem->zd2,range->zed
open Bool renaming and_eq_true->nd,false_eq_true->zaW,or_eq_false_iff->za8,or_eq_true->zcJ
open Function renaming comp_def->zfE
open Go renaming undef->zaj
open Go.Builtin renaming firstCells->zbI,lenOf->zcR,append_->zdc
open Go.Call renaming operands->zdn
open Go.Code renaming region->zeH
open Go.Deferred renaming ofValue->zfV
open Go.Instr renaming storeAt->zdk,findAsking->zer,checkKey->zfb,sameNow->zfO,findNow->zgU
open Go.IntKind renaming u8->zgZ
open Go.MapKept renaming run_getObj_map->zd3,run_checkKey->zgJ,run_findKey->zgO,IsKey->zgT
open Go.Op renaming operands->To
open Go.Oper renaming upon_value->zeF,wp->zeZ,upon_skip->zfh,upon_enter->zf2
open Go.Region renaming wanted->za4,ready->zcB,binds->zdd
open Go.Result renaming andThen_ok->fv
open Go.RowKit.Below renaming heap_alloc->zdR
open Go.Sem renaming run_bind->BY,run_pure->GP
open Go.Utf8 renaming decode->zbQ
open Go.World renaming cell?->zaP,block_lt_of_cell?->zcQ
open List renaming length->aa,getD_eq_getElem?_getD->be,getElem?_eq_getElem->ks,length_cons->ls,replicate->so,length_append->th,getElem?_set->vc,getElem?_eq_some_iff->AS,mem_cons_of_mem->Cs,mem_cons->If,take->It,mem_of_getElem?->IH,getElem?_map->IN,getElem?_eq_none->IT,append_assoc->MM,mem_append->M2,length_take->Of,all_eq_true->OF,getElem?_append_right->zaa,mem_filter->zab,getElem?_take->zae,pairwise_cons->zak,eq_nil_of_length_eq_zero->zam,mem_range->zao,getElem?_append_left->zap,map_cons->zaq,getElem?_drop->zas,mem_map->zau,getElem?_cons_succ->zax,getElem?_cons_zero->zaB,length_drop->zaD,ext_getElem?->zaF,range->zaJ,mem_singleton->zaM,length_map->zaR,map_append->zaY,pairwise_append->za0,take_of_length_le->za6,any_eq_false->za9,mem_append_left->zbm,map_congr_left->zbD,map_nil->zbK,filter_cons->zbO,filter_eq_self->zbS,length_set->zb8,range_succ->zct,map_map->zcz,take_left->zcF,filter_congr->zcL,size_toArray->zdl,flatMap_cons->zdm,getElem?_toArray->zei,map_toArray->zeq,flatMap_map->zes,flatMap_def->zet,append_inj->zeG,getElem?_range->zeI,flatMap_append->zgP,set_set->zhB
open Nat renaming beq->xz,eq_of_beq_eq_true->DD,le_refl->zag,mul_le_mul_right->zai,zero_add->zat,add_mul->zaz,le_of_ble_eq_true->zaK,ble->zaL,min_eq_left->zaQ,add_sub_cancel_left->zaS,zero_le->zaX,one_mul->za5,testBit_or->zbG,lt_or_ge->zbJ,testBit_two_pow->zcs,le_add_right->zcx,shiftLeft_eq->zcX,add_zero->zde,ne_of_beq_eq_false->zd4,mul_one->zeC,min_comm->zhA,min->zhE
open Option renaming map_eq_some_iff->nl,getD_some->zbj,map_some->zbA,map_none->zdQ
open Option.some renaming injEq->AI
open Prod.mk renaming injEq->zcT
namespace Go.Ref
open Go
variable {P:Program} {E:Env} {X:aw} {s:State} {a:Act} {o:Oper} {u:Out}
inductive Grown(w w':World)(e:TypeId)(k:Nat)(vb v':Value)(cx cy:List Value)(n:Nat):Prop where
 |same (h:w'=w) (hv:v'=vb) (hy:cy=[])
 |room (g cap:Nat) (cur gJ:Array Value) (hb:∃m,vb= .slice (some ⟨g,0,none⟩) m cap) (hg:w.heap[g]? =some (.cells cur e (0,0))) (hv:v'= .slice (some ⟨g,0,none⟩) n cap) (hn:n<=cap) (hm:cap<=maxLen)
   (hw:w'=w.setRow g gJ) (hs:gJ.size=cap*k) (ht:gJ.toList.take (n*k)=cx++cy)
 |new (cap:Nat) (gJ:Array Value) (hv:v'= .slice (some ⟨w.heap.size,0,none⟩) n cap) (hn:n<=cap) (hm:cap<=maxLen) (hw:w'=w.drew.alloc (.cells gJ e)) (hs:gJ.size=cap*k) (ht:gJ.toList.take (n*k)=cx++cy)
theorem aeI(hE:ak P E){T ty e:TypeId}{t:Ty}(hT:E.ty T=some (.sl e t))(hk:0<t.cells)(oM:E.bytes e≠0){xs ys:List (El t)}{vb vx:Value}{pl:Place}
 (b7:bB X pl e t.cells xs.length vb) {cx cy:List Value} (rx:bm X (.arr xs.length t) xs cx) (sx:∀g m c,vb= .slice (some ⟨g,0,none⟩) m c->∀(i:Nat) v,cx[i]? =some v->X.aB ((⟨g,0,none⟩:Addr).add i) v)
 (ry:bm X (.arr ys.length t) ys cy) (hvx:∃A c,vx= .slice A ys.length c/\(A=none->ys=[])/\∀ad,A=some ad->∀(i:Nat) v,cy[i]? =some v->X.aB (ad.add i) v)
 (hbound:(xs.length+ys.length)*E.bytes e<=140737488355328):
 ∃v' w',(zdc #[T,T] ty #[vb,vx]).run P X.w= .ok v' w'/\Grown X.w w' e t.cells vb v' cx cy (xs.length+ys.length)/\(v'= .slice none 0 0->xs.length+ys.length=0):=by
 obtain⟨hu,he⟩:=(hE.ty T _ hT).dJ;obtain⟨i,hi,cm,gN,hz⟩:=(hE.ty e t he).info;have hzs:(er t (zr t)).cells.size=t.cells:=by rw[yf (uL X t)];simp [xD]
 have Ar:cx.length=xs.length*t.cells:=rx.2.1;have wQ:cy.length=ys.length*t.cells:=ry.2.1;have h1:∀u∈cy,u.oneCell'=true:=ry.one;have hle:xs.length+ys.length<=140737488355328:=Nat.le_trans (Nat.le_mul_of_pos_right _ (Nat.pos_of_ne_zero oM)) hbound;have EA:xs.length+ys.length<=maxLen:=by simp only[maxLen];omega
 obtain⟨A,c,rfl,hA,Nz⟩:=hvx;cases A with
 |none=>
  have tO:=hA rfl;subst tO;have hcy:cy=[]:=zam (by simpa using wQ);subst hcy;rcases b7 with⟨rfl,hn⟩|⟨g,cap,cur,rfl,hg,Ry,uB,eU,how⟩
  ·refine⟨.slice none 0 0,X.w,?_,.same rfl rfl rfl,λ_=>by simp [hn]⟩;simp [zdc,run_underlying hu,sizeOf,typeInfo,hi,zcR,zbI]
  ·refine⟨_,X.w,?_,.same rfl rfl rfl,λe=>by cases e⟩;simp [zdc,run_underlying hu,sizeOf,typeInfo,hi,zcR,zbI,Ry,storeCells]
 |some ad=>
  have hny:∀j u,cy[j]? =some u->X.w.cell? (ad.add j)=some u:=λj u hj=>(Nz ad rfl j u hj).2.1;have mW:∀(old:Nat),(cx.toArray++cy.toArray++Builtin.zeroCells (er t (zr t)).cells (grownCap X.w (xs.length+ys.length) old e-(xs.length+ys.length))).size=grownCap X.w (xs.length+ys.length) old e*t.cells/\
   (cx.toArray++cy.toArray++Builtin.zeroCells (er t (zr t)).cells (grownCap X.w (xs.length+ys.length) old e-(xs.length+ys.length))).toList.take ((xs.length+ys.length)*t.cells)=cx++cy:=by
   intro old;have hge:=grownCap_ge X.w (xs.length+ys.length) old e;refine⟨?_,?_⟩
   ·simp only[Array.size_append,zdl,size_zeroCells,hzs,Ar,wQ,<-zaz];congr 1;omega
   ·have hl:(cx++cy).length=(xs.length+ys.length)*t.cells:=by rw[th,Ar,wQ,zaz]
    rw[<-hl];simp only[zbe];exact zcF
  rcases b7 with⟨rfl,hn⟩|⟨g,cap,cur,rfl,hg,Ry,uB,eU,how⟩
  ·have Am:cx=[]:=zam (by rw[Ar,hn,Nat.zero_mul]);subst Am;by_cases hm:ys.length=0
   ·have hcy:cy=[]:=zam (by rw[wQ,hm,Nat.zero_mul]);subst hcy;refine⟨.slice none 0 0,X.w,?_,.same rfl rfl rfl,λ_=>by omega⟩;simp [zdc,run_underlying hu,sizeOf,typeInfo,hi,zcR,zbI,hm,loadCells,loadCellsFrom]
   ·have EU:xs.length=0:=hn;rw[EU,zat] at hbound hle EA;have hr:=run_append_nil (P:=P) X.w T ty e i (er t (zr t)) hu hi hz ad ys.length c cy (by rw[cm];exact wQ) hny (by omega) (by omega) (by rw[gN];omega);obtain⟨c1,c2⟩:=mW 0;have hge:=grownCap_ge X.w (xs.length+ys.length) 0 e;have uB:=grownCap_le_maxLen X.w (xs.length+ys.length) 0 e (by rw[EU,zat];exact EA);refine⟨_,_,hr,.new (grownCap X.w (xs.length+ys.length) 0 e) _ (by rw[EU,zat]) hge uB ?_ c1 c2,λe=>by cases e⟩;rw[EU,zat];simp
  ·by_cases nY:xs.length+ys.length<=cap
   ·have dv:xs.length*i.size+cy.length<=cur.size:=by rw[cm,wQ,eU,<-zaz];exact zai _ nY
    have hr:=run_append_room (P:=P) X.w T ty e i hu hi g xs.length cap cur hg ad ys.length c cy (by rw[cm];exact wQ) hny h1 nY dv;refine⟨_,_,hr,.room g cap cur _ ⟨_,rfl⟩ hg rfl nY uB rfl ?_ ?_,λe=>by cases e⟩
    ·simp only[zdl,th,Of,zaD,zb9];omega
    ·have nZ:cur.toList.take (xs.length*i.size)=cx:=by
      rw[cm];apply zaF;intro q;by_cases hq:q<xs.length*t.cells
      ·rw[zae,if_pos hq];have RU:=ks (l:=cx) (i:=q) (by rw[Ar];exact hq);have:=(sx g _ _ rfl q _ RU).2.1;rw[jv,zat] at this;simp only[zaP,hg] at this;rw[RU];simpa using this
      ·rw[IT (by rw[Of];omega),IT (by omega)]
     have hl:(cx++cy).length=(xs.length+ys.length)*t.cells:=by rw[th,Ar,wQ,zaz]
     rw[nZ,<-hl];simp only[zcF]
   ·have holds:∀j u,cx[j]? =some u->X.w.cell? ((⟨g,0,none⟩:Addr).add j)=some u:=λj u hj=>(sx g _ _ rfl j u hj).2.1;have hr:=run_append_grow (P:=P) X.w T ty e i (er t (zr t)) hu hi hz ⟨g,0,none⟩ xs.length cap cx (by rw[cm];exact Ar) holds ad ys.length c cy (by rw[cm];exact wQ) hny (by omega) (by omega) (growslice_fits (by omega) (by rw[gN];exact hbound));obtain⟨c1,c2⟩:=mW cap;exact⟨_,_,hr,.new _ _ rfl (grownCap_ge _ _ _ _) (grownCap_le_maxLen _ _ _ _ EA) rfl c1 c2,λe=>by cases e⟩
theorem bB.aai{X:aw}{s:State}{pl:Place}{e:TypeId}{k n:Nat}{v:Value}(h:bB X pl e k n v)(hf:¬dg s pl)(q:Place):∃Y,eI s X Y/\bB Y q e k n v:=by
 rcases h with h|⟨g,cap,cur,h1,h2,h3,h4,h5,h6⟩
 ·exact⟨X,eI.refl s X,.inl h⟩
 ·refine⟨{X with ow:=λg'=>if g'=g then .row q (n*k) else X.ow g'},⟨rfl,rfl,λg'=> ?_⟩,.inr ⟨g,cap,cur,h1,h2,h3,h4,h5,by simp⟩⟩;by_cases e:g'=g
  ·subst e;exact .inr ⟨pl,_,q,h6,hf,by simp⟩
  ·exact .inl (by simp [e])
theorem arf{R:Type}{t t':Ty}{x:El t'}{w:List (List Nat)}{K:El t->Option R}{z:R}(h:(SV.aq t' x w).el t K=some z):∃he:t'.cB t=true,K (Ty.cast he x)=some z:=by
 simp only[SV.el] at h;split at h
 ·rename_i he;exact⟨he,h⟩
 ·cases h
theorem ad7(hE:ak P E)(hr:Rel X s a){ops:List Oper}{ea:Array Operand}{ts:Array TypeId}(ho:o.op= .call ⟨.builtin .append,ea,ts⟩){C:FuncId->cc Out}(h:act E C ops o s some=some u):aJ P X s a o u:=by
 unfold act at h;simp only[ho] at h;split at h
 case h_2=>cases h
 rename_i b x T U tN Ge;have has:ea= #[b,x]:=by rw[<-zaC (xs:=ea),tN]
 have jd:ts= #[T,U]:=by rw[<-zaC (xs:=ts),Ge]
 subst has jd;have hb:=hr.aI b;have hx:=hr.aI x;unfold zez at h;split at h
 case isTrue=>cases h
 rename_i hTU;have hTU:T=U:=by
  have:T.beq U=true:=by cases wG:xz T U<;>simp_all
  exact DD this
 subst hTU;split at h
 case h_2=>cases h
 rename_i e t hT;split at h
 case isTrue=>cases h
 rename_i h0;have h0:xz (E.bytes e) 0=false/\xz t.cells 0=false:=by cases h1:xz (E.bytes e) 0<;>cases h2:xz t.cells 0<;>simp_all
 have oM:E.bytes e≠0:=λe0=>by rw[e0] at h0;simp at h0
 have hk:0<t.cells:=by
  rcases Nat.eq_zero_or_pos t.cells with e0|e0
  ·rw[e0] at h0;simp at h0
  ·exact e0
 have key:∀(xs ys:List (El t)) (cl:List (Nat×Nat)) (pl:Place),¬dg (s.close cl) pl->bB X pl e t.cells xs.length (a.eval b)->bm X (.sl e t) xs [a.eval b]->bm X (.sl e t) ys [a.eval x]->
  (xs.length+ys.length)*E.bytes e<=140737488355328->aJ P X s a o {v:=[.aq (.sl e t) (xs++ys:List (El t)) [[]]],cl:=cl}:=by
  intro xs ys cl pl Ny b7 G7 my hbound;obtain⟨A1,c1,ES,E9⟩:=G7;have e1:a.eval b= .slice A1 xs.length c1:=by simpa using ES
  obtain⟨A2,c2,GN,Sj⟩:=my;have e2:a.eval x= .slice A2 ys.length c2:=by simpa using GN
  obtain⟨_,_,cx,rx,_,sx⟩:=zcp (X:=X) (e:=e) (show bm X (.sl e t) xs [.slice A1 xs.length c1] from⟨A1,c1,rfl,E9⟩);obtain⟨_,_,cy,ry,ny,sy⟩:=zcp (X:=X) (e:=e) (show bm X (.sl e t) ys [.slice A2 ys.length c2] from⟨A2,c2,rfl,Sj⟩);have sx':∀g m c,a.eval b= .slice (some ⟨g,0,none⟩) m c->∀(i:Nat) v,cx[i]? =some v->X.aB ((⟨g,0,none⟩:Addr).add i) v:=by
   intro g m c hv;rw[e1] at hv;injection hv with hA
   exact sx _ hA
  obtain⟨v',w',aZ,Gs,wT⟩:=aeI (ty:=o.type) hE hT hk oM b7 rx sx' ry ⟨A2,c2,e2,ny,sy⟩ hbound;have Ar:cx.length=xs.length*t.cells:=rx.2.1;have wQ:cy.length=ys.length*t.cells:=ry.2.1;have RM:(execOp a.eval o).run P X.w= .ok (.value v') w':=by simp only[execOp,ho,resolve,invoke,builtin,BY,GP,fv,zeq,zaq,zbK,aZ]
  have fin:∀(Y:aw),Y.w=w'->Mod (s.close cl) X Y->bm Y (.arr (xs.length+ys.length) t) (xs++ys:List (El t)) (cx++cy)->bB Y (.c (o.dst.getD 0) 0 []) e t.cells (xs.length+ys.length) v'->
   bm Y (.sl e t) (xs++ys:List (El t)) [v']->aJ P X s a o {v:=[.aq (.sl e t) (xs++ys:List (El t)) [[]]],cl:=cl}:=by
   intro Y hY hm fc ho2 GH;refine⟨Y,v',.inl (by rw[hY];exact RM),hm.ext,((hr.close cl).mod hm).fin ⟨[v'],GH,rfl,XE ?_⟩ (λid t p GD=>by simp at GD)⟩;rw[th];exact ho2
  cases Gs with
  |same h1 h2 h3=>
   subst h2;have hy0:ys=[]:=by
    have:ys.length=0:=by
     rcases Nat.mul_eq_zero.1 (show ys.length*t.cells=0 by rw[<-wQ,h3];rfl) with h|h
     ·exact h
     ·omega
    exact zam this
   subst hy0;obtain⟨Y,nh,hO2⟩:=bB.aai (s:=s.close cl) b7 Ny (.c (o.dst.getD 0) 0 []);refine fin Y (by rw[nh.w,h1]) nh.mod ?_ (by simpa using hO2) ?_
   ·have:=(NM rx ry)
    exact this.aj (λ_ _=>nh.aB.1)
   ·rw[List.append_nil];exact bm.aj (λ_ _=>nh.aB.1) (show bm X (.sl e t) xs [a.eval b] from⟨A1,c1,ES,E9⟩)
  |new cap gJ hv hn hm hw hs ht=>
   let Y:aw:=⟨w',λg=>if g=X.w.heap.size then .row (.c (o.dst.getD 0) 0 []) ((xs.length+ys.length)*t.cells) else X.ow g,X.β⟩
   have Aq:fq (s.close cl) X Y:=⟨by simp [Y,hw],by simp only[Y,hw];rfl,by simp only[Y,hw];rfl,by simp only[Y,hw];rfl,λg hg=>⟨by simp only[Y];rw[if_neg (by omega)],by simp only[Y,hw];exact zdR _ _ _ hg⟩,rfl,λ_ _ _=>rfl⟩
   have aF:Y.w.heap[X.w.heap.size]? =some (.cells gJ e (0,0)):=by simp only[Y,hw];exact heap_alloc_new X.w.drew _
   have how:Y.ow X.w.heap.size= .row (.c (o.dst.getD 0) 0 []) ((xs.length+ys.length)*t.cells):=by simp [Y]
   have aO:=(NM rx ry).aj (λ_ _=>Aq.aB);refine fin Y rfl Aq.mod aO (.inr ⟨_,cap,gJ,hv,aF,hn,hm,hs,how⟩) ?_;rw[hv,<-th];exact zmh (cs:=cx++cy) aF (by rw[th];exact how) (by rw[th];exact ht) (by rw[th];exact aO) (by rw[th];exact hn)
  |room g cap cur gJ lH hg hv hn hm hw hs ht=>
   obtain⟨m,Gh⟩:=lH;rcases b7 with⟨hz,_⟩|⟨g',Af,QN,jS,Nu,Ry,uB,eU,how⟩
   ·rw[hz] at Gh;cases Gh
   have Gr:g'=g:=by rw[Gh] at jS;injection jS with h1;injection h1 with h1;injection h1 with h1;exact h1.symm
   subst Gr;have aak:QN=cur:=by rw[hg] at Nu;cases Nu;rfl
   subst aak;have ap:=yp hg;let Y:aw:=⟨w',λk=>if k=g' then .row (.c (o.dst.getD 0) 0 []) ((xs.length+ys.length)*t.cells) else X.ow k,X.β⟩
   have aF:Y.w.heap[g']? =some (.cells gJ e (0,0)):=by simp only[Y,hw];exact setRow_heap X.w g' QN gJ e (0,0) hg
   have pM:Y.ow g'= .row (.c (o.dst.getD 0) 0 []) ((xs.length+ys.length)*t.cells):=by simp [Y]
   have eO:∀ad v,X.aB ad v->Y.aB ad v:=by
    intro ad v kB;by_cases heq:ad.block=g'
    ·obtain⟨k1,k2,k3⟩:=kB;rw[heq,how] at k3;have k3:ad.off<xs.length*t.cells:=k3;have had:ad=(⟨g',0,none⟩:Addr).add ad.off:=by rw[jv,zat];cases ad;simp_all
     have RU:=ks (l:=cx) (i:=ad.off) (by rw[Ar];exact k3);have Am:=(sx' g' _ _ Gh ad.off _ RU).2.1;rw[<-had,k2] at Am;refine⟨k1,?_,?_⟩
     ·have hq:gJ.toList[ad.off]? =some v:=by have:=congrArg (λl=>l[ad.off]?) ht;simp only[zae] at this;have hle:xs.length*t.cells<=(xs.length+ys.length)*t.cells:=zai _ (zcx _ _);rw[if_pos (by omega),zap (by rw[Ar];exact k3),RU] at this;rw[this];exact Am.symm
      simp only[zaP,heq,aF,k1];simpa using hq
     ·rw[heq,pM];have hle:xs.length*t.cells<=(xs.length+ys.length)*t.cells:=zai _ (zcx _ _);show ad.off<_;omega
    ·refine⟨kB.1,?_,?_⟩
     ·have:=kB.2.1;simp only[zaP,Y,hw] at this⊢;rw[setRow_other X.w g' ad.block gJ heq];exact this
     ·simp only[Y];rw[if_neg heq];exact kB.2.2
   have GF:Mod (s.close cl) X Y:=⟨eO,by simp [Y,hw],by simp only[Y,hw];rfl,by simp only[Y,hw];rfl,by simp only[Y,hw];rfl,rfl,λ_ _ _=>rfl,λk hk=>by
    by_cases heq:k=g'
    ·subst heq;exact .inr ⟨pl,_,how,Ny⟩
    ·refine .inl ⟨by simp only[Y];rw[if_neg heq],?_⟩;simp only[Y,hw];exact setRow_other X.w g' k gJ heq⟩
   have aO:=(NM rx ry).aj eO;refine fin Y rfl GF aO (.inr ⟨_,cap,gJ,hv,aF,hn,hm,hs,pM⟩) ?_;rw[hv,<-th];exact zmh (cs:=cx++cy) aF (by rw[th];exact pM) (by rw[th];exact ht) (by rw[th];exact aO) (by rw[th];exact hn)
 split at h
 ·rename_i jO;rw[jO] at hb;obtain⟨ys,h,tO⟩:=hN h;cases hd:decide (aa ys*E.bytes e<=140737488355328) with
  |false=>rw[hd] at h;cases h
  |true=>
   rw[hd] at h;cases h;obtain⟨cs,my,ev⟩:=tO X _ _ hx;have Gh:a.eval b= .slice none 0 0:=hb;have wV:cs=[a.eval x]:=by obtain⟨A,c,eU,_⟩:=my;rw[ev,eU];rfl
   have:=key [] ys [] (.r 0 []) (λhf=>hf) (.inl ⟨Gh,rfl⟩) (by rw[Gh];exact⟨none,0,rfl,zag _,λj x hj=>by simp at hj⟩) (by rw[<-wV];exact my) (by simpa using of_decide_eq_true hd);simpa using this
 ·rename_i t' xs0 AR jO;rw[jO] at hb;split at h
  case isTrue=>cases h
  rename_i Rh;have Rh:hP AR []=true:=by cases wG:hP AR []<;>simp_all
  obtain⟨heq,h⟩:=arf h;have:=Ty.aK heq;subst this;obtain⟨ys,h,tO⟩:=hN h;cases hd:decide ((aa (Ty.cast heq xs0)+aa ys)*E.bytes e<=140737488355328) with
  |false=>rw[hd] at h;cases h
  |true=>
   rw[hd] at h;cases h;obtain⟨cs,my,ev⟩:=tO X _ _ hx;have cQ:=Fm Rh;obtain⟨i,rfl⟩:=apQ jO (λe=>by rw[e] at cQ;cases cQ);obtain⟨cs1,r1,ev1,hO⟩:=hb;have wV:cs=[a.eval x]:=by obtain⟨A,c,eU,_⟩:=my;rw[ev,eU];rfl
   have EM:cs1=[a.eval (.tmp i)]:=by obtain⟨A,c,eU,_⟩:=r1;rw[ev1,eU];rfl
   obtain⟨e',t'',xs',v',_,g1,g2,g3⟩:=hO [] cQ;simp only[El.get,AI,Sigma.mk.injEq,Ty.sl.injEq] at g1;obtain⟨⟨rfl,rfl⟩,g1⟩:=g1;cases g1;have jS:v'=a.eval (.tmp i):=by rw[EM] at g2;simpa [Ty.off] using g2.symm
   rw[jS] at g3;exact key xs0 ys [(i,0)] (.c i 0 []) dg.close g3 (by rw[<-EM];exact r1) (by rw[<-wV];exact my) (of_decide_eq_true hd)
 ·cases h
end Go.Ref

namespace Go.Ref
open Go
variable {P:Program} {E:Env} {X:aw} {s:State} {a:Act} {o:Oper} {u:Out}
def aw.obj(X:aw)(r:Nat)(b:Obj):aw:={X with w:={X.w with heap:=X.w.heap.setIfInBounds r b}}
theorem NS{r g:Nat}{b:Obj}(h:g≠r):(X.obj r b).w.heap[g]? =X.w.heap[g]? :=by simp [aw.obj,Ne.symm h]
theorem V4{r:Nat}{b b':Obj}(h:X.w.heap[r]? =some b'):(X.obj r b).w.heap[r]? =some b:=(MapKept.heap_set h).1
theorem Ma{r id:Nat}{b:Obj}(h:X.ow r= .box id){ad:Addr}{v:Value}(hs:X.aB ad v):(X.obj r b).aB ad v:=by
 have bR:ad.block≠r:=λe=>by have:=hs.2.2;rw[e,h] at this;exact this
 refine⟨hs.1,?_,hs.2.2⟩;have:=hs.2.1;simp only[zaP] at this⊢;rw[NS bR];exact this
theorem XC{r id:Nat}{b:Obj}(h:X.ow r= .box id):Ext X (X.obj r b) where
 aB:=λ_ _=>Ma h
 size:=by simp [aw.obj]
 os:=rfl
 tape:=rfl
 output:=rfl
 β0:=rfl
 still:=λg _ bY=>by
  have bR:g≠r:=λe=>by rw[e,h] at bY;exact bY
  exact⟨rfl,NS bR⟩
theorem bB.obj{r id:Nat}{b:Obj}(h:X.ow r= .box id){pl:Place}{e:TypeId}{k n:Nat}{v:Value}(ho:bB X pl e k n v):bB (X.obj r b) pl e k n v:=by
 rcases ho with ho|⟨g,cap,cur,h1,h2,h3,h4,h5,h6⟩
 ·exact .inl ho
 ·have bR:g≠r:=λe=>by rw[e,h] at h6;cases h6
  exact .inr ⟨g,cap,cur,h1,(NS bR).trans h2,h3,h4,h5,h6⟩
theorem bp.obj{r id:Nat}{b:Obj}(h:X.ow r= .box id){pl:List Nat->Place}{t:Ty}{x:El t}{c:List Value}{own:List (List Nat)}(ho:bp X pl t x c own):bp (X.obj r b) pl t x c own:=λp hp=>by obtain⟨e,t',xs,v,g0,g1,g2,g3⟩:=ho p hp;exact⟨e,t',xs,v,g0,g1,g2,g3.obj h⟩
theorem aC.obj{r id:Nat}{b:Obj}(h:X.ow r= .box id){pl:List Nat->Place}{sv:SV}{v:Value}(hk:∀bf c d j,sv= .bF bf c d j->bf≠id)(hr:aC X pl sv v):aC (X.obj r b) pl sv v:=by
 cases sv with
 |aq t x own=>obtain⟨c,h1,h2,h3⟩:=hr;exact⟨c,h1.aj (λ_ _=>Ma h),h2,h3.obj h⟩
 |view t x=>obtain⟨ad,c,h1,h2,h3,h4⟩:=hr;exact⟨ad,c,h1,h2,h3.aj (λ_ _=>Ma h),λi u hi=>Ma h (h4 i u hi)⟩
 |cap f t x u y=>exact uf (λ_ _=>Ma h) hr
 |bF bf c d j=>
  obtain⟨r',h1,h2,h3⟩:=hr;have bR:r'≠r:=λe=>by rw[e,h] at h2;injection h2 with h2;exact hk bf c d j rfl h2.symm
  refine⟨r',h1,h2,?_⟩;simp only[zaP] at h3⊢;rw[show(X.obj r b).w.heap[r']? =X.w.heap[r']? from NS bR];exact h3
 |_=>exact hr
theorem Rel.obj{r id:Nat}{B B':bH}{b:Obj}(hr:Rel X s a)(hb:s.bs[id]? =some (some B))(hβ:X.β id=some r)(h:X.ow r= .box id)(hB:bK (X.obj r b) id r B')(hg:B.t.ff=false\/ []∈B.own):Rel (X.obj r b) (s.aE (some (id,B'))) a where
 size:=hr.size
 ia:=by simpa [State.aE] using hr.ia
 bZ:=λi l v hl hv=>(hr.bZ i l v hl hv).jD λj sv u hm kB=>kB.obj h (λbf c d k e e2=>hr.pS hb hg i l c d k hl (e2▸e▸IH hm))
 boxes:=λbf B2 df=>by
  have ap:id<s.bs.length:=(AS.1 hb).1;simp only[State.aE,vc] at df;by_cases e:id=bf
  ·subst e;rw[if_pos rfl,if_pos ap] at df;cases df;exact⟨r,hβ,hB⟩
  ·rw[if_neg e] at df;obtain⟨r',h1,h4,h2⟩:=hr.boxes bf B2 df;have bR:r'≠r:=λe2=>by rw[e2,h] at h4;cases h4;exact e rfl
   exact⟨r',h1,h4,h2.move (λ_ _=>Ma h) (NS bR) (λcs h5=>h5.obj h) λ_ _ g o _ ho hw=>⟨(NS (λe3=>by rw[e3,h] at hw;cases hw)).trans ho,hw⟩⟩
 live:=λi l bf t p hi hm=>by
  have ap:id<s.bs.length:=(AS.1 hb).1;obtain⟨B2,df⟩:=hr.live i l bf t p hi hm;simp only[State.aE,vc];by_cases e:id=bf
  ·subst e;exact⟨B',by rw[if_pos rfl,if_pos ap]⟩
  ·rw[if_neg e];exact⟨B2,df⟩
 defers:=hr.defers
 bF:=hr.bF.aE (hr.pS hb hg)
def aw.lU(X:aw)(b:Obj)(w:Ow)(β:Nat->Option Nat):aw:={w:=X.w.alloc b,ow:=λg=>if g=X.w.heap.size then w else X.ow g,β}
theorem Us(X:aw)(s:State)(b:Obj)(w:Ow)(β:Nat->Option Nat)(hβ0:β 0=X.β 0)(hβ:∀(id:Nat) B,s.bs[id]? =some (some B)->β id=X.β id):fq s X (X.lU b w β) where
 size:=by simp [aw.lU]
 os:=rfl
 tape:=rfl
 output:=rfl
 nJ:=λg hg=>⟨by simp only[aw.lU];rw[if_neg (by omega)],zdR _ _ _ hg⟩
 β0:=hβ0
 β:=hβ
theorem zlh(hr:Rel X s a){t p:Ty}{x:El t}{b:Obj}{v:Value}(aZ:(execOp a.eval o).run P X.w= .ok (.value v) (X.w.alloc b))
 (Ri:∀Y:aw,(∀ad v,X.aB ad v->Y.aB ad v)->Y.w.heap[X.w.heap.size]? =some b->∀pl,dN Y X.w.heap.size pl t x []) (pP:oi p [] X.w.heap.size v) (h:lz s o.dst t x p some=some u):aJ P X s a o u:=by
 unfold lz at h;split at h
 case h_2=>cases h
 rename_i d hd;split at h
 case h_2=>cases h
 rename_i hb;cases h;let β:Nat->Option Nat:=λid=>if id=d+1 then some X.w.heap.size else X.β id;have ap:d+1<s.bs.length:=(AS.1 hb).1;have hk:fq s X (X.lU b (.box (d+1)) β):=Us X _ _ _ _ (by show(if _ then _ else _)=_;rw[if_neg (by omega)]) (λid B hB=>by show(if id=d+1 then _ else _)=_;rw[if_neg (λe=>by rw[e,hb] at hB;cases hB)])
 have bS:bK (X.lU b (.box (d+1)) β) (d+1) X.w.heap.size ⟨t,x,[]⟩:=⟨by simp [aw.lU],Ri _ (λ_ _=>hk.aB) (heap_alloc_new X.w _) _⟩
 have hβd:β (d+1)=some X.w.heap.size:=by show(if d+1=d+1 then _ else _)=_;rw[if_pos rfl]
 have fc:=(hr.dy hk).fQ ap hb hβd bS;refine⟨X.lU b (.box (d+1)) β,v,.inl aZ,hk.ext,?_⟩;rw[hd];refine fc.put (λd' e=> ?_) (λid t' q hm=> ?_)
 ·cases e;exact⟨X.w.heap.size,hβd,pP⟩
 ·have:id=d+1:=by have:=hm;simp at this;exact this.1
  subst this;exact⟨⟨t,x,[]⟩,by simp [State.aE,vc,ap]⟩
def ln:(t:Ty)->El t->Value
 | .bool,b=> .bool b
 | .int k,n=> .int k n
 | .str,x=> .string x
 |_,_=>zaj
def Ty.jj:Ty->Bool
 | .bool| .int _| .str=>true
 |_=>false
theorem zwg{t:Ty}(hk:t.jj=true){x:El t}{v:Value}(h:eV X t x v):v=ln t x:=by
 obtain⟨cs,h1,h2⟩:=h;cases t<;>simp [Ty.jj] at hk
 ·rw[h2,yi h1];rfl
 ·rw[h2,mG h1];rfl
 ·rw[h2,oJ h1];rfl
theorem YK{T:TypeId}{t:Ty}(hE:ak P E)(hT:E.ty T=some t)(hk:t.jj=true)(x:El t):∃d,P.underlying T=some d/\zgT d (ln t x)/\∀y,zfO d (ln t x) (ln t y)=some (gL t x y):=by
 have hu:=(hE.ty T t hT).dJ;cases t<;>simp [Ty.jj] at hk
 ·have hu:P.underlying T=some .bool:=hu;exact⟨_,hu,trivial,λy=>by cases x<;>cases y<;>rfl⟩
 ·have hu:P.underlying T=some (.int _):=hu;refine⟨_,hu,by simp [zgT,ln],λy=> ?_⟩;simp only[zfO,ln,if_true,gL];congr 1
 ·have hu:P.underlying T=some .string:=hu;refine⟨_,hu,trivial,λy=> ?_⟩;simp only[zfO,ln,gL];congr 1;by_cases e:x=y
  ·rw[decide_eq_true e];exact(MapKept.bytes_beq _ _).2 e
  ·rw[decide_eq_false e];cases hb:(x==y) with
   |false=>rfl
   |true=>exact absurd ((MapKept.bytes_beq _ _).1 hb) e
theorem VD{kt vt:Ty}{d:TypeDesc}{k:El kt}(hk:kt.jj=true)(hs:∀y,zfO d (ln kt k) (ln kt y)=some (gL kt k y)):∀(es:List MapEntry) (xs:List (El kt×El vt)) (i:Nat),es.length=xs.length->
 (∀(i:Nat) q e,xs[i]? =some q->es[i]? =some e->eV X kt q.1 e.key/\eV X vt q.2 e.val)->
 (fH (gL kt) xs k=false/\fG (gL kt) (El.b9 vt) xs k=El.b9 vt/\zgU d (ln kt k) es i=some none)\/(fH (gL kt) xs k=true/\∃j v,zgU d (ln kt k) es i=some (some (j,v))/\eV X vt (fG (gL kt) (El.b9 vt) xs k) v)
 | [],[],i,_,_=> .inl ⟨rfl,rfl,rfl⟩
 |e::es,q::xs,i,hl,hp=>by
  obtain⟨h1,h2⟩:=hp 0 q e rfl rfl;have hke:=zwg hk h1;have jR:=hs q.1;rw[<-hke] at jR;simp only[zgU,jR,fH,fG];cases heq:gL kt k q.1 with
  |true=>exact .inr ⟨rfl,i,e.val,rfl,h2⟩
  |false=>exact VD hk hs es xs (i+1) (by simpa using hl) (λi q e hq he=>hp (i+1) q e (by simpa using hq) (by simpa using he))
 | [],_::_,_,hl,_=>by simp at hl
 |_::_,[],_,hl,_=>by simp at hl
theorem S3:∀{t:Ty},t.iD=true->t.depth<=2
 | .unit,_=>by decide
 | .pair (.int _) b,h=>by have:=S3 (t:=b) h;simp only[Ty.depth];omega
theorem Xv:∀{t:Ty},t.iD=true->∀x y:El t,dV t x y=some (xX t x y)
 | .unit,_,_,_=>rfl
 | .pair (.int _) b,h,x,y=>by have:=Xv (t:=b) h x.2 y.2;simp only[dV,this,xX]
theorem iq(hE:ak P E){xs:Array Value}(w:World)(em:Bool)(n:Nat):
 ∀(fl:List Field) (t:Ty) (off:Nat),j9 E fl t off->t.iD=true->∀(x:El t) (c1:List Value),bm X t x c1->(xs.toList.drop off).take t.cells=c1->
  (forIn fl () λ(f:Field) (_:Unit)=>(if f.name≠ "_" then do
    let __do_lift<-part f.type xs f.offset
    zfb em (n+1) f.type __do_lift
    pure (ForInStep.yield ()) else pure (ForInStep.yield ()):Sem (ForInStep Unit))).run P w= .ok () w:=by
 intro fl
 induction fl with
 |nil=>intro t off hf hi x c1 h1 h3;simp [List.forIn_nil]
 |cons f fl ihl=>
  intro t off hf hi x c1 h1 h3;cases t<;>simp only[j9] at hf<;>try exact hf.elim
  rename_i ta tb;obtain⟨ho,NA,hn,bN⟩:=hf;obtain⟨ca,cb,e1,ra,rb⟩:=h1;have la:=ra.len;have t1:(xs.toList.drop off).take ta.cells=ca:=by have:=congrArg (λl=>l.take ta.cells) (h3.trans e1);simp only[List.take_take,Ty.cells] at this;rw[zaQ (zcx _ _),<-la,zcF] at this;rw[<-la];exact this
  have u1:(xs.toList.drop (off+ta.cells)).take tb.cells=cb:=by have:=congrArg (λl=>l.drop ta.cells) (h3.trans e1);simp only[Ty.cells] at this;rw[List.drop_take,zaS,List.drop_drop,<-la,List.drop_left] at this;rw[<-la];exact this
  have pN:=Mb hE NA ra (all:=xs) (off:=f.offset) (by rw[ho];exact t1) w;cases ta<;>simp [Ty.iD] at hi;rename_i k;have hu:P.underlying f.type=some (.int k):=(hE.ty f.type _ NA).dJ;have Ns:(zfb em (n+1) f.type (er (.int k) ca)).run P w= .ok () w:=by rw[mG ra];exact zgJ hu (by simp [zgT]) em n
  rw[List.forIn_cons];simp only[hn,ne_eq,not_false_eq_true,if_true,BY,pN,Ns,fv,GP];exact ihl tb _ bN hi x.2 cb rb u1
theorem Ut{T:TypeId}{t:Ty}(hE:ak P E)(hT:E.ty T=some t)(hk:t.isKey=true){x:El t}{v:Value}(h:eV X t x v)(em:Bool)(w:World):(zfb em 10000 T v).run P w= .ok () w:=by
 cases h1:t.jj with
 |true=>obtain⟨d,hd,hik,_⟩:=YK hE hT h1 x;rw[zwg h1 h];exact zgJ hd hik em 9999
 |false=>have hu:=(hE.ty T t hT).dJ;cases t<;>simp [Ty.isKey,Ty.jj] at hk h1;rename_i ta tb;obtain⟨fs,je,jC,hu3,_⟩:=hu;obtain⟨cs,hr,rfl⟩:=h;rw[kz rfl];unfold zfb;simp only[BY,run_underlying je,fv];rw[<-Array.forIn_toList];have:=iq (X:=X) hE (xs:=cs.toArray) w em 9998 fs.toList (.pair ta tb) 0 jC hk x cs hr (by have:=hr.len;simp only[List.drop_zero];rw[<-this];exact List.take_length);exact(congrArg (λr=>Result.andThen r (λa w'=>Sem.run P (pure ()) w')) this).trans (by simp)
theorem zta(hE:ak P E){T:TypeId}{kt vt:Ty}(hT:E.ty T=some kt)(hk:kt.iD=true){k:El kt}{v:Value}(h:eV X kt k v)(w:World):∀(es:List MapEntry) (xs:List (El kt×El vt)) (i:Nat),es.length=xs.length->
 (∀(i:Nat) q e,xs[i]? =some q->es[i]? =some e->eV X kt q.1 e.key/\eV X vt q.2 e.val)->
 (fH (xX kt) xs k=false/\fG (xX kt) (El.b9 vt) xs k=El.b9 vt/\(zer T v es i).run P w= .ok none w)\/(fH (xX kt) xs k=true/\∃j u,(zer T v es i).run P w= .ok (some (j,u)) w/\eV X vt (fG (xX kt) (El.b9 vt) xs k) u)
 | [],[],i,_,_=> .inl ⟨rfl,rfl,by simp [zer]⟩
 |e::es,q::xs,i,hl,hp=>by
  obtain⟨h1,h2⟩:=hp 0 q e rfl rfl;obtain⟨c1,r1,rfl⟩:=h;obtain⟨c2,r2,e2⟩:=h1;have heq:(Op.equal T (er kt c1) e.key).run P w= .ok (xX kt k q.1) w:=by rw[e2];exact T7 (X:=X) hE w 10000 kt T hT (Nat.le_trans (S3 hk) (by decide)) k q.1 c1 c2 _ r1 r2 (Xv hk k q.1)
  unfold zer;simp only[BY,heq,fv,fH,fG];cases heq:xX kt k q.1 with
  |true=>exact .inr ⟨rfl,i,e.val,by simp,h2⟩
  |false=>exact zta hE hT hk ⟨c1,r1,rfl⟩ w es xs (i+1) (by simpa using hl) (λi q e hq he=>hp (i+1) q e (by simpa using hq) (by simpa using he))
 | [],_::_,_,hl,_=>by simp at hl
 |_::_,[],_,hl,_=>by simp at hl
theorem VV(hE:ak P E){T:TypeId}{kt vt:Ty}(hT:E.ty T=some kt)(hk:kt.isKey=true){k:El kt}{v:Value}(h:eV X kt k v)(w:World)(es:List MapEntry)(xs:List (El kt×El vt))(hl:es.length=xs.length)
 (hp:∀(i:Nat) q e,xs[i]? =some q->es[i]? =some e->eV X kt q.1 e.key/\eV X vt q.2 e.val):
 (fH (gL kt) xs k=false/\fG (gL kt) (El.b9 vt) xs k=El.b9 vt/\(Instr.findKey T v es).run P w= .ok none w)\/(fH (gL kt) xs k=true/\∃j u,(Instr.findKey T v es).run P w= .ok (some (j,u)) w/\eV X vt (fG (gL kt) (El.b9 vt) xs k) u):=by
 cases h1:kt.jj with
 |true=>
  obtain⟨d,hd,hik,jR⟩:=YK hE hT h1 k;rw[zwg h1 h];rcases VD (X:=X) h1 jR es xs 0 hl hp with⟨g1,g2,g3⟩|⟨g1,j,u,g3,g4⟩
  ·exact .inl ⟨g1,g2,zgO hd g3⟩
  ·exact .inr ⟨g1,j,u,zgO hd g3,g4⟩
 |false=>have hu:=(hE.ty T kt hT).dJ;cases kt<;>simp [Ty.isKey,Ty.jj] at hk h1;rename_i ta tb;obtain⟨fs,je,_⟩:=hu;have e:=run_findKey_eq (P:=P) w (k:=T) (by rw[je]) v es;have:=zta (X:=X) hE hT hk h w es xs 0 hl hp;rw[e];exact this
theorem S8{T:TypeId}{kt vt:Ty}(hE:ak P E)(h:n8 E T=some (kt,vt)):∃k e,P.underlying T=some (.map k e)/\E.ty k=some kt/\E.ty e=some vt/\kt.isKey=true:=by
 unfold n8 at h;split at h
 case h_2=>cases h
 rename_i k e hm;split at h
 case h_2=>cases h
 rename_i kt' vt' h1 h2;split at h
 case isFalse=>cases h
 rename_i hk;cases h;exact⟨k,e,hE.mp T k e hm,h1,h2,hk⟩
theorem ztm{m:Operand}{kt vt:Ty}{R:Type}{K:Nat->List (El kt×El vt)->Option R}{z:R}(hr:Rel X s a)(h:yy s (s.aI m) kt vt K=some z):
 ∃id B r xs,K id xs=some z/\s.bs[id]? =some (some B)/\X.β id=some r/\X.ow r= .box id/\a.eval m= .map (some r)/\B.t.ff=false/\∃es clock,X.w.heap[r]? =some (.map es clock)/\es.size=xs.length/\
  ∀(i:Nat) (q:El kt×El vt) (e:MapEntry),xs[i]? =some q->es[i]? =some e->eV X kt q.1 e.key/\eV X vt q.2 e.val:=by
 have hx:=hr.aI m;unfold yy at h;split at h
 case h_2=>cases h
 rename_i id kt' vt' hm;rw[hm] at hx;obtain⟨r,hβ,hv⟩:=hx;split at h
 case isFalse=>cases h
 split at h
 case h_2=>cases h
 rename_i B hB;split at h
 case isFalse=>cases h
 rename_i dp;have hb:=sN hB;obtain⟨r',h1,h2,h3⟩:=hr.boxes id B hb;rw[hβ] at h1;cases h1;refine⟨id,B,r,_,h,hb,hβ,h2,hv,by rw[Ty.aK dp];rfl,?_⟩;obtain⟨bt,bx,bo⟩:=B;have e:=Ty.aK dp;simp only at e;subst e;exact h3
theorem ady(hE:ak P E)(hr:Rel X s a){ops:List Oper}{T:TypeId}{rs:Option Operand}(ho:o.op= .makeMap T rs){C:FuncId->cc Out}(h:act E C ops o s some=some u):aJ P X s a o u:=by
 unfold act at h;cases rs with
 |some r=>simp only[ho] at h;cases h
 |none=>
  simp only[ho] at h;split at h
  case h_2=>cases h
  rename_i kt vt hm;refine zlh hr (t:= .aY .mp kt vt) (p:= .aY .mp kt vt) (x:=([]:List (El kt×El vt))) (b:= .map #[] 0) (v:= .map (some X.w.heap.size)) ?_ (λY _ hY pl=>⟨#[],0,hY,rfl,λi q e hq=>by simp at hq⟩) rfl h;simp [execOp,ho,Instr.makeMap]
theorem aea(hE:ak P E)(hr:Rel X s a){ops:List Oper}{T:TypeId}{x i:Operand}{ok:Bool}(ho:o.op= .lookup T x i ok){C:FuncId->cc Out}(h:act E C ops o s some=some u):aJ P X s a o u:=by
 unfold act at h;cases ok with
 |true=>simp only[ho] at h;cases h
 |false=>
  simp only[ho] at h;unfold ml at h;split at h
  case h_2=>cases h
  rename_i kt vt hm;obtain⟨k,e,hu,hk,he,wO⟩:=S8 hE hm;obtain⟨id,B,r,xs,h,hb,hβ,how,hv,hBg,es,clock,aF,dd,fD⟩:=ztm hr h;obtain⟨key,h,hkv⟩:=hN h;cases h;obtain⟨ck,rk,evk⟩:=hkv X _ _ (hr.aI i);have Ns:=Ut hE hk wO (X:=X) (x:=key) ⟨ck,rk,evk⟩ es.isEmpty X.w;rcases VV (X:=X) hE hk wO (k:=key) ⟨ck,rk,evk⟩ X.w es.toList xs (by simpa using dd) (λi q e hq he=>fD i q e hq (by simpa using he)) with⟨g1,g2,hf⟩|⟨g1,j,v,hf,g4⟩
  ·rw[g2];have hz:=zgp (P:=P) hE he X.w;refine aJ.plain hr (v:=er vt (zr vt)) ?_ (FD (uL X vt)) (λ_ _ _ e'=>by cases e');simp only[execOp,ho,BY,Instr.lookup,run_underlying hu,fv,hv,zd3 aF,GP,Ns,hf,hz,zaW,if_false]
  ·obtain⟨cv,rv,ev⟩:=g4;refine aJ.plain hr (v:=v) ?_ ⟨cv,rv,ev,nm⟩ (λ_ _ _ e'=>by cases e');simp only[execOp,ho,BY,Instr.lookup,run_underlying hu,fv,hv,zd3 aF,GP,Ns,hf,zaW,if_false]
theorem Vy(hE:ak P E)(hr:Rel X s a){T:TypeId}{m k x:Operand}(ho:(execOp a.eval o).run P X.w=((Instr.mapUpdate T (a.eval m) (a.eval k) (a.eval x)).run P X.w).andThen λ_ w=> .ok .skip w)(h:m8 E T s (s.aI m) (s.aI k) (s.aI x) some=some u):aJ P X s a o u:=by
 unfold m8 at h;split at h
 case h_2=>cases h
 rename_i kt vt hm;obtain⟨kT,eT,hu,hk,he,wO⟩:=S8 hE hm;obtain⟨id,B,r,xs,h,hb,hβ,how,hv,hBg,es,clock,aF,dd,fD⟩:=ztm hr h;obtain⟨key,h,hkv⟩:=hN h;obtain⟨y,h,hyv⟩:=hN h;obtain⟨ck,rk,Ga⟩:=hkv X _ _ (hr.aI k);obtain⟨cy,ry,evy⟩:=hyv X _ _ (hr.aI x);have Ns:=Ut hE hk wO (X:=X) (x:=key) ⟨ck,rk,Ga⟩ false X.w;rcases VV (X:=X) hE hk wO (k:=key) ⟨ck,rk,Ga⟩ X.w es.toList xs (by simpa using dd) (λi q e hq he=>fD i q e hq (by simpa using he)) with⟨g1,g2,hf⟩|⟨g1,j,v,hf,g4⟩
 ·rw[g1] at h;cases h;let new:Obj:= .map (es.push {key:=a.eval k,val:=a.eval x,born:=clock}) (clock+1);have aZ:(execOp a.eval o).run P X.w= .ok .skip (X.obj r new).w:=by rw[ho];simp only[Instr.mapUpdate,BY,run_underlying hu,fv,hv,zd3 aF,Ns,hf,MapKept.run_setObj_map _ aF];simp only[new];rfl
  have bS:bK (X.obj r new) id r ⟨.aY .mp kt vt,(xs++ [(key,y)]:List (El kt×El vt)),[]⟩:=by
   refine⟨how,es.push {key:=a.eval k,val:=a.eval x,born:=clock},clock+1,V4 aF,by simp [dd],λi q e hq he=> ?_⟩;have hs:∀ad v,X.aB ad v->(X.obj r new).aB ad v:=λ_ _=>Ma how;have hq:(xs++ [(key,y)])[i]? =some q:=hq;rw[List.getElem?_append] at hq;rw[Array.getElem?_push] at he;split at hq
   ·rename_i ap;rw[if_neg (by omega)] at he;obtain⟨j1,j2⟩:=fD i q e hq he;exact⟨j1.mono hs,j2.mono hs⟩
   ·rename_i ap;have hi:i-xs.length=0:=by have:=(AS.1 hq).1;simp at this;omega
    rw[hi] at hq;cases hq;rw[if_pos (by omega)] at he;cases he;exact⟨eV.mono hs ⟨ck,rk,Ga⟩,eV.mono hs ⟨cy,ry,evy⟩⟩
  exact⟨X.obj r new,zaj,.inr ⟨aZ,rfl⟩,XC how,(hr.obj hb hβ how bS (.inl hBg)).skip o.dst⟩
 ·rw[g1] at h;cases h
theorem zf4(hE:ak P E)(hr:Rel X s a){ops:List Oper}{T:TypeId}{m k x:Operand}(ho:o.op= .mapUpdate T m k x\/o.op= .insert T m k x){C:FuncId->cc Out}(h:act E C ops o s some=some u):aJ P X s a o u:=by
 unfold act at h;rcases ho with ho|ho
 ·simp only[ho] at h;exact Vy hE hr (by simp [execOp,ho]) h
 ·simp only[ho] at h;exact Vy hE hr (by simp [execOp,ho]) h
theorem aeZ(hE:ak P E)(hr:Rel X s a){ops:List Oper}{T:TypeId}{x:Operand}(ho:o.op= .range T x){C:FuncId->cc Out}(h:act E C ops o s some=some u):aJ P X s a o u:=by
 unfold act at h;simp only[ho] at h;split at h
 case h_2=>cases h
 rename_i hT;obtain⟨y,h,hy⟩:=hN h;obtain⟨cs,ry,ev⟩:=hy X _ _ (hr.aI x);rw[oJ ry] at ev;have hu:=(hE.ty T _ hT).dJ;refine zlh hr (t:=lm) (p:=lm) (x:=((y,0):ByteArray×Nat)) (b:= .stringIter y 0) (v:= .pointer (some ⟨X.w.heap.size,0,none⟩)) ?_ (λY _ hY pl=>hY) ⟨rfl,trivial⟩ h;simp [execOp,ho,Instr.range,run_underlying hu,ev]
theorem aic(hr:Rel X s a){ops:List Oper}{x:Operand}{str:Bool}(ho:o.op= .next x str){C:FuncId->cc Out}(h:act E C ops o s some=some u):aJ P X s a o u:=by
 unfold act at h;cases str with
 |false=>simp only[ho] at h;cases h
 |true=>
  simp only[ho] at h;unfold mo at h;have hx:=hr.aI x;split at h
  case h_2=>cases h
  rename_i id hm;rw[hm] at hx;obtain⟨r,hβ,hv,_⟩:=hx;split at h
  case h_2=>cases h
  rename_i B hB;split at h
  case isFalse=>cases h
  rename_i dp;have hb:=sN hB;obtain⟨r',h1,how,h3⟩:=hr.boxes id B hb;rw[hβ] at h1;cases h1;have aF:X.w.heap[r]? =some (.stringIter (Ty.cast dp B.x:ByteArray×Nat).1 (Ty.cast dp B.x:ByteArray×Nat).2):=by obtain⟨bt,bx,bo⟩:=B;have e:=Ty.aK dp;simp only at e;subst e;exact h3
  generalize(Ty.cast dp B.x:ByteArray×Nat)=q at*;obtain⟨st,pos⟩:=q;simp only at h aF;have hv:a.eval x= .pointer (some ⟨r,0,none⟩):=by simpa [Ty.off] using hv
  have cM:(getObj r).run P X.w= .ok (.stringIter st pos) X.w:=by simp [getObj,Sem.run,aF]
  cases ap:decide (pos<st.size) with
  |false=>rw[ap] at h;cases h;have ap:=of_decide_eq_false ap;refine aJ.plain hr (sv:= .over) (v:= .tuple #[.bool false]) ?_ rfl (λ_ _ _ e'=>by cases e');simp only[execOp,ho,BY,Instr.next,hv,cM,fv,if_neg ap,GP]
  |true=>
   rw[ap] at h;cases h;have ap:=of_decide_eq_true ap;let new:Obj:= .stringIter st (pos+(zbQ st pos).2);have fO:(setObj r new).run P X.w= .ok () (X.obj r new).w:=by simp [setObj,Sem.run,aF,aw.obj]
   have bS:bK (X.obj r new) id r ⟨lm,((st,pos+(zbQ st pos).2):ByteArray×Nat),[]⟩:=⟨how,V4 aF⟩
   have fc:=hr.obj hb hβ how bS (.inl (by rw[Ty.aK dp];rfl));refine⟨X.obj r new,.tuple #[.bool true,.int .i64 pos,.int .i32 (zbQ st pos).1],.inl ?_,XC how,?_⟩
   ·simp only[execOp,ho,BY,Instr.next,hv,cM,fv,if_pos ap,GP];simp only[new] at fO;rw[fO];rfl
   ·refine fc.put (λd' e=>⟨_,rfl,rfl,λj sv v hj hv=> ?_⟩) (λid t' q hm=>by simp at hm)
    match j with
    |0=>cases hj;cases hv;exact oI
    |1=>cases hj;cases hv;exact j8
    |2=>cases hj;cases hv;exact j8
    |j+3=>simp at hj
theorem ane{t:Ty}{k:Nat}(hk:(zr t).length=k)(n:Nat):((zed (n*k)).map λi=>(zr t).toArray[i % (zr t).toArray.size]!).size=n*k/\
 ∀j,j<n->((((zed (n*k)).map λi=>(zr t).toArray[i % (zr t).toArray.size]!).toList.drop (j*k)).take k)=zr t:=by
 refine⟨by simp,λj hj=> ?_⟩;apply zaF;intro i;rw[zae];split
 ·rename_i hi;have ap:j*k+i<n*k:=by have:(j+1)*k<=n*k:=zai _ hj;rw[zaz,za5] at this;omega
  have GF:(j*k+i)% k=i:=by rw[Nat.mul_comm,Nat.mul_add_mod,Nat.mod_eq_of_lt hi]
  rw[zas,zad,Array.getElem?_map,Array.getElem?_range,if_pos ap];simp only[zbA,zdl,hk,GF];rw[ks (by omega)];simp [getElem!_def,ks (show i<(zr t).length by omega)]
 ·rename_i hi;rw[IT (by omega)]
theorem VY(hE:ak P E){T e:TypeId}{t:Ty}(hT:E.ty T=some (.sl e t))(hk:t.cells≠0)(oM:E.bytes e≠0){n m:Int}(hn:0<=n)(hnm:n<=m)(hb:m*E.bytes e<=140737488355328)(w:World):
 m.toNat<=maxLen/\∃cur,cur.size=m.toNat*t.cells/\(∀j,j<m.toNat->(cur.toList.drop (j*t.cells)).take t.cells=zr t)/\
  (Instr.makeSlice T (.int .i64 n) (.int .i64 m)).run P w= .ok (.slice (some ⟨w.heap.size,0,none⟩) n.toNat m.toNat) (w.alloc (.cells cur e)):=by
 obtain⟨hu,he⟩:=(hE.ty T _ hT).dJ;obtain⟨i,hi,cm,gN,hz⟩:=(hE.ty e t he).info;have hle:m<=m*E.bytes e:=by
  have h1:(1:Int)<=E.bytes e:=by omega
  have:=Int.mul_le_mul_of_nonneg_left h1 (show 0<=m by omega);simpa using this
 have tL:m.toNat<=maxLen:=by simp only[maxLen];omega
 have mW:(er t (zr t)).cells=(zr t).toArray:=yf (X:=⟨w,λ_=> .all,λ_=>none⟩) (uL _ t);obtain⟨z1,z2⟩:=ane (xD t) m.toNat;refine⟨tL,(zed (m.toNat*t.cells)).map (λi=>(zr t).toArray[i % (zr t).toArray.size]!),z1,z2,?_⟩;have hw1:IntKind.i64.wrap n=n:=by simp [IntKind.wrap,IntKind.signed,IntKind.bits];omega
 have x8:IntKind.i64.wrap m=m:=by simp [IntKind.wrap,IntKind.signed,IntKind.bits];omega
 have hmul:(i.bytes:Int)*m<=2^48:=by rw[gN,Int.mul_comm];omega
 have c1:¬m<0:=by omega
 have c2:¬(281474976710656:Int)<(i.bytes:Int)*m:=by omega
 have c3:¬n<0:=by omega
 have c4:¬m<n:=by omega
 have hai:∀(n:Int) (w:World),(asInt (.int .i64 n)).run P w= .ok n w:=λn w=>by simp [asInt,asIntOf]
 have hti:∀w:World,(typeInfo e).run P w= .ok i w:=λw=>by simp [typeInfo,hi]
 have jb:∀w:World,(sizeOf e).run P w= .ok t.cells w:=λw=>mF hE he w;have hzv:∀w:World,(zeroValue e).run P w= .ok (er t (zr t)) w:=λw=>zgp hE he w;simp only[Instr.makeSlice,BY,run_underlying hu,fv,hai,hti,hw1,x8];by_cases h0:m.toNat*t.cells=0
 ·simp [c1,c2,c3,c4,jb,h0,newRow];rw[show zed 0= #[] from rfl];simp
 ·simp [c1,c2,c3,c4,jb,h0,hzv,mW,newRow]
theorem acU(hE:ak P E)(hr:Rel X s a){ops:List Oper}{T:TypeId}{l c:Operand}(ho:o.op= .makeSlice T l c){C:FuncId->cc Out}(h:act E C ops o s some=some u):aJ P X s a o u:=by
 unfold act at h;simp only[ho] at h;unfold mm at h;split at h
 case h_2=>cases h
 rename_i e t hT;split at h
 ·cases h
 rename_i bR;have oM:E.bytes e≠0:=λe0=>bR (by rw[e0];rfl);have hk:t.cells≠0:=λe0=>bR (by rw[e0];simp);obtain⟨n,h,hn⟩:=hN h;obtain⟨m,h,hm⟩:=hN h;obtain⟨_,rn,en⟩:=hn X _ _ (hr.aI l);rw[mG rn] at en;obtain⟨_,rm,em⟩:=hm X _ _ (hr.aI c);rw[mG rm] at em;cases hc:Xw l with
 |true=>
  rw[hc] at h;simp only[cond_true] at h;cases d1:decide (n=0)<;>rw[d1] at h<;>simp only[cond_true,cond_false] at h
  ·cases h
  cases d2:decide (0<=m)<;>rw[d2] at h<;>simp only[cond_true,cond_false] at h
  ·cases h
  cases d3:decide (m*E.bytes e<=140737488355328)<;>rw[d3] at h<;>simp only[cond_true,cond_false] at h
  ·cases h
  cases h;have d1:=of_decide_eq_true d1;have d2:=of_decide_eq_true d2;have d3:=of_decide_eq_true d3;subst d1;obtain⟨tL,cur,g1,g2,aZ⟩:=VY (P:=P) hE hT hk oM (n:=0) (m:=m) (by omega) d2 d3 X.w;have Aq:fq s X (X.lU (.cells cur e) (.row (.c (o.dst.getD 0) 0 []) 0) X.β):=Us X _ _ _ _ rfl (λ_ _ _=>rfl);refine⟨X.lU (.cells cur e) (.row (.c (o.dst.getD 0) 0 []) 0) X.β,.slice (some ⟨X.w.heap.size,0,none⟩) 0 m.toNat,.inl ?_,Aq.ext,(hr.dy Aq).fin ⟨[.slice (some ⟨X.w.heap.size,0,none⟩) 0 m.toNat],⟨_,_,rfl,zaX _,λj x hj=>by simp at hj⟩,rfl,λp hp=> ?_⟩ (λid t p hm=>by simp at hm)⟩
  ·simp only[execOp,ho,BY,en,em,aZ,fv,GP];rfl
  ·have hp:p=[]:=by simpa using hp
   subst hp;refine⟨e,t,[],_,by simp [Ty.fe],rfl,rfl,.inr ⟨X.w.heap.size,m.toNat,cur,rfl,heap_alloc_new X.w _,zaX _,tL,g1,?_⟩⟩;simp [aw.lU]
 |false=>
  rw[hc] at h;simp only[cond_false] at h;cases d1:decide (n=m)<;>rw[d1] at h<;>simp only[cond_true,cond_false] at h
  ·cases h
  cases d2:decide (0<=n)<;>rw[d2] at h<;>simp only[cond_true,cond_false] at h
  ·cases h
  cases d3:decide (n*E.bytes e<=140737488355328)<;>rw[d3] at h<;>simp only[cond_true,cond_false] at h
  ·cases h
  have d1:=of_decide_eq_true d1;have d2:=of_decide_eq_true d2;have d3:=of_decide_eq_true d3;have d1:m=n:=d1.symm;subst d1;obtain⟨tL,cur,g1,g2,aZ⟩:=VY (P:=P) hE hT hk oM (n:=m) (m:=m) d2 (Int.le_refl _) d3 X.w;refine zlh hr (t:= .aY .row t .unit) (p:= .aY (.hJ m.toNat) t .unit) (x:=(so m.toNat (El.b9 t):List (El t))) (b:= .cells cur e) (v:= .slice (some ⟨X.w.heap.size,0,none⟩) m.toNat m.toNat) ?_ (λY _ hY pl=>⟨cur,e,hY,?_,λj x hj=> ?_⟩) ⟨_,rfl,zag _⟩ h
  ·simp only[execOp,ho,BY,en,em,aZ,fv,GP]
  ·rw[g1];show _=aa (so _ _)*_;rw[List.length_replicate]
  ·have hj:(so m.toNat (El.b9 t))[j]? =some x:=hj;rw[List.getElem?_replicate] at hj;split at hj
   ·rename_i ap;cases hj;rw[g2 j ap];exact uL Y t
   ·cases hj
end Go.Ref

namespace Go.Ref
open Go
variable {P:Program} {E:Env} {X:aw} {s:State} {a:Act} {o:Oper} {u:Out}
theorem amj(hE:ak P E)(hr:Rel X s a){ops:List Oper}{T:TypeId}{x:Operand}{lo hi:Option Operand}(ho:o.op= .slice T x lo hi none){C:FuncId->cc Out}(h:act E C ops o s some=some u):aJ P X s a o u:=by
 unfold act at h;simp only[ho] at h;split at h
 ·rename_i id n ta tb dU;split at h
  case h_2=>cases h
  rename_i e t hT;split at h
  case isFalse=>cases h
  rename_i heq;have:=Ty.aK heq;subst this;unfold wv at h;split at h
  ·cases h
  rename_i Rj;have Gv:hi=none:=by
   cases hi with
   |none=>rfl
   |some _=>cases Rj
  subst Gv;obtain⟨l,h,h1,hl⟩:=zci h;cases h;have hx:=hr.aI x;rw[dU] at hx;obtain⟨r0,hβ,cap,hv,nR⟩:=hx;have hu:=(hE.ty T _ hT).dJ;have hbd:=zg2 (P:=P) (isS:=true) hr hl (hi:=none) (m:=n) (n:=n) (c:=cap) rfl h1 (zag _) nR X.w;rw[zdQ] at hbd;refine aJ.plain hr (v:= .slice (if cap=l then some ⟨r0,0,none⟩ else(some (⟨r0,0,none⟩:Addr)).map (·.add (l*ta.cells))) (n-l) (cap-l)) ?_ ⟨r0,hβ,?_⟩ (λ_ _ _ e=>by cases e;exact uO hr dU)
  ·simp only[execOp,ho,BY,Instr.sliceAt,run_underlying hu.1,fv,Instr.slice,hv,zdQ,hbd,GP,mF hE hu.2]
  ·show∃Af off,_=Value.slice (some ⟨r0,off,none⟩) (n-l) Af/\_;by_cases e':cap=l
   ·rw[if_pos e'];exact⟨_,_,rfl,by omega,h1,.inl ⟨by omega,rfl⟩⟩
   ·rw[if_neg e'];refine⟨cap-l,l*ta.cells,?_,by omega,h1,.inr rfl⟩;rw[zbA,jv,zat]
 ·rename_i id n t dU;have hx:=hr.aI x;rw[dU] at hx;obtain⟨r0,hβ,hv⟩:=hx;unfold tD at h;split at h
  case h_2=>cases h
  rename_i u' hT GC Rj;have lo0:lo=none:=by
   cases lo with
   |none=>rfl
   |some _=>cases GC
  have Gv:hi=none:=by
   cases hi with
   |none=>rfl
   |some _=>cases Rj
  subst lo0 Gv;split at h
  case isFalse=>cases h
  rename_i heq;have:=Ty.aK heq;subst this;split at h
  case h_2=>cases h
  rename_i B hB;split at h
  case isFalse=>cases h
  rename_i dp;cases h;have hb:=sN hB;obtain⟨r,h1,wF⟩:=hr.boxes id B hb;rw[hβ] at h1;cases h1;obtain⟨bt,bx,bo⟩:=B;have e:=Ty.aK dp;simp only at e;subst e;obtain⟨cs,T',aF,aO,how,_⟩:=wF.cells rfl;have hv:a.eval x= .pointer (some ⟨r0,0,none⟩):=by rw[((sL rfl).1 hv).1];rfl
  obtain⟨e,je,jC,_⟩:=(hE.ty T _ hT).dJ;have hlen:aa (bx:List (El t))=n:=aO.1;have bS:bK X id r0 ⟨.aY .row t .unit,(bx:List (El t)),[]⟩:=⟨how,cs,T',aF,by have:=aO.2.1;rw[hlen];simpa using this,aO.2.2⟩
  have Rb:(Ty.cast dp bx:El (.arr n t))=bx:=rfl;rw[Rb];refine⟨X,.slice (some ⟨r0,0,none⟩) n n,.inl ?_,Ext.refl X,(hr.m6 hb hβ bS (.inl rfl)).fin ⟨r0,hβ,n,rfl,zag _⟩ (λbf t' p' hm=> ?_)⟩
  ·simp only[execOp,ho,BY,Instr.sliceAt,run_underlying je,fv,zdQ,hv,Instr.sureAddr,GP,mF hE jC];simp [Instr.sliceBounds];intro _;rw[jv]
  ·have uD:SV.ptr bf t' p'= .ptr id (.aY (.hJ n) t .unit) []:=by simpa using hm
   cases uD;exact⟨_,z9h hb⟩
 ·exact ah9 hE hr ho h
theorem acZ(hr:Rel X s a){ops:List Oper}{fn:Fn}{fi ca:Array Operand}(ho:o.op= .makeFunc fn fi ca){C:FuncId->cc Out}(h:act E C ops o s some=some u):aJ P X s a o u:=by
 unfold act at h;cases fn with
 |func f=>
  simp only[ho] at h;split at h
  case h_3=>cases h
  case h_2=>
   rename_i x y wJ Gi;have wJ:fi= #[]:=by rw[<-zaC (xs:=fi),wJ]
   have Gi:ca= #[x,y]:=by rw[<-zaC (xs:=ca),Gi]
   subst wJ Gi;unfold wu at h;split at h
   case h_2=>cases h
   rename_i t x1 u' y1 dU RV;cases h;have hx:=hr.aI x;have hy:=hr.aI y;rw[dU] at hx;rw[RV] at hy;obtain⟨ad,cs,h1,h2,h3,h4⟩:=hx;obtain⟨ss,fa,k1,k2,k3,k4⟩:=hy;refine aJ.plain hr (v:= .func (.func f) #[] #[.pointer (some ad),.pointer (some ss)]) ?_ ⟨ad,ss,cs,fa,rfl,⟨h2,h3,h4⟩,k2,k3,k4⟩ (λ_ _ _ e=>by cases e);simp [execOp,ho,Instr.makeFunc,h1,k1]
  rename_i x wJ Gi;have wJ:fi= #[]:=by rw[<-zaC (xs:=fi),wJ]
  have Gi:ca= #[x]:=by rw[<-zaC (xs:=ca),Gi]
  subst wJ Gi;unfold nK at h;split at h
  case h_2=>cases h
  rename_i id u' dU;split at h
  case isTrue=>cases h
  rename_i hs;cases h;have hx:=hr.aI x;rw[dU] at hx;obtain⟨r0,hβ,hv⟩:=hx;have hv:=((Zt (by simpa using hs)).1 hv).1;refine aJ.plain hr (v:= .func (.func f) #[] #[.pointer (some ⟨r0,0,none⟩)]) ?_ ⟨r0,hβ,rfl⟩ (λ_ _ _ e=>by cases e;exact uO hr dU);have hv:a.eval x= .pointer (some ⟨r0,0,none⟩):=by rw[hv];simp [Ty.off]
  simp [execOp,ho,Instr.makeFunc,hv]
 |_=>simp only[ho] at h;cases h
theorem Vl{t:Ty}{xs:List (El t)}{n l:Nat}{cs:List Value}(h:bm X (.arr n t) xs cs)(hl:l<=n):bm X (.arr l t) (xs.take l:List (El t)) (cs.take (l*t.cells)):=by
 obtain⟨h1,h2,h3⟩:=h;have hm:=zai t.cells hl;refine⟨by rw[Of];omega,by rw[Of];omega,λj y hj=> ?_⟩;have hj:(xs.take l)[j]? =some y:=hj;rw[zae] at hj;split at hj
 case isFalse=>cases hj
 rename_i wN;have hk:(j+1)*t.cells<=l*t.cells:=zai _ wN;rw[zaz,za5] at hk;have e:((cs.take (l*t.cells)).drop (j*t.cells)).take t.cells=(cs.drop (j*t.cells)).take t.cells:=by rw[List.drop_take,List.take_take,zaQ (by omega)]
 rw[e];exact h3 j y hj
theorem Vk{t:Ty}{xs:List (El t)}{n l:Nat}{cs:List Value}(h:bm X (.arr n t) xs cs)(hl:l<=n):bm X (.arr (n-l) t) (xs.drop l:List (El t)) (cs.drop (l*t.cells)):=by obtain⟨h1,h2,h3⟩:=h;refine⟨by rw[zaD];omega,by rw[zaD,Nat.sub_mul];omega,λj y hj=> ?_⟩;have hj:(xs.drop l)[j]? =some y:=hj;rw[zas] at hj;rw[List.drop_drop,<-zaz];exact h3 (l+j) y hj
theorem Wb{α:Type}(xs ys:List α)(lo:Nat)(h:lo+ys.length<=xs.length):(ci xs ys lo).length=xs.length:=by unfold ci;simp;omega
theorem SL(hE:ak P E)(hr:Rel X s a){d x:Operand}{T e:TypeId}{t:Ty}{ts:Array TypeId}(ho:o.op= .call ⟨.builtin .copy,#[d,x],ts⟩)(jd:ts[0]? =some T)(hT:E.ty T=some (.sl e t)){id n lo:Nat}{ta tb:Ty}{p:List Nat}
 (dU:s.aI d= .ptr id (.aY (.hJ n) ta tb) p) (pQ:∀r,oi (.aY (.hJ n) ta tb) p r (a.eval d)->∃cap off,a.eval d= .slice (some ⟨r,off,none⟩) (n-lo) cap/\lo<=n/\((n=lo/\off=0)\/off=lo*ta.cells))
 (h:iW t s id n lo ta tb (s.aI x) e some=some u):aJ P X s a o u:=by
 have hx:=hr.aI d;rw[dU] at hx;obtain⟨r0,hβ,hv⟩:=hx;unfold iW at h;split at h
 case isFalse=>cases h
 rename_i heq;have:=Ty.aK heq;subst this;obtain⟨ys,h,tO⟩:=hN h;split at h
 case h_2=>cases h
 rename_i B hB;split at h
 case isFalse=>cases h
 rename_i dp;obtain⟨hb,r,h1,how,cs,T',aF,dd,fD⟩:=MI hr hB dp;rw[hβ] at h1;cases h1;generalize(Ty.cast dp B.x:List (El ta))=xs at*;cases hn:xz n (aa xs)<;>rw[hn] at h
 ·cases h
 cases GC:zaL lo n<;>rw[GC] at h
 ·cases h
 cases h;have hn:=DD hn;have GC:=zaK GC;obtain⟨cap,off,hd,_,At⟩:=pQ r0 hv;obtain⟨cx,my,ev⟩:=tO X _ _ (hr.aI x);have acN:=my;obtain⟨A,c,Am,_⟩:=acN;have ev:a.eval x= .slice A ys.length c:=by rw[ev,Am];rfl
 rw[Am] at my;obtain⟨_,hc,cy,ry,ny,sy⟩:=zcp (X:=X) my;have hu:=(hE.ty T _ hT).dJ;have hm:(ys.take (n-lo)).length=min ys.length (n-lo):=by rw[Of,zhA]
 generalize GD:min ys.length (n-lo)=m at hm;have hmy:m<=ys.length:=by omega
 have hmn:m<=n-lo:=by omega
 have htk:ys.take (n-lo)=ys.take m:=by
  rw[<-GD];rcases Nat.le_total ys.length (n-lo) with g|g
  ·rw[zaQ g,za6 g,za6 (zag _)]
  ·rw[Nat.min_eq_right g]
 have rz:=Vl ry hmy;have RX:(cy.take (m*ta.cells)).length=m*ta.cells:=rz.2.1;have eU:bm X (.arr xs.length ta) xs cs.toList:=⟨rfl,by simpa using dd,fD⟩
 have lg:(zbI ta.cells m (a.eval x)).run P X.w= .ok (cy.take (m*ta.cells)).toArray X.w:=by
  rw[ev];cases A with
  |none=>
   have:=ny rfl;subst this;have:m=0:=by simpa using hmy
   subst this;simp [zbI]
  |some ad=>
   have:=run_loadCells_list (P:=P) X.w ad (cy.take (m*ta.cells)) (λj v hj=>by
    rw[zae] at hj;split at hj
    ·exact(sy ad rfl j v hj).2.1
    ·cases hj)
   rw[RX] at this;simpa [zbI] using this
 have dv:off+0+(cy.take (m*ta.cells)).length<=cs.size:=by
  rw[RX,dd,<-hn];rcases At with⟨g1,g2⟩|g
  ·have:m=0:=by omega
   subst this;omega
  ·rw[g,zde,<-zaz];exact zai _ (by omega)
 let new:=(cs.toList.take off++cy.take (m*ta.cells)++cs.toList.drop (off+(cy.take (m*ta.cells)).length)).toArray;have bY:=run_storeCells_at P r0 off T' (cy.take (m*ta.cells)) 0 cs X.w aF dv rz.one;simp only[zde] at bY dv;have aZ:(execOp a.eval o).run P X.w= .ok (.value (.int .i64 m)) (X.row r0 new).w:=by
  have aap:zhE ys.length (n-lo)=m:=GD;simp only[execOp,ho,resolve,invoke,builtin,BY,GP,fv,zeq,zaq,zbK,Builtin.copy_,jd,hd];have e1:(zcR (a.eval x)).run P X.w= .ok ys.length X.w:=by rw[ev];simp [zcR]
  simp [run_underlying hu.1,e1,aap,lg,bY,goInt,mF hE hu.2];show _=X.w.setRow r0 new;congr 1;simp [new]
 have eE:new.toList=cs.toList.take off++cy.take (m*ta.cells)++cs.toList.drop (off+(cy.take (m*ta.cells)).length):=rfl;have aO:bm X (.arr xs.length ta) (ci xs (ys.take m) lo:List (El ta)) new.toList:=by
  rw[eE,RX];by_cases m0:m=0
  ·subst m0;have e1:ci xs (ys.take 0) lo=xs:=by unfold ci;simp
   rw[e1];simpa using eU
  ·have g:off=lo*ta.cells:=by rcases At with⟨g1,_⟩|g<;>omega
   have h1:=Vl eU (show lo<=xs.length by omega);have h3:=Vk eU (show lo+m<=xs.length by omega);have:=NM h1 (NM rz h3);rw[show lo+(m+(xs.length-(lo+m)))=xs.length by omega] at this;unfold ci;rw[show(ys.take m).length=m by rw[Of];omega,g,<-zaz,MM];exact this
 have cm:new.size=cs.size:=by have h1:new.toList.length=xs.length*ta.cells:=aO.2.1;rw[dd,<-h1];simp
 have bS:bK (X.row r0 new) id r0 ⟨.aY .row ta tb,(ci xs (ys.take (n-lo)) lo:List (El ta)),[]⟩:=by
  rw[htk];refine⟨how,new,T',setRow_heap X.w r0 cs new T' (0,0) aF,?_,λj z hj=> ?_⟩
  ·rw[cm,dd];show _=aa (ci xs (ys.take m) lo)*_;rw[Wb _ _ _ (by rw[Of];omega)]
  ·exact bm.aj (λ_ _=>np (cs:=new) how) (aO.2.2 j z hj)
 refine⟨X.row r0 new,.int .i64 m,.inl aZ,MJ how,?_⟩;rw[hm];exact(hr.row hb hβ how bS (.inl (by rw[Ty.aK dp];rfl))).fin j8 (λid t p hm=>by simp [i64] at hm)
theorem ahW{X:aw}(l:List UInt8):bm X (.arr l.length (.int .u8)) (l.map λc=>(c.toNat:Int):List Int) (l.map λc=>Value.int .u8 c.toNat):=by
 refine⟨by show(l.map _).length=_;simp,by simp [Ty.cells],λj y hj=> ?_⟩;have hj:(l.map λc=>(c.toNat:Int))[j]? =some y:=hj;rw[IN] at hj;obtain⟨c,hc,rfl⟩:=nl.1 hj;have:((l.map λc=>Value.int .u8 c.toNat).drop (j*(Ty.int zgZ).cells)).take (Ty.int zgZ).cells=[Value.int .u8 c.toNat]:=by
  rw[show(Ty.int zgZ).cells=1 from rfl,zeC];apply zaF;intro i;rw[zae];cases i with
  |zero=>simp [hc]
  |succ i=>simp
 rw[this];rfl
theorem aeV(hE:ak P E)(hr:Rel X s a){d x:Operand}{T e:TypeId}{t:Ty}{ts:Array TypeId}(ho:o.op= .call ⟨.builtin .copy,#[d,x],ts⟩)(jd:ts[0]? =some T)(hT:E.ty T=some (.sl e t)){id n:Nat}{ta tb:Ty}
 (dU:s.aI d= .ptr id (.aY (.hJ n) ta tb) []) {y:ByteArray} {w:List (List Nat)} (RV:s.aI x= .aq .str y w) (h:kZ t s id n ta tb y some=some u):aJ P X s a o u:=by
 have hx:=hr.aI d;rw[dU] at hx;obtain⟨r0,hβ,cap,hd,nR⟩:=hx;unfold kZ at h;split at h
 case isFalse=>cases h
 rename_i aam;have:=Ty.aK aam;subst this;split at h
 case isFalse=>cases h
 rename_i heq;have:=Ty.aK heq;subst this;split at h
 case h_2=>cases h
 rename_i B hB;split at h
 case isFalse=>cases h
 rename_i dp;obtain⟨hb,r,h1,how,cs,T',aF,dd,fD⟩:=MI hr hB dp;rw[hβ] at h1;cases h1;generalize(Ty.cast dp B.x:List Int)=xs at*;cases hn:xz n (aa xs)<;>rw[hn] at h
 ·cases h
 cases h;have hn:=DD hn;have hy:=hr.aI x;rw[RV] at hy;obtain⟨cy,ry,ev,_⟩:=hy;have ev:a.eval x= .string y:=by rw[ev,oJ ry]
 have hu:=(hE.ty T _ hT).dJ;have xZ:(Ty.int zgZ).cells=1:=rfl;rw[xZ,zeC] at dd;let l:=y.data.toList.take n;have Gz:l.length=min n y.size:=by simp [l]
 have Gg:It n (oT y)=l.map λc=>(c.toNat:Int):=by simp [oT,l]
 have lg:(zbI 1 (zhE y.size n) (.string y)).run P X.w= .ok (l.map λc=>Value.int .u8 c.toNat).toArray X.w:=by
  have e1:((y.extract 0 (zhE y.size n)).data.map λb=>Value.int .u8 b.toNat)=(l.map λc=>Value.int .u8 c.toNat).toArray:=by
   apply Array.ext';have e0:(y.extract 0 (zhE y.size n)).data.toList=l:=by rw[ByteArray.data_extract,Array.toList_extract,List.extract_eq_take_drop];show It (zhE y.size n-0) (y.data.toList.drop 0)=y.data.toList.take n;rw[Nat.sub_zero,List.drop_zero];show It (min y.data.toList.length n) y.data.toList=y.data.toList.take n;rw[zhA,<-List.take_eq_take_min]
   rw[Array.toList_map,e0]
  simp only[zbI,GP,e1]
 have dv:0+(l.map λc=>Value.int .u8 c.toNat).length<=cs.size:=by rw[zaR,dd,<-hn,Gz];omega
 let new:=((l.map λc=>Value.int .u8 c.toNat)++cs.toList.drop l.length).toArray;have rz:=ahW (X:=X) l;have bY:=run_storeCells_at P r0 0 T' (l.map λc=>Value.int .u8 c.toNat) 0 cs X.w aF (by simpa using dv) rz.one;have aZ:(execOp a.eval o).run P X.w= .ok (.value (.int .i64 (l.length:Nat))) (X.row r0 new).w:=by
  have e1:(zcR (a.eval x)).run P X.w= .ok y.size X.w:=by rw[ev];simp [zcR]
  have e2:zhE y.size n=l.length:=by rw[Gz];exact zhA _ _
  have e3:=lg;rw[e2] at e3;simp only[execOp,ho,resolve,invoke,builtin,BY,GP,fv,zeq,zaq,zbK,Builtin.copy_,jd,hd];rw[ev] at e1⊢;simp [run_underlying hu.1,e1,e2,e3,bY,goInt,mF hE hu.2,xZ];rfl
 have eU:bm X (.arr xs.length (.int .u8)) xs cs.toList:=⟨rfl,by simpa [xZ] using dd,fD⟩
 have aO:bm X (.arr xs.length (.int .u8)) (ci xs (l.map λc=>(c.toNat:Int)) 0:List Int) new.toList:=by
  have hle:l.length<=xs.length:=by rw[Gz];omega
  have h3:=Vk eU hle;have:=NM rz h3;rw[show l.length+(xs.length-l.length)=xs.length by omega] at this;unfold ci;simp only[List.take_zero,List.nil_append,zat,zaR];rw[xZ,zeC] at this;exact this
 have cm:new.size=cs.size:=by have h1:new.toList.length=xs.length*1:=aO.2.1;rw[dd];simpa using h1
 have bS:bK (X.row r0 new) id r0 ⟨.aY .row (.int .u8) tb,(ci xs (It n (oT y)) 0:List Int),[]⟩:=by
  rw[Gg];refine⟨how,new,T',setRow_heap X.w r0 cs new T' (0,0) aF,?_,λj z hj=> ?_⟩
  ·rw[cm,dd];show _=aa (ci xs (l.map λc=>(c.toNat:Int)) 0)*_;rw[Wb _ _ _ (by rw[zaR,Gz];omega)];simp [xZ]
  ·exact bm.aj (λ_ _=>np (cs:=new) how) (aO.2.2 j z hj)
 refine⟨X.row r0 new,.int .i64 (l.length:Nat),.inl aZ,MJ how,?_⟩;have Rs:(It n (oT y)).length=l.length:=by rw[Gg,zaR]
 rw[Rs];exact(hr.row hb hβ how bS (.inl (by rw[Ty.aK dp];rfl))).fin j8 (λid t p hm=>by simp [i64] at hm)
theorem ah8(hE:ak P E)(hr:Rel X s a){ops:List Oper}{ea:Array Operand}{ts:Array TypeId}(ho:o.op= .call ⟨.builtin .copy,ea,ts⟩){C:FuncId->cc Out}(h:act E C ops o s some=some u):aJ P X s a o u:=by
 unfold act at h;simp only[ho] at h;split at h
 case h_2=>cases h
 rename_i d x T r tN Ge;have has:ea= #[d,x]:=by rw[<-zaC (xs:=ea),tN]
 have jd:ts[0]? =some T:=by rw[<-zad,Ge];rfl
 subst has;unfold copyV at h;split at h
 ·rename_i e t id n ta tb hT dU;split at h
  ·rename_i y w RV;exact aeV hE hr ho jd hT dU RV h
  ·exact SL hE hr ho jd hT dU (λr hv=>by obtain⟨cap,h1,h2⟩:=hv;exact⟨cap,0,h1,zaX _,.inr (by simp)⟩) h
 ·rename_i e t id n ta tb l hT dU;exact SL hE hr ho jd hT dU (λr hv=>by obtain⟨cap,off,h1,h2,h3,h4⟩:=hv;exact⟨cap,off,h1,h3,h4⟩) h
 ·cases h
end Go.Ref

namespace Go.Ref
open Go
variable {P:Program} {E:Env} {X:aw} {s:State} {a:Act} {o:Oper} {u:Out}
structure kG(X:aw)(l:List SV)(b:Option bH)(args:Array Value):Prop where
 size:args.size=l.length
 rep:∀(i:Nat) sv v,l[i]? =some sv->args[i]? =some v->aC X (.c i 0) sv v
 ptr:∀id t p,SV.ptr id t p∈l->id=0/\b.isSome=true
 box:∀B,b=some B->∃r,X.β 0=some r/\bK X 0 r B
 rows:b=none->∀g pl n,X.ow g≠ .row pl n
 pS:l.any SV.bW=false
def CT(X Y:aw)(b:Option bH)(r:List SV)(b':Option bH)(v:Value):Prop:=
 ∃r0,cW {Y with β:=λ_=>some r0} .r r v/\
  (∀B',b'=some B'->bK Y 0 r0 B'/\(b.isSome=true->X.β 0=some r0))/\
  ((b'=none\/b.isSome=true)->∀id t p,SV.ptr id t p∉r)/\r.any SV.bW=false
def uv(P:Program)(f:FuncId):Prop:=∃fn c,P.funcs[f]? =some fn/\(fn.name== "runtime.NumGoroutine")=false/\fn.body=some c
def dh(P:Program)(C:ai)(f:FuncId):Prop:=
 ∀(l:List SV) (b:Option bH) (r:List SV) (b':Option bH),C (List SV×Option bH) f l b (λr b=>some (r,b))=some (r,b')->uv P f/\
  ∀(X:aw) (args:Array Value),kG X l b args->Calls P f args X.w λe w'=>match e with
   | .returned v=>∃Y,Y.w=w'/\Ext X Y/\CT X Y b r b' v
   |_=>False
def jE(k:Option Nat):Ow->Bool
 | .box id=>decide (k=some id)
 | .row (.b id _) _=>decide (k=some id)
 |_=>false
def jg(k:Option Nat):Ow->Ow
 | .all=> .all
 | .ro n=> .ro n
 | .box id=>if k=some id then .box 0 else .ro 0
 | .row (.b id p) n=>if k=some id then .row (.b 0 p) n else .ro n
 | .row _ n=> .ro n
def jX(k:Option Nat)(d:Nat):Ow->Ow
 | .all=> .all
 | .ro n=> .ro n
 | .box 0=>match k with
   |some id=> .box id
   |none=> .ro 0
 | .box _=> .ro 0
 | .row (.r j p) n=> .row (.c d j p) n
 | .row (.b 0 p) n=>match k with
   |some id=> .row (.b id p) n
   |none=> .ro n
 | .row _ n=> .ro n
theorem Uo{k:Option Nat}{w:Ow}{i:Nat}:(jg k w).used i↔w.used i:=by
 cases w with
 |all=>rfl
 |ro n=>rfl
 |box id=>simp only[jg];split<;>simp [Ow.used]
 |row pl n=>
  cases pl with
  |b id p=>simp only[jg];split<;>simp [Ow.used]
  |_=>rfl
theorem afe{k:Option Nat}{d:Nat}{w:Ow}{i:Nat}(h:w.used i):(jX k d w).used i:=by
 cases w with
 |all=>exact h
 |ro n=>exact h
 |box id=>exact h.elim
 |row pl n=>
  cases pl with
  |b id p=>
   cases id with
   |zero=>simp only[jX];split<;>exact h
   |succ id=>exact h
  |c i j p=>exact h
  |r j p=>exact h
theorem S1{k:Option Nat}{w:Ow}(h:jE k w=false):(jg k w).still:=by
 cases w with
 |all=>trivial
 |ro n=>trivial
 |box id=>simp only[jE,decide_eq_false_iff_not] at h;simp only[jg];rw[if_neg h];trivial
 |row pl n=>
  cases pl with
  |b id p=>simp only[jE,decide_eq_false_iff_not] at h;simp only[jg];rw[if_neg h];trivial
  |_=>trivial
def aw.c9(X:aw)(k:Option Nat):aw:=⟨X.w,λg=>jg k (X.ow g),match k with
 |some id=>λ_=>X.β id
 |none=>X.β⟩
theorem xF{k:Option Nat}{ad:Addr}{v:Value}:(X.c9 k).aB ad v↔X.aB ad v:=by simp only[aw.aB,aw.c9,Uo]
def aw.back(X Y:aw)(k k':Option Nat)(d:Nat)(β:Nat->Option Nat):aw:=
 ⟨Y.w,λg=>if g<X.w.heap.size/\jE k (X.ow g)=false then X.ow g else jX k' d (Y.ow g),β⟩
section
variable {k k':Option Nat} {d:Nat} {β:Nat->Option Nat} {Y:aw}
theorem L9(h:Ext (X.c9 k) Y){g:Nat}(hg:g<X.w.heap.size)(hm:jE k (X.ow g)=false):(X.back Y k k' d β).ow g=X.ow g/\(X.back Y k k' d β).w.heap[g]? =X.w.heap[g]? /\(Y.ow g).still/\Y.ow g=jg k (X.ow g):=by obtain⟨h1,h2⟩:=h.still g hg (S1 hm);refine⟨by simp only[aw.back];rw[if_pos ⟨hg,hm⟩],h2,?_,h1⟩;rw[h1];exact S1 hm
theorem zg0(h:Ext (X.c9 k) Y){g:Nat}(hs:¬(Y.ow g).still):(X.back Y k k' d β).ow g=jX k' d (Y.ow g):=by simp only[aw.back];rw[if_neg];rintro⟨hg,hm⟩;exact hs (L9 (k':=k') (d:=d) (β:=β) h hg hm).2.2.1
theorem xE(h:Ext (X.c9 k) Y){ad:Addr}{v:Value}(hs:Y.aB ad v):(X.back Y k k' d β).aB ad v:=by
 refine⟨hs.1,hs.2.1,?_⟩;simp only[aw.back];split
 ·rename_i hc;have:=(L9 (k':=k') (d:=d) (β:=β) h hc.1 hc.2).2.2.2;have hu:=hs.2.2;rw[this,Uo] at hu;exact hu
 ·exact afe hs.2.2
theorem zvs(h:Ext (X.c9 k) Y)(hβ:β 0=X.β 0):Ext X (X.back Y k k' d β) where
 aB:=λad v hs=>xE h (h.aB ad v (xF.2 hs))
 size:=h.size
 os:=h.os
 tape:=h.tape
 output:=h.output
 β0:=hβ
 still:=λg hg bY=>by
  have hm:jE k (X.ow g)=false:=by cases hx:X.ow g<;>rw[hx] at bY<;>first|rfl|exact bY.elim
  obtain⟨h1,h2,_⟩:=L9 (k':=k') (d:=d) (β:=β) h hg hm;exact⟨h1,h2⟩
theorem bB.back(h:Ext (X.c9 k) Y){pl:Place}(gB:∀n,jE k (.row pl n)=false){e:TypeId}{m n:Nat}{v:Value}(ho:bB X pl e m n v):bB (X.back Y k k' d β) pl e m n v:=by
 rcases ho with ho|⟨g,cap,cur,h1,h2,h3,h4,h5,h6⟩
 ·exact .inl ho
 ·obtain⟨k1,k2,_⟩:=L9 (k':=k') (d:=d) (β:=β) h (yp h2) (by rw[h6];exact gB _);exact .inr ⟨g,cap,cur,h1,k2.trans h2,h3,h4,h5,k1.trans h6⟩
theorem bp.back(h:Ext (X.c9 k) Y){pl:List Nat->Place}(gB:∀p n,jE k (.row (pl p) n)=false){t:Ty}{x:El t}{cs:List Value}{own:List (List Nat)}(ho:bp X pl t x cs own):bp (X.back Y k k' d β) pl t x cs own:=λp hp=>by obtain⟨e,t',xs,v,g0,g1,g2,g3⟩:=ho p hp;exact⟨e,t',xs,v,g0,g1,g2,g3.back h (gB p)⟩
theorem bp.out(h:Ext (X.c9 k) Y){pl gU:List Nat->Place}(gB:∀p n,jX k' d (.row (pl p) n)= .row (gU p) n){t:Ty}{x:El t}{cs:List Value}{own:List (List Nat)}(ho:bp Y pl t x cs own):bp (X.back Y k k' d β) gU t x cs own:=λp hp=>by
 obtain⟨e,t',xs,v,g0,g1,g2,g3⟩:=ho p hp;refine⟨e,t',xs,v,g0,g1,g2,?_⟩;rcases g3 with ho|⟨g,cap,cur,h1,h2,h3,h4,h5,h6⟩
 ·exact .inl ho
 ·refine .inr ⟨g,cap,cur,h1,h2,h3,h4,h5,?_⟩;rw[zg0 h (by rw[h6];exact λe=>e),h6,gB]
theorem aC.back(h:Ext (X.c9 k) Y){i j:Nat}{sv:SV}{v:Value}(hβ:∀id t p,sv= .ptr id t p->β id=X.β id)(hl:∀id a b n,sv= .bF id a b n->k≠some id/\β id=X.β id)(hr:aC X (.c i j) sv v):aC (X.back Y k k' d β) (.c i j) sv v:=by
 cases sv with
 |undef=>trivial
 |skip=>exact hr
 |cR=>exact hr
 |ey=>exact hr
 |over=>exact hr
 |aq t x own=>obtain⟨cs,h1,h2,h3⟩:=hr;exact⟨cs,h1.aj (λ_ _ hs=>xE h (h.aB _ _ (xF.2 hs))),h2,h3.back h (λ_ _=>rfl)⟩
 |ptr id t p=>obtain⟨r,h1,h2⟩:=hr;exact⟨r,(hβ id t p rfl).trans h1,h2⟩
 |view t x=>obtain⟨ad,cs,h1,h2,h3,h4⟩:=hr;exact⟨ad,cs,h1,h2,h3.aj (λ_ _ hs=>xE h (h.aB _ _ (xF.2 hs))),λi u hi=>xE h (h.aB _ _ (xF.2 (h4 i u hi)))⟩
 |cap f t x u y=>exact uf (λ_ _ hs=>xE h (h.aB _ _ (xF.2 hs))) hr
 |bF id a b n=>obtain⟨r,h1,h2,h3⟩:=hr;obtain⟨hk,hb⟩:=hl id a b n rfl;obtain⟨e1,e2,_⟩:=L9 (k':=k') (d:=d) (β:=β) h (zcQ X.w _ h3) (by rw[h2];simp [jE,hk]);refine⟨r,hb.trans h1,e1.trans h2,?_⟩;simp only[zaP] at h3⊢;rw[e2];exact h3
theorem bK.back(h:Ext (X.c9 k) Y){id r:Nat}{B:bH}(hk:k≠some id)(hb:bK X id r B):bK (X.back Y k k' d β) id r B:=by
 obtain⟨h3,h1⟩:=hb;have hm:jE k (X.ow r)=false:=by rw[h3];simp [jE,hk]
 obtain⟨k1,k2,_⟩:=L9 (k':=k') (d:=d) (β:=β) h h1.lt hm;exact⟨k1.trans h3,h1.move (λ_ _ hs=>xE h (h.aB _ _ (xF.2 hs))) k2 (λcs h4=>h4.back h (λ_ _=>by simp [jE,hk])) λ_ _ g o _ ho hw=>by obtain⟨e1,e2,_⟩:=L9 (k':=k') (d:=d) (β:=β) h (yp ho) (by rw[hw];simp [jE,hk]);exact⟨e2.trans ho,e1.trans hw⟩⟩
theorem bK.out(h:Ext (X.c9 k) Y){id r:Nat}{B:bH}(hk:k'=some id)(hb:bK Y 0 r B):bK (X.back Y k k' d β) id r B:=by obtain⟨h3,h1⟩:=hb;refine⟨?_,h1.move (λ_ _ hs=>xE h hs) rfl (λcs h4=>h4.out h (λp n=>by simp [jX,hk])) λ_ _ g o _ ho hw=>⟨ho,by rw[zg0 h (by rw[hw];exact λhh=>hh),hw];simp [jX,hk]⟩⟩;rw[zg0 h (by rw[h3];exact λe=>e),h3];simp [jX,hk]
theorem aC.out(h:Ext (X.c9 k) Y){r0 id j:Nat}{sv:SV}{v:Value}(hβ:∀bf t p,sv= .ptr bf t p->β id=some r0)(hn:sv.bW=false)(hr:aC {Y with β:=λ_=>some r0} (.r j) sv v):aC (X.back Y k k' d β) (.c d j) (sv.gV id) v:=by
 cases sv with
 |undef=>trivial
 |skip=>exact hr
 |cR=>exact hr
 |ey=>exact hr
 |over=>exact hr
 |aq t x own=>obtain⟨cs,h1,h2,h3⟩:=hr;have h3:bp Y (.r j) t x cs own:=h3;exact⟨cs,bm.aj (λad v (hs:({Y with β:=λ_=>some r0}:aw).aB ad v)=>xE (Y:=Y) h hs) h1,h2,h3.out h (λ_ _=>rfl)⟩
 |ptr bf t p=>obtain⟨r,h1,h2⟩:=hr;have h1:some r0=some r:=h1;cases h1;exact⟨r0,hβ bf t p rfl,h2⟩
 |view t x=>obtain⟨ad,cs,h1,h2,h3,h4⟩:=hr;exact⟨ad,cs,h1,h2,bm.aj (λad v (hs:({Y with β:=λ_=>some r0}:aw).aB ad v)=>xE (Y:=Y) h hs) h3,λi u hi=>xE h (show Y.aB _ _ from h4 i u hi)⟩
 |cap f t x u y=>exact uf (X:={Y with β:=λ_=>some r0}) (λad v (hs:({Y with β:=λ_=>some r0}:aw).aB ad v)=>xE (Y:=Y) h hs) hr
 |bF bf a b n=>cases hn
theorem Rel.back(h:Ext (X.c9 k) Y)(hr:Rel X s a)(hβ:∀(id:Nat) B,s.bs[id]? =some (some B)->β id=X.β id)(hk:∀(id:Nat) B,s.bs[id]? =some (some B)->k≠some id):Rel (X.back Y k k' d β) s a where
 size:=hr.size
 ia:=hr.ia
 bZ:=λi l v hl hv=>(hr.bZ i l v hl hv).jD λj sv u hm kB=>kB.back h (λid t p e=>by
  obtain⟨B,hB⟩:=hr.live i l id t p hl (e▸IH hm);exact hβ id B hB) (λid c d n e=>by
  obtain⟨_,⟨x,own,hb,_⟩,_⟩:=hr.bF i l id c d n hl (e▸IH hm);exact⟨hk id _ hb,hβ id _ hb⟩)
 boxes:=λid B hB=>by obtain⟨r,h1,h2⟩:=hr.boxes id B hB;exact⟨r,(hβ id B hB).trans h1,h2.back h (hk id B hB)⟩
 live:=hr.live
 defers:=hr.defers
 bF:=hr.bF
theorem Rel.Ae(h:Ext (X.c9 k) Y)(hr:Rel X s a){id r:Nat}{B B':bH}(hb:s.bs[id]? =some (some B))(hk:k=some id)(Rn:k'=some id)(hβ:X.β id=some r)(hB:bK Y 0 r B')(hg:B.t.ff=false\/ []∈B.own):Rel (X.back Y k k' d X.β) (s.aE (some (id,B'))) a where
 size:=hr.size
 ia:=by simpa [State.aE] using hr.ia
 bZ:=λi l v hl hv=>(hr.bZ i l v hl hv).jD λj sv u hm kB=>kB.back h (λ_ _ _ _=>rfl) (λbf c d n e=>⟨λe2=>by rw[hk] at e2;cases e2;exact hr.pS hb hg i l c d n hl (e▸IH hm),rfl⟩)
 boxes:=λbf B2 df=>by
  have ap:id<s.bs.length:=(AS.1 hb).1;simp only[State.aE,vc] at df;by_cases e:id=bf
  ·subst e;rw[if_pos rfl,if_pos ap] at df;cases df;exact⟨r,hβ,hB.out h Rn⟩
  ·rw[if_neg e] at df;obtain⟨r',h1,h2⟩:=hr.boxes bf B2 df;exact⟨r',h1,h2.back h (by rw[hk];intro e2;cases e2;exact e rfl)⟩
 live:=λi l bf t p hi hm=>by
  have ap:id<s.bs.length:=(AS.1 hb).1;obtain⟨B2,df⟩:=hr.live i l bf t p hi hm;simp only[State.aE,vc];by_cases e:id=bf
  ·subst e;exact⟨B',by rw[if_pos rfl,if_pos ap]⟩
  ·rw[if_neg e];exact⟨B2,df⟩
 defers:=hr.defers
 bF:=hr.bF.aE (hr.pS hb hg)
end
theorem aC.c9{k:Option Nat}{pl gU:List Nat->Place}{t:Ty}{x:El t}{w:List (List Nat)}{v:Value}(hr:aC X pl (.aq t x w) v):aC (X.c9 k) gU (.aq t x []) v:=by obtain⟨cs,h1,h2,_⟩:=hr;exact⟨cs,h1.aj (λ_ _=>xF.2),h2,nm⟩
theorem bK.c9{id r:Nat}{B:bH}(hb:bK X id r B):bK (X.c9 (some id)) 0 r B:=by
 obtain⟨h3,h1⟩:=hb;refine⟨by simp [aw.c9,h3,jg],h1.move (λ_ _=>xF.2) rfl (λcs h4 p hp=> ?_) λ_ _ g o _ ho hw=>⟨ho,by simp [aw.c9,hw,jg]⟩⟩;obtain⟨e,t',xs,v,g0,g1,g2,g3⟩:=h4 p hp;refine⟨e,t',xs,v,g0,g1,g2,?_⟩;rcases g3 with ho|⟨g,cap,cur,k1,k2,k3,k4,k5,k6⟩
 ·exact .inl ho
 ·exact .inr ⟨g,cap,cur,k1,k2,k3,k4,k5,by simp [aw.c9,k6,jg]⟩
theorem zvq:∀(vs l:List SV) (b:Option (Nat×bH)),ka s vs=some (l,b)->l.any SV.bW=false
 | [],l,b,h=>by simp only[ka,AI,zcT] at h;rw[<-h.1];rfl
 |v::r,l,b,h=>by
  simp only[ka] at h;split at h
  ·cases h
  rename_i l1 b1 h1;have ih:=zvq r l1 b1 h1;split at h
  ·cases h;simpa [SV.bW] using ih
  ·cases h;simpa [SV.bW] using ih
  ·cases h;simpa [SV.bW] using ih
  ·split at h
   case h_2=>cases h
   split at h
   case isFalse=>cases h
   cases h;simpa [SV.bW] using ih
  ·cases h
theorem zvr(hr:Rel X s a):∀(vs:List (SV×Value)) (l:List SV) (b:Option (Nat×bH)),(∀x∈vs,∃q,aC X q x.1 x.2)->ka s (vs.map (·.1))=some (l,b)->l.length=vs.length/\
 (∀id B,b=some (id,B)->s.bs[id]? =some (some B))/\
 (∀id t p,SV.ptr id t p∈l->id=0/\b.isSome=true)/\
 ∀k,(∀id B,b=some (id,B)->k=some id)->∀(i:Nat) sv x,l[i]? =some sv->vs[i]? =some x->∀q,aC (X.c9 k) q sv x.2:=by
 intro vs
 induction vs with
 |nil=>intro l b _ h;simp only[zbK,ka,AI,zcT] at h;obtain⟨rfl,rfl⟩:=h;refine⟨rfl,(λid B e=>by cases e),(λid t p hm=>by cases hm),λk _ i sv x hl=>by simp at hl⟩
 |cons x r ih=>
  intro l b iz h;simp only[zaq,ka] at h;split at h
  ·cases h
  rename_i l1 b1 h1;obtain⟨i1,i2,i3,i4⟩:=ih l1 b1 (λy hy=>iz y (Cs _ hy)) h1;obtain⟨q0,hx⟩:=iz x List.mem_cons_self;have fin:∀(sv:SV),l=sv::l1->(∀id B,b1=some (id,B)->b=b1)->(∀id B,b=some (id,B)->s.bs[id]? =some (some B))->(∀id t p,sv= .ptr id t p->id=0/\b.isSome=true)->
   (∀k,(∀id B,b=some (id,B)->k=some id)->∀q,aC (X.c9 k) q sv x.2)->l.length=(x::r).length/\
   (∀id B,b=some (id,B)->s.bs[id]? =some (some B))/\
   (∀id t p,SV.ptr id t p∈l->id=0/\b.isSome=true)/\
   ∀k,(∀id B,b=some (id,B)->k=some id)->∀(i:Nat) sv y,l[i]? =some sv->(x::r)[i]? =some y->∀q,aC (X.c9 k) q sv y.2:=by
   intro sv hl hb bS bR aO;subst hl;refine⟨by simp [i1],bS,λid t p hm=> ?_,λk hk i sv' y hl hv=> ?_⟩
   ·rcases If.1 hm with e|hm
    ·exact bR id t p e.symm
    ·obtain⟨j1,j2⟩:=i3 id t p hm;cases oL:b1 with
     |none=>rw[oL] at j2;cases j2
     |some bb=>rw[hb bb.1 bb.2 oL];exact⟨j1,j2⟩
   ·cases i with
    |zero=>simp only[zaB,AI] at hl hv;subst hl hv;exact aO k hk
    |succ i=>simp only[zax] at hl hv;exact i4 k (λid B e=>hk id B (by rw[hb id B e];exact e)) i sv' y hl hv
  obtain⟨x1,x2⟩:=x;simp only at h hx fin;split at h
  ·cases h;exact fin _ rfl (λ_ _ _=>rfl) i2 (λ_ _ _ e=>by cases e) (λk _ q=>hx.c9)
  ·cases h;exact fin _ rfl (λ_ _ _=>rfl) i2 (λ_ _ _ e=>by cases e) (λk _ q=>hx)
  ·cases h;refine fin _ rfl (λ_ _ _=>rfl) i2 (λ_ _ _ e=>by cases e) (λk _ q=> ?_);obtain⟨ad,cs,g1,g2,g3,g4⟩:=hx;exact⟨ad,cs,g1,g2,g3.aj (λ_ _=>xF.2),λi w hi=>xF.2 (g4 i w hi)⟩
  ·rename_i id t;split at h
   case h_2=>cases h
   rename_i B hB;split at h
   case isFalse=>cases h
   cases h;obtain⟨rr,g1,g2⟩:=hx;refine fin _ rfl (λ_ _ e=>by cases e) (λid B e=>by cases e;exact sN hB) (λ_ _ _ e=>by cases e;exact⟨rfl,rfl⟩) (λk hk q=> ?_);have:=hk id B rfl;subst this;exact⟨rr,g1,g2⟩
  ·cases h
def lJ(P:Program)(X:aw)(s:State)(a:Act)(o:Oper)(u:Out):Prop:=
 ∀(next:Act->World->Prop) (Q:Exit->Act->World->Prop),(∀Y v,Ext X Y->Rel Y (s.apply o.dst u) (a.put o.dst v)->next (a.put o.dst v) Y.w)->o.wp P a X.w next Q
theorem aJ.does(h:aJ P X s a o u):lJ P X s a o u:=λnext Q hn=>by
 obtain⟨Y,v,h1,h2,h3⟩:=h;unfold zeZ;rcases h1 with h1|⟨h1,rfl⟩
 ·rw[h1,zeF];exact hn Y v h2 h3
 ·rw[h1,zfh];exact hn Y _ h2 h3
theorem T5{f:FuncId}(h:uv P f){ea:Array Operand}{ts:Array TypeId}(ho:o.op= .call ⟨.value (.func f),ea,ts⟩)(w:World):(execOp a.eval o).run P w= .ok (.enter f (ea.map a.eval)) w:=by obtain⟨fn,c,h1,h2,h3⟩:=h;simp [execOp,ho,resolve,zfV,Act.eval,invoke,callFunc,h1,h3];simpa using h2
theorem Ti{l:List SV}{id:Nat}(h:∀id t p,SV.ptr id t p∉l):l.map (SV.gV id)=l:=by
 induction l with
 |nil=>rfl
 |cons v r ih=>
  rw[zaq,ih (λid t p hm=>h id t p (Cs _ hm))];congr 1;cases v<;>first|rfl|skip
  exact absurd (List.mem_cons_self) (h _ _ _)
theorem zwh{k k':Option Nat}{d:Nat}{β:Nat->Option Nat}{Y:aw}(h:Ext (X.c9 k) Y){r0 id:Nat}{r:List SV}{v:Value}(hβ:∀bf t p,SV.ptr bf t p∈r->β id=some r0)(hn:r.any SV.bW=false)(hr:cW {Y with β:=λ_=>some r0} .r r v):cW (X.back Y k k' d β) (.c d) (r.map (SV.gV id)) v:=by
 match r,hr with
 | [sv],hr=>exact aC.out h (λbf t p e=>hβ bf t p (by simp [e])) (by simpa using hn) hr
 | [],⟨vs,h1,h2,h3⟩=>exact⟨vs,h1,h2,λj s u hs=>by simp at hs⟩
 |x::y::r,⟨vs,h1,h2,h3⟩=>refine⟨vs,h1,by simpa using h2,λj sv u hs hu=> ?_⟩;have hs:((x::y::r).map (SV.gV id))[j]? =some sv:=hs;rw[IN] at hs;obtain⟨s0,fF,rfl⟩:=nl.1 hs;exact aC.out h (λbf t p e=>hβ bf t p (e▸IH fF)) (by simpa using za9.1 hn s0 (IH fF)) (h3 j s0 u fF hu)
theorem UJ{l:List SV}{id:Nat}(h:l.any SV.bW=false):(l.map (SV.gV id)).any SV.bW=false:=za9.2 λv hv=>by obtain⟨w,hw,rfl⟩:=zau.1 hv;have:=za9.1 h w hw;cases w<;>first|exact this|simp [SV.gV,SV.bW]
theorem afb:∀g pl n,(X.c9 none).ow g≠ .row pl n:=λg pl n=>by
 show jg none (X.ow g)≠_;cases X.ow g with
 |row q m=>cases q<;>simp [jg]
 |_=>simp [jg]
theorem zgb(hr:Rel X s a){C:ai}(hC:C.Nat){f:FuncId}(hf:dh P C f){vs:List (SV×Value)}(x7:∀x∈vs,∃q,aC X q x.1 x.2)(eW:uv P f->(execOp a.eval o).run P X.w= .ok (.enter f (vs.map (·.2)).toArray) X.w)(h:gH (C Out) s o.dst f (vs.map (·.1)) some=some u):lJ P X s a o u:=by
 have aZ:=eW;clear eW;unfold gH at h;have enter:∀(l:List SV) (b:Option (Nat×bH)) (k:Option Nat),ka s (vs.map (·.1))=some (l,b)->(∀id B,b=some (id,B)->k=some id)->(b=none->k=none)->kG (X.c9 k) l (b.map (·.2)) (vs.map (·.2)).toArray:=by
  intro l b k cg hk EI;obtain⟨i1,i2,i3,i4⟩:=zvr hr vs l b x7 cg;refine⟨by simpa using i1.symm,λi sv v hl hv=> ?_,λid t p hm=> ?_,λB hB=> ?_,λhb=> ?_,zvq _ _ _ cg⟩
  ·rw[zei,IN] at hv;obtain⟨x,hx,rfl⟩:=nl.1 hv;exact i4 k hk i sv x hl hx _
  ·obtain⟨j1,j2⟩:=i3 id t p hm;exact⟨j1,by simpa using j2⟩
  ·obtain⟨bb,Gf,rfl⟩:=nl.1 hB;obtain⟨id,B⟩:=bb;obtain⟨r,h1,h2⟩:=hr.boxes id B (i2 id B Gf);have:=hk id B Gf;subst this;exact⟨r,h1,h2.c9⟩
  ·have hb:b=none:=by cases b<;>simp at hb⊢
   rw[EI hb];exact afb
 split at h
 ·rename_i l cg;obtain⟨⟨r,b'⟩,nQ,h⟩:=kE (hC Out _ f l none _ (λr b=>some (r,b)) (λz=>match z.2 with
   |none=>some {v:=z.1}
   |some B=>match o.dst with
    |some d=>match s.bs[d+1]? with
     |some none=>some {v:=z.1.map (SV.gV (d+1)),bx:=some (d+1,B)}
     |_=>none
    |none=>none) (λr b=>rfl)) h
  obtain⟨eW,nU⟩:=hf l none r b' nQ;have iI:=enter l none none cg (λid B e=>by cases e) (λ_=>rfl);intro next Q hn
  unfold zeZ;rw[aZ eW,zf2];refine(nU (X.c9 none) _ iI).mono λe w' he=> ?_;cases e with
  |returned v=>
   obtain⟨Y,rfl,bc,r0,aO,bS,pP,eE⟩:=he;simp only at h;cases b' with
   |none=>cases h;have hp:=pP (.inl rfl);have cr:=zvs (k':=none) (d:=o.dst.getD 0) (β:=X.β) bc rfl;refine hn (X.back Y none none (o.dst.getD 0) X.β) v cr ?_;refine(Rel.back (k':=none) bc hr (λ_ _ _=>rfl) (λ_ _ _=>by simp)).fin ?_ (λid t p hm=>absurd hm (hp id t p)) eE;have:=zwh (k':=none) (d:=o.dst.getD 0) (β:=X.β) (id:=0) bc (λbf t p hm=>absurd hm (hp bf t p)) eE aO;rw[Ti hp] at this;exact this
   |some B=>
    simp only at h;split at h
    case h_2=>cases h
    rename_i d hd;split at h
    case h_2=>cases h
    rename_i jO;cases h;have ap:d+1<s.bs.length:=(AS.1 jO).1;obtain⟨hB,_⟩:=bS B rfl;let β:Nat->Option Nat:=λid=>if id=d+1 then some r0 else X.β id;have hβd:β (d+1)=some r0:=by simp [β]
    have cr:=zvs (k':=some (d+1)) (d:=d) (β:=β) bc (by simp [β]);refine hn (X.back Y none (some (d+1)) d β) v cr ?_;have bD:=(Rel.back (k':=some (d+1)) (d:=d) (β:=β) bc hr (λid B2 df=>by show(if _ then _ else _)=_;rw[if_neg (λe=>by rw[e,jO] at df;cases df)]) (λ_ _ _=>by simp)).fQ ap jO hβd (hB.out bc rfl)
    rw[hd];refine bD.put (λd' e=> ?_) (λid t p hm=> ?_) (UJ eE)
    ·cases e;exact zwh bc (λ_ _ _ _=>hβd) eE aO
    ·obtain⟨s0,_,he0⟩:=zau.1 hm;have:id=d+1:=by cases s0<;>simp [SV.gV] at he0;exact he0.1.symm
     subst this;exact⟨B,by simp [State.close,State.aE,vc,ap]⟩
  |panicked c=>exact he.elim
  |outgrown=>exact he.elim
 ·rename_i l id B cg;split at h
  case isTrue=>cases h
  rename_i tK;have hg:B.t.ff=false\/ []∈B.own:=by rw[Bool.not_eq_true,Bool.and_eq_false_iff,Bool.not_eq_false'] at tK;exact tK.imp (λh=>h) Fm
  obtain⟨⟨r,b'⟩,nQ,h⟩:=kE (hC Out _ f l (some B) _ (λr b=>some (r,b)) (λz=>match z.2 with
   |some B'=>if B'.t.cB B.t=true then some {v:=z.1,bx:=some (id,B')} else none
   |none=>none) (λr b=>rfl)) h
  obtain⟨eW,nU⟩:=hf l (some B) r b' nQ;have iI:=enter l (some (id,B)) (some id) cg (λid B e=>by cases e;rfl) (λe=>by cases e);obtain⟨_,i2,_,_⟩:=zvr hr vs l _ x7 cg;have hb:=i2 id B rfl;intro next Q hn
  unfold zeZ;rw[aZ eW,zf2];refine(nU (X.c9 (some id)) _ iI).mono λe w' he=> ?_;cases e with
  |returned v=>
   obtain⟨Y,rfl,bc,r0,aO,bS,pP,eE⟩:=he;simp only at h;cases b' with
   |none=>cases h
   |some B'=>
    simp only at h;split at h
    case isFalse=>cases h
    cases h;have hp:=pP (.inr rfl);obtain⟨hB,hβ⟩:=bS B' rfl;have hβ:=hβ rfl;have cr:=zvs (k':=some id) (d:=o.dst.getD 0) (β:=X.β) bc rfl;refine hn (X.back Y (some id) (some id) (o.dst.getD 0) X.β) v cr ?_;refine(Rel.Ae (k:=some id) (k':=some id) bc hr hb rfl rfl hβ hB hg).fin ?_ (λid t p hm=>absurd hm (hp id t p)) eE;have:=zwh (k':=some id) (d:=o.dst.getD 0) (β:=X.β) (id:=0) bc (λbf t p hm=>absurd hm (hp bf t p)) eE aO;rw[Ti hp] at this;exact this
  |panicked c=>exact he.elim
  |outgrown=>exact he.elim
 ·cases h
theorem zfz(hr:Rel X s a)(ea:Array Operand):∀x∈ea.toList.map (λx=>(s.aI x,a.eval x)),∃q,aC X q x.1 x.2:=λx hx=>by obtain⟨y,_,rfl⟩:=zau.1 hx;exact⟨_,hr.aI y⟩
theorem UP{X:aw}{pl:List Nat->Place}{sv:SV}{v:Value}(h:aC X pl sv v):aC X pl sv.shut v:=by
 cases sv with
 |aq t x own=>obtain⟨cs,h1,h2,_⟩:=h;exact⟨cs,h1,h2,nm⟩
 |bF id a b j=>trivial
 |_=>exact h
theorem ai3{X:aw}{pl:Nat->List Nat->Place}{l:List SV}{v:Value}(h:cW X pl l v):cW X pl (l.map SV.shut) v:=by
 match l,h with
 | [sv],h=>exact UP (sv:=sv) h
 | [],h=>exact h
 |x::y::r,⟨vs,g1,g2,g3⟩=>refine⟨vs,g1,by simpa using g2,λj sv u mX hu=> ?_⟩;have mX:((x::y::r).map SV.shut)[j]? =some sv:=mX;rw[IN] at mX;obtain⟨s0,fF,rfl⟩:=nl.1 mX;exact UP (g3 j s0 u fF hu)
theorem ai2{l:List SV}{j:Nat}{t:Ty}{p:List Nat}(h:SV.ptr j t p∈l.map SV.shut):SV.ptr j t p∈l:=by obtain⟨s0,fF,he⟩:=zau.1 h;cases s0<;>first|(cases he;done)|(rw[<-he];exact fF)|skip
theorem Rel.bX(hr:Rel X s a){d:Nat}{l:List SV}:Rel X {s with sl:=s.sl.set d l} a->Rel X {s with sl:=s.sl.set d (l.map SV.shut)} a:=λh=>{
 size:=by simpa using hr.size
 ia:=by simpa using hr.ia
 bZ:=λi l' v hl hv=>by
  replace hl:(s.sl.set d (l.map SV.shut))[i]? =some l':=hl;rw[vc] at hl;split at hl
  ·rename_i wH;split at hl
   ·cases hl;rename_i ap;exact ai3 (h.bZ i l v (by show(s.sl.set d l)[i]? =_;rw[vc,if_pos wH,if_pos ap]) hv)
   ·cases hl
  ·rename_i wH;exact h.bZ i l' v (by show(s.sl.set d l)[i]? =_;rw[vc,if_neg wH];exact hl) hv
 boxes:=h.boxes
 live:=λi l' id t p hl hm=>by
  replace hl:(s.sl.set d (l.map SV.shut))[i]? =some l':=hl;rw[vc] at hl;split at hl
  ·rename_i wH;split at hl
   ·cases hl;rename_i ap;exact h.live i l id t p (by show(s.sl.set d l)[i]? =_;rw[vc,if_pos wH,if_pos ap]) (ai2 hm)
   ·cases hl
  ·rename_i wH;exact h.live i l' id t p (by show(s.sl.set d l)[i]? =_;rw[vc,if_neg wH];exact hl) hm
 defers:=h.defers
 bF:=h.bF.less (λi l' id c b j hl hm=>by
  replace hl:(s.sl.set d (l.map SV.shut))[i]? =some l':=hl;rw[vc] at hl;split at hl
  ·split at hl
   ·cases hl;exact(Ce (zmf l) hm).elim
   ·cases hl
  ·rename_i wH;exact⟨l',by show(s.sl.set d l)[i]? =_;rw[vc,if_neg wH];exact hl,hm,λh=>h⟩) (λid c b x own _ hb ho=>⟨x,own,hb,ho⟩)}
theorem lJ.shut(h:lJ P X s a o u):lJ P X s a o u.shut:=λnext Q hn=>h next Q λY v bc bD=>hn Y v bc (by
 unfold State.apply at bD⊢;show Rel Y (((s.close u.cl).aE u.bx).au o.dst (u.v.map SV.shut)) _;generalize(s.close u.cl).aE u.bx=s1 at*;cases hd:o.dst with
 |none=>rw[hd] at bD;exact bD
 |some d=>
  rw[hd] at bD;have e:=Rel.bX (X:=Y) (s:={s1 with sl:=s1.sl.set d u.v}) (a:=a.put (some d) v) (d:=d) (l:=u.v) bD (by show Rel Y {s1 with sl:=(s1.sl.set d u.v).set d u.v} _;rw[zhB];exact bD)
  show Rel Y {s1 with sl:=s1.sl.set d (u.v.map SV.shut)} _;have e2:Rel Y {s1 with sl:=(s1.sl.set d u.v).set d (u.v.map SV.shut)} (a.put (some d) v):=e;rw[zhB] at e2;exact e2)
def fI(id j:Nat):Ow->Bool
 | .row (.b bf (j'::_)) _=>xz bf id&&xz j' j
 |_=>false
def CN(id j:Nat):Ow->Ow
 | .all=> .all
 | .ro n=> .ro n
 | .box _=> .ro 0
 | .row (.b bf (j'::p)) n=>if xz bf id&&xz j' j then .row (.b 0 p) n else .ro n
 | .row _ n=> .ro n
def B7(id j d:Nat):Ow->Ow
 | .all=> .all
 | .ro n=> .ro n
 | .box _=> .ro 0
 | .row (.r i p) n=> .row (.c d i p) n
 | .row (.b 0 p) n=> .row (.b id (j::p)) n
 | .row _ n=> .ro n
theorem ztj{id j:Nat}{w:Ow}{i:Nat}:(CN id j w).used i↔w.used i:=by
 cases w with
 |all=>rfl
 |ro n=>rfl
 |box id=>simp [CN,Ow.used]
 |row pl n=>
  cases pl with
  |b bf p=>
   cases p with
   |nil=>rfl
   |cons j' p=>simp only[CN];split<;>rfl
  |_=>rfl
theorem ad3{id j d:Nat}{w:Ow}{i:Nat}(h:w.used i):(B7 id j d w).used i:=by
 cases w with
 |all=>exact h
 |ro n=>exact h
 |box id=>exact h.elim
 |row pl n=>
  cases pl with
  |b bf p=>cases bf<;>exact h
  |c i j p=>exact h
  |r j p=>exact h
theorem zm4{id j:Nat}{w:Ow}(h:fI id j w=false):(CN id j w).still:=by
 cases w with
 |all=>trivial
 |ro n=>trivial
 |box id=>trivial
 |row pl n=>
  cases pl with
  |b bf p=>
   cases p with
   |nil=>trivial
   |cons j' p=>simp only[fI] at h;simp only[CN,h];trivial
  |_=>trivial
def aw.eR(X:aw)(id j g:Nat):aw:=⟨X.w,λq=>if q=g then .box 0 else CN id j (X.ow q),λ_=>some g⟩
def aw.bj(X Y:aw)(id j g d:Nat):aw:=⟨Y.w,λq=>if q=g then .row (.b id [j]) 0 else if q<X.w.heap.size/\fI id j (X.ow q)=false then X.ow q else B7 id j d (Y.ow q),X.β⟩
section
variable {Y:aw} {id j g d:Nat}
theorem Uv(hg:X.ow g= .row (.b id [j]) 0){ad:Addr}{v:Value}:(X.eR id j g).aB ad v↔X.aB ad v:=by
 simp only[aw.aB,aw.eR];split
 ·rename_i e;rw[e,hg];simp [Ow.used]
 ·rw[ztj]
theorem Ck(h:Ext (X.eR id j g) Y){q:Nat}(hq:q<X.w.heap.size)(hm:fI id j (X.ow q)=false)(bR:q≠g):(X.bj Y id j g d).ow q=X.ow q/\(X.bj Y id j g d).w.heap[q]? =X.w.heap[q]? /\(Y.ow q).still/\Y.ow q=CN id j (X.ow q):=by
 have e:(X.eR id j g).ow q=CN id j (X.ow q):=by simp only[aw.eR];rw[if_neg bR]
 obtain⟨h1,h2⟩:=h.still q hq (by rw[e];exact zm4 hm);refine⟨by simp only[aw.bj];rw[if_neg bR,if_pos ⟨hq,hm⟩],h2,?_,h1.trans e⟩;rw[h1,e];exact zm4 hm
theorem afx(h:Ext (X.eR id j g) Y){q:Nat}(bR:q≠g)(hs:¬(Y.ow q).still):(X.bj Y id j g d).ow q=B7 id j d (Y.ow q):=by simp only[aw.bj];rw[if_neg bR,if_neg];rintro⟨hq,hm⟩;exact hs (Ck (d:=d) h hq hm bR).2.2.1
theorem zcr(h:Ext (X.eR id j g) Y)(hY:Y.ow g= .box 0){ad:Addr}{v:Value}(hs:Y.aB ad v):(X.bj Y id j g d).aB ad v:=by
 have bR:ad.block≠g:=λe=>by have:=hs.2.2;rw[e,hY] at this;exact this
 refine⟨hs.1,hs.2.1,?_⟩;simp only[aw.bj];rw[if_neg bR];split
 ·rename_i hc;have:=(Ck (d:=d) h hc.1 hc.2 bR).2.2.2;have hu:=hs.2.2;rw[this,ztj] at hu;exact hu
 ·exact ad3 hs.2.2
theorem z9k(h:Ext (X.eR id j g) Y)(hg:X.ow g= .row (.b id [j]) 0)(hY:Y.ow g= .box 0):Ext X (X.bj Y id j g d) where
 aB:=λad v hs=>zcr h hY (h.aB ad v ((Uv hg).2 hs))
 size:=h.size
 os:=h.os
 tape:=h.tape
 output:=h.output
 β0:=rfl
 still:=λq hq bY=>by
  have hm:fI id j (X.ow q)=false:=by cases hx:X.ow q<;>rw[hx] at bY<;>first|rfl|exact bY.elim
  obtain⟨h1,h2,_⟩:=Ck (d:=d) h hq hm (λe=>by rw[e,hg] at bY;exact bY);exact⟨h1,h2⟩
theorem bB.bj(h:Ext (X.eR id j g) Y)(hg:X.ow g= .row (.b id [j]) 0){pl:Place}(gB:∀n,fI id j (.row pl n)=false){e:TypeId}{m n:Nat}{v:Value}(ho:bB X pl e m n v):bB (X.bj Y id j g d) pl e m n v:=by
 rcases ho with ho|⟨q,cap,cur,h1,h2,h3,h4,h5,h6⟩
 ·exact .inl ho
 ·obtain⟨k1,k2,_⟩:=Ck (d:=d) h (yp h2) (by rw[h6];exact gB _) (λe=>by
   rw[e,hg] at h6;injection h6 with h6 _
   have:=gB 0;rw[<-h6] at this;simp [fI] at this)
  exact .inr ⟨q,cap,cur,h1,k2.trans h2,h3,h4,h5,k1.trans h6⟩
theorem bp.bj(h:Ext (X.eR id j g) Y)(hg:X.ow g= .row (.b id [j]) 0){pl:List Nat->Place}(gB:∀p n,fI id j (.row (pl p) n)=false){t:Ty}{x:El t}{cs:List Value}{own:List (List Nat)}(ho:bp X pl t x cs own):bp (X.bj Y id j g d) pl t x cs own:=λp hp=>by obtain⟨e,t',xs,v,g0,g1,g2,g3⟩:=ho p hp;exact⟨e,t',xs,v,g0,g1,g2,g3.bj h hg (gB p)⟩
theorem bp.tQ(h:Ext (X.eR id j g) Y)(hY:Y.ow g= .box 0){pl gU:List Nat->Place}(gB:∀p n,B7 id j d (.row (pl p) n)= .row (gU p) n){t:Ty}{x:El t}{cs:List Value}{own:List (List Nat)}(ho:bp Y pl t x cs own):bp (X.bj Y id j g d) gU t x cs own:=λp hp=>by
 obtain⟨e,t',xs,v,g0,g1,g2,g3⟩:=ho p hp;refine⟨e,t',xs,v,g0,g1,g2,?_⟩;rcases g3 with ho|⟨q,cap,cur,h1,h2,h3,h4,h5,h6⟩
 ·exact .inl ho
 ·refine .inr ⟨q,cap,cur,h1,h2,h3,h4,h5,?_⟩;rw[afx h (λe=>by rw[e,hY] at h6;cases h6) (by rw[h6];exact λe=>e),h6,gB]
theorem aC.bj(h:Ext (X.eR id j g) Y)(hg:X.ow g= .row (.b id [j]) 0)(hY:Y.ow g= .box 0){i k:Nat}{sv:SV}{v:Value}(hr:aC X (.c i k) sv v):aC (X.bj Y id j g d) (.c i k) sv v:=by
 have hs:∀a v,X.aB a v->(X.bj Y id j g d).aB a v:=(z9k h hg hY).aB;cases sv with
 |undef=>trivial
 |skip=>exact hr
 |cR=>exact hr
 |ey=>exact hr
 |over=>exact hr
 |aq t x own=>obtain⟨cs,h1,h2,h3⟩:=hr;exact⟨cs,h1.aj hs,h2,h3.bj h hg (λ_ _=>rfl)⟩
 |ptr bf t p=>obtain⟨r,h1,h2⟩:=hr;exact⟨r,h1,h2⟩
 |view t x=>obtain⟨ad,cs,h1,h2,h3,h4⟩:=hr;exact⟨ad,cs,h1,h2,h3.aj hs,λi u hi=>hs _ _ (h4 i u hi)⟩
 |cap f t x u y=>exact uf hs hr
 |bF bf a b n=>obtain⟨r,h1,h2,h3⟩:=hr;obtain⟨e1,e2,_⟩:=Ck (d:=d) (q:=r) h (zcQ X.w _ h3) (by rw[h2];rfl) (λe=>by rw[e,hg] at h2;cases h2);refine⟨r,h1,e1.trans h2,?_⟩;simp only[zaP] at h3⊢;rw[e2];exact h3
theorem bK.bj(h:Ext (X.eR id j g) Y)(hg:X.ow g= .row (.b id [j]) 0)(hY:Y.ow g= .box 0){bf r:Nat}{B:bH}(bR:bf≠id)(hb:bK X bf r B):bK (X.bj Y id j g d) bf r B:=by
 obtain⟨h3,h1⟩:=hb;have hm:∀p n,fI id j (.row (.b bf p) n)=false:=λp n=>by
  cases p with
  |nil=>rfl
  |cons j' p=>simp [fI,bR]
 obtain⟨k1,k2,_⟩:=Ck (d:=d) h h1.lt (by rw[h3];rfl) (λe=>by rw[e,hg] at h3;cases h3);exact⟨k1.trans h3,h1.move (z9k h hg hY).aB k2 (λcs h4=>h4.bj h hg hm) λp _ q o n ho hw=>by
  obtain⟨e1,e2,_⟩:=Ck (d:=d) h (yp ho) (by rw[hw];exact hm _ _) (λe=>by
   rw[e,hg] at hw;injection hw with hw _
   have:=hm p n;rw[<-hw] at this;simp [fI] at this)
  exact⟨e2.trans ho,e1.trans hw⟩⟩
theorem aC.tQ(h:Ext (X.eR id j g) Y)(hY:Y.ow g= .box 0){r0 k:Nat}{sv:SV}{v:Value}(hp:∀id t p,sv≠ .ptr id t p)(hn:sv.bW=false)(hr:aC {Y with β:=λ_=>some r0} (.r k) sv v):aC (X.bj Y id j g d) (.c d k) sv v:=by
 have hs:∀a v,({Y with β:=λ_=>some r0}:aw).aB a v->(X.bj Y id j g d).aB a v:=λa v hs=>zcr h hY (show Y.aB a v from hs);cases sv with
 |undef=>trivial
 |skip=>exact hr
 |cR=>exact hr
 |ey=>exact hr
 |over=>exact hr
 |aq t x own=>obtain⟨cs,h1,h2,h3⟩:=hr;have h3:bp Y (.r k) t x cs own:=h3;exact⟨cs,bm.aj hs h1,h2,h3.tQ h hY (λ_ _=>rfl)⟩
 |ptr bf t p=>exact absurd rfl (hp bf t p)
 |view t x=>obtain⟨ad,cs,h1,h2,h3,h4⟩:=hr;exact⟨ad,cs,h1,h2,bm.aj hs h3,λi u hi=>hs _ _ (h4 i u hi)⟩
 |cap f t x u y=>exact uf (X:={Y with β:=λ_=>some r0}) hs hr
 |bF bf a b n=>cases hn
theorem cW.tQ(h:Ext (X.eR id j g) Y)(hY:Y.ow g= .box 0){r0:Nat}{r:List SV}{v:Value}(hp:∀id t p,SV.ptr id t p∉r)(hn:r.any SV.bW=false)(hr:cW {Y with β:=λ_=>some r0} .r r v):cW (X.bj Y id j g d) (.c d) r v:=
 hr.jD λk sv u hk hu=>hu.tQ h hY (λid t p e=>hp id t p (e▸IH hk)) (by simpa using za9.1 hn sv (IH hk))
theorem dO.bj(h:Ext (X.eR id j g) Y)(hg:X.ow g= .row (.b id [j]) 0)(hY:Y.ow g= .box 0){k:Nat}(hk:k≠j){b:Ty}{m:Option (El b)}{v:Value}(hm:dO X (λp=> .b id (k::p)) b m v):dO (X.bj Y id j g d) (λp=> .b id (k::p)) b m v:=
 hm.move (z9k h hg hY).aB λp _ q o n ho hw=>by
  have hf:fI id j (.row (.b id (k::p)) n)=false:=by
   simp only[fI];rw[show xz k j=false from by
    cases h:xz k j with
    |false=>rfl
    |true=>exact absurd (DD h) hk,Bool.and_false]
  obtain⟨e1,e2,_⟩:=Ck (d:=d) h (yp ho) (by rw[hw];exact hf) (λe=>by
   rw[e,hg] at hw;injection hw with hw _
   injection hw with _ hw
   injection hw with hw _
   exact hk hw.symm)
  exact⟨e2.trans ho,e1.trans hw⟩
end
theorem Zf:∀(vs l:List SV),ka s vs=some (l,none)->∀sv∈l,(∃t x,sv= .aq t x [])\/sv= .cR\/∃t x,sv= .view t x
 | [],l,h,sv,hm=>by simp only[ka,AI,zcT] at h;rw[<-h.1] at hm;cases hm
 |v::r,l,h,sv,hm=>by
  simp only[ka] at h;split at h
  ·cases h
  rename_i l1 b1 h1;split at h
  ·cases h;rcases If.1 hm with rfl|hm
   ·exact .inl ⟨_,_,rfl⟩
   ·exact Zf r l1 h1 sv hm
  ·cases h;rcases If.1 hm with rfl|hm
   ·exact .inr (.inl rfl)
   ·exact Zf r l1 h1 sv hm
  ·cases h;rcases If.1 hm with rfl|hm
   ·exact .inr (.inr ⟨_,_,rfl⟩)
   ·exact Zf r l1 h1 sv hm
  ·split at h
   case h_2=>cases h
   split at h
   case isFalse=>cases h
   cases h
  ·cases h
theorem ztk{ea:List Operand}{t id j:Nat}{ta tb:Ty}{r:List Operand}(h:Na s ea=some (t,id,ta,tb,j,r)):ea= .tmp t::r/\s.slot t=[.bF id ta tb j]:=by
 unfold Na at h;split at h
 case h_2=>cases h
 split at h
 case h_2=>cases h
 rename_i hs;cases h;exact⟨rfl,hs⟩
theorem amv{X:aw}{id j:Nat}{b:Ty}{m:Option (El b)×Option (El b)}{p0 p1:Value}{y:El b}(hj:j<2)(h0:dO X (λp=> .b id (0::p)) b m.1 p0)(h1:dO X (λp=> .b id (1::p)) b m.2 p1)(hy:getM j m=some y):dO X (λp=> .b id (j::p)) b (some y) (if j=0 then p0 else p1):=by
 match j,hj with
 |0,_=>have hy:m.1=some y:=hy;rw[hy] at h0;exact h0
 |1,_=>have hy:m.2=some y:=hy;rw[hy] at h1;exact h1
theorem aeS(hr:Rel X s a){C:ai}(hC:C.Nat){f:FuncId}(hf:dh P C f){ea:Array Operand}{ts:Array TypeId}(ho:o.op= .call ⟨.value (.func f),ea,ts⟩){t id j:Nat}{ta tb:Ty}{r:List Operand}(hl:Na s ea.toList=some (t,id,ta,tb,j,r))(h:kV (C Out) s f t id ta tb j (r.map s.aI) some=some u):lJ P X s a o u:=by
 obtain⟨has,bY⟩:=ztk hl;have ja:=hr.slot t;rw[bY] at ja;obtain⟨rr,hβ,how,eb⟩:aC X (.c t 0) (.bF id ta tb j) (a.tmps.getD t zaj):=ja;have hti:t<s.sl.length:=by
  rcases zbJ t s.sl.length with h|h
  ·exact h
  ·simp [State.slot,IT h] at bY
 have hsi:s.sl[t]? =some [.bF id ta tb j]:=by rw[sP hti,bY]
 obtain⟨_,⟨x1,R8,oL,arA⟩,RS⟩:=hr.bF t _ id ta tb j hsi (by simp);unfold kV at h;split at h
 case isTrue=>cases h
 rename_i eL;have eL:tb.bO=false:=by simpa using eL
 split at h
 case h_2=>cases h
 rename_i l cg;obtain⟨x,own,r1,hb,h,b7,h1,_,c,p0,p1,T,aF,aO,uE,uF⟩:=MF hr h;rw[hβ] at h1;cases h1;split at h
 case h_2=>cases h
 rename_i y hy;have hv:(c++ [p0,p1,Value.int .i64 x.2.2])[ta.cells+j]? =some (a.tmps.getD t zaj):=by simp only[zaP,aF] at eb;simpa using eb
 rw[zaa (by rw[aO.len];omega),aO.len,zaS] at hv;have hj:j<2:=by
  match j,hy with
  |0,_=>omega
  |1,_=>omega
  |j+2,hy=>cases hy
 obtain⟨g,csg,Tg,EN,hhg,ni,hrg,hwg⟩:=amv hj uE uF hy;have hvt:a.tmps.getD t zaj= .pointer (some ⟨g,0,none⟩):=by
  match j,hj with
  |0,_=>
   have hv:p0=a.tmps.getD t zaj:=by simpa using hv
   rw[<-hv];exact EN
  |1,_=>
   have hv:p1=a.tmps.getD t zaj:=by simpa using hv
   rw[<-hv];exact EN
 obtain⟨⟨res,b'⟩,nQ,h⟩:=kE (hC Out _ f (.ptr 0 tb []::l) (some ⟨tb,y,z91⟩) _ (λr b=>some (r,b)) (λz=>match z.2 with
  |some B'=>if h:B'.t.cB tb=true then bif hP B'.own [2] then some {v:=z.1,bx:=some (id,⟨.aY .cX ta tb,(x.1,gy j (some (Ty.cast h B'.x)) x.2.1,x.2.2),[]::own⟩),cl:=[(t,0)]} else none else none
  |none=>none) (λr b=>rfl)) h
 obtain⟨eW,nU⟩:=hf _ _ res b' nQ;have iI:kG (X.eR id j g) (.ptr 0 tb []::l) (some ⟨tb,y,z91⟩) (ea.map a.eval):=by
  have eO:∀ad v,X.aB ad v->(X.eR id j g).aB ad v:=λ_ _=>(Uv ni).2;have QX:ea.toList.map a.eval=a.eval (.tmp t)::r.map a.eval:=by rw[has];rfl
  have cM:∀i,(ea.map a.eval)[i]? =(a.eval (.tmp t)::r.map a.eval)[i]? :=λi=>by rw[<-QX,<-Array.toList_map,zad]
  obtain⟨i1,_,_,i4⟩:=zvr hr (r.map λx=>(s.aI x,a.eval x)) l none (λz hz=>by obtain⟨q,_,rfl⟩:=zau.1 hz;exact⟨_,hr.aI q⟩) (by rw[zcz];exact cg)
  refine⟨?_,λi sv v hs hv=> ?_,λbf t' p hm=> ?_,λB hB=> ?_,(λhb=>by cases hb),(by have:=zvq _ _ _ cg;simpa [SV.bW] using this)⟩
  ·have:=congrArg aa QX;simp at this i1⊢;omega
  ·rw[cM] at hv;cases i with
   |zero=>simp only[zaB,AI] at hs hv;subst hs hv;refine⟨g,rfl,(sL eL).2 ⟨?_,by simp [Ty.fe]⟩⟩;show a.tmps.getD t zaj=_;rw[hvt];simp [Ty.off]
   |succ i=>
    simp only[zax] at hs hv;have hx:=i4 none (λ_ _ e=>by cases e) i sv;rw[IN] at hv;obtain⟨q,hq,rfl⟩:=nl.1 hv;have wX:=hx (s.aI q,a.eval q) hs (by rw[IN,hq];rfl) (.c (i+1) 0);have EQ:∀ad v,(X.c9 none).aB ad v->(X.eR id j g).aB ad v:=λad v h=>eO ad v (xF.1 h);rcases Zf _ _ cg sv (IH hs) with⟨t1,y1,rfl⟩|rfl|⟨t1,y1,rfl⟩
    ·obtain⟨cs,e1,e2,_⟩:=wX;exact⟨cs,e1.aj EQ,e2,nm⟩
    ·exact wX
    ·obtain⟨ad,cs,e1,e2,e3,e4⟩:=wX;exact⟨ad,cs,e1,e2,e3.aj EQ,λi w hi=>EQ _ _ (e4 i w hi)⟩
  ·rcases If.1 hm with e|hm
   ·cases e;exact⟨rfl,rfl⟩
   ·rcases Zf _ _ cg _ hm with⟨_,_,e⟩|e|⟨_,_,e⟩<;>cases e
  ·cases hB;refine⟨g,rfl,by simp [aw.eR],dN.of eL hhg (hrg.aj eO) λp hp=> ?_⟩;obtain⟨e,t',xs,v,g0,g1,g2,g3⟩:=hwg p hp;refine⟨e,t',xs,v,g0,g1,g2,?_⟩;rcases g3 with g3|⟨q,cap,cur,k1,k2,k3,k4,k5,k6⟩
   ·exact .inl g3
   ·refine .inr ⟨q,cap,cur,k1,k2,k3,k4,k5,?_⟩;have bR:q≠g:=λe=>by
     rw[e,ni] at k6;injection k6 with k6 _
     injection k6 with _ k6
     injection k6 with _ k6
     have:p=[2]:=by simpa [z91] using hp
     rw[this] at k6;cases k6
    simp only[aw.eR];rw[if_neg bR,k6];simp [CN]
 intro next Q hn
 unfold zeZ;rw[T5 eW ho,zf2];refine(nU (X.eR id j g) _ iI).mono λe w' he=> ?_;cases e with
 |panicked c=>exact he.elim
 |outgrown=>exact he.elim
 |returned v=>
  obtain⟨Y,rfl,bc,r0,RL,bS,pP,eE⟩:=he;cases b' with
  |none=>cases h
  |some B'=>
   simp only at h;split at h
   case isFalse=>cases h
   rename_i dp;cases Rw:hP B'.own [2] with
   |false=>rw[Rw] at h;cases h
   |true=>
   rw[Rw,cond_true] at h;cases h;have hp:=pP (.inr rfl);obtain⟨hB,hβ0⟩:=bS B' rfl;have hβ0:=hβ0 rfl;have:g=r0:=by have e:(X.eR id j g).β 0=some g:=rfl;rw[e] at hβ0;injection hβ0
   subst this;have hY:Y.ow g= .box 0:=hB.1;have hX:=z9k (d:=o.dst.getD 0) bc ni hY;refine hn (X.bj Y id j g (o.dst.getD 0)) v hX ?_;obtain⟨er1,er2,_⟩:=Ck (d:=o.dst.getD 0) (q:=rr) bc (yp aF) (by rw[how];rfl) (λe=>by rw[e,ni] at how;cases how);have cQ:dO (X.bj Y id j g (o.dst.getD 0)) (λp=> .b id (j::p)) tb (some (Ty.cast dp B'.x)) (.pointer (some ⟨g,0,none⟩)):=by
    obtain⟨bt,bx,bo⟩:=B';have e:=Ty.aK dp;simp only at e;subst e;obtain⟨fa,T',k1,k2,k3⟩:=(dN.plain eL).1 hB.2;refine⟨g,fa,T',rfl,k1,by simp [aw.bj],k2.aj λ_ _=>zcr bc hY,?_⟩;have h2:bp (X.bj Y id j g (o.dst.getD 0)) (λp=> .b id (j::p)) bt bx fa.toList bo:=bp.tQ bc hY (pl:= .b 0) (λ_ _=>rfl) k3;intro p hp;have:p=[2]:=by simpa [z91] using hp
    subst this;exact h2 [2] (Fm Rw)
   have Gt:iM (X.bj Y id j g (o.dst.getD 0)) rr (.b id) ta tb (x.1,gy j (some (Ty.cast dp B'.x)) x.2.1,x.2.2):=by
    refine⟨c,p0,p1,T,er2.trans aF,aO.aj hX.aB,?_,?_⟩
    ·match j,hj,EN with
     |0,_,EN=>have:p0= .pointer (some ⟨g,0,none⟩):=EN;rw[this];exact cQ
     |1,_,_=>exact uE.bj bc ni hY (by omega)
    ·match j,hj,EN with
     |0,_,_=>exact uF.bj bc ni hY (by omega)
     |1,_,EN=>have:p1= .pointer (some ⟨g,0,none⟩):=EN;rw[this];exact cQ
   have dX:=hr.ct t 0;have iZ:∀(i:Nat) (l:List SV) a b j,(s.ct t 0).sl[i]? =some l->SV.bF id a b j∈l->False:=λi l a' b' j' lQ hm=>by
    simp only[State.ct,vc] at lQ;split at lQ
    ·first
      |(split at lQ
        ·cases lQ;rw[bY] at hm;simp [Ref.bX,SV.shut] at hm
        ·cases lQ)
      |(cases lQ
        rw[bY] at hm;simp [Ref.bX,SV.shut] at hm)
    ·rename_i e;exact e (RS i l a' b' j' lQ hm).symm
   have ap:id<(s.ct t 0).bs.length:=(AS.1 hb).1;have bD:Rel (X.bj Y id j g (o.dst.getD 0)) ((s.ct t 0).aE (some (id,⟨.aY .cX ta tb,(x.1,gy j (some (Ty.cast dp B'.x)) x.2.1,x.2.2),[]::own⟩))) a:=by
    refine⟨dX.size,by simpa [State.aE] using dX.ia,λi l v lQ jS=>(dX.bZ i l v lQ jS).jD λk sv u hm hu=>hu.bj bc ni hY,λbf B2 df=> ?_,λi l bf t' p hi hm=> ?_,dX.defers,dX.bF.aE iZ⟩
    ·simp only[State.aE,vc] at df;by_cases e:id=bf
     ·subst e;rw[if_pos rfl,if_pos ap] at df;cases df;exact⟨rr,hβ,er1.trans how,⟨_,er2.trans aF⟩,λ_=>Gt⟩
     ·rw[if_neg e] at df;obtain⟨r',k1,k2⟩:=dX.boxes bf B2 df;exact⟨r',k1,k2.bj bc ni hY (λe2=>e e2.symm)⟩
    ·obtain⟨B2,df⟩:=dX.live i l bf t' p hi hm;simp only[State.aE,vc];by_cases e:id=bf
     ·subst e;exact⟨_,by rw[if_pos rfl,if_pos ap]⟩
     ·rw[if_neg e];exact⟨B2,df⟩
   exact bD.fin (RL.tQ bc hY hp eE) (λid t p hm=>absurd hm (hp id t p)) eE
theorem ah6(hr:Rel X s a){C:ai}(hC:C.Nat){f:FuncId}(hf:dh P C f){ops:List Oper}{ea:Array Operand}{ts:Array TypeId}(ho:o.op= .call ⟨.value (.func f),ea,ts⟩)(h:act E (C Out) ops o s some=some u):lJ P X s a o u:=by
 unfold act at h;simp only[ho] at h;split at h
 ·rename_i t id ta tb j r hl;exact aeS hr hC hf ho hl h
 obtain⟨u0,h0,h1⟩:=kE (zbw hC (F:=λu=>some (bif gh E o.dst then u.shut else u)) (G:=some) (K:=λu=>some (bif gh E o.dst then u.shut else u)) (λ_=>rfl)) h;have hd:lJ P X s a o u0:=by refine zgb hr hC hf (zfz hr ea) (λeW=> ?_) (by rw[zcz];exact h0);rw[T5 eW ho];congr 2;apply zdG.1;simp [zfE]
 cases hs:gh E o.dst with
 |false=>rw[hs] at h1;cases h1;exact hd
 |true=>rw[hs] at h1;cases h1;exact hd.shut
theorem aps{f:FuncId}(h:uv P f){x:Operand}{v:Value}{ea:Array Operand}{ts:Array TypeId}(ho:o.op= .call ⟨.value x,ea,ts⟩)(hx:a.eval x= .func (.func f) #[] #[v])(w:World):(execOp a.eval o).run P w= .ok (.enter f (ea.map a.eval++ #[v])) w:=by obtain⟨fn,c,h1,h2,h3⟩:=h;simp [execOp,ho,resolve,zfV,hx,invoke,callFunc,h1,h3];simpa using h2
theorem z213{f:FuncId}(h:uv P f){x:Operand}{v v2:Value}{ea:Array Operand}{ts:Array TypeId}(ho:o.op= .call ⟨.value x,ea,ts⟩)(hx:a.eval x= .func (.func f) #[] #[v,v2])(w:World):(execOp a.eval o).run P w= .ok (.enter f (ea.map a.eval++ #[v,v2])) w:=by obtain⟨fn,c,h1,h2,h3⟩:=h;simp [execOp,ho,resolve,zfV,hx,invoke,callFunc,h1,h3];simpa using h2
theorem aeR(hr:Rel X s a){C:ai}(hC:C.Nat)(hf:∀f,dh P C f){ops:List Oper}{y:Nat}{ea:Array Operand}{ts:Array TypeId}(ho:o.op= .call ⟨.value (.tmp y),ea,ts⟩)(h:act E (C Out) ops o s some=some u):lJ P X s a o u:=by
 unfold act at h;simp only[ho] at h;split at h
 case h_3=>cases h
 case h_2=>
  rename_i f t x1 u' y1 dU;have hx:=hr.aI (.tmp y);rw[dU] at hx;obtain⟨ad,ss,cs,fa,hv,⟨g2,g3,g4⟩,k2,k3,k4⟩:=hx;refine zgb hr hC (hf f) (vs:=ea.toList.map (λx=>(s.aI x,a.eval x))++ [(.view t x1,.pointer (some ad)),(.view u' y1,.pointer (some ss))]) (λx hx=> ?_) (λeW=> ?_) (by rw[zaY,zcz];exact h)
  ·rcases M2.1 hx with hx|hx
   ·exact zfz hr ea x hx
   ·rcases If.1 hx with rfl|hx
    ·exact⟨.r 0,ad,cs,rfl,g2,g3,g4⟩
    ·rw[zaM.1 hx];exact⟨.r 0,ss,fa,rfl,k2,k3,k4⟩
  ·rw[z213 eW ho hv];congr 2;apply zdG.1;simp [zfE]
 rename_i id f t b dU;have hx:=hr.aI (.tmp y);rw[dU] at hx;obtain⟨r0,hβ,hv⟩:=hx;have hv:a.eval (.tmp y)= .func (.func f) #[] #[.pointer (some ⟨r0,0,none⟩)]:=hv;split at h
 case isTrue=>cases h
 rename_i hs;refine zgb hr hC (hf f) (vs:=ea.toList.map (λx=>(s.aI x,a.eval x))++ [(.ptr id t [],.pointer (some ⟨r0,0,none⟩))]) (λx hx=> ?_) (λeW=> ?_) (by rw[zaY,zcz];exact h)
 ·rcases M2.1 hx with hx|hx
  ·exact zfz hr ea x hx
  ·rw[zaM.1 hx];exact⟨.r 0,r0,hβ,(Zt (by simpa using hs)).2 ⟨by simp [Ty.off],by simp [Ty.fe]⟩⟩
 ·rw[aps eW ho hv];congr 2;apply zdG.1;simp [zfE]
end Go.Ref

namespace Go.Ref
open Go
variable {P:Program} {E:Env} {X:aw} {s:State} {a:Act} {o:Oper} {u:Out}
theorem al1(hE:ak P E)(hr:Rel X s a){C:ai}(hC:C.Nat)(hf:∀f,dh P C f){ops:List Oper}(h:act E (C Out) ops o s some=some u):lJ P X s a o u:=by
 cases ho:o.op with
 |move x=>exact(aib hr ho h).does
 |assign x=>exact(ad8 hr ho h).does
 |pick c x y=>exact(aid hr ho h).does
 |binOp op T x y T'=>exact(amh hE hr ho h).does
 |unOp op T x=>exact(apv hr ho h).does
 |convert S T x=>exact(ah7 hE hr ho h).does
 |load T x=>exact(aia hE hr ho h).does
 |store T x y=>exact(ae0 hE hr ho h).does
 |nilCheck x=>exact(ac0 hr ho h).does
 |fieldAddr T x j=>exact(acS hE hr ho h).does
 |indexAddr T x i=>exact(acT hE hr ho h).does
 |index T x i=>exact(aeX hE hr ho h).does
 |field T x j=>exact(aeW hE hr ho h).does
 |slice T x lo hi mx=>
  cases mx with
  |none=>exact(amj hE hr ho h).does
  |some m=>unfold act at h;simp only[ho] at h;cases h
 |alloc T=>exact(aeP hE hr ho h).does
 |box T x=>exact(ami hE hr ho h).does
 |build T parts=>exact(aeQ hE hr ho h).does
 |buildSlice T n parts=>exact(acP hE hr ho h).does
 |extract x j=>exact(adt hr ho h).does
 |makeMap T r=>exact(ady hE hr ho h).does
 |lookup T x i ok=>exact(aea hE hr ho h).does
 |mapUpdate T m k x=>exact(zf4 hE hr (.inl ho) h).does
 |insert T m k x=>exact(zf4 hE hr (.inr ho) h).does
 |range T x=>exact(aeZ hE hr ho h).does
 |next x str=>exact(aic hr ho h).does
 |makeSlice T l c=>exact(acU hE hr ho h).does
 |makeFunc fn fi ca=>exact(acZ hr ho h).does
 |call c=>
  obtain⟨callee,args,ts⟩:=c;cases callee with
  |value x=>
   cases x with
   |func f=>exact ah6 hr hC (hf f) ho h
   |tmp y=>exact aeR hr hC hf ho h
   |_=>unfold act at h;simp only[ho] at h;cases h
  |builtin b=>
   cases b with
   |len=>exact(amk (x:= .const zaj) (T:=0) hE hr ho h).does
   |append=>exact(ad7 hE hr ho h).does
   |copy=>exact(ah8 hE hr ho h).does
   |max=>exact(TX (g:=true) hr ho h).does
   |min=>exact(TX (g:=false) hr ho h).does
   |_=>unfold act at h;simp only[ho] at h;cases h
  |_=>unfold act at h;simp only[ho] at h;cases h
 |_=>unfold act at h;simp only[ho] at h;cases h
theorem Rel.know(hr:Rel X s a){d:Nat}{p:Bool}{o:List (List Nat)}(h:s.slot d=[.aq .bool p o]):Rel X (s.au (some d) (bl p)) a/\a.tmps[d]? =some (.bool p):=by
 have hd:d<s.sl.length:=by
  rcases zbJ d s.sl.length with h1|h1
  ·exact h1
  ·simp [State.slot,IT h1] at h
 have uC:d<a.tmps.size:=by rw[<-hr.size];exact hd
 have hv:a.tmps[d]? =some (a.tmps.getD d zaj):=by simp [XN uC]
 have hs:=hr.slot d;rw[h] at hs;have hb:=YX (X:=X) hs;rw[hb] at hv;refine⟨?_,hv⟩;have aax:a.put (some d) (.bool p)=a:=by
  cases a with
  |mk tmps defers=>
   simp only[Act.put,Act.mk.injEq,and_true];apply Array.ext_getElem?;intro i;rw[zbF];split
   ·rename_i e;subst e
    first
     |exact hv.symm
     |(rw[if_pos uC];exact hv.symm)
   ·rfl
 have:=hr.put (d:=some d) (l:=bl p) (v:= .bool p) (λ_ _=>oI) (λid t q hm=>by simp [bl] at hm);rw[aax] at this;exact this
theorem zsu(hE:ak P E)(hr:Rel X s a){C:ai}(hC:C.Nat)(hf:∀f,dh P C f){ops:Array Oper}{i:Nat}(hi:ops[i]? =some o){s':State}(h:step E (C State) ops.toList o s some=some s'){Q:Exit->Act->World->Prop}{K:Act->World->Prop}
 (hK:∀Y a',Ext X Y->Rel Y s' a'->K a' Y.w):wpOp P ops Q i K a X.w:=by
 unfold wpOp;simp only[hi];have tK:∀{s1:State},Rel X s1 a->(act E (C State) ops.toList o s1 λu=>some (s1.apply o.dst u))=some s'->o.wp P a X.w K Q:=by intro s1 dX h1;obtain⟨u,hu,h2⟩:=kE (CB hC (F:=λu=>some (s1.apply o.dst u)) (G:=some) (K:=λu=>some (s1.apply o.dst u)) (λ_=>rfl)) h1;cases h2;exact al1 hE dX hC hf hu K Q (λY v bc bD=>hK Y _ bc bD)
 have lh:∀{s1:State},Rel X s1 a->some (s1.au o.dst [.skip])=some s'->K (a.put o.dst zaj) X.w:=by intro s1 dX h1;cases h1;exact hK X _ (Ext.refl X) (dX.skip o.dst)
 unfold step at h;simp only at h;split at h
 ·rename_i hg;have hw:za4 o (yielded ops a.tmps)=true:=by simp [za4,hg]
  rw[if_pos hw];exact .inl (tK hr h)
 ·rename_i g want hg;split at h
  ·cases h
  rename_i d hd;have hd':(ops[g]?).bind (·.dst)=some d:=by simpa [zfc] using hd
  split at h
  ·rename_i p hs;obtain⟨dX,hv⟩:=hr.know hs;have hy:yielded ops a.tmps g=some p:=by simp [yielded,hd',hv]
   have hw:za4 o (yielded ops a.tmps)=(p==want):=by simp [za4,hg,hy]
   cases p<;>cases want<;>simp only[cond_true,cond_false] at h<;>rw[hw]
   ·exact .inl (tK dX h)
   ·exact lh dX h
   ·exact lh dX h
   ·exact .inl (tK dX h)
  ·rename_i hs;have ja:=hr.slot d;rw[hs] at ja;have pQ:a.tmps.getD d zaj=zaj:=ja;have hy:yielded ops a.tmps g=none:=by
    simp only[yielded,hd',Option.bind_some];cases ht:a.tmps[d]? with
    |none=>rfl
    |some v=>
     have:v=zaj:=by rw[<-pQ];simp [NX,ht]
     subst this;rfl
   have hw:za4 o (yielded ops a.tmps)=false:=by simp [za4,hg,hy]
   rw[hw];exact lh hr h
  ·cases h
theorem Wn(hE:ak P E){C:ai}(hC:C.Nat)(hf:∀f,dh P C f){ops:Array Oper}{s':State}{Q:Exit->Act->World->Prop}:∀(l:List Nat) (X:aw) (s:State) (a:Act),Rel X s a->(∀i∈l,i<ops.size)->
 steps E (C State) ops.toList (l.map λi=>ops.getD i default) s some=some s'->(∀Y a',Ext X Y->Rel Y s' a'->Q .normal a' Y.w)->wpOps P ops Q l a X.w
 | [],X,s,a,hr,_,h,hQ=>by cases h;exact hQ X a (Ext.refl X) hr
 |i::r,X,s,a,hr,hl,h,hQ=>by
  simp only[zaq,steps] at h;obtain⟨s1,h1,h2⟩:=kE (zwl hC (F:=λs=>steps E (C State) ops.toList (r.map λi=>ops.getD i default) s some) (G:=some) (K:=λs=>steps E (C State) ops.toList (r.map λi=>ops.getD i default) s some) (λ_=>rfl)) h;have hi:ops[i]? =some (ops.getD i default):=by have:=hl i (by simp);simp [this]
  rw[wpOps_cons];refine zsu hE hr hC hf hi h1 λY a' bc bD=> ?_;exact Wn hE hC hf r Y s1 a' bD (λj hj=>hl j (Cs _ hj)) h2 λZ a2 cr dj=>hQ Z a2 (bc.trans cr) dj
end Go.Ref

namespace Go.Ref
open Go
variable {P:Program} {E:Env} {X:aw} {s:State} {a:Act} {o:Oper} {u:Out}
theorem zw1(i j:Nat):(bit i).testBit j=decide (i=j):=by simp [bit,zcX,zcs]
theorem Cl:∀(l:List Nat) (j:Nat),(jW l).testBit j=decide (j∈l)
 | [],j=>by simp [jW]
 |i::r,j=>by
  rw[jW,zbG,zw1,Cl r j];by_cases h:i=j
  ·subst h;simp
  ·have h':¬j=i:=λe=>h e.symm;simp [h,h']
theorem zfx{a b:Nat}(h:xz (a&&&b) 0=true)(j:Nat):a.testBit j=true->b.testBit j=false:=by intro ha;have h0:=DD h;have:=congrArg (λn=>Nat.testBit n j) h0;simp only[Nat.testBit_and,Nat.zero_testBit,ha,Bool.true_and] at this;exact this
theorem z49:∀(l:List Edge) (j:Nat),(zy l).testBit j=true->∃e∈l,zdd .any e=true/\e.on=j
 | [],j,h=>by simp [zy] at h
 |e::r,j,h=>by
  simp only[zy] at h;cases hb:zdd .any e with
  |false=>rw[hb] at h;obtain⟨e',h1,h2⟩:=z49 r j h;exact⟨e',Cs _ h1,h2⟩
  |true=>
   rw[hb] at h;simp only[cond_true,zbG,zw1,zcJ,decide_eq_true_eq] at h;rcases h with h|h
   ·exact⟨e,by simp,hb,h⟩
   ·obtain⟨e',h1,h2⟩:=z49 r j h;exact⟨e',Cs _ h1,h2⟩
theorem zkt:∀(l:List Edge) (e:Edge),e∈l->zdd .any e=true->(zy l).testBit e.on=true
 |e'::r,e,h,hb=>by
  simp only[zy];rcases If.1 h with rfl|h
  ·rw[hb];simp [zbG,zw1]
  ·have:=zkt r e h hb;cases zdd .any e'<;>simp [zbG,this]
theorem TI{m i j:Nat}(h:zaL (m+1) (bit i)=true)(hj:m.testBit j=true):j<i:=by
 have h1:m<2^i:=by have:=zaK h;simp only[bit,zcX,za5] at this;omega
 rcases zbJ j i with h2|h2
 ·exact h2
 ·have h3:m<2^j:=Nat.lt_of_lt_of_le h1 (Nat.pow_le_pow_right (by omega) h2);rw[Nat.testBit_lt_two_pow h3] at hj;cases hj
def fh(E:Env)(C:ai)(ops:List Oper)(o:Oper)(s:State):Option Out:=
 match o.guard with
 |none=>act E (C Out) ops o s some
 |some (g,want)=>match zfc ops g with
  |none=>none
  |some d=>match s.slot d with
   | [.aq .bool p []]=>if p=want then act E (C Out) ops o s some else some {v:=[.skip]}
   | [.skip]=>some {v:=[.skip]}
   |_=>none
theorem NY{d:Nat}{l:List SV}(h:s.slot d=l):s.au (some d) l=s:=by
 cases s with
 |mk sl bs=>
  simp only[State.au,State.mk.injEq,and_true];simp only[State.slot] at h;apply zaF;intro i;rw[vc];split
  ·rename_i e;subst e;split
   ·rename_i ap;rw[be,ks ap] at h;rw[ks ap];simpa using h.symm
   ·rename_i ap;rw[IT (by omega)]
  ·rfl
theorem ai8{C:ai}(hC:C.Nat){R:Type}{ops:List Oper}{i:Nat}{tr:List eF}{K:State->List eF->Option R}{z:R}(h:mA E (C R) ops o i s tr K=some z):
 ∃u,fh E C ops o s=some u/\fits ops (zy o.after.toList) (hG ops o i s u) tr=true/\K (s.apply o.dst u) (hG ops o i s u::tr)=some z:=by
 have tK:(act E (C R) ops o s λu=>bif fits ops (zy o.after.toList) (hG ops o i s u) tr then K (s.apply o.dst u) (hG ops o i s u::tr) else none)=some z->
  ∃u,act E (C Out) ops o s some=some u/\fits ops (zy o.after.toList) (hG ops o i s u) tr=true/\K (s.apply o.dst u) (hG ops o i s u::tr)=some z:=by
  intro h;obtain⟨u,h1,h2⟩:=kE (CB hC (F:=λu=>bif fits ops (zy o.after.toList) (hG ops o i s u) tr then K (s.apply o.dst u) (hG ops o i s u::tr) else none) (G:=some) (K:=λu=>bif fits ops (zy o.after.toList) (hG ops o i s u) tr then K (s.apply o.dst u) (hG ops o i s u::tr) else none) (λ_=>rfl)) h;cases hf:fits ops (zy o.after.toList) (hG ops o i s u) tr with
  |false=>rw[hf] at h2;cases h2
  |true=>rw[hf] at h2;exact⟨u,h1,hf,h2⟩
 have lh:(bif fits ops (zy o.after.toList) (hG ops o i s {v:=[.skip]}) tr then K (s.apply o.dst {v:=[.skip]}) (hG ops o i s {v:=[.skip]}::tr) else none)=some z->
  fits ops (zy o.after.toList) (hG ops o i s {v:=[.skip]}) tr=true/\K (s.apply o.dst {v:=[.skip]}) (hG ops o i s {v:=[.skip]}::tr)=some z:=by
  intro h;cases hf:fits ops (zy o.after.toList) (hG ops o i s {v:=[.skip]}) tr with
  |false=>rw[hf] at h;cases h
  |true=>rw[hf] at h;exact⟨rfl,h⟩
 unfold mA at h;unfold fh;simp only at h;split at h
 ·rename_i hg
  try simp only[hg]
  exact tK h
 ·rename_i g want hg
  try simp only[hg]
  split at h
  ·cases h
  rename_i d hd
  try simp only[hd]
  split at h
  ·rename_i p hs;have mX:s.slot d=bl p:=hs
   try simp only[hs]
   cases p<;>cases want<;>simp only[cond_true,cond_false] at h
   ·rw[NY mX] at h;rw[if_pos rfl];exact tK h
   ·rw[NY mX] at h;rw[if_neg (by simp)];exact⟨_,rfl,lh h⟩
   ·rw[NY mX] at h;rw[if_neg (by simp)];exact⟨_,rfl,lh h⟩
   ·rw[NY mX] at h;rw[if_pos rfl];exact tK h
  ·rename_i hs
   try simp only[hs]
   exact⟨_,rfl,lh h⟩
  ·cases h
theorem ztv{C:ai}(hC:C.Nat){ops:List Oper}(h:fh E C ops o s=some u):step E (C State) ops o s some=some (s.apply o.dst u):=by
 have tK:act E (C Out) ops o s some=some u->(act E (C State) ops o s λu=>some (s.apply o.dst u))=some (s.apply o.dst u):=by intro h;rw[CB hC (F:=λu=>some (s.apply o.dst u)) (G:=some) (K:=λu=>some (s.apply o.dst u)) (λ_=>rfl),h];rfl
 unfold fh at h;unfold step;simp only;split at h
 ·rename_i hg
  try simp only[hg]
  exact tK h
 ·rename_i g want hg
  try simp only[hg]
  split at h
  ·cases h
  rename_i d hd
  try simp only[hd]
  split at h
  ·rename_i p hs;have mX:s.slot d=bl p:=hs
   try simp only[hs]
   split at h
   ·rename_i e;subst e;cases p<;>simp only[cond_true,cond_false]<;>rw[NY mX]<;>exact tK h
   ·rename_i e;cases h;cases p<;>cases want<;>simp only[cond_true,cond_false]<;>first|exact absurd rfl e|(rw[NY mX];rfl)
  ·rename_i hs
   try simp only[hs]
   cases h;rfl
  ·cases h
structure nq(ts bs:List Nat)(s s':State):Prop where
 sl:∀t∈ts,s.slot t=s'.slot t
 bs:∀id∈bs,s.bs[id]? =s'.bs[id]?
theorem Wq{l:List Operand}{t:Nat}:Operand.tmp t∈l->t∈ur l:=by
 induction l with
 |nil=>intro h;cases h
 |cons x r ih=>
  intro h;rcases If.1 h with e|h
  ·subst e;simp [ur]
  ·have:=ih h;cases x<;>simp [ur,this]
theorem zm6{s s':State}{ts:List Nat}(h:∀t∈ts,s.slot t=s'.slot t){l:List Operand}(hl:∀t∈ur l,t∈ts){x:Operand}(hx:x∈l):s.aI x=s'.aI x:=by
 cases x with
 |tmp t=>simp only[State.aI,State.AN,h t (hl t (Wq hx))]
 |_=>rfl
theorem afn(j:Nat):bX [SV.undef] j=[SV.undef]:=by cases j<;>rfl
theorem zcf{s:State}{i j t:Nat}:(s.ct i j).slot t=if t=i then bX (s.slot t) j else s.slot t:=by
 simp only[State.ct,State.slot,be,vc];by_cases e:t=i
 ·subst e;rw[if_pos rfl,if_pos rfl];by_cases ap:t<s.sl.length
  ·rw[if_pos ap];rfl
  ·rw[if_neg ap,IT (by omega)];simp [afn]
 ·rw[if_neg e,if_neg (λh=>e h.symm)]
theorem zt1{t:Nat}:∀{c:List (Nat×Nat)} {s s':State},s.slot t=s'.slot t->(s.close c).slot t=(s'.close c).slot t
 | [],s,s',h=>h
 |(i,j)::r,s,s',h=>by rw[LX,LX];refine zt1 (c:=r) ?_;rw[zcf,zcf,h]
theorem ztp{ts:List Nat}:∀{l:List (Nat×Operand)} {s s':State},(∀t∈ts,s.slot t=s'.slot t)->(∀t∈ur (l.map (·.2)),t∈ts)->z24 s l=z24 s' l
 | [],s,s',h,hl=>rfl
 |(i,x)::r,s,s',h,hl=>by
  have hx:s.aI x=s'.aI x:=zm6 h hl (by simp);have hr:∀c:List (Nat×Nat),z24 (s.close c) r=z24 (s'.close c) r:=λc=>ztp (λt ht=>zt1 (h t ht)) (λt ht=>hl t (by cases x<;>simp [ur,ht]))
  simp only[z24,hx,hr]
theorem Y5{s s':State}:∀{l:List SV},(∀id∈l.flatMap cA,s.box id=s'.box id)->ka s l=ka s' l
 | [],h=>rfl
 |v::r,h=>by
  have hr:ka s r=ka s' r:=Y5 λid gu=>h id (by simp only[zdm,M2];exact .inr gu);simp only[ka,hr];split
  ·rfl
  ·rename_i l b _;cases v with
   |ptr id t p=>
    have hb:s.box id=s'.box id:=h id (by simp [cA]);cases p with
    |nil=>cases b<;>simp only[hb]
    |cons _ _=>rfl
   |_=>rfl
theorem ahF{C:FuncId->cc Out}{ops:List Oper}{s s':State}(h:nq (looks ops o) (zx s o) s s'):act E C ops o s some=act E C ops o s' some:=by
 have ja:∀t∈ur o.op.operands.toList,s.slot t=s'.slot t:=λt ht=>h.sl t (by simp only[looks,M2];exact .inl ht);have cN:∀x∈o.op.operands.toList,s.aI x=s'.aI x:=λx hx=>zm6 ja (λ_ ht=>ht) hx;have bS:∀id∈zx s o,s.box id=s'.box id:=λid gu=>by simp only[State.box,be,h.bs id gu]
 unfold act;cases ho:o.op with
 |move x=>
  have ht:om s x=om s' x:=by
   cases x with
   |tmp t=>have:s.slot t=s'.slot t:=ja t (by simp [ho,To,ur]);simp only[om,this]
   |_=>rfl
  simp only;rw[cN x (by simp [ho,To]),ht]
 |assign x=>simp only;rw[cN x (by simp [ho,To])]
 |pick c x y=>simp only;rw[cN c (by simp [ho,To]),cN x (by simp [ho,To]),cN y (by simp [ho,To])]
 |binOp op T x y T'=>simp only;rw[cN x (by simp [ho,To]),cN y (by simp [ho,To])]
 |unOp op T x=>simp only;rw[cN x (by simp [ho,To])]
 |convert S T x=>
  have hx:=cN x (by simp [ho,To]);simp only;rw[<-hx];split
  ·rename_i id n ta tb e;simp only[kY,bS id (by simp [zx,ho,e,cA])]
  ·rfl
 |makeMap T r=>
  cases r with
  |some r=>rfl
  |none=>
   simp only;cases hd:o.dst with
   |none=>rfl
   |some d=>have:=h.bs (d+1) (by simp [zx,ho,hd]);simp only[lz,this]
 |lookup T x i ok=>
  cases ok with
  |true=>rfl
  |false=>
   simp only;rw[<-cN x (by simp [ho,To]),<-cN i (by simp [ho,To])];unfold ml yy;split
   ·split
    ·rename_i e;simp only[bS _ (by simp only[zx,ho,e,cA];exact zaM.2 rfl)]
    ·rfl
   ·rfl
 |mapUpdate T m k x=>
  simp only;rw[<-cN m (by simp [ho,To]),<-cN k (by simp [ho,To]),<-cN x (by simp [ho,To])];unfold m8 yy;split
  ·split
   ·rename_i e;simp only[bS _ (by simp only[zx,ho,e,cA];exact zaM.2 rfl)]
   ·rfl
  ·rfl
 |insert T m k x=>
  simp only;rw[<-cN m (by simp [ho,To]),<-cN k (by simp [ho,To]),<-cN x (by simp [ho,To])];unfold m8 yy;split
  ·split
   ·rename_i e;simp only[bS _ (by simp only[zx,ho,e,cA];exact zaM.2 rfl)]
   ·rfl
  ·rfl
 |range T x=>
  simp only;rw[<-cN x (by simp [ho,To])];cases hd:o.dst with
  |none=>rfl
  |some d=>have:=h.bs (d+1) (by simp [zx,ho,hd]);simp only[lz,this]
 |next x str=>
  cases str with
  |false=>rfl
  |true=>
   simp only;rw[<-cN x (by simp [ho,To])];unfold mo;split
   ·rename_i e;simp only[bS _ (by simp only[zx,ho,e,cA];exact zaM.2 rfl)]
   ·rfl
 |makeSlice T l c=>
  simp only;rw[<-cN l (by simp [ho,To]),<-cN c (by simp [ho,To])];cases hd:o.dst with
  |none=>rfl
  |some d=>have:=h.bs (d+1) (by simp [zx,ho,hd]);simp only[mm,lz,this]
 |load T x=>
  have hx:=cN x (by simp [ho,To]);simp only;rw[<-hx];unfold load;split
  ·split
   ·rfl
   ·rename_i id t p e;simp only[MG,oU,bS id (by simp [zx,ho,e,cA])]
   ·rfl
  ·unfold lv;split
   ·rename_i id a b j e;simp only[oU,bS id (by simp [zx,ho,e,cA])]
   ·rfl
 |store T x y=>
  have hx:=cN x (by simp [ho,To]);have hy:=cN y (by simp [ho,To]);simp only;rw[<-hx];unfold store;rw[<-hy];split
  ·split
   ·rename_i id t p e;simp only[Mc,oU,bS id (by simp [zx,ho,e,cA])]
   ·rfl
  ·rfl
 |nilCheck x=>simp only;rw[cN x (by simp [ho,To])]
 |fieldAddr T x j=>simp only;rw[cN x (by simp [ho,To])]
 |indexAddr T x i=>simp only;rw[cN x (by simp [ho,To]),cN i (by simp [ho,To])]
 |index T x i=>simp only;rw[cN x (by simp [ho,To]),cN i (by simp [ho,To])]
 |field T x j=>simp only;rw[cN x (by simp [ho,To])]
 |slice T x lo hi mx=>
  cases mx with
  |none=>
   simp only;have GC:lo.map s.aI=lo.map s'.aI:=by
    cases lo with
    |none=>rfl
    |some l=>simp only[zbA,cN l (by simp [ho,To])]
   have Rj:hi.map s.aI=hi.map s'.aI:=by
    cases hi with
    |none=>rfl
    |some l=>simp only[zbA,cN l (by simp [ho,To])]
   rw[<-cN x (by simp [ho,To]),GC,Rj];split
   ·rfl
   ·rename_i id n t e;simp only[tD,bS id (by simp [zx,ho,e,cA])]
   ·rfl
  |some m=>rfl
 |makeFunc fn fi ca=>
  cases fn with
  |func f=>
   simp only;split
   ·rename_i x e1 e2;have hm:x∈o.op.operands.toList:=by simp only[ho,To,zbe,M2,e2];exact .inr (by simp)
    rw[cN x hm]
   ·rename_i x y e1 e2;have hm:∀z∈ [x,y],z∈o.op.operands.toList:=λz hz=>by simp only[ho,To,zbe,M2,e2];exact .inr hz
    rw[cN x (hm x (by simp)),cN y (hm y (by simp))]
   ·rfl
  |_=>rfl
 |alloc T=>
  simp only;cases hd:o.dst with
  |none=>split<;>simp_all
  |some d=>have:=h.bs (d+1) (by simp [zx,ho,hd]);cases E.ty T<;>cases E.gr T<;>simp only[this]
 |box T x=>
  have hx:=cN x (by simp [ho,To]);simp only;cases hd:o.dst with
  |none=>split<;>simp_all
  |some d=>have:=h.bs (d+1) (by simp [zx,ho,hd]);cases E.ty T<;>simp only[this,hx]
 |build T parts=>have hp:z24 s parts.toList=z24 s' parts.toList:=ztp ja (λt ht=>by simpa [ho,To] using ht);simp only[hp]
 |buildSlice T n parts=>
  have hp:(parts.toList.map λp=>(p.1,s.aI p.2))=parts.toList.map λp=>(p.1,s'.aI p.2):=zbD λp hp=>by
   rw[cN p.2 (by simp only[ho,To];exact zau.2 ⟨p,hp,rfl⟩)]
  simp only[hp]
 |extract x j=>
  cases x with
  |tmp t=>have:s.slot t=s'.slot t:=ja t (by simp [ho,To,ur]);simp only[this]
  |_=>rfl
 |call c=>
  obtain⟨callee,args,ts⟩:=c;cases callee with
  |value x=>
   cases x with
   |func f=>
    have cg:args.toList.map s.aI=args.toList.map s'.aI:=zbD λx hx=>cN x (by simp only[ho,To,zdn,zbe,M2];exact .inr hx)
    have jO:ka s (args.toList.map s'.aI)=ka s' (args.toList.map s'.aI):=Y5 λid gu=>bS id (by simp only[zx,ho,M2];refine .inl ?_;rw[<-cg,zes] at gu;exact gu)
    have hlk:Na s args.toList=Na s' args.toList:=by
     cases QW:args.toList with
     |nil=>rfl
     |cons x r=>
      cases x with
      |tmp t=>
       have:s.slot t=s'.slot t:=ja t (by simp only[ho,To,zdn,zbe,QW];exact Wq (List.mem_append_right _ (by simp)))
       simp only[Na,this]
      |_=>rfl
    simp only;rw[<-hlk];split
    ·rename_i t id a b j r hl;obtain⟨QW,bY⟩:=ztk hl;have hr:r.map s.aI=r.map s'.aI:=by have:=cg;rw[QW] at this;simpa using(List.cons.inj this).2
     have hbr:ka s (r.map s'.aI)=ka s' (r.map s'.aI):=Y5 λid gu=>bS id (by simp only[zx,ho,M2];refine .inl ?_;rw[<-hr,zes] at gu;rw[QW,zdm,M2];exact .inr gu)
     have gu:s.box id=s'.box id:=bS id (by
      simp only[zx,ho,M2];refine .inl ?_;rw[QW,zdm,M2];refine .inl ?_;have:s.aI (.tmp t)= .bF id a b j:=by show one (s.slot t)=_;rw[bY];rfl
      rw[this];simp [cA])
     simp only[kV,oU,hr,hbr,gu]
    simp only[gH,cg,jO];cases hd:o.dst with
    |none=>rfl
    |some d=>have:=h.bs (d+1) (by simp [zx,ho,hd]);simp only[this]
   |tmp y=>
    have hy:s.aI (.tmp y)=s'.aI (.tmp y):=cN (.tmp y) (by simp only[ho,To,zdn,zbe,M2];exact .inl (by simp))
    have cg:args.toList.map s.aI=args.toList.map s'.aI:=zbD λx hx=>cN x (by simp only[ho,To,zdn,zbe,M2];exact .inr hx)
    simp only;rw[<-hy];split
    ·rename_i id f t b e;have jO:ka s (args.toList.map s'.aI++ [.ptr id t []])=ka s' (args.toList.map s'.aI++ [.ptr id t []]):=Y5 λbf gu=>bS bf (by
      simp only[zx,ho,M2,e];rw[zgP,M2] at gu;rcases gu with gu|gu
      ·refine .inl ?_;rw[<-cg,zes] at gu;exact gu
      ·exact .inr (.inl (by simpa [cA] using gu)))
     simp only[gH,cg,jO];cases hd:o.dst with
     |none=>rfl
     |some d=>have:=h.bs (d+1) (by simp [zx,ho,hd]);simp only[this]
    ·rename_i f t x u y e;have jO:ka s (args.toList.map s'.aI++ [.view t x,.view u y])=ka s' (args.toList.map s'.aI++ [.view t x,.view u y]):=Y5 λbf gu=>bS bf (by
      simp only[zx,ho,M2];rw[zgP,M2] at gu;rcases gu with gu|gu
      ·refine .inl ?_;rw[<-cg,zes] at gu;exact gu
      ·simp [cA] at gu)
     simp only[gH,cg,jO];cases hd:o.dst with
     |none=>rfl
     |some d=>have:=h.bs (d+1) (by simp [zx,ho,hd]);simp only[this]
    ·rfl
   |_=>rfl
  |builtin b=>
   have cg:∀x∈args.toList,s.aI x=s'.aI x:=λx hx=>cN x (by simp only[ho,To,zdn,zbe,M2];exact .inr hx)
   cases b with
   |copy=>
    simp only;split
    ·rename_i d x T r e1 e2;rw[cg x (by rw[e1];simp),<-cg d (by rw[e1];simp)];unfold copyV;split
     ·rename_i e0 t0 id n ta tb hT e;have hb:s.box id=s'.box id:=bS id (by simp only[zx,ho,e1,zdm,e,cA];exact zbm _ (zaM.2 rfl));simp only[iW,kZ,hb]
     ·rename_i e0 t0 id n ta tb l hT e;have hb:s.box id=s'.box id:=bS id (by simp only[zx,ho,e1,zdm,e,cA];exact zbm _ (zaM.2 rfl));simp only[iW,hb]
     ·rfl
    ·rfl
   |len=>
    simp only;split
    ·rename_i x T e1 e2;rw[cg x (by rw[e1];simp)]
    ·rfl
   |append=>
    simp only;split
    ·rename_i x y T U e1 e2;rw[cg x (by rw[e1];simp),cg y (by rw[e1];simp)]
    ·rfl
   |max=>
    simp only;split
    ·rename_i x y e1;rw[cg x (by rw[e1];simp),cg y (by rw[e1];simp)]
    ·rfl
   |min=>
    simp only;split
    ·rename_i x y e1;rw[cg x (by rw[e1];simp),cg y (by rw[e1];simp)]
    ·rfl
   |_=>rfl
  |_=>rfl
 |_=>rfl
end Go.Ref

namespace Go.Ref
open Go
variable {P:Program} {E:Env} {X:aw} {s:State} {a:Act} {o:Oper} {u:Out}
def zme:List (Nat×Nat)->Nat->List SV->List SV
 | [],_,l=>l
 |(i,j)::r,t,l=>zme r t (if t=i then bX l j else l)
theorem z9d{t:Nat}:∀{c:List (Nat×Nat)} {s:State},(s.close c).slot t=zme c t (s.slot t)
 | [],s=>rfl
 |(i,j)::r,s=>by rw[LX,z9d (c:=r),zcf];rfl
theorem uI{t:Nat}:∀{c:List (Nat×Nat)} {l:List SV},t∉c.map (·.1)->zme c t l=l
 | [],l,h=>rfl
 |(i,j)::r,l,h=>by simp only[zaq,If,not_or] at h;simp only[zme];rw[if_neg h.1];exact uI h.2
theorem NQ{d:Option Nat}:(s.apply d u).sl.length=s.sl.length:=by
 cases d with
 |none=>simp only[State.apply,State.au];cases u.bx<;>simp [State.aE,Zg]
 |some d=>simp only[State.apply,State.au,zb8];cases u.bx<;>simp [State.aE,Zg]
theorem Y4{d:Option Nat}{t:Nat}:(s.apply d u).slot t=if d=some t/\t<s.sl.length then u.v else zme u.cl t (s.slot t):=by
 have hb:∀(s:State) b,(s.aE b).slot t=s.slot t:=λs b=>by cases b<;>rfl
 cases d with
 |none=>simp only[State.apply,State.au,hb,z9d];rw[if_neg (by simp)]
 |some d=>
  simp only[State.apply];by_cases e:d=t
  ·subst e;by_cases ap:d<s.sl.length
   ·rw[if_pos ⟨rfl,ap⟩];have:d<((s.close u.cl).aE u.bx).sl.length:=by
     have:((s.close u.cl).aE u.bx).sl.length=s.sl.length:=by cases u.bx<;>simp [State.aE,Zg]
     omega
    simp only[State.au,State.slot,be,List.getElem?_set_self this,zbj]
   ·rw[if_neg (λh=>ap h.2)];have:((s.close u.cl).aE u.bx).sl.length<=d:=by
     have:((s.close u.cl).aE u.bx).sl.length=s.sl.length:=by cases u.bx<;>simp [State.aE,Zg]
     omega
    have h2:(((s.close u.cl).aE u.bx).au (some d) u.v).slot d=((s.close u.cl).aE u.bx).slot d:=by simp only[State.au,State.slot];rw[List.set_eq_of_length_le this]
    rw[h2,hb,z9d]
  ·rw[if_neg (λh=>e (by injection h.1))];have h2:(((s.close u.cl).aE u.bx).au (some d) u.v).slot t=((s.close u.cl).aE u.bx).slot t:=by simp only[State.au,State.slot,be,List.getElem?_set_ne e]
   rw[h2,hb,z9d]
theorem Zm{d:Option Nat}{id:Nat}:(s.apply d u).bs[id]? =match u.bx with
 |some (bf,B)=>if bf=id then(s.bs[id]?).map (λ_=>some B) else s.bs[id]?
 |none=>s.bs[id]? :=by
 have hs:∀(s:State) d l,(s.au d l).bs=s.bs:=λs d l=>by cases d<;>rfl
 simp only[State.apply,hs];cases hb:u.bx with
 |none=>simp only[State.aE,Cn]
 |some b=>
  obtain⟨bf,B⟩:=b;simp only[State.aE,Cn];rw[vc];by_cases e:bf=id
  ·subst e;rw[if_pos rfl,if_pos rfl];by_cases ap:bf<s.bs.length
   ·rw[if_pos ap,ks ap];rfl
   ·rw[if_neg ap,IT (by omega)];rfl
  ·rw[if_neg e,if_neg e]
theorem ai6{s s':State}(h1:s.sl.length=s'.sl.length)(h2:∀t,s.slot t=s'.slot t)(h3:∀id:Nat,s.bs[id]? =s'.bs[id]?):s=s':=by
 cases s with
 |mk sl bs=>
  cases s' with
  |mk sl' bs'=>
   simp only[State.mk.injEq];refine⟨zaF λi=> ?_,zaF h3⟩;have:=h2 i;simp only[State.slot,be] at this h1;by_cases ap:i<sl.length
   ·rw[ks ap,ks (by omega)] at this⊢;simpa using this
   ·rw[IT (by omega),IT (by omega)]
structure FO(R1 W1 b1 c1 R2 W2 b2 c2:List Nat):Prop where
 h1:∀t∈W1,t∉R2/\t∉W2
 h2:∀t∈W2,t∉R1
 h3:∀id∈c1,id∉b2/\id∉c2
 h4:∀id∈c2,id∉b1
theorem adp{o1 o2:Oper}{ops:List Oper}{i1 i2:Nat}{s1 s2:State}{u1 u2:Out}(h:(hG ops o1 i1 s1 u1).apart (hG ops o2 i2 s2 u2)=true):
 FO (looks ops o1) (o1.dst.toList++u1.cl.map (·.1)) (zx s1 o1) (u1.bx.toList.map (·.1)) (looks ops o2) (o2.dst.toList++u2.cl.map (·.1)) (zx s2 o2) (u2.bx.toList.map (·.1)):=by
 simp only[eF.apart,hG,nd] at h;obtain⟨g1,g2,g3,g4⟩:=h;refine⟨λt ht=> ?_,λt ht=> ?_,λt ht=> ?_,λt ht=> ?_⟩
 ·have:=zfx g1 t (by rw[Cl];exact decide_eq_true ht);simp only[zbG,Cl,za8,decide_eq_false_iff_not] at this;exact this
 ·have:=zfx g2 t (by rw[Cl];exact decide_eq_true ht);simpa only[Cl,decide_eq_false_iff_not] using this
 ·have:=zfx g3 t (by rw[Cl];exact decide_eq_true ht);simp only[zbG,Cl,za8,decide_eq_false_iff_not] at this;exact this
 ·have:=zfx g4 t (by rw[Cl];exact decide_eq_true ht);simpa only[Cl,decide_eq_false_iff_not] using this
theorem zsx{d:Option Nat}{ts bs:List Nat}(h1:∀t∈ts,t∉d.toList++u.cl.map (·.1))(h2:∀id∈bs,id∉u.bx.toList.map (·.1)):nq ts bs (s.apply d u) s where
 sl:=λt ht=>by have h:=h1 t ht;simp only[M2,not_or] at h;rw[Y4,if_neg (λhc=>h.1 (by rw[hc.1];simp)),uI h.2]
 bs:=λid gu=>by
  have h:=h2 id gu;rw[Zm];cases hb:u.bx with
  |none=>rfl
  |some b=>obtain⟨bf,B⟩:=b;rw[hb] at h;simp only;rw[if_neg (λe=>h (by simp [e]))]
theorem aeJ{d1 d2:Option Nat}{u1 u2:Out}(h1:∀t∈d1.toList++u1.cl.map (·.1),t∉d2.toList++u2.cl.map (·.1))(h2:∀id∈u1.bx.toList.map (·.1),id∉u2.bx.toList.map (·.1)):
 (s.apply d1 u1).apply d2 u2=(s.apply d2 u2).apply d1 u1:=by
 refine ai6 (by rw[NQ,NQ,NQ,NQ]) (λt=> ?_) (λid=> ?_)
 ·rw[Y4,Y4,Y4,Y4,NQ,NQ];by_cases Gl:d1=some t
  ·have hm:t∈d1.toList++u1.cl.map (·.1):=by rw[Gl];simp
   have hn:=h1 t hm;simp only[M2,not_or] at hn;have uC:¬d2=some t:=λe=>hn.1 (by rw[e];simp);by_cases ap:t<s.sl.length
   ·rw[if_neg (λh=>uC h.1),if_pos ⟨Gl,ap⟩,uI hn.2,if_pos ⟨Gl,ap⟩]
   ·rw[if_neg (λh=>uC h.1),if_neg (λh=>ap h.2),if_neg (λh=>ap h.2),if_neg (λh=>ap h.2),uI hn.2,uI hn.2]
  ·by_cases uC:d2=some t
   ·have hn:t∉d1.toList++u1.cl.map (·.1):=λhm=>h1 t hm (by rw[uC];simp);simp only[M2,not_or] at hn;by_cases ap:t<s.sl.length
    ·rw[if_pos ⟨uC,ap⟩,if_neg (λh=>Gl h.1),if_pos ⟨uC,ap⟩,uI hn.2]
    ·rw[if_neg (λh=>ap h.2),if_neg (λh=>ap h.2),if_neg (λh=>ap h.2),if_neg (λh=>ap h.2),uI hn.2,uI hn.2]
   ·rw[if_neg (λh=>uC h.1),if_neg (λh=>Gl h.1),if_neg (λh=>Gl h.1),if_neg (λh=>uC h.1)];by_cases hm:t∈u1.cl.map (·.1)
    ·have hn:=h1 t (by simp only[M2];exact .inr hm);simp only[M2,not_or] at hn;rw[uI hn.2,uI hn.2]
    ·rw[uI hm,uI hm]
 ·rw[Zm,Zm,Zm,Zm];cases oL:u1.bx with
  |none=>rfl
  |some b1=>
   obtain⟨id1,B1⟩:=b1;cases lH:u2.bx with
   |none=>rfl
   |some b2=>
    obtain⟨tP,B2⟩:=b2;rw[oL,lH] at h2;have bR:id1≠tP:=λe=>h2 id1 (by simp) (by simp [e]);simp only;by_cases e1:id1=id
    ·subst e1;rw[if_neg (λe=>bR e.symm),if_pos rfl,if_pos rfl,if_neg (λe=>bR e.symm)]
    ·by_cases e2:tP=id
     ·subst e2;rw[if_pos rfl,if_neg e1,if_neg e1,if_pos rfl]
     ·rw[if_neg e2,if_neg e1,if_neg e1,if_neg e2]
theorem ztr{ops:List Oper}{s s':State}(h:∀t∈looks ops o,s.slot t=s'.slot t):zx s o=zx s' o:=by
 have cN:∀x∈o.op.operands.toList,s.aI x=s'.aI x:=λx hx=>zm6 (ts:=ur o.op.operands.toList) (λt ht=>h t (by simp only[looks,M2];exact .inl ht)) (λ_ ht=>ht) hx;unfold zx;cases ho:o.op with
 |load T x=>simp only;rw[cN x (by simp [ho,To])]
 |store T x y=>simp only;rw[cN x (by simp [ho,To])]
 |convert S T x=>simp only;rw[cN x (by simp [ho,To])]
 |slice T x lo hi mx=>simp only;rw[cN x (by simp [ho,To])]
 |lookup T x i ok=>simp only;rw[cN x (by simp [ho,To])]
 |mapUpdate T m k x=>simp only;rw[cN m (by simp [ho,To])]
 |insert T m k x=>simp only;rw[cN m (by simp [ho,To])]
 |next x str=>simp only;rw[cN x (by simp [ho,To])]
 |call c=>
  obtain⟨callee,args,ts⟩:=c;have:(args.toList.map λx=>cA (s.aI x))=args.toList.map λx=>cA (s'.aI x):=zbD λx hx=>by
   rw[cN x (by simp only[ho,To,zdn,zbe,M2];exact .inr hx)]
  cases callee with
  |value f=>
   simp only;have hf:s.aI f=s'.aI f:=cN f (by simp only[ho,To,zdn,zbe,M2];exact .inl (by simp))
   rw[hf,zet,zet,this]
  |builtin b=>
   cases b with
   |copy=>simp only;rw[zet,zet,this]
   |_=>rfl
  |_=>rfl
 |_=>rfl
theorem UF{C:ai}{ops:List Oper}{s s':State}(h:nq (looks ops o) (zx s o) s s'):fh E C ops o s=fh E C ops o s':=by
 unfold fh;rw[ahF h];split
 ·rfl
 ·rename_i g want hg;split
  ·rfl
  ·rename_i d hd;rw[h.sl d (by simp [looks,hg,hd])]
theorem swap{C:ai}{ops:List Oper}{o1 o2:Oper}{i1 i2:Nat}{u1 u2:Out}(h1:fh E C ops o1 s=some u1)(h2:fh E C ops o2 (s.apply o1.dst u1)=some u2)(h:(hG ops o1 i1 s u1).apart (hG ops o2 i2 (s.apply o1.dst u1) u2)=true):
 fh E C ops o2 s=some u2/\hG ops o2 i2 s u2=hG ops o2 i2 (s.apply o1.dst u1) u2/\fh E C ops o1 (s.apply o2.dst u2)=some u1/\hG ops o1 i1 (s.apply o2.dst u2) u1=hG ops o1 i1 s u1/\
  (s.apply o2.dst u2).apply o1.dst u1=(s.apply o1.dst u1).apply o2.dst u2:=by
 have hp:=adp h;have ag1:nq (looks ops o2) (zx (s.apply o1.dst u1) o2) (s.apply o1.dst u1) s:=zsx (λt ht hm=>(hp.h1 t hm).1 ht) (λid gu hm=>(hp.h3 id hm).1 gu);have dX:=ztr (ops:=ops) (o:=o2) ag1.sl;have ag2:nq (looks ops o1) (zx s o1) (s.apply o2.dst u2) s:=zsx (λt ht hm=>hp.h2 t hm ht) (λid gu hm=>hp.h4 id hm gu);have fc:=ztr (ops:=ops) (o:=o1) ag2.sl;refine⟨by rw[<-UF ag1];exact h2,by simp only[hG,dX],?_,by simp only[hG,fc],(aeJ (λt ht=>(hp.h1 t ht).2) (λid gu=>(hp.h3 id gu).2)).symm⟩;rw[UF (s:=s.apply o2.dst u2) (s':=s) ⟨ag2.sl,λid gu=>ag2.bs id (by rw[<-fc];exact gu)⟩];exact h1
end Go.Ref

namespace Go.Ref
open Go
variable {P:Program} {E:Env} {X:aw} {s:State} {a:Act} {o:Oper} {u:Out}
def pC(E:Env)(C:ai)(ops:Array Oper):List Nat->State->List eF->State->Prop
 | [],s,tr,z=>s=z/\tr=[]
 |i::r,s,f::tr,z=>∃u,fh E C ops.toList (ops.getD i default) s=some u/\f=hG ops.toList (ops.getD i default) i s u/\pC E C ops r (s.apply (ops.getD i default).dst u) tr z
 |_::_,_,[],_=>False
def xV(ops:Array Oper)(i:Nat):Nat:=zy (ops.getD i default).after.toList
theorem UQ{ops:List Oper}{q:Nat}:∀(n m:Nat),m.testBit q=true->(j5 ops n m).testBit q=true
 |0,m,h=>h
 |i+1,m,h=>by
  refine UQ i _ ?_;split
  ·cases m.testBit i with
   |false=>exact h
   |true=>rw[cond_true,zbG,h];rfl
  ·exact h
theorem ztl{listed:Array Bool}{i q:Nat}(h:listed.getD q false=true):(listed.setIfInBounds i true).getD q false=true:=by
 simp only[NX,zbF] at h⊢;split
 ·split
  ·rfl
  ·rename_i h1 h2;subst h1;rw[Array.getElem?_eq_none (by omega)] at h;exact h
 ·exact h
theorem aiv{listed:Array Bool}{i q:Nat}(e:q≠i):(listed.setIfInBounds i true).getD q false=listed.getD q false:=by simp only[NX];rw[zbl (by omega)]
def vX(ops:Array Oper)(listed:Array Bool):Prop:=∀i,listed.getD i false=true->∀q,(xV ops i).testBit q=true->listed.getD q false=true
theorem z8n{ops:Array Oper}{listed:Array Bool}(fM:vX ops listed):∀(n m:Nat),(∀q,m.testBit q=true->listed.getD q false=true)->∀q,(j5 ops.toList n m).testBit q=true->listed.getD q false=true
 |0,m,h=>h
 |i+1,m,h=>by
  refine z8n fM i _ λq hq=> ?_;split at hq
  ·rename_i o ho;cases hb:m.testBit i with
   |false=>rw[hb] at hq;exact h q hq
   |true=>
    rw[hb,cond_true,zbG,zcJ] at hq;rcases hq with hq|hq
    ·exact h q hq
    ·refine fM i (h i hb) q ?_;have:ops.getD i default=o:=by rw[zad] at ho;simp only[NX,ho,zbj]
     unfold xV;rw[this];exact hq
  ·exact h q hq
theorem Wj{ops:Array Oper}{listed:Array Bool}(fM:vX ops listed){i:Nat}(h:∀q,(xV ops i).testBit q=true->listed.getD q false=true):vX ops (listed.setIfInBounds i true):=λj hj q hq=>by
 by_cases e:j=i
 ·subst e;exact ztl (h q hq)
 ·rw[aiv e] at hj;exact ztl (fM j hj q hq)
def yA(ops:Array Oper)(a b:eF):Prop:=(j5 ops.toList b.i (xV ops b.i)).testBit a.i=true\/a.apart b=true
theorem LQ{C:ai}{ops:Array Oper}:∀{l:List Nat} {s z:State} {tr:List eF},pC E C ops l s tr z->tr.map (·.i)=l
 | [],s,z,tr,h=>by rw[h.2];rfl
 |i::r,s,z,f::tr,h=>by obtain⟨u,_,rfl,h3⟩:=h;simp only[zaq,LQ h3];rfl
 |_::_,s,z,[],h=>h.elim
theorem zcq{C:ai}(hC:C.Nat){ops:Array Oper}{z:State}:∀(l:List Nat) (i:Nat) (s:State) (tr:List eF),(∀(j:Nat) k,l[j]? =some k->k=i+j)->
 CR E (C State) ops.toList (l.map λk=>ops.getD k default) i s tr some=some z->∃A5,pC E C ops l s A5 z/\(∀a∈tr,∀b∈A5,yA ops a b)/\A5.Pairwise (yA ops)/\∀k∈l,zaL (xV ops k+1) (bit k)=true
 | [],i,s,tr,hl,h=>by cases h;exact⟨[],⟨rfl,rfl⟩,(λa _ b hb=>by cases hb),List.Pairwise.nil,λk hk=>by cases hk⟩
 |k::r,i,s,tr,hl,h=>by
  have hk:k=i:=by simpa using hl 0 k rfl
  subst hk;simp only[zaq,CR] at h;obtain⟨u,h1,h2,h3⟩:=ai8 hC h;obtain⟨A5,r1,r2,r3,r4⟩:=zcq hC r (k+1) _ _ (λj k' hj=>by have:=hl (j+1) k' hj;omega) h3
  simp only[fits,nd] at h2;obtain⟨h2a,h2b⟩:=h2;have h2b:=OF.1 h2b;refine⟨hG ops.toList (ops.getD k default) k s u::A5,⟨u,h1,rfl,r1⟩,λa ha b hb=> ?_,?_,λk' Rn=> ?_⟩
  ·rcases If.1 hb with rfl|hb
   ·have:=h2b a ha;simp only[zcJ] at this;rcases this with this|this|this
    ·exact .inl (UQ _ _ this)
    ·exact .inr this
    ·exact .inl this
   ·exact r2 a (Cs _ ha) b hb
  ·exact zak.2 ⟨λb hb=>r2 _ (by simp) b hb,r3⟩
  ·rcases If.1 Rn with rfl|Rn
   ·exact h2a
   ·exact r4 k' Rn
theorem zwp{C:ai}{ops:Array Oper}{z:State}{i:Nat}{q:List Nat}:∀(p:List Nat) (s:State) (tr:List eF),pC E C ops (p++i::q) s tr z->(∀(tp:List eF) f tq,tr=tp++f::tq->tp.length=p.length->∀a∈tp,a.apart f=true)->
 ∃tp f tq u,tr=tp++f::tq/\tp.length=p.length/\fh E C ops.toList (ops.getD i default) s=some u/\f=hG ops.toList (ops.getD i default) i s u/\pC E C ops (p++q) (s.apply (ops.getD i default).dst u) (tp++tq) z
 | [],s,[],h,EC=>h.elim
 | [],s,f::tr,h,EC=>by obtain⟨u,h1,h2,h3⟩:=h;exact⟨[],f,tr,u,rfl,rfl,h1,h2,h3⟩
 |j::p,s,[],h,EC=>h.elim
 |j::p,s,g::tr,h,EC=>by obtain⟨uj,h1,h2,h3⟩:=h;obtain⟨tp,f,tq,u,e1,e2,k1,k2,k3⟩:=zwp p _ tr h3 (λtp f tq e hl a ha=>EC (g::tp) f tq (by rw[e];rfl) (by simp [hl]) a (Cs _ ha));have hg:=EC (g::tp) f tq (by rw[e1];rfl) (by simp [e2]) g (by simp);rw[h2,k2] at hg;obtain⟨w1,w2,w3,w4,w5⟩:=swap h1 k1 hg;refine⟨g::tp,f,tq,u,by rw[e1];rfl,by simp [e2],w1,by rw[k2,w2],uj,w3,by rw[h2,w4],?_⟩;rw[w5];exact k3
theorem Wm{l:List Nat}{i:Nat}(h:i∈l):∃p q,l=p++i::q:=List.append_of_mem h
theorem SP{p q:List Nat}{i:Nat}(h:(p++i::q).Nodup):(p++i::q).filter (λj=> !(xz j i))=p++q:=by
 have h':=List.nodup_append.1 h;have hp:∀j∈p,j≠i:=λj hj=>h'.2.2 j hj i (by simp);have hq:∀j∈q,j≠i:=λj hj e=>by have:=(List.nodup_cons.1 h'.2.1).1;rw[e] at hj;exact this hj
 rw[List.filter_append,zbO];have hb:∀j,j≠i->(!(xz j i))=true:=λj hj=>by
  cases hh:xz j i with
  |false=>rfl
  |true=>exact absurd (DD hh) hj
 rw[zbS.2 (λj hj=>hb j (hp j hj)),zbS.2 (λj hj=>hb j (hq j hj))];have:(!(xz i i))=false:=by simp
 rw[this];simp
def rest(n:Nat)(listed:Array Bool):List Nat:=(zaJ n).filter λi=> !listed.getD i true
theorem amS{n:Nat}{listed:Array Bool}(hs:listed.size=n){i:Nat}{p q:List Nat}(h:rest n listed=p++i::q):rest n (listed.setIfInBounds i true)=p++q:=by
 have oO:(rest n listed).Nodup:=List.nodup_range.filter _;rw[h] at oO;rw[<-SP oO,<-h];simp only[rest,List.filter_filter];refine zcL λj hj=> ?_;have hjn:=zao.1 hj;by_cases e:j=i
 ·subst e;have:(listed.setIfInBounds j true).getD j true=true:=by simp [NX,hs,hjn]
  rw[this];simp
 ·have h1:(listed.setIfInBounds i true).getD j true=listed.getD j true:=by simp only[NX];rw[zbl (λh=>e h.symm)]
  have h2:xz j i=false:=by
   cases hh:xz j i with
   |false=>rfl
   |true=>exact absurd (DD hh) e
  rw[h1,h2];simp
theorem NT{ops:Array Oper}{listed:Array Bool}{i:Nat}(h:i∈zcB .any ops listed):i∈rest ops.size listed/\∀e∈(ops.getD i default).after.toList,zdd .any e=true->listed.getD e.on false=true:=by
 unfold zcB at h;obtain⟨h1,h2⟩:=zab.1 h;have hi:=zao.1 h1;rw[nd] at h2;refine⟨zab.2 ⟨h1,h2.1⟩,λe he hb=> ?_⟩;have h3:=h2.2;rw[XN hi] at h3;simp only[zbA,zbj] at h3;have cM:ops.getD i default=ops[i]:=by simp [hi]
 rw[cM] at he;have h4:=zd2.1 h3 e (by simpa using he);rw[hb] at h4;simpa using h4
theorem Wd{ops:Array Oper}{listed:Array Bool}{i:Nat}(h:i∈rest ops.size listed)(ha:∀e∈(ops.getD i default).after.toList,zdd .any e=true->listed.getD e.on false=true):i∈zcB .any ops listed:=by
 obtain⟨h1,h2⟩:=zab.1 h;have hi:=zao.1 h1;refine zab.2 ⟨h1,?_⟩;rw[nd];refine⟨h2,?_⟩;have cM:ops.getD i default=ops[i]:=by simp [hi]
 rw[XN hi];simp only[zbA,zbj];refine zd2.2 λe he=> ?_;cases hb:zdd .any e with
 |false=>rfl
 |true=>rw[ha e (by rw[cM];simpa using he) hb];simp
theorem aml(hE:ak P E){C:ai}(hC:C.Nat)(hf:∀f,dh P C f){ops:Array Oper}{z:State}{Q:Exit->Act->World->Prop}(kr:∀k,k<ops.size->zaL (xV ops k+1) (bit k)=true):
 ∀(cC:Nat) (listed:Array Bool) (X:aw) (s:State) (a:Act) (tr:List eF),Rel X s a->vX ops listed->listed.size=ops.size->cC=(rest ops.size listed).length->pC E C ops (rest ops.size listed) s tr z->tr.Pairwise (yA ops)->
  (∀Y a',Ext X Y->Rel Y z a'->Q .normal a' Y.w)->wpAny P .any ops Q cC listed a X.w:=by
 intro cC;have done:∀(listed:Array Bool),listed.size=ops.size->zcB .any ops listed=[]->rest ops.size listed=[]:=by
  intro listed hs hr;rcases hl:rest ops.size listed with _|⟨i,r⟩
  ·rfl
  have cQ:i∈rest ops.size listed:=by rw[hl];simp
  have dD:=zao.1 (zab.1 cQ).1;have ll:i∈zcB .any ops listed:=by
   refine Wd cQ λe he hb=> ?_;have ap:e.on<i:=TI (kr i dD) (zkt _ e he hb);cases hx:listed.getD e.on false with
   |true=>rfl
   |false=>
    exfalso;have gO:e.on<listed.size:=by omega
    have sB:listed.getD e.on true=false:=by simp only[NX,XN gO,zbj] at hx⊢;exact hx
    have hm:e.on∈rest ops.size listed:=zab.2 ⟨zao.2 (by omega),by rw[sB];rfl⟩;have jc:(rest ops.size listed).Pairwise (· < ·):=List.pairwise_lt_range.filter _;rw[hl] at jc hm;rcases If.1 hm with e1|hm
    ·omega
    ·have:=(zak.1 jc).1 _ hm;omega
  rw[hr] at ll;cases ll
 induction cC with
 |zero=>
  intro listed X s a tr hr fM hs oN eg x6 hQ;have wT:rest ops.size listed=[]:=zam oN.symm;rw[wT] at eg;obtain⟨rfl,_⟩:=eg;refine⟨?_,hQ X a (Ext.refl X) hr⟩;rcases RJ:zcB .any ops listed with _|⟨i,r⟩
  ·rfl
  ·have:=(NT (i:=i) (by rw[RJ];simp)).1;rw[wT] at this;cases this
 |succ cC ih=>
  intro listed X s a tr hr fM hs oN eg x6 hQ;refine⟨λiZ=> ?_,λi hi=> ?_⟩
  ·rw[done listed hs iZ] at oN;cases oN
  ·obtain⟨cQ,tG⟩:=NT hi;obtain⟨p,q,Au⟩:=Wm cQ;have dD:=zao.1 (zab.1 cQ).1;rw[Au] at eg;have mY:=LQ eg;obtain⟨tp,f,tq,u,e1,e2,k1,k2,k3⟩:=zwp p s tr eg (λtp f tq e hl a' EB=>by
    have wJ:f.i=i:=by rw[e,zaY,zaq] at mY;have:=zeG mY (by simp [hl]);injection this.2
    have haj:a'.i∈p:=by rw[e,zaY,zaq] at mY;have:=zeG mY (by simp [hl]);rw[<-this.1];exact zau.2 ⟨a',EB,rfl⟩
    rw[e] at x6;have wL:=(za0.1 x6).2.2 a' EB f (by simp);rcases wL with hb|hb
    ·exfalso;rw[wJ] at hb;obtain gb:=z8n fM _ _ (λq hq=>by obtain⟨ed,An,Ao,Rf⟩:=z49 _ _ hq;have:=tG ed An Ao;rw[Rf] at this;exact this) a'.i hb
     have bN:a'.i∈rest ops.size listed:=by rw[Au];exact zbm _ haj
     have eE:=(zab.1 bN).2;have ap:=zao.1 (zab.1 bN).1;have gO:a'.i<listed.size:=by omega
     simp only[NX,XN gO,zbj] at gb eE;rw[gb] at eE;cases eE
    ·exact hb)
   have bN:=amS hs Au;have hio:ops[i]? =some (ops.getD i default):=by simp [dD]
   refine zsu hE hr hC hf hio (ztv hC k1) λY a' bc bD=> ?_;refine ih (listed.setIfInBounds i true) Y _ a' (tp++tq) bD (Wj fM λq hq=>by obtain⟨ed,g1,g2,g3⟩:=z49 _ _ hq;have:=tG ed g1 g2;rw[g3] at this;exact this) (by simp [hs]) ?_ (by rw[bN];exact k3) ?_ (λZ a2 cr dj=>hQ Z a2 (bc.trans cr) dj)
   ·rw[bN];rw[Au] at oN;simp only[th,ls] at oN⊢;omega
   ·rw[e1] at x6;obtain⟨a1,a2,a3⟩:=za0.1 x6;exact za0.2 ⟨a1,(zak.1 a2).2,λx hx y hy=>a3 x hx y (Cs _ hy)⟩
theorem aie(hE:ak P E)(hm:P.follows .mixedOrders=true){C:ai}(hC:C.Nat)(hf:∀f,dh P C f){id:Nat}{ops:Array Oper}{z:State}{Q:Exit->Act->World->Prop}(hr:Rel X s a)(h:CR E (C State) ops.toList ops.toList 0 s [] some=some z)
 (hQ:∀Y a',Ext X Y->Rel Y z a'->Q .normal a' Y.w):(zeH id ops true).wp P Q a X.w:=by
 have lj:(zaJ ops.size).map (λi=>ops.getD i default)=ops.toList:=by
  apply zaF;intro i;rw[IN];by_cases hi:i<ops.size
  ·simp [hi]
  ·simp [hi]
 have bN:rest ops.size (zdT ops.size false)=zaJ ops.size:=by refine zbS.2 λi hi=> ?_;have:=zao.1 hi;simp [this]
 obtain⟨A5,r1,_,r3,r4⟩:=zcq hC (zaJ ops.size) 0 s [] (λj k hj=>by
  have:=(AS.1 hj)
  obtain⟨h1,h2⟩:=this;simp at h2;omega) (by rw[lj];exact h)
 have hk:fq s X {X with w:={X.w with drawn:=X.w.drawn+1}}:=⟨zag _,rfl,rfl,rfl,λg _=>⟨rfl,rfl⟩,rfl,λ_ _ _=>rfl⟩
 refine wp_region_any hm ?_;exact aml hE hC hf (λk hk=>r4 k (zao.2 hk)) ops.size (zdT ops.size false) _ s a A5 (hr.dy hk) (λi hi=>by by_cases h:i<ops.size<;>simp [h] at hi) (by simp) (by rw[bN];simp) (by rw[bN];exact r1) r3 (λY a' bc bD=>hQ Y a' (hk.ext.trans bc) bD)
end Go.Ref

namespace Go.Ref
open Go
variable {P:Program} {E:Env} {X:aw} {s:State} {a:Act}
theorem bm.flat{X Y:aw}:∀{t:Ty} {x:El t} {cs:List Value},t.flat=true->bm X t x cs->bm Y t x cs
 | .bool,_,_,_,hr=>hr
 | .int _,_,_,_,hr=>hr
 | .str,_,_,_,hr=>hr
 | .unit,_,_,_,hr=>hr
 | .sl _ _,_,_,hf,_=>by cases hf
 | .aY _ _ _,_,_,hf,_=>by cases hf
 | .arr n t,xs,cs,hf,⟨h1,h2,h3⟩=>⟨h1,h2,λj x hj=>bm.flat (t:=t) hf (h3 j x hj)⟩
 | .pair a b,x,cs,hf,⟨c1,c2,h1,h2,h3⟩=>by have hf:(a.flat&&b.flat)=true:=hf;rw[nd] at hf;exact⟨c1,c2,h1,bm.flat hf.1 h2,bm.flat hf.2 h3⟩
theorem aC.flat{X Y:aw}{pl:List Nat->Place}{sv:SV}{v:Value}(hf:sv.flat=true)(hr:aC X pl sv v):aC Y pl sv v:=by
 cases sv with
 |aq t x own=>have hf:(t.flat&&own.isEmpty)=true:=hf;rw[nd] at hf;obtain⟨cs,h1,h2,_⟩:=hr;have:own=[]:=List.isEmpty_iff.1 hf.2;subst this;exact⟨cs,h1.flat hf.1,h2,nm⟩
 |undef=>trivial
 |skip=>exact hr
 |cR=>exact hr
 |ey=>exact hr
 |over=>exact hr
 |_=>cases hf
theorem zc0{o:Nat}:∀{sl:List (List SV)} {i:Nat},mh o i sl=true->∀(j:Nat) l,sl[j]? =some l->i+j≠o->∀sv∈l,SV.flat sv=true
 | [],i,_,j,l,h,_=>by simp at h
 |l0::r,i,h,j,l,hl,bR=>by
  rw[mh,nd,zcJ] at h;cases j with
  |zero=>
   cases hl;rcases h.1 with h1|h1
   ·exact absurd (DD h1) bR
   ·exact λsv hm=>OF.1 h1 sv hm
  |succ j=>exact zc0 h.2 j l hl (by omega)
structure oY(X:aw)(a:Act)(o:Nat)(e:TypeId)(xs:List Int)(own:List (List Nat))(g c:Nat)(cur:Array Value):Prop where
 val:a.tmps.getD o zaj= .slice (some ⟨g,0,none⟩) xs.length c
 heap:X.w.heap[g]? =some (.cells cur e (0,0))
 cell:∀(j:Nat) x,xs[j]? =some x->X.w.cell? ⟨g,j,none⟩=some (.int .u8 x)
 le:xs.length<=c
 most:c<=maxLen
 size:cur.size=c
 ow:X.ow g= .row (.c o 0 []) (xs.length*1)
 own:∀p∈own,p=[]
theorem apP{o:Nat}{e:TypeId}{xs:List Int}{own:List (List Nat)}(hr:Rel X s a)(hs:s.slot o=[.aq (.sl e (.int .u8)) xs own])(b7:hP own []=true){i:Nat}(hi:i<xs.length):∃g c cur,oY X a o e xs own g c cur:=by
 have ja:=hr.slot o;rw[hs] at ja;obtain⟨cs,aO,hv,hO⟩:=(show aC X (.c o 0) (.aq (.sl e (.int .u8)) xs own) (a.tmps.getD o zaj) from ja)
 have cQ:([]:List Nat)∈own:=by
  unfold hP at b7;obtain⟨q,h1,h2⟩:=List.any_eq_true.1 b7;have:q=[]:=by simpa using h2
  rw[<-this];exact h1
 have c8:∀p∈own,p=[]:=λp hp=>by
  obtain⟨e2,t2,xs2,v2,g1,g2,g3,g4⟩:=hO p hp;cases p with
  |cons q r=>simp [El.get] at g2
  |nil=>rfl
 obtain⟨e1,t1,xs1,v1,_,hg,hc,cq⟩:=hO [] cQ;simp only[El.get,AI] at hg;cases hg;obtain⟨A,c,eU,hle,fD⟩:=aO;subst eU;have hv:a.tmps.getD o zaj= .slice A xs.length c:=hv;have ES:v1= .slice A xs.length c:=by have:([Value.slice A xs.length c]:List Value)[0]? =some v1:=hc;simpa using this.symm
 subst ES;rcases cq with⟨_,h0⟩|⟨g,cap,cur,h1,h2,h3,h4,h5,h6⟩
 ·have h0:aa xs=0:=h0;omega
 injection h1 with k1 k2 k3
 subst k1 k3;have h5:cur.size=c*1:=h5;have h6:X.ow g= .row (.c o 0 []) (aa xs*1):=h6;have eb:∀(j:Nat) x,xs[j]? =some x->X.w.cell? ⟨g,j,none⟩=some (.int .u8 x):=λj x hj=>by obtain⟨ad,fa,e1,_,e2,e3⟩:=fD j x hj;cases e1;have e2:fa=[.int .u8 x]:=e2;subst e2;have:=(e3 0 (.int .u8 x) rfl).2.1;rw[jv] at this;simpa [Ty.cells] using this
 exact⟨g,c,cur,hv,h2,eb,hle,h4,by omega,h6,c8⟩
theorem amQ{o:Nat}{e:TypeId}{xs:List Int}{own:List (List Nat)}{X0:aw}(hF:∀g pl n,X0.ow g≠ .row pl n)(hx:Ext X0 X)(hr:Rel X s a)(ho:o<s.sl.length)(wK:mh o 0 s.sl=true)(jO:s.bs.all Option.isNone=true)
 {g c:Nat} {cur:Array Value} (hR:oY X a o e xs own g c cur) {i:Nat} (hi:i<xs.length) (z:Int):
   Ext X0 (X.row g (cur.toList.take i++ [Value.int .u8 z]++cur.toList.drop (i+1)).toArray)/\Rel (X.row g (cur.toList.take i++ [Value.int .u8 z]++cur.toList.drop (i+1)).toArray) ⟨s.sl.set o [.aq (.sl e (.int .u8)) (xs.set i z:List Int) own],s.bs⟩ a:=by
 obtain⟨hv,h2,eb,hle,h4,h5,h6,c8⟩:=hR;refine⟨?_,?_⟩
 ·
  have dw:∀b,b≠g->(X.row g (cur.toList.take i++ [Value.int .u8 z]++cur.toList.drop (i+1)).toArray).w.heap[b]? =X.w.heap[b]? :=λb hb=>setRow_other X.w g b _ hb;have oP:∀ad v,X0.aB ad v->ad.block≠g:=λad v eN e0=>by
   have ap:=aw.jn eN;have hu:=eN.2.2;cases hw:X0.ow ad.block with
   |all=>have:=(hx.still ad.block ap (by rw[hw];trivial)).1;rw[e0,h6] at this;rw[<-e0,hw] at this;cases this
   |ro n=>have:=(hx.still ad.block ap (by rw[hw];trivial)).1;rw[e0,h6] at this;rw[<-e0,hw] at this;cases this
   |box id=>rw[hw] at hu;exact hu
   |row pl n=>exact hF _ _ _ hw
  refine⟨λad v eN=> ?_,?_,hx.os,hx.tape,hx.output,hx.β0,λb hb bY=> ?_⟩
  ·have h7:=hx.aB ad v eN;refine⟨h7.1,?_,h7.2.2⟩;have:=h7.2.1;simp only[zaP] at this⊢;rw[dw _ (oP ad v eN)];exact this
  ·have:=hx.size;simpa [aw.row] using this
  ·have h7:=hx.still b hb bY;have bR:b≠g:=λe0=>by have h8:=h7.1;rw[e0,h6] at h8;rw[e0,<-h8] at bY;exact bY
   exact⟨h7.1,(dw b bR).trans h7.2⟩
 ·generalize ix:(cur.toList.take i++ [Value.int .u8 z]++cur.toList.drop (i+1)).toArray=new;have eE:new.toList=cur.toList.take i++ [Value.int .u8 z]++cur.toList.drop (i+1):=by rw[<-ix]
  have eL:new.size=cur.size:=by
   have:new.toList.length=cur.toList.length:=by rw[eE];simp;omega
   simpa using this
  have aF:(X.row g new).w.heap[g]? =some (.cells new e (0,0)):=setRow_heap X.w g cur new e (0,0) h2;refine⟨by simpa using hr.size,by simpa using hr.ia,λj l v hl jS=> ?_,λid B hB=> ?_,λj l id t p hl hm=> ?_,hr.defers,λj l id c b k hl hm=> ?_⟩
  ·rw[vc] at hl;by_cases EL:o=j
   ·subst EL;rw[if_pos rfl,if_pos ho] at hl;cases hl;have hvv:a.tmps.getD o zaj=v:=by rw[NX,jS];rfl
    rw[hvv] at hv;subst hv;refine⟨[.slice (some ⟨g,0,none⟩) xs.length c],?_,rfl,λp hp=> ?_⟩
    ·refine bm.AZ (t:= .int .u8) (zb8 ..) hle λj x hj=>⟨⟨g,0,none⟩,[.int .u8 x],rfl,rfl,rfl,λk w hk=> ?_⟩
     have wN:j<xs.length:=by have:=(AS.1 hj).1;rw[zb8] at this;exact this
     cases k with
     |succ k=>simp at hk
     |zero=>
      have hk:Value.int .u8 x=w:=by simpa using hk
      subst hk;refine⟨Ft rfl _,?_,?_⟩
      ·rw[jv];show(X.row g new).w.cell? _=_;simp only[zaP,aF,Ty.cells];rw[show 0+(j*1+0)=j by omega,<-zad,eE];have hj:(xs.set i z)[j]? =some x:=hj;rw[vc] at hj;have art:i<cur.toList.length:=by simp;omega
       by_cases hij:i=j
       ·subst hij;rw[if_pos rfl,if_pos hi] at hj;cases hj;rw[MM,zaa (by simp;omega)];have:i-(cur.toList.take i).length=0:=by simp;omega
        rw[this];rfl
       ·rw[if_neg hij] at hj;have xZ:=eb j x hj;simp only[zaP,h2] at xZ;rw[<-zad] at xZ;rcases zbJ j i with ap|hge
        ·rw[MM,zap (by simp;omega),zae,if_pos ap];exact xZ
        ·have hgt:i<j:=by omega
         rw[zaa (by simp;omega),zas];have:i+1+(j-(cur.toList.take i++ [Value.int .u8 z]).length)=j:=by simp;omega
         rw[this];exact xZ
      ·rw[jv];show Ow.used (X.ow g) _;rw[h6];show _<_;simp only[Ty.cells];omega
    ·have:=c8 p hp;subst this;refine⟨e,.int .u8,(xs.set i z:List Int),_,by simp [Ty.fe],rfl,rfl,?_⟩;have hls:aa (xs.set i z)=xs.length:=zb8 ..;rw[hls];exact .inr ⟨g,c,new,rfl,aF,hle,h4,by rw[eL,h5];simp [Ty.cells],h6⟩
   ·rw[if_neg EL] at hl;have:=zc0 wK j l hl (by omega);exact(hr.bZ j l v hl jS).jD λk sv u hk hu=>hu.flat (this sv (IH hk))
  ·have:=OF.1 jO (some B) (IH hB);cases this
  ·rw[vc] at hl;by_cases EL:o=j
   ·subst EL;rw[if_pos rfl,if_pos ho] at hl;cases hl;simp at hm
   ·rw[if_neg EL] at hl;have:=zc0 wK j l hl (by omega) _ hm;cases this
  ·exfalso;replace hl:(s.sl.set o [.aq (.sl e (.int .u8)) (xs.set i z:List Int) own])[j]? =some l:=hl;rw[vc] at hl;by_cases EL:o=j
   ·subst EL;rw[if_pos rfl,if_pos ho] at hl;cases hl;simp at hm
   ·rw[if_neg EL] at hl;have:=zc0 wK j l hl (by omega) _ hm;cases this
theorem z31{a:Act}{d i:Nat}{v:Value}(hd:d<a.tmps.size):(a.put (some d) v).tmps.getD i zaj=if d=i then v else a.tmps.getD i zaj:=by
 simp only[Act.put,NX,zbF];split
 ·first|rfl|(rw[if_pos hd];rfl)
 ·rfl
theorem ug{a:Act}{d:Nat}{v:Value}:(a.put (some d) v).tmps.size=a.tmps.size:=by simp [Act.put]
theorem raw{ops:Array Oper}{Q:Exit->Act->World->Prop}{i d:Nat}{rest:List Nat}{a:Act}{w:World}{o:Oper}{v:Value}(hi:ops[i]? =some o)(hd:isDst o d=true)(aZ:(execOp a.eval o).run P w= .ok (.value v) w)(K:wpOps P ops Q rest (a.put (some d) v) w):wpOps P ops Q (i::rest) a w:=by
 have mi:o.dst=some d/\o.guard=none:=by
  unfold isDst at hd;split at hd
  ·rename_i d' h1 h2;exact⟨by rw[h1,DD hd],h2⟩
  ·cases hd
 rw[wpOps_cons];unfold wpOp;simp only[hi];have hw:za4 o (yielded ops a.tmps)=true:=by simp [za4,mi.2]
 rw[if_pos hw];refine .inl ?_;unfold zeZ;rw[aZ,zeF,mi.1];exact K
theorem yg{x:Operand}{i:Nat}(h:gd x i=true):x= .tmp i:=by
 unfold gd at h;split at h
 ·rw[DD h]
 ·cases h
theorem Xx{T:TypeId}(h:Ay E T=true):E.ty T=some (.int .u8):=by
 unfold Ay at h;split at h
 ·assumption
 ·cases h
theorem S4{T:TypeId}(h:zso E T=true):∃e,E.ty T=some (.sl e (.int .u8)):=by
 unfold zso at h;split at h
 ·exact⟨_,by assumption⟩
 ·cases h
theorem yh{o:Oper}{d x:Nat}(h:M9 o d x=true):isDst o d=true/\∀(a:Act) (w:World),(execOp a.eval o).run P w= .ok (.value (a.tmps.getD x zaj)) w:=by
 unfold M9 at h;rw[nd] at h;refine⟨h.1,λa w=> ?_⟩;have h:=h.2;split at h
 ·rename_i y ho;have:=yg h;subst this;simp only[execOp,ho];rfl
 ·cases h
theorem zsr(hE:ak P E){o:Oper}{d x:Nat}(h:isLen E o d x=true):isDst o d=true/\∀(a:Act) (w:World) A n c,a.tmps.getD x zaj= .slice A n c->(execOp a.eval o).run P w= .ok (.value (.int .i64 n)) w:=by
 unfold isLen at h;rw[nd] at h;refine⟨h.1,λa w A n c hv=> ?_⟩;have h:=h.2;split at h
 ·rename_i ea ts ho;split at h
  ·rename_i y T tN Ge;have has:ea= #[y]:=by rw[<-zaC (xs:=ea),tN]
   have jd:ts= #[T]:=by rw[<-zaC (xs:=ts),Ge]
   subst has jd;rw[nd] at h;have:=yg h.1;subst this;obtain⟨e,hT⟩:=S4 h.2;have hu:=(hE.ty T _ hT).dJ;have ev:a.eval (.tmp x)= .slice A n c:=hv;simp [execOp,ho,resolve,invoke,builtin,Builtin.len_,ev,run_underlying hu.1,goInt]
  ·cases h
 ·cases h
theorem zgh{o:Oper}{d x:Nat}(h:Cd o d x=true):isDst o d=true/\∀(a:Act) (w:World) (n:Int),a.tmps.getD x zaj= .int .i64 n->(execOp a.eval o).run P w= .ok (.value (.int .i64 (IntKind.i64.wrap (n-1)))) w:=by
 unfold Cd at h;rw[nd] at h;refine⟨h.1,λa w n hv=> ?_⟩;have h:=h.2;split at h
 ·rename_i T y c T' ho;rw[nd] at h;have:=yg h.1;subst this;have hc:=of_decide_eq_true h.2;subst hc;have ev:a.eval (.tmp x)= .int .i64 n:=hv;have ec:a.eval (.const (.int .i64 1))= .int .i64 1:=rfl;obtain⟨sv,v,hl,GN,_,hr,_⟩:=zvz (P:=P) (op:= .sub) (T:=T) (k:= .i64) (k':= .i64) (m:=n) (n:=1) w rfl;cases hl;have:=Fj (hr ⟨w,λ_=> .all,λ_=>none⟩ (λ_=> .r 0 []));subst this;simp only[execOp,ho,BY,ev,ec,z4r,fv,GN,GP]
 ·cases h
theorem XS{o:Oper}{d x y:Nat}(h:xf o d x y=true):isDst o d=true/\∀(a:Act) (w:World) (n m:Int),a.tmps.getD x zaj= .int .u8 n->a.tmps.getD y zaj= .int .u8 m->(execOp a.eval o).run P w= .ok (.value (.int .u8 (IntKind.u8.wrap (n+m)))) w:=by
 unfold xf at h;rw[nd] at h;refine⟨h.1,λa w n m hv hu=> ?_⟩;have h:=h.2;split at h
 ·rename_i T u v T' ho;rw[nd] at h;have:=yg h.1;subst this;have:=yg h.2;subst this;have ev:a.eval (.tmp x)= .int .u8 n:=hv;have eu:a.eval (.tmp y)= .int .u8 m:=hu;obtain⟨sv,v,hl,GN,_,hr,_⟩:=zvz (P:=P) (op:= .add) (T:=T) (k:= .u8) (k':= .u8) (m:=n) (n:=m) w rfl;cases hl;have:=Fj (hr ⟨w,λ_=> .all,λ_=>none⟩ (λ_=> .r 0 []));subst this;simp only[execOp,ho,BY,ev,eu,z4r,fv,GN,GP]
 ·cases h
theorem B6(hE:ak P E){o:Oper}{d x i:Nat}(h:Ax E o d x i=true):isDst o d=true/\∀(a:Act) (w:World) (g n c:Nat) (j:Int),a.tmps.getD x zaj= .slice (some ⟨g,0,none⟩) n c->a.tmps.getD i zaj= .int .i64 j->0<=j->j<n->(execOp a.eval o).run P w= .ok (.value (.pointer (some ⟨g,j.toNat,none⟩))) w:=by
 unfold Ax at h;rw[nd] at h;refine⟨h.1,λa w g n c j hv hj h0 h1=> ?_⟩;have h:=h.2;split at h
 ·rename_i T y z ho;rw[nd,nd] at h;have:=yg h.1;subst this;have:=yg h.2.1;subst this;obtain⟨e,hT⟩:=S4 h.2.2;have hu:=(hE.ty T _ hT).dJ;have ev:a.eval (.tmp x)= .slice (some ⟨g,0,none⟩) n c:=hv;have ei:a.eval (.tmp i)= .int .i64 j:=hj;simp only[execOp,ho,BY,Instr.indexAt,ei,ev,asIntOf,GP,fv,run_underlying hu.1,Sem.run_ite,h0,h1,and_self,if_true,mF hE hu.2];simp [Ty.cells,jv]
 ·cases h
theorem VX(hE:ak P E){o:Oper}{d x:Nat}(h:LK E o d x=true):isDst o d=true/\∀(a:Act) (w:World) (g j:Nat) (y:Int),a.tmps.getD x zaj= .pointer (some ⟨g,j,none⟩)->w.cell? ⟨g,j,none⟩=some (.int .u8 y)->(execOp a.eval o).run P w= .ok (.value (.int .u8 y)) w:=by
 unfold LK at h;rw[nd] at h;refine⟨h.1,λa w g j y hv hc=> ?_⟩;have h:=h.2;split at h
 ·rename_i T z ho;rw[nd] at h;have:=yg h.1;subst this;have hT:=Xx h.2;have ev:a.eval (.tmp x)= .pointer (some ⟨g,j,none⟩):=hv;have hl:=Fl (P:=P) hE hT (X:=⟨w,λ_=> .all,λ_=>none⟩) (x:=y) (cs:=[.int .u8 y]) rfl (ad:=⟨g,j,none⟩) (w:=w) (λk v hk=>by
   cases k with
   |zero=>rw[jv];have hk:Value.int .u8 y=v:=by simpa using hk
          rw[<-hk];exact hc
   |succ k=>simp at hk)
  simp only[execOp,ho,BY,Instr.loadAt,ev,Instr.sureAddr,GP,fv,hl];rfl
 ·cases h
theorem apT(hE:ak P E){ops:Array Oper}{Q:Exit->Act->World->Prop}{o:Oper}{x y:Nat}(h:xe E o x y=true){k:Nat}{rest:List Nat}(hi:ops[k]? =some o){a:Act}{X:aw}{g j:Nat}{z:Int}{cur:Array Value}{T':TypeId}(hv:a.tmps.getD x zaj= .pointer (some ⟨g,j,none⟩))(hz:a.tmps.getD y zaj= .int .u8 z)(hg:X.w.heap[g]? =some (.cells cur T' (0,0)))(hj:j+1<=cur.size)
 (K:wpOps P ops Q rest (a.put none zaj) (X.row g (cur.toList.take j++ [Value.int .u8 z]++cur.toList.drop (j+1)).toArray).w):wpOps P ops Q (k::rest) a X.w:=by
 unfold xe at h;rw[nd] at h;have mi:o.dst=none/\o.guard=none:=by
  have h:=h.1;split at h
  ·exact⟨by assumption,by assumption⟩
  ·cases h
 have h:=h.2;rw[wpOps_cons];unfold wpOp;simp only[hi];have hw:za4 o (yielded ops a.tmps)=true:=by simp [za4,mi.2]
 rw[if_pos hw];refine .inl ?_;unfold zeZ;split at h
 ·rename_i T u v ho;rw[nd,nd] at h;have:=yg h.1;subst this;have:=yg h.2.1;subst this;have hT:=Xx h.2.2;have ev:a.eval (.tmp x)= .pointer (some ⟨g,j,none⟩):=hv;have ez:a.eval (.tmp y)= .int .u8 z:=hz;have bY:=NL (P:=P) hE hT (X:=X) (x:=z) (cs:=[.int .u8 z]) rfl (off:=j) (w:=X.w) (r:=g) (cur:=cur) (T':=T') hg hj;have iw:er (.int .u8) [.int .u8 z]= .int .u8 z:=rfl;rw[iw] at bY;have aZ:(execOp a.eval o).run P X.w= .ok .skip (X.row g (cur.toList.take j++ [Value.int .u8 z]++cur.toList.drop (j+1)).toArray).w:=by simp only[execOp,ho,BY,zdk,ev,Instr.sureAddr,GP,fv,ez,bY];rfl
  rw[aZ,zfh,mi.1];exact K
 ·cases h
theorem Uu:∀(n m:Nat) (sl:List (List SV)),(lp n m sl).length=sl.length
 |0,m,sl=>rfl
 |n+1,m,sl=>by rw[lp,Uu n (m+1),zb8]
def dead(s:State)(d:Nat):State:=s.au (some d) [.undef]
theorem Rel.dead(hr:Rel X s a)(d:Nat)(v:Value):Rel X (Ref.dead s d) (a.put (some d) v):=hr.put (λ_ _=>trivial) (λid t p hm=>by simp at hm)
theorem ajd(hE:ak P E){X0:aw}(hF:∀g pl n,X0.ow g≠ .row pl n)(hx:Ext X0 X)(hr:Rel X s a){q:Nat×Nat×Nat}{id:Nat}{ops:Array Oper}{s':State}(h:mB E q ops.toList s some=some s'){Q:Exit->Act->World->Prop}(hQ:∀Y a',Ext X0 Y->Rel Y s' a'->Q .normal a' Y.w):(zeH id ops false).wp P Q a X.w:=by
 obtain⟨o,x,m⟩:=q;unfold mB at h;simp only at h;cases eM:LS E o x m ops.toList with
 |false=>rw[eM] at h;cases h
 |true=>
 rw[eM,cond_true] at h;cases hb:(zaL (o+1) m&&(zaL (x+1) m&&(!(xz o x)&&zaL (m+13) s.sl.length))) with
 |false=>rw[hb] at h;cases h
 |true=>
 rw[hb,cond_true] at h;simp only[nd,Bool.not_eq_true',Nat.ble_eq] at hb;obtain⟨hom,hxm,hox,tL⟩:=hb;split at h
 case h_2=>cases h
 rename_i et xs own y ow2 jb RR;cases b7:hP own [] with
 |false=>rw[b7] at h;cases h
 |true=>
 rw[b7,cond_true] at h;cases wK:(mh o 0 (lp 13 m s.sl)&&s.bs.all Option.isNone) with
 |false=>rw[wK] at h;cases h
 |true=>
 rw[wK,cond_true] at h;rw[nd] at wK;obtain⟨h0,h1,h⟩:=yd h;cases h;generalize hj:IntKind.i64.wrap ((aa xs:Int)-1)=j at h0 h1;have hi:j.toNat<xs.length:=by omega
 obtain⟨g,c,cur,hR⟩:=apP hr jb b7 hi;have dd:m+13<=a.tmps.size:=by rw[<-hr.size];exact tL
 have hy:a.tmps.getD x zaj= .int .u8 y:=by have ja:=hr.slot x;rw[RR] at ja;exact Fj (show aC X (.c x 0) (.aq (.int .u8) y ow2) _ from ja)
 have hgx:xs[j.toNat]? =some (xs.getD j.toNat 0):=by rw[be,ks hi];rfl
 have Am:=hR.cell _ _ hgx;unfold LS at eM;split at eM
 case h_2=>cases eM
 rename_i o0 o1 o2 o3 o4 o5 o6 o7 o8 o9 o10 o11 o12 o13 iy;simp only[nd] at eM;obtain⟨k0,k1,k2,k3,k4,k5,k6,k7,k8,k9,k10,k11,k12,k13⟩:=eM;have cM:∀i,ops[i]? =([o0,o1,o2,o3,o4,o5,o6,o7,o8,o9,o10,o11,o12,o13]:List Oper)[i]? :=λi=>by rw[<-zad,iy]
 have cm:ops.size=14:=by rw[<-zb9,iy];rfl
 refine wp_region ?_;rw[cm,show zaJ 14=[0,1,2,3,4,5,6,7,8,9,10,11,12,13] from rfl];have vo:=hR.val;generalize x7:(Value.slice (some ⟨g,0,none⟩) xs.length c)=vs at vo;refine raw (cM 0) (yh (P:=P) k0).1 ((yh k0).2 a X.w) ?_;rw[vo];have e1:=λi=>z31 (i:=i) (v:=vs) (show m<a.tmps.size by omega);have r1:=hr.dead m vs;generalize RH:a.put (some m) vs=a1 at e1 r1;have z1:a1.tmps.size=a.tmps.size:=by rw[<-RH,ug]
 refine raw (cM 1) (yh (P:=P) k1).1 ((yh k1).2 a1 X.w) ?_;rw[e1,if_neg (by omega),vo];have e2:=λi=>z31 (a:=a1) (i:=i) (v:=vs) (show m+1<a1.tmps.size by omega);have r2:=r1.dead (m+1) vs;generalize hp2:a1.put (some (m+1)) vs=a2 at e2 r2;have z2:a2.tmps.size=a.tmps.size:=by rw[<-hp2,ug,z1]
 refine raw (cM 2) (zsr hE k2).1 ((zsr hE k2).2 a2 X.w _ _ _ (by rw[e2,if_pos rfl];exact x7.symm)) ?_;have e3:=λi=>z31 (a:=a2) (i:=i) (v:= .int .i64 (xs.length:Nat)) (show m+2<a2.tmps.size by omega);have r3:=r2.dead (m+2) (.int .i64 (xs.length:Nat));generalize hp3:a2.put (some (m+2)) (.int .i64 (xs.length:Nat))=a3 at e3 r3⊢;have z3:a3.tmps.size=a.tmps.size:=by rw[<-hp3,ug,z2]
 refine raw (cM 3) (zgh (P:=P) k3).1 ((zgh k3).2 a3 X.w _ (by rw[e3,if_pos rfl])) ?_;rw[hj];have e4:=λi=>z31 (a:=a3) (i:=i) (v:= .int .i64 j) (show m+3<a3.tmps.size by omega);have r4:=r3.dead (m+3) (.int .i64 j);generalize hp4:a3.put (some (m+3)) (.int .i64 j)=a4 at e4 r4⊢;have z4:a4.tmps.size=a.tmps.size:=by rw[<-hp4,ug,z3]
 have q4:∀i,i<m->a4.tmps.getD i zaj=a.tmps.getD i zaj:=λi hi=>by rw[e4,if_neg (by omega),e3,if_neg (by omega),e2,if_neg (by omega),e1,if_neg (by omega)]
 have qm:a4.tmps.getD m zaj=vs:=by rw[e4,if_neg (by omega),e3,if_neg (by omega),e2,if_neg (by omega),e1,if_pos rfl]
 refine raw (cM 4) (yh (P:=P) k4).1 ((yh k4).2 a4 X.w) ?_;rw[q4 o (by omega),vo];have e5:=λi=>z31 (a:=a4) (i:=i) (v:=vs) (show m+4<a4.tmps.size by omega);have r5:=r4.dead (m+4) vs;generalize hp5:a4.put (some (m+4)) vs=a5 at e5 r5⊢;have z5:a5.tmps.size=a.tmps.size:=by rw[<-hp5,ug,z4]
 refine raw (cM 5) (yh (P:=P) k5).1 ((yh k5).2 a5 X.w) ?_;rw[e5,if_neg (by omega),q4 o (by omega),vo];have e6:=λi=>z31 (a:=a5) (i:=i) (v:=vs) (show m+5<a5.tmps.size by omega);have r6:=r5.dead (m+5) vs;generalize hp6:a5.put (some (m+5)) vs=a6 at e6 r6⊢;have z6:a6.tmps.size=a.tmps.size:=by rw[<-hp6,ug,z5]
 refine raw (cM 6) (zsr hE k6).1 ((zsr hE k6).2 a6 X.w _ _ _ (by rw[e6,if_pos rfl];exact x7.symm)) ?_;have e7:=λi=>z31 (a:=a6) (i:=i) (v:= .int .i64 (xs.length:Nat)) (show m+6<a6.tmps.size by omega);have r7:=r6.dead (m+6) (.int .i64 (xs.length:Nat));generalize hp7:a6.put (some (m+6)) (.int .i64 (xs.length:Nat))=a7 at e7 r7⊢;have z7:a7.tmps.size=a.tmps.size:=by rw[<-hp7,ug,z6]
 refine raw (cM 7) (zgh (P:=P) k7).1 ((zgh k7).2 a7 X.w _ (by rw[e7,if_pos rfl])) ?_;rw[hj];have e8:=λi=>z31 (a:=a7) (i:=i) (v:= .int .i64 j) (show m+7<a7.tmps.size by omega);have r8:=r7.dead (m+7) (.int .i64 j);generalize hp8:a7.put (some (m+7)) (.int .i64 j)=a8 at e8 r8⊢;have z8:a8.tmps.size=a.tmps.size:=by rw[<-hp8,ug,z7]
 have q8:∀i,i<=m+3->a8.tmps.getD i zaj=a4.tmps.getD i zaj:=λi hi=>by rw[e8,if_neg (by omega),e7,if_neg (by omega),e6,if_neg (by omega),e5,if_neg (by omega)]
 refine raw (cM 8) (B6 hE k8).1 ((B6 hE k8).2 a8 X.w g xs.length c j (by rw[e8,if_neg (by omega),e7,if_neg (by omega),e6,if_neg (by omega),e5,if_pos rfl];exact x7.symm) (by rw[e8,if_pos rfl]) h0 h1) ?_;have e9:=λi=>z31 (a:=a8) (i:=i) (v:= .pointer (some ⟨g,j.toNat,none⟩)) (show m+8<a8.tmps.size by omega);have r9:=r8.dead (m+8) (.pointer (some ⟨g,j.toNat,none⟩));generalize hp9:a8.put (some (m+8)) (.pointer (some ⟨g,j.toNat,none⟩))=a9 at e9 r9⊢;have z9:a9.tmps.size=a.tmps.size:=by rw[<-hp9,ug,z8]
 refine raw (cM 9) (VX hE k9).1 ((VX hE k9).2 a9 X.w g j.toNat _ (by rw[e9,if_pos rfl]) Am) ?_;generalize hwx:xs.getD j.toNat 0=wx;have Nn:=λi=>z31 (a:=a9) (i:=i) (v:= .int .u8 wx) (show m+9<a9.tmps.size by omega);have j4:=r9.dead (m+9) (.int .u8 wx);generalize aau:a9.put (some (m+9)) (.int .u8 wx)=F7 at Nn j4⊢;have z10:F7.tmps.size=a.tmps.size:=by rw[<-aau,ug,z9]
 refine raw (cM 10) (yh (P:=P) k10).1 ((yh k10).2 F7 X.w) ?_;rw[Nn,if_neg (by omega),e9,if_neg (by omega),q8 x (by omega),q4 x (by omega),hy];have Np:=λi=>z31 (a:=F7) (i:=i) (v:= .int .u8 y) (show m+10<F7.tmps.size by omega);have jt:=j4.dead (m+10) (.int .u8 y);generalize aav:F7.put (some (m+10)) (.int .u8 y)=F8 at Np jt⊢;have z11:F8.tmps.size=a.tmps.size:=by rw[<-aav,ug,z10]
 refine raw (cM 11) (XS (P:=P) k11).1 ((XS k11).2 F8 X.w wx y (by rw[Np,if_neg (by omega),Nn,if_pos rfl]) (by rw[Np,if_pos rfl])) ?_;generalize hwz:IntKind.u8.wrap (wx+y)=wz;have e12:=λi=>z31 (a:=F8) (i:=i) (v:= .int .u8 wz) (show m+11<F8.tmps.size by omega);have lD:=jt.dead (m+11) (.int .u8 wz);generalize aaw:F8.put (some (m+11)) (.int .u8 wz)=a12 at e12 lD⊢;have z12:a12.tmps.size=a.tmps.size:=by rw[<-aaw,ug,z11]
 have q12:∀i,i<=m+3->a12.tmps.getD i zaj=a4.tmps.getD i zaj:=λi hi=>by rw[e12,if_neg (by omega),Np,if_neg (by omega),Nn,if_neg (by omega),e9,if_neg (by omega),q8 i hi]
 refine raw (cM 12) (B6 hE k12).1 ((B6 hE k12).2 a12 X.w g xs.length c j (by rw[q12 m (by omega),qm];exact x7.symm) (by rw[q12 (m+3) (by omega),e4,if_pos rfl]) h0 h1) ?_;have e13:=λi=>z31 (a:=a12) (i:=i) (v:= .pointer (some ⟨g,j.toNat,none⟩)) (show m+12<a12.tmps.size by omega);have ju:=lD.dead (m+12) (.pointer (some ⟨g,j.toNat,none⟩));generalize arB:a12.put (some (m+12)) (.pointer (some ⟨g,j.toNat,none⟩))=QJ at e13 ju⊢;have aaj:oY X QJ o et xs own g c cur:=⟨by rw[e13,if_neg (by omega),q12 o (by omega),q4 o (by omega),hR.val],hR.heap,hR.cell,hR.le,hR.most,hR.size,hR.ow,hR.own⟩
 refine apT hE k13 (cM 13) (by rw[e13,if_pos rfl]) (by rw[e13,if_neg (by omega),e12,if_pos rfl]) hR.heap (by rw[hR.size];have:=hR.le;omega) ?_;have aaB:Rel X ⟨lp 13 m s.sl,s.bs⟩ QJ:=ju;obtain⟨hX,bD⟩:=amQ hF hx aaB (by rw[Uu];omega) wK.1 wK.2 aaj hi wz;have Gn:=hQ _ QJ hX (by unfold Fe;rw[hj,hwx,hwz];exact bD)
 exact Gn
end Go.Ref

namespace Go.Ref
open Go
variable {P:Program} {E:Env} {X:aw} {s:State} {a:Act}
structure pD(X Y:aw)(g0:Nat):Prop where
 heap:∀b,b≠g0->Y.w.heap[b]? =X.w.heap[b]?
 ow:Y.ow=X.ow
 β:Y.β=X.β
theorem pD.aB{Y:aw}{g0:Nat}(h:pD X Y g0){ad:Addr}{v:Value}(bR:ad.block≠g0)(hs:X.aB ad v):Y.aB ad v:=by
 refine⟨hs.1,?_,?_⟩
 ·have:=hs.2.1;simp only[zaP] at this⊢;rw[h.heap _ bR];exact this
 ·rw[h.ow];exact hs.2.2
theorem Xs{own:List (List Nat)}{p:List Nat}(h:hP own p=true):p∈own:=by
 unfold hP at h;obtain⟨q,h1,h2⟩:=List.any_eq_true.1 h;have:q=p:=by simpa using h2
 rw[<-this];exact h1
def plS(pl:List Nat->Place):List Nat->Place
 |j::p=>pl ((j+1)::p)
 | []=>pl []
theorem amN{pl:List Nat->Place}{a b:Ty}{x:El (.pair a b)}{c1 c2:List Value}{own:List (List Nat)}(hr:bm X a x.1 c1)(h:bp X pl (.pair a b) x (c1++c2) own):bp X (λp=>pl (0::p)) a x.1 c1 (zml own [0]):=λp hp=>by
 unfold zml at hp;obtain⟨q,hq,rfl⟩:=zau.1 hp;obtain⟨hq,gP⟩:=zab.1 hq
 match q,gP with
 |0::q,_=>obtain⟨e,t',xs,v,g0,g1,g2,g3⟩:=h (0::q) hq;have g2:(c1++c2)[a.off q]? =some v:=g2;refine⟨e,t',xs,v,g0,g1,?_,g3⟩;show c1[a.off q]? =some v;rw[<-g2,zap];obtain⟨_,k2,_⟩:=zfa hr (show a.fe q from g0) (show El.get a q x.1=_ from g1);have k2:a.off q+1<=a.cells:=k2;have:=hr.len;omega
 | [],gP=>simp at gP
 |(j+1)::q,gP=>simp at gP
theorem amO{pl:List Nat->Place}{a b:Ty}{x:El (.pair a b)}{c1 c2:List Value}{own:List (List Nat)}(hl:c1.length=a.cells)(h:bp X pl (.pair a b) x (c1++c2) own):bp X (plS pl) b x.2 c2 (Ag own):=λp hp=>by
 unfold Ag at hp;obtain⟨q,hq,he⟩:=List.mem_filterMap.1 hp
 match q,he with
 |(j+1)::q,he=>cases he;obtain⟨e,t',xs,v,g0,g1,g2,g3⟩:=h ((j+1)::q) hq;refine⟨e,t',xs,v,g0,g1,?_,g3⟩;have g2:(c1++c2)[a.cells+b.off (j::q)]? =some v:=g2;rw[zaa (by omega)] at g2;rw[<-g2];congr 1;omega
 | [],he=>cases he
 |0::q,he=>cases he
theorem bp.Sm{Y:aw}{g0:Nat}(h:pD X Y g0){pl:List Nat->Place}(gB:∀p n,X.ow g0≠ .row (pl p) n){t:Ty}{x:El t}{cs:List Value}{own:List (List Nat)}(ho:bp X pl t x cs own):bp Y pl t x cs own:=λp hp=>by
 obtain⟨e,t',xs,v,k0,k1,k2,k3⟩:=ho p hp;refine⟨e,t',xs,v,k0,k1,k2,?_⟩;rcases k3 with ho|⟨g,cap,cur,h1,h2,h3,h4,h5,h6⟩
 ·exact .inl ho
 ·have bR:g≠g0:=λe=>gB p _ (e▸h6);exact .inr ⟨g,cap,cur,h1,(h.heap g bR).trans h2,h3,h4,h5,by rw[h.ow];exact h6⟩
theorem bm.cU{Y:aw}{g0:Nat}(h:pD X Y g0):∀{t:Ty} {x:El t} {cs:List Value} {own:List (List Nat)} {pl:List Nat->Place},(∀p n,X.ow g0≠ .row (pl p) n)->t.cU own=true->bm X t x cs->bp X pl t x cs own->bm Y t x cs
 | .bool,_,_,_,_,_,_,hr,_=>hr
 | .int _,_,_,_,_,_,_,hr,_=>hr
 | .str,_,_,_,_,_,_,hr,_=>hr
 | .unit,_,_,_,_,_,_,hr,_=>hr
 | .aY _ _ _,_,_,_,_,_,hs,_,_=>by cases hs
 | .arr n t,xs,cs,own,pl,_,hs,hr,_=>bm.flat (t:= .arr n t) (show t.flat=true from hs) hr
 | .pair a b,x,cs,own,pl,gB,hs,hr,ho=>by have hs:(a.cU (zml own [0])&&b.cU (Ag own))=true:=hs;rw[nd] at hs;obtain⟨c1,c2,h1,h2,h3⟩:=hr;subst h1;exact⟨c1,c2,rfl,bm.cU h (pl:=λp=>pl (0::p)) (λp n=>gB _ n) hs.1 h2 (amN h2 ho),bm.cU h (pl:=plS pl) (λp n=>by cases p<;>exact gB _ n) hs.2 h3 (amO h2.len ho)⟩
 | .sl e t,xs,cs,own,pl,gB,hs,hr,ho=>by
   have hs:(t.flat&&hP own [])=true:=hs;rw[nd] at hs;obtain⟨A,c,eU,hle,fD⟩:=hr;subst eU;refine⟨A,c,rfl,hle,λj x hj=> ?_⟩;obtain⟨ad,fa,e1,e2,e3,e4⟩:=fD j x hj;subst e1;refine⟨ad,fa,rfl,e2,e3.flat hs.1,λi v hi=>h.aB ?_ (e4 i v hi)⟩;obtain⟨e1,t1,xs1,v1,_,hg,hc,cq⟩:=ho [] (Xs hs.2);simp only[El.get,AI] at hg;cases hg;have ES:v1= .slice (some ad) xs.length c:=by have:([Value.slice (some ad) xs.length c]:List Value)[0]? =some v1:=hc;simpa using this.symm
   subst ES;rcases cq with⟨h0,_⟩|⟨g,cap,cur,h1,h2,h3,h4,h5,h6⟩
   ·cases h0
   ·injection h1 with k1 k2 k3
    cases k1;rw[jv];intro e;have e:g=g0:=e;exact gB [] _ (e▸h6)
theorem aC.cU{Y:aw}{g0:Nat}(h:pD X Y g0){pl:List Nat->Place}(gB:∀p n,X.ow g0≠ .row (pl p) n){bs:List (Option bH)}{sv:SV}{v:Value}(hs:sv.cU bs=true)(hr:aC X pl sv v):aC Y pl sv v:=by
 cases sv with
 |aq t x own=>obtain⟨cs,h1,h2,h3⟩:=hr;exact⟨cs,h1.cU h gB hs h3,h2,h3.Sm h gB⟩
 |undef=>trivial
 |skip=>exact hr
 |cR=>exact hr
 |ey=>exact hr
 |over=>exact hr
 |ptr id t p=>obtain⟨r,h1,h2⟩:=hr;exact⟨r,by rw[h.β];exact h1,h2⟩
 |_=>cases hs
theorem afq{bs:List (Option bH)}{id:Nat}{B:bH}(h:(bs.map Ch)[id]? =some (some B)):bs[id]? =some (some B)/\B.cU=true:=by
 rw[IN] at h;obtain⟨b0,h0,h1⟩:=nl.1 h;cases b0 with
 |none=>cases h1
 |some B0=>
  unfold Ch at h1;simp only at h1;cases hb:B0.cU with
  |false=>rw[hb] at h1;cases h1
  |true=>rw[hb] at h1;cases h1;exact⟨h0,hb⟩
structure aad(X:aw)(o:Nat)(e:TypeId)(k n:Nat)(v:Value)(g c:Nat)(cur:Array Value):Prop where
 val:v= .slice (some ⟨g,0,none⟩) n c
 heap:X.w.heap[g]? =some (.cells cur e (0,0))
 le:n<=c
 size:cur.size=c*k
 ow:X.ow g= .row (.c o 0 []) (n*k)
theorem Sf{o:Nat}{e:TypeId}{t:Ty}{xs:List (El t)}{own:List (List Nat)}(hr:Rel X s a)(hs:s.slot o=[.aq (.sl e t) xs own])(b7:hP own []=true){i:Nat}(hi:i<xs.length):∃g c cur,aad X o e t.cells xs.length (a.tmps.getD o zaj) g c cur:=by
 have ja:=hr.slot o;rw[hs] at ja;obtain⟨cs,aO,hv,hO⟩:=(show aC X (.c o 0) (.aq (.sl e t) xs own) (a.tmps.getD o zaj) from ja)
 obtain⟨e1,t1,xs1,v1,_,hg,hc,cq⟩:=hO [] (Xs b7);simp only[El.get,AI] at hg;cases hg;obtain⟨A,c,eU,hle,fD⟩:=aO;subst eU;have hv:a.tmps.getD o zaj= .slice A xs.length c:=hv;have ES:v1= .slice A xs.length c:=by have:([Value.slice A xs.length c]:List Value)[0]? =some v1:=hc;simpa using this.symm
 subst ES;rcases cq with⟨_,h0⟩|⟨g,cap,cur,h1,h2,h3,h4,h5,h6⟩
 ·have h0:aa xs=0:=h0;omega
 injection h1 with k1 k2 k3
 subst k1 k3;exact⟨g,c,cur,hv,h2,hle,h5,h6⟩
theorem Wg{g:Nat}{new:Array Value}:pD X (X.row g new) g:=⟨λb hb=>setRow_other X.w g b _ hb,rfl,rfl⟩
theorem amT{X0:aw}(hF:∀g pl n,X0.ow g≠ .row pl n)(hx:Ext X0 X){g m:Nat}{pl:Place}{new:Array Value}(how:X.ow g= .row pl m):Ext X0 (X.row g new):=by
 have dw:∀b,b≠g->(X.row g new).w.heap[b]? =X.w.heap[b]? :=λb hb=>setRow_other X.w g b _ hb;have oP:∀ad v,X0.aB ad v->ad.block≠g:=λad v eN e0=>by
  have ap:=aw.jn eN;have hu:=eN.2.2;cases hw:X0.ow ad.block with
  |all=>have:=(hx.still ad.block ap (by rw[hw];trivial)).1;rw[e0,how] at this;rw[<-e0,hw] at this;cases this
  |ro n=>have:=(hx.still ad.block ap (by rw[hw];trivial)).1;rw[e0,how] at this;rw[<-e0,hw] at this;cases this
  |box id=>rw[hw] at hu;exact hu
  |row pl n=>exact hF _ _ _ hw
 refine⟨λad v eN=>Wg.aB (oP ad v eN) (hx.aB ad v eN),?_,hx.os,hx.tape,hx.output,hx.β0,λb hb bY=> ?_⟩
 ·have:=hx.size;simpa [aw.row] using this
 ·have h7:=hx.still b hb bY;have bR:b≠g:=λe0=>by have h8:=h7.1;rw[e0,how] at h8;rw[e0,<-h8] at bY;exact bY
  exact⟨h7.1,(dw b bR).trans h7.2⟩
theorem ai4(hr:Rel X s a){x g m:Nat}{new:Array Value}(how:X.ow g= .row (.c x 0 []) m):Rel (X.row g new) (s.cU x) a:=by
 have hB:pD X (X.row g new) g:=Wg;refine⟨by simpa [State.cU] using hr.size,by simpa [State.cU] using hr.ia,λj l v hl hv=> ?_,λid B hb=> ?_,λj l id t p hl hm=> ?_,hr.defers,λj l id c b k hl hm=> ?_⟩
 ·simp only[State.cU,IN] at hl;obtain⟨l0,h0,rfl⟩:=nl.1 hl;unfold hold;cases c8:l0.all (SV.cU s.bs) with
  |false=>trivial
  |true=>
   rw[cond_true];rw[vc] at h0;by_cases hxj:x=j
   ·subst hxj;rw[if_pos rfl] at h0;split at h0
    ·cases h0;trivial
    ·cases h0
   ·rw[if_neg hxj] at h0;exact(hr.bZ j l0 v h0 hv).jD λk sv u hk hu=>hu.cU hB (λp n e=>by rw[how] at e;injection e with e _;injection e with e _;exact hxj e) (OF.1 c8 sv (IH hk))
 ·obtain⟨h1,h2⟩:=afq hb;obtain⟨r,k1,k2⟩:=hr.boxes id B h1;unfold bH.cU at h2;rw[nd] at h2;have eL:B.t.bO=false:=by simpa using h2.1
  obtain⟨cs,T,aF,aO,pM,b7⟩:=k2.cells eL;have bR:r≠g:=λe=>by rw[e,how] at pM;cases pM
  have gB:∀p n,X.ow g≠ .row (.b id p) n:=λp n e=>by rw[how] at e;injection e with e _;cases e
  exact⟨r,k1,by rw[hB.ow];exact pM,dN.of eL ((hB.heap r bR).trans aF) (aO.cU hB gB h2.2 b7) (b7.Sm hB gB)⟩
 ·simp only[State.cU,IN] at hl;obtain⟨l0,h0,rfl⟩:=nl.1 hl;unfold hold at hm;cases c8:l0.all (SV.cU s.bs) with
  |false=>rw[c8] at hm;simp at hm
  |true=>
   rw[c8,cond_true] at hm;have h1:=OF.1 c8 _ hm;unfold SV.cU at h1;simp only at h1;split at h1
   case h_2=>cases h1
   rename_i B hB;have hb:=sN (s:=s) hB;exact⟨B,by simp only[State.cU,IN,hb,zbA,Ch,h1,cond_true]⟩
 ·exfalso;simp only[State.cU,IN] at hl;obtain⟨l0,h0,rfl⟩:=nl.1 hl;unfold hold at hm;cases c8:l0.all (SV.cU s.bs) with
  |false=>rw[c8] at hm;simp at hm
  |true=>rw[c8,cond_true] at hm;have:=OF.1 c8 _ hm;cases this
theorem S6{α:Type}:∀{l r:List α} {x y:α},zsq l=some (r,x,y)->l=r++ [x,y]
 | [],_,_,_,h=>by cases h
 | [_],_,_,_,h=>by cases h
 | [a,b],_,_,_,h=>by cases h;rfl
 |a::b::c::r,_,_,_,h=>by
  simp only[zsq] at h;split at h
  case h_2=>cases h
  rename_i l x y hl;cases h;have:=S6 (l:=b::c::r) hl;rw[this];rfl
theorem zwm(hE:ak P E){C:ai}(hC:C.Nat)(hf:∀f,dh P C f){ops:Array Oper}{s':State}{Q:Exit->Act->World->Prop}{rest:List Nat}:∀(l:List Nat) (X:aw) (s:State) (a:Act),Rel X s a->(∀i∈l,i<ops.size)->
 steps E (C State) ops.toList (l.map λi=>ops.getD i default) s some=some s'->(∀Y a',Ext X Y->Rel Y s' a'->wpOps P ops Q rest a' Y.w)->wpOps P ops Q (l++rest) a X.w
 | [],X,s,a,hr,_,h,hQ=>by cases h;exact hQ X a (Ext.refl X) hr
 |i::r,X,s,a,hr,hl,h,hQ=>by
  simp only[zaq,steps] at h;obtain⟨s1,h1,h2⟩:=kE (zwl hC (F:=λs=>steps E (C State) ops.toList (r.map λi=>ops.getD i default) s some) (G:=some) (K:=λs=>steps E (C State) ops.toList (r.map λi=>ops.getD i default) s some) (λ_=>rfl)) h;have hi:ops[i]? =some (ops.getD i default):=by have:=hl i (by simp);simp [this]
  rw[List.cons_append,wpOps_cons];refine zsu hE hr hC hf hi h1 λY a' bc bD=> ?_;exact zwm hE hC hf r Y s1 a' bD (λj hj=>hl j (Cs _ hj)) h2 λZ a2 cr dj=>hQ Z a2 (bc.trans cr) dj
theorem amP(hE:ak P E){X0:aw}(hF:∀g pl n,X0.ow g≠ .row pl n)(hx:Ext X0 X)(hr:Rel X s a){ops:Array Oper}{k l:Nat}{oA oS:Oper}(hA:ops[k]? =some oA)(hS:ops[l]? =some oS){s':State}(h:jZ E oA oS s some=some s'){Q:Exit->Act->World->Prop}(hQ:∀Y a',Ext X0 Y->Rel Y s' a'->Q .normal a' Y.w):wpOps P ops Q [k,l] a X.w:=by
 unfold jZ at h;split at h
 case h_2=>cases h
 rename_i T x i T' d vo hoA hoS;cases eM:(isDst oA d&&(!(xz x d)&&mr oS)) with
 |false=>rw[eM] at h;cases h
 |true=>
 rw[eM,cond_true] at h;rw[nd,nd] at eM;obtain⟨hd,hxd,mi⟩:=eM;have mi:oS.dst=none/\oS.guard=none:=by
  unfold mr at mi;split at mi
  ·exact⟨by assumption,by assumption⟩
  ·cases mi
 have hxd:x≠d:=λe=>by rw[e] at hxd;simp at hxd
 unfold xi at h;split at h
 case h_2=>cases h
 rename_i e t xs own RR;cases hb:hP own [] with
 |false=>rw[hb] at h;cases h
 |true=>
 rw[hb,cond_true] at h;split at h
 case h_2=>cases h
 rename_i u w hT xY;cases hu:(u.cB (.sl e t)&&(w.cB t&&zaL (d+1) s.sl.length)) with
 |false=>rw[hu] at h;cases h
 |true=>
 rw[hu,cond_true] at h;rw[nd,nd] at hu;have:=Ty.aK hu.1;subst this;have:=Ty.aK hu.2.1;subst this;have hds:d<a.tmps.size:=by rw[<-hr.size];exact zaK hu.2.2
 obtain⟨n,kk,h,hn⟩:=zwc h;obtain⟨y,h,hy⟩:=hN h;obtain⟨h0,h1,h⟩:=yd h;cases h;have hi:n.toNat<xs.length:=by omega
 obtain⟨g,c,cur,hR⟩:=Sf hr RR hb hi;have dD:=hn X _ _ (hr.aI i);have hU:=hE.ty T _ hT;have ev:a.eval (.tmp x)= .slice (some ⟨g,0,none⟩) xs.length c:=hR.val;have wZ:(execOp a.eval oA).run P X.w= .ok (.value (.pointer (some ⟨g,n.toNat*w.cells,none⟩))) X.w:=by have ap:n<(xs.length:Int):=h1;simp only[execOp,hoA,BY,Instr.indexAt,dD,ev,asIntOf,GP,fv,run_underlying hU.dJ.1,Sem.run_ite,h0,ap,and_self,if_true,mF hE hU.dJ.2];simp [jv]
 refine raw hA hd wZ ?_;have dX:Rel X (s.au (some d) [.undef]) (a.put (some d) (.pointer (some ⟨g,n.toNat*w.cells,none⟩))):=hr.put (λ_ _=>trivial) (λid t p hm=>by simp at hm);have evd:(a.put (some d) (.pointer (some ⟨g,n.toNat*w.cells,none⟩))).eval (.tmp d)= .pointer (some ⟨g,n.toNat*w.cells,none⟩):=by show(a.put (some d) _).tmps.getD d zaj=_;rw[z31 hds,if_pos rfl]
 generalize a.put (some d) (.pointer (some ⟨g,n.toNat*w.cells,none⟩))=a1 at dX evd⊢;obtain⟨cs,my,evy⟩:=hy X _ _ (dX.aI vo);have hle:(n.toNat+1)*w.cells<=c*w.cells:=zai _ (by have:=hR.le;omega);rw[zaz,za5] at hle;have bY:=NL (P:=P) hE xY my (r:=g) (off:=n.toNat*w.cells) (w:=X.w) hR.heap (by rw[hR.size];exact hle);rw[wpOps_cons];unfold wpOp;simp only[hS];have hw:za4 oS (yielded ops a1.tmps)=true:=by simp [za4,mi.2]
 rw[if_pos hw];refine .inl ?_;unfold zeZ;generalize ix:(cur.toList.take (n.toNat*w.cells)++cs++cur.toList.drop (n.toNat*w.cells+cs.length)).toArray=new at bY;have aZ:(execOp a1.eval oS).run P X.w= .ok .skip (X.row g new).w:=by simp only[execOp,hoS,BY,zdk,evd,Instr.sureAddr,GP,fv,evy,bY];rfl
 rw[aZ,zfh,mi.1];exact hQ _ a1 (amT hF hx hR.ow) (ai4 dX hR.ow)
theorem aiM(hE:ak P E){C:ai}(hC:C.Nat)(hf:∀f,dh P C f){X0:aw}(hF:∀g pl n,X0.ow g≠ .row pl n)(hx:Ext X0 X)(hr:Rel X s a){id:Nat}{ops:Array Oper}{s':State}(h:mw E (C State) ops.toList s some=some s'){Q:Exit->Act->World->Prop}(hQ:∀Y a',Ext X0 Y->Rel Y s' a'->Q .normal a' Y.w):(zeH id ops false).wp P Q a X.w:=by
 unfold mw at h;split at h
 case h_2=>cases h
 rename_i l oA oS hl;obtain⟨s1,h1,h2⟩:=kE (L8 hC (F:=λs=>jZ E oA oS s some) (G:=some) (K:=λs=>jZ E oA oS s some) (λ_=>rfl) l s) h;have iy:=S6 hl;have cm:ops.size=l.length+2:=by rw[<-zb9,iy];simp
 refine wp_region ?_;have lj:zaJ ops.size=zaJ l.length++ [l.length,l.length+1]:=by rw[cm,zct,zct,MM];rfl
 rw[lj];have hA:ops[l.length]? =some oA:=by rw[<-zad,iy,zaa (zag _),Nat.sub_self];rfl
 have hS:ops[l.length+1]? =some oS:=by rw[<-zad,iy,zaa (by omega),zaS];rfl
 have lR:(zaJ l.length).map (λi=>ops.getD i default)=l:=by
  apply zaF;intro i;rw[IN];by_cases hi:i<l.length
  ·have h3:ops[i]? =l[i]? :=by rw[<-zad,iy,zap hi]
   have h4:i<ops.size:=by omega
   rw[zeI hi,<-h3];simp [h4]
  ·rw[IT (by simpa using hi),IT (by omega)];rfl
 refine zwm hE hC hf (zaJ l.length) X s a hr (λi hi=>by have:=zao.1 hi;omega) (by rw[lR];exact h1) λY a' bc bD=> ?_;exact amP hE hF (hx.trans bc) bD hA hS h2 hQ
end Go.Ref

namespace Go.Ref
open Go
variable {P:Program} {E:Env} {X:aw} {s:State} {a:Act}
theorem acK{ops:Array Oper}{Q:Exit->Act->World->Prop}{i d:Nat}{rest:List Nat}{a:Act}{w w':World}{o:Oper}{v:Value}(hi:ops[i]? =some o)(hd:isDst o d=true)(aZ:(execOp a.eval o).run P w= .ok (.value v) w')(K:wpOps P ops Q rest (a.put (some d) v) w'):wpOps P ops Q (i::rest) a w:=by
 have mi:o.dst=some d/\o.guard=none:=by
  unfold isDst at hd;split at hd
  ·rename_i d' h1 h2;exact⟨by rw[h1,DD hd],h2⟩
  ·cases hd
 rw[wpOps_cons];unfold wpOp;simp only[hi];have hw:za4 o (yielded ops a.tmps)=true:=by simp [za4,mi.2]
 rw[if_pos hw];refine .inl ?_;unfold zeZ;rw[aZ,zeF,mi.1];exact K
theorem zm3{α:Type}:∀{l r:List α} {x y z:α},zc1 l=some (r,x,y,z)->l=r++ [x,y,z]
 | [],_,_,_,_,h=>by cases h
 | [_],_,_,_,_,h=>by cases h
 | [_,_],_,_,_,_,h=>by cases h
 | [a,b,c],_,_,_,_,h=>by cases h;rfl
 |a::b::c::d::r,_,_,_,_,h=>by
  simp only[zc1] at h;split at h
  case h_2=>cases h
  rename_i l x y z hl;cases h;have:=zm3 (l:=b::c::d::r) hl;rw[this];rfl
theorem Rel.kill(hr:Rel X s a)(d:Nat):Rel X (s.au (some d) [.undef]) a:=by
 have eP:∀(i:Nat) (l:List SV),(s.au (some d) [.undef]).sl[i]? =some l->l=[.undef]\/s.sl[i]? =some l:=λi l hi=>by
  simp only[State.au,vc] at hi;split at hi
  ·split at hi
   ·cases hi;exact .inl rfl
   ·cases hi
  ·exact .inr hi
 refine⟨by simpa [State.au] using hr.size,by simpa [State.au] using hr.ia,λi l v hi hv=> ?_,hr.boxes,λi l id t p hi hm=> ?_,hr.defers,hr.bF.less (λi l id c b j hi hm=> ?_) (λid c b x own _ hb ho=>⟨x,own,hb,ho⟩)⟩
 ·rcases eP i l hi with rfl|hi
  ·trivial
  ·exact hr.bZ i l v hi hv
 ·rcases eP i l hi with rfl|hi
  ·simp at hm
  ·exact hr.live i l id t p hi hm
 ·rcases eP i l hi with rfl|hi
  ·simp at hm
  ·exact⟨l,hi,hm,λh=>h⟩
theorem aaM{P:Program}{fs:Array Field}(h:∀f∈fs.toList,∃i,P.info? f.type=some i):∃places,fs.toList.mapM (λ(f:Field)=>(P.info? f.type).map λi=>(f.offset,i.size))=some places/\∀(j:Nat) (f:Field) i,fs.toList[j]? =some f->P.info? f.type=some i->places[j]? =some (f.offset,i.size):=by
 generalize fs.toList=l at h
 induction l with
 |nil=>exact⟨[],rfl,λj f i hj=>by simp at hj⟩
 |cons f r ih=>
  obtain⟨i,hi⟩:=h f (by simp);obtain⟨places,h1,h2⟩:=ih λf hf=>h f (Cs _ hf);refine⟨(f.offset,i.size)::places,by simp [List.mapM_cons,hi,h1],λj g k hj hg=> ?_⟩;cases j with
  |zero=>simp only[zaB,AI] at hj;subst hj;rw[hi] at hg;cases hg;rfl
  |succ j=>exact h2 j g k (by simpa using hj) hg
theorem ahU(hE:ak P E){T:TypeId}{ta tb:Ty}(hT:E.gr T=some (ta,tb)){y:El ta}{cs:List Value}(hr:bm X ta y cs)(w:World):(Instr.build T #[(0,er ta cs)]).run P w= .ok (.agg (cs++ [Value.pointer none,Value.pointer none,Value.int .i64 0]).toArray) w:=by obtain⟨fs,f0,hu,hf0,At,ht0,c8⟩:=hE.g3 T ta tb hT;obtain⟨i,hi,hz⟩:=hE.gz T ta tb hT;obtain⟨places,RH,hp2⟩:=aaM (P:=P) (fs:=fs) c8;obtain⟨i0,Gv,fF,_⟩:=(hE.ty _ _ ht0).info;have gB:places[0]? =some (f0.offset,i0.size):=hp2 0 f0 i0 (by rw[zad];exact hf0) Gv;have hmc:=yf hr;have fM:=hr.len;have RX:=xD ta;refine run_build w T _ _ ?_;unfold Program.built;simp only[hi,hu,hz,RH];have RW:(Value.agg (zr ta++ [Value.pointer none,Value.pointer none,Value.int .i64 0]).toArray).cells=(zr ta++ [Value.pointer none,Value.pointer none,Value.int .i64 0]).toArray:=rfl;simp only[RW,Instr.fill,zei,gB,At,fF,hmc];rw[if_neg (by simp;omega)];have mj:=zw8 0 cs (zr ta++ [Value.pointer none,Value.pointer none,Value.int .i64 0]).toArray (by simp;omega);congr 1;apply zdG.1;rw[mj];simp only[List.take_zero,List.nil_append,zat];rw[fM,<-RX,List.drop_left]
theorem apK(hE:ak P E){X0:aw}(hx:Ext X0 X)(hr:Rel X s a){ops:Array Oper}{k:Nat}{oB oX oA:Oper}(hB:ops[k]? =some oB)(hX:ops[k+1]? =some oX)(hA:ops[k+2]? =some oA){s':State}(h:tV E oB oX oA s some=some s'){Q:Exit->Act->World->Prop}(hQ:∀Y a',Ext X0 Y->Rel Y s' a'->Q .normal a' Y.w):wpOps P ops Q [k,k+1,k+2] a X.w:=by
 unfold tV at h;split at h
 case h_2=>cases h
 rename_i T parts T' e1 e2 hoB hoX hoA;split at h
 case h_2=>cases h
 rename_i d1 d2 d3 Gl uC hd3;cases eM:(xz T T'&&(xz d1 e1&&(xz d2 e2&&(isDst oB d1&&(isDst oX d2&&(isDst oA d3&&(zaL (d1+1) s.sl.length&&zaL (d2+1) s.sl.length))))))) with
 |false=>rw[eM] at h;cases h
 |true=>
 rw[eM,cond_true] at h;simp only[nd] at eM;obtain⟨hTT,An,Ao,hB1,hX1,hA1,GK,EQ⟩:=eM;have hTT:=DD hTT;have An:=DD An;have Ao:=DD Ao;subst hTT An Ao;split at h
 case h_2=>cases h
 rename_i x ta tb pO Gs;obtain⟨y,h,hy⟩:=hN h;split at h
 case h_2=>cases h
 rename_i jO;cases h;have pO:parts= #[(0,x)]:=by rw[<-zaC (xs:=parts),pO]
 subst pO;obtain⟨cs,my,evx⟩:=hy X _ _ (hr.aI x);have aaE:d1<a.tmps.size:=by rw[<-hr.size];exact zaK GK
 have aaF:d2<a.tmps.size:=by rw[<-hr.size];exact zaK EQ
 have RN:(execOp a.eval oB).run P X.w= .ok (.value (.agg (cs++ [Value.pointer none,Value.pointer none,Value.int .i64 0]).toArray)) X.w:=by
  have:=ahU (X:=X) hE Gs my X.w;simp only[execOp,hoB,BY];have e:(#[((0:Nat),x)].map λ(i,x)=>(i,a.eval x))= #[(0,er ta cs)]:=by simp [evx]
  rw[e,this];rfl
 refine raw hB hB1 RN ?_;have dX:Rel X (s.au (some d1) [.undef]) (a.put (some d1) (.agg (cs++ [Value.pointer none,Value.pointer none,Value.int .i64 0]).toArray)):=hr.put (λ_ _=>trivial) (λid t p hm=>by simp at hm);have ev1:(a.put (some d1) (.agg (cs++ [Value.pointer none,Value.pointer none,Value.int .i64 0]).toArray)).eval (.tmp d1)= .agg (cs++ [Value.pointer none,Value.pointer none,Value.int .i64 0]).toArray:=by show(a.put (some d1) _).tmps.getD d1 zaj=_;rw[z31 aaE,if_pos rfl]
 have NC:(a.put (some d1) (.agg (cs++ [Value.pointer none,Value.pointer none,Value.int .i64 0]).toArray)).tmps.size=a.tmps.size:=ug;generalize a.put (some d1) (.agg (cs++ [Value.pointer none,Value.pointer none,Value.int .i64 0]).toArray)=a1 at dX ev1 NC⊢;let β:Nat->Option Nat:=λid=>if id=d2+1 then some X.w.heap.size else X.β id;have QY:(s.au (some d1) [.undef]).bs[d2+1]? =some none:=jO;have ap:d2+1<s.bs.length:=(AS.1 jO).1;have hk:fq (s.au (some d1) [.undef]) X (X.new (cs++ [Value.pointer none,Value.pointer none,Value.int .i64 0]).toArray T (.box (d2+1)) β):=Zr X _ _ _ _ _ (by show(if _ then _ else _)=_;rw[if_neg (by omega)]) (λid B hB=>by show(if id=d2+1 then _ else _)=_;rw[if_neg (λe=>by rw[e,QY] at hB;cases hB)])
 obtain⟨n1,n2⟩:=z93 X (cs++ [Value.pointer none,Value.pointer none,Value.int .i64 0]).toArray T (.box (d2+1)) β;have RP:(execOp a1.eval oX).run P X.w= .ok (.value (.pointer (some ⟨X.w.heap.size,0,none⟩))) (X.new (cs++ [Value.pointer none,Value.pointer none,Value.int .i64 0]).toArray T (.box (d2+1)) β).w:=by simp only[execOp,hoX,BY,Instr.box,ev1,Za,fv,GP];rfl
 refine acK hX hX1 RP ?_;have bS:bK (X.new (cs++ [Value.pointer none,Value.pointer none,Value.int .i64 0]).toArray T (.box (d2+1)) β) (d2+1) X.w.heap.size ⟨.aY .cX ta tb,(y,(none,none),(0:Int)),[]::lX⟩:=
  ⟨n2,⟨_,n1⟩,λ_=>⟨cs,.pointer none,.pointer none,T,n1,my.aj (λ_ _=>hk.aB),rfl,rfl⟩⟩
 have hβd:β (d2+1)=some X.w.heap.size:=by show(if d2+1=d2+1 then _ else _)=_;rw[if_pos rfl]
 have fc:=((dX.dy hk).fQ (d:=d2+1) ap QY hβd bS).dead d2 (.pointer (some ⟨X.w.heap.size,0,none⟩));have ev2:(a1.put (some d2) (.pointer (some ⟨X.w.heap.size,0,none⟩))).eval (.tmp d2)= .pointer (some ⟨X.w.heap.size,0,none⟩):=by show(a1.put (some d2) _).tmps.getD d2 zaj=_;rw[z31 (show d2<a1.tmps.size by rw[NC];exact aaF),if_pos rfl]
 generalize a1.put (some d2) (.pointer (some ⟨X.w.heap.size,0,none⟩))=a2 at fc ev2⊢;have wZ:(execOp a2.eval oA).run P (X.new (cs++ [Value.pointer none,Value.pointer none,Value.int .i64 0]).toArray T (.box (d2+1)) β).w= .ok (.value (.pointer (some ⟨X.w.heap.size,0,none⟩))) (X.new (cs++ [Value.pointer none,Value.pointer none,Value.int .i64 0]).toArray T (.box (d2+1)) β).w:=by simp only[execOp,hoA,BY,ev2,GP,fv]
 refine raw hA hA1 wZ ?_;refine hQ (X.new _ T (.box (d2+1)) β) _ (hx.trans hk.ext) (fc.put (λd' e=> ?_) λid t p hm=> ?_)
 ·exact⟨X.w.heap.size,hβd,rfl,trivial⟩
 ·have:id=d2+1:=by have:=hm;simp at this;exact this.1
  subst this;exact⟨⟨.aY .cX ta tb,(y,(none,none),(0:Int)),[]::lX⟩,by simp [State.aE,State.au,Ref.dead,vc,ap]⟩
theorem amK(hE:ak P E){C:ai}(hC:C.Nat)(hf:∀f,dh P C f){X0:aw}(hx:Ext X0 X)(hr:Rel X s a){id:Nat}{ops:Array Oper}{s':State}(h:NE E (C State) ops.toList s some=some s'){Q:Exit->Act->World->Prop}(hQ:∀Y a',Ext X0 Y->Rel Y s' a'->Q .normal a' Y.w):(zeH id ops false).wp P Q a X.w:=by
 unfold NE at h;split at h
 case h_2=>cases h
 rename_i l oB oX oA hl;obtain⟨s1,h1,h2⟩:=kE (L8 hC (F:=λs=>tV E oB oX oA s some) (G:=some) (K:=λs=>tV E oB oX oA s some) (λ_=>rfl) l s) h;have iy:=zm3 hl;have cm:ops.size=l.length+3:=by rw[<-zb9,iy];simp
 refine wp_region ?_;have lj:zaJ ops.size=zaJ l.length++ [l.length,l.length+1,l.length+2]:=by rw[cm,zct,zct,zct,MM,MM];rfl
 rw[lj];have cM:∀j,ops[l.length+j]? =[oB,oX,oA][j]? :=λj=>by rw[<-zad,iy,zaa (by omega),zaS]
 have lR:(zaJ l.length).map (λi=>ops.getD i default)=l:=by
  apply zaF;intro i;rw[IN];by_cases hi:i<l.length
  ·have h3:ops[i]? =l[i]? :=by rw[<-zad,iy,zap hi]
   have h4:i<ops.size:=by omega
   rw[zeI hi,<-h3];simp [h4]
  ·rw[IT (by simpa using hi),IT (by omega)];rfl
 refine zwm hE hC hf (zaJ l.length) X s a hr (λi hi=>by have:=zao.1 hi;omega) (by rw[lR];exact h1) λY a' bc bD=> ?_;exact apK hE (hx.trans bc) bD (cM 0) (cM 1) (cM 2) h2 hQ
theorem Vu{Y:aw}{id:Nat}{pl:Nat->List Nat->Place}{l:List SV}{v:Value}(hr:cW Y pl l v):cW Y pl (mU id l) v:=by
 have key:∀(sv:SV) (q:List Nat->Place) (w:Value),aC Y q sv w->aC Y q (match sv with
  | .ptr j _ _=>bif xz j id then .undef else sv
  |v=>v) w:=by
  intro sv q w h;cases sv with
  |ptr j t p=>
   simp only;cases xz j id with
   |true=>trivial
   |false=>exact h
  |_=>exact h
 match l,hr with
 | [sv],hr=>exact key sv _ _ hr
 | [],hr=>exact hr
 |x::y::r,⟨vs,h1,h2,h3⟩=>refine⟨vs,h1,by simpa [mU] using h2,λj s u hs hu=> ?_⟩;have hs:(mU id (x::y::r))[j]? =some s:=hs;unfold mU at hs;rw[IN] at hs;obtain⟨s0,fF,rfl⟩:=nl.1 hs;exact key s0 _ _ (h3 j s0 u fF hu)
theorem Xl{id:Nat}{l:List SV}{j:Nat}{t:Ty}{p:List Nat}(h:SV.ptr j t p∈mU id l):SV.ptr j t p∈l/\j≠id:=by
 unfold mU at h;obtain⟨s0,fF,he⟩:=zau.1 h;cases s0 with
 |ptr j' t' p'=>
  simp only at he;cases hb:xz j' id with
  |true=>rw[hb] at he;cases he
  |false=>rw[hb] at he;cases he;exact⟨fF,λe=>zd4 hb e⟩
 |_=>simp only at he;cases he
theorem J9{id:Nat}{l:List SV}{i j:Nat}{a b:Ty}(h:SV.bF i a b j∈mU id l):SV.bF i a b j∈l/\(l=[.bF i a b j]->mU id l=[.bF i a b j]):=by
 refine⟨?_,λe=>by rw[e];rfl⟩;unfold mU at h;obtain⟨s0,fF,he⟩:=zau.1 h;cases s0 with
 |ptr j' t' p'=>simp only at he;cases hb:xz j' id<;>rw[hb] at he<;>cases he
 |_=>simp only at he;first|(cases he;done)|(rw[<-he];exact fF)
def CO(id m j g:Nat)(X:aw)(q:Nat):Ow:=
 if q=g then .row (.b id [j]) 0 else match X.ow q with
  | .row (.b m' p) n=>if m'=m then .row (.b id (j::p)) n else .row (.b m' p) n
  |w=>w
theorem aek{id m j g q i:Nat}(hg:∃b,X.ow g= .box b):(CO id m j g X q).used i↔(X.ow q).used i:=by
 unfold CO;split
 ·rename_i e;obtain⟨b,hb⟩:=hg;rw[e,hb];simp [Ow.used]
 ·cases hq:X.ow q with
  |row pl n=>
   cases pl with
   |b m' p=>simp only;split<;>rfl
   |_=>rfl
  |_=>rfl
theorem aej{id m j g q:Nat}(bR:q≠g)(h:∀p n,X.ow q≠ .row (.b m p) n):CO id m j g X q=X.ow q:=by
 unfold CO;rw[if_neg bR];cases hq:X.ow q with
 |row pl n=>
  cases pl with
  |b m' p=>simp only;rw[if_neg (λe=>h p n (by rw[hq,e]))]
  |_=>rfl
 |_=>rfl
theorem afs{T:TypeId}(hE:ak P E)(jQ:E.pt T=true){r off:Nat}{cur:Array Value}{T':TypeId}{w:World}{v:Value}(hv:v.cells= #[v])(ho:v.oneCell'=true)(hg:w.heap[r]? =some (.cells cur T' (0,0)))(hf:off+1<=cur.size):
 (storeVar T ⟨r,off,none⟩ v).run P w= .ok () (w.setRow r (cur.toList.take off++ [v]++cur.toList.drop (off+1)).toArray):=by
 obtain⟨i,hi,hs⟩:=hE.p1 T jQ;have bY:=run_storeCells_at P r off T' [v] 0 cur w hg (by simpa using hf) (λu hu=>by
  have:u=v:=by simpa using hu
  rw[this];exact ho)
 simp only[zde] at bY;have jb:(sizeOf T).run P w= .ok 1 w:=by simp [sizeOf,typeInfo,hi,hs]
 unfold storeVar;simp only[BY,jb,fv,hv];rw[if_neg (by simp)];exact bY
theorem amX{c:List Value}{p0 p1 n v:Value}{k j:Nat}(hk:c.length=k)(hj:j<2):(c++ [p0,p1,n]).take (k+j)++ [v]++(c++ [p0,p1,n]).drop (k+j+1)=c++ [if j=0 then v else p0,if j=1 then v else p1,n]:=by
 subst hk
 match j,hj with
 |0,_=>simp
 |1,_=>rw[List.take_append,List.drop_append];simp [za6];rw[List.drop_eq_nil_of_le (by omega),show c.length+1+1-c.length=2 by omega];rfl
theorem amG(hE:ak P E)(hr:Rel X s a){oS:Oper}{s':State}(h:lu E oS s some=some s'):(oS.dst=none/\oS.guard=none)/\(∀i,s.slot i=[.undef]->s'.slot i=[.undef])/\∃Z,(execOp a.eval oS).run P X.w= .ok .skip Z.w/\Ext X Z/\Rel Z s' a:=by
 unfold lu at h;split at h
 case h_2=>cases h
 rename_i T tx ty ho;cases oO:mr oS with
 |false=>rw[oO] at h;cases h
 |true=>
 rw[oO,cond_true] at h;have mi:oS.dst=none/\oS.guard=none:=by
  unfold mr at oO;split at oO
  ·exact⟨by assumption,by assumption⟩
  ·cases oO
 refine⟨mi,?_⟩;split at h
 case isFalse=>cases h
 rename_i jQ;split at h
 case h_2=>cases h
 rename_i id ta tb j RR;have hx:=hr.slot tx;rw[RR] at hx;obtain⟨rr,hβ,hv,hj⟩:aC X (.c tx 0) (.ptr id (.aY .cX ta tb) [1,j]) (a.tmps.getD tx zaj):=hx;have hv:a.tmps.getD tx zaj= .pointer (some ⟨rr,ta.cells+j,none⟩):=hv;have hj:j<2:=hj;have evx:a.eval (.tmp tx)= .pointer (some ⟨rr,ta.cells+j,none⟩):=hv;obtain⟨z,own,r1,hb,h,b7,h1,how,c,p0,p1,T',aF,aO,uE,uF⟩:=MF hr h;rw[hβ] at h1;cases h1;cases iw:hP own [] with
 |false=>rw[iw] at h;cases h
 |true=>
 rw[iw,cond_true] at h;have iw:=Fm iw;have fM:=aO.len;have dv:ta.cells+j+1<=(c++ [p0,p1,Value.int .i64 z.2.2]).toArray.size:=by simp;omega
 have aZ:∀v,v.cells= #[v]->v.oneCell'=true->a.eval (.tmp ty)=v->(execOp a.eval oS).run P X.w= .ok .skip (X.row rr (c++ [if j=0 then v else p0,if j=1 then v else p1,Value.int .i64 z.2.2]).toArray).w:=λv h1 h2 h3=>by have bY:=afs (P:=P) hE jQ h1 h2 aF dv;rw[amX fM hj] at bY;simp only[execOp,ho,BY,zdk,evx,Instr.sureAddr,GP,fv,h3,bY];rfl
 split at h
 case h_3=>cases h
 case h_2=>
  rename_i Nz;cases h;have hy:=hr.slot ty;rw[Nz] at hy;have hy:a.tmps.getD ty zaj= .pointer none:=hy;have aZ:=aZ (.pointer none) rfl rfl hy;generalize ix:(c++ [if j=0 then Value.pointer none else p0,if j=1 then Value.pointer none else p1,Value.int .i64 z.2.2]).toArray=new at aZ;refine⟨λi hi=>hi,X.row rr new,aZ,MJ how,hr.row hb hβ how ⟨how,⟨_,setRow_heap X.w rr _ _ T' (0,0) aF⟩,λ_=> ?_⟩ (.inr iw)⟩;have hg:∀k,∀{m:Option (El tb)} {v:Value},dO X (λp=> .b id (k::p)) tb m v->dO (X.row rr new) (λp=> .b id (k::p)) tb m v:=λk m v hm=>hm.move (λ_ _=>np how) λp _ q o n hq hw=>by
   have bR:q≠rr:=λe=>by rw[e,how] at hw;cases hw
   exact⟨(setRow_other X.w rr q _ bR).trans hq,hw⟩
  refine⟨c,if j=0 then Value.pointer none else p0,if j=1 then Value.pointer none else p1,T',?_,aO.aj (λ_ _=>np how),?_,?_⟩
  ·rw[ix];exact setRow_heap X.w rr _ _ T' (0,0) aF
  ·match j,hj with
   |0,_=>rfl
   |1,_=>exact hg 0 uE
  ·match j,hj with
   |0,_=>exact hg 1 uF
   |1,_=>rfl
 rename_i m tb' Nz;split at h
 case h_2=>cases h
 rename_i B hB;split at h
 case isFalse=>cases h
 rename_i dp;cases eM:(tb'.cB tb&&(!tb.bO&&(hP B.own [2]&& !(xz id m)))) with
 |false=>rw[eM] at h;cases h
 |true=>
 rw[eM,cond_true] at h;cases h;simp only[nd,Bool.not_eq_true'] at eM;obtain⟨ht,eL,Rw,Nw⟩:=eM;have:=Ty.aK ht;subst this;have Nw:id≠m:=λe=>by rw[e] at Nw;simp at Nw
 have hbm:=sN hB;obtain⟨g,hβm,wF⟩:=hr.boxes m B hbm;obtain⟨bt,bx,bo⟩:=B;have e:=Ty.aK dp;simp only at e;subst e;obtain⟨csg,Tg,hhg,hrg,ni,hwg⟩:=wF.cells eL;have hy:=hr.slot ty;rw[Nz] at hy;obtain⟨g',hβ',hvy⟩:aC X (.c ty 0) (.ptr m bt []) (a.tmps.getD ty zaj):=hy;rw[hβm] at hβ';cases hβ';have hvy:a.tmps.getD ty zaj= .pointer (some ⟨g,0,none⟩):=by have:=((sL eL).1 hvy).1;rw[this];simp [Ty.off]
 have Gs:g≠rr:=λe=>by rw[e,how] at ni;injection ni with ni;exact Nw ni
 generalize ix:(c++ [if j=0 then Value.pointer (some ⟨g,0,none⟩) else p0,if j=1 then Value.pointer (some ⟨g,0,none⟩) else p1,Value.int .i64 z.2.2]).toArray=new at*;have aZ:=aZ (.pointer (some ⟨g,0,none⟩)) rfl rfl hvy;rw[ix] at aZ;let Z:aw:=⟨(X.row rr new).w,CO id m j g X,X.β⟩
 have dw:∀q,q≠rr->Z.w.heap[q]? =X.w.heap[q]? :=λq hq=>setRow_other X.w rr q _ hq;have eO:∀ad v,X.aB ad v->Z.aB ad v:=λad v hs=>by
  have bR:ad.block≠rr:=λe=>by have:=hs.2.2;rw[e,how] at this;exact this
  refine⟨hs.1,?_,(aek ⟨m,ni⟩).2 hs.2.2⟩;have:=hs.2.1;simp only[zaP] at this⊢;rw[dw _ bR];exact this
 have jR:∀q,q≠g->(∀p n,X.ow q≠ .row (.b m p) n)->Z.ow q=X.ow q:=λq h1 h2=>aej h1 h2;have bS:∀q b,b≠m->X.ow q= .box b->Z.ow q= .box b:=λq b hb hq=>by rw[jR q (λe=>by rw[e,ni] at hq;injection hq with hq;exact hb hq.symm) (λp n e=>by rw[hq] at e;cases e)];exact hq
 have GJ:∀q pl n,X.ow q= .row pl n->(∀p,pl≠ .b m p)->Z.ow q= .row pl n:=λq pl n hq hp=>by rw[jR q (λe=>by rw[e,ni] at hq;cases hq) (λp n' e=>by rw[hq] at e;injection e with e _;exact hp p e)];exact hq
 have QV:∀{pl:Place} {e:TypeId} {k n:Nat} {v:Value},(∀p,pl≠ .b m p)->bB X pl e k n v->bB Z pl e k n v:=λhp ho=>by
  rcases ho with ho|⟨q,cap,cur,k1,k2,k3,k4,k5,k6⟩
  ·exact .inl ho
  ·exact .inr ⟨q,cap,cur,k1,(dw q (λe=>by rw[e,how] at k6;cases k6)).trans k2,k3,k4,k5,GJ q _ _ k6 hp⟩
 have EK:∀k,∀{x:Option (El bt)} {v:Value},dO X (λp=> .b id (k::p)) bt x v->dO Z (λp=> .b id (k::p)) bt x v:=λk x v hm=>hm.move eO λp _ q o n hq hw=>⟨(dw q (λe=>by rw[e,how] at hw;cases hw)).trans hq,GJ q _ _ hw (λp' e=>by injection e with e _;exact Nw e)⟩
 have cQ:dO Z (λp=> .b id (j::p)) bt (some bx) (.pointer (some ⟨g,0,none⟩)):=by
  refine⟨g,csg,Tg,rfl,(dw g Gs).trans hhg,by show CO id m j g X g=_;simp [CO],hrg.aj eO,λp hp=> ?_⟩;have:p=[2]:=by simpa [z91] using hp
  subst this;obtain⟨e,t',xs,v,g0,g1,g2,g3⟩:=hwg [2] (Fm Rw);refine⟨e,t',xs,v,g0,g1,g2,?_⟩;rcases g3 with g3|⟨q,cap,cur,k1,k2,k3,k4,k5,k6⟩
  ·exact .inl g3
  ·refine .inr ⟨q,cap,cur,k1,(dw q (λe=>by rw[e,how] at k6;cases k6)).trans k2,k3,k4,k5,?_⟩;show CO id m j g X q=_;unfold CO;rw[if_neg (λe=>by rw[e,ni] at k6;cases k6),k6];simp
 have Gt:iM Z rr (.b id) ta bt (z.1,gy j (some bx) z.2.1,z.2.2):=by
  refine⟨c,if j=0 then Value.pointer (some ⟨g,0,none⟩) else p0,if j=1 then Value.pointer (some ⟨g,0,none⟩) else p1,T',?_,aO.aj eO,?_,?_⟩
  ·rw[ix];exact setRow_heap X.w rr _ _ T' (0,0) aF
  ·match j,hj,cQ with
   |0,_,cQ=>exact cQ
   |1,_,_=>exact EK 0 uE
  ·match j,hj,cQ with
   |0,_,_=>exact EK 1 uF
   |1,_,cQ=>exact cQ
 have RB:=hr.pS hb (.inr iw);have RC:=hr.pS hbm (.inl (zff eL));have bc:Ext X Z:=⟨eO,by show X.w.heap.size<=(X.row rr new).w.heap.size;simp [aw.row],rfl,rfl,rfl,rfl,λq hq bY=>⟨jR q (λe=>by rw[e,ni] at bY;exact bY) (λp n e=>by rw[e] at bY;exact bY),dw q (λe=>by rw[e,how] at bY;exact bY)⟩⟩
 have Rk:id<s.bs.length:=(AS.1 hb).1;refine⟨λi hi=> ?_,Z,aZ,bc,by simpa [n7] using hr.size,by simpa [n7] using hr.ia,λi l v hl hx=> ?_,λbf B' eS=> ?_,λi l bf t p hl hm=> ?_,hr.defers,hr.bF.less (λi l tP c2 d2 k hl hm=> ?_) (λtP c2 d2 x2 lB hex lH ho2=> ?_)⟩
 ·by_cases ap:i<s.sl.length
  ·have:=sP ap;rw[hi] at this;simp [n7,State.slot,this,mU]
  ·simp [n7,State.slot,IT (Nat.le_of_not_lt ap)]
 ·replace hl:(s.sl.map (mU m))[i]? =some l:=hl;rw[IN] at hl;obtain⟨l0,h0,rfl⟩:=nl.1 hl;refine Vu ((hr.bZ i l0 v h0 hx).jD λk sv u hk hu=> ?_);cases sv with
  |undef=>trivial
  |skip=>exact hu
  |cR=>exact hu
  |ey=>exact hu
  |over=>exact hu
  |aq t x own=>obtain⟨cs,q1,q2,q3⟩:=hu;refine⟨cs,q1.aj eO,q2,λp hp=> ?_⟩;obtain⟨e,t',xs,v,g0,g1,g2,g3⟩:=q3 p hp;exact⟨e,t',xs,v,g0,g1,g2,QV (λp' e=>by cases e) g3⟩
  |ptr bf t p=>exact hu
  |view t x=>obtain⟨ad,cs,q1,q2,q3,q4⟩:=hu;exact⟨ad,cs,q1,q2,q3.aj eO,λi u hi=>eO _ _ (q4 i u hi)⟩
  |cap f t x u y=>exact uf eO hu
  |bF bf c' d' n=>obtain⟨r',q1,q2,q3⟩:=hu;have bR:bf≠id:=λe=>RB i l0 c' d' n h0 (e▸IH hk);have hnm:bf≠m:=λe=>RC i l0 c' d' n h0 (e▸IH hk);refine⟨r',q1,bS r' bf hnm q2,?_⟩;simp only[zaP] at q3⊢;rw[dw r' (λe=>by rw[e,how] at q2;injection q2 with q2;exact bR q2.symm)];exact q3
 ·replace eS:((s.bs.set m none).set id (some ⟨.aY .cX ta bt,(z.1,gy j (some bx) z.2.1,z.2.2),own⟩))[bf]? =some (some B'):=eS;rw[vc] at eS;by_cases e1:id=bf
  ·subst e1;rw[if_pos rfl,if_pos (by simpa using Rk)] at eS;cases eS;exact⟨rr,hβ,bS rr id Nw how,⟨_,setRow_heap X.w rr _ _ T' (0,0) aF⟩,λ_=>Gt⟩
  ·rw[if_neg e1,vc] at eS;by_cases e2:m=bf
   ·rw[if_pos e2] at eS;split at eS<;>cases eS
   ·rw[if_neg e2] at eS;obtain⟨r',q1,q2,q3⟩:=hr.boxes bf B' eS;have bR:r'≠rr:=λe=>by rw[e,how] at q2;injection q2 with q2;exact e1 q2
    exact⟨r',q1,bS r' bf (λe=>e2 e.symm) q2,q3.move eO (dw r' bR) (λcs ho p hp=>by obtain⟨e,t',xs,v,g0,g1,g2,g3⟩:=ho p hp;exact⟨e,t',xs,v,g0,g1,g2,QV (λp' e=>by injection e with e _;exact e2 e.symm) g3⟩) λp _ q o n hq hw=>⟨(dw q (λe=>by rw[e,how] at hw;cases hw)).trans hq,GJ q _ _ hw (λp' e=>by injection e with e _;exact e2 e.symm)⟩⟩
 ·replace hl:(s.sl.map (mU m))[i]? =some l:=hl;rw[IN] at hl;obtain⟨l0,h0,rfl⟩:=nl.1 hl;obtain⟨hm,bR⟩:=Xl hm;obtain⟨B2,df⟩:=hr.live i l0 bf t p h0 hm;show∃B,((s.bs.set m none).set id (some ⟨.aY .cX ta bt,(z.1,gy j (some bx) z.2.1,z.2.2),own⟩))[bf]? =some (some B);rw[vc];by_cases e1:id=bf
  ·rw[if_pos e1,if_pos (by simpa using Rk)];exact⟨_,rfl⟩
  ·rw[if_neg e1,vc,if_neg (λe=>bR e.symm)];exact⟨B2,df⟩
 ·replace hl:(s.sl.map (mU m))[i]? =some l:=hl;rw[IN] at hl;obtain⟨l0,h0,rfl⟩:=nl.1 hl;obtain⟨g1,g2⟩:=J9 hm;exact⟨l0,h0,g1,g2⟩
 ·obtain⟨i,l,k,hl,hm⟩:=hex;replace hl:(s.sl.map (mU m))[i]? =some l:=hl;rw[IN] at hl;obtain⟨l0,h0,rfl⟩:=nl.1 hl;obtain⟨g1,_⟩:=J9 hm;refine⟨x2,lB,?_,ho2⟩;show((s.bs.set m none).set id (some ⟨.aY .cX ta bt,(z.1,gy j (some bx) z.2.1,z.2.2),own⟩))[tP]? =_;rw[vc,if_neg (show¬id=tP from λe=>RB i l0 c2 d2 k h0 (by rw[e];exact g1)),vc,if_neg (show¬m=tP from λe=>RC i l0 c2 d2 k h0 (by rw[e];exact g1))];exact lH
theorem S5{α:Type}:∀{l r:List α} {x:α},zsp l=some (r,x)->l=r++ [x]
 | [],_,_,h=>by cases h
 | [a],_,_,h=>by cases h;rfl
 |a::b::r,_,_,h=>by
  simp only[zsp] at h;split at h
  case h_2=>cases h
  rename_i l x hl;cases h;have:=S5 (l:=b::r) hl;rw[this];rfl
theorem UK{n:Nat}{listed:Array Bool}(hs:n<=listed.size){i:Nat}{p q:List Nat}(h:rest n listed=p++i::q):rest n (listed.setIfInBounds i true)=p++q:=by
 have oO:(rest n listed).Nodup:=List.nodup_range.filter _;rw[h] at oO;rw[<-SP oO,<-h];simp only[rest,List.filter_filter];refine zcL λj hj=> ?_;have hjn:=zao.1 hj;by_cases e:j=i
 ·subst e;have:(listed.setIfInBounds j true).getD j true=true:=by
   have:j<listed.size:=by omega
   simp [NX,this]
  rw[this];simp
 ·have h1:(listed.setIfInBounds i true).getD j true=listed.getD j true:=by simp only[NX];rw[zbl (λh=>e h.symm)]
  have h2:xz j i=false:=by
   cases hh:xz j i with
   |false=>rfl
   |true=>exact absurd (DD hh) e
  rw[h1,h2];simp
theorem afi{n:Nat}{listed:Array Bool}{i:Nat}(h:n<=i):rest n (listed.setIfInBounds i true)=rest n listed:=by simp only[rest];refine zcL λj hj=> ?_;have hjn:=zao.1 hj;simp only[NX];rw[zbl (by omega)]
theorem UL{n:Nat}{listed:Array Bool}(hs:listed.size=n+1):rest (n+1) listed=rest n listed++(if listed.getD n true=true then [] else [n]):=by
 simp only[rest,zct,List.filter_append];congr 1;cases h:listed.getD n true with
 |false=>rw[if_neg (by simp)];simp only[zbO,h,Bool.not_false,if_true,List.filter_nil]
 |true=>rw[if_pos rfl];simp only[zbO,h,Bool.not_true,zaW,if_false,List.filter_nil]
theorem Tb{ops:Array Oper}(kr:∀k,k<ops.size->zaL (xV ops k+1) (bit k)=true){listed:Array Bool}(hs:listed.size=ops.size)(hr:zcB .any ops listed=[]):rest ops.size listed=[]:=by
 rcases hl:rest ops.size listed with _|⟨i,r⟩
 ·rfl
 have cQ:i∈rest ops.size listed:=by rw[hl];simp
 have dD:=zao.1 (zab.1 cQ).1;have ll:i∈zcB .any ops listed:=by
  refine Wd cQ λe he hb=> ?_;have ap:e.on<i:=TI (kr i dD) (zkt _ e he hb);cases hx:listed.getD e.on false with
  |true=>rfl
  |false=>
   exfalso;have gO:e.on<listed.size:=by omega
   have sB:listed.getD e.on true=false:=by simp only[NX,XN gO,zbj] at hx⊢;exact hx
   have hm:e.on∈rest ops.size listed:=zab.2 ⟨zao.2 (by omega),by rw[sB];rfl⟩;have jc:(rest ops.size listed).Pairwise (· < ·):=List.pairwise_lt_range.filter _;rw[hl] at jc hm;rcases If.1 hm with e1|hm
   ·omega
   ·have:=(zak.1 jc).1 _ hm;omega
 rw[hr] at ll;cases ll
theorem aec{o:Oper}{t j:Nat}(ho:o.op= .extract (.tmp t) j){vs:Array Value}(hv:a.tmps.getD t zaj= .tuple vs){v:Value}(hj:vs[j]? =some v)(w:World):(execOp a.eval o).run P w= .ok (.value v) w:=by have ev:a.eval (.tmp t)= .tuple vs:=hv;simp [execOp,ho,ev,Instr.extract,hj]
structure O6(E:Env)(C:ai)(ops:Array Oper)(n k t j d:Nat)(oS oD:Oper)(s1 s':State):Prop where
 size:ops.size=n+1
 last:ops[n]? =some oS
 QO:ops[k]? =some oD
 kn:k<n
 ext:oD.op= .extract (.tmp t) j
 dst:isDst oD d=true
 aaL:zaL (zy oS.after.toList+1) (bit n)=true
 mask:j5 ops.toList n (zy oS.after.toList)|||bit k=bit n-1
 low:∀i,i<n->zaL (xV ops i+1) (bit i)=true
 len:j<(s1.slot t).length
 tup:(s1.slot t).length≠1
 link:lu E oS (s1.au (some d) [.undef]) some=some s'
theorem aiR{m n k i:Nat}(h:m|||bit k=bit n-1)(hi:i<n)(hk:i≠k):m.testBit i=true:=by
 have h1:(m|||bit k).testBit i=true:=by rw[h];simp only[bit,zcX,za5];rw[Nat.testBit_two_pow_sub_one];simpa using hi
 rw[zbG] at h1;have h2:(bit k).testBit i=false:=by simp only[bit,zcX,za5];rw[zcs];simp;omega
 rw[h2,Bool.or_false] at h1;exact h1
theorem afo(c:List (Nat×Nat)):∀(s:State) (t:Nat),((s.close c).slot t).length=(s.slot t).length:=by
 induction c with
 |nil=>intro s t;rfl
 |cons x r ih=>
  intro s t;obtain⟨i,j⟩:=x;rw[LX,ih];simp only[State.ct,State.slot,be,vc];by_cases e:i=t
  ·subst e;by_cases ap:i<s.sl.length
   ·rw[if_pos rfl,if_pos ap,ks ap];simp [z97]
   ·rw[if_pos rfl,if_neg ap,IT (by omega)]
  ·rw[if_neg e]
theorem ah5{s:State}{d:Nat}(h:s.slot d=[.undef]):s.au (some d) [.undef]=s:=by
 simp only[State.au];have:s.sl.set d [.undef]=s.sl:=by
  apply zaF;intro i;rw[vc];by_cases e:d=i
  ·subst e;by_cases ap:d<s.sl.length
   ·rw[if_pos rfl,if_pos ap,sP ap,h]
   ·rw[if_pos rfl,if_neg ap,IT (by omega)]
  ·rw[if_neg e]
 rw[this]
theorem afp(s:State)(d:Nat):(s.au (some d) [.undef]).slot d=[.undef]:=by
 simp only[State.slot,State.au,be,vc];by_cases ap:d<s.sl.length
 ·simp [ap]
 ·simp [ap]
theorem aeb{C:ai}{ops:List Oper}{o:Oper}{t j:Nat}(ho:o.op= .extract (.tmp t) j){u:Out}(h:act E (C Out) ops o s some=some u):u.bx=none/\u.v.length=1:=by
 unfold act at h;simp only[ho] at h;split at h
 ·split at h
  ·cases h;exact⟨rfl,rfl⟩
  ·cases h
 ·split at h<;>cases h<;>exact⟨rfl,rfl⟩
theorem apJ(hE:ak P E){C:ai}(hC:C.Nat)(hf:∀f,dh P C f){ops:Array Oper}{n k t j d:Nat}{oS oD:Oper}{s1 s':State}(H:O6 E C ops n k t j d oS oD s1 s'){Q:Exit->Act->World->Prop}:
 ∀(cC:Nat) (listed:Array Bool) (X:aw) (s:State) (a:Act) (tr:List eF),Rel X s a->vX ops listed->listed.size=n+1->listed.getD n true=false->cC=(rest n listed).length+1->pC E C ops (rest n listed) s tr s1->tr.Pairwise (yA ops)->
  (∀Y a',Ext X Y->Rel Y s' a'->Q .normal a' Y.w)->wpAny P .any ops Q cC listed a X.w:=by
 have hgS:ops.getD n default=oS:=by have:=H.last;simp only[NX,this,zbj]
 have hgD:ops.getD k default=oD:=by have:=H.QO;simp only[NX,this,zbj]
 have kr:∀i,i<ops.size->zaL (xV ops i+1) (bit i)=true:=λi hi=>by
  rcases zbJ i n with h|h
  ·exact H.low i h
  ·have:i=n:=by have:=H.size;omega
   subst this;unfold xV;rw[hgS];exact H.aaL
 intro cC
 induction cC with
 |zero=>intro listed X s a tr hr fM hs hn oN;omega
 |succ cC ih=>
  intro listed X s a tr hr fM hs hn oN eg x6 hQ;have hrs:rest ops.size listed=rest n listed++ [n]:=by rw[H.size,UL hs,if_neg (by rw[hn];simp)]
  refine⟨λiZ=> ?_,λi hi=> ?_⟩
  ·have:=Tb kr (by rw[hs,H.size]) iZ;rw[hrs] at this;simp at this
  ·obtain⟨Rv,tG⟩:=NT hi;have cQ:=Rv;rw[hrs] at cQ;rcases M2.1 cQ with cQ|cQ
   ·obtain⟨p,q,Au⟩:=Wm cQ;have dD:=zao.1 (zab.1 cQ).1;rw[Au] at eg;have mY:=LQ eg;obtain⟨tp,f,tq,u,e1,e2,k1,k2,k3⟩:=zwp p s tr eg (λtp f tq e hl a' EB=>by
     have wJ:f.i=i:=by rw[e,zaY,zaq] at mY;have:=zeG mY (by simp [hl]);injection this.2
     have haj:a'.i∈p:=by rw[e,zaY,zaq] at mY;have:=zeG mY (by simp [hl]);rw[<-this.1];exact zau.2 ⟨a',EB,rfl⟩
     rw[e] at x6;have wL:=(za0.1 x6).2.2 a' EB f (by simp);rcases wL with hb|hb
     ·exfalso;rw[wJ] at hb;obtain gb:=z8n fM _ _ (λq hq=>by obtain⟨ed,An,Ao,Rf⟩:=z49 _ _ hq;have:=tG ed An Ao;rw[Rf] at this;exact this) a'.i hb
      have bN:a'.i∈rest n listed:=by rw[Au];exact zbm _ haj
      have eE:=(zab.1 bN).2;have ap:=zao.1 (zab.1 bN).1;have gO:a'.i<listed.size:=by omega
      simp only[NX,XN gO,zbj] at gb eE;rw[gb] at eE;cases eE
     ·exact hb)
    have bN:=UK (n:=n) (by omega) Au;have hio:ops[i]? =some (ops.getD i default):=by
     have:i<ops.size:=by rw[H.size];omega
     simp [this]
    refine zsu hE hr hC hf hio (ztv hC k1) λY a' bc bD=> ?_;refine ih (listed.setIfInBounds i true) Y _ a' (tp++tq) bD (Wj fM λq hq=>by obtain⟨ed,g1,g2,g3⟩:=z49 _ _ hq;have:=tG ed g1 g2;rw[g3] at this;exact this) (by simp [hs]) ?_ ?_ (by rw[bN];exact k3) ?_ (λZ a2 cr dj=>hQ Z a2 (bc.trans cr) dj)
    ·simp only[NX] at hn⊢;rw[zbl (by omega)];exact hn
    ·rw[bN];rw[Au] at oN;simp only[th,ls] at oN⊢;omega
    ·rw[e1] at x6;obtain⟨a1,a2,a3⟩:=za0.1 x6;exact za0.2 ⟨a1,(zak.1 a2).2,λx hx y hy=>a3 x hx y (Cs _ hy)⟩
   ·have dD:i=n:=by simpa using cQ
    subst dD;have c8:∀q∈rest i listed,q=k:=λq hq=>by
     obtain⟨h1,h2⟩:=zab.1 hq;have hqn:=zao.1 h1;by_cases e:q=k
     ·exact e
     ·exfalso;have gb:=z8n fM _ _ (λq hq=>by obtain⟨ed,An,Ao,Rf⟩:=z49 _ _ hq;have:=tG ed (by rw[hgS];exact An) Ao;rw[Rf] at this;exact this) q (aiR H.mask hqn e)
      have gO:q<listed.size:=by omega
      simp only[NX,XN gO,zbj] at gb h2;rw[gb] at h2;cases h2
    have oO:(rest i listed).Nodup:=List.nodup_range.filter _;have bN:rest i listed=[]\/rest i listed=[k]:=by
     match hl:rest i listed,c8,oO with
     | [],_,_=>exact .inl rfl
     | [q],c8,_=>exact .inr (by rw[c8 q (by simp)])
     |q::q'::r,c8,oO=>have h1:=c8 q (by simp);have h2:=c8 q' (by simp);have:=(List.nodup_cons.1 oO).1;rw[h1,h2] at this;simp at this
    have RI:Rel X (s1.au (some d) [.undef]) a/\(rest i listed=[k]->d≠t/\(s1.slot t).length=(s.slot t).length):=by
     rcases bN with bN|bN
     ·rw[bN] at eg;obtain⟨rfl,_⟩:=eg;exact⟨hr.kill d,λe=>by rw[bN] at e;cases e⟩
     ·rw[bN] at eg
      match tr,eg with
      | [],eg=>exact eg.elim
      |f::tr,⟨u,h1,_,h3,_⟩=>
       rw[hgD] at h1 h3;have Rc:oD.dst=some d/\oD.guard=none:=by
        have:=H.dst;unfold isDst at this;split at this
        ·rename_i d' h1 h2;exact⟨by rw[h1,DD this],h2⟩
        ·cases this
       unfold fh at h1;rw[Rc.2] at h1;obtain⟨Nr,hvl⟩:=aeb H.ext h1;rw[Rc.1] at h3;have e:s1=(s.close u.cl).au (some d) u.v:=by rw[<-h3];unfold State.apply;rw[Nr];rfl
       have Re:d≠t:=λe2=>by
        have h5:=H.tup;have h6:=H.len;rw[e,e2] at h5 h6;simp only[State.slot,State.au,be,vc] at h5 h6;by_cases ap:t<(s.close u.cl).sl.length
        ·simp [ap] at h5;omega
        ·simp [ap] at h5
       refine⟨?_,λ_=>⟨Re,?_⟩⟩
       ·have e3:s1.au (some d) [.undef]=(s.close u.cl).au (some d) [.undef]:=by rw[e];simp only[State.au,zhB]
        rw[e3];exact(hr.close u.cl).kill d
       ·rw[e,<-afo u.cl s t];simp only[State.slot,State.au,be,vc];rw[if_neg Re]
    obtain⟨dj,Ro⟩:=RI;obtain⟨mi,aaH,Z,aZ,bc,EO⟩:=amG hE dj H.link;have hud:=aaH d (afp s1 d);unfold wpOp;simp only[H.last];have hw:za4 oS (yielded ops a.tmps)=true:=by simp [za4,mi.2]
    rw[if_pos hw];refine .inl ?_;unfold zeZ;rw[aZ,zfh,mi.1];show wpAny P .any ops Q cC (listed.setIfInBounds i true) a Z.w;have GL:(listed.setIfInBounds i true).size=i+1:=by simpa using hs
    have fO:(listed.setIfInBounds i true).getD i true=true:=by
     have:i<listed.size:=by omega
     simp [NX,this]
    have Av:rest ops.size (listed.setIfInBounds i true)=rest i listed:=by rw[H.size,UL GL,if_pos fO,List.append_nil,afi (zag _)]
    rcases bN with bN|bN
    ·have:cC=0:=by rw[bN] at oN;simpa using oN
     subst this;refine⟨?_,hQ Z a bc EO⟩;rcases RJ:zcB .any ops (listed.setIfInBounds i true) with _|⟨q,r⟩
     ·rfl
     ·have:=(NT (i:=q) (by rw[RJ];simp)).1;rw[Av,bN] at this;cases this
    ·have:cC=1:=by rw[bN] at oN;simpa using oN
     subst this;refine⟨λiZ=> ?_,λq hq=> ?_⟩
     ·have:=Tb kr (by rw[GL,H.size]) iZ;rw[Av,bN] at this;cases this
     ·have hqk:=(NT hq).1;rw[Av,bN] at hqk;have hqk:q=k:=by simpa using hqk
      subst hqk;obtain⟨Re,hlen⟩:=Ro bN;have Rc:oD.dst=some d/\oD.guard=none:=by
       have:=H.dst;unfold isDst at this;split at this
       ·rename_i d' h1 h2;exact⟨by rw[h1,DD this],h2⟩
       ·cases this
      have GM:∃vs:Array Value,a.tmps.getD t zaj= .tuple vs/\vs.size=(s.slot t).length:=by
       have ja:=hr.slot t;have h5:=H.tup;rw[hlen] at h5
       match hq:s.slot t,ja,h5 with
       | [],⟨vs,g1,g2,_⟩,_=>exact⟨vs,g1,by rw[g2]⟩
       | [x],_,h5=>simp at h5
       |x::y::r,⟨vs,g1,g2,_⟩,_=>exact⟨vs,g1,by rw[g2]⟩
      obtain⟨vs,hv,x7⟩:=GM;have wN:j<vs.size:=by rw[x7,<-hlen];exact H.len
      have RO:=aec (P:=P) H.ext hv (XN wN) Z.w;unfold wpOp;simp only[H.QO];have hw:za4 oD (yielded ops a.tmps)=true:=by simp [za4,Rc.2]
      rw[if_pos hw];refine .inl ?_;unfold zeZ;rw[RO,zeF,Rc.1];have Gn:Rel Z s' (a.put (some d) vs[j]):=by have:=EO.dead d vs[j];rw[Ref.dead,ah5 hud] at this;exact this
      refine⟨?_,hQ Z _ bc Gn⟩;have hkn:=H.kn;have aaA:rest ops.size ((listed.setIfInBounds i true).setIfInBounds q true)=[]:=by have:=UK (n:=ops.size) (listed:=listed.setIfInBounds i true) (i:=q) (p:=[]) (q:=[]) (by rw[GL,H.size];exact zag _) (by rw[Av,bN];rfl);simpa using this
      rcases RJ:zcB .any ops ((listed.setIfInBounds i true).setIfInBounds q true) with _|⟨z,r⟩
      ·rfl
      ·have:=(NT (i:=z) (by rw[RJ];simp)).1;rw[aaA] at this;cases this
theorem aiw(hE:ak P E)(hm:P.follows .mixedOrders=true){C:ai}(hC:C.Nat)(hf:∀f,dh P C f){X0:aw}(hx:Ext X0 X)(hr:Rel X s a){id k:Nat}{ops:Array Oper}{s':State}(h:tT E (C State) k ops.toList s some=some s'){Q:Exit->Act->World->Prop}(hQ:∀Y a',Ext X0 Y->Rel Y s' a'->Q .normal a' Y.w):(zeH id ops true).wp P Q a X.w:=by
 unfold tT at h;split at h
 case h_2=>cases h
 rename_i l oS hl;split at h
 case h_2=>cases h
 rename_i oD hoD;split at h
 case h_2=>cases h
 rename_i t j d bc arz;cases eM:(isDst oD d&&(zaL (k+1) l.length&&(zaL (zy oS.after.toList+1) (bit l.length)&&xz (j5 ops.toList l.length (zy oS.after.toList)|||bit k) (bit l.length-1)))) with
 |false=>rw[eM] at h;cases h
 |true=>
 rw[eM,cond_true] at h;simp only[nd] at eM;obtain⟨hd,hkl,Ru,wR⟩:=eM;have hkl:k<l.length:=zaK hkl;have wR:=DD wR;obtain⟨s1,h1,h2⟩:=kE (Zc hC (F:=λs=>bif zaL (j+1) (s.slot t).length&& !(xz (s.slot t).length 1) then lu E oS (s.au (some d) [.undef]) some else none) (G:=some) (K:=λs=>bif zaL (j+1) (s.slot t).length&& !(xz (s.slot t).length 1) then lu E oS (s.au (some d) [.undef]) some else none) (λ_=>rfl) l 0 s []) h;cases hlen:(zaL (j+1) (s1.slot t).length&& !(xz (s1.slot t).length 1)) with
 |false=>simp only[hlen] at h2;cases h2
 |true=>
 simp only[hlen,cond_true] at h2;rw[nd] at hlen;have iy:=S5 hl;have cm:ops.size=l.length+1:=by rw[<-zb9,iy];simp
 have nT:ops[l.length]? =some oS:=by rw[<-zad,iy,zaa (zag _),Nat.sub_self];rfl
 have lR:(zaJ l.length).map (λi=>ops.getD i default)=l:=by
  apply zaF;intro i;rw[IN];by_cases hi:i<l.length
  ·have h3:ops[i]? =l[i]? :=by rw[<-zad,iy,zap hi]
   have h4:i<ops.size:=by omega
   rw[zeI hi,<-h3];simp [h4]
  ·rw[IT (by simpa using hi),IT (by omega)];rfl
 obtain⟨A5,r1,_,r3,r4⟩:=zcq hC (zaJ l.length) 0 s [] (λj k hj=>by obtain⟨g1,g2⟩:=AS.1 hj;simp at g2;omega) (by rw[lR];exact h1)
 have H:O6 E C ops l.length k t j d oS oD s1 s':=⟨cm,nT,by rw[<-zad];exact hoD,hkl,bc,hd,Ru,wR,λi hi=>r4 i (zao.2 hi),zaK hlen.1,λe=>by rw[e] at hlen;simp at hlen,h2⟩
 have hk:fq s X {X with w:={X.w with drawn:=X.w.drawn+1}}:=⟨zag _,rfl,rfl,rfl,λg _=>⟨rfl,rfl⟩,rfl,λ_ _ _=>rfl⟩
 have bN:rest l.length (zdT ops.size false)=zaJ l.length:=by
  refine zbS.2 λi hi=> ?_;have:=zao.1 hi;have h2:i<ops.size:=by omega
  simp [h2]
 refine wp_region_any hm ?_;have oN:ops.size=(rest l.length (zdT ops.size false)).length+1:=by rw[bN,cm];simp
 exact apJ hE hC hf H ops.size (zdT ops.size false) _ s a A5 (hr.dy hk) (λi hi=>by by_cases h:i<ops.size<;>simp [h] at hi) (by simp [cm]) (by simp [cm]) oN (by rw[bN];exact r1) r3 (λY a' bc bD=>hQ Y a' (hx.trans (hk.ext.trans bc)) bD)
end Go.Ref

namespace Go.Ref
open Go
variable {P:Program} {E:Env} {X:aw} {s:State} {a:Act}
def Ex.exit':Ex->Exit
 | .normal=> .normal
 | .exit id=> .exit id
 | .ret=> .ret
theorem ajr{Q:Exit->Act->World->Prop}{c:Code}(I:Nat->Act->World->Prop)(round:∀n a w,I n a w->∃m,n=m+1/\c.wp P (Exit.then (I m) Q) a w){n:Nat}{a:Act}{w:World}(h₀:I n a w):(Code.loop c).wp P Q a w:=by
 intro b k cs;have key:∀n a w,I n a w->∃e a' w',Q e a' w'/\Arrives P (lone (b.at a (.code c:: .inLoop c::k)) cs w) b k cs e a' w':=by
  intro n
  induction n with
  |zero=>intro a w h;obtain⟨m,hm,_⟩:=round 0 a w h;cases hm
  |succ n ih=>
   intro a w h;obtain⟨m,hm,hr⟩:=round (n+1) a w h;cases hm;obtain⟨e,a₁,w₁,hq,nO⟩:=hr b (.inLoop c::k) cs;cases e with
   |normal=>obtain⟨e₂,a₂,w₂,hq₂,harr₂⟩:=ih a₁ w₁ hq;exact⟨e₂,a₂,w₂,hq₂,.of_steps (Steps.trans nO (.one step_inLoop)) harr₂⟩
   |exit id=>exact⟨_,a₁,w₁,hq,.pass (x:= .inLoop c) rfl (λ_ _=> .inl (by simp)) nO⟩
   |goto l=>exact⟨_,a₁,w₁,hq,.pass (x:= .inLoop c) rfl (λ_ _=> .inl (by simp)) nO⟩
   |ret=>exact⟨_,a₁,w₁,hq,.pass (x:= .inLoop c) rfl (λ_ _=> .inl (by simp)) nO⟩
   |panic ch=>exact⟨_,a₁,w₁,hq,.pass (x:= .inLoop c) rfl (λ_ _=> .inl (by simp)) nO⟩
   |outgrown=>exact⟨_,a₁,w₁,hq,.pass (x:= .inLoop c) rfl (λ_ _=> .inl (by simp)) nO⟩
 obtain⟨e,a',w',hq,nO⟩:=key n a w h₀;exact⟨e,a',w',hq,.of_steps (.one step_loop) nO⟩
theorem L4{α:Type}(z:α)(l:List Nat):∀(xs:List α) (i j:Nat),(gQ z l i xs)[j]? =(xs[j]?).map λx=>bif l.any (xz (i+j)) then x else z
 | [],i,j=>by simp [gQ]
 |x::r,i,0=>by simp [gQ]
 |x::r,i,j+1=>by simp only[gQ,zax];rw[L4 z l r (i+1) j,show i+1+j=i+(j+1) by omega]
theorem zm2{α:Type}(z:α)(l:List Nat):∀(xs:List α) (i:Nat),(gQ z l i xs).length=xs.length
 | [],i=>rfl
 |x::r,i=>by simp [gQ,zm2 z l r]
theorem VZ{p q:List Nat}:∀{l:List (List Nat)},q∈xd p l->q=p\/q∈l
 | [],h=>by simp [xd] at h;exact .inl h
 |r::l,h=>by
  simp only[xd] at h;cases hl:ltL r p with
  |false=>rw[hl] at h;simpa using h
  |true=>
   rw[hl] at h;rcases If.1 h with h|h
   ·exact .inr (by simp [h])
   ·rcases VZ h with h|h
    ·exact .inl h
    ·exact .inr (Cs _ h)
theorem zc2{q:List Nat}:∀{l:List (List Nat)},q∈oe l->q∈l
 | [],h=>h
 |p::l,h=>by
  rcases VZ h with h|h
  ·simp [h]
  ·exact Cs _ (zc2 h)
theorem z228{v:SV}{id:Nat}{t:Ty}{p:List Nat}(h:v.norm= .ptr id t p):v= .ptr id t p:=by cases v<;>simp [SV.norm] at h;obtain⟨h1,h2,h3⟩:=h;rw[h1,h2,h3]
theorem aC.norm{pl:List Nat->Place}{sv:SV}{v:Value}(hr:aC X pl sv v):aC X pl sv.norm v:=by
 cases sv with
 |aq t x own=>obtain⟨cs,h1,h2,h3⟩:=hr;exact⟨cs,h1,h2,λp hp=>h3 p (zc2 hp)⟩
 |_=>exact hr
theorem cW.norm{pl:Nat->List Nat->Place}{l:List SV}{v:Value}(hr:cW X pl l v):cW X pl (l.map SV.norm) v:=by
 match l,hr with
 | [s],hr=>exact aC.norm hr
 | [],hr=>exact hr
 |x::y::r,⟨vs,h1,h2,h3⟩=>refine⟨vs,h1,by simpa using h2,λj s u hs hu=> ?_⟩;have hs:((x::y::r).map SV.norm)[j]? =some s:=hs;rw[IN] at hs;obtain⟨s0,fF,rfl⟩:=nl.1 hs;exact aC.norm (h3 j s0 u fF hu)
theorem dN.less{r:Nat}{pl:List Nat->Place}{t:Ty}{x:El t}{own kv:List (List Nat)}(ho:∀p∈kv,p∈own)(h:dN X r pl t x own):dN X r pl t x kv:=by
 unfold dN at h⊢;split at h
 ·exact h
 ·exact h
 ·exact h
 ·exact⟨h.1,λhm=>h.2 (ho [] hm)⟩
 ·exact⟨h.1,λhp=>h.2 λp hm=>ho p (hp p hm)⟩
 ·exact h.elim
 ·obtain⟨cs,T,h1,h2,h3⟩:=h;exact⟨cs,T,h1,h2,λp hp=>h3 p (ho p hp)⟩
theorem Rel.norm(hr:Rel X s a):Rel X s.norm a where
 size:=by simpa [State.norm] using hr.size
 ia:=by simpa [State.norm] using hr.ia
 bZ:=λi l v hl hv=>by simp only[State.norm,IN] at hl;obtain⟨l0,h0,rfl⟩:=nl.1 hl;exact cW.norm (hr.bZ i l0 v h0 hv)
 boxes:=λid B hB=>by simp only[State.norm,IN] at hB;obtain⟨b0,h0,h1⟩:=nl.1 hB;obtain⟨B0,rfl,rfl⟩:=nl.1 h1;obtain⟨r,g1,g2,g3⟩:=hr.boxes id B0 h0;exact⟨r,g1,g2,g3.less λp hp=>zc2 hp⟩
 live:=λi l id t p hl hm=>by simp only[State.norm,IN] at hl;obtain⟨l0,h0,rfl⟩:=nl.1 hl;obtain⟨v0,hv0,he⟩:=zau.1 hm;rw[z228 he] at hv0;obtain⟨B,hB⟩:=hr.live i l0 id t p h0 hv0;exact⟨B.norm,by simp [State.norm,hB]⟩
 defers:=hr.defers
 bF:=hr.bF.less (λi l id b c j hl hm=>by
  simp only[State.norm,IN] at hl;obtain⟨l0,h0,rfl⟩:=nl.1 hl;obtain⟨v0,hv0,he⟩:=zau.1 hm;have:v0= .bF id b c j:=by cases v0<;>simp [SV.norm] at he;rw[he.1,he.2.1,he.2.2.1,he.2.2.2]
  subst this;exact⟨l0,h0,hv0,λe=>by rw[e];rfl⟩) (λid b c x own _ hb ho=>⟨x,oe own,by simp [State.norm,hb,bH.norm],λhm=>ho (zc2 hm)⟩)
theorem Y8(hr:Rel X s a){l:List Nat}{R:Type}{K:State->Option R}{z:R}(h:uq l s K=some z):∃s',K s'=some z/\Rel X s' a:=by
 unfold uq at h;simp only at h;cases hb:(gQ [.undef] l 0 s.sl).all (λv=>v.all (SV.roots l)) with
 |false=>rw[hb] at h;cases h
 |true=>
  rw[hb] at h;refine⟨_,h,Rel.norm ?_⟩;have jO:s.bs=s.bs.headD none::s.bs.tail:=by
   have:=hr.ia;cases hs:s.bs with
   |nil=>rw[hs] at this;simp at this
   |cons b r=>rfl
  have cM:∀(id:Nat) B,(s.bs.headD none::gQ none l 0 s.bs.tail)[id]? =some (some B)->s.bs[id]? =some (some B):=by
   intro id B hB;rw[jO];cases id with
   |zero=>exact hB
   |succ id=>
    simp only[zax] at hB⊢;rw[L4] at hB;obtain⟨x,hx,he⟩:=nl.1 hB;rw[hx];cases hl:l.any (xz (0+id))<;>rw[hl] at he
    ·cases he
    ·rw[<-he];rfl
  refine⟨by rw[zm2];exact hr.size,?_,λi v x hv hx=> ?_,λid B hB=>hr.boxes id B (cM id B hB),λi v id t p hv hm=> ?_,hr.defers,hr.bF.less (λi v id c d j hv hm=> ?_) (λid c d x own hex oL ho=> ?_)⟩
  ·simp only[ls,zm2,List.length_tail];have:=hr.ia;omega
  ·rw[L4] at hv;obtain⟨y,hy,rfl⟩:=nl.1 hv;cases hl:l.any (xz (0+i)) with
   |false=>trivial
   |true=>exact hr.bZ i y x hy hx
  ·have wY:SV.roots l (.ptr id t p)=true:=by have:=OF.1 hb v (IH hv);exact OF.1 this _ hm
   rw[L4] at hv;obtain⟨y,hy,he⟩:=nl.1 hv;have uD:SV.ptr id t p∈y:=by
    cases hl:l.any (xz (0+i)) with
    |false=>rw[hl] at he;subst he;simp at hm
    |true=>rw[hl] at he;subst he;exact hm
   obtain⟨B,hB⟩:=hr.live i y id t p hy uD;refine⟨B,?_⟩;rw[jO] at hB;cases id with
   |zero=>exact hB
   |succ id=>
    simp only[zax] at hB⊢;rw[L4,hB];have:l.any (xz id)=true:=wY;have h2:l.any (xz (0+id))=true:=by rw[zat];exact this
    simp [this]
  ·rw[L4] at hv;obtain⟨y,hy,he⟩:=nl.1 hv;cases hl:l.any (xz (0+i)) with
   |false=>rw[hl] at he;subst he;simp at hm
   |true=>rw[hl] at he;subst he;exact⟨y,hy,hm,λh=>h⟩
  ·obtain⟨i,v,j,hv,hm⟩:=hex;have wY:SV.roots l (.bF id c d j)=true:=by have:=OF.1 hb v (IH hv);exact OF.1 this _ hm
   refine⟨x,own,?_,ho⟩;rw[jO] at oL;cases id with
   |zero=>exact oL
   |succ id=>
    simp only[zax] at oL⊢;rw[L4,oL];have:l.any (xz id)=true:=wY;have h2:l.any (xz (0+id))=true:=by rw[zat];exact this
    simp [this]
def aw.still(X:aw)(r n:Nat):aw:={X with ow:=λg=>if g=r then .ro n else X.ow g}
theorem Cj{r n id:Nat}(h:X.ow r= .box id){ad:Addr}{v:Value}(hs:X.aB ad v):(X.still r n).aB ad v:=by
 have bR:ad.block≠r:=λe=>by have:=hs.2.2;rw[e,h] at this;exact this
 refine⟨hs.1,hs.2.1,?_⟩;simp only[aw.still];rw[if_neg bR];exact hs.2.2
theorem UR{r n id:Nat}(h:X.ow r= .box id):Ext X (X.still r n) where
 aB:=λ_ _=>Cj h
 size:=zag _
 os:=rfl
 tape:=rfl
 output:=rfl
 β0:=rfl
 still:=λg _ bY=>by
  have bR:g≠r:=λe=>by rw[e,h] at bY;exact bY
  exact⟨by simp only[aw.still];rw[if_neg bR],rfl⟩
theorem bB.fm{r n id:Nat}(h:X.ow r= .box id){pl:Place}{e:TypeId}{k m:Nat}{v:Value}(ho:bB X pl e k m v):bB (X.still r n) pl e k m v:=by
 rcases ho with ho|⟨g,cap,cur,h1,h2,h3,h4,h5,h6⟩
 ·exact .inl ho
 ·have bR:g≠r:=λe=>by rw[e,h] at h6;cases h6
  exact .inr ⟨g,cap,cur,h1,h2,h3,h4,h5,by simp only[aw.still];rw[if_neg bR];exact h6⟩
theorem bp.fm{r n id:Nat}(h:X.ow r= .box id){pl:List Nat->Place}{t:Ty}{x:El t}{c:List Value}{own:List (List Nat)}(ho:bp X pl t x c own):bp (X.still r n) pl t x c own:=λp hp=>by obtain⟨e,t',xs,v,g0,g1,g2,g3⟩:=ho p hp;exact⟨e,t',xs,v,g0,g1,g2,g3.fm h⟩
theorem aC.fm{r n id:Nat}(h:X.ow r= .box id){pl:List Nat->Place}{sv:SV}{v:Value}(hk:∀bf c d j,sv= .bF bf c d j->bf≠id)(hr:aC X pl sv v):aC (X.still r n) pl sv v:=by
 cases sv with
 |aq t x own=>obtain⟨c,h1,h2,h3⟩:=hr;exact⟨c,h1.aj (λ_ _=>Cj h),h2,h3.fm h⟩
 |view t x=>obtain⟨ad,c,h1,h2,h3,h4⟩:=hr;exact⟨ad,c,h1,h2,h3.aj (λ_ _=>Cj h),λi u hi=>Cj h (h4 i u hi)⟩
 |cap f t x u y=>exact uf (λ_ _=>Cj h) hr
 |bF bf c d j=>
  obtain⟨r',h1,h2,h3⟩:=hr;have bR:r'≠r:=λe=>by rw[e,h] at h2;injection h2 with h2;exact hk bf c d j rfl h2.symm
  exact⟨r',h1,by simp only[aw.still];rw[if_neg bR];exact h2,h3⟩
 |_=>exact hr
theorem zbx(l:List Nat):∀(xs:List (Option bH)) (i j:Nat),(jN l i xs)[j]? =(xs[j]?).map λb=>bif l.any (xz (i+j)) then b.map (λB=>{B with own:=[]}) else b
 | [],i,j=>by simp [jN]
 |x::r,i,0=>by simp [jN]
 |x::r,i,j+1=>by simp only[jN,zax];rw[zbx l r (i+1) j,show i+1+j=i+(j+1) by omega]
theorem TY(l:List Nat):∀(xs:List (Option bH)) (i:Nat),(jN l i xs).length=xs.length
 | [],i=>rfl
 |x::r,i=>by simp [jN,TY l r]
theorem Rel.drop(hr:Rel X s a)(l:List Nat):Rel X (s.drop l) a where
 size:=hr.size
 ia:=by simp only[State.drop,TY];exact hr.ia
 bZ:=hr.bZ
 boxes:=λid B hB=>by
  simp only[State.drop,zbx] at hB;obtain⟨b0,h0,h1⟩:=nl.1 hB;cases hl:l.any (xz (0+id)) with
  |false=>rw[hl] at h1;simp only[cond_false] at h1;subst h1;exact hr.boxes id B h0
  |true=>rw[hl] at h1;simp only[cond_true] at h1;obtain⟨B0,rfl,rfl⟩:=nl.1 h1;obtain⟨r,g1,g2,g3⟩:=hr.boxes id B0 h0;exact⟨r,g1,g2,g3.less λp hp=>by cases hp⟩
 live:=λi v id t p hv hm=>by obtain⟨B,hB⟩:=hr.live i v id t p hv hm;simp only[State.drop,zbx,hB,zbA];cases l.any (xz (0+id))<;>exact⟨_,rfl⟩
 defers:=hr.defers
 bF:=hr.bF.less (λi l id c d j hl hm=>⟨l,hl,hm,λh=>h⟩) (λid c d x own _ hb ho=>by
  simp only[State.drop,zbx,hb,zbA];cases l.any (xz (0+id)) with
  |false=>exact⟨x,own,rfl,ho⟩
  |true=>exact⟨x,[],rfl,by simp⟩)
theorem am3(hr:Rel X s a){r:Nat}{R:Type}{K:State->Option R}{z:R}(h:ua E r s K=some z):∃Y s',Y.w=X.w/\Ext X Y/\K s'=some z/\Rel Y s' a:=by
 unfold ua at h;split at h
 ·exact⟨X,s,rfl,Ext.refl X,h,hr⟩
 rename_i d T hfz;split at h
 case h_2=>cases h
 rename_i id n ta tb e t ja hT;split at h
 case isFalse=>cases h
 rename_i heq;have:=Ty.aK heq;subst this;split at h
 case h_2=>cases h
 rename_i B hB;split at h
 case isFalse=>cases h
 rename_i dp;obtain⟨hb,rr,h1,how,cs,T',aF,dd,fD⟩:=MI hr hB dp;generalize(Ty.cast dp B.x:List (El ta))=xs at*;cases hn:xz n (aa xs) with
 |false=>rw[hn] at h;cases h
 |true=>
  rw[hn] at h;have hn:=DD hn;have hd:d<s.sl.length:=by
   rcases zbJ d s.sl.length with h1|h1
   ·exact h1
   ·simp [State.slot,IT h1] at ja
  have eP:=hr.slot d;rw[ja] at eP;obtain⟨r0,hβ,cap,hv,nR⟩:=(show aC X (.c d 0) (.ptr id (.aY (.hJ n) ta tb) []) _ from eP)
  rw[h1] at hβ;cases hβ;have ap:id<s.bs.length:=(AS.1 hb).1;have oP:=hr.pS hb (.inl (by rw[Ty.aK dp];rfl));refine⟨X.still rr (xs.length*ta.cells),_,rfl,UR how,h,?_,?_,λi l v hl hx=> ?_,λbf B' eS=> ?_,λi l j t p hl hm=> ?_,hr.defers,hr.bF.less (λi l tP c2 d2 j hl hm=> ?_) (λtP c2 d2 x2 lB hex lH ho=> ?_)⟩
  ·simpa using hr.size
  ·simpa using hr.ia
  ·replace hl:((s.sl.map (mU id)).set d [.aq (.sl e ta) xs []])[i]? =some l:=hl;rw[vc] at hl;split at hl
   ·rename_i wH;subst wH;rw[if_pos (by simpa using hd)] at hl;cases hl;have RT:a.tmps.getD d zaj=v:=by rw[NX,hx];rfl
    rw[RT] at hv;refine⟨[v],?_,rfl,nm⟩;rw[hv,hn];refine bm.AZ rfl (by omega) (λj y hj=>⟨⟨rr,0,none⟩,_,rfl,rfl,(fD j y hj).aj (λ_ _=>Cj how),λi u hi=> ?_⟩);have wN:=(AS.1 hj).1;have hle:(j+1)*ta.cells<=xs.length*ta.cells:=zai _ wN;rw[zaz,za5] at hle;rw[zae] at hi;split at hi
    case isFalse=>cases hi
    rename_i hik;rw[zas] at hi;refine⟨Ft rfl _,?_,?_⟩
    ·rw[jv,zat];show X.w.cell? _=_;simp only[zaP,aF];simpa using hi
    ·rw[jv,zat];show Ow.used (if rr=rr then .ro (xs.length*ta.cells) else X.ow rr) _;rw[if_pos rfl];show j*ta.cells+i<_;omega
   ·rw[IN] at hl;obtain⟨l0,h0,rfl⟩:=nl.1 hl;exact Vu ((hr.bZ i l0 v h0 hx).jD λj sv u hm kB=>kB.fm how (λbf c d k e e2=>oP i l0 c d k h0 (e2▸e▸IH hm)))
  ·replace eS:(s.bs.set id none)[bf]? =some (some B'):=eS;rw[vc] at eS;split at eS
   ·rename_i Rl;cases eS
   ·rename_i Rl;obtain⟨r',g1,g2,g3⟩:=hr.boxes bf B' eS;have bR:r'≠rr:=λe2=>by rw[e2,how] at g2;cases g2;exact Rl rfl
    exact⟨r',g1,by simp only[aw.still];rw[if_neg bR];exact g2,g3.move (λ_ _=>Cj how) rfl (λcs h5=>h5.fm how) λ_ _ g o _ ho hw=>⟨ho,by simp only[aw.still];rw[if_neg (λe3=>by rw[e3,how] at hw;cases hw)];exact hw⟩⟩
  ·replace hl:((s.sl.map (mU id)).set d [.aq (.sl e ta) xs []])[i]? =some l:=hl;rw[vc] at hl;split at hl
   ·rw[if_pos (by simpa using hd)] at hl;cases hl;simp at hm
   ·rw[IN] at hl;obtain⟨l0,h0,rfl⟩:=nl.1 hl;obtain⟨hm,bR⟩:=Xl hm;obtain⟨B2,df⟩:=hr.live i l0 j t p h0 hm;exact⟨B2,by show(s.bs.set id none)[j]? =_;rw[vc,if_neg (λe=>bR e.symm)];exact df⟩
  ·replace hl:((s.sl.map (mU id)).set d [.aq (.sl e ta) xs []])[i]? =some l:=hl;rw[vc] at hl;split at hl
   ·rw[if_pos (by simpa using hd)] at hl;cases hl;simp at hm
   ·rw[IN] at hl;obtain⟨l0,h0,rfl⟩:=nl.1 hl;obtain⟨g1,g2⟩:=J9 hm;exact⟨l0,h0,g1,g2⟩
  ·refine⟨x2,lB,?_,ho⟩;show(s.bs.set id none)[tP]? =_;rw[vc,if_neg (λe=> ?_)]
   ·exact lH
   ·subst e;rw[hb] at lH;cases lH;cases(Ty.aK dp)
theorem U3(hr:Rel X s a){id rr:Nat}{B:bH}(hb:s.bs[id]? =some (some B))(hs:B.t.bO=false)(h1:X.β id=some rr)(how:X.ow rr= .box id){cs:Array Value}{T:TypeId}(aF:X.w.heap[rr]? =some (.cells cs T (0,0)))(aO:bm X B.t B.x cs.toList){pl:List Nat->Place}{sv:SV}{v:Value}(hk:∀bf c d j,sv= .bF bf c d j->bf≠id)(h:aC X pl sv v):aC (X.still rr cs.size) pl (uu id B sv) v:=by
 have dy:=h.fm (n:=cs.size) how hk;cases sv with
 |ptr j t p=>
  unfold uu;simp only;cases hj:xz j id with
  |false=>exact dy
  |true=>
   have:=DD hj;subst this;simp only[cond_true];split
   case isFalse=>trivial
   rename_i heq;have:=Ty.aK heq;subst this;split
   case h_2=>trivial
   rename_i u y cM;obtain⟨r0,hβ,hv⟩:=h;rw[h1] at hβ;cases hβ;obtain⟨hv,dD⟩:=(sL hs).1 hv;obtain⟨k1,k2,k3⟩:=zfa aO dD cM;refine⟨_,_,hv,rfl,k3.aj (λ_ _=>Cj how),λi w hi=>⟨Ft rfl _,?_,?_⟩⟩
   ·exact zg3 aF hi
   ·rw[jv];show Ow.used (if rr=rr then .ro cs.size else X.ow rr) _;rw[if_pos rfl];rw[zae] at hi;split at hi
    case isFalse=>cases hi
    rw[zas] at hi;have:=(AS.1 hi).1;show _<cs.size;simpa using this
 |_=>exact dy
theorem ajm(hr:Rel X s a){id rr:Nat}{B:bH}(hb:s.bs[id]? =some (some B))(hs:B.t.bO=false)(h1:X.β id=some rr)(how:X.ow rr= .box id){cs:Array Value}{T:TypeId}(aF:X.w.heap[rr]? =some (.cells cs T (0,0)))(aO:bm X B.t B.x cs.toList){pl:Nat->List Nat->Place}{l:List SV}{v:Value}(hk:∀bf c d j,SV.bF bf c d j∈l->bf≠id)(h:cW X pl l v):cW (X.still rr cs.size) pl (l.map (uu id B)) v:=by
 match l,h with
 | [sv],h=>exact U3 hr hb hs h1 how aF aO (λbf c d j e=>hk bf c d j (by simp [e])) h
 | [],⟨vs,g1,g2,g3⟩=>exact⟨vs,g1,g2,λj sv u mX=>by simp at mX⟩
 |x::y::r,⟨vs,g1,g2,g3⟩=>refine⟨vs,g1,by simpa using g2,λj sv u mX hu=> ?_⟩;have mX:((x::y::r).map (uu id B))[j]? =some sv:=mX;rw[IN] at mX;obtain⟨s0,fF,rfl⟩:=nl.1 mX;exact U3 hr hb hs h1 how aF aO (λbf c d j e=>hk bf c d j (e▸IH fF)) (g3 j s0 u fF hu)
theorem am8{id:Nat}{B:bH}{l:List SV}{j:Nat}{t:Ty}{p:List Nat}(h:SV.ptr j t p∈l.map (uu id B)):SV.ptr j t p∈l/\j≠id:=by
 obtain⟨s0,fF,he⟩:=zau.1 h;unfold uu at he;cases s0 with
 |ptr j' t' p'=>
  simp only at he;cases hb:xz j' id with
  |true=>
   rw[hb] at he;simp only[cond_true] at he;split at he
   ·split at he<;>cases he
   ·cases he
  |false=>rw[hb] at he;cases he;exact⟨fF,λe=>zd4 hb e⟩
 |_=>simp only at he;cases he
theorem am7{id:Nat}{B:bH}{l:List SV}{i j:Nat}{a b:Ty}(h:SV.bF i a b j∈l.map (uu id B)):SV.bF i a b j∈l/\(l=[.bF i a b j]->l.map (uu id B)=[.bF i a b j]):=by
 refine⟨?_,λe=>by rw[e];rfl⟩;obtain⟨s0,fF,he⟩:=zau.1 h;unfold uu at he;cases s0 with
 |ptr j' t' p'=>
  simp only at he;cases hb:xz j' id with
  |true=>
   rw[hb] at he;simp only[cond_true] at he;split at he
   ·split at he<;>cases he
   ·cases he
  |false=>rw[hb] at he;cases he
 |_=>simp only at he;first|(cases he;done)|(rw[<-he];exact fF)
theorem aee(hr:Rel X s a){id:Nat}{R:Type}{K:State->Option R}{z:R}(h:zsm id s K=some z):∃Y s',Y.w=X.w/\Ext X Y/\K s'=some z/\Rel Y s' a:=by
 unfold zsm at h;split at h
 case h_2=>cases h
 rename_i B hB;split at h
 case isTrue=>cases h
 rename_i hs;have hs:B.t.bO=false:=by simpa using hs
 have hb:=sN hB;obtain⟨rr,h1,wF⟩:=hr.boxes id B hb;obtain⟨cs,T,aF,aO,how,_⟩:=wF.cells hs;refine⟨X.still rr cs.size,_,rfl,UR how,h,by simpa using hr.size,by simpa using hr.ia,λi l v hl hx=> ?_,λbf B' eS=> ?_,λi l j t p hl hm=> ?_,hr.defers,hr.bF.less (λi l tP c2 d2 j hl hm=> ?_) (λtP c2 d2 x2 lB hex lH ho=> ?_)⟩
 ·replace hl:(s.sl.map λl=>l.map (uu id B))[i]? =some l:=hl;rw[IN] at hl;obtain⟨l0,h0,rfl⟩:=nl.1 hl;exact ajm hr hb hs h1 how aF aO (λbf c d j hm e=>hr.pS hb (.inl (zff hs)) i l0 c d j h0 (e▸hm)) (hr.bZ i l0 v h0 hx)
 ·replace eS:(s.bs.set id none)[bf]? =some (some B'):=eS;rw[vc] at eS;split at eS
  ·split at eS<;>cases eS
  ·rename_i Rl;obtain⟨r',g1,g2,g3⟩:=hr.boxes bf B' eS;have bR:r'≠rr:=λe2=>by rw[e2,how] at g2;cases g2;exact Rl rfl
   exact⟨r',g1,by simp only[aw.still];rw[if_neg bR];exact g2,g3.move (λ_ _=>Cj how) rfl (λcs h5=>h5.fm how) λ_ _ g o _ ho hw=>⟨ho,by simp only[aw.still];rw[if_neg (λe3=>by rw[e3,how] at hw;cases hw)];exact hw⟩⟩
 ·replace hl:(s.sl.map λl=>l.map (uu id B))[i]? =some l:=hl;rw[IN] at hl;obtain⟨l0,h0,rfl⟩:=nl.1 hl;obtain⟨hm,bR⟩:=am8 hm;obtain⟨B2,df⟩:=hr.live i l0 j t p h0 hm;exact⟨B2,by show(s.bs.set id none)[j]? =_;rw[vc,if_neg (λe=>bR e.symm)];exact df⟩
 ·replace hl:(s.sl.map λl=>l.map (uu id B))[i]? =some l:=hl;rw[IN] at hl;obtain⟨l0,h0,rfl⟩:=nl.1 hl;obtain⟨g1,g2⟩:=am7 hm;exact⟨l0,h0,g1,g2⟩
 ·refine⟨x2,lB,?_,ho⟩;show(s.bs.set id none)[tP]? =_;rw[vc,if_neg (λe=> ?_)]
  ·exact lH
  ·subst e;rw[hb] at lH;cases lH;cases hs
theorem ztd{R:Type}{K:State->Option R}{z:R}:∀(l:List Nat) (X:aw) (s:State),Rel X s a->Ov l s K=some z->∃Y s',Y.w=X.w/\Ext X Y/\K s'=some z/\Rel Y s' a
 | [],X,s,hr,h=>⟨X,s,rfl,Ext.refl X,h,hr⟩
 |id::r,X,s,hr,h=>by obtain⟨Y,s1,h1,h2,h3,h4⟩:=aee hr h;obtain⟨Z,s2,k1,k2,k3,k4⟩:=ztd r Y s1 h4 h3;exact⟨Z,s2,k1.trans h1,h2.trans k2,k3,k4⟩
def Fr(E:Env)(X0:aw):Prop:=E.sp≠none->∀g pl n,X0.ow g≠ .row pl n
def U9(P:Program)(E:Env)(C:ai)(k:Nat)(c:Code):Prop:=
 ∀(X0 X:aw) (s:State) (a:Act) (e:Ex) (s':State),Fr E X0->Ext X0 X->Rel X s a->ev E (C (Ex×State)) k c s (λe s=>some (e,s))=some (e,s')->
  ∀(Q:Exit->Act->World->Prop),(∀Y a',Ext X0 Y->Rel Y s' a'->Q e.exit' a' Y.w)->c.wp P Q a X.w
theorem amJ(hr:Rel X s a){k r:Nat}{R:Type}{K:State->Option R}{z:R}(h:n9 E k r s K=some z):∃s',K s'=some z/\Rel X s' a:=by
 unfold n9 at h;split at h
 ·exact⟨s,h,hr⟩
 ·obtain⟨s',h1,h2⟩:=Y8 hr h;refine⟨s',?_,h2⟩;unfold bq at h1;split at h1
  ·cases h1
  ·exact h1
theorem aiz{C:ai}(hC:C.Nat){k:Nat}{b:Code}(hb:U9 P E C k b){l lx:List Nat}{Q:Exit->Act->World->Prop}{e':Ex}{s':State}{X0:aw}(hF:Fr E X0)(hQ:∀Y a',Ext X0 Y->Rel Y s' a'->Q e'.exit' a' Y.w):
 ∀(n:Nat) (a:Act) (w:World),(∃X s,X.w=w/\Ext X0 X/\Rel X s a/\gS (ev E (C (Ex×State)) k b) l lx n s (λe s=>some (e,s))=some (e',s'))->
  ∃m,n=m+1/\b.wp P (Exit.then (λa w=>∃X s,X.w=w/\Ext X0 X/\Rel X s a/\gS (ev E (C (Ex×State)) k b) l lx m s (λe s=>some (e,s))=some (e',s')) Q) a w:=by
 rintro n a w ⟨X,s,rfl,bc,hr,h⟩;cases n with
 |zero=>cases h
 |succ m=>
  refine⟨m,rfl,?_⟩;simp only[gS] at h;obtain⟨⟨e1,s2⟩,h1,h2⟩:=kE (yx hC b _ (λe s=>some (e,s)) (K:=λz=>match z.1 with
   | .normal=>uq l z.2 λs=>gS (ev E (C (Ex×State)) k b) l lx m s (λe s=>some (e,s))
   |e=>uq lx z.2 λs=>some (e,s)) (λe s=>by cases e<;>rfl) s) h
  refine hb X0 X s a e1 s2 hF bc hr h1 _ λY a' cr bD=> ?_;cases e1 with
  |normal=>obtain⟨s3,h3,GH⟩:=Y8 bD h2;exact⟨Y,s3,rfl,cr,GH,h3⟩
  |exit id=>obtain⟨s3,h3,GH⟩:=Y8 bD h2;cases h3;exact hQ Y a' cr GH
  |ret=>obtain⟨s3,h3,GH⟩:=Y8 bD h2;cases h3;exact hQ Y a' cr GH
theorem zbn(hE:ak P E)(hm:P.follows .mixedOrders=true){C:ai}(hC:C.Nat)(hf:∀f,dh P C f){id:Nat}{ops:Array Oper}{d:Bool}{X00 X0:aw}{s0:State}{a:Act}{e:Ex}{s':State}(hx:Ext X00 X0)(hr0:Rel X0 s0 a)(h0:MH E (C (Ex×State)) id ops d s0 ((λe s=>some (e,s)) Ex.normal)=some (e,s')){Q:Exit->Act->World->Prop}(hQ0:∀Y a',Ext X00 Y->Rel Y s' a'->Q e.exit' a' Y.w):(zeH id ops d).wp P Q a X0.w:=by
 unfold MH at h0;obtain⟨X1,s1,hw1,EG,h01,dX⟩:=am3 hr0 h0;obtain⟨X,s,x8,cr,h,hr⟩:=ztd _ X1 s1 dX h01;have hw:X.w=X0.w:=x8.trans hw1;have EF:Ext X0 X:=EG.trans cr;clear h01 dX hw1 x8 EG cr;have hQ:∀Y a',Ext X Y->Rel Y s' a'->Q e.exit' a' Y.w:=λY a' bc bD=>hQ0 Y a' (hx.trans (EF.trans bc)) bD;rw[<-hw];clear h0 hr0 hQ0 EF hw;cases d with
 |true=>simp only[cond_true] at h;obtain⟨s1,h1,h2⟩:=kE (Zc hC (F:=λs=>some (Ex.normal,s)) (G:=some) (K:=λs=>some (Ex.normal,s)) (λ_=>rfl) ops.toList 0 s []) h;cases h2;exact aie hE hm hC hf hr h1 hQ
 |false=>
  simp only[cond_false] at h;obtain⟨s1,h1,h2⟩:=kE (L8 hC (F:=λs=>some (Ex.normal,s)) (G:=some) (K:=λs=>some (Ex.normal,s)) (λ_=>rfl) ops.toList s) h;cases h2;refine wp_region (Wn hE hC hf (zaJ ops.size) X s a hr (λi hi=>zao.1 hi) ?_ hQ);have:(zaJ ops.size).map (λi=>ops.getD i default)=ops.toList:=by
   apply zaF;intro i;rw[IN];by_cases hi:i<ops.size
   ·simp [hi]
   ·simp [hi]
  rw[this];exact h1
theorem L1(hE:ak P E)(hm:P.follows .mixedOrders=true){C:ai}(hC:C.Nat)(hf:∀f,dh P C f)(k:Nat):∀c:Code,U9 P E C k c
 | .skip=>λX0 X s a e s' hF hx hr h Q hQ=>by simp only[ev,AI,zcT] at h;obtain⟨rfl,rfl⟩:=h;exact wp_skip (hQ X a hx hr)
 | .region id ops d=>λX0 X s a e s' hF hx hr h Q hQ=>by
   simp only[ev] at h;split at h
   ·rename_i j q nj;cases hj:xz id j with
    |true=>
     rw[hj,cond_true] at h;cases d with
     |true=>cases h
     |false=>
      cases hq:xz q.2.2 0 with
      |true=>simp only[hq,cond_true] at h;obtain⟨s1,h1,h2⟩:=kE (Wa hC (F:=λs=>some (Ex.normal,s)) (G:=some) (K:=λs=>some (Ex.normal,s)) (λ_=>rfl)) h;cases h2;exact aiM hE hC hf (hF (by rw[nj];exact λe=>by cases e)) hx hr h1 hQ
      |false=>
      simp only[hq,cond_false] at h;obtain⟨s1,h1,h2⟩:=kE (Wo (F:=λs=>some (Ex.normal,s)) (G:=some) (K:=λs=>some (Ex.normal,s)) (λ_=>rfl)) h;cases h2;exact ajd hE (hF (by rw[nj];exact λe=>by cases e)) hx hr h1 hQ
    |false=>rw[hj,cond_false] at h;exact zbn hE hm hC hf hx hr h hQ
   ·split at h
    ·exact zbn hE hm hC hf hx hr h hQ
    ·rename_i m l k hsg;cases hi:xz id m with
     |true=>
      rw[hi,cond_true] at h;cases d with
      |true=>cases h
      |false=>obtain⟨s1,h1,h2⟩:=kE (XA hC (F:=λs=>some (Ex.normal,s)) (G:=some) (K:=λs=>some (Ex.normal,s)) (λ_=>rfl)) h;cases h2;exact amK hE hC hf hx hr h1 hQ
     |false=>
     rw[hi,cond_false] at h;cases wM:xz id l with
     |true=>
      rw[wM,cond_true] at h;cases d with
      |false=>cases h
      |true=>obtain⟨s1,h1,h2⟩:=kE (VW hC (F:=λs=>some (Ex.normal,s)) (G:=some) (K:=λs=>some (Ex.normal,s)) (λ_=>rfl)) h;cases h2;exact aiw hE hm hC hf hx hr h1 hQ
     |false=>rw[wM,cond_false] at h;exact zbn hE hm hC hf hx hr h hQ
 | .seq x y=>λX0 X s a e s' hF hx hr h Q hQ=>by
   simp only[ev] at h;obtain⟨⟨e1,s1⟩,h1,h2⟩:=kE (yx hC x _ (λe s=>some (e,s)) (K:=λz=>match z.1 with
    | .normal=>n9 E k (pY y) z.2 λs=>ev E (C (Ex×State)) k y s (λe s=>some (e,s))
    |e=>some (e,z.2)) (λe s=>by cases e<;>rfl) s) h
   refine wp_seq (L1 hE hm hC hf k x X0 X s a e1 s1 hF hx hr h1 _ λY a' bc bD=> ?_);cases e1 with
   |normal=>obtain⟨s2,h2,bD⟩:=amJ bD h2;exact L1 hE hm hC hf k y X0 Y s2 a' e s' hF bc bD h2 Q hQ
   |exit id=>cases h2;exact hQ Y a' bc bD
   |ret=>cases h2;exact hQ Y a' bc bD
 | .cond c x y=>λX0 X s a e s' hF hx hr h Q hQ=>by
   simp only[ev] at h;have hc:=hr.aI c;split at h
   case h_2=>cases h
   rename_i p w hs;rw[hs] at hc;have hv:=YX hc;have dX:Rel X (s.au (xq c) (bl p)) a:=by
    cases c with
    |tmp i=>
     have ja:s.slot i=[.aq .bool p w]:=by
      have hh:one (s.slot i)= .aq .bool p w:=hs
      match hm:s.slot i,hh with
      | [sv],hh=>have Gu:sv= .aq .bool p w:=hh;rw[Gu]
      | [],hh=>cases hh
      |_::_::_,hh=>cases hh
     exact(hr.know ja).1
    |_=>exact hr
   refine wp_cond_split hv (λhp=> ?_) (λhp=> ?_)
   ·subst hp;exact L1 hE hm hC hf k x X0 X _ a e s' hF hx dX h Q hQ
   ·subst hp;exact L1 hE hm hC hf k y X0 X _ a e s' hF hx dX h Q hQ
 | .block id b=>λX0 X s a e s' hF hx hr h Q hQ=>by
   simp only[ev] at h;obtain⟨⟨e1,s1⟩,h1,h2⟩:=kE (yx hC b _ (λe s=>some (e,s)) (K:=λz=>match z.1 with
    | .exit j=>bif xz j id then some (.normal,z.2) else some (.exit j,z.2)
    |e=>some (e,z.2)) (λe s=>by cases e<;>rfl) s) h
   refine wp_block (L1 hE hm hC hf k b X0 X s a e1 s1 hF hx hr h1 _ λY a' bc bD=> ?_);cases e1 with
   |normal=>cases h2;exact hQ Y a' bc bD
   |ret=>cases h2;exact hQ Y a' bc bD
   |exit j=>
    simp only at h2;show(if j=id then Q .normal a' Y.w else Q (.exit j) a' Y.w);cases hj:xz j id with
    |true=>rw[hj] at h2;cases h2;rw[if_pos (DD hj)];exact hQ Y a' bc bD
    |false=>rw[hj] at h2;cases h2;rw[if_neg (zd4 hj)];exact hQ Y a' bc bD
 | .loop b=>λX0 X s a e s' hF hx hr h Q hQ=>by simp only[ev] at h;obtain⟨s1,h,dX⟩:=Y8 (hr.drop _) h;exact ajr _ (aiz hC (L1 hE hm hC hf k b) hF (Q:=Q) hQ) ⟨X,s1,rfl,hx,dX,h⟩
 | .exit id=>λX0 X s a e s' hF hx hr h Q hQ=>by simp only[ev,AI,zcT] at h;obtain⟨rfl,rfl⟩:=h;exact wp_exit (hQ X a hx hr)
 | .ret=>λX0 X s a e s' hF hx hr h Q hQ=>by simp only[ev,AI,zcT] at h;obtain⟨rfl,rfl⟩:=h;exact wp_ret (hQ X a hx hr)
 | .rangeFunc .. =>λX0 X s a e s' hF hx hr h Q hQ=>by simp only[ev] at h;cases h
 | .scope _=>λX0 X s a e s' hF hx hr h Q hQ=>by simp only[ev] at h;cases h
 | .label _=>λX0 X s a e s' hF hx hr h Q hQ=>by simp only[ev] at h;cases h
 | .goto _=>λX0 X s a e s' hF hx hr h Q hQ=>by simp only[ev] at h;cases h
 | .refuse _=>λX0 X s a e s' hF hx hr h Q hQ=>by simp only[ev] at h;cases h
end Go.Ref

