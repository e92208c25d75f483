/- No condition. -/
import Derived.Test.YtpjkbbihjoflnaaGreatDoorK0
import Derived.WideKeyRuns
import Derived.MapKept
import Derived.Laws.CopyRow
set_option linter.unusedVariables false
set_option linter.unusedSimpArgs false
set_option maxRecDepth 100000
namespace Go.Ref
open Go
variable {P:Program} {E:Env} {X:ax} {s:State} {a:Act} {o:Oper} {u:Out}
inductive Grown(w w':World)(e:TypeId)(k:Nat)(vb v':Value)(cx cy:List Value)(n:Nat):Prop where
 |same (h:w'=w) (hv:v'=vb) (hy:cy=[])
 |room (g cap:Nat) (cur gB:Array Value) (hb:∃m,vb= .slice (some ⟨g,0,none⟩) m cap) (hg:w.heap[g]? =some (.cells cur e (0,0))) (hv:v'= .slice (some ⟨g,0,none⟩) n cap) (hn:n<=cap) (hm:cap<=maxLen)
   (hw:w'=w.setRow g gB) (hs:gB.size=cap*k) (ht:gB.toList.take (n*k)=cx++cy)
 |new (cap:Nat) (gB:Array Value) (hv:v'= .slice (some ⟨w.heap.size,0,none⟩) n cap) (hn:n<=cap) (hm:cap<=maxLen) (hw:w'=w.drew.alloc (.cells gB e)) (hs:gB.size=cap*k) (ht:gB.toList.take (n*k)=cx++cy)
theorem adP(hE:ak P E){T ty e:TypeId}{t:Ty}(hT:E.ty T=some (.sl e t))(hk:0<t.cells)(n9:E.bytes e≠0){xs ys:List (El t)}{vb vx:Value}{pl:Place}
 (bT:bu X pl e t.cells xs.length vb) {cx cy:List Value} (rx:bh X (.arr xs.length t) xs cx) (sx:∀g m c,vb= .slice (some ⟨g,0,none⟩) m c->∀(i:Nat) v,cx[i]? =some v->X.ay ((⟨g,0,none⟩:Addr).add i) v)
 (ry:bh X (.arr ys.length t) ys cy) (hvx:∃A c,vx= .slice A ys.length c/\(A=none->ys=[])/\∀ad,A=some ad->∀(i:Nat) v,cy[i]? =some v->X.ay (ad.add i) v)
 (hbound:(xs.length+ys.length)*E.bytes e<=140737488355328):
 ∃v' w',(Builtin.append_ #[T,T] ty #[vb,vx]).run P X.w= .ok v' w'/\Grown X.w w' e t.cells vb v' cx cy (xs.length+ys.length)/\(v'= .slice none 0 0->xs.length+ys.length=0):=by
 obtain⟨hu,he⟩:=(hE.ty T _ hT).dC
 obtain⟨i,hi,b9,gF,hz⟩:=(hE.ty e t he).info
 have LR:(eb t (zp t)).cells.size=t.cells:=by rw[vZ (tc X t)];simp [vE]
 have xU:cx.length=xs.length*t.cells:=rx.2.1
 have uQ:cy.length=ys.length*t.cells:=ry.2.1
 have h1:∀u∈cy,u.oneCell'=true:=ry.one
 have hle:xs.length+ys.length<=140737488355328:=Nat.le_trans (Nat.le_mul_of_pos_right _ (Nat.pos_of_ne_zero n9)) hbound
 have AO:xs.length+ys.length<=maxLen:=by simp only[maxLen];omega
 obtain⟨A,c,rfl,hA,HE⟩:=hvx
 cases A with
 |none=>
  have vf:=hA rfl
  subst vf
  have hcy:cy=[]:=List.eq_nil_of_length_eq_zero (by simpa using uQ)
  subst hcy
  rcases bT with⟨rfl,hn⟩|⟨g,cap,cur,rfl,hg,Ls,sT,eU,how⟩
  ·refine⟨.slice none 0 0,X.w,?_,.same rfl rfl rfl,fun _=>by simp [hn]⟩
   simp [Builtin.append_,run_underlying hu,sizeOf,typeInfo,hi,Builtin.lenOf,Builtin.firstCells]
  ·refine⟨_,X.w,?_,.same rfl rfl rfl,fun e=>by cases e⟩
   simp [Builtin.append_,run_underlying hu,sizeOf,typeInfo,hi,Builtin.lenOf,Builtin.firstCells,Ls,storeCells]
 |some ad=>
  have hny:∀j u,cy[j]? =some u->X.w.cell? (ad.add j)=some u:=fun j u hj=>(HE ad rfl j u hj).2.1
  have mG:∀(old:Nat),(cx.toArray++cy.toArray++Builtin.zeroCells (eb t (zp t)).cells (grownCap X.w (xs.length+ys.length) old e-(xs.length+ys.length))).size=grownCap X.w (xs.length+ys.length) old e*t.cells/\
   (cx.toArray++cy.toArray++Builtin.zeroCells (eb t (zp t)).cells (grownCap X.w (xs.length+ys.length) old e-(xs.length+ys.length))).toList.take ((xs.length+ys.length)*t.cells)=cx++cy:=by
   intro old
   have Td:=grownCap_ge X.w (xs.length+ys.length) old e
   refine⟨?_,?_⟩
   ·simp only[Array.size_append,List.size_toArray,size_zeroCells,LR,xU,uQ,<-Nat.add_mul]
    congr 1
    omega
   ·have hl:(cx++cy).length=(xs.length+ys.length)*t.cells:=by rw[List.length_append,xU,uQ,Nat.add_mul]
    rw[<-hl]
    simp only[Array.toList_append]
    exact List.take_left
  rcases bT with⟨rfl,hn⟩|⟨g,cap,cur,rfl,hg,Ls,sT,eU,how⟩
  ·have xN:cx=[]:=List.eq_nil_of_length_eq_zero (by rw[xU,hn,Nat.zero_mul])
   subst xN
   by_cases hm:ys.length=0
   ·have hcy:cy=[]:=List.eq_nil_of_length_eq_zero (by rw[uQ,hm,Nat.zero_mul])
    subst hcy
    refine⟨.slice none 0 0,X.w,?_,.same rfl rfl rfl,fun _=>by omega⟩
    simp [Builtin.append_,run_underlying hu,sizeOf,typeInfo,hi,Builtin.lenOf,Builtin.firstCells,hm,loadCells,loadCellsFrom]
   ·have Bi:xs.length=0:=hn
    rw[Bi,Nat.zero_add] at hbound hle AO
    have hr:=run_append_nil (P:=P) X.w T ty e i (eb t (zp t)) hu hi hz ad ys.length c cy (by rw[b9];exact uQ) hny (by omega) (by omega) (by rw[gF];omega)
    obtain⟨c1,c2⟩:=mG 0
    have Td:=grownCap_ge X.w (xs.length+ys.length) 0 e
    have sT:=grownCap_le_maxLen X.w (xs.length+ys.length) 0 e (by rw[Bi,Nat.zero_add];exact AO)
    refine⟨_,_,hr,.new (grownCap X.w (xs.length+ys.length) 0 e) _ (by rw[Bi,Nat.zero_add]) Td sT ?_ c1 c2,fun e=>by cases e⟩
    rw[Bi,Nat.zero_add]
    simp
  ·by_cases nL:xs.length+ys.length<=cap
   ·have du:xs.length*i.size+cy.length<=cur.size:=by rw[b9,uQ,eU,<-Nat.add_mul];exact Nat.mul_le_mul_right _ nL
    have hr:=run_append_room (P:=P) X.w T ty e i hu hi g xs.length cap cur hg ad ys.length c cy (by rw[b9];exact uQ) hny h1 nL du
    refine⟨_,_,hr,.room g cap cur _ ⟨_,rfl⟩ hg rfl nL sT rfl ?_ ?_,fun e=>by cases e⟩
    ·simp only[List.size_toArray,List.length_append,List.length_take,List.length_drop,Array.length_toList]
     omega
    ·have nM:cur.toList.take (xs.length*i.size)=cx:=by
      rw[b9]
      apply List.ext_getElem?
      intro q
      by_cases hq:q<xs.length*t.cells
      ·rw[List.getElem?_take,if_pos hq]
       have LN:=List.getElem?_eq_getElem (l:=cx) (i:=q) (by rw[xU];exact hq)
       have:=(sx g _ _ rfl q _ LN).2.1
       rw[jq,Nat.zero_add] at this
       simp only[World.cell?,hg] at this
       rw[LN]
       simpa using this
      ·rw[List.getElem?_eq_none (by rw[List.length_take];omega),List.getElem?_eq_none (by omega)]
     have hl:(cx++cy).length=(xs.length+ys.length)*t.cells:=by rw[List.length_append,xU,uQ,Nat.add_mul]
     rw[nM,<-hl]
     simp only[List.take_left]
   ·have holds:∀j u,cx[j]? =some u->X.w.cell? ((⟨g,0,none⟩:Addr).add j)=some u:=fun j u hj=>(sx g _ _ rfl j u hj).2.1
    have hr:=run_append_grow (P:=P) X.w T ty e i (eb t (zp t)) hu hi hz ⟨g,0,none⟩ xs.length cap cx (by rw[b9];exact xU) holds ad ys.length c cy (by rw[b9];exact uQ) hny (by omega) (by omega) (growslice_fits (by omega) (by rw[gF];exact hbound))
    obtain⟨c1,c2⟩:=mG cap
    exact⟨_,_,hr,.new _ _ rfl (grownCap_ge _ _ _ _) (grownCap_le_maxLen _ _ _ _ AO) rfl c1 c2,fun e=>by cases e⟩
theorem bu.aaf{X:ax}{s:State}{pl:Place}{e:TypeId}{k n:Nat}{v:Value}(h:bu X pl e k n v)(hf:¬dc s pl)(q:Place):∃Y,eD s X Y/\bu Y q e k n v:=by
 rcases h with h|⟨g,cap,cur,h1,h2,h3,h4,h5,h6⟩
 ·exact⟨X,eD.refl s X,.inl h⟩
 ·refine⟨{X with ow:=fun g'=>if g'=g then .row q (n*k) else X.ow g'},⟨rfl,rfl,fun g'=> ?_⟩,.inr ⟨g,cap,cur,h1,h2,h3,h4,h5,by simp⟩⟩
  by_cases e:g'=g
  ·subst e;exact .inr ⟨pl,_,q,h6,hf,by simp⟩
  ·exact .inl (by simp [e])
theorem apD{R:Type}{t t':Ty}{x:El t'}{w:List (List Nat)}{K:El t->Option R}{z:R}(h:(SV.aj t' x w).el t K=some z):∃he:t'.cq t=true,K (Ty.cast he x)=some z:=by
 simp only[SV.el] at h
 split at h
 ·rename_i he;exact⟨he,h⟩
 ·cases h
theorem adf(hE:ak P E)(hr:Rel X s a){ops:List Oper}{dT:Array Operand}{ts:Array TypeId}(ho:o.op= .call ⟨.builtin .append,dT,ts⟩){C:FuncId->bV Out}(h:act E C ops o s some=some u):aH P X s a o u:=by
 unfold act at h
 simp only[ho] at h
 split at h
 case h_2=>cases h
 rename_i b x T U sY CC
 have has:dT= #[b,x]:=by rw[<-Array.toArray_toList (xs:=dT),sY]
 have lg:ts= #[T,U]:=by rw[<-Array.toArray_toList (xs:=ts),CC]
 subst has lg
 have hb:=hr.aG b
 have hx:=hr.aG x
 unfold R5 at h
 split at h
 case isTrue=>cases h
 rename_i hTU
 have hTU:T=U:=by
  have:T.beq U=true:=by cases si:Nat.beq T U<;>simp_all
  exact Nat.eq_of_beq_eq_true this
 subst hTU
 split at h
 case h_2=>cases h
 rename_i e t hT
 split at h
 case isTrue=>cases h
 rename_i h0
 have h0:Nat.beq (E.bytes e) 0=false/\Nat.beq t.cells 0=false:=by
  cases h1:Nat.beq (E.bytes e) 0<;>cases h2:Nat.beq t.cells 0<;>simp_all
 have n9:E.bytes e≠0:=fun e0=>by rw[e0] at h0;simp at h0
 have hk:0<t.cells:=by
  rcases Nat.eq_zero_or_pos t.cells with e0|e0
  ·rw[e0] at h0;simp at h0
  ·exact e0
 have key:∀(xs ys:List (El t)) (cl:List (Nat×Nat)) (pl:Place),¬dc (s.close cl) pl->bu X pl e t.cells xs.length (a.eval b)->bh X (.sl e t) xs [a.eval b]->bh X (.sl e t) ys [a.eval x]->
  (xs.length+ys.length)*E.bytes e<=140737488355328->aH P X s a o {v:=[.aj (.sl e t) (xs++ys:List (El t)) [[]]],cl:=cl}:=by
  intro xs ys cl pl HD bT Dp l6 hbound
  obtain⟨A1,c1,Be,Bv⟩:=Dp
  have e1:a.eval b= .slice A1 xs.length c1:=by simpa using Be
  obtain⟨A2,c2,LM,Ma⟩:=l6
  have e2:a.eval x= .slice A2 ys.length c2:=by simpa using LM
  obtain⟨_,_,cx,rx,_,sx⟩:=zb4 (X:=X) (e:=e) (show bh X (.sl e t) xs [.slice A1 xs.length c1] from⟨A1,c1,rfl,Bv⟩)
  obtain⟨_,_,cy,ry,ny,sy⟩:=zb4 (X:=X) (e:=e) (show bh X (.sl e t) ys [.slice A2 ys.length c2] from⟨A2,c2,rfl,Ma⟩)
  have sx':∀g m c,a.eval b= .slice (some ⟨g,0,none⟩) m c->∀(i:Nat) v,cx[i]? =some v->X.ay ((⟨g,0,none⟩:Addr).add i) v:=by
   intro g m c hv
   rw[e1] at hv
   injection hv with hA
   exact sx _ hA
  obtain⟨v',w',aX,CN,uU⟩:=adP (ty:=o.type) hE hT hk n9 bT rx sx' ry ⟨A2,c2,e2,ny,sy⟩ hbound
  have xU:cx.length=xs.length*t.cells:=rx.2.1
  have uQ:cy.length=ys.length*t.cells:=ry.2.1
  have LD:(execOp a.eval o).run P X.w= .ok (.value v') w':=by
   simp only[execOp,ho,resolve,invoke,builtin,Sem.run_bind,Sem.run_pure,Result.andThen_ok,List.map_toArray,List.map_cons,List.map_nil,aX]
  have fin:∀(Y:ax),Y.w=w'->Mod (s.close cl) X Y->bh Y (.arr (xs.length+ys.length) t) (xs++ys:List (El t)) (cx++cy)->bu Y (.c (o.dst.getD 0) 0 []) e t.cells (xs.length+ys.length) v'->
   bh Y (.sl e t) (xs++ys:List (El t)) [v']->aH P X s a o {v:=[.aj (.sl e t) (xs++ys:List (El t)) [[]]],cl:=cl}:=by
   intro Y hY hm fp ho2 CX
   refine⟨Y,v',.inl (by rw[hY];exact LD),hm.ext,((hr.close cl).mod hm).fin ⟨[v'],CX,rfl,PR ?_⟩ (fun id t p HC=>by simp at HC)⟩
   rw[List.length_append]
   exact ho2
  cases CN with
  |same h1 h2 h3=>
   subst h2
   have hy0:ys=[]:=by
    have:ys.length=0:=by
     rcases Nat.mul_eq_zero.1 (show ys.length*t.cells=0 by rw[<-uQ,h3];rfl) with h|h
     ·exact h
     ·omega
    exact List.eq_nil_of_length_eq_zero this
   subst hy0
   obtain⟨Y,mY,hO2⟩:=bu.aaf (s:=s.close cl) bT HD (.c (o.dst.getD 0) 0 [])
   refine fin Y (by rw[mY.w,h1]) mY.mod ?_ (by simpa using hO2) ?_
   ·have:=(HO rx ry)
    exact this.ai (fun _ _=>mY.ay.1)
   ·rw[List.append_nil]
    exact bh.ai (fun _ _=>mY.ay.1) (show bh X (.sl e t) xs [a.eval b] from⟨A1,c1,Be,Bv⟩)
  |new cap gB hv hn hm hw hs ht=>
   let Y:ax:=⟨w',fun g=>if g=X.w.heap.size then .row (.c (o.dst.getD 0) 0 []) ((xs.length+ys.length)*t.cells) else X.ow g,X.β⟩
   have xS:fj (s.close cl) X Y:=⟨by simp [Y,hw],by simp only[Y,hw];rfl,by simp only[Y,hw];rfl,by simp only[Y,hw];rfl,fun g hg=>⟨by simp only[Y];rw[if_neg (by omega)],by simp only[Y,hw];exact RowKit.Below.heap_alloc _ _ _ hg⟩,rfl,fun _ _ _=>rfl⟩
   have aE:Y.w.heap[X.w.heap.size]? =some (.cells gB e (0,0)):=by simp only[Y,hw];exact heap_alloc_new X.w.drew _
   have how:Y.ow X.w.heap.size= .row (.c (o.dst.getD 0) 0 []) ((xs.length+ys.length)*t.cells):=by simp [Y]
   have aM:=(HO rx ry).ai (fun _ _=>xS.ay)
   refine fin Y rfl xS.mod aM (.inr ⟨_,cap,gB,hv,aE,hn,hm,hs,how⟩) ?_
   rw[hv,<-List.length_append]
   exact zj3 (cs:=cx++cy) aE (by rw[List.length_append];exact how) (by rw[List.length_append];exact ht) (by rw[List.length_append];exact aM) (by rw[List.length_append];exact hn)
  |room g cap cur gB mF hg hv hn hm hw hs ht=>
   obtain⟨m,CE⟩:=mF
   rcases bT with⟨hz,_⟩|⟨g',xH,KU,jK,xQ,Ls,sT,eU,how⟩
   ·rw[hz] at CE;cases CE
   have CM:g'=g:=by rw[CE] at jK;injection jK with h1;injection h1 with h1;injection h1 with h1;exact h1.symm
   subst CM
   have aai:KU=cur:=by rw[hg] at xQ;cases xQ;rfl
   subst aai
   have al:=wq hg
   let Y:ax:=⟨w',fun k=>if k=g' then .row (.c (o.dst.getD 0) 0 []) ((xs.length+ys.length)*t.cells) else X.ow k,X.β⟩
   have aE:Y.w.heap[g']? =some (.cells gB e (0,0)):=by simp only[Y,hw];exact setRow_heap X.w g' KU gB e (0,0) hg
   have pa:Y.ow g'= .row (.c (o.dst.getD 0) 0 []) ((xs.length+ys.length)*t.cells):=by simp [Y]
   have eK:∀ad v,X.ay ad v->Y.ay ad v:=by
    intro ad v kc
    by_cases heq:ad.block=g'
    ·obtain⟨k1,k2,k3⟩:=kc
     rw[heq,how] at k3
     have k3:ad.off<xs.length*t.cells:=k3
     have had:ad=(⟨g',0,none⟩:Addr).add ad.off:=by rw[jq,Nat.zero_add];cases ad;simp_all
     have LN:=List.getElem?_eq_getElem (l:=cx) (i:=ad.off) (by rw[xU];exact k3)
     have xN:=(sx' g' _ _ CE ad.off _ LN).2.1
     rw[<-had,k2] at xN
     refine⟨k1,?_,?_⟩
     ·have hq:gB.toList[ad.off]? =some v:=by
       have:=congrArg (fun l=>l[ad.off]?) ht
       simp only[List.getElem?_take] at this
       have hle:xs.length*t.cells<=(xs.length+ys.length)*t.cells:=Nat.mul_le_mul_right _ (Nat.le_add_right _ _)
       rw[if_pos (by omega),List.getElem?_append_left (by rw[xU];exact k3),LN] at this
       rw[this];exact xN.symm
      simp only[World.cell?,heq,aE,k1]
      simpa using hq
     ·rw[heq,pa]
      have hle:xs.length*t.cells<=(xs.length+ys.length)*t.cells:=Nat.mul_le_mul_right _ (Nat.le_add_right _ _)
      show ad.off<_
      omega
    ·refine⟨kc.1,?_,?_⟩
     ·have:=kc.2.1
      simp only[World.cell?,Y,hw] at this⊢
      rw[setRow_other X.w g' ad.block gB heq]
      exact this
     ·simp only[Y]
      rw[if_neg heq]
      exact kc.2.2
   have CV:Mod (s.close cl) X Y:=⟨eK,by simp [Y,hw],by simp only[Y,hw];rfl,by simp only[Y,hw];rfl,by simp only[Y,hw];rfl,rfl,fun _ _ _=>rfl,fun k hk=>by
    by_cases heq:k=g'
    ·subst heq;exact .inr ⟨pl,_,how,HD⟩
    ·refine .inl ⟨by simp only[Y];rw[if_neg heq],?_⟩
     simp only[Y,hw]
     exact setRow_other X.w g' k gB heq⟩
   have aM:=(HO rx ry).ai eK
   refine fin Y rfl CV aM (.inr ⟨_,cap,gB,hv,aE,hn,hm,hs,pa⟩) ?_
   rw[hv,<-List.length_append]
   exact zj3 (cs:=cx++cy) aE (by rw[List.length_append];exact pa) (by rw[List.length_append];exact ht) (by rw[List.length_append];exact aM) (by rw[List.length_append];exact hn)
 split at h
 ·rename_i jH
  rw[jH] at hb
  obtain⟨ys,h,vf⟩:=zz h
  cases hd:decide (List.length ys*E.bytes e<=140737488355328) with
  |false=>rw[hd] at h;cases h
  |true=>
   rw[hd] at h
   cases h
   obtain⟨cs,l6,ev⟩:=vf X _ _ hx
   have CE:a.eval b= .slice none 0 0:=hb
   have uW:cs=[a.eval x]:=by
    obtain⟨A,c,eU,_⟩:=l6
    rw[ev,eU];rfl
   have:=key [] ys [] (.r 0 []) (fun hf=>hf) (.inl ⟨CE,rfl⟩) (by rw[CE];exact⟨none,0,rfl,Nat.le_refl _,fun j x hj=>by simp at hj⟩) (by rw[<-uW];exact l6) (by simpa using of_decide_eq_true hd)
   simpa using this
 ·rename_i t' xs0 yg jH
  rw[jH] at hb
  split at h
  case isTrue=>cases h
  rename_i Ld
  have Ld:hM yg []=true:=by cases si:hM yg []<;>simp_all
  obtain⟨heq,h⟩:=apD h
  have:=Ty.aI heq
  subst this
  obtain⟨ys,h,vf⟩:=zz h
  cases hd:decide ((List.length (Ty.cast heq xs0)+List.length ys)*E.bytes e<=140737488355328) with
  |false=>rw[hd] at h;cases h
  |true=>
   rw[hd] at h
   cases h
   obtain⟨cs,l6,ev⟩:=vf X _ _ hx
   have cz:=BH Ld
   obtain⟨i,rfl⟩:=an4 jH (fun e=>by rw[e] at cz;cases cz)
   obtain⟨cs1,r1,Ta,hO⟩:=hb
   have uW:cs=[a.eval x]:=by
    obtain⟨A,c,eU,_⟩:=l6
    rw[ev,eU];rfl
   have A8:cs1=[a.eval (.tmp i)]:=by
    obtain⟨A,c,eU,_⟩:=r1
    rw[Ta,eU];rfl
   obtain⟨e',t'',xs',v',_,g1,g2,g3⟩:=hO [] cz
   simp only[El.get,Option.some.injEq,Sigma.mk.injEq,Ty.sl.injEq] at g1
   obtain⟨⟨rfl,rfl⟩,g1⟩:=g1
   cases g1
   have jK:v'=a.eval (.tmp i):=by
    rw[A8] at g2
    simpa [Ty.off] using g2.symm
   rw[jK] at g3
   exact key xs0 ys [(i,0)] (.c i 0 []) dc.close g3 (by rw[<-A8];exact r1) (by rw[<-uW];exact l6) (of_decide_eq_true hd)
 ·cases h
end Go.Ref

namespace Go.Ref
open Go
variable {P:Program} {E:Env} {X:ax} {s:State} {a:Act} {o:Oper} {u:Out}
def ax.obj(X:ax)(r:Nat)(b:Obj):ax:={X with w:={X.w with heap:=X.w.heap.setIfInBounds r b}}
theorem HT{r g:Nat}{b:Obj}(h:g≠r):(X.obj r b).w.heap[g]? =X.w.heap[g]? :=by
 simp [ax.obj,Ne.symm h]
theorem OA{r:Nat}{b b':Obj}(h:X.w.heap[r]? =some b'):(X.obj r b).w.heap[r]? =some b:=(MapKept.heap_set h).1
theorem Gq{r id:Nat}{b:Obj}(h:X.ow r= .box id){ad:Addr}{v:Value}(hs:X.ay ad v):(X.obj r b).ay ad v:=by
 have bK:ad.block≠r:=fun e=>by
  have:=hs.2.2
  rw[e,h] at this
  exact this
 refine⟨hs.1,?_,hs.2.2⟩
 have:=hs.2.1
 simp only[World.cell?] at this⊢
 rw[HT bK]
 exact this
theorem PO{r id:Nat}{b:Obj}(h:X.ow r= .box id):Ext X (X.obj r b) where
 ay:=fun _ _=>Gq h
 size:=by simp [ax.obj]
 os:=rfl
 tape:=rfl
 output:=rfl
 β0:=rfl
 still:=fun g _ bQ=>by
  have bK:g≠r:=fun e=>by rw[e,h] at bQ;exact bQ
  exact⟨rfl,HT bK⟩
theorem bu.obj{r id:Nat}{b:Obj}(h:X.ow r= .box id){pl:Place}{e:TypeId}{k n:Nat}{v:Value}(ho:bu X pl e k n v):bu (X.obj r b) pl e k n v:=by
 rcases ho with ho|⟨g,cap,cur,h1,h2,h3,h4,h5,h6⟩
 ·exact .inl ho
 ·have bK:g≠r:=fun e=>by rw[e,h] at h6;cases h6
  exact .inr ⟨g,cap,cur,h1,(HT bK).trans h2,h3,h4,h5,h6⟩
theorem bn.obj{r id:Nat}{b:Obj}(h:X.ow r= .box id){pl:List Nat->Place}{t:Ty}{x:El t}{c:List Value}{own:List (List Nat)}(ho:bn X pl t x c own):bn (X.obj r b) pl t x c own:=fun p hp=>by
 obtain⟨e,t',xs,v,g0,g1,g2,g3⟩:=ho p hp
 exact⟨e,t',xs,v,g0,g1,g2,g3.obj h⟩
theorem aA.obj{r id:Nat}{b:Obj}(h:X.ow r= .box id){pl:List Nat->Place}{sv:SV}{v:Value}(hk:∀bc c d j,sv= .bA bc c d j->bc≠id)(hr:aA X pl sv v):aA (X.obj r b) pl sv v:=by
 cases sv with
 |aj t x own=>
  obtain⟨c,h1,h2,h3⟩:=hr
  exact⟨c,h1.ai (fun _ _=>Gq h),h2,h3.obj h⟩
 |view t x=>
  obtain⟨ad,c,h1,h2,h3,h4⟩:=hr
  exact⟨ad,c,h1,h2,h3.ai (fun _ _=>Gq h),fun i u hi=>Gq h (h4 i u hi)⟩
 |cap f t x u y=>exact sG (fun _ _=>Gq h) hr
 |bA bc c d j=>
  obtain⟨r',h1,h2,h3⟩:=hr
  have bK:r'≠r:=fun e=>by rw[e,h] at h2;injection h2 with h2;exact hk bc c d j rfl h2.symm
  refine⟨r',h1,h2,?_⟩
  simp only[World.cell?] at h3⊢
  rw[show(X.obj r b).w.heap[r']? =X.w.heap[r']? from HT bK];exact h3
 |_=>exact hr
theorem Rel.obj{r id:Nat}{B B':bD}{b:Obj}(hr:Rel X s a)(hb:s.bs[id]? =some (some B))(hβ:X.β id=some r)(h:X.ow r= .box id)(hB:bE (X.obj r b) id r B')(hg:B.t.fb=false\/ []∈B.own):Rel (X.obj r b) (s.aB (some (id,B'))) a where
 size:=hr.size
 ia:=by simpa [State.aB] using hr.ia
 bR:=fun i l v hl hv=>(hr.bR i l v hl hv).jx fun j sv u hm kc=>kc.obj h (fun bc c d k e e2=>hr.pj hb hg i l c d k hl (e2▸e▸List.mem_of_getElem? hm))
 boxes:=fun bc B2 c8=>by
  have al:id<s.bs.length:=(List.getElem?_eq_some_iff.1 hb).1
  simp only[State.aB,List.getElem?_set] at c8
  by_cases e:id=bc
  ·subst e
   rw[if_pos rfl,if_pos al] at c8
   cases c8;exact⟨r,hβ,hB⟩
  ·rw[if_neg e] at c8
   obtain⟨r',h1,h4,h2⟩:=hr.boxes bc B2 c8
   have bK:r'≠r:=fun e2=>by rw[e2,h] at h4;cases h4;exact e rfl
   exact⟨r',h1,h4,h2.move (fun _ _=>Gq h) (HT bK) (fun cs h5=>h5.obj h) fun _ _ g o _ ho hw=>⟨(HT (fun e3=>by rw[e3,h] at hw;cases hw)).trans ho,hw⟩⟩
 live:=fun i l bc t p hi hm=>by
  have al:id<s.bs.length:=(List.getElem?_eq_some_iff.1 hb).1
  obtain⟨B2,c8⟩:=hr.live i l bc t p hi hm
  simp only[State.aB,List.getElem?_set]
  by_cases e:id=bc
  ·subst e;exact⟨B',by rw[if_pos rfl,if_pos al]⟩
  ·rw[if_neg e];exact⟨B2,c8⟩
 defers:=hr.defers
 bA:=hr.bA.aB (hr.pj hb hg)
def ax.ly(X:ax)(b:Obj)(w:Ow)(β:Nat->Option Nat):ax:={w:=X.w.alloc b,ow:=fun g=>if g=X.w.heap.size then w else X.ow g,β}
theorem M9(X:ax)(s:State)(b:Obj)(w:Ow)(β:Nat->Option Nat)(hβ0:β 0=X.β 0)(hβ:∀(id:Nat) B,s.bs[id]? =some (some B)->β id=X.β id):fj s X (X.ly b w β) where
 size:=by simp [ax.ly]
 os:=rfl
 tape:=rfl
 output:=rfl
 nx:=fun g hg=>⟨by simp only[ax.ly];rw[if_neg (by omega)],RowKit.Below.heap_alloc _ _ _ hg⟩
 β0:=hβ0
 β:=hβ
theorem zi4(hr:Rel X s a){t p:Ty}{x:El t}{b:Obj}{v:Value}(aX:(execOp a.eval o).run P X.w= .ok (.value v) (X.w.alloc b))
 (Le:∀Y:ax,(∀ad v,X.ay ad v->Y.ay ad v)->Y.w.heap[X.w.heap.size]? =some b->∀pl,dK Y X.w.heap.size pl t x []) (pf:nW p [] X.w.heap.size v) (h:kO s o.dst t x p some=some u):aH P X s a o u:=by
 unfold kO at h
 split at h
 case h_2=>cases h
 rename_i d hd
 split at h
 case h_2=>cases h
 rename_i hb
 cases h
 let β:Nat->Option Nat:=fun id=>if id=d+1 then some X.w.heap.size else X.β id
 have al:d+1<s.bs.length:=(List.getElem?_eq_some_iff.1 hb).1
 have hk:fj s X (X.ly b (.box (d+1)) β):=M9 X _ _ _ _ (by show(if _ then _ else _)=_;rw[if_neg (by omega)]) (fun id B hB=>by
  show(if id=d+1 then _ else _)=_
  rw[if_neg (fun e=>by rw[e,hb] at hB;cases hB)])
 have bJ:bE (X.ly b (.box (d+1)) β) (d+1) X.w.heap.size ⟨t,x,[]⟩:=⟨by simp [ax.ly],Le _ (fun _ _=>hk.ay) (heap_alloc_new X.w _) _⟩
 have hβd:β (d+1)=some X.w.heap.size:=by show(if d+1=d+1 then _ else _)=_;rw[if_pos rfl]
 have fp:=(hr.dF hk).fR al hb hβd bJ
 refine⟨X.ly b (.box (d+1)) β,v,.inl aX,hk.ext,?_⟩
 rw[hd]
 refine fp.put (fun d' e=> ?_) (fun id t' q hm=> ?_)
 ·cases e
  exact⟨X.w.heap.size,hβd,pf⟩
 ·have:id=d+1:=by have:=hm;simp at this;exact this.1
  subst this
  exact⟨⟨t,x,[]⟩,by simp [State.aB,List.getElem?_set,al]⟩
def kJ:(t:Ty)->El t->Value
 | .bool,b=> .bool b
 | .int k,n=> .int k n
 | .str,x=> .string x
 |_,_=>Go.undef
def Ty.jg:Ty->Bool
 | .bool| .int _| .str=>true
 |_=>false
theorem zri{t:Ty}(hk:t.jg=true){x:El t}{v:Value}(h:eR X t x v):v=kJ t x:=by
 obtain⟨cs,h1,h2⟩:=h
 cases t<;>simp [Ty.jg] at hk
 ·rw[h2,wl h1];rfl
 ·rw[h2,me h1];rfl
 ·rw[h2,n6 h1];rfl
theorem Qw{T:TypeId}{t:Ty}(hE:ak P E)(hT:E.ty T=some t)(hk:t.jg=true)(x:El t):∃d,P.underlying T=some d/\MapKept.IsKey d (kJ t x)/\∀y,Instr.sameNow d (kJ t x) (kJ t y)=some (gD t x y):=by
 have hu:=(hE.ty T t hT).dC
 cases t<;>simp [Ty.jg] at hk
 ·have hu:P.underlying T=some .bool:=hu
  exact⟨_,hu,trivial,fun y=>by cases x<;>cases y<;>rfl⟩
 ·have hu:P.underlying T=some (.int _):=hu
  refine⟨_,hu,by simp [MapKept.IsKey,kJ],fun y=> ?_⟩
  simp only[Instr.sameNow,kJ,if_true,gD]
  congr 1
 ·have hu:P.underlying T=some .string:=hu
  refine⟨_,hu,trivial,fun y=> ?_⟩
  simp only[Instr.sameNow,kJ,gD]
  congr 1
  by_cases e:x=y
  ·rw[decide_eq_true e];exact(MapKept.bytes_beq _ _).2 e
  ·rw[decide_eq_false e]
   cases hb:(x==y) with
   |false=>rfl
   |true=>exact absurd ((MapKept.bytes_beq _ _).1 hb) e
theorem Ob{kt vt:Ty}{d:TypeDesc}{k:El kt}(hk:kt.jg=true)(hs:∀y,Instr.sameNow d (kJ kt k) (kJ kt y)=some (gD kt k y)):∀(es:List MapEntry) (xs:List (El kt×El vt)) (i:Nat),es.length=xs.length->
 (∀(i:Nat) q e,xs[i]? =some q->es[i]? =some e->eR X kt q.1 e.key/\eR X vt q.2 e.val)->
 (fI (gD kt) xs k=false/\fH (gD kt) (El.bU vt) xs k=El.bU vt/\Instr.findNow d (kJ kt k) es i=some none)\/(fI (gD kt) xs k=true/\∃j v,Instr.findNow d (kJ kt k) es i=some (some (j,v))/\eR X vt (fH (gD kt) (El.bU vt) xs k) v)
 | [],[],i,_,_=> .inl ⟨rfl,rfl,rfl⟩
 |e::es,q::xs,i,hl,hp=>by
  obtain⟨h1,h2⟩:=hp 0 q e rfl rfl
  have hke:=zri hk h1
  have jJ:=hs q.1
  rw[<-hke] at jJ
  simp only[Instr.findNow,jJ,fI,fH]
  cases heq:gD kt k q.1 with
  |true=>exact .inr ⟨rfl,i,e.val,rfl,h2⟩
  |false=>exact Ob hk hs es xs (i+1) (by simpa using hl) (fun i q e hq he=>hp (i+1) q e (by simpa using hq) (by simpa using he))
 | [],_::_,_,hl,_=>by simp at hl
 |_::_,[],_,hl,_=>by simp at hl
theorem zw7:∀{t:Ty},t.iH=true->t.depth<=2
 | .unit,_=>by decide
 | .pair (.int _) b,h=>by
   have:=zw7 (t:=b) h
   simp only[Ty.depth];omega
theorem PF:∀{t:Ty},t.iH=true->∀x y:El t,dQ t x y=some (vO t x y)
 | .unit,_,_,_=>rfl
 | .pair (.int _) b,h,x,y=>by
   have:=PF (t:=b) h x.2 y.2
   simp only[dQ,this,vO]
theorem iy(hE:ak P E){xs:Array Value}(w:World)(em:Bool)(n:Nat):
 ∀(fl:List Field) (t:Ty) (off:Nat),jS E fl t off->t.iH=true->∀(x:El t) (c1:List Value),bh X t x c1->(xs.toList.drop off).take t.cells=c1->
  (forIn fl () fun(f:Field) (_:Unit)=>(if f.name≠ "_" then do
    let __do_lift<-part f.type xs f.offset
    Instr.checkKey em (n+1) f.type __do_lift
    pure (ForInStep.yield ()) else pure (ForInStep.yield ()):Sem (ForInStep Unit))).run P w= .ok () w:=by
 intro fl
 induction fl with
 |nil=>intro t off hf hi x c1 h1 h3;simp [List.forIn_nil]
 |cons f fl ihl=>
  intro t off hf hi x c1 h1 h3
  cases t<;>simp only[jS] at hf<;>try exact hf.elim
  rename_i ta tb
  obtain⟨ho,HF,hn,bG⟩:=hf
  obtain⟨ca,cb,e1,ra,rb⟩:=h1
  have la:=ra.len
  have t1:(xs.toList.drop off).take ta.cells=ca:=by
   have:=congrArg (fun l=>l.take ta.cells) (h3.trans e1)
   simp only[List.take_take,Ty.cells] at this
   rw[Nat.min_eq_left (Nat.le_add_right _ _),<-la,List.take_left] at this
   rw[<-la];exact this
  have u1:(xs.toList.drop (off+ta.cells)).take tb.cells=cb:=by
   have:=congrArg (fun l=>l.drop ta.cells) (h3.trans e1)
   simp only[Ty.cells] at this
   rw[List.drop_take,Nat.add_sub_cancel_left,List.drop_drop,<-la,List.drop_left] at this
   rw[<-la];exact this
  have pc:=Gr hE HF ra (all:=xs) (off:=f.offset) (by rw[ho];exact t1) w
  cases ta<;>simp [Ty.iH] at hi
  rename_i k
  have hu:P.underlying f.type=some (.int k):=(hE.ty f.type _ HF).dC
  have Hv:(Instr.checkKey em (n+1) f.type (eb (.int k) ca)).run P w= .ok () w:=by
   rw[me ra]
   exact MapKept.run_checkKey hu (by simp [MapKept.IsKey]) em n
  rw[List.forIn_cons]
  simp only[hn,ne_eq,not_false_eq_true,if_true,Sem.run_bind,pc,Hv,Result.andThen_ok,Sem.run_pure]
  exact ihl tb _ bG hi x.2 cb rb u1
theorem Na{T:TypeId}{t:Ty}(hE:ak P E)(hT:E.ty T=some t)(hk:t.isKey=true){x:El t}{v:Value}(h:eR X t x v)(em:Bool)(w:World):(Instr.checkKey em 10000 T v).run P w= .ok () w:=by
 cases h1:t.jg with
 |true=>
  obtain⟨d,hd,Te,_⟩:=Qw hE hT h1 x
  rw[zri h1 h]
  exact MapKept.run_checkKey hd Te em 9999
 |false=>
  have hu:=(hE.ty T t hT).dC
  cases t<;>simp [Ty.isKey,Ty.jg] at hk h1
  rename_i ta tb
  obtain⟨fs,je,jw,Tm,_⟩:=hu
  obtain⟨cs,hr,rfl⟩:=h
  rw[j9 rfl]
  unfold Instr.checkKey
  simp only[Sem.run_bind,run_underlying je,Result.andThen_ok]
  rw[<-Array.forIn_toList]
  have:=iy (X:=X) hE (xs:=cs.toArray) w em 9998 fs.toList (.pair ta tb) 0 jw hk x cs hr (by have:=hr.len;simp only[List.drop_zero];rw[<-this];exact List.take_length)
  exact(congrArg (fun r=>Result.andThen r (fun a w'=>Sem.run P (pure ()) w')) this).trans (by simp)
theorem zot(hE:ak P E){T:TypeId}{kt vt:Ty}(hT:E.ty T=some kt)(hk:kt.iH=true){k:El kt}{v:Value}(h:eR X kt k v)(w:World):∀(es:List MapEntry) (xs:List (El kt×El vt)) (i:Nat),es.length=xs.length->
 (∀(i:Nat) q e,xs[i]? =some q->es[i]? =some e->eR X kt q.1 e.key/\eR X vt q.2 e.val)->
 (fI (vO kt) xs k=false/\fH (vO kt) (El.bU vt) xs k=El.bU vt/\(Instr.findAsking T v es i).run P w= .ok none w)\/(fI (vO kt) xs k=true/\∃j u,(Instr.findAsking T v es i).run P w= .ok (some (j,u)) w/\eR X vt (fH (vO kt) (El.bU vt) xs k) u)
 | [],[],i,_,_=> .inl ⟨rfl,rfl,by simp [Instr.findAsking]⟩
 |e::es,q::xs,i,hl,hp=>by
  obtain⟨h1,h2⟩:=hp 0 q e rfl rfl
  obtain⟨c1,r1,rfl⟩:=h
  obtain⟨c2,r2,e2⟩:=h1
  have heq:(Op.equal T (eb kt c1) e.key).run P w= .ok (vO kt k q.1) w:=by
   rw[e2]
   exact MR (X:=X) hE w 10000 kt T hT (Nat.le_trans (zw7 hk) (by decide)) k q.1 c1 c2 _ r1 r2 (PF hk k q.1)
  unfold Instr.findAsking
  simp only[Sem.run_bind,heq,Result.andThen_ok,fI,fH]
  cases heq:vO kt k q.1 with
  |true=>exact .inr ⟨rfl,i,e.val,by simp,h2⟩
  |false=>exact zot hE hT hk ⟨c1,r1,rfl⟩ w es xs (i+1) (by simpa using hl) (fun i q e hq he=>hp (i+1) q e (by simpa using hq) (by simpa using he))
 | [],_::_,_,hl,_=>by simp at hl
 |_::_,[],_,hl,_=>by simp at hl
theorem Om(hE:ak P E){T:TypeId}{kt vt:Ty}(hT:E.ty T=some kt)(hk:kt.isKey=true){k:El kt}{v:Value}(h:eR X kt k v)(w:World)(es:List MapEntry)(xs:List (El kt×El vt))(hl:es.length=xs.length)
 (hp:∀(i:Nat) q e,xs[i]? =some q->es[i]? =some e->eR X kt q.1 e.key/\eR X vt q.2 e.val):
 (fI (gD kt) xs k=false/\fH (gD kt) (El.bU vt) xs k=El.bU vt/\(Instr.findKey T v es).run P w= .ok none w)\/(fI (gD kt) xs k=true/\∃j u,(Instr.findKey T v es).run P w= .ok (some (j,u)) w/\eR X vt (fH (gD kt) (El.bU vt) xs k) u):=by
 cases h1:kt.jg with
 |true=>
  obtain⟨d,hd,Te,jJ⟩:=Qw hE hT h1 k
  rw[zri h1 h]
  rcases Ob (X:=X) h1 jJ es xs 0 hl hp with⟨g1,g2,g3⟩|⟨g1,j,u,g3,g4⟩
  ·exact .inl ⟨g1,g2,MapKept.run_findKey hd g3⟩
  ·exact .inr ⟨g1,j,u,MapKept.run_findKey hd g3,g4⟩
 |false=>
  have hu:=(hE.ty T kt hT).dC
  cases kt<;>simp [Ty.isKey,Ty.jg] at hk h1
  rename_i ta tb
  obtain⟨fs,je,_⟩:=hu
  have e:=run_findKey_eq (P:=P) w (k:=T) (by rw[je]) v es
  have:=zot (X:=X) hE hT hk h w es xs 0 hl hp
  rw[e]
  exact this
theorem zwe{T:TypeId}{kt vt:Ty}(hE:ak P E)(h:nQ E T=some (kt,vt)):∃k e,P.underlying T=some (.map k e)/\E.ty k=some kt/\E.ty e=some vt/\kt.isKey=true:=by
 unfold nQ at h
 split at h
 case h_2=>cases h
 rename_i k e hm
 split at h
 case h_2=>cases h
 rename_i kt' vt' h1 h2
 split at h
 case isFalse=>cases h
 rename_i hk
 cases h
 exact⟨k,e,hE.mp T k e hm,h1,h2,hk⟩
theorem zp4{m:Operand}{kt vt:Ty}{R:Type}{K:Nat->List (El kt×El vt)->Option R}{z:R}(hr:Rel X s a)(h:wC s (s.aG m) kt vt K=some z):
 ∃id B r xs,K id xs=some z/\s.bs[id]? =some (some B)/\X.β id=some r/\X.ow r= .box id/\a.eval m= .map (some r)/\B.t.fb=false/\∃es clock,X.w.heap[r]? =some (.map es clock)/\es.size=xs.length/\
  ∀(i:Nat) (q:El kt×El vt) (e:MapEntry),xs[i]? =some q->es[i]? =some e->eR X kt q.1 e.key/\eR X vt q.2 e.val:=by
 have hx:=hr.aG m
 unfold wC at h
 split at h
 case h_2=>cases h
 rename_i id kt' vt' hm
 rw[hm] at hx
 obtain⟨r,hβ,hv⟩:=hx
 split at h
 case isFalse=>cases h
 split at h
 case h_2=>cases h
 rename_i B hB
 split at h
 case isFalse=>cases h
 rename_i dy
 have hb:=rh hB
 obtain⟨r',h1,h2,h3⟩:=hr.boxes id B hb
 rw[hβ] at h1
 cases h1
 refine⟨id,B,r,_,h,hb,hβ,h2,hv,by rw[Ty.aI dy];rfl,?_⟩
 obtain⟨bt,bx,bo⟩:=B
 have e:=Ty.aI dy
 simp only at e
 subst e
 exact h3
theorem acK(hE:ak P E)(hr:Rel X s a){ops:List Oper}{T:TypeId}{rs:Option Operand}(ho:o.op= .makeMap T rs){C:FuncId->bV Out}(h:act E C ops o s some=some u):aH P X s a o u:=by
 unfold act at h
 cases rs with
 |some r=>simp only[ho] at h;cases h
 |none=>
  simp only[ho] at h
  split at h
  case h_2=>cases h
  rename_i kt vt hm
  refine zi4 hr (t:= .aF .mp kt vt) (p:= .aF .mp kt vt) (x:=([]:List (El kt×El vt))) (b:= .map #[] 0) (v:= .map (some X.w.heap.size)) ?_ (fun Y _ hY pl=>⟨#[],0,hY,rfl,fun i q e hq=>by simp at hq⟩) rfl h
  simp [execOp,ho,Instr.makeMap]
theorem adi(hE:ak P E)(hr:Rel X s a){ops:List Oper}{T:TypeId}{x i:Operand}{ok:Bool}(ho:o.op= .lookup T x i ok){C:FuncId->bV Out}(h:act E C ops o s some=some u):aH P X s a o u:=by
 unfold act at h
 cases ok with
 |true=>simp only[ho] at h;cases h
 |false=>
  simp only[ho] at h
  unfold lV at h
  split at h
  case h_2=>cases h
  rename_i kt vt hm
  obtain⟨k,e,hu,hk,he,uO⟩:=zwe hE hm
  obtain⟨id,B,r,xs,h,hb,hβ,how,hv,hBg,es,clock,aE,c9,fX⟩:=zp4 hr h
  obtain⟨key,h,hkv⟩:=zz h
  cases h
  obtain⟨ck,rk,evk⟩:=hkv X _ _ (hr.aG i)
  have Hv:=Na hE hk uO (X:=X) (x:=key) ⟨ck,rk,evk⟩ es.isEmpty X.w
  rcases Om (X:=X) hE hk uO (k:=key) ⟨ck,rk,evk⟩ X.w es.toList xs (by simpa using c9) (fun i q e hq he=>fX i q e hq (by simpa using he)) with⟨g1,g2,hf⟩|⟨g1,j,v,hf,g4⟩
  ·rw[g2]
   have hz:=Ux (P:=P) hE he X.w
   refine aH.plain hr (v:=eb vt (zp vt)) ?_ (BW (tc X vt)) (fun _ _ _ e'=>by cases e')
   simp only[execOp,ho,Sem.run_bind,Instr.lookup,run_underlying hu,Result.andThen_ok,hv,MapKept.run_getObj_map aE,Sem.run_pure,Hv,hf,hz,Bool.false_eq_true,if_false]
  ·obtain⟨cv,rv,ev⟩:=g4
   refine aH.plain hr (v:=v) ?_ ⟨cv,rv,ev,m7⟩ (fun _ _ _ e'=>by cases e')
   simp only[execOp,ho,Sem.run_bind,Instr.lookup,run_underlying hu,Result.andThen_ok,hv,MapKept.run_getObj_map aE,Sem.run_pure,Hv,hf,Bool.false_eq_true,if_false]
theorem N6(hE:ak P E)(hr:Rel X s a){T:TypeId}{m k x:Operand}(ho:(execOp a.eval o).run P X.w=((Instr.mapUpdate T (a.eval m) (a.eval k) (a.eval x)).run P X.w).andThen fun _ w=> .ok .skip w)(h:mS E T s (s.aG m) (s.aG k) (s.aG x) some=some u):aH P X s a o u:=by
 unfold mS at h
 split at h
 case h_2=>cases h
 rename_i kt vt hm
 obtain⟨kT,eT,hu,hk,he,uO⟩:=zwe hE hm
 obtain⟨id,B,r,xs,h,hb,hβ,how,hv,hBg,es,clock,aE,c9,fX⟩:=zp4 hr h
 obtain⟨key,h,hkv⟩:=zz h
 obtain⟨y,h,hyv⟩:=zz h
 obtain⟨ck,rk,Cy⟩:=hkv X _ _ (hr.aG k)
 obtain⟨cy,ry,evy⟩:=hyv X _ _ (hr.aG x)
 have Hv:=Na hE hk uO (X:=X) (x:=key) ⟨ck,rk,Cy⟩ false X.w
 rcases Om (X:=X) hE hk uO (k:=key) ⟨ck,rk,Cy⟩ X.w es.toList xs (by simpa using c9) (fun i q e hq he=>fX i q e hq (by simpa using he)) with⟨g1,g2,hf⟩|⟨g1,j,v,hf,g4⟩
 ·rw[g1] at h
  cases h
  let new:Obj:= .map (es.push {key:=a.eval k,val:=a.eval x,born:=clock}) (clock+1)
  have aX:(execOp a.eval o).run P X.w= .ok .skip (X.obj r new).w:=by
   rw[ho]
   simp only[Instr.mapUpdate,Sem.run_bind,run_underlying hu,Result.andThen_ok,hv,MapKept.run_getObj_map aE,Hv,hf,MapKept.run_setObj_map _ aE]
   simp only[new]
   rfl
  have bJ:bE (X.obj r new) id r ⟨.aF .mp kt vt,(xs++ [(key,y)]:List (El kt×El vt)),[]⟩:=by
   refine⟨how,es.push {key:=a.eval k,val:=a.eval x,born:=clock},clock+1,OA aE,by simp [c9],fun i q e hq he=> ?_⟩
   have hs:∀ad v,X.ay ad v->(X.obj r new).ay ad v:=fun _ _=>Gq how
   have hq:(xs++ [(key,y)])[i]? =some q:=hq
   rw[List.getElem?_append] at hq
   rw[Array.getElem?_push] at he
   split at hq
   ·rename_i al
    rw[if_neg (by omega)] at he
    obtain⟨j1,j2⟩:=fX i q e hq he
    exact⟨j1.mono hs,j2.mono hs⟩
   ·rename_i al
    have hi:i-xs.length=0:=by
     have:=(List.getElem?_eq_some_iff.1 hq).1
     simp at this
     omega
    rw[hi] at hq
    cases hq
    rw[if_pos (by omega)] at he
    cases he
    exact⟨eR.mono hs ⟨ck,rk,Cy⟩,eR.mono hs ⟨cy,ry,evy⟩⟩
  exact⟨X.obj r new,Go.undef,.inr ⟨aX,rfl⟩,PO how,(hr.obj hb hβ how bJ (.inl hBg)).skip o.dst⟩
 ·rw[g1] at h
  cases h
theorem zcp(hE:ak P E)(hr:Rel X s a){ops:List Oper}{T:TypeId}{m k x:Operand}(ho:o.op= .mapUpdate T m k x\/o.op= .insert T m k x){C:FuncId->bV Out}(h:act E C ops o s some=some u):aH P X s a o u:=by
 unfold act at h
 rcases ho with ho|ho
 ·simp only[ho] at h
  exact N6 hE hr (by simp [execOp,ho]) h
 ·simp only[ho] at h
  exact N6 hE hr (by simp [execOp,ho]) h
theorem ad9(hE:ak P E)(hr:Rel X s a){ops:List Oper}{T:TypeId}{x:Operand}(ho:o.op= .range T x){C:FuncId->bV Out}(h:act E C ops o s some=some u):aH P X s a o u:=by
 unfold act at h
 simp only[ho] at h
 split at h
 case h_2=>cases h
 rename_i hT
 obtain⟨y,h,hy⟩:=zz h
 obtain⟨cs,ry,ev⟩:=hy X _ _ (hr.aG x)
 rw[n6 ry] at ev
 have hu:=(hE.ty T _ hT).dC
 refine zi4 hr (t:=kI) (p:=kI) (x:=((y,0):ByteArray×Nat)) (b:= .stringIter y 0) (v:= .pointer (some ⟨X.w.heap.size,0,none⟩)) ?_ (fun Y _ hY pl=>hY) ⟨rfl,trivial⟩ h
 simp [execOp,ho,Instr.range,run_underlying hu,ev]
theorem ahd(hr:Rel X s a){ops:List Oper}{x:Operand}{str:Bool}(ho:o.op= .next x str){C:FuncId->bV Out}(h:act E C ops o s some=some u):aH P X s a o u:=by
 unfold act at h
 cases str with
 |false=>simp only[ho] at h;cases h
 |true=>
  simp only[ho] at h
  unfold lX at h
  have hx:=hr.aG x
  split at h
  case h_2=>cases h
  rename_i id hm
  rw[hm] at hx
  obtain⟨r,hβ,hv,_⟩:=hx
  split at h
  case h_2=>cases h
  rename_i B hB
  split at h
  case isFalse=>cases h
  rename_i dy
  have hb:=rh hB
  obtain⟨r',h1,how,h3⟩:=hr.boxes id B hb
  rw[hβ] at h1
  cases h1
  have aE:X.w.heap[r]? =some (.stringIter (Ty.cast dy B.x:ByteArray×Nat).1 (Ty.cast dy B.x:ByteArray×Nat).2):=by
   obtain⟨bt,bx,bo⟩:=B
   have e:=Ty.aI dy
   simp only at e
   subst e
   exact h3
  generalize(Ty.cast dy B.x:ByteArray×Nat)=q at*
  obtain⟨st,pos⟩:=q
  simp only at h aE
  have hv:a.eval x= .pointer (some ⟨r,0,none⟩):=by simpa [Ty.off] using hv
  have cC:(getObj r).run P X.w= .ok (.stringIter st pos) X.w:=by simp [getObj,Sem.run,aE]
  cases al:decide (pos<st.size) with
  |false=>
   rw[al] at h
   cases h
   have al:=of_decide_eq_false al
   refine aH.plain hr (sv:= .over) (v:= .tuple #[.bool false]) ?_ rfl (fun _ _ _ e'=>by cases e')
   simp only[execOp,ho,Sem.run_bind,Instr.next,hv,cC,Result.andThen_ok,if_neg al,Sem.run_pure]
  |true=>
   rw[al] at h
   cases h
   have al:=of_decide_eq_true al
   let new:Obj:= .stringIter st (pos+(Utf8.decode st pos).2)
   have fP:(setObj r new).run P X.w= .ok () (X.obj r new).w:=by simp [setObj,Sem.run,aE,ax.obj]
   have bJ:bE (X.obj r new) id r ⟨kI,((st,pos+(Utf8.decode st pos).2):ByteArray×Nat),[]⟩:=⟨how,OA aE⟩
   have fp:=hr.obj hb hβ how bJ (.inl (by rw[Ty.aI dy];rfl))
   refine⟨X.obj r new,.tuple #[.bool true,.int .i64 pos,.int .i32 (Utf8.decode st pos).1],.inl ?_,PO how,?_⟩
   ·simp only[execOp,ho,Sem.run_bind,Instr.next,hv,cC,Result.andThen_ok,if_pos al,Sem.run_pure]
    simp only[new] at fP
    rw[fP]
    rfl
   ·refine fp.put (fun d' e=>⟨_,rfl,rfl,fun j sv v hj hv=> ?_⟩) (fun id t' q hm=>by simp at hm)
    match j with
    |0=>cases hj;cases hv;exact n4
    |1=>cases hj;cases hv;exact jR
    |2=>cases hj;cases hv;exact jR
    |j+3=>simp at hj
theorem alZ{t:Ty}{k:Nat}(hk:(zp t).length=k)(n:Nat):((Array.range (n*k)).map fun i=>(zp t).toArray[i % (zp t).toArray.size]!).size=n*k/\
 ∀j,j<n->((((Array.range (n*k)).map fun i=>(zp t).toArray[i % (zp t).toArray.size]!).toList.drop (j*k)).take k)=zp t:=by
 refine⟨by simp,fun j hj=> ?_⟩
 apply List.ext_getElem?
 intro i
 rw[List.getElem?_take]
 split
 ·rename_i hi
  have al:j*k+i<n*k:=by
   have:(j+1)*k<=n*k:=Nat.mul_le_mul_right _ hj
   rw[Nat.add_mul,Nat.one_mul] at this
   omega
  have CV:(j*k+i)% k=i:=by rw[Nat.mul_comm,Nat.mul_add_mod,Nat.mod_eq_of_lt hi]
  rw[List.getElem?_drop,Array.getElem?_toList,Array.getElem?_map,Array.getElem?_range,if_pos al]
  simp only[Option.map_some,List.size_toArray,hk,CV]
  rw[List.getElem?_eq_getElem (by omega)]
  simp [getElem!_def,List.getElem?_eq_getElem (show i<(zp t).length by omega)]
 ·rename_i hi
  rw[List.getElem?_eq_none (by omega)]
theorem Oq(hE:ak P E){T e:TypeId}{t:Ty}(hT:E.ty T=some (.sl e t))(hk:t.cells≠0)(n9:E.bytes e≠0){n m:Int}(hn:0<=n)(hnm:n<=m)(hb:m*E.bytes e<=140737488355328)(w:World):
 m.toNat<=maxLen/\∃cur,cur.size=m.toNat*t.cells/\(∀j,j<m.toNat->(cur.toList.drop (j*t.cells)).take t.cells=zp t)/\
  (Instr.makeSlice T (.int .i64 n) (.int .i64 m)).run P w= .ok (.slice (some ⟨w.heap.size,0,none⟩) n.toNat m.toNat) (w.alloc (.cells cur e)):=by
 obtain⟨hu,he⟩:=(hE.ty T _ hT).dC
 obtain⟨i,hi,b9,gF,hz⟩:=(hE.ty e t he).info
 have hle:m<=m*E.bytes e:=by
  have h1:(1:Int)<=E.bytes e:=by omega
  have:=Int.mul_le_mul_of_nonneg_left h1 (show 0<=m by omega)
  simpa using this
 have CU:m.toNat<=maxLen:=by simp only[maxLen];omega
 have mG:(eb t (zp t)).cells=(zp t).toArray:=vZ (X:=⟨w,fun _=> .all,fun _=>none⟩) (tc _ t)
 obtain⟨z1,z2⟩:=alZ (vE t) m.toNat
 refine⟨CU,(Array.range (m.toNat*t.cells)).map (fun i=>(zp t).toArray[i % (zp t).toArray.size]!),z1,z2,?_⟩
 have Tp:IntKind.i64.wrap n=n:=by simp [IntKind.wrap,IntKind.signed,IntKind.bits];omega
 have vT:IntKind.i64.wrap m=m:=by simp [IntKind.wrap,IntKind.signed,IntKind.bits];omega
 have hmul:(i.bytes:Int)*m<=2^48:=by rw[gF,Int.mul_comm];omega
 have c1:¬m<0:=by omega
 have c2:¬(281474976710656:Int)<(i.bytes:Int)*m:=by omega
 have c3:¬n<0:=by omega
 have c4:¬m<n:=by omega
 have hai:∀(n:Int) (w:World),(asInt (.int .i64 n)).run P w= .ok n w:=fun n w=>by simp [asInt,asIntOf]
 have hti:∀w:World,(typeInfo e).run P w= .ok i w:=fun w=>by simp [typeInfo,hi]
 have gI:∀w:World,(sizeOf e).run P w= .ok t.cells w:=fun w=>l9 hE he w
 have hzv:∀w:World,(zeroValue e).run P w= .ok (eb t (zp t)) w:=fun w=>Ux hE he w
 simp only[Instr.makeSlice,Sem.run_bind,run_underlying hu,Result.andThen_ok,hai,hti,Tp,vT]
 by_cases h0:m.toNat*t.cells=0
 ·simp [c1,c2,c3,c4,gI,h0,newRow]
  rw[show Array.range 0= #[] from rfl]
  simp
 ·simp [c1,c2,c3,c4,gI,h0,hzv,mG,newRow]
theorem acf(hE:ak P E)(hr:Rel X s a){ops:List Oper}{T:TypeId}{l c:Operand}(ho:o.op= .makeSlice T l c){C:FuncId->bV Out}(h:act E C ops o s some=some u):aH P X s a o u:=by
 unfold act at h
 simp only[ho] at h
 unfold lW at h
 split at h
 case h_2=>cases h
 rename_i e t hT
 split at h
 ·cases h
 rename_i bK
 have n9:E.bytes e≠0:=fun e0=>bK (by rw[e0];rfl)
 have hk:t.cells≠0:=fun e0=>bK (by rw[e0];simp)
 obtain⟨n,h,hn⟩:=zz h
 obtain⟨m,h,hm⟩:=zz h
 obtain⟨_,rn,en⟩:=hn X _ _ (hr.aG l)
 rw[me rn] at en
 obtain⟨_,rm,em⟩:=hm X _ _ (hr.aG c)
 rw[me rm] at em
 cases hc:PG l with
 |true=>
  rw[hc] at h
  simp only[cond_true] at h
  cases d1:decide (n=0)<;>rw[d1] at h<;>simp only[cond_true,cond_false] at h
  ·cases h
  cases d2:decide (0<=m)<;>rw[d2] at h<;>simp only[cond_true,cond_false] at h
  ·cases h
  cases d3:decide (m*E.bytes e<=140737488355328)<;>rw[d3] at h<;>simp only[cond_true,cond_false] at h
  ·cases h
  cases h
  have d1:=of_decide_eq_true d1
  have d2:=of_decide_eq_true d2
  have d3:=of_decide_eq_true d3
  subst d1
  obtain⟨CU,cur,g1,g2,aX⟩:=Oq (P:=P) hE hT hk n9 (n:=0) (m:=m) (by omega) d2 d3 X.w
  have xS:fj s X (X.ly (.cells cur e) (.row (.c (o.dst.getD 0) 0 []) 0) X.β):=M9 X _ _ _ _ rfl (fun _ _ _=>rfl)
  refine⟨X.ly (.cells cur e) (.row (.c (o.dst.getD 0) 0 []) 0) X.β,.slice (some ⟨X.w.heap.size,0,none⟩) 0 m.toNat,.inl ?_,xS.ext,(hr.dF xS).fin ⟨[.slice (some ⟨X.w.heap.size,0,none⟩) 0 m.toNat],⟨_,_,rfl,Nat.zero_le _,fun j x hj=>by simp at hj⟩,rfl,fun p hp=> ?_⟩ (fun id t p hm=>by simp at hm)⟩
  ·simp only[execOp,ho,Sem.run_bind,en,em,aX,Result.andThen_ok,Sem.run_pure]
   rfl
  ·have hp:p=[]:=by simpa using hp
   subst hp
   refine⟨e,t,[],_,by simp [Ty.fa],rfl,rfl,.inr ⟨X.w.heap.size,m.toNat,cur,rfl,heap_alloc_new X.w _,Nat.zero_le _,CU,g1,?_⟩⟩
   simp [ax.ly]
 |false=>
  rw[hc] at h
  simp only[cond_false] at h
  cases d1:decide (n=m)<;>rw[d1] at h<;>simp only[cond_true,cond_false] at h
  ·cases h
  cases d2:decide (0<=n)<;>rw[d2] at h<;>simp only[cond_true,cond_false] at h
  ·cases h
  cases d3:decide (n*E.bytes e<=140737488355328)<;>rw[d3] at h<;>simp only[cond_true,cond_false] at h
  ·cases h
  have d1:=of_decide_eq_true d1
  have d2:=of_decide_eq_true d2
  have d3:=of_decide_eq_true d3
  have d1:m=n:=d1.symm
  subst d1
  obtain⟨CU,cur,g1,g2,aX⟩:=Oq (P:=P) hE hT hk n9 (n:=m) (m:=m) d2 (Int.le_refl _) d3 X.w
  refine zi4 hr (t:= .aF .row t .unit) (p:= .aF (.ju m.toNat) t .unit) (x:=(List.replicate m.toNat (El.bU t):List (El t))) (b:= .cells cur e) (v:= .slice (some ⟨X.w.heap.size,0,none⟩) m.toNat m.toNat) ?_ (fun Y _ hY pl=>⟨cur,e,hY,?_,fun j x hj=> ?_⟩) ⟨_,rfl,Nat.le_refl _⟩ h
  ·simp only[execOp,ho,Sem.run_bind,en,em,aX,Result.andThen_ok,Sem.run_pure]
  ·rw[g1];show _=List.length (List.replicate _ _)*_;rw[List.length_replicate]
  ·have hj:(List.replicate m.toNat (El.bU t))[j]? =some x:=hj
   rw[List.getElem?_replicate] at hj
   split at hj
   ·rename_i al
    cases hj
    rw[g2 j al]
    exact tc Y t
   ·cases hj
end Go.Ref

namespace Go.Ref
open Go
variable {P:Program} {E:Env} {X:ax} {s:State} {a:Act} {o:Oper} {u:Out}
theorem akM(hE:ak P E)(hr:Rel X s a){ops:List Oper}{T:TypeId}{x:Operand}{lo hi:Option Operand}(ho:o.op= .slice T x lo hi none){C:FuncId->bV Out}(h:act E C ops o s some=some u):aH P X s a o u:=by
 unfold act at h
 simp only[ho] at h
 split at h
 ·rename_i id n ta tb dP
  split at h
  case h_2=>cases h
  rename_i e t hT
  split at h
  case isFalse=>cases h
  rename_i heq
  have:=Ty.aI heq
  subst this
  unfold uC at h
  split at h
  ·cases h
  rename_i Lf
  have CQ:hi=none:=by
   cases hi with
   |none=>rfl
   |some _=>cases Lf
  subst CQ
  obtain⟨l,h,h1,hl⟩:=zaw h
  cases h
  have hx:=hr.aG x
  rw[dP] at hx
  obtain⟨r0,hβ,cap,hv,nF⟩:=hx
  have hu:=(hE.ty T _ hT).dC
  have hbd:=zdj (P:=P) (isS:=true) hr hl (hi:=none) (m:=n) (n:=n) (c:=cap) rfl h1 (Nat.le_refl _) nF X.w
  rw[Option.map_none] at hbd
  refine aH.plain hr (v:= .slice (if cap=l then some ⟨r0,0,none⟩ else(some (⟨r0,0,none⟩:Addr)).map (·.add (l*ta.cells))) (n-l) (cap-l)) ?_ ⟨r0,hβ,?_⟩ (fun _ _ _ e=>by cases e;exact te hr dP)
  ·simp only[execOp,ho,Sem.run_bind,Instr.sliceAt,run_underlying hu.1,Result.andThen_ok,Instr.slice,hv,Option.map_none,hbd,Sem.run_pure,l9 hE hu.2]
  ·show∃xH off,_=Value.slice (some ⟨r0,off,none⟩) (n-l) xH/\_
   by_cases e':cap=l
   ·rw[if_pos e']
    exact⟨_,_,rfl,by omega,h1,.inl ⟨by omega,rfl⟩⟩
   ·rw[if_neg e']
    refine⟨cap-l,l*ta.cells,?_,by omega,h1,.inr rfl⟩
    rw[Option.map_some,jq,Nat.zero_add]
 ·rename_i id n t dP
  have hx:=hr.aG x
  rw[dP] at hx
  obtain⟨r0,hβ,hv⟩:=hx
  unfold rZ at h
  split at h
  case h_2=>cases h
  rename_i u' hT CT Lf
  have lo0:lo=none:=by
   cases lo with
   |none=>rfl
   |some _=>cases CT
  have CQ:hi=none:=by
   cases hi with
   |none=>rfl
   |some _=>cases Lf
  subst lo0 CQ
  split at h
  case isFalse=>cases h
  rename_i heq
  have:=Ty.aI heq
  subst this
  split at h
  case h_2=>cases h
  rename_i B hB
  split at h
  case isFalse=>cases h
  rename_i dy
  cases h
  have hb:=rh hB
  obtain⟨r,h1,uH⟩:=hr.boxes id B hb
  rw[hβ] at h1
  cases h1
  obtain⟨bt,bx,bo⟩:=B
  have e:=Ty.aI dy
  simp only at e
  subst e
  obtain⟨cs,T',aE,aM,how,_⟩:=uH.cells rfl
  have hv:a.eval x= .pointer (some ⟨r0,0,none⟩):=by rw[((rf rfl).1 hv).1];rfl
  obtain⟨e,je,jw,_⟩:=(hE.ty T _ hT).dC
  have hlen:List.length (bx:List (El t))=n:=aM.1
  have bJ:bE X id r0 ⟨.aF .row t .unit,(bx:List (El t)),[]⟩:=⟨how,cs,T',aE,by have:=aM.2.1;rw[hlen];simpa using this,aM.2.2⟩
  have K9:(Ty.cast dy bx:El (.arr n t))=bx:=rfl
  rw[K9]
  refine⟨X,.slice (some ⟨r0,0,none⟩) n n,.inl ?_,Ext.refl X,(hr.mQ hb hβ bJ (.inl rfl)).fin ⟨r0,hβ,n,rfl,Nat.le_refl _⟩ (fun bc t' p' hm=> ?_)⟩
  ·simp only[execOp,ho,Sem.run_bind,Instr.sliceAt,run_underlying je,Result.andThen_ok,Option.map_none,hv,Instr.sureAddr,Sem.run_pure,l9 hE jw]
   simp [Instr.sliceBounds]
   intro _
   rw[jq]
  ·have sU:SV.ptr bc t' p'= .ptr id (.aF (.ju n) t .unit) []:=by simpa using hm
   cases sU
   exact⟨_,TQ hb⟩
 ·exact aha hE hr ho h
theorem acj(hr:Rel X s a){ops:List Oper}{fn:Fn}{fi ca:Array Operand}(ho:o.op= .makeFunc fn fi ca){C:FuncId->bV Out}(h:act E C ops o s some=some u):aH P X s a o u:=by
 unfold act at h
 cases fn with
 |func f=>
  simp only[ho] at h
  split at h
  case h_3=>cases h
  case h_2=>
   rename_i x y uK CF
   have uK:fi= #[]:=by rw[<-Array.toArray_toList (xs:=fi),uK]
   have CF:ca= #[x,y]:=by rw[<-Array.toArray_toList (xs:=ca),CF]
   subst uK CF
   unfold uz at h
   split at h
   case h_2=>cases h
   rename_i t x1 u' y1 dP LO
   cases h
   have hx:=hr.aG x
   have hy:=hr.aG y
   rw[dP] at hx
   rw[LO] at hy
   obtain⟨ad,cs,h1,h2,h3,h4⟩:=hx
   obtain⟨qT,eZ,k1,k2,k3,k4⟩:=hy
   refine aH.plain hr (v:= .func (.func f) #[] #[.pointer (some ad),.pointer (some qT)]) ?_ ⟨ad,qT,cs,eZ,rfl,⟨h2,h3,h4⟩,k2,k3,k4⟩ (fun _ _ _ e=>by cases e)
   simp [execOp,ho,Instr.makeFunc,h1,k1]
  rename_i x uK CF
  have uK:fi= #[]:=by rw[<-Array.toArray_toList (xs:=fi),uK]
  have CF:ca= #[x]:=by rw[<-Array.toArray_toList (xs:=ca),CF]
  subst uK CF
  unfold nz at h
  split at h
  case h_2=>cases h
  rename_i id u' dP
  split at h
  case isTrue=>cases h
  rename_i hs
  cases h
  have hx:=hr.aG x
  rw[dP] at hx
  obtain⟨r0,hβ,hv⟩:=hx
  have hv:=((Rp (by simpa using hs)).1 hv).1
  refine aH.plain hr (v:= .func (.func f) #[] #[.pointer (some ⟨r0,0,none⟩)]) ?_ ⟨r0,hβ,rfl⟩ (fun _ _ _ e=>by cases e;exact te hr dP)
  have hv:a.eval x= .pointer (some ⟨r0,0,none⟩):=by rw[hv];simp [Ty.off]
  simp [execOp,ho,Instr.makeFunc,hv]
 |_=>simp only[ho] at h;cases h
theorem NU{t:Ty}{xs:List (El t)}{n l:Nat}{cs:List Value}(h:bh X (.arr n t) xs cs)(hl:l<=n):bh X (.arr l t) (xs.take l:List (El t)) (cs.take (l*t.cells)):=by
 obtain⟨h1,h2,h3⟩:=h
 have hm:=Nat.mul_le_mul_right t.cells hl
 refine⟨by rw[List.length_take];omega,by rw[List.length_take];omega,fun j y hj=> ?_⟩
 have hj:(xs.take l)[j]? =some y:=hj
 rw[List.getElem?_take] at hj
 split at hj
 case isFalse=>cases hj
 rename_i uN
 have hk:(j+1)*t.cells<=l*t.cells:=Nat.mul_le_mul_right _ uN
 rw[Nat.add_mul,Nat.one_mul] at hk
 have e:((cs.take (l*t.cells)).drop (j*t.cells)).take t.cells=(cs.drop (j*t.cells)).take t.cells:=by
  rw[List.drop_take,List.take_take,Nat.min_eq_left (by omega)]
 rw[e]
 exact h3 j y hj
theorem NT{t:Ty}{xs:List (El t)}{n l:Nat}{cs:List Value}(h:bh X (.arr n t) xs cs)(hl:l<=n):bh X (.arr (n-l) t) (xs.drop l:List (El t)) (cs.drop (l*t.cells)):=by
 obtain⟨h1,h2,h3⟩:=h
 refine⟨by rw[List.length_drop];omega,by rw[List.length_drop,Nat.sub_mul];omega,fun j y hj=> ?_⟩
 have hj:(xs.drop l)[j]? =some y:=hj
 rw[List.getElem?_drop] at hj
 rw[List.drop_drop,<-Nat.add_mul]
 exact h3 (l+j) y hj
theorem OG{α:Type}(xs ys:List α)(lo:Nat)(h:lo+ys.length<=xs.length):(bZ xs ys lo).length=xs.length:=by
 unfold bZ;simp;omega
theorem zvp(hE:ak P E)(hr:Rel X s a){d x:Operand}{T e:TypeId}{t:Ty}{ts:Array TypeId}(ho:o.op= .call ⟨.builtin .copy,#[d,x],ts⟩)(lg:ts[0]? =some T)(hT:E.ty T=some (.sl e t)){id n lo:Nat}{ta tb:Ty}{p:List Nat}
 (dP:s.aG d= .ptr id (.aF (.ju n) ta tb) p) (sk:∀r,nW (.aF (.ju n) ta tb) p r (a.eval d)->∃cap off,a.eval d= .slice (some ⟨r,off,none⟩) (n-lo) cap/\lo<=n/\((n=lo/\off=0)\/off=lo*ta.cells))
 (h:iZ t s id n lo ta tb (s.aG x) e some=some u):aH P X s a o u:=by
 have hx:=hr.aG d
 rw[dP] at hx
 obtain⟨r0,hβ,hv⟩:=hx
 unfold iZ at h
 split at h
 case isFalse=>cases h
 rename_i heq
 have:=Ty.aI heq
 subst this
 obtain⟨ys,h,vf⟩:=zz h
 split at h
 case h_2=>cases h
 rename_i B hB
 split at h
 case isFalse=>cases h
 rename_i dy
 obtain⟨hb,r,h1,how,cs,T',aE,c9,fX⟩:=GX hr hB dy
 rw[hβ] at h1
 cases h1
 generalize(Ty.cast dy B.x:List (El ta))=xs at*
 cases hn:Nat.beq n (List.length xs)<;>rw[hn] at h
 ·cases h
 cases CT:Nat.ble lo n<;>rw[CT] at h
 ·cases h
 cases h
 have hn:=Nat.eq_of_beq_eq_true hn
 have CT:=Nat.le_of_ble_eq_true CT
 obtain⟨cap,off,hd,_,xX⟩:=sk r0 hv
 obtain⟨cx,l6,ev⟩:=vf X _ _ (hr.aG x)
 have ab9:=l6
 obtain⟨A,c,xN,_⟩:=ab9
 have ev:a.eval x= .slice A ys.length c:=by rw[ev,xN];rfl
 rw[xN] at l6
 obtain⟨_,hc,cy,ry,ny,sy⟩:=zb4 (X:=X) l6
 have hu:=(hE.ty T _ hT).dC
 have hm:(ys.take (n-lo)).length=min ys.length (n-lo):=by rw[List.length_take,Nat.min_comm]
 generalize HC:min ys.length (n-lo)=m at hm
 have hmy:m<=ys.length:=by omega
 have hmn:m<=n-lo:=by omega
 have htk:ys.take (n-lo)=ys.take m:=by
  rw[<-HC]
  rcases Nat.le_total ys.length (n-lo) with g|g
  ·rw[Nat.min_eq_left g,List.take_of_length_le g,List.take_of_length_le (Nat.le_refl _)]
  ·rw[Nat.min_eq_right g]
 have rz:=NU ry hmy
 have LQ:(cy.take (m*ta.cells)).length=m*ta.cells:=rz.2.1
 have eU:bh X (.arr xs.length ta) xs cs.toList:=⟨rfl,by simpa using c9,fX⟩
 have kD:(Builtin.firstCells ta.cells m (a.eval x)).run P X.w= .ok (cy.take (m*ta.cells)).toArray X.w:=by
  rw[ev]
  cases A with
  |none=>
   have:=ny rfl
   subst this
   have:m=0:=by simpa using hmy
   subst this
   simp [Builtin.firstCells]
  |some ad=>
   have:=run_loadCells_list (P:=P) X.w ad (cy.take (m*ta.cells)) (fun j v hj=>by
    rw[List.getElem?_take] at hj
    split at hj
    ·exact(sy ad rfl j v hj).2.1
    ·cases hj)
   rw[LQ] at this
   simpa [Builtin.firstCells] using this
 have du:off+0+(cy.take (m*ta.cells)).length<=cs.size:=by
  rw[LQ,c9,<-hn]
  rcases xX with⟨g1,g2⟩|g
  ·have:m=0:=by omega
   subst this
   omega
  ·rw[g,Nat.add_zero,<-Nat.add_mul]
   exact Nat.mul_le_mul_right _ (by omega)
 let new:=(cs.toList.take off++cy.take (m*ta.cells)++cs.toList.drop (off+(cy.take (m*ta.cells)).length)).toArray
 have bQ:=run_storeCells_at P r0 off T' (cy.take (m*ta.cells)) 0 cs X.w aE du rz.one
 simp only[Nat.add_zero] at bQ du
 have aX:(execOp a.eval o).run P X.w= .ok (.value (.int .i64 m)) (X.row r0 new).w:=by
  have aan:Nat.min ys.length (n-lo)=m:=HC
  simp only[execOp,ho,resolve,invoke,builtin,Sem.run_bind,Sem.run_pure,Result.andThen_ok,List.map_toArray,List.map_cons,List.map_nil,Builtin.copy_,lg,hd]
  have e1:(Builtin.lenOf (a.eval x)).run P X.w= .ok ys.length X.w:=by rw[ev];simp [Builtin.lenOf]
  simp [run_underlying hu.1,e1,aan,kD,bQ,goInt,l9 hE hu.2]
  show _=X.w.setRow r0 new
  congr 1
  simp [new]
 have eA:new.toList=cs.toList.take off++cy.take (m*ta.cells)++cs.toList.drop (off+(cy.take (m*ta.cells)).length):=rfl
 have aM:bh X (.arr xs.length ta) (bZ xs (ys.take m) lo:List (El ta)) new.toList:=by
  rw[eA,LQ]
  by_cases m0:m=0
  ·subst m0
   have e1:bZ xs (ys.take 0) lo=xs:=by unfold bZ;simp
   rw[e1]
   simpa using eU
  ·have g:off=lo*ta.cells:=by rcases xX with⟨g1,_⟩|g<;>omega
   have h1:=NU eU (show lo<=xs.length by omega)
   have h3:=NT eU (show lo+m<=xs.length by omega)
   have:=HO h1 (HO rz h3)
   rw[show lo+(m+(xs.length-(lo+m)))=xs.length by omega] at this
   unfold bZ
   rw[show(ys.take m).length=m by rw[List.length_take];omega,g,<-Nat.add_mul,List.append_assoc]
   exact this
 have b9:new.size=cs.size:=by
  have h1:new.toList.length=xs.length*ta.cells:=aM.2.1
  rw[c9,<-h1];simp
 have bJ:bE (X.row r0 new) id r0 ⟨.aF .row ta tb,(bZ xs (ys.take (n-lo)) lo:List (El ta)),[]⟩:=by
  rw[htk]
  refine⟨how,new,T',setRow_heap X.w r0 cs new T' (0,0) aE,?_,fun j z hj=> ?_⟩
  ·rw[b9,c9]
   show _=List.length (bZ xs (ys.take m) lo)*_
   rw[OG _ _ _ (by rw[List.length_take];omega)]
  ·exact bh.ai (fun _ _=>m8 (cs:=new) how) (aM.2.2 j z hj)
 refine⟨X.row r0 new,.int .i64 m,.inl aX,GY how,?_⟩
 rw[hm]
 exact(hr.row hb hβ how bJ (.inl (by rw[Ty.aI dy];rfl))).fin jR (fun id t p hm=>by simp [i64] at hm)
theorem agR{X:ax}(l:List UInt8):bh X (.arr l.length (.int .u8)) (l.map fun c=>(c.toNat:Int):List Int) (l.map fun c=>Value.int .u8 c.toNat):=by
 refine⟨by show(l.map _).length=_;simp,by simp [Ty.cells],fun j y hj=> ?_⟩
 have hj:(l.map fun c=>(c.toNat:Int))[j]? =some y:=hj
 rw[List.getElem?_map] at hj
 obtain⟨c,hc,rfl⟩:=Option.map_eq_some_iff.1 hj
 have:((l.map fun c=>Value.int .u8 c.toNat).drop (j*(Ty.int IntKind.u8).cells)).take (Ty.int IntKind.u8).cells=[Value.int .u8 c.toNat]:=by
  rw[show(Ty.int IntKind.u8).cells=1 from rfl,Nat.mul_one]
  apply List.ext_getElem?
  intro i
  rw[List.getElem?_take]
  cases i with
  |zero=>simp [hc]
  |succ i=>simp
 rw[this]
 rfl
theorem ad5(hE:ak P E)(hr:Rel X s a){d x:Operand}{T e:TypeId}{t:Ty}{ts:Array TypeId}(ho:o.op= .call ⟨.builtin .copy,#[d,x],ts⟩)(lg:ts[0]? =some T)(hT:E.ty T=some (.sl e t)){id n:Nat}{ta tb:Ty}
 (dP:s.aG d= .ptr id (.aF (.ju n) ta tb) []) {y:ByteArray} {w:List (List Nat)} (LO:s.aG x= .aj .str y w) (h:kA t s id n ta tb y some=some u):aH P X s a o u:=by
 have hx:=hr.aG d
 rw[dP] at hx
 obtain⟨r0,hβ,cap,hd,nF⟩:=hx
 unfold kA at h
 split at h
 case isFalse=>cases h
 rename_i aak
 have:=Ty.aI aak
 subst this
 split at h
 case isFalse=>cases h
 rename_i heq
 have:=Ty.aI heq
 subst this
 split at h
 case h_2=>cases h
 rename_i B hB
 split at h
 case isFalse=>cases h
 rename_i dy
 obtain⟨hb,r,h1,how,cs,T',aE,c9,fX⟩:=GX hr hB dy
 rw[hβ] at h1
 cases h1
 generalize(Ty.cast dy B.x:List Int)=xs at*
 cases hn:Nat.beq n (List.length xs)<;>rw[hn] at h
 ·cases h
 cases h
 have hn:=Nat.eq_of_beq_eq_true hn
 have hy:=hr.aG x
 rw[LO] at hy
 obtain⟨cy,ry,ev,_⟩:=hy
 have ev:a.eval x= .string y:=by rw[ev,n6 ry]
 have hu:=(hE.ty T _ hT).dC
 have vR:(Ty.int IntKind.u8).cells=1:=rfl
 rw[vR,Nat.mul_one] at c9
 let l:=y.data.toList.take n
 have HB:l.length=min n y.size:=by simp [l]
 have Tb:List.take n (z31 y)=l.map fun c=>(c.toNat:Int):=by simp [z31,l]
 have kD:(Builtin.firstCells 1 (Nat.min y.size n) (.string y)).run P X.w= .ok (l.map fun c=>Value.int .u8 c.toNat).toArray X.w:=by
  have e1:((y.extract 0 (Nat.min y.size n)).data.map fun b=>Value.int .u8 b.toNat)=(l.map fun c=>Value.int .u8 c.toNat).toArray:=by
   apply Array.ext'
   have e0:(y.extract 0 (Nat.min y.size n)).data.toList=l:=by
    rw[ByteArray.data_extract,Array.toList_extract,List.extract_eq_take_drop]
    show List.take (Nat.min y.size n-0) (y.data.toList.drop 0)=y.data.toList.take n
    rw[Nat.sub_zero,List.drop_zero]
    show List.take (min y.data.toList.length n) y.data.toList=y.data.toList.take n
    rw[Nat.min_comm,<-List.take_eq_take_min]
   rw[Array.toList_map,e0]
  simp only[Builtin.firstCells,Sem.run_pure,e1]
 have du:0+(l.map fun c=>Value.int .u8 c.toNat).length<=cs.size:=by
  rw[List.length_map,c9,<-hn,HB];omega
 let new:=((l.map fun c=>Value.int .u8 c.toNat)++cs.toList.drop l.length).toArray
 have rz:=agR (X:=X) l
 have bQ:=run_storeCells_at P r0 0 T' (l.map fun c=>Value.int .u8 c.toNat) 0 cs X.w aE (by simpa using du) rz.one
 have aX:(execOp a.eval o).run P X.w= .ok (.value (.int .i64 (l.length:Nat))) (X.row r0 new).w:=by
  have e1:(Builtin.lenOf (a.eval x)).run P X.w= .ok y.size X.w:=by rw[ev];simp [Builtin.lenOf]
  have e2:Nat.min y.size n=l.length:=by rw[HB];exact Nat.min_comm _ _
  have e3:=kD
  rw[e2] at e3
  simp only[execOp,ho,resolve,invoke,builtin,Sem.run_bind,Sem.run_pure,Result.andThen_ok,List.map_toArray,List.map_cons,List.map_nil,Builtin.copy_,lg,hd]
  rw[ev] at e1⊢
  simp [run_underlying hu.1,e1,e2,e3,bQ,goInt,l9 hE hu.2,vR]
  rfl
 have eU:bh X (.arr xs.length (.int .u8)) xs cs.toList:=⟨rfl,by simpa [vR] using c9,fX⟩
 have aM:bh X (.arr xs.length (.int .u8)) (bZ xs (l.map fun c=>(c.toNat:Int)) 0:List Int) new.toList:=by
  have hle:l.length<=xs.length:=by rw[HB];omega
  have h3:=NT eU hle
  have:=HO rz h3
  rw[show l.length+(xs.length-l.length)=xs.length by omega] at this
  unfold bZ
  simp only[List.take_zero,List.nil_append,Nat.zero_add,List.length_map]
  rw[vR,Nat.mul_one] at this
  exact this
 have b9:new.size=cs.size:=by
  have h1:new.toList.length=xs.length*1:=aM.2.1
  rw[c9];simpa using h1
 have bJ:bE (X.row r0 new) id r0 ⟨.aF .row (.int .u8) tb,(bZ xs (List.take n (z31 y)) 0:List Int),[]⟩:=by
  rw[Tb]
  refine⟨how,new,T',setRow_heap X.w r0 cs new T' (0,0) aE,?_,fun j z hj=> ?_⟩
  ·rw[b9,c9]
   show _=List.length (bZ xs (l.map fun c=>(c.toNat:Int)) 0)*_
   rw[OG _ _ _ (by rw[List.length_map,HB];omega)]
   simp [vR]
  ·exact bh.ai (fun _ _=>m8 (cs:=new) how) (aM.2.2 j z hj)
 refine⟨X.row r0 new,.int .i64 (l.length:Nat),.inl aX,GY how,?_⟩
 have Ln:(List.take n (z31 y)).length=l.length:=by rw[Tb,List.length_map]
 rw[Ln]
 exact(hr.row hb hβ how bJ (.inl (by rw[Ty.aI dy];rfl))).fin jR (fun id t p hm=>by simp [i64] at hm)
theorem ag9(hE:ak P E)(hr:Rel X s a){ops:List Oper}{dT:Array Operand}{ts:Array TypeId}(ho:o.op= .call ⟨.builtin .copy,dT,ts⟩){C:FuncId->bV Out}(h:act E C ops o s some=some u):aH P X s a o u:=by
 unfold act at h
 simp only[ho] at h
 split at h
 case h_2=>cases h
 rename_i d x T r sY CC
 have has:dT= #[d,x]:=by rw[<-Array.toArray_toList (xs:=dT),sY]
 have lg:ts[0]? =some T:=by rw[<-Array.getElem?_toList,CC];rfl
 subst has
 unfold copyV at h
 split at h
 ·rename_i e t id n ta tb hT dP
  split at h
  ·rename_i y w LO
   exact ad5 hE hr ho lg hT dP LO h
  ·exact zvp hE hr ho lg hT dP (fun r hv=>by
    obtain⟨cap,h1,h2⟩:=hv
    exact⟨cap,0,h1,Nat.zero_le _,.inr (by simp)⟩) h
 ·rename_i e t id n ta tb l hT dP
  exact zvp hE hr ho lg hT dP (fun r hv=>by
   obtain⟨cap,off,h1,h2,h3,h4⟩:=hv
   exact⟨cap,off,h1,h3,h4⟩) h
 ·cases h
end Go.Ref

namespace Go.Ref
open Go
variable {P:Program} {E:Env} {X:ax} {s:State} {a:Act} {o:Oper} {u:Out}
structure kh(X:ax)(l:List SV)(b:Option bD)(args:Array Value):Prop where
 size:args.size=l.length
 rep:∀(i:Nat) sv v,l[i]? =some sv->args[i]? =some v->aA X (.c i 0) sv v
 ptr:∀id t p,SV.ptr id t p∈l->id=0/\b.isSome=true
 box:∀B,b=some B->∃r,X.β 0=some r/\bE X 0 r B
 rows:b=none->∀g pl n,X.ow g≠ .row pl n
 pj:l.any SV.bM=false
def yQ(X Y:ax)(b:Option bD)(r:List SV)(b':Option bD)(v:Value):Prop:=
 ∃r0,cS {Y with β:=fun _=>some r0} .r r v/\
  (∀B',b'=some B'->bE Y 0 r0 B'/\(b.isSome=true->X.β 0=some r0))/\
  ((b'=none\/b.isSome=true)->∀id t p,SV.ptr id t p∉r)/\r.any SV.bM=false
def sP(P:Program)(f:FuncId):Prop:=∃fn c,P.funcs[f]? =some fn/\(fn.name== "runtime.NumGoroutine")=false/\fn.body=some c
def de(P:Program)(C:ag)(f:FuncId):Prop:=
 ∀(l:List SV) (b:Option bD) (r:List SV) (b':Option bD),C (List SV×Option bD) f l b (fun r b=>some (r,b))=some (r,b')->sP P f/\
  ∀(X:ax) (args:Array Value),kh X l b args->Calls P f args X.w fun e w'=>match e with
   | .returned v=>∃Y,Y.w=w'/\Ext X Y/\yQ X Y b r b' v
   |_=>False
def jz(k:Option Nat):Ow->Bool
 | .box id=>decide (k=some id)
 | .row (.b id _) _=>decide (k=some id)
 |_=>false
def jf(k:Option Nat):Ow->Ow
 | .all=> .all
 | .ro n=> .ro n
 | .box id=>if k=some id then .box 0 else .ro 0
 | .row (.b id p) n=>if k=some id then .row (.b 0 p) n else .ro n
 | .row _ n=> .ro n
def jO(k:Option Nat)(d:Nat):Ow->Ow
 | .all=> .all
 | .ro n=> .ro n
 | .box 0=>match k with
   |some id=> .box id
   |none=> .ro 0
 | .box _=> .ro 0
 | .row (.r j p) n=> .row (.c d j p) n
 | .row (.b 0 p) n=>match k with
   |some id=> .row (.b id p) n
   |none=> .ro n
 | .row _ n=> .ro n
theorem M5{k:Option Nat}{w:Ow}{i:Nat}:(jf k w).used i↔w.used i:=by
 cases w with
 |all=>rfl
 |ro n=>rfl
 |box id=>simp only[jf];split<;>simp [Ow.used]
 |row pl n=>
  cases pl with
  |b id p=>simp only[jf];split<;>simp [Ow.used]
  |_=>rfl
theorem aeq{k:Option Nat}{d:Nat}{w:Ow}{i:Nat}(h:w.used i):(jO k d w).used i:=by
 cases w with
 |all=>exact h
 |ro n=>exact h
 |box id=>exact h.elim
 |row pl n=>
  cases pl with
  |b id p=>
   cases id with
   |zero=>simp only[jO];split<;>exact h
   |succ id=>exact h
  |c i j p=>exact h
  |r j p=>exact h
theorem zw5{k:Option Nat}{w:Ow}(h:jz k w=false):(jf k w).still:=by
 cases w with
 |all=>trivial
 |ro n=>trivial
 |box id=>simp only[jz,decide_eq_false_iff_not] at h;simp only[jf];rw[if_neg h];trivial
 |row pl n=>
  cases pl with
  |b id p=>simp only[jz,decide_eq_false_iff_not] at h;simp only[jf];rw[if_neg h];trivial
  |_=>trivial
def ax.cX(X:ax)(k:Option Nat):ax:=⟨X.w,fun g=>jf k (X.ow g),match k with
 |some id=>fun _=>X.β id
 |none=>X.β⟩
theorem vG{k:Option Nat}{ad:Addr}{v:Value}:(X.cX k).ay ad v↔X.ay ad v:=by
 simp only[ax.ay,ax.cX,M5]
def ax.back(X Y:ax)(k k':Option Nat)(d:Nat)(β:Nat->Option Nat):ax:=
 ⟨Y.w,fun g=>if g<X.w.heap.size/\jz k (X.ow g)=false then X.ow g else jO k' d (Y.ow g),β⟩
section
variable {k k':Option Nat} {d:Nat} {β:Nat->Option Nat} {Y:ax}
theorem Gn(h:Ext (X.cX k) Y){g:Nat}(hg:g<X.w.heap.size)(hm:jz k (X.ow g)=false):(X.back Y k k' d β).ow g=X.ow g/\(X.back Y k k' d β).w.heap[g]? =X.w.heap[g]? /\(Y.ow g).still/\Y.ow g=jf k (X.ow g):=by
 obtain⟨h1,h2⟩:=h.still g hg (zw5 hm)
 refine⟨by simp only[ax.back];rw[if_pos ⟨hg,hm⟩],h2,?_,h1⟩
 rw[h1];exact zw5 hm
theorem zdh(h:Ext (X.cX k) Y){g:Nat}(hs:¬(Y.ow g).still):(X.back Y k k' d β).ow g=jO k' d (Y.ow g):=by
 simp only[ax.back]
 rw[if_neg]
 rintro⟨hg,hm⟩
 exact hs (Gn (k':=k') (d:=d) (β:=β) h hg hm).2.2.1
theorem vF(h:Ext (X.cX k) Y){ad:Addr}{v:Value}(hs:Y.ay ad v):(X.back Y k k' d β).ay ad v:=by
 refine⟨hs.1,hs.2.1,?_⟩
 simp only[ax.back]
 split
 ·rename_i hc
  have:=(Gn (k':=k') (d:=d) (β:=β) h hc.1 hc.2).2.2.2
  have hu:=hs.2.2
  rw[this,M5] at hu
  exact hu
 ·exact aeq hs.2.2
theorem zqr(h:Ext (X.cX k) Y)(hβ:β 0=X.β 0):Ext X (X.back Y k k' d β) where
 ay:=fun ad v hs=>vF h (h.ay ad v (vG.2 hs))
 size:=h.size
 os:=h.os
 tape:=h.tape
 output:=h.output
 β0:=hβ
 still:=fun g hg bQ=>by
  have hm:jz k (X.ow g)=false:=by cases hx:X.ow g<;>rw[hx] at bQ<;>first|rfl|exact bQ.elim
  obtain⟨h1,h2,_⟩:=Gn (k':=k') (d:=d) (β:=β) h hg hm
  exact⟨h1,h2⟩
theorem bu.back(h:Ext (X.cX k) Y){pl:Place}(gk:∀n,jz k (.row pl n)=false){e:TypeId}{m n:Nat}{v:Value}(ho:bu X pl e m n v):bu (X.back Y k k' d β) pl e m n v:=by
 rcases ho with ho|⟨g,cap,cur,h1,h2,h3,h4,h5,h6⟩
 ·exact .inl ho
 ·obtain⟨k1,k2,_⟩:=Gn (k':=k') (d:=d) (β:=β) h (wq h2) (by rw[h6];exact gk _)
  exact .inr ⟨g,cap,cur,h1,k2.trans h2,h3,h4,h5,k1.trans h6⟩
theorem bn.back(h:Ext (X.cX k) Y){pl:List Nat->Place}(gk:∀p n,jz k (.row (pl p) n)=false){t:Ty}{x:El t}{cs:List Value}{own:List (List Nat)}(ho:bn X pl t x cs own):bn (X.back Y k k' d β) pl t x cs own:=fun p hp=>by
 obtain⟨e,t',xs,v,g0,g1,g2,g3⟩:=ho p hp
 exact⟨e,t',xs,v,g0,g1,g2,g3.back h (gk p)⟩
theorem bn.out(h:Ext (X.cX k) Y){pl gM:List Nat->Place}(gk:∀p n,jO k' d (.row (pl p) n)= .row (gM p) n){t:Ty}{x:El t}{cs:List Value}{own:List (List Nat)}(ho:bn Y pl t x cs own):bn (X.back Y k k' d β) gM t x cs own:=fun p hp=>by
 obtain⟨e,t',xs,v,g0,g1,g2,g3⟩:=ho p hp
 refine⟨e,t',xs,v,g0,g1,g2,?_⟩
 rcases g3 with ho|⟨g,cap,cur,h1,h2,h3,h4,h5,h6⟩
 ·exact .inl ho
 ·refine .inr ⟨g,cap,cur,h1,h2,h3,h4,h5,?_⟩
  rw[zdh h (by rw[h6];exact fun e=>e),h6,gk]
theorem aA.back(h:Ext (X.cX k) Y){i j:Nat}{sv:SV}{v:Value}(hβ:∀id t p,sv= .ptr id t p->β id=X.β id)(hl:∀id a b n,sv= .bA id a b n->k≠some id/\β id=X.β id)(hr:aA X (.c i j) sv v):aA (X.back Y k k' d β) (.c i j) sv v:=by
 cases sv with
 |undef=>trivial
 |skip=>exact hr
 |cJ=>exact hr
 |eh=>exact hr
 |over=>exact hr
 |aj t x own=>
  obtain⟨cs,h1,h2,h3⟩:=hr
  exact⟨cs,h1.ai (fun _ _ hs=>vF h (h.ay _ _ (vG.2 hs))),h2,h3.back h (fun _ _=>rfl)⟩
 |ptr id t p=>
  obtain⟨r,h1,h2⟩:=hr
  exact⟨r,(hβ id t p rfl).trans h1,h2⟩
 |view t x=>
  obtain⟨ad,cs,h1,h2,h3,h4⟩:=hr
  exact⟨ad,cs,h1,h2,h3.ai (fun _ _ hs=>vF h (h.ay _ _ (vG.2 hs))),fun i u hi=>vF h (h.ay _ _ (vG.2 (h4 i u hi)))⟩
 |cap f t x u y=>exact sG (fun _ _ hs=>vF h (h.ay _ _ (vG.2 hs))) hr
 |bA id a b n=>
  obtain⟨r,h1,h2,h3⟩:=hr
  obtain⟨hk,hb⟩:=hl id a b n rfl
  obtain⟨e1,e2,_⟩:=Gn (k':=k') (d:=d) (β:=β) h (World.block_lt_of_cell? X.w _ h3) (by rw[h2];simp [jz,hk])
  refine⟨r,hb.trans h1,e1.trans h2,?_⟩
  simp only[World.cell?] at h3⊢
  rw[e2];exact h3
theorem bE.back(h:Ext (X.cX k) Y){id r:Nat}{B:bD}(hk:k≠some id)(hb:bE X id r B):bE (X.back Y k k' d β) id r B:=by
 obtain⟨h3,h1⟩:=hb
 have hm:jz k (X.ow r)=false:=by rw[h3];simp [jz,hk]
 obtain⟨k1,k2,_⟩:=Gn (k':=k') (d:=d) (β:=β) h h1.lt hm
 exact⟨k1.trans h3,h1.move (fun _ _ hs=>vF h (h.ay _ _ (vG.2 hs))) k2 (fun cs h4=>h4.back h (fun _ _=>by simp [jz,hk])) fun _ _ g o _ ho hw=>by
  obtain⟨e1,e2,_⟩:=Gn (k':=k') (d:=d) (β:=β) h (wq ho) (by rw[hw];simp [jz,hk])
  exact⟨e2.trans ho,e1.trans hw⟩⟩
theorem bE.out(h:Ext (X.cX k) Y){id r:Nat}{B:bD}(hk:k'=some id)(hb:bE Y 0 r B):bE (X.back Y k k' d β) id r B:=by
 obtain⟨h3,h1⟩:=hb
 refine⟨?_,h1.move (fun _ _ hs=>vF h hs) rfl (fun cs h4=>h4.out h (fun p n=>by simp [jO,hk])) fun _ _ g o _ ho hw=>⟨ho,by rw[zdh h (by rw[hw];exact fun hh=>hh),hw];simp [jO,hk]⟩⟩
 rw[zdh h (by rw[h3];exact fun e=>e),h3]
 simp [jO,hk]
theorem aA.out(h:Ext (X.cX k) Y){r0 id j:Nat}{sv:SV}{v:Value}(hβ:∀bc t p,sv= .ptr bc t p->β id=some r0)(hn:sv.bM=false)(hr:aA {Y with β:=fun _=>some r0} (.r j) sv v):aA (X.back Y k k' d β) (.c d j) (sv.gO id) v:=by
 cases sv with
 |undef=>trivial
 |skip=>exact hr
 |cJ=>exact hr
 |eh=>exact hr
 |over=>exact hr
 |aj t x own=>
  obtain⟨cs,h1,h2,h3⟩:=hr
  have h3:bn Y (.r j) t x cs own:=h3
  exact⟨cs,bh.ai (fun ad v (hs:({Y with β:=fun _=>some r0}:ax).ay ad v)=>vF (Y:=Y) h hs) h1,h2,h3.out h (fun _ _=>rfl)⟩
 |ptr bc t p=>
  obtain⟨r,h1,h2⟩:=hr
  have h1:some r0=some r:=h1
  cases h1
  exact⟨r0,hβ bc t p rfl,h2⟩
 |view t x=>
  obtain⟨ad,cs,h1,h2,h3,h4⟩:=hr
  exact⟨ad,cs,h1,h2,bh.ai (fun ad v (hs:({Y with β:=fun _=>some r0}:ax).ay ad v)=>vF (Y:=Y) h hs) h3,fun i u hi=>vF h (show Y.ay _ _ from h4 i u hi)⟩
 |cap f t x u y=>exact sG (X:={Y with β:=fun _=>some r0}) (fun ad v (hs:({Y with β:=fun _=>some r0}:ax).ay ad v)=>vF (Y:=Y) h hs) hr
 |bA bc a b n=>cases hn
theorem Rel.back(h:Ext (X.cX k) Y)(hr:Rel X s a)(hβ:∀(id:Nat) B,s.bs[id]? =some (some B)->β id=X.β id)(hk:∀(id:Nat) B,s.bs[id]? =some (some B)->k≠some id):Rel (X.back Y k k' d β) s a where
 size:=hr.size
 ia:=hr.ia
 bR:=fun i l v hl hv=>(hr.bR i l v hl hv).jx fun j sv u hm kc=>kc.back h (fun id t p e=>by
  obtain⟨B,hB⟩:=hr.live i l id t p hl (e▸List.mem_of_getElem? hm)
  exact hβ id B hB) (fun id c d n e=>by
  obtain⟨_,⟨x,own,hb,_⟩,_⟩:=hr.bA i l id c d n hl (e▸List.mem_of_getElem? hm)
  exact⟨hk id _ hb,hβ id _ hb⟩)
 boxes:=fun id B hB=>by
  obtain⟨r,h1,h2⟩:=hr.boxes id B hB
  exact⟨r,(hβ id B hB).trans h1,h2.back h (hk id B hB)⟩
 live:=hr.live
 defers:=hr.defers
 bA:=hr.bA
theorem Rel.xG(h:Ext (X.cX k) Y)(hr:Rel X s a){id r:Nat}{B B':bD}(hb:s.bs[id]? =some (some B))(hk:k=some id)(Lj:k'=some id)(hβ:X.β id=some r)(hB:bE Y 0 r B')(hg:B.t.fb=false\/ []∈B.own):Rel (X.back Y k k' d X.β) (s.aB (some (id,B'))) a where
 size:=hr.size
 ia:=by simpa [State.aB] using hr.ia
 bR:=fun i l v hl hv=>(hr.bR i l v hl hv).jx fun j sv u hm kc=>kc.back h (fun _ _ _ _=>rfl) (fun bc c d n e=>⟨fun e2=>by
  rw[hk] at e2
  cases e2
  exact hr.pj hb hg i l c d n hl (e▸List.mem_of_getElem? hm),rfl⟩)
 boxes:=fun bc B2 c8=>by
  have al:id<s.bs.length:=(List.getElem?_eq_some_iff.1 hb).1
  simp only[State.aB,List.getElem?_set] at c8
  by_cases e:id=bc
  ·subst e
   rw[if_pos rfl,if_pos al] at c8
   cases c8;exact⟨r,hβ,hB.out h Lj⟩
  ·rw[if_neg e] at c8
   obtain⟨r',h1,h2⟩:=hr.boxes bc B2 c8
   exact⟨r',h1,h2.back h (by rw[hk];intro e2;cases e2;exact e rfl)⟩
 live:=fun i l bc t p hi hm=>by
  have al:id<s.bs.length:=(List.getElem?_eq_some_iff.1 hb).1
  obtain⟨B2,c8⟩:=hr.live i l bc t p hi hm
  simp only[State.aB,List.getElem?_set]
  by_cases e:id=bc
  ·subst e;exact⟨B',by rw[if_pos rfl,if_pos al]⟩
  ·rw[if_neg e];exact⟨B2,c8⟩
 defers:=hr.defers
 bA:=hr.bA.aB (hr.pj hb hg)
end
theorem aA.cX{k:Option Nat}{pl gM:List Nat->Place}{t:Ty}{x:El t}{w:List (List Nat)}{v:Value}(hr:aA X pl (.aj t x w) v):aA (X.cX k) gM (.aj t x []) v:=by
 obtain⟨cs,h1,h2,_⟩:=hr
 exact⟨cs,h1.ai (fun _ _=>vG.2),h2,m7⟩
theorem bE.cX{id r:Nat}{B:bD}(hb:bE X id r B):bE (X.cX (some id)) 0 r B:=by
 obtain⟨h3,h1⟩:=hb
 refine⟨by simp [ax.cX,h3,jf],h1.move (fun _ _=>vG.2) rfl (fun cs h4 p hp=> ?_) fun _ _ g o _ ho hw=>⟨ho,by simp [ax.cX,hw,jf]⟩⟩
 obtain⟨e,t',xs,v,g0,g1,g2,g3⟩:=h4 p hp
 refine⟨e,t',xs,v,g0,g1,g2,?_⟩
 rcases g3 with ho|⟨g,cap,cur,k1,k2,k3,k4,k5,k6⟩
 ·exact .inl ho
 ·exact .inr ⟨g,cap,cur,k1,k2,k3,k4,k5,by simp [ax.cX,k6,jf]⟩
theorem zqp:∀(vs l:List SV) (b:Option (Nat×bD)),jT s vs=some (l,b)->l.any SV.bM=false
 | [],l,b,h=>by
   simp only[jT,Option.some.injEq,Prod.mk.injEq] at h
   rw[<-h.1];rfl
 |v::r,l,b,h=>by
  simp only[jT] at h
  split at h
  ·cases h
  rename_i l1 b1 h1
  have ih:=zqp r l1 b1 h1
  split at h
  ·cases h;simpa [SV.bM] using ih
  ·cases h;simpa [SV.bM] using ih
  ·cases h;simpa [SV.bM] using ih
  ·split at h
   case h_2=>cases h
   split at h
   case isFalse=>cases h
   cases h;simpa [SV.bM] using ih
  ·cases h
theorem zqq(hr:Rel X s a):∀(vs:List (SV×Value)) (l:List SV) (b:Option (Nat×bD)),(∀x∈vs,∃q,aA X q x.1 x.2)->jT s (vs.map (·.1))=some (l,b)->l.length=vs.length/\
 (∀id B,b=some (id,B)->s.bs[id]? =some (some B))/\
 (∀id t p,SV.ptr id t p∈l->id=0/\b.isSome=true)/\
 ∀k,(∀id B,b=some (id,B)->k=some id)->∀(i:Nat) sv x,l[i]? =some sv->vs[i]? =some x->∀q,aA (X.cX k) q sv x.2:=by
 intro vs
 induction vs with
 |nil=>
  intro l b _ h
  simp only[List.map_nil,jT,Option.some.injEq,Prod.mk.injEq] at h
  obtain⟨rfl,rfl⟩:=h
  refine⟨rfl,(fun id B e=>by cases e),(fun id t p hm=>by cases hm),fun k _ i sv x hl=>by simp at hl⟩
 |cons x r ih=>
  intro l b jo h
  simp only[List.map_cons,jT] at h
  split at h
  ·cases h
  rename_i l1 b1 h1
  obtain⟨i1,i2,i3,i4⟩:=ih l1 b1 (fun y hy=>jo y (List.mem_cons_of_mem _ hy)) h1
  obtain⟨q0,hx⟩:=jo x List.mem_cons_self
  have fin:∀(sv:SV),l=sv::l1->(∀id B,b1=some (id,B)->b=b1)->(∀id B,b=some (id,B)->s.bs[id]? =some (some B))->(∀id t p,sv= .ptr id t p->id=0/\b.isSome=true)->
   (∀k,(∀id B,b=some (id,B)->k=some id)->∀q,aA (X.cX k) q sv x.2)->l.length=(x::r).length/\
   (∀id B,b=some (id,B)->s.bs[id]? =some (some B))/\
   (∀id t p,SV.ptr id t p∈l->id=0/\b.isSome=true)/\
   ∀k,(∀id B,b=some (id,B)->k=some id)->∀(i:Nat) sv y,l[i]? =some sv->(x::r)[i]? =some y->∀q,aA (X.cX k) q sv y.2:=by
   intro sv hl hb bJ bK aM
   subst hl
   refine⟨by simp [i1],bJ,fun id t p hm=> ?_,fun k hk i sv' y hl hv=> ?_⟩
   ·rcases List.mem_cons.1 hm with e|hm
    ·exact bK id t p e.symm
    ·obtain⟨j1,j2⟩:=i3 id t p hm
     cases n8:b1 with
     |none=>rw[n8] at j2;cases j2
     |some bb=>rw[hb bb.1 bb.2 n8];exact⟨j1,j2⟩
   ·cases i with
    |zero=>
     simp only[List.getElem?_cons_zero,Option.some.injEq] at hl hv
     subst hl hv
     exact aM k hk
    |succ i=>
     simp only[List.getElem?_cons_succ] at hl hv
     exact i4 k (fun id B e=>hk id B (by rw[hb id B e];exact e)) i sv' y hl hv
  obtain⟨x1,x2⟩:=x
  simp only at h hx fin
  split at h
  ·cases h
   exact fin _ rfl (fun _ _ _=>rfl) i2 (fun _ _ _ e=>by cases e) (fun k _ q=>hx.cX)
  ·cases h
   exact fin _ rfl (fun _ _ _=>rfl) i2 (fun _ _ _ e=>by cases e) (fun k _ q=>hx)
  ·cases h
   refine fin _ rfl (fun _ _ _=>rfl) i2 (fun _ _ _ e=>by cases e) (fun k _ q=> ?_)
   obtain⟨ad,cs,g1,g2,g3,g4⟩:=hx
   exact⟨ad,cs,g1,g2,g3.ai (fun _ _=>vG.2),fun i w hi=>vG.2 (g4 i w hi)⟩
  ·rename_i id t
   split at h
   case h_2=>cases h
   rename_i B hB
   split at h
   case isFalse=>cases h
   cases h
   obtain⟨rr,g1,g2⟩:=hx
   refine fin _ rfl (fun _ _ e=>by cases e) (fun id B e=>by cases e;exact rh hB) (fun _ _ _ e=>by cases e;exact⟨rfl,rfl⟩) (fun k hk q=> ?_)
   have:=hk id B rfl
   subst this
   exact⟨rr,g1,g2⟩
  ·cases h
def ln(P:Program)(X:ax)(s:State)(a:Act)(o:Oper)(u:Out):Prop:=
 ∀(next:Act->World->Prop) (Q:Exit->Act->World->Prop),(∀Y v,Ext X Y->Rel Y (s.apply o.dst u) (a.put o.dst v)->next (a.put o.dst v) Y.w)->o.wp P a X.w next Q
theorem aH.does(h:aH P X s a o u):ln P X s a o u:=fun next Q hn=>by
 obtain⟨Y,v,h1,h2,h3⟩:=h
 unfold Oper.wp
 rcases h1 with h1|⟨h1,rfl⟩
 ·rw[h1,Oper.upon_value];exact hn Y v h2 h3
 ·rw[h1,Oper.upon_skip];exact hn Y _ h2 h3
theorem MP{f:FuncId}(h:sP P f){dT:Array Operand}{ts:Array TypeId}(ho:o.op= .call ⟨.value (.func f),dT,ts⟩)(w:World):(execOp a.eval o).run P w= .ok (.enter f (dT.map a.eval)) w:=by
 obtain⟨fn,c,h1,h2,h3⟩:=h
 simp [execOp,ho,resolve,Deferred.ofValue,Act.eval,invoke,callFunc,h1,h3]
 simpa using h2
theorem zwp{l:List SV}{id:Nat}(h:∀id t p,SV.ptr id t p∉l):l.map (SV.gO id)=l:=by
 induction l with
 |nil=>rfl
 |cons v r ih=>
  rw[List.map_cons,ih (fun id t p hm=>h id t p (List.mem_cons_of_mem _ hm))]
  congr 1
  cases v<;>first|rfl|skip
  exact absurd (List.mem_cons_self) (h _ _ _)
theorem zrj{k k':Option Nat}{d:Nat}{β:Nat->Option Nat}{Y:ax}(h:Ext (X.cX k) Y){r0 id:Nat}{r:List SV}{v:Value}(hβ:∀bc t p,SV.ptr bc t p∈r->β id=some r0)(hn:r.any SV.bM=false)(hr:cS {Y with β:=fun _=>some r0} .r r v):cS (X.back Y k k' d β) (.c d) (r.map (SV.gO id)) v:=by
 match r,hr with
 | [sv],hr=>exact aA.out h (fun bc t p e=>hβ bc t p (by simp [e])) (by simpa using hn) hr
 | [],⟨vs,h1,h2,h3⟩=>exact⟨vs,h1,h2,fun j s u hs=>by simp at hs⟩
 |x::y::r,⟨vs,h1,h2,h3⟩=>
  refine⟨vs,h1,by simpa using h2,fun j sv u hs hu=> ?_⟩
  have hs:((x::y::r).map (SV.gO id))[j]? =some sv:=hs
  rw[List.getElem?_map] at hs
  obtain⟨s0,fF,rfl⟩:=Option.map_eq_some_iff.1 hs
  exact aA.out h (fun bc t p e=>hβ bc t p (e▸List.mem_of_getElem? fF)) (by simpa using List.any_eq_false.1 hn s0 (List.mem_of_getElem? fF)) (h3 j s0 u fF hu)
theorem Nu{l:List SV}{id:Nat}(h:l.any SV.bM=false):(l.map (SV.gO id)).any SV.bM=false:=List.any_eq_false.2 fun v hv=>by
 obtain⟨w,hw,rfl⟩:=List.mem_map.1 hv
 have:=List.any_eq_false.1 h w hw
 cases w<;>first|exact this|simp [SV.gO,SV.bM]
theorem aej:∀g pl n,(X.cX none).ow g≠ .row pl n:=fun g pl n=>by
 show jf none (X.ow g)≠_
 cases X.ow g with
 |row q m=>cases q<;>simp [jf]
 |_=>simp [jf]
theorem zdq(hr:Rel X s a){C:ag}(hC:C.Nat){f:FuncId}(hf:de P C f){vs:List (SV×Value)}(x8:∀x∈vs,∃q,aA X q x.1 x.2)(eV:sP P f->(execOp a.eval o).run P X.w= .ok (.enter f (vs.map (·.2)).toArray) X.w)(h:gy (C Out) s o.dst f (vs.map (·.1)) some=some u):ln P X s a o u:=by
 have aX:=eV
 clear eV
 unfold gy at h
 have enter:∀(l:List SV) (b:Option (Nat×bD)) (k:Option Nat),jT s (vs.map (·.1))=some (l,b)->(∀id B,b=some (id,B)->k=some id)->(b=none->k=none)->kh (X.cX k) l (b.map (·.2)) (vs.map (·.2)).toArray:=by
  intro l b k bW hk A3
  obtain⟨i1,i2,i3,i4⟩:=zqq hr vs l b x8 bW
  refine⟨by simpa using i1.symm,fun i sv v hl hv=> ?_,fun id t p hm=> ?_,fun B hB=> ?_,fun hb=> ?_,zqp _ _ _ bW⟩
  ·rw[List.getElem?_toArray,List.getElem?_map] at hv
   obtain⟨x,hx,rfl⟩:=Option.map_eq_some_iff.1 hv
   exact i4 k hk i sv x hl hx _
  ·obtain⟨j1,j2⟩:=i3 id t p hm
   exact⟨j1,by simpa using j2⟩
  ·obtain⟨bb,hbb,rfl⟩:=Option.map_eq_some_iff.1 hB
   obtain⟨id,B⟩:=bb
   obtain⟨r,h1,h2⟩:=hr.boxes id B (i2 id B hbb)
   have:=hk id B hbb
   subst this
   exact⟨r,h1,h2.cX⟩
  ·have hb:b=none:=by cases b<;>simp at hb⊢
   rw[A3 hb]
   exact aej
 split at h
 ·rename_i l bW
  obtain⟨⟨r,b'⟩,nE,h⟩:=kf (hC Out _ f l none _ (fun r b=>some (r,b)) (fun z=>match z.2 with
   |none=>some {v:=z.1}
   |some B=>match o.dst with
    |some d=>match s.bs[d+1]? with
     |some none=>some {v:=z.1.map (SV.gO (d+1)),bx:=some (d+1,B)}
     |_=>none
    |none=>none) (fun r b=>rfl)) h
  obtain⟨eV,nH⟩:=hf l none r b' nE
  have iN:=enter l none none bW (fun id B e=>by cases e) (fun _=>rfl)
  intro next Q hn
  unfold Oper.wp
  rw[aX eV,Oper.upon_enter]
  refine(nH (X.cX none) _ iN).mono fun e w' he=> ?_
  cases e with
  |returned v=>
   obtain⟨Y,rfl,aY,r0,aM,bJ,pf,eA⟩:=he
   simp only at h
   cases b' with
   |none=>
    cases h
    have hp:=pf (.inl rfl)
    have cf:=zqr (k':=none) (d:=o.dst.getD 0) (β:=X.β) aY rfl
    refine hn (X.back Y none none (o.dst.getD 0) X.β) v cf ?_
    refine(Rel.back (k':=none) aY hr (fun _ _ _=>rfl) (fun _ _ _=>by simp)).fin ?_ (fun id t p hm=>absurd hm (hp id t p)) eA
    have:=zrj (k':=none) (d:=o.dst.getD 0) (β:=X.β) (id:=0) aY (fun bc t p hm=>absurd hm (hp bc t p)) eA aM
    rw[zwp hp] at this
    exact this
   |some B=>
    simp only at h
    split at h
    case h_2=>cases h
    rename_i d hd
    split at h
    case h_2=>cases h
    rename_i jH
    cases h
    have al:d+1<s.bs.length:=(List.getElem?_eq_some_iff.1 jH).1
    obtain⟨hB,_⟩:=bJ B rfl
    let β:Nat->Option Nat:=fun id=>if id=d+1 then some r0 else X.β id
    have hβd:β (d+1)=some r0:=by simp [β]
    have cf:=zqr (k':=some (d+1)) (d:=d) (β:=β) aY (by simp [β])
    refine hn (X.back Y none (some (d+1)) d β) v cf ?_
    have bz:=(Rel.back (k':=some (d+1)) (d:=d) (β:=β) aY hr (fun id B2 c8=>by
     show(if _ then _ else _)=_
     rw[if_neg (fun e=>by rw[e,jH] at c8;cases c8)]) (fun _ _ _=>by simp)).fR al jH hβd (hB.out aY rfl)
    rw[hd]
    refine bz.put (fun d' e=> ?_) (fun id t p hm=> ?_) (Nu eA)
    ·cases e
     exact zrj aY (fun _ _ _ _=>hβd) eA aM
    ·obtain⟨s0,_,he0⟩:=List.mem_map.1 hm
     have:id=d+1:=by
      cases s0<;>simp [SV.gO] at he0
      exact he0.1.symm
     subst this
     exact⟨B,by simp [State.close,State.aB,List.getElem?_set,al]⟩
  |panicked c=>exact he.elim
  |outgrown=>exact he.elim
 ·rename_i l id B bW
  split at h
  case isTrue=>cases h
  rename_i sj
  have hg:B.t.fb=false\/ []∈B.own:=by
   rw[Bool.not_eq_true,Bool.and_eq_false_iff,Bool.not_eq_false'] at sj
   exact sj.imp (fun h=>h) BH
  obtain⟨⟨r,b'⟩,nE,h⟩:=kf (hC Out _ f l (some B) _ (fun r b=>some (r,b)) (fun z=>match z.2 with
   |some B'=>if B'.t.cq B.t=true then some {v:=z.1,bx:=some (id,B')} else none
   |none=>none) (fun r b=>rfl)) h
  obtain⟨eV,nH⟩:=hf l (some B) r b' nE
  have iN:=enter l (some (id,B)) (some id) bW (fun id B e=>by cases e;rfl) (fun e=>by cases e)
  obtain⟨_,i2,_,_⟩:=zqq hr vs l _ x8 bW
  have hb:=i2 id B rfl
  intro next Q hn
  unfold Oper.wp
  rw[aX eV,Oper.upon_enter]
  refine(nH (X.cX (some id)) _ iN).mono fun e w' he=> ?_
  cases e with
  |returned v=>
   obtain⟨Y,rfl,aY,r0,aM,bJ,pf,eA⟩:=he
   simp only at h
   cases b' with
   |none=>cases h
   |some B'=>
    simp only at h
    split at h
    case isFalse=>cases h
    cases h
    have hp:=pf (.inr rfl)
    obtain⟨hB,hβ⟩:=bJ B' rfl
    have hβ:=hβ rfl
    have cf:=zqr (k':=some id) (d:=o.dst.getD 0) (β:=X.β) aY rfl
    refine hn (X.back Y (some id) (some id) (o.dst.getD 0) X.β) v cf ?_
    refine(Rel.xG (k:=some id) (k':=some id) aY hr hb rfl rfl hβ hB hg).fin ?_ (fun id t p hm=>absurd hm (hp id t p)) eA
    have:=zrj (k':=some id) (d:=o.dst.getD 0) (β:=X.β) (id:=0) aY (fun bc t p hm=>absurd hm (hp bc t p)) eA aM
    rw[zwp hp] at this
    exact this
  |panicked c=>exact he.elim
  |outgrown=>exact he.elim
 ·cases h
theorem zdg(hr:Rel X s a)(dT:Array Operand):∀x∈dT.toList.map (fun x=>(s.aG x,a.eval x)),∃q,aA X q x.1 x.2:=fun x hx=>by
 obtain⟨y,_,rfl⟩:=List.mem_map.1 hx
 exact⟨_,hr.aG y⟩
theorem NA{X:ax}{pl:List Nat->Place}{sv:SV}{v:Value}(h:aA X pl sv v):aA X pl sv.shut v:=by
 cases sv with
 |aj t x own=>
  obtain⟨cs,h1,h2,_⟩:=h
  exact⟨cs,h1,h2,m7⟩
 |bA id a b j=>trivial
 |_=>exact h
theorem ah8{X:ax}{pl:Nat->List Nat->Place}{l:List SV}{v:Value}(h:cS X pl l v):cS X pl (l.map SV.shut) v:=by
 match l,h with
 | [sv],h=>exact NA (sv:=sv) h
 | [],h=>exact h
 |x::y::r,⟨vs,g1,g2,g3⟩=>
  refine⟨vs,g1,by simpa using g2,fun j sv u mI hu=> ?_⟩
  have mI:((x::y::r).map SV.shut)[j]? =some sv:=mI
  rw[List.getElem?_map] at mI
  obtain⟨s0,fF,rfl⟩:=Option.map_eq_some_iff.1 mI
  exact NA (g3 j s0 u fF hu)
theorem ah7{l:List SV}{j:Nat}{t:Ty}{p:List Nat}(h:SV.ptr j t p∈l.map SV.shut):SV.ptr j t p∈l:=by
 obtain⟨s0,fF,he⟩:=List.mem_map.1 h
 cases s0<;>first|(cases he;done)|(rw[<-he];exact fF)|skip
theorem Rel.bP(hr:Rel X s a){d:Nat}{l:List SV}:Rel X {s with sl:=s.sl.set d l} a->Rel X {s with sl:=s.sl.set d (l.map SV.shut)} a:=fun h=>{
 size:=by simpa using hr.size
 ia:=by simpa using hr.ia
 bR:=fun i l' v hl hv=>by
  replace hl:(s.sl.set d (l.map SV.shut))[i]? =some l':=hl
  rw[List.getElem?_set] at hl
  split at hl
  ·rename_i uI
   split at hl
   ·cases hl
    rename_i al
    exact ah8 (h.bR i l v (by show(s.sl.set d l)[i]? =_;rw[List.getElem?_set,if_pos uI,if_pos al]) hv)
   ·cases hl
  ·rename_i uI
   exact h.bR i l' v (by show(s.sl.set d l)[i]? =_;rw[List.getElem?_set,if_neg uI];exact hl) hv
 boxes:=h.boxes
 live:=fun i l' id t p hl hm=>by
  replace hl:(s.sl.set d (l.map SV.shut))[i]? =some l':=hl
  rw[List.getElem?_set] at hl
  split at hl
  ·rename_i uI
   split at hl
   ·cases hl
    rename_i al
    exact h.live i l id t p (by show(s.sl.set d l)[i]? =_;rw[List.getElem?_set,if_pos uI,if_pos al]) (ah7 hm)
   ·cases hl
  ·rename_i uI
   exact h.live i l' id t p (by show(s.sl.set d l)[i]? =_;rw[List.getElem?_set,if_neg uI];exact hl) hm
 defers:=h.defers
 bA:=h.bA.less (fun i l' id c b j hl hm=>by
  replace hl:(s.sl.set d (l.map SV.shut))[i]? =some l':=hl
  rw[List.getElem?_set] at hl
  split at hl
  ·split at hl
   ·cases hl
    exact(ZP (zj1 l) hm).elim
   ·cases hl
  ·rename_i uI
   exact⟨l',by show(s.sl.set d l)[i]? =_;rw[List.getElem?_set,if_neg uI];exact hl,hm,fun h=>h⟩) (fun id c b x own _ hb ho=>⟨x,own,hb,ho⟩)}
theorem ln.shut(h:ln P X s a o u):ln P X s a o u.shut:=fun next Q hn=>h next Q fun Y v aY bz=>hn Y v aY (by
 unfold State.apply at bz⊢
 show Rel Y (((s.close u.cl).aB u.bx).av o.dst (u.v.map SV.shut)) _
 generalize(s.close u.cl).aB u.bx=s1 at*
 cases hd:o.dst with
 |none=>rw[hd] at bz;exact bz
 |some d=>
  rw[hd] at bz
  have e:=Rel.bP (X:=Y) (s:={s1 with sl:=s1.sl.set d u.v}) (a:=a.put (some d) v) (d:=d) (l:=u.v) bz (by
   show Rel Y {s1 with sl:=(s1.sl.set d u.v).set d u.v} _
   rw[List.set_set];exact bz)
  show Rel Y {s1 with sl:=s1.sl.set d (u.v.map SV.shut)} _
  have e2:Rel Y {s1 with sl:=(s1.sl.set d u.v).set d (u.v.map SV.shut)} (a.put (some d) v):=e
  rw[List.set_set] at e2
  exact e2)
def fJ(id j:Nat):Ow->Bool
 | .row (.b bc (j'::_)) _=>Nat.beq bc id&&Nat.beq j' j
 |_=>false
def yM(id j:Nat):Ow->Ow
 | .all=> .all
 | .ro n=> .ro n
 | .box _=> .ro 0
 | .row (.b bc (j'::p)) n=>if Nat.beq bc id&&Nat.beq j' j then .row (.b 0 p) n else .ro n
 | .row _ n=> .ro n
def ZI(id j d:Nat):Ow->Ow
 | .all=> .all
 | .ro n=> .ro n
 | .box _=> .ro 0
 | .row (.r i p) n=> .row (.c d i p) n
 | .row (.b 0 p) n=> .row (.b id (j::p)) n
 | .row _ n=> .ro n
theorem zp1{id j:Nat}{w:Ow}{i:Nat}:(yM id j w).used i↔w.used i:=by
 cases w with
 |all=>rfl
 |ro n=>rfl
 |box id=>simp [yM,Ow.used]
 |row pl n=>
  cases pl with
  |b bc p=>
   cases p with
   |nil=>rfl
   |cons j' p=>simp only[yM];split<;>rfl
  |_=>rfl
theorem ac9{id j d:Nat}{w:Ow}{i:Nat}(h:w.used i):(ZI id j d w).used i:=by
 cases w with
 |all=>exact h
 |ro n=>exact h
 |box id=>exact h.elim
 |row pl n=>
  cases pl with
  |b bc p=>cases bc<;>exact h
  |c i j p=>exact h
  |r j p=>exact h
theorem zio{id j:Nat}{w:Ow}(h:fJ id j w=false):(yM id j w).still:=by
 cases w with
 |all=>trivial
 |ro n=>trivial
 |box id=>trivial
 |row pl n=>
  cases pl with
  |b bc p=>
   cases p with
   |nil=>trivial
   |cons j' p=>simp only[fJ] at h;simp only[yM,h];trivial
  |_=>trivial
def ax.eN(X:ax)(id j g:Nat):ax:=⟨X.w,fun q=>if q=g then .box 0 else yM id j (X.ow q),fun _=>some g⟩
def ax.bf(X Y:ax)(id j g d:Nat):ax:=⟨Y.w,fun q=>if q=g then .row (.b id [j]) 0 else if q<X.w.heap.size/\fJ id j (X.ow q)=false then X.ow q else ZI id j d (Y.ow q),X.β⟩
section
variable {Y:ax} {id j g d:Nat}
theorem Nc(hg:X.ow g= .row (.b id [j]) 0){ad:Addr}{v:Value}:(X.eN id j g).ay ad v↔X.ay ad v:=by
 simp only[ax.ay,ax.eN]
 split
 ·rename_i e
  rw[e,hg]
  simp [Ow.used]
 ·rw[zp1]
theorem yy(h:Ext (X.eN id j g) Y){q:Nat}(hq:q<X.w.heap.size)(hm:fJ id j (X.ow q)=false)(bK:q≠g):(X.bf Y id j g d).ow q=X.ow q/\(X.bf Y id j g d).w.heap[q]? =X.w.heap[q]? /\(Y.ow q).still/\Y.ow q=yM id j (X.ow q):=by
 have e:(X.eN id j g).ow q=yM id j (X.ow q):=by simp only[ax.eN];rw[if_neg bK]
 obtain⟨h1,h2⟩:=h.still q hq (by rw[e];exact zio hm)
 refine⟨by simp only[ax.bf];rw[if_neg bK,if_pos ⟨hq,hm⟩],h2,?_,h1.trans e⟩
 rw[h1,e];exact zio hm
theorem aeK(h:Ext (X.eN id j g) Y){q:Nat}(bK:q≠g)(hs:¬(Y.ow q).still):(X.bf Y id j g d).ow q=ZI id j d (Y.ow q):=by
 simp only[ax.bf]
 rw[if_neg bK,if_neg]
 rintro⟨hq,hm⟩
 exact hs (yy (d:=d) h hq hm bK).2.2.1
theorem zb7(h:Ext (X.eN id j g) Y)(hY:Y.ow g= .box 0){ad:Addr}{v:Value}(hs:Y.ay ad v):(X.bf Y id j g d).ay ad v:=by
 have bK:ad.block≠g:=fun e=>by
  have:=hs.2.2
  rw[e,hY] at this
  exact this
 refine⟨hs.1,hs.2.1,?_⟩
 simp only[ax.bf]
 rw[if_neg bK]
 split
 ·rename_i hc
  have:=(yy (d:=d) h hc.1 hc.2 bK).2.2.2
  have hu:=hs.2.2
  rw[this,zp1] at hu
  exact hu
 ·exact ac9 hs.2.2
theorem TU(h:Ext (X.eN id j g) Y)(hg:X.ow g= .row (.b id [j]) 0)(hY:Y.ow g= .box 0):Ext X (X.bf Y id j g d) where
 ay:=fun ad v hs=>zb7 h hY (h.ay ad v ((Nc hg).2 hs))
 size:=h.size
 os:=h.os
 tape:=h.tape
 output:=h.output
 β0:=rfl
 still:=fun q hq bQ=>by
  have hm:fJ id j (X.ow q)=false:=by cases hx:X.ow q<;>rw[hx] at bQ<;>first|rfl|exact bQ.elim
  obtain⟨h1,h2,_⟩:=yy (d:=d) h hq hm (fun e=>by rw[e,hg] at bQ;exact bQ)
  exact⟨h1,h2⟩
theorem bu.bf(h:Ext (X.eN id j g) Y)(hg:X.ow g= .row (.b id [j]) 0){pl:Place}(gk:∀n,fJ id j (.row pl n)=false){e:TypeId}{m n:Nat}{v:Value}(ho:bu X pl e m n v):bu (X.bf Y id j g d) pl e m n v:=by
 rcases ho with ho|⟨q,cap,cur,h1,h2,h3,h4,h5,h6⟩
 ·exact .inl ho
 ·obtain⟨k1,k2,_⟩:=yy (d:=d) h (wq h2) (by rw[h6];exact gk _) (fun e=>by
   rw[e,hg] at h6
   injection h6 with h6 _
   have:=gk 0
   rw[<-h6] at this
   simp [fJ] at this)
  exact .inr ⟨q,cap,cur,h1,k2.trans h2,h3,h4,h5,k1.trans h6⟩
theorem bn.bf(h:Ext (X.eN id j g) Y)(hg:X.ow g= .row (.b id [j]) 0){pl:List Nat->Place}(gk:∀p n,fJ id j (.row (pl p) n)=false){t:Ty}{x:El t}{cs:List Value}{own:List (List Nat)}(ho:bn X pl t x cs own):bn (X.bf Y id j g d) pl t x cs own:=fun p hp=>by
 obtain⟨e,t',xs,v,g0,g1,g2,g3⟩:=ho p hp
 exact⟨e,t',xs,v,g0,g1,g2,g3.bf h hg (gk p)⟩
theorem bn.sn(h:Ext (X.eN id j g) Y)(hY:Y.ow g= .box 0){pl gM:List Nat->Place}(gk:∀p n,ZI id j d (.row (pl p) n)= .row (gM p) n){t:Ty}{x:El t}{cs:List Value}{own:List (List Nat)}(ho:bn Y pl t x cs own):bn (X.bf Y id j g d) gM t x cs own:=fun p hp=>by
 obtain⟨e,t',xs,v,g0,g1,g2,g3⟩:=ho p hp
 refine⟨e,t',xs,v,g0,g1,g2,?_⟩
 rcases g3 with ho|⟨q,cap,cur,h1,h2,h3,h4,h5,h6⟩
 ·exact .inl ho
 ·refine .inr ⟨q,cap,cur,h1,h2,h3,h4,h5,?_⟩
  rw[aeK h (fun e=>by rw[e,hY] at h6;cases h6) (by rw[h6];exact fun e=>e),h6,gk]
theorem aA.bf(h:Ext (X.eN id j g) Y)(hg:X.ow g= .row (.b id [j]) 0)(hY:Y.ow g= .box 0){i k:Nat}{sv:SV}{v:Value}(hr:aA X (.c i k) sv v):aA (X.bf Y id j g d) (.c i k) sv v:=by
 have hs:∀a v,X.ay a v->(X.bf Y id j g d).ay a v:=(TU h hg hY).ay
 cases sv with
 |undef=>trivial
 |skip=>exact hr
 |cJ=>exact hr
 |eh=>exact hr
 |over=>exact hr
 |aj t x own=>
  obtain⟨cs,h1,h2,h3⟩:=hr
  exact⟨cs,h1.ai hs,h2,h3.bf h hg (fun _ _=>rfl)⟩
 |ptr bc t p=>
  obtain⟨r,h1,h2⟩:=hr
  exact⟨r,h1,h2⟩
 |view t x=>
  obtain⟨ad,cs,h1,h2,h3,h4⟩:=hr
  exact⟨ad,cs,h1,h2,h3.ai hs,fun i u hi=>hs _ _ (h4 i u hi)⟩
 |cap f t x u y=>exact sG hs hr
 |bA bc a b n=>
  obtain⟨r,h1,h2,h3⟩:=hr
  obtain⟨e1,e2,_⟩:=yy (d:=d) (q:=r) h (World.block_lt_of_cell? X.w _ h3) (by rw[h2];rfl) (fun e=>by rw[e,hg] at h2;cases h2)
  refine⟨r,h1,e1.trans h2,?_⟩
  simp only[World.cell?] at h3⊢
  rw[e2];exact h3
theorem bE.bf(h:Ext (X.eN id j g) Y)(hg:X.ow g= .row (.b id [j]) 0)(hY:Y.ow g= .box 0){bc r:Nat}{B:bD}(bK:bc≠id)(hb:bE X bc r B):bE (X.bf Y id j g d) bc r B:=by
 obtain⟨h3,h1⟩:=hb
 have hm:∀p n,fJ id j (.row (.b bc p) n)=false:=fun p n=>by
  cases p with
  |nil=>rfl
  |cons j' p=>simp [fJ,bK]
 obtain⟨k1,k2,_⟩:=yy (d:=d) h h1.lt (by rw[h3];rfl) (fun e=>by rw[e,hg] at h3;cases h3)
 exact⟨k1.trans h3,h1.move (TU h hg hY).ay k2 (fun cs h4=>h4.bf h hg hm) fun p _ q o n ho hw=>by
  obtain⟨e1,e2,_⟩:=yy (d:=d) h (wq ho) (by rw[hw];exact hm _ _) (fun e=>by
   rw[e,hg] at hw
   injection hw with hw _
   have:=hm p n
   rw[<-hw] at this
   simp [fJ] at this)
  exact⟨e2.trans ho,e1.trans hw⟩⟩
theorem aA.sn(h:Ext (X.eN id j g) Y)(hY:Y.ow g= .box 0){r0 k:Nat}{sv:SV}{v:Value}(hp:∀id t p,sv≠ .ptr id t p)(hn:sv.bM=false)(hr:aA {Y with β:=fun _=>some r0} (.r k) sv v):aA (X.bf Y id j g d) (.c d k) sv v:=by
 have hs:∀a v,({Y with β:=fun _=>some r0}:ax).ay a v->(X.bf Y id j g d).ay a v:=fun a v hs=>zb7 h hY (show Y.ay a v from hs)
 cases sv with
 |undef=>trivial
 |skip=>exact hr
 |cJ=>exact hr
 |eh=>exact hr
 |over=>exact hr
 |aj t x own=>
  obtain⟨cs,h1,h2,h3⟩:=hr
  have h3:bn Y (.r k) t x cs own:=h3
  exact⟨cs,bh.ai hs h1,h2,h3.sn h hY (fun _ _=>rfl)⟩
 |ptr bc t p=>exact absurd rfl (hp bc t p)
 |view t x=>
  obtain⟨ad,cs,h1,h2,h3,h4⟩:=hr
  exact⟨ad,cs,h1,h2,bh.ai hs h3,fun i u hi=>hs _ _ (h4 i u hi)⟩
 |cap f t x u y=>exact sG (X:={Y with β:=fun _=>some r0}) hs hr
 |bA bc a b n=>cases hn
theorem cS.sn(h:Ext (X.eN id j g) Y)(hY:Y.ow g= .box 0){r0:Nat}{r:List SV}{v:Value}(hp:∀id t p,SV.ptr id t p∉r)(hn:r.any SV.bM=false)(hr:cS {Y with β:=fun _=>some r0} .r r v):cS (X.bf Y id j g d) (.c d) r v:=
 hr.jx fun k sv u hk hu=>hu.sn h hY (fun id t p e=>hp id t p (e▸List.mem_of_getElem? hk)) (by simpa using List.any_eq_false.1 hn sv (List.mem_of_getElem? hk))
theorem dL.bf(h:Ext (X.eN id j g) Y)(hg:X.ow g= .row (.b id [j]) 0)(hY:Y.ow g= .box 0){k:Nat}(hk:k≠j){b:Ty}{m:Option (El b)}{v:Value}(hm:dL X (fun p=> .b id (k::p)) b m v):dL (X.bf Y id j g d) (fun p=> .b id (k::p)) b m v:=
 hm.move (TU h hg hY).ay fun p _ q o n ho hw=>by
  have hf:fJ id j (.row (.b id (k::p)) n)=false:=by
   simp only[fJ]
   rw[show Nat.beq k j=false from by
    cases h:Nat.beq k j with
    |false=>rfl
    |true=>exact absurd (Nat.eq_of_beq_eq_true h) hk,Bool.and_false]
  obtain⟨e1,e2,_⟩:=yy (d:=d) h (wq ho) (by rw[hw];exact hf) (fun e=>by
   rw[e,hg] at hw
   injection hw with hw _
   injection hw with _ hw
   injection hw with hw _
   exact hk hw.symm)
  exact⟨e2.trans ho,e1.trans hw⟩
end
theorem Ra:∀(vs l:List SV),jT s vs=some (l,none)->∀sv∈l,(∃t x,sv= .aj t x [])\/sv= .cJ\/∃t x,sv= .view t x
 | [],l,h,sv,hm=>by
   simp only[jT,Option.some.injEq,Prod.mk.injEq] at h
   rw[<-h.1] at hm
   cases hm
 |v::r,l,h,sv,hm=>by
  simp only[jT] at h
  split at h
  ·cases h
  rename_i l1 b1 h1
  split at h
  ·cases h
   rcases List.mem_cons.1 hm with rfl|hm
   ·exact .inl ⟨_,_,rfl⟩
   ·exact Ra r l1 h1 sv hm
  ·cases h
   rcases List.mem_cons.1 hm with rfl|hm
   ·exact .inr (.inl rfl)
   ·exact Ra r l1 h1 sv hm
  ·cases h
   rcases List.mem_cons.1 hm with rfl|hm
   ·exact .inr (.inr ⟨_,_,rfl⟩)
   ·exact Ra r l1 h1 sv hm
  ·split at h
   case h_2=>cases h
   split at h
   case isFalse=>cases h
   cases h
  ·cases h
theorem zp2{dT:List Operand}{t id j:Nat}{ta tb:Ty}{r:List Operand}(h:He s dT=some (t,id,ta,tb,j,r)):dT= .tmp t::r/\s.slot t=[.bA id ta tb j]:=by
 unfold He at h
 split at h
 case h_2=>cases h
 split at h
 case h_2=>cases h
 rename_i hs
 cases h
 exact⟨rfl,hs⟩
theorem akZ{X:ax}{id j:Nat}{b:Ty}{m:Option (El b)×Option (El b)}{p0 p1:Value}{y:El b}(hj:j<2)(h0:dL X (fun p=> .b id (0::p)) b m.1 p0)(h1:dL X (fun p=> .b id (1::p)) b m.2 p1)(hy:getM j m=some y):dL X (fun p=> .b id (j::p)) b (some y) (if j=0 then p0 else p1):=by
 match j,hj with
 |0,_=>
  have hy:m.1=some y:=hy
  rw[hy] at h0
  exact h0
 |1,_=>
  have hy:m.2=some y:=hy
  rw[hy] at h1
  exact h1
theorem ad2(hr:Rel X s a){C:ag}(hC:C.Nat){f:FuncId}(hf:de P C f){dT:Array Operand}{ts:Array TypeId}(ho:o.op= .call ⟨.value (.func f),dT,ts⟩){t id j:Nat}{ta tb:Ty}{r:List Operand}(hl:He s dT.toList=some (t,id,ta,tb,j,r))(h:kv (C Out) s f t id ta tb j (r.map s.aG) some=some u):ln P X s a o u:=by
 obtain⟨has,bQ⟩:=zp2 hl
 have jc:=hr.slot t
 rw[bQ] at jc
 obtain⟨rr,hβ,how,dU⟩:aA X (.c t 0) (.bA id ta tb j) (a.tmps.getD t Go.undef):=jc
 have hti:t<s.sl.length:=by
  rcases Nat.lt_or_ge t s.sl.length with h|h
  ·exact h
  ·simp [State.slot,List.getElem?_eq_none h] at bQ
 have hsi:s.sl[t]? =some [.bA id ta tb j]:=by rw[rj hti,bQ]
 obtain⟨_,⟨x1,L0,n8,ap2⟩,LK⟩:=hr.bA t _ id ta tb j hsi (by simp)
 unfold kv at h
 split at h
 case isTrue=>cases h
 rename_i eI
 have eI:tb.bH=false:=by simpa using eI
 split at h
 case h_2=>cases h
 rename_i l bW
 obtain⟨x,own,r1,hb,h,bT,h1,_,c,p0,p1,T,aE,aM,sV,sW⟩:=GR hr h
 rw[hβ] at h1
 cases h1
 split at h
 case h_2=>cases h
 rename_i y hy
 have hv:(c++ [p0,p1,Value.int .i64 x.2.2])[ta.cells+j]? =some (a.tmps.getD t Go.undef):=by
  simp only[World.cell?,aE] at dU
  simpa using dU
 rw[List.getElem?_append_right (by rw[aM.len];omega),aM.len,Nat.add_sub_cancel_left] at hv
 have hj:j<2:=by
  match j,hy with
  |0,_=>omega
  |1,_=>omega
  |j+2,hy=>cases hy
 obtain⟨g,csg,Tg,A9,hhg,mZ,hrg,hwg⟩:=akZ hj sV sW hy
 have hvt:a.tmps.getD t Go.undef= .pointer (some ⟨g,0,none⟩):=by
  match j,hj with
  |0,_=>
   have hv:p0=a.tmps.getD t Go.undef:=by simpa using hv
   rw[<-hv];exact A9
  |1,_=>
   have hv:p1=a.tmps.getD t Go.undef:=by simpa using hv
   rw[<-hv];exact A9
 obtain⟨⟨res,b'⟩,nE,h⟩:=kf (hC Out _ f (.ptr 0 tb []::l) (some ⟨tb,y,B5⟩) _ (fun r b=>some (r,b)) (fun z=>match z.2 with
  |some B'=>if h:B'.t.cq tb=true then bif hM B'.own [2] then some {v:=z.1,bx:=some (id,⟨.aF .bC ta tb,(x.1,gj j (some (Ty.cast h B'.x)) x.2.1,x.2.2),[]::own⟩),cl:=[(t,0)]} else none else none
  |none=>none) (fun r b=>rfl)) h
 obtain⟨eV,nH⟩:=hf _ _ res b' nE
 have iN:kh (X.eN id j g) (.ptr 0 tb []::l) (some ⟨tb,y,B5⟩) (dT.map a.eval):=by
  have eK:∀ad v,X.ay ad v->(X.eN id j g).ay ad v:=fun _ _=>(Nc mZ).2
  have K4:dT.toList.map a.eval=a.eval (.tmp t)::r.map a.eval:=by rw[has];rfl
  have cC:∀i,(dT.map a.eval)[i]? =(a.eval (.tmp t)::r.map a.eval)[i]? :=fun i=>by
   rw[<-K4,<-Array.toList_map,Array.getElem?_toList]
  obtain⟨i1,_,_,i4⟩:=zqq hr (r.map fun x=>(s.aG x,a.eval x)) l none (fun z hz=>by
   obtain⟨q,_,rfl⟩:=List.mem_map.1 hz
   exact⟨_,hr.aG q⟩) (by rw[List.map_map];exact bW)
  refine⟨?_,fun i sv v hs hv=> ?_,fun bc t' p hm=> ?_,fun B hB=> ?_,(fun hb=>by cases hb),(by have:=zqp _ _ _ bW;simpa [SV.bM] using this)⟩
  ·have:=congrArg List.length K4
   simp at this i1⊢
   omega
  ·rw[cC] at hv
   cases i with
   |zero=>
    simp only[List.getElem?_cons_zero,Option.some.injEq] at hs hv
    subst hs hv
    refine⟨g,rfl,(rf eI).2 ⟨?_,by simp [Ty.fa]⟩⟩
    show a.tmps.getD t Go.undef=_
    rw[hvt]
    simp [Ty.off]
   |succ i=>
    simp only[List.getElem?_cons_succ] at hs hv
    have hx:=i4 none (fun _ _ e=>by cases e) i sv
    rw[List.getElem?_map] at hv
    obtain⟨q,hq,rfl⟩:=Option.map_eq_some_iff.1 hv
    have uY:=hx (s.aG q,a.eval q) hs (by rw[List.getElem?_map,hq];rfl) (.c (i+1) 0)
    have sX:∀ad v,(X.cX none).ay ad v->(X.eN id j g).ay ad v:=fun ad v h=>eK ad v (vG.1 h)
    rcases Ra _ _ bW sv (List.mem_of_getElem? hs) with⟨t1,y1,rfl⟩|rfl|⟨t1,y1,rfl⟩
    ·obtain⟨cs,e1,e2,_⟩:=uY
     exact⟨cs,e1.ai sX,e2,m7⟩
    ·exact uY
    ·obtain⟨ad,cs,e1,e2,e3,e4⟩:=uY
     exact⟨ad,cs,e1,e2,e3.ai sX,fun i w hi=>sX _ _ (e4 i w hi)⟩
  ·rcases List.mem_cons.1 hm with e|hm
   ·cases e;exact⟨rfl,rfl⟩
   ·rcases Ra _ _ bW _ hm with⟨_,_,e⟩|e|⟨_,_,e⟩<;>cases e
  ·cases hB
   refine⟨g,rfl,by simp [ax.eN],dK.of eI hhg (hrg.ai eK) fun p hp=> ?_⟩
   obtain⟨e,t',xs,v,g0,g1,g2,g3⟩:=hwg p hp
   refine⟨e,t',xs,v,g0,g1,g2,?_⟩
   rcases g3 with g3|⟨q,cap,cur,k1,k2,k3,k4,k5,k6⟩
   ·exact .inl g3
   ·refine .inr ⟨q,cap,cur,k1,k2,k3,k4,k5,?_⟩
    have bK:q≠g:=fun e=>by
     rw[e,mZ] at k6
     injection k6 with k6 _
     injection k6 with _ k6
     injection k6 with _ k6
     have:p=[2]:=by simpa [B5] using hp
     rw[this] at k6
     cases k6
    simp only[ax.eN]
    rw[if_neg bK,k6]
    simp [yM]
 intro next Q hn
 unfold Oper.wp
 rw[MP eV ho,Oper.upon_enter]
 refine(nH (X.eN id j g) _ iN).mono fun e w' he=> ?_
 cases e with
 |panicked c=>exact he.elim
 |outgrown=>exact he.elim
 |returned v=>
  obtain⟨Y,rfl,aY,r0,LC,bJ,pf,eA⟩:=he
  cases b' with
  |none=>cases h
  |some B'=>
   simp only at h
   split at h
   case isFalse=>cases h
   rename_i dy
   cases Lr:hM B'.own [2] with
   |false=>rw[Lr] at h;cases h
   |true=>
   rw[Lr,cond_true] at h
   cases h
   have hp:=pf (.inr rfl)
   obtain⟨hB,hβ0⟩:=bJ B' rfl
   have hβ0:=hβ0 rfl
   have:g=r0:=by
    have e:(X.eN id j g).β 0=some g:=rfl
    rw[e] at hβ0
    injection hβ0
   subst this
   have hY:Y.ow g= .box 0:=hB.1
   have hX:=TU (d:=o.dst.getD 0) aY mZ hY
   refine hn (X.bf Y id j g (o.dst.getD 0)) v hX ?_
   obtain⟨er1,er2,_⟩:=yy (d:=o.dst.getD 0) (q:=rr) aY (wq aE) (by rw[how];rfl) (fun e=>by rw[e,mZ] at how;cases how)
   have cz:dL (X.bf Y id j g (o.dst.getD 0)) (fun p=> .b id (j::p)) tb (some (Ty.cast dy B'.x)) (.pointer (some ⟨g,0,none⟩)):=by
    obtain⟨bt,bx,bo⟩:=B'
    have e:=Ty.aI dy
    simp only at e
    subst e
    obtain⟨eZ,T',k1,k2,k3⟩:=(dK.plain eI).1 hB.2
    refine⟨g,eZ,T',rfl,k1,by simp [ax.bf],k2.ai fun _ _=>zb7 aY hY,?_⟩
    have h2:bn (X.bf Y id j g (o.dst.getD 0)) (fun p=> .b id (j::p)) bt bx eZ.toList bo:=bn.sn aY hY (pl:= .b 0) (fun _ _=>rfl) k3
    intro p hp
    have:p=[2]:=by simpa [B5] using hp
    subst this
    exact h2 [2] (BH Lr)
   have CO:iQ (X.bf Y id j g (o.dst.getD 0)) rr (.b id) ta tb (x.1,gj j (some (Ty.cast dy B'.x)) x.2.1,x.2.2):=by
    refine⟨c,p0,p1,T,er2.trans aE,aM.ai hX.ay,?_,?_⟩
    ·match j,hj,A9 with
     |0,_,A9=>
      have:p0= .pointer (some ⟨g,0,none⟩):=A9
      rw[this];exact cz
     |1,_,_=>exact sV.bf aY mZ hY (by omega)
    ·match j,hj,A9 with
     |0,_,_=>exact sW.bf aY mZ hY (by omega)
     |1,_,A9=>
      have:p1= .pointer (some ⟨g,0,none⟩):=A9
      rw[this];exact cz
   have ea:=hr.cg t 0
   have jb:∀(i:Nat) (l:List SV) a b j,(s.cg t 0).sl[i]? =some l->SV.bA id a b j∈l->False:=fun i l a' b' j' kC hm=>by
    simp only[State.cg,List.getElem?_set] at kC
    split at kC
    ·first
      |(split at kC
        ·cases kC
         rw[bQ] at hm
         simp [Ref.bP,SV.shut] at hm
        ·cases kC)
      |(cases kC
        rw[bQ] at hm
        simp [Ref.bP,SV.shut] at hm)
    ·rename_i e
     exact e (LK i l a' b' j' kC hm).symm
   have al:id<(s.cg t 0).bs.length:=(List.getElem?_eq_some_iff.1 hb).1
   have bz:Rel (X.bf Y id j g (o.dst.getD 0)) ((s.cg t 0).aB (some (id,⟨.aF .bC ta tb,(x.1,gj j (some (Ty.cast dy B'.x)) x.2.1,x.2.2),[]::own⟩))) a:=by
    refine⟨ea.size,by simpa [State.aB] using ea.ia,fun i l v kC jK=>(ea.bR i l v kC jK).jx fun k sv u hm hu=>hu.bf aY mZ hY,fun bc B2 c8=> ?_,fun i l bc t' p hi hm=> ?_,ea.defers,ea.bA.aB jb⟩
    ·simp only[State.aB,List.getElem?_set] at c8
     by_cases e:id=bc
     ·subst e
      rw[if_pos rfl,if_pos al] at c8
      cases c8
      exact⟨rr,hβ,er1.trans how,⟨_,er2.trans aE⟩,fun _=>CO⟩
     ·rw[if_neg e] at c8
      obtain⟨r',k1,k2⟩:=ea.boxes bc B2 c8
      exact⟨r',k1,k2.bf aY mZ hY (fun e2=>e e2.symm)⟩
    ·obtain⟨B2,c8⟩:=ea.live i l bc t' p hi hm
     simp only[State.aB,List.getElem?_set]
     by_cases e:id=bc
     ·subst e;exact⟨_,by rw[if_pos rfl,if_pos al]⟩
     ·rw[if_neg e];exact⟨B2,c8⟩
   exact bz.fin (LC.sn aY hY hp eA) (fun id t p hm=>absurd hm (hp id t p)) eA
theorem ag7(hr:Rel X s a){C:ag}(hC:C.Nat){f:FuncId}(hf:de P C f){ops:List Oper}{dT:Array Operand}{ts:Array TypeId}(ho:o.op= .call ⟨.value (.func f),dT,ts⟩)(h:act E (C Out) ops o s some=some u):ln P X s a o u:=by
 unfold act at h
 simp only[ho] at h
 split at h
 ·rename_i t id ta tb j r hl
  exact ad2 hr hC hf ho hl h
 obtain⟨u0,h0,h1⟩:=kf (TZ hC (F:=fun u=>some (bif gb E o.dst then u.shut else u)) (G:=some) (K:=fun u=>some (bif gb E o.dst then u.shut else u)) (fun _=>rfl)) h
 have hd:ln P X s a o u0:=by
  refine zdq hr hC hf (zdg hr dT) (fun eV=> ?_) (by rw[List.map_map];exact h0)
  rw[MP eV ho]
  congr 2
  apply Array.toList_inj.1
  simp [Function.comp_def]
 cases hs:gb E o.dst with
 |false=>rw[hs] at h1;cases h1;exact hd
 |true=>rw[hs] at h1;cases h1;exact hd.shut
theorem anI{f:FuncId}(h:sP P f){x:Operand}{v:Value}{dT:Array Operand}{ts:Array TypeId}(ho:o.op= .call ⟨.value x,dT,ts⟩)(hx:a.eval x= .func (.func f) #[] #[v])(w:World):(execOp a.eval o).run P w= .ok (.enter f (dT.map a.eval++ #[v])) w:=by
 obtain⟨fn,c,h1,h2,h3⟩:=h
 simp [execOp,ho,resolve,Deferred.ofValue,hx,invoke,callFunc,h1,h3]
 simpa using h2
theorem akB{f:FuncId}(h:sP P f){x:Operand}{v v2:Value}{dT:Array Operand}{ts:Array TypeId}(ho:o.op= .call ⟨.value x,dT,ts⟩)(hx:a.eval x= .func (.func f) #[] #[v,v2])(w:World):(execOp a.eval o).run P w= .ok (.enter f (dT.map a.eval++ #[v,v2])) w:=by
 obtain⟨fn,c,h1,h2,h3⟩:=h
 simp [execOp,ho,resolve,Deferred.ofValue,hx,invoke,callFunc,h1,h3]
 simpa using h2
theorem ad1(hr:Rel X s a){C:ag}(hC:C.Nat)(hf:∀f,de P C f){ops:List Oper}{y:Nat}{dT:Array Operand}{ts:Array TypeId}(ho:o.op= .call ⟨.value (.tmp y),dT,ts⟩)(h:act E (C Out) ops o s some=some u):ln P X s a o u:=by
 unfold act at h
 simp only[ho] at h
 split at h
 case h_3=>cases h
 case h_2=>
  rename_i f t x1 u' y1 dP
  have hx:=hr.aG (.tmp y)
  rw[dP] at hx
  obtain⟨ad,qT,cs,eZ,hv,⟨g2,g3,g4⟩,k2,k3,k4⟩:=hx
  refine zdq hr hC (hf f) (vs:=dT.toList.map (fun x=>(s.aG x,a.eval x))++ [(.view t x1,.pointer (some ad)),(.view u' y1,.pointer (some qT))]) (fun x hx=> ?_) (fun eV=> ?_) (by rw[List.map_append,List.map_map];exact h)
  ·rcases List.mem_append.1 hx with hx|hx
   ·exact zdg hr dT x hx
   ·rcases List.mem_cons.1 hx with rfl|hx
    ·exact⟨.r 0,ad,cs,rfl,g2,g3,g4⟩
    ·rw[List.mem_singleton.1 hx]
     exact⟨.r 0,qT,eZ,rfl,k2,k3,k4⟩
  ·rw[akB eV ho hv]
   congr 2
   apply Array.toList_inj.1
   simp [Function.comp_def]
 rename_i id f t b dP
 have hx:=hr.aG (.tmp y)
 rw[dP] at hx
 obtain⟨r0,hβ,hv⟩:=hx
 have hv:a.eval (.tmp y)= .func (.func f) #[] #[.pointer (some ⟨r0,0,none⟩)]:=hv
 split at h
 case isTrue=>cases h
 rename_i hs
 refine zdq hr hC (hf f) (vs:=dT.toList.map (fun x=>(s.aG x,a.eval x))++ [(.ptr id t [],.pointer (some ⟨r0,0,none⟩))]) (fun x hx=> ?_) (fun eV=> ?_) (by rw[List.map_append,List.map_map];exact h)
 ·rcases List.mem_append.1 hx with hx|hx
  ·exact zdg hr dT x hx
  ·rw[List.mem_singleton.1 hx]
   exact⟨.r 0,r0,hβ,(Rp (by simpa using hs)).2 ⟨by simp [Ty.off],by simp [Ty.fa]⟩⟩
 ·rw[anI eV ho hv]
  congr 2
  apply Array.toList_inj.1
  simp [Function.comp_def]
end Go.Ref

namespace Go.Ref
open Go
variable {P:Program} {E:Env} {X:ax} {s:State} {a:Act} {o:Oper} {u:Out}
theorem akm(hE:ak P E)(hr:Rel X s a){C:ag}(hC:C.Nat)(hf:∀f,de P C f){ops:List Oper}(h:act E (C Out) ops o s some=some u):ln P X s a o u:=by
 cases ho:o.op with
 |move x=>exact(ahc hr ho h).does
 |assign x=>exact(adg hr ho h).does
 |pick c x y=>exact(ahe hr ho h).does
 |binOp op T x y T'=>exact(akK hE hr ho h).does
 |unOp op T x=>exact(anL hr ho h).does
 |convert S T x=>exact(ag8 hE hr ho h).does
 |load T x=>exact(ahb hE hr ho h).does
 |store T x y=>exact(aea hE hr ho h).does
 |nilCheck x=>exact(ack hr ho h).does
 |fieldAddr T x j=>exact(acd hE hr ho h).does
 |indexAddr T x i=>exact(ace hE hr ho h).does
 |index T x i=>exact(ad7 hE hr ho h).does
 |field T x j=>exact(ad6 hE hr ho h).does
 |slice T x lo hi mx=>
  cases mx with
  |none=>exact(akM hE hr ho h).does
  |some m=>unfold act at h;simp only[ho] at h;cases h
 |alloc T=>exact(adZ hE hr ho h).does
 |box T x=>exact(akL hE hr ho h).does
 |build T parts=>exact(ad0 hE hr ho h).does
 |buildSlice T n parts=>exact(zvo hE hr ho h).does
 |extract x j=>exact(acF hr ho h).does
 |makeMap T r=>exact(acK hE hr ho h).does
 |lookup T x i ok=>exact(adi hE hr ho h).does
 |mapUpdate T m k x=>exact(zcp hE hr (.inl ho) h).does
 |insert T m k x=>exact(zcp hE hr (.inr ho) h).does
 |range T x=>exact(ad9 hE hr ho h).does
 |next x str=>exact(ahd hr ho h).does
 |makeSlice T l c=>exact(acf hE hr ho h).does
 |makeFunc fn fi ca=>exact(acj hr ho h).does
 |call c=>
  obtain⟨callee,args,ts⟩:=c
  cases callee with
  |value x=>
   cases x with
   |func f=>exact ag7 hr hC (hf f) ho h
   |tmp y=>exact ad1 hr hC hf ho h
   |_=>unfold act at h;simp only[ho] at h;cases h
  |builtin b=>
   cases b with
   |len=>exact(akN (x:= .const Go.undef) (T:=0) hE hr ho h).does
   |append=>exact(adf hE hr ho h).does
   |copy=>exact(ag9 hE hr ho h).does
   |max=>exact(MG (g:=true) hr ho h).does
   |min=>exact(MG (g:=false) hr ho h).does
   |_=>unfold act at h;simp only[ho] at h;cases h
  |_=>unfold act at h;simp only[ho] at h;cases h
 |_=>unfold act at h;simp only[ho] at h;cases h
theorem Rel.know(hr:Rel X s a){d:Nat}{p:Bool}{o:List (List Nat)}(h:s.slot d=[.aj .bool p o]):Rel X (s.av (some d) (bl p)) a/\a.tmps[d]? =some (.bool p):=by
 have hd:d<s.sl.length:=by
  rcases Nat.lt_or_ge d s.sl.length with h1|h1
  ·exact h1
  ·simp [State.slot,List.getElem?_eq_none h1] at h
 have oc:d<a.tmps.size:=by rw[<-hr.size];exact hd
 have hv:a.tmps[d]? =some (a.tmps.getD d Go.undef):=by simp [Array.getElem?_eq_getElem oc]
 have hs:=hr.slot d
 rw[h] at hs
 have hb:=QI (X:=X) hs
 rw[hb] at hv
 refine⟨?_,hv⟩
 have aax:a.put (some d) (.bool p)=a:=by
  cases a with
  |mk tmps defers=>
   simp only[Act.put,Act.mk.injEq,and_true]
   apply Array.ext_getElem?
   intro i
   rw[Array.getElem?_setIfInBounds]
   split
   ·rename_i e
    subst e
    first
     |exact hv.symm
     |(rw[if_pos oc];exact hv.symm)
   ·rfl
 have:=hr.put (d:=some d) (l:=bl p) (v:= .bool p) (fun _ _=>n4) (fun id t q hm=>by simp [bl] at hm)
 rw[aax] at this
 exact this
theorem XC(hE:ak P E)(hr:Rel X s a){C:ag}(hC:C.Nat)(hf:∀f,de P C f){ops:Array Oper}{i:Nat}(hi:ops[i]? =some o){s':State}(h:step E (C State) ops.toList o s some=some s'){Q:Exit->Act->World->Prop}{K:Act->World->Prop}
 (hK:∀Y a',Ext X Y->Rel Y s' a'->K a' Y.w):wpOp P ops Q i K a X.w:=by
 unfold wpOp
 simp only[hi]
 have sj:∀{s1:State},Rel X s1 a->(act E (C State) ops.toList o s1 fun u=>some (s1.apply o.dst u))=some s'->o.wp P a X.w K Q:=by
  intro s1 ea h1
  obtain⟨u,hu,h2⟩:=kf (yD hC (F:=fun u=>some (s1.apply o.dst u)) (G:=some) (K:=fun u=>some (s1.apply o.dst u)) (fun _=>rfl)) h1
  cases h2
  exact akm hE ea hC hf hu K Q (fun Y v aY bz=>hK Y _ aY bz)
 have kE:∀{s1:State},Rel X s1 a->some (s1.av o.dst [.skip])=some s'->K (a.put o.dst Go.undef) X.w:=by
  intro s1 ea h1
  cases h1
  exact hK X _ (Ext.refl X) (ea.skip o.dst)
 unfold step at h
 simp only at h
 split at h
 ·rename_i hg
  have hw:Region.wanted o (yielded ops a.tmps)=true:=by simp [Region.wanted,hg]
  rw[if_pos hw]
  exact .inl (sj hr h)
 ·rename_i g want hg
  split at h
  ·cases h
  rename_i d hd
  have AR:(ops[g]?).bind (·.dst)=some d:=by simpa [Sc] using hd
  split at h
  ·rename_i p hs
   obtain⟨ea,hv⟩:=hr.know hs
   have hy:yielded ops a.tmps g=some p:=by simp [yielded,AR,hv]
   have hw:Region.wanted o (yielded ops a.tmps)=(p==want):=by simp [Region.wanted,hg,hy]
   cases p<;>cases want<;>simp only[cond_true,cond_false] at h<;>rw[hw]
   ·exact .inl (sj ea h)
   ·exact kE ea h
   ·exact kE ea h
   ·exact .inl (sj ea h)
  ·rename_i hs
   have jc:=hr.slot d
   rw[hs] at jc
   have sk:a.tmps.getD d Go.undef=Go.undef:=jc
   have hy:yielded ops a.tmps g=none:=by
    simp only[yielded,AR,Option.bind_some]
    cases ht:a.tmps[d]? with
    |none=>rfl
    |some v=>
     have:v=Go.undef:=by
      rw[<-sk]
      simp [Array.getD_eq_getD_getElem?,ht]
     subst this
     rfl
   have hw:Region.wanted o (yielded ops a.tmps)=false:=by simp [Region.wanted,hg,hy]
   rw[hw]
   exact kE hr h
  ·cases h
theorem OO(hE:ak P E){C:ag}(hC:C.Nat)(hf:∀f,de P C f){ops:Array Oper}{s':State}{Q:Exit->Act->World->Prop}:∀(l:List Nat) (X:ax) (s:State) (a:Act),Rel X s a->(∀i∈l,i<ops.size)->
 steps E (C State) ops.toList (l.map fun i=>ops.getD i default) s some=some s'->(∀Y a',Ext X Y->Rel Y s' a'->Q .normal a' Y.w)->wpOps P ops Q l a X.w
 | [],X,s,a,hr,_,h,hQ=>by
   cases h
   exact hQ X a (Ext.refl X) hr
 |i::r,X,s,a,hr,hl,h,hQ=>by
  simp only[List.map_cons,steps] at h
  obtain⟨s1,h1,h2⟩:=kf (zrn hC (F:=fun s=>steps E (C State) ops.toList (r.map fun i=>ops.getD i default) s some) (G:=some) (K:=fun s=>steps E (C State) ops.toList (r.map fun i=>ops.getD i default) s some) (fun _=>rfl)) h
  have hi:ops[i]? =some (ops.getD i default):=by
   have:=hl i (by simp)
   simp [this]
  rw[wpOps_cons]
  refine XC hE hr hC hf hi h1 fun Y a' aY bz=> ?_
  exact OO hE hC hf r Y s1 a' bz (fun j hj=>hl j (List.mem_cons_of_mem _ hj)) h2 fun Z a2 cf dg=>hQ Z a2 (aY.trans cf) dg
end Go.Ref

namespace Go.Ref
open Go
variable {P:Program} {E:Env} {X:ax} {s:State} {a:Act} {o:Oper} {u:Out}
theorem zr0(i j:Nat):(bit i).testBit j=decide (i=j):=by
 simp [bit,Nat.shiftLeft_eq,Nat.testBit_two_pow]
theorem yA:∀(l:List Nat) (j:Nat),(jN l).testBit j=decide (j∈l)
 | [],j=>by simp [jN]
 |i::r,j=>by
  rw[jN,Nat.testBit_or,zr0,yA r j]
  by_cases h:i=j
  ·subst h;simp
  ·have h':¬j=i:=fun e=>h e.symm
   simp [h,h']
theorem Ul{a b:Nat}(h:Nat.beq (a&&&b) 0=true)(j:Nat):a.testBit j=true->b.testBit j=false:=by
 intro ha
 have h0:=Nat.eq_of_beq_eq_true h
 have:=congrArg (fun n=>Nat.testBit n j) h0
 simp only[Nat.testBit_and,Nat.zero_testBit,ha,Bool.true_and] at this
 exact this
theorem Gb:∀(l:List Edge) (j:Nat),(zy l).testBit j=true->∃e∈l,Region.binds .any e=true/\e.on=j
 | [],j,h=>by simp [zy] at h
 |e::r,j,h=>by
  simp only[zy] at h
  cases hb:Region.binds .any e with
  |false=>
   rw[hb] at h
   obtain⟨e',h1,h2⟩:=Gb r j h
   exact⟨e',List.mem_cons_of_mem _ h1,h2⟩
  |true=>
   rw[hb] at h
   simp only[cond_true,Nat.testBit_or,zr0,Bool.or_eq_true,decide_eq_true_eq] at h
   rcases h with h|h
   ·exact⟨e,by simp,hb,h⟩
   ·obtain⟨e',h1,h2⟩:=Gb r j h
    exact⟨e',List.mem_cons_of_mem _ h1,h2⟩
theorem zhi:∀(l:List Edge) (e:Edge),e∈l->Region.binds .any e=true->(zy l).testBit e.on=true
 |e'::r,e,h,hb=>by
  simp only[zy]
  rcases List.mem_cons.1 h with rfl|h
  ·rw[hb];simp [Nat.testBit_or,zr0]
  ·have:=zhi r e h hb
   cases Region.binds .any e'<;>simp [Nat.testBit_or,this]
theorem z131{m i j:Nat}(h:Nat.ble (m+1) (bit i)=true)(hj:m.testBit j=true):j<i:=by
 have h1:m<2^i:=by
  have:=Nat.le_of_ble_eq_true h
  simp only[bit,Nat.shiftLeft_eq,Nat.one_mul] at this
  omega
 rcases Nat.lt_or_ge j i with h2|h2
 ·exact h2
 ·have h3:m<2^j:=Nat.lt_of_lt_of_le h1 (Nat.pow_le_pow_right (by omega) h2)
  rw[Nat.testBit_lt_two_pow h3] at hj
  cases hj
def fe(E:Env)(C:ag)(ops:List Oper)(o:Oper)(s:State):Option Out:=
 match o.guard with
 |none=>act E (C Out) ops o s some
 |some (g,want)=>match Sc ops g with
  |none=>none
  |some d=>match s.slot d with
   | [.aj .bool p []]=>if p=want then act E (C Out) ops o s some else some {v:=[.skip]}
   | [.skip]=>some {v:=[.skip]}
   |_=>none
theorem HX{d:Nat}{l:List SV}(h:s.slot d=l):s.av (some d) l=s:=by
 cases s with
 |mk sl bs=>
  simp only[State.av,State.mk.injEq,and_true]
  simp only[State.slot] at h
  apply List.ext_getElem?
  intro i
  rw[List.getElem?_set]
  split
  ·rename_i e
   subst e
   split
   ·rename_i al
    rw[List.getD_eq_getElem?_getD,List.getElem?_eq_getElem al] at h
    rw[List.getElem?_eq_getElem al]
    simpa using h.symm
   ·rename_i al
    rw[List.getElem?_eq_none (by omega)]
  ·rfl
theorem aid{C:ag}(hC:C.Nat){R:Type}{ops:List Oper}{i:Nat}{tr:List eB}{K:State->List eB->Option R}{z:R}(h:l7 E (C R) ops o i s tr K=some z):
 ∃u,fe E C ops o s=some u/\fits ops (zy o.after.toList) (gS ops o i s u) tr=true/\K (s.apply o.dst u) (gS ops o i s u::tr)=some z:=by
 have sj:(act E (C R) ops o s fun u=>bif fits ops (zy o.after.toList) (gS ops o i s u) tr then K (s.apply o.dst u) (gS ops o i s u::tr) else none)=some z->
  ∃u,act E (C Out) ops o s some=some u/\fits ops (zy o.after.toList) (gS ops o i s u) tr=true/\K (s.apply o.dst u) (gS ops o i s u::tr)=some z:=by
  intro h
  obtain⟨u,h1,h2⟩:=kf (yD hC (F:=fun u=>bif fits ops (zy o.after.toList) (gS ops o i s u) tr then K (s.apply o.dst u) (gS ops o i s u::tr) else none) (G:=some) (K:=fun u=>bif fits ops (zy o.after.toList) (gS ops o i s u) tr then K (s.apply o.dst u) (gS ops o i s u::tr) else none) (fun _=>rfl)) h
  cases hf:fits ops (zy o.after.toList) (gS ops o i s u) tr with
  |false=>rw[hf] at h2;cases h2
  |true=>rw[hf] at h2;exact⟨u,h1,hf,h2⟩
 have kE:(bif fits ops (zy o.after.toList) (gS ops o i s {v:=[.skip]}) tr then K (s.apply o.dst {v:=[.skip]}) (gS ops o i s {v:=[.skip]}::tr) else none)=some z->
  fits ops (zy o.after.toList) (gS ops o i s {v:=[.skip]}) tr=true/\K (s.apply o.dst {v:=[.skip]}) (gS ops o i s {v:=[.skip]}::tr)=some z:=by
  intro h
  cases hf:fits ops (zy o.after.toList) (gS ops o i s {v:=[.skip]}) tr with
  |false=>rw[hf] at h;cases h
  |true=>rw[hf] at h;exact⟨rfl,h⟩
 unfold l7 at h
 unfold fe
 simp only at h
 split at h
 ·rename_i hg
  try simp only[hg]
  exact sj h
 ·rename_i g want hg
  try simp only[hg]
  split at h
  ·cases h
  rename_i d hd
  try simp only[hd]
  split at h
  ·rename_i p hs
   have mI:s.slot d=bl p:=hs
   try simp only[hs]
   cases p<;>cases want<;>simp only[cond_true,cond_false] at h
   ·rw[HX mI] at h;rw[if_pos rfl];exact sj h
   ·rw[HX mI] at h;rw[if_neg (by simp)];exact⟨_,rfl,kE h⟩
   ·rw[HX mI] at h;rw[if_neg (by simp)];exact⟨_,rfl,kE h⟩
   ·rw[HX mI] at h;rw[if_pos rfl];exact sj h
  ·rename_i hs
   try simp only[hs]
   exact⟨_,rfl,kE h⟩
  ·cases h
theorem zpc{C:ag}(hC:C.Nat){ops:List Oper}(h:fe E C ops o s=some u):step E (C State) ops o s some=some (s.apply o.dst u):=by
 have sj:act E (C Out) ops o s some=some u->(act E (C State) ops o s fun u=>some (s.apply o.dst u))=some (s.apply o.dst u):=by
  intro h
  rw[yD hC (F:=fun u=>some (s.apply o.dst u)) (G:=some) (K:=fun u=>some (s.apply o.dst u)) (fun _=>rfl),h]
  rfl
 unfold fe at h
 unfold step
 simp only
 split at h
 ·rename_i hg
  try simp only[hg]
  exact sj h
 ·rename_i g want hg
  try simp only[hg]
  split at h
  ·cases h
  rename_i d hd
  try simp only[hd]
  split at h
  ·rename_i p hs
   have mI:s.slot d=bl p:=hs
   try simp only[hs]
   split at h
   ·rename_i e
    subst e
    cases p<;>simp only[cond_true,cond_false]<;>rw[HX mI]<;>exact sj h
   ·rename_i e
    cases h
    cases p<;>cases want<;>simp only[cond_true,cond_false]<;>first|exact absurd rfl e|(rw[HX mI];rfl)
  ·rename_i hs
   try simp only[hs]
   cases h
   rfl
  ·cases h
structure nf(ts bs:List Nat)(s s':State):Prop where
 sl:∀t∈ts,s.slot t=s'.slot t
 bs:∀id∈bs,s.bs[id]? =s'.bs[id]?
theorem OS{l:List Operand}{t:Nat}:Operand.tmp t∈l->t∈z40 l:=by
 induction l with
 |nil=>intro h;cases h
 |cons x r ih=>
  intro h
  rcases List.mem_cons.1 h with e|h
  ·subst e;simp [z40]
  ·have:=ih h
   cases x<;>simp [z40,this]
theorem zir{s s':State}{ts:List Nat}(h:∀t∈ts,s.slot t=s'.slot t){l:List Operand}(hl:∀t∈z40 l,t∈ts){x:Operand}(hx:x∈l):s.aG x=s'.aG x:=by
 cases x with
 |tmp t=>simp only[State.aG,State.ye,h t (hl t (OS hx))]
 |_=>rfl
theorem aez(j:Nat):bP [SV.undef] j=[SV.undef]:=by
 cases j<;>rfl
theorem zat{s:State}{i j t:Nat}:(s.cg i j).slot t=if t=i then bP (s.slot t) j else s.slot t:=by
 simp only[State.cg,State.slot,List.getD_eq_getElem?_getD,List.getElem?_set]
 by_cases e:t=i
 ·subst e
  rw[if_pos rfl,if_pos rfl]
  by_cases al:t<s.sl.length
  ·rw[if_pos al];rfl
  ·rw[if_neg al,List.getElem?_eq_none (by omega)]
   simp [aez]
 ·rw[if_neg e,if_neg (fun h=>e h.symm)]
theorem zon{t:Nat}:∀{c:List (Nat×Nat)} {s s':State},s.slot t=s'.slot t->(s.close c).slot t=(s'.close c).slot t
 | [],s,s',h=>h
 |(i,j)::r,s,s',h=>by
  rw[Gc,Gc]
  refine zon (c:=r) ?_
  rw[zat,zat,h]
theorem zp7{ts:List Nat}:∀{l:List (Nat×Operand)} {s s':State},(∀t∈ts,s.slot t=s'.slot t)->(∀t∈z40 (l.map (·.2)),t∈ts)->m9 s l=m9 s' l
 | [],s,s',h,hl=>rfl
 |(i,x)::r,s,s',h,hl=>by
  have hx:s.aG x=s'.aG x:=zir h hl (by simp)
  have hr:∀c:List (Nat×Nat),m9 (s.close c) r=m9 (s'.close c) r:=fun c=>zp7 (fun t ht=>zon (h t ht)) (fun t ht=>hl t (by
   cases x<;>simp [z40,ht]))
  simp only[m9,hx,hr]
theorem QP{s s':State}:∀{l:List SV},(∀id∈l.flatMap cp,s.box id=s'.box id)->jT s l=jT s' l
 | [],h=>rfl
 |v::r,h=>by
  have hr:jT s r=jT s' r:=QP fun id gh=>h id (by simp only[List.flatMap_cons,List.mem_append];exact .inr gh)
  simp only[jT,hr]
  split
  ·rfl
  ·rename_i l b _
   cases v with
   |ptr id t p=>
    have hb:s.box id=s'.box id:=h id (by simp [cp])
    cases p with
    |nil=>cases b<;>simp only[hb]
    |cons _ _=>rfl
   |_=>rfl
theorem agy{C:FuncId->bV Out}{ops:List Oper}{s s':State}(h:nf (looks ops o) (zx s o) s s'):act E C ops o s some=act E C ops o s' some:=by
 have jc:∀t∈z40 o.op.operands.toList,s.slot t=s'.slot t:=fun t ht=>h.sl t (by simp only[looks,List.mem_append];exact .inl ht)
 have cH:∀x∈o.op.operands.toList,s.aG x=s'.aG x:=fun x hx=>zir jc (fun _ ht=>ht) hx
 have bJ:∀id∈zx s o,s.box id=s'.box id:=fun id gh=>by
  simp only[State.box,List.getD_eq_getElem?_getD,h.bs id gh]
 unfold act
 cases ho:o.op with
 |move x=>
  have ht:nX s x=nX s' x:=by
   cases x with
   |tmp t=>
    have:s.slot t=s'.slot t:=jc t (by simp [ho,Op.operands,z40])
    simp only[nX,this]
   |_=>rfl
  simp only;rw[cH x (by simp [ho,Op.operands]),ht]
 |assign x=>simp only;rw[cH x (by simp [ho,Op.operands])]
 |pick c x y=>simp only;rw[cH c (by simp [ho,Op.operands]),cH x (by simp [ho,Op.operands]),cH y (by simp [ho,Op.operands])]
 |binOp op T x y T'=>simp only;rw[cH x (by simp [ho,Op.operands]),cH y (by simp [ho,Op.operands])]
 |unOp op T x=>simp only;rw[cH x (by simp [ho,Op.operands])]
 |convert S T x=>
  have hx:=cH x (by simp [ho,Op.operands])
  simp only
  rw[<-hx]
  split
  ·rename_i id n ta tb e
   simp only[kz,bJ id (by simp [zx,ho,e,cp])]
  ·rfl
 |makeMap T r=>
  cases r with
  |some r=>rfl
  |none=>
   simp only
   cases hd:o.dst with
   |none=>rfl
   |some d=>
    have:=h.bs (d+1) (by simp [zx,ho,hd])
    simp only[kO,this]
 |lookup T x i ok=>
  cases ok with
  |true=>rfl
  |false=>
   simp only
   rw[<-cH x (by simp [ho,Op.operands]),<-cH i (by simp [ho,Op.operands])]
   unfold lV wC
   split
   ·split
    ·rename_i e
     simp only[bJ _ (by simp only[zx,ho,e,cp];exact List.mem_singleton.2 rfl)]
    ·rfl
   ·rfl
 |mapUpdate T m k x=>
  simp only
  rw[<-cH m (by simp [ho,Op.operands]),<-cH k (by simp [ho,Op.operands]),<-cH x (by simp [ho,Op.operands])]
  unfold mS wC
  split
  ·split
   ·rename_i e
    simp only[bJ _ (by simp only[zx,ho,e,cp];exact List.mem_singleton.2 rfl)]
   ·rfl
  ·rfl
 |insert T m k x=>
  simp only
  rw[<-cH m (by simp [ho,Op.operands]),<-cH k (by simp [ho,Op.operands]),<-cH x (by simp [ho,Op.operands])]
  unfold mS wC
  split
  ·split
   ·rename_i e
    simp only[bJ _ (by simp only[zx,ho,e,cp];exact List.mem_singleton.2 rfl)]
   ·rfl
  ·rfl
 |range T x=>
  simp only
  rw[<-cH x (by simp [ho,Op.operands])]
  cases hd:o.dst with
  |none=>rfl
  |some d=>
   have:=h.bs (d+1) (by simp [zx,ho,hd])
   simp only[kO,this]
 |next x str=>
  cases str with
  |false=>rfl
  |true=>
   simp only
   rw[<-cH x (by simp [ho,Op.operands])]
   unfold lX
   split
   ·rename_i e
    simp only[bJ _ (by simp only[zx,ho,e,cp];exact List.mem_singleton.2 rfl)]
   ·rfl
 |makeSlice T l c=>
  simp only
  rw[<-cH l (by simp [ho,Op.operands]),<-cH c (by simp [ho,Op.operands])]
  cases hd:o.dst with
  |none=>rfl
  |some d=>
   have:=h.bs (d+1) (by simp [zx,ho,hd])
   simp only[lW,kO,this]
 |load T x=>
  have hx:=cH x (by simp [ho,Op.operands])
  simp only
  rw[<-hx]
  unfold load
  split
  ·split
   ·rfl
   ·rename_i id t p e
    simp only[GU,om,bJ id (by simp [zx,ho,e,cp])]
   ·rfl
  ·unfold kM
   split
   ·rename_i id a b j e
    simp only[om,bJ id (by simp [zx,ho,e,cp])]
   ·rfl
 |store T x y=>
  have hx:=cH x (by simp [ho,Op.operands])
  have hy:=cH y (by simp [ho,Op.operands])
  simp only
  rw[<-hx]
  unfold store
  rw[<-hy]
  split
  ·split
   ·rename_i id t p e
    simp only[Gs,om,bJ id (by simp [zx,ho,e,cp])]
   ·rfl
  ·rfl
 |nilCheck x=>simp only;rw[cH x (by simp [ho,Op.operands])]
 |fieldAddr T x j=>simp only;rw[cH x (by simp [ho,Op.operands])]
 |indexAddr T x i=>simp only;rw[cH x (by simp [ho,Op.operands]),cH i (by simp [ho,Op.operands])]
 |index T x i=>simp only;rw[cH x (by simp [ho,Op.operands]),cH i (by simp [ho,Op.operands])]
 |field T x j=>simp only;rw[cH x (by simp [ho,Op.operands])]
 |slice T x lo hi mx=>
  cases mx with
  |none=>
   simp only
   have CT:lo.map s.aG=lo.map s'.aG:=by
    cases lo with
    |none=>rfl
    |some l=>simp only[Option.map_some,cH l (by simp [ho,Op.operands])]
   have Lf:hi.map s.aG=hi.map s'.aG:=by
    cases hi with
    |none=>rfl
    |some l=>simp only[Option.map_some,cH l (by simp [ho,Op.operands])]
   rw[<-cH x (by simp [ho,Op.operands]),CT,Lf]
   split
   ·rfl
   ·rename_i id n t e
    simp only[rZ,bJ id (by simp [zx,ho,e,cp])]
   ·rfl
  |some m=>rfl
 |makeFunc fn fi ca=>
  cases fn with
  |func f=>
   simp only
   split
   ·rename_i x e1 e2
    have hm:x∈o.op.operands.toList:=by
     simp only[ho,Op.operands,Array.toList_append,List.mem_append,e2]
     exact .inr (by simp)
    rw[cH x hm]
   ·rename_i x y e1 e2
    have hm:∀z∈ [x,y],z∈o.op.operands.toList:=fun z hz=>by
     simp only[ho,Op.operands,Array.toList_append,List.mem_append,e2]
     exact .inr hz
    rw[cH x (hm x (by simp)),cH y (hm y (by simp))]
   ·rfl
  |_=>rfl
 |alloc T=>
  simp only
  cases hd:o.dst with
  |none=>split<;>simp_all
  |some d=>
   have:=h.bs (d+1) (by simp [zx,ho,hd])
   cases E.ty T<;>cases E.gr T<;>simp only[this]
 |box T x=>
  have hx:=cH x (by simp [ho,Op.operands])
  simp only
  cases hd:o.dst with
  |none=>split<;>simp_all
  |some d=>
   have:=h.bs (d+1) (by simp [zx,ho,hd])
   cases E.ty T<;>simp only[this,hx]
 |build T parts=>
  have hp:m9 s parts.toList=m9 s' parts.toList:=zp7 jc (fun t ht=>by simpa [ho,Op.operands] using ht)
  simp only[hp]
 |buildSlice T n parts=>
  have hp:(parts.toList.map fun p=>(p.1,s.aG p.2))=parts.toList.map fun p=>(p.1,s'.aG p.2):=List.map_congr_left fun p hp=>by
   rw[cH p.2 (by
    simp only[ho,Op.operands]
    exact List.mem_map.2 ⟨p,hp,rfl⟩)]
  simp only[hp]
 |extract x j=>
  cases x with
  |tmp t=>
   have:s.slot t=s'.slot t:=jc t (by simp [ho,Op.operands,z40])
   simp only[this]
  |_=>rfl
 |call c=>
  obtain⟨callee,args,ts⟩:=c
  cases callee with
  |value x=>
   cases x with
   |func f=>
    have bW:args.toList.map s.aG=args.toList.map s'.aG:=List.map_congr_left fun x hx=>cH x (by
     simp only[ho,Op.operands,Call.operands,Array.toList_append,List.mem_append]
     exact .inr hx)
    have jH:jT s (args.toList.map s'.aG)=jT s' (args.toList.map s'.aG):=QP fun id gh=>bJ id (by
     simp only[zx,ho,List.mem_append]
     refine .inl ?_
     rw[<-bW,List.flatMap_map] at gh
     exact gh)
    have hlk:He s args.toList=He s' args.toList:=by
     cases K2:args.toList with
     |nil=>rfl
     |cons x r=>
      cases x with
      |tmp t=>
       have:s.slot t=s'.slot t:=jc t (by
        simp only[ho,Op.operands,Call.operands,Array.toList_append,K2]
        exact OS (List.mem_append_right _ (by simp)))
       simp only[He,this]
      |_=>rfl
    simp only
    rw[<-hlk]
    split
    ·rename_i t id a b j r hl
     obtain⟨K2,bQ⟩:=zp2 hl
     have hr:r.map s.aG=r.map s'.aG:=by
      have:=bW
      rw[K2] at this
      simpa using(List.cons.inj this).2
     have hbr:jT s (r.map s'.aG)=jT s' (r.map s'.aG):=QP fun id gh=>bJ id (by
      simp only[zx,ho,List.mem_append]
      refine .inl ?_
      rw[<-hr,List.flatMap_map] at gh
      rw[K2,List.flatMap_cons,List.mem_append]
      exact .inr gh)
     have gh:s.box id=s'.box id:=bJ id (by
      simp only[zx,ho,List.mem_append]
      refine .inl ?_
      rw[K2,List.flatMap_cons,List.mem_append]
      refine .inl ?_
      have:s.aG (.tmp t)= .bA id a b j:=by show one (s.slot t)=_;rw[bQ];rfl
      rw[this];simp [cp])
     simp only[kv,om,hr,hbr,gh]
    simp only[gy,bW,jH]
    cases hd:o.dst with
    |none=>rfl
    |some d=>
     have:=h.bs (d+1) (by simp [zx,ho,hd])
     simp only[this]
   |tmp y=>
    have hy:s.aG (.tmp y)=s'.aG (.tmp y):=cH (.tmp y) (by
     simp only[ho,Op.operands,Call.operands,Array.toList_append,List.mem_append]
     exact .inl (by simp))
    have bW:args.toList.map s.aG=args.toList.map s'.aG:=List.map_congr_left fun x hx=>cH x (by
     simp only[ho,Op.operands,Call.operands,Array.toList_append,List.mem_append]
     exact .inr hx)
    simp only
    rw[<-hy]
    split
    ·rename_i id f t b e
     have jH:jT s (args.toList.map s'.aG++ [.ptr id t []])=jT s' (args.toList.map s'.aG++ [.ptr id t []]):=QP fun bc gh=>bJ bc (by
      simp only[zx,ho,List.mem_append,e]
      rw[List.flatMap_append,List.mem_append] at gh
      rcases gh with gh|gh
      ·refine .inl ?_
       rw[<-bW,List.flatMap_map] at gh
       exact gh
      ·exact .inr (.inl (by simpa [cp] using gh)))
     simp only[gy,bW,jH]
     cases hd:o.dst with
     |none=>rfl
     |some d=>
      have:=h.bs (d+1) (by simp [zx,ho,hd])
      simp only[this]
    ·rename_i f t x u y e
     have jH:jT s (args.toList.map s'.aG++ [.view t x,.view u y])=jT s' (args.toList.map s'.aG++ [.view t x,.view u y]):=QP fun bc gh=>bJ bc (by
      simp only[zx,ho,List.mem_append]
      rw[List.flatMap_append,List.mem_append] at gh
      rcases gh with gh|gh
      ·refine .inl ?_
       rw[<-bW,List.flatMap_map] at gh
       exact gh
      ·simp [cp] at gh)
     simp only[gy,bW,jH]
     cases hd:o.dst with
     |none=>rfl
     |some d=>
      have:=h.bs (d+1) (by simp [zx,ho,hd])
      simp only[this]
    ·rfl
   |_=>rfl
  |builtin b=>
   have bW:∀x∈args.toList,s.aG x=s'.aG x:=fun x hx=>cH x (by
    simp only[ho,Op.operands,Call.operands,Array.toList_append,List.mem_append]
    exact .inr hx)
   cases b with
   |copy=>
    simp only
    split
    ·rename_i d x T r e1 e2
     rw[bW x (by rw[e1];simp),<-bW d (by rw[e1];simp)]
     unfold copyV
     split
     ·rename_i e0 t0 id n ta tb hT e
      have hb:s.box id=s'.box id:=bJ id (by simp only[zx,ho,e1,List.flatMap_cons,e,cp];exact List.mem_append_left _ (List.mem_singleton.2 rfl))
      simp only[iZ,kA,hb]
     ·rename_i e0 t0 id n ta tb l hT e
      have hb:s.box id=s'.box id:=bJ id (by simp only[zx,ho,e1,List.flatMap_cons,e,cp];exact List.mem_append_left _ (List.mem_singleton.2 rfl))
      simp only[iZ,hb]
     ·rfl
    ·rfl
   |len=>
    simp only
    split
    ·rename_i x T e1 e2
     rw[bW x (by rw[e1];simp)]
    ·rfl
   |append=>
    simp only
    split
    ·rename_i x y T U e1 e2
     rw[bW x (by rw[e1];simp),bW y (by rw[e1];simp)]
    ·rfl
   |max=>
    simp only
    split
    ·rename_i x y e1
     rw[bW x (by rw[e1];simp),bW y (by rw[e1];simp)]
    ·rfl
   |min=>
    simp only
    split
    ·rename_i x y e1
     rw[bW x (by rw[e1];simp),bW y (by rw[e1];simp)]
    ·rfl
   |_=>rfl
  |_=>rfl
 |_=>rfl
end Go.Ref

namespace Go.Ref
open Go
variable {P:Program} {E:Env} {X:ax} {s:State} {a:Act} {o:Oper} {u:Out}
def SR:List (Nat×Nat)->Nat->List SV->List SV
 | [],_,l=>l
 |(i,j)::r,t,l=>SR r t (if t=i then bP l j else l)
theorem TN{t:Nat}:∀{c:List (Nat×Nat)} {s:State},(s.close c).slot t=SR c t (s.slot t)
 | [],s=>rfl
 |(i,j)::r,s=>by rw[Gc,TN (c:=r),zat];rfl
theorem s6{t:Nat}:∀{c:List (Nat×Nat)} {l:List SV},t∉c.map (·.1)->SR c t l=l
 | [],l,h=>rfl
 |(i,j)::r,l,h=>by
  simp only[List.map_cons,List.mem_cons,not_or] at h
  simp only[SR]
  rw[if_neg h.1]
  exact s6 h.2
theorem HR{d:Option Nat}:(s.apply d u).sl.length=s.sl.length:=by
 cases d with
 |none=>simp only[State.apply,State.av];cases u.bx<;>simp [State.aB,Rb]
 |some d=>simp only[State.apply,State.av,List.length_set];cases u.bx<;>simp [State.aB,Rb]
theorem QO{d:Option Nat}{t:Nat}:(s.apply d u).slot t=if d=some t/\t<s.sl.length then u.v else SR u.cl t (s.slot t):=by
 have hb:∀(s:State) b,(s.aB b).slot t=s.slot t:=fun s b=>by cases b<;>rfl
 cases d with
 |none=>
  simp only[State.apply,State.av,hb,TN]
  rw[if_neg (by simp)]
 |some d=>
  simp only[State.apply]
  by_cases e:d=t
  ·subst e
   by_cases al:d<s.sl.length
   ·rw[if_pos ⟨rfl,al⟩]
    have:d<((s.close u.cl).aB u.bx).sl.length:=by
     have:((s.close u.cl).aB u.bx).sl.length=s.sl.length:=by cases u.bx<;>simp [State.aB,Rb]
     omega
    simp only[State.av,State.slot,List.getD_eq_getElem?_getD,List.getElem?_set_self this,Option.getD_some]
   ·rw[if_neg (fun h=>al h.2)]
    have:((s.close u.cl).aB u.bx).sl.length<=d:=by
     have:((s.close u.cl).aB u.bx).sl.length=s.sl.length:=by cases u.bx<;>simp [State.aB,Rb]
     omega
    have h2:(((s.close u.cl).aB u.bx).av (some d) u.v).slot d=((s.close u.cl).aB u.bx).slot d:=by
     simp only[State.av,State.slot]
     rw[List.set_eq_of_length_le this]
    rw[h2,hb,TN]
  ·rw[if_neg (fun h=>e (by injection h.1))]
   have h2:(((s.close u.cl).aB u.bx).av (some d) u.v).slot t=((s.close u.cl).aB u.bx).slot t:=by
    simp only[State.av,State.slot,List.getD_eq_getElem?_getD,List.getElem?_set_ne e]
   rw[h2,hb,TN]
theorem Rh{d:Option Nat}{id:Nat}:(s.apply d u).bs[id]? =match u.bx with
 |some (bc,B)=>if bc=id then(s.bs[id]?).map (fun _=>some B) else s.bs[id]?
 |none=>s.bs[id]? :=by
 have hs:∀(s:State) d l,(s.av d l).bs=s.bs:=fun s d l=>by cases d<;>rfl
 simp only[State.apply,hs]
 cases hb:u.bx with
 |none=>simp only[State.aB,yB]
 |some b=>
  obtain⟨bc,B⟩:=b
  simp only[State.aB,yB]
  rw[List.getElem?_set]
  by_cases e:bc=id
  ·subst e
   rw[if_pos rfl,if_pos rfl]
   by_cases al:bc<s.bs.length
   ·rw[if_pos al,List.getElem?_eq_getElem al];rfl
   ·rw[if_neg al,List.getElem?_eq_none (by omega)];rfl
  ·rw[if_neg e,if_neg e]
theorem aib{s s':State}(h1:s.sl.length=s'.sl.length)(h2:∀t,s.slot t=s'.slot t)(h3:∀id:Nat,s.bs[id]? =s'.bs[id]?):s=s':=by
 cases s with
 |mk sl bs=>
  cases s' with
  |mk sl' bs'=>
   simp only[State.mk.injEq]
   refine⟨List.ext_getElem? fun i=> ?_,List.ext_getElem? h3⟩
   have:=h2 i
   simp only[State.slot,List.getD_eq_getElem?_getD] at this h1
   by_cases al:i<sl.length
   ·rw[List.getElem?_eq_getElem al,List.getElem?_eq_getElem (by omega)] at this⊢
    simpa using this
   ·rw[List.getElem?_eq_none (by omega),List.getElem?_eq_none (by omega)]
structure B7(R1 W1 b1 c1 R2 W2 b2 c2:List Nat):Prop where
 h1:∀t∈W1,t∉R2/\t∉W2
 h2:∀t∈W2,t∉R1
 h3:∀id∈c1,id∉b2/\id∉c2
 h4:∀id∈c2,id∉b1
theorem z183{o1 o2:Oper}{ops:List Oper}{i1 i2:Nat}{s1 s2:State}{u1 u2:Out}(h:(gS ops o1 i1 s1 u1).apart (gS ops o2 i2 s2 u2)=true):
 B7 (looks ops o1) (o1.dst.toList++u1.cl.map (·.1)) (zx s1 o1) (u1.bx.toList.map (·.1)) (looks ops o2) (o2.dst.toList++u2.cl.map (·.1)) (zx s2 o2) (u2.bx.toList.map (·.1)):=by
 simp only[eB.apart,gS,Bool.and_eq_true] at h
 obtain⟨g1,g2,g3,g4⟩:=h
 refine⟨fun t ht=> ?_,fun t ht=> ?_,fun t ht=> ?_,fun t ht=> ?_⟩
 ·have:=Ul g1 t (by rw[yA];exact decide_eq_true ht)
  simp only[Nat.testBit_or,yA,Bool.or_eq_false_iff,decide_eq_false_iff_not] at this
  exact this
 ·have:=Ul g2 t (by rw[yA];exact decide_eq_true ht)
  simpa only[yA,decide_eq_false_iff_not] using this
 ·have:=Ul g3 t (by rw[yA];exact decide_eq_true ht)
  simp only[Nat.testBit_or,yA,Bool.or_eq_false_iff,decide_eq_false_iff_not] at this
  exact this
 ·have:=Ul g4 t (by rw[yA];exact decide_eq_true ht)
  simpa only[yA,decide_eq_false_iff_not] using this
theorem zok{d:Option Nat}{ts bs:List Nat}(h1:∀t∈ts,t∉d.toList++u.cl.map (·.1))(h2:∀id∈bs,id∉u.bx.toList.map (·.1)):nf ts bs (s.apply d u) s where
 sl:=fun t ht=>by
  have h:=h1 t ht
  simp only[List.mem_append,not_or] at h
  rw[QO,if_neg (fun hc=>h.1 (by rw[hc.1];simp)),s6 h.2]
 bs:=fun id gh=>by
  have h:=h2 id gh
  rw[Rh]
  cases hb:u.bx with
  |none=>rfl
  |some b=>
   obtain⟨bc,B⟩:=b
   rw[hb] at h
   simp only
   rw[if_neg (fun e=>h (by simp [e]))]
theorem adS{d1 d2:Option Nat}{u1 u2:Out}(h1:∀t∈d1.toList++u1.cl.map (·.1),t∉d2.toList++u2.cl.map (·.1))(h2:∀id∈u1.bx.toList.map (·.1),id∉u2.bx.toList.map (·.1)):
 (s.apply d1 u1).apply d2 u2=(s.apply d2 u2).apply d1 u1:=by
 refine aib (by rw[HR,HR,HR,HR]) (fun t=> ?_) (fun id=> ?_)
 ·rw[QO,QO,QO,QO,HR,HR]
  by_cases CI:d1=some t
  ·have hm:t∈d1.toList++u1.cl.map (·.1):=by rw[CI];simp
   have hn:=h1 t hm
   simp only[List.mem_append,not_or] at hn
   have oc:¬d2=some t:=fun e=>hn.1 (by rw[e];simp)
   by_cases al:t<s.sl.length
   ·rw[if_neg (fun h=>oc h.1),if_pos ⟨CI,al⟩,s6 hn.2,if_pos ⟨CI,al⟩]
   ·rw[if_neg (fun h=>oc h.1),if_neg (fun h=>al h.2),if_neg (fun h=>al h.2),if_neg (fun h=>al h.2),s6 hn.2,s6 hn.2]
  ·by_cases oc:d2=some t
   ·have hn:t∉d1.toList++u1.cl.map (·.1):=fun hm=>h1 t hm (by rw[oc];simp)
    simp only[List.mem_append,not_or] at hn
    by_cases al:t<s.sl.length
    ·rw[if_pos ⟨oc,al⟩,if_neg (fun h=>CI h.1),if_pos ⟨oc,al⟩,s6 hn.2]
    ·rw[if_neg (fun h=>al h.2),if_neg (fun h=>al h.2),if_neg (fun h=>al h.2),if_neg (fun h=>al h.2),s6 hn.2,s6 hn.2]
   ·rw[if_neg (fun h=>oc h.1),if_neg (fun h=>CI h.1),if_neg (fun h=>CI h.1),if_neg (fun h=>oc h.1)]
    by_cases hm:t∈u1.cl.map (·.1)
    ·have hn:=h1 t (by simp only[List.mem_append];exact .inr hm)
     simp only[List.mem_append,not_or] at hn
     rw[s6 hn.2,s6 hn.2]
    ·rw[s6 hm,s6 hm]
 ·rw[Rh,Rh,Rh,Rh]
  cases n8:u1.bx with
  |none=>rfl
  |some b1=>
   obtain⟨id1,B1⟩:=b1
   cases mF:u2.bx with
   |none=>rfl
   |some b2=>
    obtain⟨sm,B2⟩:=b2
    rw[n8,mF] at h2
    have bK:id1≠sm:=fun e=>h2 id1 (by simp) (by simp [e])
    simp only
    by_cases e1:id1=id
    ·subst e1
     rw[if_neg (fun e=>bK e.symm),if_pos rfl,if_pos rfl,if_neg (fun e=>bK e.symm)]
    ·by_cases e2:sm=id
     ·subst e2
      rw[if_pos rfl,if_neg e1,if_neg e1,if_pos rfl]
     ·rw[if_neg e2,if_neg e1,if_neg e1,if_neg e2]
theorem zp9{ops:List Oper}{s s':State}(h:∀t∈looks ops o,s.slot t=s'.slot t):zx s o=zx s' o:=by
 have cH:∀x∈o.op.operands.toList,s.aG x=s'.aG x:=fun x hx=>zir (ts:=z40 o.op.operands.toList) (fun t ht=>h t (by simp only[looks,List.mem_append];exact .inl ht)) (fun _ ht=>ht) hx
 unfold zx
 cases ho:o.op with
 |load T x=>simp only;rw[cH x (by simp [ho,Op.operands])]
 |store T x y=>simp only;rw[cH x (by simp [ho,Op.operands])]
 |convert S T x=>simp only;rw[cH x (by simp [ho,Op.operands])]
 |slice T x lo hi mx=>simp only;rw[cH x (by simp [ho,Op.operands])]
 |lookup T x i ok=>simp only;rw[cH x (by simp [ho,Op.operands])]
 |mapUpdate T m k x=>simp only;rw[cH m (by simp [ho,Op.operands])]
 |insert T m k x=>simp only;rw[cH m (by simp [ho,Op.operands])]
 |next x str=>simp only;rw[cH x (by simp [ho,Op.operands])]
 |call c=>
  obtain⟨callee,args,ts⟩:=c
  have:(args.toList.map fun x=>cp (s.aG x))=args.toList.map fun x=>cp (s'.aG x):=List.map_congr_left fun x hx=>by
   rw[cH x (by
    simp only[ho,Op.operands,Call.operands,Array.toList_append,List.mem_append]
    exact .inr hx)]
  cases callee with
  |value f=>
   simp only
   have hf:s.aG f=s'.aG f:=cH f (by
    simp only[ho,Op.operands,Call.operands,Array.toList_append,List.mem_append]
    exact .inl (by simp))
   rw[hf,List.flatMap_def,List.flatMap_def,this]
  |builtin b=>
   cases b with
   |copy=>simp only;rw[List.flatMap_def,List.flatMap_def,this]
   |_=>rfl
  |_=>rfl
 |_=>rfl
theorem Nn{C:ag}{ops:List Oper}{s s':State}(h:nf (looks ops o) (zx s o) s s'):fe E C ops o s=fe E C ops o s':=by
 unfold fe
 rw[agy h]
 split
 ·rfl
 ·rename_i g want hg
  split
  ·rfl
  ·rename_i d hd
   rw[h.sl d (by simp [looks,hg,hd])]
theorem swap{C:ag}{ops:List Oper}{o1 o2:Oper}{i1 i2:Nat}{u1 u2:Out}(h1:fe E C ops o1 s=some u1)(h2:fe E C ops o2 (s.apply o1.dst u1)=some u2)(h:(gS ops o1 i1 s u1).apart (gS ops o2 i2 (s.apply o1.dst u1) u2)=true):
 fe E C ops o2 s=some u2/\gS ops o2 i2 s u2=gS ops o2 i2 (s.apply o1.dst u1) u2/\fe E C ops o1 (s.apply o2.dst u2)=some u1/\gS ops o1 i1 (s.apply o2.dst u2) u1=gS ops o1 i1 s u1/\
  (s.apply o2.dst u2).apply o1.dst u1=(s.apply o1.dst u1).apply o2.dst u2:=by
 have hp:=z183 h
 have ag1:nf (looks ops o2) (zx (s.apply o1.dst u1) o2) (s.apply o1.dst u1) s:=zok (fun t ht hm=>(hp.h1 t hm).1 ht) (fun id gh hm=>(hp.h3 id hm).1 gh)
 have ea:=zp9 (ops:=ops) (o:=o2) ag1.sl
 have Z8:nf (looks ops o1) (zx s o1) (s.apply o2.dst u2) s:=zok (fun t ht hm=>hp.h2 t hm ht) (fun id gh hm=>hp.h4 id hm gh)
 have fp:=zp9 (ops:=ops) (o:=o1) Z8.sl
 refine⟨by rw[<-Nn ag1];exact h2,by simp only[gS,ea],?_,by simp only[gS,fp],(adS (fun t ht=>(hp.h1 t ht).2) (fun id gh=>(hp.h3 id gh).2)).symm⟩
 rw[Nn (s:=s.apply o2.dst u2) (s':=s) ⟨Z8.sl,fun id gh=>Z8.bs id (by rw[<-fp];exact gh)⟩]
 exact h1
end Go.Ref

namespace Go.Ref
open Go
variable {P:Program} {E:Env} {X:ax} {s:State} {a:Act} {o:Oper} {u:Out}
def oP(E:Env)(C:ag)(ops:Array Oper):List Nat->State->List eB->State->Prop
 | [],s,tr,z=>s=z/\tr=[]
 |i::r,s,f::tr,z=>∃u,fe E C ops.toList (ops.getD i default) s=some u/\f=gS ops.toList (ops.getD i default) i s u/\oP E C ops r (s.apply (ops.getD i default).dst u) tr z
 |_::_,_,[],_=>False
def vN(ops:Array Oper)(i:Nat):Nat:=zy (ops.getD i default).after.toList
theorem NB{ops:List Oper}{q:Nat}:∀(n m:Nat),m.testBit q=true->(jQ ops n m).testBit q=true
 |0,m,h=>h
 |i+1,m,h=>by
  refine NB i _ ?_
  split
  ·cases m.testBit i with
   |false=>exact h
   |true=>rw[cond_true,Nat.testBit_or,h];rfl
  ·exact h
theorem zp3{listed:Array Bool}{i q:Nat}(h:listed.getD q false=true):(listed.setIfInBounds i true).getD q false=true:=by
 simp only[Array.getD_eq_getD_getElem?,Array.getElem?_setIfInBounds] at h⊢
 split
 ·split
  ·rfl
  ·rename_i h1 h2
   subst h1
   rw[Array.getElem?_eq_none (by omega)] at h
   exact h
 ·exact h
theorem ahx{listed:Array Bool}{i q:Nat}(e:q≠i):(listed.setIfInBounds i true).getD q false=listed.getD q false:=by
 simp only[Array.getD_eq_getD_getElem?]
 rw[Array.getElem?_setIfInBounds_ne (by omega)]
def uv(ops:Array Oper)(listed:Array Bool):Prop:=∀i,listed.getD i false=true->∀q,(vN ops i).testBit q=true->listed.getD q false=true
theorem TJ{ops:Array Oper}{listed:Array Bool}(fM:uv ops listed):∀(n m:Nat),(∀q,m.testBit q=true->listed.getD q false=true)->∀q,(jQ ops.toList n m).testBit q=true->listed.getD q false=true
 |0,m,h=>h
 |i+1,m,h=>by
  refine TJ fM i _ fun q hq=> ?_
  split at hq
  ·rename_i o ho
   cases hb:m.testBit i with
   |false=>rw[hb] at hq;exact h q hq
   |true=>
    rw[hb,cond_true,Nat.testBit_or,Bool.or_eq_true] at hq
    rcases hq with hq|hq
    ·exact h q hq
    ·refine fM i (h i hb) q ?_
     have:ops.getD i default=o:=by
      rw[Array.getElem?_toList] at ho
      simp only[Array.getD_eq_getD_getElem?,ho,Option.getD_some]
     unfold vN
     rw[this]
     exact hq
  ·exact h q hq
theorem OL{ops:Array Oper}{listed:Array Bool}(fM:uv ops listed){i:Nat}(h:∀q,(vN ops i).testBit q=true->listed.getD q false=true):uv ops (listed.setIfInBounds i true):=fun j hj q hq=>by
 by_cases e:j=i
 ·subst e
  exact zp3 (h q hq)
 ·rw[ahx e] at hj
  exact zp3 (fM j hj q hq)
def wE(ops:Array Oper)(a b:eB):Prop:=(jQ ops.toList b.i (vN ops b.i)).testBit a.i=true\/a.apart b=true
theorem F5{C:ag}{ops:Array Oper}:∀{l:List Nat} {s z:State} {tr:List eB},oP E C ops l s tr z->tr.map (·.i)=l
 | [],s,z,tr,h=>by rw[h.2];rfl
 |i::r,s,z,f::tr,h=>by
  obtain⟨u,_,rfl,h3⟩:=h
  simp only[List.map_cons,F5 h3]
  rfl
 |_::_,s,z,[],h=>h.elim
theorem zb5{C:ag}(hC:C.Nat){ops:Array Oper}{z:State}:∀(l:List Nat) (i:Nat) (s:State) (tr:List eB),(∀(j:Nat) k,l[j]? =some k->k=i+j)->
 yO E (C State) ops.toList (l.map fun k=>ops.getD k default) i s tr some=some z->∃yp,oP E C ops l s yp z/\(∀a∈tr,∀b∈yp,wE ops a b)/\yp.Pairwise (wE ops)/\∀k∈l,Nat.ble (vN ops k+1) (bit k)=true
 | [],i,s,tr,hl,h=>by
   cases h
   exact⟨[],⟨rfl,rfl⟩,(fun a _ b hb=>by cases hb),List.Pairwise.nil,fun k hk=>by cases hk⟩
 |k::r,i,s,tr,hl,h=>by
  have hk:k=i:=by simpa using hl 0 k rfl
  subst hk
  simp only[List.map_cons,yO] at h
  obtain⟨u,h1,h2,h3⟩:=aid hC h
  obtain⟨yp,r1,r2,r3,r4⟩:=zb5 hC r (k+1) _ _ (fun j k' hj=>by
   have:=hl (j+1) k' hj
   omega) h3
  simp only[fits,Bool.and_eq_true] at h2
  obtain⟨h2a,h2b⟩:=h2
  have h2b:=List.all_eq_true.1 h2b
  refine⟨gS ops.toList (ops.getD k default) k s u::yp,⟨u,h1,rfl,r1⟩,fun a ha b hb=> ?_,?_,fun k' Lj=> ?_⟩
  ·rcases List.mem_cons.1 hb with rfl|hb
   ·have:=h2b a ha
    simp only[Bool.or_eq_true] at this
    rcases this with this|this|this
    ·exact .inl (NB _ _ this)
    ·exact .inr this
    ·exact .inl this
   ·exact r2 a (List.mem_cons_of_mem _ ha) b hb
  ·exact List.pairwise_cons.2 ⟨fun b hb=>r2 _ (by simp) b hb,r3⟩
  ·rcases List.mem_cons.1 Lj with rfl|Lj
   ·exact h2a
   ·exact r4 k' Lj
theorem zrr{C:ag}{ops:Array Oper}{z:State}{i:Nat}{q:List Nat}:∀(p:List Nat) (s:State) (tr:List eB),oP E C ops (p++i::q) s tr z->(∀(tp:List eB) f tq,tr=tp++f::tq->tp.length=p.length->∀a∈tp,a.apart f=true)->
 ∃tp f tq u,tr=tp++f::tq/\tp.length=p.length/\fe E C ops.toList (ops.getD i default) s=some u/\f=gS ops.toList (ops.getD i default) i s u/\oP E C ops (p++q) (s.apply (ops.getD i default).dst u) (tp++tq) z
 | [],s,[],h,AQ=>h.elim
 | [],s,f::tr,h,AQ=>by
   obtain⟨u,h1,h2,h3⟩:=h
   exact⟨[],f,tr,u,rfl,rfl,h1,h2,h3⟩
 |j::p,s,[],h,AQ=>h.elim
 |j::p,s,g::tr,h,AQ=>by
  obtain⟨uj,h1,h2,h3⟩:=h
  obtain⟨tp,f,tq,u,e1,e2,k1,k2,k3⟩:=zrr p _ tr h3 (fun tp f tq e hl a ha=>AQ (g::tp) f tq (by rw[e];rfl) (by simp [hl]) a (List.mem_cons_of_mem _ ha))
  have hg:=AQ (g::tp) f tq (by rw[e1];rfl) (by simp [e2]) g (by simp)
  rw[h2,k2] at hg
  obtain⟨w1,w2,w3,w4,w5⟩:=swap h1 k1 hg
  refine⟨g::tp,f,tq,u,by rw[e1];rfl,by simp [e2],w1,by rw[k2,w2],uj,w3,by rw[h2,w4],?_⟩
  rw[w5]
  exact k3
theorem ON{l:List Nat}{i:Nat}(h:i∈l):∃p q,l=p++i::q:=List.append_of_mem h
theorem zvv{p q:List Nat}{i:Nat}(h:(p++i::q).Nodup):(p++i::q).filter (fun j=> !(Nat.beq j i))=p++q:=by
 have h':=List.nodup_append.1 h
 have hp:∀j∈p,j≠i:=fun j hj=>h'.2.2 j hj i (by simp)
 have hq:∀j∈q,j≠i:=fun j hj e=>by
  have:=(List.nodup_cons.1 h'.2.1).1
  rw[e] at hj;exact this hj
 rw[List.filter_append,List.filter_cons]
 have hb:∀j,j≠i->(!(Nat.beq j i))=true:=fun j hj=>by
  cases hh:Nat.beq j i with
  |false=>rfl
  |true=>exact absurd (Nat.eq_of_beq_eq_true hh) hj
 rw[List.filter_eq_self.2 (fun j hj=>hb j (hp j hj)),List.filter_eq_self.2 (fun j hj=>hb j (hq j hj))]
 have:(!(Nat.beq i i))=false:=by simp
 rw[this]
 simp
def rest(n:Nat)(listed:Array Bool):List Nat:=(List.range n).filter fun i=> !listed.getD i true
theorem alG{n:Nat}{listed:Array Bool}(hs:listed.size=n){i:Nat}{p q:List Nat}(h:rest n listed=p++i::q):rest n (listed.setIfInBounds i true)=p++q:=by
 have oe:(rest n listed).Nodup:=List.nodup_range.filter _
 rw[h] at oe
 rw[<-zvv oe,<-h]
 simp only[rest,List.filter_filter]
 refine List.filter_congr fun j hj=> ?_
 have hjn:=List.mem_range.1 hj
 by_cases e:j=i
 ·subst e
  have:(listed.setIfInBounds j true).getD j true=true:=by simp [Array.getD_eq_getD_getElem?,hs,hjn]
  rw[this];simp
 ·have h1:(listed.setIfInBounds i true).getD j true=listed.getD j true:=by
   simp only[Array.getD_eq_getD_getElem?]
   rw[Array.getElem?_setIfInBounds_ne (fun h=>e h.symm)]
  have h2:Nat.beq j i=false:=by
   cases hh:Nat.beq j i with
   |false=>rfl
   |true=>exact absurd (Nat.eq_of_beq_eq_true hh) e
  rw[h1,h2];simp
theorem HU{ops:Array Oper}{listed:Array Bool}{i:Nat}(h:i∈Region.ready .any ops listed):i∈rest ops.size listed/\∀e∈(ops.getD i default).after.toList,Region.binds .any e=true->listed.getD e.on false=true:=by
 unfold Region.ready at h
 obtain⟨h1,h2⟩:=List.mem_filter.1 h
 have hi:=List.mem_range.1 h1
 rw[Bool.and_eq_true] at h2
 refine⟨List.mem_filter.2 ⟨h1,h2.1⟩,fun e he hb=> ?_⟩
 have h3:=h2.2
 rw[Array.getElem?_eq_getElem hi] at h3
 simp only[Option.map_some,Option.getD_some] at h3
 have cC:ops.getD i default=ops[i]:=by simp [hi]
 rw[cC] at he
 have h4:=Array.all_eq_true_iff_forall_mem.1 h3 e (by simpa using he)
 rw[hb] at h4
 simpa using h4
theorem OI{ops:Array Oper}{listed:Array Bool}{i:Nat}(h:i∈rest ops.size listed)(ha:∀e∈(ops.getD i default).after.toList,Region.binds .any e=true->listed.getD e.on false=true):i∈Region.ready .any ops listed:=by
 obtain⟨h1,h2⟩:=List.mem_filter.1 h
 have hi:=List.mem_range.1 h1
 refine List.mem_filter.2 ⟨h1,?_⟩
 rw[Bool.and_eq_true]
 refine⟨h2,?_⟩
 have cC:ops.getD i default=ops[i]:=by simp [hi]
 rw[Array.getElem?_eq_getElem hi]
 simp only[Option.map_some,Option.getD_some]
 refine Array.all_eq_true_iff_forall_mem.2 fun e he=> ?_
 cases hb:Region.binds .any e with
 |false=>rfl
 |true=>
  rw[ha e (by rw[cC];simpa using he) hb]
  simp
theorem akO(hE:ak P E){C:ag}(hC:C.Nat)(hf:∀f,de P C f){ops:Array Oper}{z:State}{Q:Exit->Act->World->Prop}(mH:∀k,k<ops.size->Nat.ble (vN ops k+1) (bit k)=true):
 ∀(cr:Nat) (listed:Array Bool) (X:ax) (s:State) (a:Act) (tr:List eB),Rel X s a->uv ops listed->listed.size=ops.size->cr=(rest ops.size listed).length->oP E C ops (rest ops.size listed) s tr z->tr.Pairwise (wE ops)->
  (∀Y a',Ext X Y->Rel Y z a'->Q .normal a' Y.w)->wpAny P .any ops Q cr listed a X.w:=by
 intro cr
 have done:∀(listed:Array Bool),listed.size=ops.size->Region.ready .any ops listed=[]->rest ops.size listed=[]:=by
  intro listed hs hr
  rcases hl:rest ops.size listed with _|⟨i,r⟩
  ·rfl
  have cz:i∈rest ops.size listed:=by rw[hl];simp
  have dv:=List.mem_range.1 (List.mem_filter.1 cz).1
  have kG:i∈Region.ready .any ops listed:=by
   refine OI cz fun e he hb=> ?_
   have al:e.on<i:=z131 (mH i dv) (zhi _ e he hb)
   cases hx:listed.getD e.on false with
   |true=>rfl
   |false=>
    exfalso
    have gG:e.on<listed.size:=by omega
    have Bh:listed.getD e.on true=false:=by
     simp only[Array.getD_eq_getD_getElem?,Array.getElem?_eq_getElem gG,Option.getD_some] at hx⊢
     exact hx
    have hm:e.on∈rest ops.size listed:=List.mem_filter.2 ⟨List.mem_range.2 (by omega),by rw[Bh];rfl⟩
    have jd:(rest ops.size listed).Pairwise (· < ·):=List.pairwise_lt_range.filter _
    rw[hl] at jd hm
    rcases List.mem_cons.1 hm with e1|hm
    ·omega
    ·have:=(List.pairwise_cons.1 jd).1 _ hm
     omega
  rw[hr] at kG
  cases kG
 induction cr with
 |zero=>
  intro listed X s a tr hr fM hs od dV vS hQ
  have uU:rest ops.size listed=[]:=List.eq_nil_of_length_eq_zero od.symm
  rw[uU] at dV
  obtain⟨rfl,_⟩:=dV
  refine⟨?_,hQ X a (Ext.refl X) hr⟩
  rcases LA:Region.ready .any ops listed with _|⟨i,r⟩
  ·rfl
  ·have:=(HU (i:=i) (by rw[LA];simp)).1
   rw[uU] at this
   cases this
 |succ cr ih=>
  intro listed X s a tr hr fM hs od dV vS hQ
  refine⟨fun jb=> ?_,fun i hi=> ?_⟩
  ·rw[done listed hs jb] at od
   cases od
  ·obtain⟨cz,se⟩:=HU hi
   obtain⟨p,q,xY⟩:=ON cz
   have dv:=List.mem_range.1 (List.mem_filter.1 cz).1
   rw[xY] at dV
   have mJ:=F5 dV
   obtain⟨tp,f,tq,u,e1,e2,k1,k2,k3⟩:=zrr p s tr dV (fun tp f tq e hl a' AP=>by
    have uK:f.i=i:=by
     rw[e,List.map_append,List.map_cons] at mJ
     have:=List.append_inj mJ (by simp [hl])
     injection this.2
    have haj:a'.i∈p:=by
     rw[e,List.map_append,List.map_cons] at mJ
     have:=List.append_inj mJ (by simp [hl])
     rw[<-this.1]
     exact List.mem_map.2 ⟨a',AP,rfl⟩
    rw[e] at vS
    have uM:=(List.pairwise_append.1 vS).2.2 a' AP f (by simp)
    rcases uM with hb|hb
    ·exfalso
     rw[uK] at hb
     obtain fY:=TJ fM _ _ (fun q hq=>by
      obtain⟨ed,xO,xP,Lc⟩:=Gb _ _ hq
      have:=se ed xO xP
      rw[Lc] at this
      exact this) a'.i hb
     have bG:a'.i∈rest ops.size listed:=by rw[xY];exact List.mem_append_left _ haj
     have eA:=(List.mem_filter.1 bG).2
     have al:=List.mem_range.1 (List.mem_filter.1 bG).1
     have gG:a'.i<listed.size:=by omega
     simp only[Array.getD_eq_getD_getElem?,Array.getElem?_eq_getElem gG,Option.getD_some] at fY eA
     rw[fY] at eA
     cases eA
    ·exact hb)
   have bG:=alG hs xY
   have hio:ops[i]? =some (ops.getD i default):=by simp [dv]
   refine XC hE hr hC hf hio (zpc hC k1) fun Y a' aY bz=> ?_
   refine ih (listed.setIfInBounds i true) Y _ a' (tp++tq) bz (OL fM fun q hq=>by
    obtain⟨ed,g1,g2,g3⟩:=Gb _ _ hq
    have:=se ed g1 g2
    rw[g3] at this
    exact this) (by simp [hs]) ?_ (by rw[bG];exact k3) ?_ (fun Z a2 cf dg=>hQ Z a2 (aY.trans cf) dg)
   ·rw[bG]
    rw[xY] at od
    simp only[List.length_append,List.length_cons] at od⊢
    omega
   ·rw[e1] at vS
    obtain⟨a1,a2,a3⟩:=List.pairwise_append.1 vS
    exact List.pairwise_append.2 ⟨a1,(List.pairwise_cons.1 a2).2,fun x hx y hy=>a3 x hx y (List.mem_cons_of_mem _ hy)⟩
theorem ahf(hE:ak P E)(hm:P.follows .mixedOrders=true){C:ag}(hC:C.Nat)(hf:∀f,de P C f){id:Nat}{ops:Array Oper}{z:State}{Q:Exit->Act->World->Prop}(hr:Rel X s a)(h:yO E (C State) ops.toList ops.toList 0 s [] some=some z)
 (hQ:∀Y a',Ext X Y->Rel Y z a'->Q .normal a' Y.w):(Code.region id ops true).wp P Q a X.w:=by
 have kF:(List.range ops.size).map (fun i=>ops.getD i default)=ops.toList:=by
  apply List.ext_getElem?
  intro i
  rw[List.getElem?_map]
  by_cases hi:i<ops.size
  ·simp [hi]
  ·simp [hi]
 have bG:rest ops.size (Array.replicate ops.size false)=List.range ops.size:=by
  refine List.filter_eq_self.2 fun i hi=> ?_
  have:=List.mem_range.1 hi
  simp [this]
 obtain⟨yp,r1,_,r3,r4⟩:=zb5 hC (List.range ops.size) 0 s [] (fun j k hj=>by
  have:=(List.getElem?_eq_some_iff.1 hj)
  obtain⟨h1,h2⟩:=this
  simp at h2
  omega) (by rw[kF];exact h)
 have hk:fj s X {X with w:={X.w with drawn:=X.w.drawn+1}}:=⟨Nat.le_refl _,rfl,rfl,rfl,fun g _=>⟨rfl,rfl⟩,rfl,fun _ _ _=>rfl⟩
 refine wp_region_any hm ?_
 exact akO hE hC hf (fun k hk=>r4 k (List.mem_range.2 hk)) ops.size (Array.replicate ops.size false) _ s a yp (hr.dF hk) (fun i hi=>by
  by_cases h:i<ops.size<;>simp [h] at hi) (by simp) (by rw[bG];simp) (by rw[bG];exact r1) r3 (fun Y a' aY bz=>hQ Y a' (hk.ext.trans aY) bz)
end Go.Ref

namespace Go.Ref
open Go
variable {P:Program} {E:Env} {X:ax} {s:State} {a:Act}
theorem bh.flat{X Y:ax}:∀{t:Ty} {x:El t} {cs:List Value},t.flat=true->bh X t x cs->bh Y t x cs
 | .bool,_,_,_,hr=>hr
 | .int _,_,_,_,hr=>hr
 | .str,_,_,_,hr=>hr
 | .unit,_,_,_,hr=>hr
 | .sl _ _,_,_,hf,_=>by cases hf
 | .aF _ _ _,_,_,hf,_=>by cases hf
 | .arr n t,xs,cs,hf,⟨h1,h2,h3⟩=>⟨h1,h2,fun j x hj=>bh.flat (t:=t) hf (h3 j x hj)⟩
 | .pair a b,x,cs,hf,⟨c1,c2,h1,h2,h3⟩=>by
   have hf:(a.flat&&b.flat)=true:=hf
   rw[Bool.and_eq_true] at hf
   exact⟨c1,c2,h1,bh.flat hf.1 h2,bh.flat hf.2 h3⟩
theorem aA.flat{X Y:ax}{pl:List Nat->Place}{sv:SV}{v:Value}(hf:sv.flat=true)(hr:aA X pl sv v):aA Y pl sv v:=by
 cases sv with
 |aj t x own=>
  have hf:(t.flat&&own.isEmpty)=true:=hf
  rw[Bool.and_eq_true] at hf
  obtain⟨cs,h1,h2,_⟩:=hr
  have:own=[]:=List.isEmpty_iff.1 hf.2
  subst this
  exact⟨cs,h1.flat hf.1,h2,m7⟩
 |undef=>trivial
 |skip=>exact hr
 |cJ=>exact hr
 |eh=>exact hr
 |over=>exact hr
 |_=>cases hf
theorem T4{o:Nat}:∀{sl:List (List SV)} {i:Nat},lR o i sl=true->∀(j:Nat) l,sl[j]? =some l->i+j≠o->∀sv∈l,SV.flat sv=true
 | [],i,_,j,l,h,_=>by simp at h
 |l0::r,i,h,j,l,hl,bK=>by
  rw[lR,Bool.and_eq_true,Bool.or_eq_true] at h
  cases j with
  |zero=>
   cases hl
   rcases h.1 with h1|h1
   ·exact absurd (Nat.eq_of_beq_eq_true h1) bK
   ·exact fun sv hm=>List.all_eq_true.1 h1 sv hm
  |succ j=>exact T4 h.2 j l hl (by omega)
structure ox(X:ax)(a:Act)(o:Nat)(e:TypeId)(xs:List Int)(own:List (List Nat))(g c:Nat)(cur:Array Value):Prop where
 val:a.tmps.getD o Go.undef= .slice (some ⟨g,0,none⟩) xs.length c
 heap:X.w.heap[g]? =some (.cells cur e (0,0))
 cell:∀(j:Nat) x,xs[j]? =some x->X.w.cell? ⟨g,j,none⟩=some (.int .u8 x)
 le:xs.length<=c
 most:c<=maxLen
 size:cur.size=c
 ow:X.ow g= .row (.c o 0 []) (xs.length*1)
 own:∀p∈own,p=[]
theorem an3{o:Nat}{e:TypeId}{xs:List Int}{own:List (List Nat)}(hr:Rel X s a)(hs:s.slot o=[.aj (.sl e (.int .u8)) xs own])(bT:hM own []=true){i:Nat}(hi:i<xs.length):∃g c cur,ox X a o e xs own g c cur:=by
 have jc:=hr.slot o
 rw[hs] at jc
 obtain⟨cs,aM,hv,hO⟩:=(show aA X (.c o 0) (.aj (.sl e (.int .u8)) xs own) (a.tmps.getD o Go.undef) from jc)
 have cz:([]:List Nat)∈own:=by
  unfold hM at bT
  obtain⟨q,h1,h2⟩:=List.any_eq_true.1 bT
  have:q=[]:=by simpa using h2
  rw[<-this];exact h1
 have cW:∀p∈own,p=[]:=fun p hp=>by
  obtain⟨e2,t2,xs2,v2,g1,g2,g3,g4⟩:=hO p hp
  cases p with
  |cons q r=>simp [El.get] at g2
  |nil=>rfl
 obtain⟨e1,t1,xs1,v1,_,hg,hc,cj⟩:=hO [] cz
 simp only[El.get,Option.some.injEq] at hg
 cases hg
 obtain⟨A,c,eU,hle,fX⟩:=aM
 subst eU
 have hv:a.tmps.getD o Go.undef= .slice A xs.length c:=hv
 have Be:v1= .slice A xs.length c:=by
  have:([Value.slice A xs.length c]:List Value)[0]? =some v1:=hc
  simpa using this.symm
 subst Be
 rcases cj with⟨_,h0⟩|⟨g,cap,cur,h1,h2,h3,h4,h5,h6⟩
 ·have h0:List.length xs=0:=h0
  omega
 injection h1 with k1 k2 k3
 subst k1 k3
 have h5:cur.size=c*1:=h5
 have h6:X.ow g= .row (.c o 0 []) (List.length xs*1):=h6
 have dU:∀(j:Nat) x,xs[j]? =some x->X.w.cell? ⟨g,j,none⟩=some (.int .u8 x):=fun j x hj=>by
  obtain⟨ad,eZ,e1,_,e2,e3⟩:=fX j x hj
  cases e1
  have e2:eZ=[.int .u8 x]:=e2
  subst e2
  have:=(e3 0 (.int .u8 x) rfl).2.1
  rw[jq] at this
  simpa [Ty.cells] using this
 exact⟨g,c,cur,hv,h2,dU,hle,h4,by omega,h6,cW⟩
theorem alB{o:Nat}{e:TypeId}{xs:List Int}{own:List (List Nat)}{X0:ax}(hF:∀g pl n,X0.ow g≠ .row pl n)(hx:Ext X0 X)(hr:Rel X s a)(ho:o<s.sl.length)(uL:lR o 0 s.sl=true)(jH:s.bs.all Option.isNone=true)
 {g c:Nat} {cur:Array Value} (hR:ox X a o e xs own g c cur) {i:Nat} (hi:i<xs.length) (z:Int):
   Ext X0 (X.row g (cur.toList.take i++ [Value.int .u8 z]++cur.toList.drop (i+1)).toArray)/\Rel (X.row g (cur.toList.take i++ [Value.int .u8 z]++cur.toList.drop (i+1)).toArray) ⟨s.sl.set o [.aj (.sl e (.int .u8)) (xs.set i z:List Int) own],s.bs⟩ a:=by
 obtain⟨hv,h2,dU,hle,h4,h5,h6,cW⟩:=hR
 refine⟨?_,?_⟩
 ·
  have dw:∀b,b≠g->(X.row g (cur.toList.take i++ [Value.int .u8 z]++cur.toList.drop (i+1)).toArray).w.heap[b]? =X.w.heap[b]? :=fun b hb=>setRow_other X.w g b _ hb
  have og:∀ad v,X0.ay ad v->ad.block≠g:=fun ad v eJ e0=>by
   have al:=ax.jk eJ
   have hu:=eJ.2.2
   cases hw:X0.ow ad.block with
   |all=>have:=(hx.still ad.block al (by rw[hw];trivial)).1;rw[e0,h6] at this;rw[<-e0,hw] at this;cases this
   |ro n=>have:=(hx.still ad.block al (by rw[hw];trivial)).1;rw[e0,h6] at this;rw[<-e0,hw] at this;cases this
   |box id=>rw[hw] at hu;exact hu
   |row pl n=>exact hF _ _ _ hw
  refine⟨fun ad v eJ=> ?_,?_,hx.os,hx.tape,hx.output,hx.β0,fun b hb bQ=> ?_⟩
  ·have h7:=hx.ay ad v eJ
   refine⟨h7.1,?_,h7.2.2⟩
   have:=h7.2.1
   simp only[World.cell?] at this⊢
   rw[dw _ (og ad v eJ)];exact this
  ·have:=hx.size
   simpa [ax.row] using this
  ·have h7:=hx.still b hb bQ
   have bK:b≠g:=fun e0=>by
    have h8:=h7.1
    rw[e0,h6] at h8
    rw[e0,<-h8] at bQ
    exact bQ
   exact⟨h7.1,(dw b bK).trans h7.2⟩
 ·generalize iE:(cur.toList.take i++ [Value.int .u8 z]++cur.toList.drop (i+1)).toArray=new
  have eA:new.toList=cur.toList.take i++ [Value.int .u8 z]++cur.toList.drop (i+1):=by rw[<-iE]
  have eI:new.size=cur.size:=by
   have:new.toList.length=cur.toList.length:=by rw[eA];simp;omega
   simpa using this
  have aE:(X.row g new).w.heap[g]? =some (.cells new e (0,0)):=setRow_heap X.w g cur new e (0,0) h2
  refine⟨by simpa using hr.size,by simpa using hr.ia,fun j l v hl jK=> ?_,fun id B hB=> ?_,fun j l id t p hl hm=> ?_,hr.defers,fun j l id c b k hl hm=> ?_⟩
  ·rw[List.getElem?_set] at hl
   by_cases A7:o=j
   ·subst A7
    rw[if_pos rfl,if_pos ho] at hl
    cases hl
    have hvv:a.tmps.getD o Go.undef=v:=by rw[Array.getD_eq_getD_getElem?,jK];rfl
    rw[hvv] at hv
    subst hv
    refine⟨[.slice (some ⟨g,0,none⟩) xs.length c],?_,rfl,fun p hp=> ?_⟩
    ·refine bh.yk (t:= .int .u8) (List.length_set ..) hle fun j x hj=>⟨⟨g,0,none⟩,[.int .u8 x],rfl,rfl,rfl,fun k w hk=> ?_⟩
     have uN:j<xs.length:=by have:=(List.getElem?_eq_some_iff.1 hj).1;rw[List.length_set] at this;exact this
     cases k with
     |succ k=>simp at hk
     |zero=>
      have hk:Value.int .u8 x=w:=by simpa using hk
      subst hk
      refine⟨BN rfl _,?_,?_⟩
      ·rw[jq]
       show(X.row g new).w.cell? _=_
       simp only[World.cell?,aE,Ty.cells]
       rw[show 0+(j*1+0)=j by omega,<-Array.getElem?_toList,eA]
       have hj:(xs.set i z)[j]? =some x:=hj
       rw[List.getElem?_set] at hj
       have apV:i<cur.toList.length:=by simp;omega
       by_cases hij:i=j
       ·subst hij
        rw[if_pos rfl,if_pos hi] at hj
        cases hj
        rw[List.append_assoc,List.getElem?_append_right (by simp;omega)]
        have:i-(cur.toList.take i).length=0:=by simp;omega
        rw[this];rfl
       ·rw[if_neg hij] at hj
        have vR:=dU j x hj
        simp only[World.cell?,h2] at vR
        rw[<-Array.getElem?_toList] at vR
        rcases Nat.lt_or_ge j i with al|Td
        ·rw[List.append_assoc,List.getElem?_append_left (by simp;omega),List.getElem?_take,if_pos al]
         exact vR
        ·have hgt:i<j:=by omega
         rw[List.getElem?_append_right (by simp;omega),List.getElem?_drop]
         have:i+1+(j-(cur.toList.take i++ [Value.int .u8 z]).length)=j:=by simp;omega
         rw[this]
         exact vR
      ·rw[jq]
       show Ow.used (X.ow g) _
       rw[h6]
       show _<_
       simp only[Ty.cells]
       omega
    ·have:=cW p hp
     subst this
     refine⟨e,.int .u8,(xs.set i z:List Int),_,by simp [Ty.fa],rfl,rfl,?_⟩
     have hls:List.length (xs.set i z)=xs.length:=List.length_set ..
     rw[hls]
     exact .inr ⟨g,c,new,rfl,aE,hle,h4,by rw[eI,h5];simp [Ty.cells],h6⟩
   ·rw[if_neg A7] at hl
    have:=T4 uL j l hl (by omega)
    exact(hr.bR j l v hl jK).jx fun k sv u hk hu=>hu.flat (this sv (List.mem_of_getElem? hk))
  ·have:=List.all_eq_true.1 jH (some B) (List.mem_of_getElem? hB)
   cases this
  ·rw[List.getElem?_set] at hl
   by_cases A7:o=j
   ·subst A7
    rw[if_pos rfl,if_pos ho] at hl
    cases hl
    simp at hm
   ·rw[if_neg A7] at hl
    have:=T4 uL j l hl (by omega) _ hm
    cases this
  ·exfalso
   replace hl:(s.sl.set o [.aj (.sl e (.int .u8)) (xs.set i z:List Int) own])[j]? =some l:=hl
   rw[List.getElem?_set] at hl
   by_cases A7:o=j
   ·subst A7
    rw[if_pos rfl,if_pos ho] at hl
    cases hl
    simp at hm
   ·rw[if_neg A7] at hl
    have:=T4 uL j l hl (by omega) _ hm
    cases this
theorem oo{a:Act}{d i:Nat}{v:Value}(hd:d<a.tmps.size):(a.put (some d) v).tmps.getD i Go.undef=if d=i then v else a.tmps.getD i Go.undef:=by
 simp only[Act.put,Array.getD_eq_getD_getElem?,Array.getElem?_setIfInBounds]
 split
 ·first|rfl|(rw[if_pos hd];rfl)
 ·rfl
theorem sH{a:Act}{d:Nat}{v:Value}:(a.put (some d) v).tmps.size=a.tmps.size:=by simp [Act.put]
theorem raw{ops:Array Oper}{Q:Exit->Act->World->Prop}{i d:Nat}{rest:List Nat}{a:Act}{w:World}{o:Oper}{v:Value}(hi:ops[i]? =some o)(hd:isDst o d=true)(aX:(execOp a.eval o).run P w= .ok (.value v) w)(K:wpOps P ops Q rest (a.put (some d) v) w):wpOps P ops Q (i::rest) a w:=by
 have lS:o.dst=some d/\o.guard=none:=by
  unfold isDst at hd
  split at hd
  ·rename_i d' h1 h2
   exact⟨by rw[h1,Nat.eq_of_beq_eq_true hd],h2⟩
  ·cases hd
 rw[wpOps_cons]
 unfold wpOp
 simp only[hi]
 have hw:Region.wanted o (yielded ops a.tmps)=true:=by simp [Region.wanted,lS.2]
 rw[if_pos hw]
 refine .inl ?_
 unfold Oper.wp
 rw[aX,Oper.upon_value,lS.1]
 exact K
theorem wg{x:Operand}{i:Nat}(h:fZ x i=true):x= .tmp i:=by
 unfold fZ at h
 split at h
 ·rw[Nat.eq_of_beq_eq_true h]
 ·cases h
theorem PI{T:TypeId}(h:ya E T=true):E.ty T=some (.int .u8):=by
 unfold ya at h
 split at h
 ·assumption
 ·cases h
theorem zw9{T:TypeId}(h:Xu E T=true):∃e,E.ty T=some (.sl e (.int .u8)):=by
 unfold Xu at h
 split at h
 ·exact⟨_,by assumption⟩
 ·cases h
theorem wh{o:Oper}{d x:Nat}(h:Hd o d x=true):isDst o d=true/\∀(a:Act) (w:World),(execOp a.eval o).run P w= .ok (.value (a.tmps.getD x Go.undef)) w:=by
 unfold Hd at h
 rw[Bool.and_eq_true] at h
 refine⟨h.1,fun a w=> ?_⟩
 have h:=h.2
 split at h
 ·rename_i y ho
  have:=wg h
  subst this
  simp only[execOp,ho]
  rfl
 ·cases h
theorem Xy(hE:ak P E){o:Oper}{d x:Nat}(h:isLen E o d x=true):isDst o d=true/\∀(a:Act) (w:World) A n c,a.tmps.getD x Go.undef= .slice A n c->(execOp a.eval o).run P w= .ok (.value (.int .i64 n)) w:=by
 unfold isLen at h
 rw[Bool.and_eq_true] at h
 refine⟨h.1,fun a w A n c hv=> ?_⟩
 have h:=h.2
 split at h
 ·rename_i dT ts ho
  split at h
  ·rename_i y T sY CC
   have has:dT= #[y]:=by rw[<-Array.toArray_toList (xs:=dT),sY]
   have lg:ts= #[T]:=by rw[<-Array.toArray_toList (xs:=ts),CC]
   subst has lg
   rw[Bool.and_eq_true] at h
   have:=wg h.1
   subst this
   obtain⟨e,hT⟩:=zw9 h.2
   have hu:=(hE.ty T _ hT).dC
   have ev:a.eval (.tmp x)= .slice A n c:=hv
   simp [execOp,ho,resolve,invoke,builtin,Builtin.len_,ev,run_underlying hu.1,goInt]
  ·cases h
 ·cases h
theorem Us{o:Oper}{d x:Nat}(h:ZO o d x=true):isDst o d=true/\∀(a:Act) (w:World) (n:Int),a.tmps.getD x Go.undef= .int .i64 n->(execOp a.eval o).run P w= .ok (.value (.int .i64 (IntKind.i64.wrap (n-1)))) w:=by
 unfold ZO at h
 rw[Bool.and_eq_true] at h
 refine⟨h.1,fun a w n hv=> ?_⟩
 have h:=h.2
 split at h
 ·rename_i T y c T' ho
  rw[Bool.and_eq_true] at h
  have:=wg h.1
  subst this
  have hc:=of_decide_eq_true h.2
  subst hc
  have ev:a.eval (.tmp x)= .int .i64 n:=hv
  have ec:a.eval (.const (.int .i64 1))= .int .i64 1:=rfl
  obtain⟨sv,v,hl,LM,_,hr,_⟩:=zqy (P:=P) (op:= .sub) (T:=T) (k:= .i64) (k':= .i64) (m:=n) (n:=1) w rfl
  cases hl
  have:=BE (hr ⟨w,fun _=> .all,fun _=>none⟩ (fun _=> .r 0 []))
  subst this
  simp only[execOp,ho,Sem.run_bind,ev,ec,TE,Result.andThen_ok,LM,Sem.run_pure]
 ·cases h
theorem P3{o:Oper}{d x y:Nat}(h:vi o d x y=true):isDst o d=true/\∀(a:Act) (w:World) (n m:Int),a.tmps.getD x Go.undef= .int .u8 n->a.tmps.getD y Go.undef= .int .u8 m->(execOp a.eval o).run P w= .ok (.value (.int .u8 (IntKind.u8.wrap (n+m)))) w:=by
 unfold vi at h
 rw[Bool.and_eq_true] at h
 refine⟨h.1,fun a w n m hv hu=> ?_⟩
 have h:=h.2
 split at h
 ·rename_i T u v T' ho
  rw[Bool.and_eq_true] at h
  have:=wg h.1
  subst this
  have:=wg h.2
  subst this
  have ev:a.eval (.tmp x)= .int .u8 n:=hv
  have eu:a.eval (.tmp y)= .int .u8 m:=hu
  obtain⟨sv,v,hl,LM,_,hr,_⟩:=zqy (P:=P) (op:= .add) (T:=T) (k:= .u8) (k':= .u8) (m:=n) (n:=m) w rfl
  cases hl
  have:=BE (hr ⟨w,fun _=> .all,fun _=>none⟩ (fun _=> .r 0 []))
  subst this
  simp only[execOp,ho,Sem.run_bind,ev,eu,TE,Result.andThen_ok,LM,Sem.run_pure]
 ·cases h
theorem ZH(hE:ak P E){o:Oper}{d x i:Nat}(h:x9 E o d x i=true):isDst o d=true/\∀(a:Act) (w:World) (g n c:Nat) (j:Int),a.tmps.getD x Go.undef= .slice (some ⟨g,0,none⟩) n c->a.tmps.getD i Go.undef= .int .i64 j->0<=j->j<n->(execOp a.eval o).run P w= .ok (.value (.pointer (some ⟨g,j.toNat,none⟩))) w:=by
 unfold x9 at h
 rw[Bool.and_eq_true] at h
 refine⟨h.1,fun a w g n c j hv hj h0 h1=> ?_⟩
 have h:=h.2
 split at h
 ·rename_i T y z ho
  rw[Bool.and_eq_true,Bool.and_eq_true] at h
  have:=wg h.1
  subst this
  have:=wg h.2.1
  subst this
  obtain⟨e,hT⟩:=zw9 h.2.2
  have hu:=(hE.ty T _ hT).dC
  have ev:a.eval (.tmp x)= .slice (some ⟨g,0,none⟩) n c:=hv
  have ei:a.eval (.tmp i)= .int .i64 j:=hj
  simp only[execOp,ho,Sem.run_bind,Instr.indexAt,ei,ev,asIntOf,Sem.run_pure,Result.andThen_ok,run_underlying hu.1,Sem.run_ite,h0,h1,and_self,if_true,l9 hE hu.2]
  simp [Ty.cells,jq]
 ·cases h
theorem Oo(hE:ak P E){o:Oper}{d x:Nat}(h:F4 E o d x=true):isDst o d=true/\∀(a:Act) (w:World) (g j:Nat) (y:Int),a.tmps.getD x Go.undef= .pointer (some ⟨g,j,none⟩)->w.cell? ⟨g,j,none⟩=some (.int .u8 y)->(execOp a.eval o).run P w= .ok (.value (.int .u8 y)) w:=by
 unfold F4 at h
 rw[Bool.and_eq_true] at h
 refine⟨h.1,fun a w g j y hv hc=> ?_⟩
 have h:=h.2
 split at h
 ·rename_i T z ho
  rw[Bool.and_eq_true] at h
  have:=wg h.1
  subst this
  have hT:=PI h.2
  have ev:a.eval (.tmp x)= .pointer (some ⟨g,j,none⟩):=hv
  have hl:=BG (P:=P) hE hT (X:=⟨w,fun _=> .all,fun _=>none⟩) (x:=y) (cs:=[.int .u8 y]) rfl (ad:=⟨g,j,none⟩) (w:=w) (fun k v hk=>by
   cases k with
   |zero=>rw[jq];have hk:Value.int .u8 y=v:=by simpa using hk
          rw[<-hk];exact hc
   |succ k=>simp at hk)
  simp only[execOp,ho,Sem.run_bind,Instr.loadAt,ev,Instr.sureAddr,Sem.run_pure,Result.andThen_ok,hl]
  rfl
 ·cases h
theorem an5(hE:ak P E){ops:Array Oper}{Q:Exit->Act->World->Prop}{o:Oper}{x y:Nat}(h:vh E o x y=true){k:Nat}{rest:List Nat}(hi:ops[k]? =some o){a:Act}{X:ax}{g j:Nat}{z:Int}{cur:Array Value}{T':TypeId}(hv:a.tmps.getD x Go.undef= .pointer (some ⟨g,j,none⟩))(hz:a.tmps.getD y Go.undef= .int .u8 z)(hg:X.w.heap[g]? =some (.cells cur T' (0,0)))(hj:j+1<=cur.size)
 (K:wpOps P ops Q rest (a.put none Go.undef) (X.row g (cur.toList.take j++ [Value.int .u8 z]++cur.toList.drop (j+1)).toArray).w):wpOps P ops Q (k::rest) a X.w:=by
 unfold vh at h
 rw[Bool.and_eq_true] at h
 have lS:o.dst=none/\o.guard=none:=by
  have h:=h.1
  split at h
  ·exact⟨by assumption,by assumption⟩
  ·cases h
 have h:=h.2
 rw[wpOps_cons]
 unfold wpOp
 simp only[hi]
 have hw:Region.wanted o (yielded ops a.tmps)=true:=by simp [Region.wanted,lS.2]
 rw[if_pos hw]
 refine .inl ?_
 unfold Oper.wp
 split at h
 ·rename_i T u v ho
  rw[Bool.and_eq_true,Bool.and_eq_true] at h
  have:=wg h.1
  subst this
  have:=wg h.2.1
  subst this
  have hT:=PI h.2.2
  have ev:a.eval (.tmp x)= .pointer (some ⟨g,j,none⟩):=hv
  have ez:a.eval (.tmp y)= .int .u8 z:=hz
  have bQ:=HL (P:=P) hE hT (X:=X) (x:=z) (cs:=[.int .u8 z]) rfl (off:=j) (w:=X.w) (r:=g) (cur:=cur) (T':=T') hg hj
  have iD:eb (.int .u8) [.int .u8 z]= .int .u8 z:=rfl
  rw[iD] at bQ
  have aX:(execOp a.eval o).run P X.w= .ok .skip (X.row g (cur.toList.take j++ [Value.int .u8 z]++cur.toList.drop (j+1)).toArray).w:=by
   simp only[execOp,ho,Sem.run_bind,Instr.storeAt,ev,Instr.sureAddr,Sem.run_pure,Result.andThen_ok,ez,bQ]
   rfl
  rw[aX,Oper.upon_skip,lS.1]
  exact K
 ·cases h
theorem Nb:∀(n m:Nat) (sl:List (List SV)),(kK n m sl).length=sl.length
 |0,m,sl=>rfl
 |n+1,m,sl=>by rw[kK,Nb n (m+1),List.length_set]
def dead(s:State)(d:Nat):State:=s.av (some d) [.undef]
theorem Rel.dead(hr:Rel X s a)(d:Nat)(v:Value):Rel X (Ref.dead s d) (a.put (some d) v):=hr.put (fun _ _=>trivial) (fun id t p hm=>by simp at hm)
theorem aii(hE:ak P E){X0:ax}(hF:∀g pl n,X0.ow g≠ .row pl n)(hx:Ext X0 X)(hr:Rel X s a){q:Nat×Nat×Nat}{id:Nat}{ops:Array Oper}{s':State}(h:l8 E q ops.toList s some=some s'){Q:Exit->Act->World->Prop}(hQ:∀Y a',Ext X0 Y->Rel Y s' a'->Q .normal a' Y.w):(Code.region id ops false).wp P Q a X.w:=by
 obtain⟨o,x,m⟩:=q
 unfold l8 at h
 simp only at h
 cases fO:F7 E o x m ops.toList with
 |false=>rw[fO] at h;cases h
 |true=>
 rw[fO,cond_true] at h
 cases hb:(Nat.ble (o+1) m&&(Nat.ble (x+1) m&&(!(Nat.beq o x)&&Nat.ble (m+13) s.sl.length))) with
 |false=>rw[hb] at h;cases h
 |true=>
 rw[hb,cond_true] at h
 simp only[Bool.and_eq_true,Bool.not_eq_true',Nat.ble_eq] at hb
 obtain⟨hom,hxm,hox,CU⟩:=hb
 split at h
 case h_2=>cases h
 rename_i et xs own y ow2 gI LJ
 cases bT:hM own [] with
 |false=>rw[bT] at h;cases h
 |true=>
 rw[bT,cond_true] at h
 cases uL:(lR o 0 (kK 13 m s.sl)&&s.bs.all Option.isNone) with
 |false=>rw[uL] at h;cases h
 |true=>
 rw[uL,cond_true] at h
 rw[Bool.and_eq_true] at uL
 obtain⟨h0,h1,h⟩:=vW h
 cases h
 generalize hj:IntKind.i64.wrap ((List.length xs:Int)-1)=j at h0 h1
 have hi:j.toNat<xs.length:=by omega
 obtain⟨g,c,cur,hR⟩:=an3 hr gI bT hi
 have c9:m+13<=a.tmps.size:=by rw[<-hr.size];exact CU
 have hy:a.tmps.getD x Go.undef= .int .u8 y:=by
  have jc:=hr.slot x
  rw[LJ] at jc
  exact BE (show aA X (.c x 0) (.aj (.int .u8) y ow2) _ from jc)
 have hgx:xs[j.toNat]? =some (xs.getD j.toNat 0):=by rw[List.getD_eq_getElem?_getD,List.getElem?_eq_getElem hi];rfl
 have xN:=hR.cell _ _ hgx
 unfold F7 at fO
 split at fO
 case h_2=>cases fO
 rename_i o0 o1 o2 o3 o4 o5 o6 o7 o8 o9 o10 o11 o12 o13 iF
 simp only[Bool.and_eq_true] at fO
 obtain⟨k0,k1,k2,k3,k4,k5,k6,k7,k8,k9,k10,k11,k12,k13⟩:=fO
 have cC:∀i,ops[i]? =([o0,o1,o2,o3,o4,o5,o6,o7,o8,o9,o10,o11,o12,o13]:List Oper)[i]? :=fun i=>by rw[<-Array.getElem?_toList,iF]
 have b9:ops.size=14:=by rw[<-Array.length_toList,iF];rfl
 refine wp_region ?_
 rw[b9,show List.range 14=[0,1,2,3,4,5,6,7,8,9,10,11,12,13] from rfl]
 have vo:=hR.val
 generalize x8:(Value.slice (some ⟨g,0,none⟩) xs.length c)=vs at vo
 refine raw (cC 0) (wh (P:=P) k0).1 ((wh k0).2 a X.w) ?_
 rw[vo]
 have e1:=fun i=>oo (i:=i) (v:=vs) (show m<a.tmps.size by omega)
 have r1:=hr.dead m vs
 generalize Ly:a.put (some m) vs=a1 at e1 r1
 have z1:a1.tmps.size=a.tmps.size:=by rw[<-Ly,sH]
 refine raw (cC 1) (wh (P:=P) k1).1 ((wh k1).2 a1 X.w) ?_
 rw[e1,if_neg (by omega),vo]
 have e2:=fun i=>oo (a:=a1) (i:=i) (v:=vs) (show m+1<a1.tmps.size by omega)
 have r2:=r1.dead (m+1) vs
 generalize hp2:a1.put (some (m+1)) vs=a2 at e2 r2
 have z2:a2.tmps.size=a.tmps.size:=by rw[<-hp2,sH,z1]
 refine raw (cC 2) (Xy hE k2).1 ((Xy hE k2).2 a2 X.w _ _ _ (by rw[e2,if_pos rfl];exact x8.symm)) ?_
 have e3:=fun i=>oo (a:=a2) (i:=i) (v:= .int .i64 (xs.length:Nat)) (show m+2<a2.tmps.size by omega)
 have r3:=r2.dead (m+2) (.int .i64 (xs.length:Nat))
 generalize hp3:a2.put (some (m+2)) (.int .i64 (xs.length:Nat))=a3 at e3 r3⊢
 have z3:a3.tmps.size=a.tmps.size:=by rw[<-hp3,sH,z2]
 refine raw (cC 3) (Us (P:=P) k3).1 ((Us k3).2 a3 X.w _ (by rw[e3,if_pos rfl])) ?_
 rw[hj]
 have e4:=fun i=>oo (a:=a3) (i:=i) (v:= .int .i64 j) (show m+3<a3.tmps.size by omega)
 have r4:=r3.dead (m+3) (.int .i64 j)
 generalize hp4:a3.put (some (m+3)) (.int .i64 j)=a4 at e4 r4⊢
 have z4:a4.tmps.size=a.tmps.size:=by rw[<-hp4,sH,z3]
 have q4:∀i,i<m->a4.tmps.getD i Go.undef=a.tmps.getD i Go.undef:=fun i hi=>by rw[e4,if_neg (by omega),e3,if_neg (by omega),e2,if_neg (by omega),e1,if_neg (by omega)]
 have qm:a4.tmps.getD m Go.undef=vs:=by rw[e4,if_neg (by omega),e3,if_neg (by omega),e2,if_neg (by omega),e1,if_pos rfl]
 refine raw (cC 4) (wh (P:=P) k4).1 ((wh k4).2 a4 X.w) ?_
 rw[q4 o (by omega),vo]
 have e5:=fun i=>oo (a:=a4) (i:=i) (v:=vs) (show m+4<a4.tmps.size by omega)
 have r5:=r4.dead (m+4) vs
 generalize hp5:a4.put (some (m+4)) vs=a5 at e5 r5⊢
 have z5:a5.tmps.size=a.tmps.size:=by rw[<-hp5,sH,z4]
 refine raw (cC 5) (wh (P:=P) k5).1 ((wh k5).2 a5 X.w) ?_
 rw[e5,if_neg (by omega),q4 o (by omega),vo]
 have e6:=fun i=>oo (a:=a5) (i:=i) (v:=vs) (show m+5<a5.tmps.size by omega)
 have r6:=r5.dead (m+5) vs
 generalize hp6:a5.put (some (m+5)) vs=a6 at e6 r6⊢
 have z6:a6.tmps.size=a.tmps.size:=by rw[<-hp6,sH,z5]
 refine raw (cC 6) (Xy hE k6).1 ((Xy hE k6).2 a6 X.w _ _ _ (by rw[e6,if_pos rfl];exact x8.symm)) ?_
 have e7:=fun i=>oo (a:=a6) (i:=i) (v:= .int .i64 (xs.length:Nat)) (show m+6<a6.tmps.size by omega)
 have r7:=r6.dead (m+6) (.int .i64 (xs.length:Nat))
 generalize hp7:a6.put (some (m+6)) (.int .i64 (xs.length:Nat))=a7 at e7 r7⊢
 have z7:a7.tmps.size=a.tmps.size:=by rw[<-hp7,sH,z6]
 refine raw (cC 7) (Us (P:=P) k7).1 ((Us k7).2 a7 X.w _ (by rw[e7,if_pos rfl])) ?_
 rw[hj]
 have e8:=fun i=>oo (a:=a7) (i:=i) (v:= .int .i64 j) (show m+7<a7.tmps.size by omega)
 have r8:=r7.dead (m+7) (.int .i64 j)
 generalize hp8:a7.put (some (m+7)) (.int .i64 j)=a8 at e8 r8⊢
 have z8:a8.tmps.size=a.tmps.size:=by rw[<-hp8,sH,z7]
 have q8:∀i,i<=m+3->a8.tmps.getD i Go.undef=a4.tmps.getD i Go.undef:=fun i hi=>by rw[e8,if_neg (by omega),e7,if_neg (by omega),e6,if_neg (by omega),e5,if_neg (by omega)]
 refine raw (cC 8) (ZH hE k8).1 ((ZH hE k8).2 a8 X.w g xs.length c j (by rw[e8,if_neg (by omega),e7,if_neg (by omega),e6,if_neg (by omega),e5,if_pos rfl];exact x8.symm) (by rw[e8,if_pos rfl]) h0 h1) ?_
 have e9:=fun i=>oo (a:=a8) (i:=i) (v:= .pointer (some ⟨g,j.toNat,none⟩)) (show m+8<a8.tmps.size by omega)
 have r9:=r8.dead (m+8) (.pointer (some ⟨g,j.toNat,none⟩))
 generalize hp9:a8.put (some (m+8)) (.pointer (some ⟨g,j.toNat,none⟩))=a9 at e9 r9⊢
 have z9:a9.tmps.size=a.tmps.size:=by rw[<-hp9,sH,z8]
 refine raw (cC 9) (Oo hE k9).1 ((Oo hE k9).2 a9 X.w g j.toNat _ (by rw[e9,if_pos rfl]) xN) ?_
 generalize hwx:xs.getD j.toNat 0=wx
 have Hq:=fun i=>oo (a:=a9) (i:=i) (v:= .int .u8 wx) (show m+9<a9.tmps.size by omega)
 have kR:=r9.dead (m+9) (.int .u8 wx)
 generalize aat:a9.put (some (m+9)) (.int .u8 wx)=Ck at Hq kR⊢
 have z10:Ck.tmps.size=a.tmps.size:=by rw[<-aat,sH,z9]
 refine raw (cC 10) (wh (P:=P) k10).1 ((wh k10).2 Ck X.w) ?_
 rw[Hq,if_neg (by omega),e9,if_neg (by omega),q8 x (by omega),q4 x (by omega),hy]
 have Hr:=fun i=>oo (a:=Ck) (i:=i) (v:= .int .u8 y) (show m+10<Ck.tmps.size by omega)
 have lz:=kR.dead (m+10) (.int .u8 y)
 generalize aau:Ck.put (some (m+10)) (.int .u8 y)=Cl at Hr lz⊢
 have z11:Cl.tmps.size=a.tmps.size:=by rw[<-aau,sH,z10]
 refine raw (cC 11) (P3 (P:=P) k11).1 ((P3 k11).2 Cl X.w wx y (by rw[Hr,if_neg (by omega),Hq,if_pos rfl]) (by rw[Hr,if_pos rfl])) ?_
 generalize hwz:IntKind.u8.wrap (wx+y)=wz
 have e12:=fun i=>oo (a:=Cl) (i:=i) (v:= .int .u8 wz) (show m+11<Cl.tmps.size by omega)
 have lj:=lz.dead (m+11) (.int .u8 wz)
 generalize aav:Cl.put (some (m+11)) (.int .u8 wz)=a12 at e12 lj⊢
 have z12:a12.tmps.size=a.tmps.size:=by rw[<-aav,sH,z11]
 have q12:∀i,i<=m+3->a12.tmps.getD i Go.undef=a4.tmps.getD i Go.undef:=fun i hi=>by rw[e12,if_neg (by omega),Hr,if_neg (by omega),Hq,if_neg (by omega),e9,if_neg (by omega),q8 i hi]
 refine raw (cC 12) (ZH hE k12).1 ((ZH hE k12).2 a12 X.w g xs.length c j (by rw[q12 m (by omega),qm];exact x8.symm) (by rw[q12 (m+3) (by omega),e4,if_pos rfl]) h0 h1) ?_
 have S9:=fun i=>oo (a:=a12) (i:=i) (v:= .pointer (some ⟨g,j.toNat,none⟩)) (show m+12<a12.tmps.size by omega)
 have mP:=lj.dead (m+12) (.pointer (some ⟨g,j.toNat,none⟩))
 generalize ap3:a12.put (some (m+12)) (.pointer (some ⟨g,j.toNat,none⟩))=KR at S9 mP⊢
 have aag:ox X KR o et xs own g c cur:=⟨by rw[S9,if_neg (by omega),q12 o (by omega),q4 o (by omega),hR.val],hR.heap,hR.cell,hR.le,hR.most,hR.size,hR.ow,hR.own⟩
 refine an5 hE k13 (cC 13) (by rw[S9,if_pos rfl]) (by rw[S9,if_neg (by omega),e12,if_pos rfl]) hR.heap (by rw[hR.size];have:=hR.le;omega) ?_
 have aaA:Rel X ⟨kK 13 m s.sl,s.bs⟩ KR:=mP
 obtain⟨hX,bz⟩:=alB hF hx aaA (by rw[Nb];omega) uL.1 uL.2 aag hi wz
 have CK:=hQ _ KR hX (by
  unfold Bz
  rw[hj,hwx,hwz]
  exact bz)
 exact CK
end Go.Ref

namespace Go.Ref
open Go
variable {P:Program} {E:Env} {X:ax} {s:State} {a:Act}
structure oQ(X Y:ax)(g0:Nat):Prop where
 heap:∀b,b≠g0->Y.w.heap[b]? =X.w.heap[b]?
 ow:Y.ow=X.ow
 β:Y.β=X.β
theorem oQ.ay{Y:ax}{g0:Nat}(h:oQ X Y g0){ad:Addr}{v:Value}(bK:ad.block≠g0)(hs:X.ay ad v):Y.ay ad v:=by
 refine⟨hs.1,?_,?_⟩
 ·have:=hs.2.1
  simp only[World.cell?] at this⊢
  rw[h.heap _ bK];exact this
 ·rw[h.ow];exact hs.2.2
theorem PD{own:List (List Nat)}{p:List Nat}(h:hM own p=true):p∈own:=by
 unfold hM at h
 obtain⟨q,h1,h2⟩:=List.any_eq_true.1 h
 have:q=p:=by simpa using h2
 rw[<-this];exact h1
def plS(pl:List Nat->Place):List Nat->Place
 |j::p=>pl ((j+1)::p)
 | []=>pl []
theorem alv{pl:List Nat->Place}{a b:Ty}{x:El (.pair a b)}{c1 c2:List Value}{own:List (List Nat)}(hr:bh X a x.1 c1)(h:bn X pl (.pair a b) x (c1++c2) own):bn X (fun p=>pl (0::p)) a x.1 c1 (SS own [0]):=fun p hp=>by
 unfold SS at hp
 obtain⟨q,hq,rfl⟩:=List.mem_map.1 hp
 obtain⟨hq,gH⟩:=List.mem_filter.1 hq
 match q,gH with
 |0::q,_=>
  obtain⟨e,t',xs,v,g0,g1,g2,g3⟩:=h (0::q) hq
  have g2:(c1++c2)[a.off q]? =some v:=g2
  refine⟨e,t',xs,v,g0,g1,?_,g3⟩
  show c1[a.off q]? =some v
  rw[<-g2,List.getElem?_append_left]
  obtain⟨_,k2,_⟩:=Sb hr (show a.fa q from g0) (show El.get a q x.1=_ from g1)
  have k2:a.off q+1<=a.cells:=k2
  have:=hr.len
  omega
 | [],gH=>simp at gH
 |(j+1)::q,gH=>simp at gH
theorem alw{pl:List Nat->Place}{a b:Ty}{x:El (.pair a b)}{c1 c2:List Value}{own:List (List Nat)}(hl:c1.length=a.cells)(h:bn X pl (.pair a b) x (c1++c2) own):bn X (plS pl) b x.2 c2 (xI own):=fun p hp=>by
 unfold xI at hp
 obtain⟨q,hq,he⟩:=List.mem_filterMap.1 hp
 match q,he with
 |(j+1)::q,he=>
  cases he
  obtain⟨e,t',xs,v,g0,g1,g2,g3⟩:=h ((j+1)::q) hq
  refine⟨e,t',xs,v,g0,g1,?_,g3⟩
  have g2:(c1++c2)[a.cells+b.off (j::q)]? =some v:=g2
  rw[List.getElem?_append_right (by omega)] at g2
  rw[<-g2]
  congr 1
  omega
 | [],he=>cases he
 |0::q,he=>cases he
theorem bn.Md{Y:ax}{g0:Nat}(h:oQ X Y g0){pl:List Nat->Place}(gk:∀p n,X.ow g0≠ .row (pl p) n){t:Ty}{x:El t}{cs:List Value}{own:List (List Nat)}(ho:bn X pl t x cs own):bn Y pl t x cs own:=fun p hp=>by
 obtain⟨e,t',xs,v,k0,k1,k2,k3⟩:=ho p hp
 refine⟨e,t',xs,v,k0,k1,k2,?_⟩
 rcases k3 with ho|⟨g,cap,cur,h1,h2,h3,h4,h5,h6⟩
 ·exact .inl ho
 ·have bK:g≠g0:=fun e=>gk p _ (e▸h6)
  exact .inr ⟨g,cap,cur,h1,(h.heap g bK).trans h2,h3,h4,h5,by rw[h.ow];exact h6⟩
theorem bh.cM{Y:ax}{g0:Nat}(h:oQ X Y g0):∀{t:Ty} {x:El t} {cs:List Value} {own:List (List Nat)} {pl:List Nat->Place},(∀p n,X.ow g0≠ .row (pl p) n)->t.cM own=true->bh X t x cs->bn X pl t x cs own->bh Y t x cs
 | .bool,_,_,_,_,_,_,hr,_=>hr
 | .int _,_,_,_,_,_,_,hr,_=>hr
 | .str,_,_,_,_,_,_,hr,_=>hr
 | .unit,_,_,_,_,_,_,hr,_=>hr
 | .aF _ _ _,_,_,_,_,_,hs,_,_=>by cases hs
 | .arr n t,xs,cs,own,pl,_,hs,hr,_=>bh.flat (t:= .arr n t) (show t.flat=true from hs) hr
 | .pair a b,x,cs,own,pl,gk,hs,hr,ho=>by
   have hs:(a.cM (SS own [0])&&b.cM (xI own))=true:=hs
   rw[Bool.and_eq_true] at hs
   obtain⟨c1,c2,h1,h2,h3⟩:=hr
   subst h1
   exact⟨c1,c2,rfl,bh.cM h (pl:=fun p=>pl (0::p)) (fun p n=>gk _ n) hs.1 h2 (alv h2 ho),bh.cM h (pl:=plS pl) (fun p n=>by cases p<;>exact gk _ n) hs.2 h3 (alw h2.len ho)⟩
 | .sl e t,xs,cs,own,pl,gk,hs,hr,ho=>by
   have hs:(t.flat&&hM own [])=true:=hs
   rw[Bool.and_eq_true] at hs
   obtain⟨A,c,eU,hle,fX⟩:=hr
   subst eU
   refine⟨A,c,rfl,hle,fun j x hj=> ?_⟩
   obtain⟨ad,eZ,e1,e2,e3,e4⟩:=fX j x hj
   subst e1
   refine⟨ad,eZ,rfl,e2,e3.flat hs.1,fun i v hi=>h.ay ?_ (e4 i v hi)⟩
   obtain⟨e1,t1,xs1,v1,_,hg,hc,cj⟩:=ho [] (PD hs.2)
   simp only[El.get,Option.some.injEq] at hg
   cases hg
   have Be:v1= .slice (some ad) xs.length c:=by
    have:([Value.slice (some ad) xs.length c]:List Value)[0]? =some v1:=hc
    simpa using this.symm
   subst Be
   rcases cj with⟨h0,_⟩|⟨g,cap,cur,h1,h2,h3,h4,h5,h6⟩
   ·cases h0
   ·injection h1 with k1 k2 k3
    cases k1
    rw[jq]
    intro e
    have e:g=g0:=e
    exact gk [] _ (e▸h6)
theorem aA.cM{Y:ax}{g0:Nat}(h:oQ X Y g0){pl:List Nat->Place}(gk:∀p n,X.ow g0≠ .row (pl p) n){bs:List (Option bD)}{sv:SV}{v:Value}(hs:sv.cM bs=true)(hr:aA X pl sv v):aA Y pl sv v:=by
 cases sv with
 |aj t x own=>
  obtain⟨cs,h1,h2,h3⟩:=hr
  exact⟨cs,h1.cM h gk hs h3,h2,h3.Md h gk⟩
 |undef=>trivial
 |skip=>exact hr
 |cJ=>exact hr
 |eh=>exact hr
 |over=>exact hr
 |ptr id t p=>
  obtain⟨r,h1,h2⟩:=hr
  exact⟨r,by rw[h.β];exact h1,h2⟩
 |_=>cases hs
theorem aeC{bs:List (Option bD)}{id:Nat}{B:bD}(h:(bs.map ZU)[id]? =some (some B)):bs[id]? =some (some B)/\B.cM=true:=by
 rw[List.getElem?_map] at h
 obtain⟨b0,h0,h1⟩:=Option.map_eq_some_iff.1 h
 cases b0 with
 |none=>cases h1
 |some B0=>
  unfold ZU at h1
  simp only at h1
  cases hb:B0.cM with
  |false=>rw[hb] at h1;cases h1
  |true=>rw[hb] at h1;cases h1;exact⟨h0,hb⟩
structure ZW(X:ax)(o:Nat)(e:TypeId)(k n:Nat)(v:Value)(g c:Nat)(cur:Array Value):Prop where
 val:v= .slice (some ⟨g,0,none⟩) n c
 heap:X.w.heap[g]? =some (.cells cur e (0,0))
 le:n<=c
 size:cur.size=c*k
 ow:X.ow g= .row (.c o 0 []) (n*k)
theorem L6{o:Nat}{e:TypeId}{t:Ty}{xs:List (El t)}{own:List (List Nat)}(hr:Rel X s a)(hs:s.slot o=[.aj (.sl e t) xs own])(bT:hM own []=true){i:Nat}(hi:i<xs.length):∃g c cur,ZW X o e t.cells xs.length (a.tmps.getD o Go.undef) g c cur:=by
 have jc:=hr.slot o
 rw[hs] at jc
 obtain⟨cs,aM,hv,hO⟩:=(show aA X (.c o 0) (.aj (.sl e t) xs own) (a.tmps.getD o Go.undef) from jc)
 obtain⟨e1,t1,xs1,v1,_,hg,hc,cj⟩:=hO [] (PD bT)
 simp only[El.get,Option.some.injEq] at hg
 cases hg
 obtain⟨A,c,eU,hle,fX⟩:=aM
 subst eU
 have hv:a.tmps.getD o Go.undef= .slice A xs.length c:=hv
 have Be:v1= .slice A xs.length c:=by
  have:([Value.slice A xs.length c]:List Value)[0]? =some v1:=hc
  simpa using this.symm
 subst Be
 rcases cj with⟨_,h0⟩|⟨g,cap,cur,h1,h2,h3,h4,h5,h6⟩
 ·have h0:List.length xs=0:=h0
  omega
 injection h1 with k1 k2 k3
 subst k1 k3
 exact⟨g,c,cur,hv,h2,hle,h5,h6⟩
theorem OK{g:Nat}{new:Array Value}:oQ X (X.row g new) g:=⟨fun b hb=>setRow_other X.w g b _ hb,rfl,rfl⟩
theorem alH{X0:ax}(hF:∀g pl n,X0.ow g≠ .row pl n)(hx:Ext X0 X){g m:Nat}{pl:Place}{new:Array Value}(how:X.ow g= .row pl m):Ext X0 (X.row g new):=by
 have dw:∀b,b≠g->(X.row g new).w.heap[b]? =X.w.heap[b]? :=fun b hb=>setRow_other X.w g b _ hb
 have og:∀ad v,X0.ay ad v->ad.block≠g:=fun ad v eJ e0=>by
  have al:=ax.jk eJ
  have hu:=eJ.2.2
  cases hw:X0.ow ad.block with
  |all=>have:=(hx.still ad.block al (by rw[hw];trivial)).1;rw[e0,how] at this;rw[<-e0,hw] at this;cases this
  |ro n=>have:=(hx.still ad.block al (by rw[hw];trivial)).1;rw[e0,how] at this;rw[<-e0,hw] at this;cases this
  |box id=>rw[hw] at hu;exact hu
  |row pl n=>exact hF _ _ _ hw
 refine⟨fun ad v eJ=>OK.ay (og ad v eJ) (hx.ay ad v eJ),?_,hx.os,hx.tape,hx.output,hx.β0,fun b hb bQ=> ?_⟩
 ·have:=hx.size
  simpa [ax.row] using this
 ·have h7:=hx.still b hb bQ
  have bK:b≠g:=fun e0=>by
   have h8:=h7.1
   rw[e0,how] at h8
   rw[e0,<-h8] at bQ
   exact bQ
  exact⟨h7.1,(dw b bK).trans h7.2⟩
theorem ah9(hr:Rel X s a){x g m:Nat}{new:Array Value}(how:X.ow g= .row (.c x 0 []) m):Rel (X.row g new) (s.cM x) a:=by
 have hB:oQ X (X.row g new) g:=OK
 refine⟨by simpa [State.cM] using hr.size,by simpa [State.cM] using hr.ia,fun j l v hl hv=> ?_,fun id B hb=> ?_,fun j l id t p hl hm=> ?_,hr.defers,fun j l id c b k hl hm=> ?_⟩
 ·simp only[State.cM,List.getElem?_map] at hl
  obtain⟨l0,h0,rfl⟩:=Option.map_eq_some_iff.1 hl
  unfold hold
  cases cW:l0.all (SV.cM s.bs) with
  |false=>trivial
  |true=>
   rw[cond_true]
   rw[List.getElem?_set] at h0
   by_cases hxj:x=j
   ·subst hxj
    rw[if_pos rfl] at h0
    split at h0
    ·cases h0;trivial
    ·cases h0
   ·rw[if_neg hxj] at h0
    exact(hr.bR j l0 v h0 hv).jx fun k sv u hk hu=>hu.cM hB (fun p n e=>by rw[how] at e;injection e with e _;injection e with e _;exact hxj e) (List.all_eq_true.1 cW sv (List.mem_of_getElem? hk))
 ·obtain⟨h1,h2⟩:=aeC hb
  obtain⟨r,k1,k2⟩:=hr.boxes id B h1
  unfold bD.cM at h2
  rw[Bool.and_eq_true] at h2
  have eI:B.t.bH=false:=by simpa using h2.1
  obtain⟨cs,T,aE,aM,pa,bT⟩:=k2.cells eI
  have bK:r≠g:=fun e=>by rw[e,how] at pa;cases pa
  have gk:∀p n,X.ow g≠ .row (.b id p) n:=fun p n e=>by rw[how] at e;injection e with e _;cases e
  exact⟨r,k1,by rw[hB.ow];exact pa,dK.of eI ((hB.heap r bK).trans aE) (aM.cM hB gk h2.2 bT) (bT.Md hB gk)⟩
 ·simp only[State.cM,List.getElem?_map] at hl
  obtain⟨l0,h0,rfl⟩:=Option.map_eq_some_iff.1 hl
  unfold hold at hm
  cases cW:l0.all (SV.cM s.bs) with
  |false=>rw[cW] at hm;simp at hm
  |true=>
   rw[cW,cond_true] at hm
   have h1:=List.all_eq_true.1 cW _ hm
   unfold SV.cM at h1
   simp only at h1
   split at h1
   case h_2=>cases h1
   rename_i B hB
   have hb:=rh (s:=s) hB
   exact⟨B,by simp only[State.cM,List.getElem?_map,hb,Option.map_some,ZU,h1,cond_true]⟩
 ·exfalso
  simp only[State.cM,List.getElem?_map] at hl
  obtain⟨l0,h0,rfl⟩:=Option.map_eq_some_iff.1 hl
  unfold hold at hm
  cases cW:l0.all (SV.cM s.bs) with
  |false=>rw[cW] at hm;simp at hm
  |true=>
   rw[cW,cond_true] at hm
   have:=List.all_eq_true.1 cW _ hm
   cases this
theorem zwc{α:Type}:∀{l r:List α} {x y:α},Xx l=some (r,x,y)->l=r++ [x,y]
 | [],_,_,_,h=>by cases h
 | [_],_,_,_,h=>by cases h
 | [a,b],_,_,_,h=>by cases h;rfl
 |a::b::c::r,_,_,_,h=>by
  simp only[Xx] at h
  split at h
  case h_2=>cases h
  rename_i l x y hl
  cases h
  have:=zwc (l:=b::c::r) hl
  rw[this];rfl
theorem zro(hE:ak P E){C:ag}(hC:C.Nat)(hf:∀f,de P C f){ops:Array Oper}{s':State}{Q:Exit->Act->World->Prop}{rest:List Nat}:∀(l:List Nat) (X:ax) (s:State) (a:Act),Rel X s a->(∀i∈l,i<ops.size)->
 steps E (C State) ops.toList (l.map fun i=>ops.getD i default) s some=some s'->(∀Y a',Ext X Y->Rel Y s' a'->wpOps P ops Q rest a' Y.w)->wpOps P ops Q (l++rest) a X.w
 | [],X,s,a,hr,_,h,hQ=>by
   cases h
   exact hQ X a (Ext.refl X) hr
 |i::r,X,s,a,hr,hl,h,hQ=>by
  simp only[List.map_cons,steps] at h
  obtain⟨s1,h1,h2⟩:=kf (zrn hC (F:=fun s=>steps E (C State) ops.toList (r.map fun i=>ops.getD i default) s some) (G:=some) (K:=fun s=>steps E (C State) ops.toList (r.map fun i=>ops.getD i default) s some) (fun _=>rfl)) h
  have hi:ops[i]? =some (ops.getD i default):=by
   have:=hl i (by simp)
   simp [this]
  rw[List.cons_append,wpOps_cons]
  refine XC hE hr hC hf hi h1 fun Y a' aY bz=> ?_
  exact zro hE hC hf r Y s1 a' bz (fun j hj=>hl j (List.mem_cons_of_mem _ hj)) h2 fun Z a2 cf dg=>hQ Z a2 (aY.trans cf) dg
theorem alA(hE:ak P E){X0:ax}(hF:∀g pl n,X0.ow g≠ .row pl n)(hx:Ext X0 X)(hr:Rel X s a){ops:Array Oper}{k l:Nat}{oA oS:Oper}(hA:ops[k]? =some oA)(hS:ops[l]? =some oS){s':State}(h:jP E oA oS s some=some s'){Q:Exit->Act->World->Prop}(hQ:∀Y a',Ext X0 Y->Rel Y s' a'->Q .normal a' Y.w):wpOps P ops Q [k,l] a X.w:=by
 unfold jP at h
 split at h
 case h_2=>cases h
 rename_i T x i T' d vo hoA hoS
 cases fO:(isDst oA d&&(!(Nat.beq x d)&&lY oS)) with
 |false=>rw[fO] at h;cases h
 |true=>
 rw[fO,cond_true] at h
 rw[Bool.and_eq_true,Bool.and_eq_true] at fO
 obtain⟨hd,hxd,lS⟩:=fO
 have lS:oS.dst=none/\oS.guard=none:=by
  unfold lY at lS
  split at lS
  ·exact⟨by assumption,by assumption⟩
  ·cases lS
 have hxd:x≠d:=fun e=>by rw[e] at hxd;simp at hxd
 unfold vp at h
 split at h
 case h_2=>cases h
 rename_i e t xs own LJ
 cases hb:hM own [] with
 |false=>rw[hb] at h;cases h
 |true=>
 rw[hb,cond_true] at h
 split at h
 case h_2=>cases h
 rename_i u w hT vQ
 cases hu:(u.cq (.sl e t)&&(w.cq t&&Nat.ble (d+1) s.sl.length)) with
 |false=>rw[hu] at h;cases h
 |true=>
 rw[hu,cond_true] at h
 rw[Bool.and_eq_true,Bool.and_eq_true] at hu
 have:=Ty.aI hu.1
 subst this
 have:=Ty.aI hu.2.1
 subst this
 have hds:d<a.tmps.size:=by rw[<-hr.size];exact Nat.le_of_ble_eq_true hu.2.2
 obtain⟨n,kk,h,hn⟩:=zrd h
 obtain⟨y,h,hy⟩:=zz h
 obtain⟨h0,h1,h⟩:=vW h
 cases h
 have hi:n.toNat<xs.length:=by omega
 obtain⟨g,c,cur,hR⟩:=L6 hr LJ hb hi
 have dv:=hn X _ _ (hr.aG i)
 have hU:=hE.ty T _ hT
 have ev:a.eval (.tmp x)= .slice (some ⟨g,0,none⟩) xs.length c:=hR.val
 have u7:(execOp a.eval oA).run P X.w= .ok (.value (.pointer (some ⟨g,n.toNat*w.cells,none⟩))) X.w:=by
  have al:n<(xs.length:Int):=h1
  simp only[execOp,hoA,Sem.run_bind,Instr.indexAt,dv,ev,asIntOf,Sem.run_pure,Result.andThen_ok,run_underlying hU.dC.1,Sem.run_ite,h0,al,and_self,if_true,l9 hE hU.dC.2]
  simp [jq]
 refine raw hA hd u7 ?_
 have ea:Rel X (s.av (some d) [.undef]) (a.put (some d) (.pointer (some ⟨g,n.toNat*w.cells,none⟩))):=hr.put (fun _ _=>trivial) (fun id t p hm=>by simp at hm)
 have evd:(a.put (some d) (.pointer (some ⟨g,n.toNat*w.cells,none⟩))).eval (.tmp d)= .pointer (some ⟨g,n.toNat*w.cells,none⟩):=by
  show(a.put (some d) _).tmps.getD d Go.undef=_
  rw[oo hds,if_pos rfl]
 generalize a.put (some d) (.pointer (some ⟨g,n.toNat*w.cells,none⟩))=a1 at ea evd⊢
 obtain⟨cs,l6,evy⟩:=hy X _ _ (ea.aG vo)
 have hle:(n.toNat+1)*w.cells<=c*w.cells:=Nat.mul_le_mul_right _ (by have:=hR.le;omega)
 rw[Nat.add_mul,Nat.one_mul] at hle
 have bQ:=HL (P:=P) hE vQ l6 (r:=g) (off:=n.toNat*w.cells) (w:=X.w) hR.heap (by rw[hR.size];exact hle)
 rw[wpOps_cons]
 unfold wpOp
 simp only[hS]
 have hw:Region.wanted oS (yielded ops a1.tmps)=true:=by simp [Region.wanted,lS.2]
 rw[if_pos hw]
 refine .inl ?_
 unfold Oper.wp
 generalize iE:(cur.toList.take (n.toNat*w.cells)++cs++cur.toList.drop (n.toNat*w.cells+cs.length)).toArray=new at bQ
 have aX:(execOp a1.eval oS).run P X.w= .ok .skip (X.row g new).w:=by
  simp only[execOp,hoS,Sem.run_bind,Instr.storeAt,evd,Instr.sureAddr,Sem.run_pure,Result.andThen_ok,evy,bQ]
  rfl
 rw[aX,Oper.upon_skip,lS.1]
 exact hQ _ a1 (alH hF hx hR.ow) (ah9 ea hR.ow)
theorem ahT(hE:ak P E){C:ag}(hC:C.Nat)(hf:∀f,de P C f){X0:ax}(hF:∀g pl n,X0.ow g≠ .row pl n)(hx:Ext X0 X)(hr:Rel X s a){id:Nat}{ops:Array Oper}{s':State}(h:l5 E (C State) ops.toList s some=some s'){Q:Exit->Act->World->Prop}(hQ:∀Y a',Ext X0 Y->Rel Y s' a'->Q .normal a' Y.w):(Code.region id ops false).wp P Q a X.w:=by
 unfold l5 at h
 split at h
 case h_2=>cases h
 rename_i l oA oS hl
 obtain⟨s1,h1,h2⟩:=kf (Gm hC (F:=fun s=>jP E oA oS s some) (G:=some) (K:=fun s=>jP E oA oS s some) (fun _=>rfl) l s) h
 have iF:=zwc hl
 have b9:ops.size=l.length+2:=by rw[<-Array.length_toList,iF];simp
 refine wp_region ?_
 have kF:List.range ops.size=List.range l.length++ [l.length,l.length+1]:=by
  rw[b9,List.range_succ,List.range_succ,List.append_assoc];rfl
 rw[kF]
 have hA:ops[l.length]? =some oA:=by rw[<-Array.getElem?_toList,iF,List.getElem?_append_right (Nat.le_refl _),Nat.sub_self];rfl
 have hS:ops[l.length+1]? =some oS:=by rw[<-Array.getElem?_toList,iF,List.getElem?_append_right (by omega),Nat.add_sub_cancel_left];rfl
 have lu:(List.range l.length).map (fun i=>ops.getD i default)=l:=by
  apply List.ext_getElem?
  intro i
  rw[List.getElem?_map]
  by_cases hi:i<l.length
  ·have h3:ops[i]? =l[i]? :=by rw[<-Array.getElem?_toList,iF,List.getElem?_append_left hi]
   have h4:i<ops.size:=by omega
   rw[List.getElem?_range hi,<-h3]
   simp [h4]
  ·rw[List.getElem?_eq_none (by simpa using hi),List.getElem?_eq_none (by omega)];rfl
 refine zro hE hC hf (List.range l.length) X s a hr (fun i hi=>by have:=List.mem_range.1 hi;omega) (by rw[lu];exact h1) fun Y a' aY bz=> ?_
 exact alA hE hF (hx.trans aY) bz hA hS h2 hQ
end Go.Ref

namespace Go.Ref
open Go
variable {P:Program} {E:Env} {X:ax} {s:State} {a:Act}
theorem ab7{ops:Array Oper}{Q:Exit->Act->World->Prop}{i d:Nat}{rest:List Nat}{a:Act}{w w':World}{o:Oper}{v:Value}(hi:ops[i]? =some o)(hd:isDst o d=true)(aX:(execOp a.eval o).run P w= .ok (.value v) w')(K:wpOps P ops Q rest (a.put (some d) v) w'):wpOps P ops Q (i::rest) a w:=by
 have lS:o.dst=some d/\o.guard=none:=by
  unfold isDst at hd
  split at hd
  ·rename_i d' h1 h2
   exact⟨by rw[h1,Nat.eq_of_beq_eq_true hd],h2⟩
  ·cases hd
 rw[wpOps_cons]
 unfold wpOp
 simp only[hi]
 have hw:Region.wanted o (yielded ops a.tmps)=true:=by simp [Region.wanted,lS.2]
 rw[if_pos hw]
 refine .inl ?_
 unfold Oper.wp
 rw[aX,Oper.upon_value,lS.1]
 exact K
theorem zin{α:Type}:∀{l r:List α} {x y z:α},T7 l=some (r,x,y,z)->l=r++ [x,y,z]
 | [],_,_,_,_,h=>by cases h
 | [_],_,_,_,_,h=>by cases h
 | [_,_],_,_,_,_,h=>by cases h
 | [a,b,c],_,_,_,_,h=>by cases h;rfl
 |a::b::c::d::r,_,_,_,_,h=>by
  simp only[T7] at h
  split at h
  case h_2=>cases h
  rename_i l x y z hl
  cases h
  have:=zin (l:=b::c::d::r) hl
  rw[this];rfl
theorem Rel.kill(hr:Rel X s a)(d:Nat):Rel X (s.av (some d) [.undef]) a:=by
 have eL:∀(i:Nat) (l:List SV),(s.av (some d) [.undef]).sl[i]? =some l->l=[.undef]\/s.sl[i]? =some l:=fun i l hi=>by
  simp only[State.av,List.getElem?_set] at hi
  split at hi
  ·split at hi
   ·cases hi;exact .inl rfl
   ·cases hi
  ·exact .inr hi
 refine⟨by simpa [State.av] using hr.size,by simpa [State.av] using hr.ia,fun i l v hi hv=> ?_,hr.boxes,fun i l id t p hi hm=> ?_,hr.defers,hr.bA.less (fun i l id c b j hi hm=> ?_) (fun id c b x own _ hb ho=>⟨x,own,hb,ho⟩)⟩
 ·rcases eL i l hi with rfl|hi
  ·trivial
  ·exact hr.bR i l v hi hv
 ·rcases eL i l hi with rfl|hi
  ·simp at hm
  ·exact hr.live i l id t p hi hm
 ·rcases eL i l hi with rfl|hi
  ·simp at hm
  ·exact⟨l,hi,hm,fun h=>h⟩
theorem aaI{P:Program}{fs:Array Field}(h:∀f∈fs.toList,∃i,P.info? f.type=some i):∃places,fs.toList.mapM (fun(f:Field)=>(P.info? f.type).map fun i=>(f.offset,i.size))=some places/\∀(j:Nat) (f:Field) i,fs.toList[j]? =some f->P.info? f.type=some i->places[j]? =some (f.offset,i.size):=by
 generalize fs.toList=l at h
 induction l with
 |nil=>exact⟨[],rfl,fun j f i hj=>by simp at hj⟩
 |cons f r ih=>
  obtain⟨i,hi⟩:=h f (by simp)
  obtain⟨places,h1,h2⟩:=ih fun f hf=>h f (List.mem_cons_of_mem _ hf)
  refine⟨(f.offset,i.size)::places,by simp [List.mapM_cons,hi,h1],fun j g k hj hg=> ?_⟩
  cases j with
  |zero=>
   simp only[List.getElem?_cons_zero,Option.some.injEq] at hj
   subst hj
   rw[hi] at hg
   cases hg
   rfl
  |succ j=>exact h2 j g k (by simpa using hj) hg
theorem agP(hE:ak P E){T:TypeId}{ta tb:Ty}(hT:E.gr T=some (ta,tb)){y:El ta}{cs:List Value}(hr:bh X ta y cs)(w:World):(Instr.build T #[(0,eb ta cs)]).run P w= .ok (.agg (cs++ [Value.pointer none,Value.pointer none,Value.int .i64 0]).toArray) w:=by
 obtain⟨fs,f0,hu,hf0,xX,ht0,cW⟩:=hE.g3 T ta tb hT
 obtain⟨i,hi,hz⟩:=hE.gz T ta tb hT
 obtain⟨places,Ly,hp2⟩:=aaI (P:=P) (fs:=fs) cW
 obtain⟨i0,CQ,fF,_⟩:=(hE.ty _ _ ht0).info
 have gk:places[0]? =some (f0.offset,i0.size):=hp2 0 f0 i0 (by rw[Array.getElem?_toList];exact hf0) CQ
 have hmc:=vZ hr
 have fM:=hr.len
 have LQ:=vE ta
 refine run_build w T _ _ ?_
 unfold Program.built
 simp only[hi,hu,hz,Ly]
 have LP:(Value.agg (zp ta++ [Value.pointer none,Value.pointer none,Value.int .i64 0]).toArray).cells=(zp ta++ [Value.pointer none,Value.pointer none,Value.int .i64 0]).toArray:=rfl
 simp only[LP,Instr.fill,List.getElem?_toArray,gk,xX,fF,hmc]
 rw[if_neg (by simp;omega)]
 have lT:=zra 0 cs (zp ta++ [Value.pointer none,Value.pointer none,Value.int .i64 0]).toArray (by simp;omega)
 congr 1
 apply Array.toList_inj.1
 rw[lT]
 simp only[List.take_zero,List.nil_append,Nat.zero_add]
 rw[fM,<-LQ,List.drop_left]
theorem anZ(hE:ak P E){X0:ax}(hx:Ext X0 X)(hr:Rel X s a){ops:Array Oper}{k:Nat}{oB oX oA:Oper}(hB:ops[k]? =some oB)(hX:ops[k+1]? =some oX)(hA:ops[k+2]? =some oA){s':State}(h:ss E oB oX oA s some=some s'){Q:Exit->Act->World->Prop}(hQ:∀Y a',Ext X0 Y->Rel Y s' a'->Q .normal a' Y.w):wpOps P ops Q [k,k+1,k+2] a X.w:=by
 unfold ss at h
 split at h
 case h_2=>cases h
 rename_i T parts T' e1 e2 hoB hoX hoA
 split at h
 case h_2=>cases h
 rename_i d1 d2 d3 CI oc hd3
 cases fO:(Nat.beq T T'&&(Nat.beq d1 e1&&(Nat.beq d2 e2&&(isDst oB d1&&(isDst oX d2&&(isDst oA d3&&(Nat.ble (d1+1) s.sl.length&&Nat.ble (d2+1) s.sl.length))))))) with
 |false=>rw[fO] at h;cases h
 |true=>
 rw[fO,cond_true] at h
 simp only[Bool.and_eq_true] at fO
 obtain⟨hTT,xO,xP,hB1,hX1,hA1,C1,sX⟩:=fO
 have hTT:=Nat.eq_of_beq_eq_true hTT
 have xO:=Nat.eq_of_beq_eq_true xO
 have xP:=Nat.eq_of_beq_eq_true xP
 subst hTT xO xP
 split at h
 case h_2=>cases h
 rename_i x ta tb pd CN
 obtain⟨y,h,hy⟩:=zz h
 split at h
 case h_2=>cases h
 rename_i jH
 cases h
 have pd:parts= #[(0,x)]:=by rw[<-Array.toArray_toList (xs:=parts),pd]
 subst pd
 obtain⟨cs,l6,evx⟩:=hy X _ _ (hr.aG x)
 have aaD:d1<a.tmps.size:=by rw[<-hr.size];exact Nat.le_of_ble_eq_true C1
 have x7:d2<a.tmps.size:=by rw[<-hr.size];exact Nat.le_of_ble_eq_true sX
 have LF:(execOp a.eval oB).run P X.w= .ok (.value (.agg (cs++ [Value.pointer none,Value.pointer none,Value.int .i64 0]).toArray)) X.w:=by
  have:=agP (X:=X) hE CN l6 X.w
  simp only[execOp,hoB,Sem.run_bind]
  have e:(#[((0:Nat),x)].map fun(i,x)=>(i,a.eval x))= #[(0,eb ta cs)]:=by simp [evx]
  rw[e,this]
  rfl
 refine raw hB hB1 LF ?_
 have ea:Rel X (s.av (some d1) [.undef]) (a.put (some d1) (.agg (cs++ [Value.pointer none,Value.pointer none,Value.int .i64 0]).toArray)):=hr.put (fun _ _=>trivial) (fun id t p hm=>by simp at hm)
 have Ta:(a.put (some d1) (.agg (cs++ [Value.pointer none,Value.pointer none,Value.int .i64 0]).toArray)).eval (.tmp d1)= .agg (cs++ [Value.pointer none,Value.pointer none,Value.int .i64 0]).toArray:=by
  show(a.put (some d1) _).tmps.getD d1 Go.undef=_
  rw[oo aaD,if_pos rfl]
 have Tr:(a.put (some d1) (.agg (cs++ [Value.pointer none,Value.pointer none,Value.int .i64 0]).toArray)).tmps.size=a.tmps.size:=sH
 generalize a.put (some d1) (.agg (cs++ [Value.pointer none,Value.pointer none,Value.int .i64 0]).toArray)=a1 at ea Ta Tr⊢
 let β:Nat->Option Nat:=fun id=>if id=d2+1 then some X.w.heap.size else X.β id
 have K6:(s.av (some d1) [.undef]).bs[d2+1]? =some none:=jH
 have al:d2+1<s.bs.length:=(List.getElem?_eq_some_iff.1 jH).1
 have hk:fj (s.av (some d1) [.undef]) X (X.new (cs++ [Value.pointer none,Value.pointer none,Value.int .i64 0]).toArray T (.box (d2+1)) β):=Rm X _ _ _ _ _ (by show(if _ then _ else _)=_;rw[if_neg (by omega)]) (fun id B hB=>by
  show(if id=d2+1 then _ else _)=_
  rw[if_neg (fun e=>by rw[e,K6] at hB;cases hB)])
 obtain⟨n1,n2⟩:=Rc X (cs++ [Value.pointer none,Value.pointer none,Value.int .i64 0]).toArray T (.box (d2+1)) β
 have LH:(execOp a1.eval oX).run P X.w= .ok (.value (.pointer (some ⟨X.w.heap.size,0,none⟩))) (X.new (cs++ [Value.pointer none,Value.pointer none,Value.int .i64 0]).toArray T (.box (d2+1)) β).w:=by
  simp only[execOp,hoX,Sem.run_bind,Instr.box,Ta,QW,Result.andThen_ok,Sem.run_pure]
  rfl
 refine ab7 hX hX1 LH ?_
 have bJ:bE (X.new (cs++ [Value.pointer none,Value.pointer none,Value.int .i64 0]).toArray T (.box (d2+1)) β) (d2+1) X.w.heap.size ⟨.aF .bC ta tb,(y,(none,none),(0:Int)),[]::lC⟩:=
  ⟨n2,⟨_,n1⟩,fun _=>⟨cs,.pointer none,.pointer none,T,n1,l6.ai (fun _ _=>hk.ay),rfl,rfl⟩⟩
 have hβd:β (d2+1)=some X.w.heap.size:=by show(if d2+1=d2+1 then _ else _)=_;rw[if_pos rfl]
 have fp:=((ea.dF hk).fR (d:=d2+1) al K6 hβd bJ).dead d2 (.pointer (some ⟨X.w.heap.size,0,none⟩))
 have ev2:(a1.put (some d2) (.pointer (some ⟨X.w.heap.size,0,none⟩))).eval (.tmp d2)= .pointer (some ⟨X.w.heap.size,0,none⟩):=by
  show(a1.put (some d2) _).tmps.getD d2 Go.undef=_
  rw[oo (show d2<a1.tmps.size by rw[Tr];exact x7),if_pos rfl]
 generalize a1.put (some d2) (.pointer (some ⟨X.w.heap.size,0,none⟩))=a2 at fp ev2⊢
 have u7:(execOp a2.eval oA).run P (X.new (cs++ [Value.pointer none,Value.pointer none,Value.int .i64 0]).toArray T (.box (d2+1)) β).w= .ok (.value (.pointer (some ⟨X.w.heap.size,0,none⟩))) (X.new (cs++ [Value.pointer none,Value.pointer none,Value.int .i64 0]).toArray T (.box (d2+1)) β).w:=by
  simp only[execOp,hoA,Sem.run_bind,ev2,Sem.run_pure,Result.andThen_ok]
 refine raw hA hA1 u7 ?_
 refine hQ (X.new _ T (.box (d2+1)) β) _ (hx.trans hk.ext) (fp.put (fun d' e=> ?_) fun id t p hm=> ?_)
 ·exact⟨X.w.heap.size,hβd,rfl,trivial⟩
 ·have:id=d2+1:=by have:=hm;simp at this;exact this.1
  subst this
  exact⟨⟨.aF .bC ta tb,(y,(none,none),(0:Int)),[]::lC⟩,by simp [State.aB,State.av,Ref.dead,List.getElem?_set,al]⟩
theorem ali(hE:ak P E){C:ag}(hC:C.Nat)(hf:∀f,de P C f){X0:ax}(hx:Ext X0 X)(hr:Rel X s a){id:Nat}{ops:Array Oper}{s':State}(h:HG E (C State) ops.toList s some=some s'){Q:Exit->Act->World->Prop}(hQ:∀Y a',Ext X0 Y->Rel Y s' a'->Q .normal a' Y.w):(Code.region id ops false).wp P Q a X.w:=by
 unfold HG at h
 split at h
 case h_2=>cases h
 rename_i l oB oX oA hl
 obtain⟨s1,h1,h2⟩:=kf (Gm hC (F:=fun s=>ss E oB oX oA s some) (G:=some) (K:=fun s=>ss E oB oX oA s some) (fun _=>rfl) l s) h
 have iF:=zin hl
 have b9:ops.size=l.length+3:=by rw[<-Array.length_toList,iF];simp
 refine wp_region ?_
 have kF:List.range ops.size=List.range l.length++ [l.length,l.length+1,l.length+2]:=by
  rw[b9,List.range_succ,List.range_succ,List.range_succ,List.append_assoc,List.append_assoc];rfl
 rw[kF]
 have cC:∀j,ops[l.length+j]? =[oB,oX,oA][j]? :=fun j=>by rw[<-Array.getElem?_toList,iF,List.getElem?_append_right (by omega),Nat.add_sub_cancel_left]
 have lu:(List.range l.length).map (fun i=>ops.getD i default)=l:=by
  apply List.ext_getElem?
  intro i
  rw[List.getElem?_map]
  by_cases hi:i<l.length
  ·have h3:ops[i]? =l[i]? :=by rw[<-Array.getElem?_toList,iF,List.getElem?_append_left hi]
   have h4:i<ops.size:=by omega
   rw[List.getElem?_range hi,<-h3]
   simp [h4]
  ·rw[List.getElem?_eq_none (by simpa using hi),List.getElem?_eq_none (by omega)];rfl
 refine zro hE hC hf (List.range l.length) X s a hr (fun i hi=>by have:=List.mem_range.1 hi;omega) (by rw[lu];exact h1) fun Y a' aY bz=> ?_
 exact anZ hE (hx.trans aY) bz (cC 0) (cC 1) (cC 2) h2 hQ
theorem N3{Y:ax}{id:Nat}{pl:Nat->List Nat->Place}{l:List SV}{v:Value}(hr:cS Y pl l v):cS Y pl (mC id l) v:=by
 have key:∀(sv:SV) (q:List Nat->Place) (w:Value),aA Y q sv w->aA Y q (match sv with
  | .ptr j _ _=>bif Nat.beq j id then .undef else sv
  |v=>v) w:=by
  intro sv q w h
  cases sv with
  |ptr j t p=>
   simp only
   cases Nat.beq j id with
   |true=>trivial
   |false=>exact h
  |_=>exact h
 match l,hr with
 | [sv],hr=>exact key sv _ _ hr
 | [],hr=>exact hr
 |x::y::r,⟨vs,h1,h2,h3⟩=>
  refine⟨vs,h1,by simpa [mC] using h2,fun j s u hs hu=> ?_⟩
  have hs:(mC id (x::y::r))[j]? =some s:=hs
  unfold mC at hs
  rw[List.getElem?_map] at hs
  obtain⟨s0,fF,rfl⟩:=Option.map_eq_some_iff.1 hs
  exact key s0 _ _ (h3 j s0 u fF hu)
theorem Py{id:Nat}{l:List SV}{j:Nat}{t:Ty}{p:List Nat}(h:SV.ptr j t p∈mC id l):SV.ptr j t p∈l/\j≠id:=by
 unfold mC at h
 obtain⟨s0,fF,he⟩:=List.mem_map.1 h
 cases s0 with
 |ptr j' t' p'=>
  simp only at he
  cases hb:Nat.beq j' id with
  |true=>rw[hb] at he;cases he
  |false=>
   rw[hb] at he
   cases he
   exact⟨fF,fun e=>Nat.ne_of_beq_eq_false hb e⟩
 |_=>simp only at he;cases he
theorem EH{id:Nat}{l:List SV}{i j:Nat}{a b:Ty}(h:SV.bA i a b j∈mC id l):SV.bA i a b j∈l/\(l=[.bA i a b j]->mC id l=[.bA i a b j]):=by
 refine⟨?_,fun e=>by rw[e];rfl⟩
 unfold mC at h
 obtain⟨s0,fF,he⟩:=List.mem_map.1 h
 cases s0 with
 |ptr j' t' p'=>
  simp only at he
  cases hb:Nat.beq j' id<;>rw[hb] at he<;>cases he
 |_=>simp only at he;first|(cases he;done)|(rw[<-he];exact fF)
def yN(id m j g:Nat)(X:ax)(q:Nat):Ow:=
 if q=g then .row (.b id [j]) 0 else match X.ow q with
  | .row (.b m' p) n=>if m'=m then .row (.b id (j::p)) n else .row (.b m' p) n
  |w=>w
theorem adu{id m j g q i:Nat}(hg:∃b,X.ow g= .box b):(yN id m j g X q).used i↔(X.ow q).used i:=by
 unfold yN
 split
 ·rename_i e
  obtain⟨b,hb⟩:=hg
  rw[e,hb]
  simp [Ow.used]
 ·cases hq:X.ow q with
  |row pl n=>
   cases pl with
   |b m' p=>simp only;split<;>rfl
   |_=>rfl
  |_=>rfl
theorem adt{id m j g q:Nat}(bK:q≠g)(h:∀p n,X.ow q≠ .row (.b m p) n):yN id m j g X q=X.ow q:=by
 unfold yN
 rw[if_neg bK]
 cases hq:X.ow q with
 |row pl n=>
  cases pl with
  |b m' p=>
   simp only
   rw[if_neg (fun e=>h p n (by rw[hq,e]))]
  |_=>rfl
 |_=>rfl
theorem aeE{T:TypeId}(hE:ak P E)(lf:E.pt T=true){r off:Nat}{cur:Array Value}{T':TypeId}{w:World}{v:Value}(hv:v.cells= #[v])(ho:v.oneCell'=true)(hg:w.heap[r]? =some (.cells cur T' (0,0)))(hf:off+1<=cur.size):
 (storeVar T ⟨r,off,none⟩ v).run P w= .ok () (w.setRow r (cur.toList.take off++ [v]++cur.toList.drop (off+1)).toArray):=by
 obtain⟨i,hi,hs⟩:=hE.p1 T lf
 have bQ:=run_storeCells_at P r off T' [v] 0 cur w hg (by simpa using hf) (fun u hu=>by
  have:u=v:=by simpa using hu
  rw[this];exact ho)
 simp only[Nat.add_zero] at bQ
 have gI:(sizeOf T).run P w= .ok 1 w:=by simp [sizeOf,typeInfo,hi,hs]
 unfold storeVar
 simp only[Sem.run_bind,gI,Result.andThen_ok,hv]
 rw[if_neg (by simp)]
 exact bQ
theorem alL{c:List Value}{p0 p1 n v:Value}{k j:Nat}(hk:c.length=k)(hj:j<2):(c++ [p0,p1,n]).take (k+j)++ [v]++(c++ [p0,p1,n]).drop (k+j+1)=c++ [if j=0 then v else p0,if j=1 then v else p1,n]:=by
 subst hk
 match j,hj with
 |0,_=>simp
 |1,_=>
  rw[List.take_append,List.drop_append]
  simp [List.take_of_length_le]
  rw[List.drop_eq_nil_of_le (by omega),show c.length+1+1-c.length=2 by omega]
  rfl
theorem alc(hE:ak P E)(hr:Rel X s a){oS:Oper}{s':State}(h:kL E oS s some=some s'):(oS.dst=none/\oS.guard=none)/\(∀i,s.slot i=[.undef]->s'.slot i=[.undef])/\∃Z,(execOp a.eval oS).run P X.w= .ok .skip Z.w/\Ext X Z/\Rel Z s' a:=by
 unfold kL at h
 split at h
 case h_2=>cases h
 rename_i T tx ty ho
 cases oe:lY oS with
 |false=>rw[oe] at h;cases h
 |true=>
 rw[oe,cond_true] at h
 have lS:oS.dst=none/\oS.guard=none:=by
  unfold lY at oe
  split at oe
  ·exact⟨by assumption,by assumption⟩
  ·cases oe
 refine⟨lS,?_⟩
 split at h
 case isFalse=>cases h
 rename_i lf
 split at h
 case h_2=>cases h
 rename_i id ta tb j LJ
 have hx:=hr.slot tx
 rw[LJ] at hx
 obtain⟨rr,hβ,hv,hj⟩:aA X (.c tx 0) (.ptr id (.aF .bC ta tb) [1,j]) (a.tmps.getD tx Go.undef):=hx
 have hv:a.tmps.getD tx Go.undef= .pointer (some ⟨rr,ta.cells+j,none⟩):=hv
 have hj:j<2:=hj
 have evx:a.eval (.tmp tx)= .pointer (some ⟨rr,ta.cells+j,none⟩):=hv
 obtain⟨z,own,r1,hb,h,bT,h1,how,c,p0,p1,T',aE,aM,sV,sW⟩:=GR hr h
 rw[hβ] at h1
 cases h1
 cases iD:hM own [] with
 |false=>rw[iD] at h;cases h
 |true=>
 rw[iD,cond_true] at h
 have iD:=BH iD
 have fM:=aM.len
 have du:ta.cells+j+1<=(c++ [p0,p1,Value.int .i64 z.2.2]).toArray.size:=by simp;omega
 have aX:∀v,v.cells= #[v]->v.oneCell'=true->a.eval (.tmp ty)=v->(execOp a.eval oS).run P X.w= .ok .skip (X.row rr (c++ [if j=0 then v else p0,if j=1 then v else p1,Value.int .i64 z.2.2]).toArray).w:=fun v h1 h2 h3=>by
  have bQ:=aeE (P:=P) hE lf h1 h2 aE du
  rw[alL fM hj] at bQ
  simp only[execOp,ho,Sem.run_bind,Instr.storeAt,evx,Instr.sureAddr,Sem.run_pure,Result.andThen_ok,h3,bQ]
  rfl
 split at h
 case h_3=>cases h
 case h_2=>
  rename_i HE
  cases h
  have hy:=hr.slot ty
  rw[HE] at hy
  have hy:a.tmps.getD ty Go.undef= .pointer none:=hy
  have aX:=aX (.pointer none) rfl rfl hy
  generalize iE:(c++ [if j=0 then Value.pointer none else p0,if j=1 then Value.pointer none else p1,Value.int .i64 z.2.2]).toArray=new at aX
  refine⟨fun i hi=>hi,X.row rr new,aX,GY how,hr.row hb hβ how ⟨how,⟨_,setRow_heap X.w rr _ _ T' (0,0) aE⟩,fun _=> ?_⟩ (.inr iD)⟩
  have hg:∀k,∀{m:Option (El tb)} {v:Value},dL X (fun p=> .b id (k::p)) tb m v->dL (X.row rr new) (fun p=> .b id (k::p)) tb m v:=fun k m v hm=>hm.move (fun _ _=>m8 how) fun p _ q o n hq hw=>by
   have bK:q≠rr:=fun e=>by rw[e,how] at hw;cases hw
   exact⟨(setRow_other X.w rr q _ bK).trans hq,hw⟩
  refine⟨c,if j=0 then Value.pointer none else p0,if j=1 then Value.pointer none else p1,T',?_,aM.ai (fun _ _=>m8 how),?_,?_⟩
  ·rw[iE];exact setRow_heap X.w rr _ _ T' (0,0) aE
  ·match j,hj with
   |0,_=>rfl
   |1,_=>exact hg 0 sV
  ·match j,hj with
   |0,_=>exact hg 1 sW
   |1,_=>rfl
 rename_i m tb' HE
 split at h
 case h_2=>cases h
 rename_i B hB
 split at h
 case isFalse=>cases h
 rename_i dy
 cases fO:(tb'.cq tb&&(!tb.bH&&(hM B.own [2]&& !(Nat.beq id m)))) with
 |false=>rw[fO] at h;cases h
 |true=>
 rw[fO,cond_true] at h
 cases h
 simp only[Bool.and_eq_true,Bool.not_eq_true'] at fO
 obtain⟨ht,eI,Lr,Hz⟩:=fO
 have:=Ty.aI ht
 subst this
 have Hz:id≠m:=fun e=>by rw[e] at Hz;simp at Hz
 have hbm:=rh hB
 obtain⟨g,hβm,uH⟩:=hr.boxes m B hbm
 obtain⟨bt,bx,bo⟩:=B
 have e:=Ty.aI dy
 simp only at e
 subst e
 obtain⟨csg,Tg,hhg,hrg,mZ,hwg⟩:=uH.cells eI
 have hy:=hr.slot ty
 rw[HE] at hy
 obtain⟨g',hβ',hvy⟩:aA X (.c ty 0) (.ptr m bt []) (a.tmps.getD ty Go.undef):=hy
 rw[hβm] at hβ'
 cases hβ'
 have hvy:a.tmps.getD ty Go.undef= .pointer (some ⟨g,0,none⟩):=by
  have:=((rf eI).1 hvy).1
  rw[this];simp [Ty.off]
 have CN:g≠rr:=fun e=>by rw[e,how] at mZ;injection mZ with mZ;exact Hz mZ
 generalize iE:(c++ [if j=0 then Value.pointer (some ⟨g,0,none⟩) else p0,if j=1 then Value.pointer (some ⟨g,0,none⟩) else p1,Value.int .i64 z.2.2]).toArray=new at*
 have aX:=aX (.pointer (some ⟨g,0,none⟩)) rfl rfl hvy
 rw[iE] at aX
 let Z:ax:=⟨(X.row rr new).w,yN id m j g X,X.β⟩
 have dw:∀q,q≠rr->Z.w.heap[q]? =X.w.heap[q]? :=fun q hq=>setRow_other X.w rr q _ hq
 have eK:∀ad v,X.ay ad v->Z.ay ad v:=fun ad v hs=>by
  have bK:ad.block≠rr:=fun e=>by
   have:=hs.2.2
   rw[e,how] at this
   exact this
  refine⟨hs.1,?_,(adu ⟨m,mZ⟩).2 hs.2.2⟩
  have:=hs.2.1
  simp only[World.cell?] at this⊢
  rw[dw _ bK];exact this
 have jJ:∀q,q≠g->(∀p n,X.ow q≠ .row (.b m p) n)->Z.ow q=X.ow q:=fun q h1 h2=>adt h1 h2
 have bJ:∀q b,b≠m->X.ow q= .box b->Z.ow q= .box b:=fun q b hb hq=>by
  rw[jJ q (fun e=>by rw[e,mZ] at hq;injection hq with hq;exact hb hq.symm) (fun p n e=>by rw[hq] at e;cases e)]
  exact hq
 have CZ:∀q pl n,X.ow q= .row pl n->(∀p,pl≠ .b m p)->Z.ow q= .row pl n:=fun q pl n hq hp=>by
  rw[jJ q (fun e=>by rw[e,mZ] at hq;cases hq) (fun p n' e=>by rw[hq] at e;injection e with e _;exact hp p e)]
  exact hq
 have K1:∀{pl:Place} {e:TypeId} {k n:Nat} {v:Value},(∀p,pl≠ .b m p)->bu X pl e k n v->bu Z pl e k n v:=fun hp ho=>by
  rcases ho with ho|⟨q,cap,cur,k1,k2,k3,k4,k5,k6⟩
  ·exact .inl ho
  ·exact .inr ⟨q,cap,cur,k1,(dw q (fun e=>by rw[e,how] at k6;cases k6)).trans k2,k3,k4,k5,CZ q _ _ k6 hp⟩
 have A6:∀k,∀{x:Option (El bt)} {v:Value},dL X (fun p=> .b id (k::p)) bt x v->dL Z (fun p=> .b id (k::p)) bt x v:=fun k x v hm=>hm.move eK fun p _ q o n hq hw=>⟨(dw q (fun e=>by rw[e,how] at hw;cases hw)).trans hq,CZ q _ _ hw (fun p' e=>by injection e with e _;exact Hz e)⟩
 have cz:dL Z (fun p=> .b id (j::p)) bt (some bx) (.pointer (some ⟨g,0,none⟩)):=by
  refine⟨g,csg,Tg,rfl,(dw g CN).trans hhg,by show yN id m j g X g=_;simp [yN],hrg.ai eK,fun p hp=> ?_⟩
  have:p=[2]:=by simpa [B5] using hp
  subst this
  obtain⟨e,t',xs,v,g0,g1,g2,g3⟩:=hwg [2] (BH Lr)
  refine⟨e,t',xs,v,g0,g1,g2,?_⟩
  rcases g3 with g3|⟨q,cap,cur,k1,k2,k3,k4,k5,k6⟩
  ·exact .inl g3
  ·refine .inr ⟨q,cap,cur,k1,(dw q (fun e=>by rw[e,how] at k6;cases k6)).trans k2,k3,k4,k5,?_⟩
   show yN id m j g X q=_
   unfold yN
   rw[if_neg (fun e=>by rw[e,mZ] at k6;cases k6),k6]
   simp
 have CO:iQ Z rr (.b id) ta bt (z.1,gj j (some bx) z.2.1,z.2.2):=by
  refine⟨c,if j=0 then Value.pointer (some ⟨g,0,none⟩) else p0,if j=1 then Value.pointer (some ⟨g,0,none⟩) else p1,T',?_,aM.ai eK,?_,?_⟩
  ·rw[iE];exact setRow_heap X.w rr _ _ T' (0,0) aE
  ·match j,hj,cz with
   |0,_,cz=>exact cz
   |1,_,_=>exact A6 0 sV
  ·match j,hj,cz with
   |0,_,_=>exact A6 1 sW
   |1,_,cz=>exact cz
 have Lv:=hr.pj hb (.inr iD)
 have Lw:=hr.pj hbm (.inl (Se eI))
 have aY:Ext X Z:=⟨eK,by show X.w.heap.size<=(X.row rr new).w.heap.size;simp [ax.row],rfl,rfl,rfl,rfl,fun q hq bQ=>⟨jJ q (fun e=>by rw[e,mZ] at bQ;exact bQ) (fun p n e=>by rw[e] at bQ;exact bQ),dw q (fun e=>by rw[e,how] at bQ;exact bQ)⟩⟩
 have Lg:id<s.bs.length:=(List.getElem?_eq_some_iff.1 hb).1
 refine⟨fun i hi=> ?_,Z,aX,aY,by simpa [nP] using hr.size,by simpa [nP] using hr.ia,fun i l v hl hx=> ?_,fun bc B' eQ=> ?_,fun i l bc t p hl hm=> ?_,hr.defers,hr.bA.less (fun i l sm c2 d2 k hl hm=> ?_) (fun sm c2 d2 x2 kQ hex mF ho2=> ?_)⟩
 ·by_cases al:i<s.sl.length
  ·have:=rj al
   rw[hi] at this
   simp [nP,State.slot,this,mC]
  ·simp [nP,State.slot,List.getElem?_eq_none (Nat.le_of_not_lt al)]
 ·replace hl:(s.sl.map (mC m))[i]? =some l:=hl
  rw[List.getElem?_map] at hl
  obtain⟨l0,h0,rfl⟩:=Option.map_eq_some_iff.1 hl
  refine N3 ((hr.bR i l0 v h0 hx).jx fun k sv u hk hu=> ?_)
  cases sv with
  |undef=>trivial
  |skip=>exact hu
  |cJ=>exact hu
  |eh=>exact hu
  |over=>exact hu
  |aj t x own=>
   obtain⟨cs,q1,q2,q3⟩:=hu
   refine⟨cs,q1.ai eK,q2,fun p hp=> ?_⟩
   obtain⟨e,t',xs,v,g0,g1,g2,g3⟩:=q3 p hp
   exact⟨e,t',xs,v,g0,g1,g2,K1 (fun p' e=>by cases e) g3⟩
  |ptr bc t p=>exact hu
  |view t x=>
   obtain⟨ad,cs,q1,q2,q3,q4⟩:=hu
   exact⟨ad,cs,q1,q2,q3.ai eK,fun i u hi=>eK _ _ (q4 i u hi)⟩
  |cap f t x u y=>exact sG eK hu
  |bA bc c' d' n=>
   obtain⟨r',q1,q2,q3⟩:=hu
   have bK:bc≠id:=fun e=>Lv i l0 c' d' n h0 (e▸List.mem_of_getElem? hk)
   have hnm:bc≠m:=fun e=>Lw i l0 c' d' n h0 (e▸List.mem_of_getElem? hk)
   refine⟨r',q1,bJ r' bc hnm q2,?_⟩
   simp only[World.cell?] at q3⊢
   rw[dw r' (fun e=>by rw[e,how] at q2;injection q2 with q2;exact bK q2.symm)]
   exact q3
 ·replace eQ:((s.bs.set m none).set id (some ⟨.aF .bC ta bt,(z.1,gj j (some bx) z.2.1,z.2.2),own⟩))[bc]? =some (some B'):=eQ
  rw[List.getElem?_set] at eQ
  by_cases e1:id=bc
  ·subst e1
   rw[if_pos rfl,if_pos (by simpa using Lg)] at eQ
   cases eQ
   exact⟨rr,hβ,bJ rr id Hz how,⟨_,setRow_heap X.w rr _ _ T' (0,0) aE⟩,fun _=>CO⟩
  ·rw[if_neg e1,List.getElem?_set] at eQ
   by_cases e2:m=bc
   ·rw[if_pos e2] at eQ
    split at eQ<;>cases eQ
   ·rw[if_neg e2] at eQ
    obtain⟨r',q1,q2,q3⟩:=hr.boxes bc B' eQ
    have bK:r'≠rr:=fun e=>by rw[e,how] at q2;injection q2 with q2;exact e1 q2
    exact⟨r',q1,bJ r' bc (fun e=>e2 e.symm) q2,q3.move eK (dw r' bK) (fun cs ho p hp=>by
     obtain⟨e,t',xs,v,g0,g1,g2,g3⟩:=ho p hp
     exact⟨e,t',xs,v,g0,g1,g2,K1 (fun p' e=>by injection e with e _;exact e2 e.symm) g3⟩) fun p _ q o n hq hw=>⟨(dw q (fun e=>by rw[e,how] at hw;cases hw)).trans hq,CZ q _ _ hw (fun p' e=>by injection e with e _;exact e2 e.symm)⟩⟩
 ·replace hl:(s.sl.map (mC m))[i]? =some l:=hl
  rw[List.getElem?_map] at hl
  obtain⟨l0,h0,rfl⟩:=Option.map_eq_some_iff.1 hl
  obtain⟨hm,bK⟩:=Py hm
  obtain⟨B2,c8⟩:=hr.live i l0 bc t p h0 hm
  show∃B,((s.bs.set m none).set id (some ⟨.aF .bC ta bt,(z.1,gj j (some bx) z.2.1,z.2.2),own⟩))[bc]? =some (some B)
  rw[List.getElem?_set]
  by_cases e1:id=bc
  ·rw[if_pos e1,if_pos (by simpa using Lg)];exact⟨_,rfl⟩
  ·rw[if_neg e1,List.getElem?_set,if_neg (fun e=>bK e.symm)];exact⟨B2,c8⟩
 ·replace hl:(s.sl.map (mC m))[i]? =some l:=hl
  rw[List.getElem?_map] at hl
  obtain⟨l0,h0,rfl⟩:=Option.map_eq_some_iff.1 hl
  obtain⟨g1,g2⟩:=EH hm
  exact⟨l0,h0,g1,g2⟩
 ·obtain⟨i,l,k,hl,hm⟩:=hex
  replace hl:(s.sl.map (mC m))[i]? =some l:=hl
  rw[List.getElem?_map] at hl
  obtain⟨l0,h0,rfl⟩:=Option.map_eq_some_iff.1 hl
  obtain⟨g1,_⟩:=EH hm
  refine⟨x2,kQ,?_,ho2⟩
  show((s.bs.set m none).set id (some ⟨.aF .bC ta bt,(z.1,gj j (some bx) z.2.1,z.2.2),own⟩))[sm]? =_
  rw[List.getElem?_set,if_neg (show¬id=sm from fun e=>Lv i l0 c2 d2 k h0 (by rw[e];exact g1)),List.getElem?_set,if_neg (show¬m=sm from fun e=>Lw i l0 c2 d2 k h0 (by rw[e];exact g1))]
  exact mF
theorem zwb{α:Type}:∀{l r:List α} {x:α},Xw l=some (r,x)->l=r++ [x]
 | [],_,_,h=>by cases h
 | [a],_,_,h=>by cases h;rfl
 |a::b::r,_,_,h=>by
  simp only[Xw] at h
  split at h
  case h_2=>cases h
  rename_i l x hl
  cases h
  have:=zwb (l:=b::r) hl
  rw[this];rfl
theorem Nv{n:Nat}{listed:Array Bool}(hs:n<=listed.size){i:Nat}{p q:List Nat}(h:rest n listed=p++i::q):rest n (listed.setIfInBounds i true)=p++q:=by
 have oe:(rest n listed).Nodup:=List.nodup_range.filter _
 rw[h] at oe
 rw[<-zvv oe,<-h]
 simp only[rest,List.filter_filter]
 refine List.filter_congr fun j hj=> ?_
 have hjn:=List.mem_range.1 hj
 by_cases e:j=i
 ·subst e
  have:(listed.setIfInBounds j true).getD j true=true:=by
   have:j<listed.size:=by omega
   simp [Array.getD_eq_getD_getElem?,this]
  rw[this];simp
 ·have h1:(listed.setIfInBounds i true).getD j true=listed.getD j true:=by
   simp only[Array.getD_eq_getD_getElem?]
   rw[Array.getElem?_setIfInBounds_ne (fun h=>e h.symm)]
  have h2:Nat.beq j i=false:=by
   cases hh:Nat.beq j i with
   |false=>rfl
   |true=>exact absurd (Nat.eq_of_beq_eq_true hh) e
  rw[h1,h2];simp
theorem aet{n:Nat}{listed:Array Bool}{i:Nat}(h:n<=i):rest n (listed.setIfInBounds i true)=rest n listed:=by
 simp only[rest]
 refine List.filter_congr fun j hj=> ?_
 have hjn:=List.mem_range.1 hj
 simp only[Array.getD_eq_getD_getElem?]
 rw[Array.getElem?_setIfInBounds_ne (by omega)]
theorem Nw{n:Nat}{listed:Array Bool}(hs:listed.size=n+1):rest (n+1) listed=rest n listed++(if listed.getD n true=true then [] else [n]):=by
 simp only[rest,List.range_succ,List.filter_append]
 congr 1
 cases h:listed.getD n true with
 |false=>
  rw[if_neg (by simp)]
  simp only[List.filter_cons,h,Bool.not_false,if_true,List.filter_nil]
 |true=>
  rw[if_pos rfl]
  simp only[List.filter_cons,h,Bool.not_true,Bool.false_eq_true,if_false,List.filter_nil]
theorem zwi{ops:Array Oper}(mH:∀k,k<ops.size->Nat.ble (vN ops k+1) (bit k)=true){listed:Array Bool}(hs:listed.size=ops.size)(hr:Region.ready .any ops listed=[]):rest ops.size listed=[]:=by
 rcases hl:rest ops.size listed with _|⟨i,r⟩
 ·rfl
 have cz:i∈rest ops.size listed:=by rw[hl];simp
 have dv:=List.mem_range.1 (List.mem_filter.1 cz).1
 have kG:i∈Region.ready .any ops listed:=by
  refine OI cz fun e he hb=> ?_
  have al:e.on<i:=z131 (mH i dv) (zhi _ e he hb)
  cases hx:listed.getD e.on false with
  |true=>rfl
  |false=>
   exfalso
   have gG:e.on<listed.size:=by omega
   have Bh:listed.getD e.on true=false:=by
    simp only[Array.getD_eq_getD_getElem?,Array.getElem?_eq_getElem gG,Option.getD_some] at hx⊢
    exact hx
   have hm:e.on∈rest ops.size listed:=List.mem_filter.2 ⟨List.mem_range.2 (by omega),by rw[Bh];rfl⟩
   have jd:(rest ops.size listed).Pairwise (· < ·):=List.pairwise_lt_range.filter _
   rw[hl] at jd hm
   rcases List.mem_cons.1 hm with e1|hm
   ·omega
   ·have:=(List.pairwise_cons.1 jd).1 _ hm
    omega
 rw[hr] at kG
 cases kG
theorem adl{o:Oper}{t j:Nat}(ho:o.op= .extract (.tmp t) j){vs:Array Value}(hv:a.tmps.getD t Go.undef= .tuple vs){v:Value}(hj:vs[j]? =some v)(w:World):(execOp a.eval o).run P w= .ok (.value v) w:=by
 have ev:a.eval (.tmp t)= .tuple vs:=hv
 simp [execOp,ho,ev,Instr.extract,hj]
structure II(E:Env)(C:ag)(ops:Array Oper)(n k t j d:Nat)(oS oD:Oper)(s1 s':State):Prop where
 size:ops.size=n+1
 last:ops[n]? =some oS
 KV:ops[k]? =some oD
 kn:k<n
 ext:oD.op= .extract (.tmp t) j
 dst:isDst oD d=true
 aaH:Nat.ble (zy oS.after.toList+1) (bit n)=true
 mask:jQ ops.toList n (zy oS.after.toList)|||bit k=bit n-1
 low:∀i,i<n->Nat.ble (vN ops i+1) (bit i)=true
 len:j<(s1.slot t).length
 tup:(s1.slot t).length≠1
 link:kL E oS (s1.av (some d) [.undef]) some=some s'
theorem ahZ{m n k i:Nat}(h:m|||bit k=bit n-1)(hi:i<n)(hk:i≠k):m.testBit i=true:=by
 have h1:(m|||bit k).testBit i=true:=by
  rw[h]
  simp only[bit,Nat.shiftLeft_eq,Nat.one_mul]
  rw[Nat.testBit_two_pow_sub_one]
  simpa using hi
 rw[Nat.testBit_or] at h1
 have h2:(bit k).testBit i=false:=by
  simp only[bit,Nat.shiftLeft_eq,Nat.one_mul]
  rw[Nat.testBit_two_pow]
  simp
  omega
 rw[h2,Bool.or_false] at h1
 exact h1
theorem aeA(c:List (Nat×Nat)):∀(s:State) (t:Nat),((s.close c).slot t).length=(s.slot t).length:=by
 induction c with
 |nil=>intro s t;rfl
 |cons x r ih=>
  intro s t
  obtain⟨i,j⟩:=x
  rw[Gc,ih]
  simp only[State.cg,State.slot,List.getD_eq_getElem?_getD,List.getElem?_set]
  by_cases e:i=t
  ·subst e
   by_cases al:i<s.sl.length
   ·rw[if_pos rfl,if_pos al,List.getElem?_eq_getElem al]
    simp [z81]
   ·rw[if_pos rfl,if_neg al,List.getElem?_eq_none (by omega)]
  ·rw[if_neg e]
theorem ag5{s:State}{d:Nat}(h:s.slot d=[.undef]):s.av (some d) [.undef]=s:=by
 simp only[State.av]
 have:s.sl.set d [.undef]=s.sl:=by
  apply List.ext_getElem?
  intro i
  rw[List.getElem?_set]
  by_cases e:d=i
  ·subst e
   by_cases al:d<s.sl.length
   ·rw[if_pos rfl,if_pos al,rj al,h]
   ·rw[if_pos rfl,if_neg al,List.getElem?_eq_none (by omega)]
  ·rw[if_neg e]
 rw[this]
theorem aeB(s:State)(d:Nat):(s.av (some d) [.undef]).slot d=[.undef]:=by
 simp only[State.slot,State.av,List.getD_eq_getElem?_getD,List.getElem?_set]
 by_cases al:d<s.sl.length
 ·simp [al]
 ·simp [al]
theorem adk{C:ag}{ops:List Oper}{o:Oper}{t j:Nat}(ho:o.op= .extract (.tmp t) j){u:Out}(h:act E (C Out) ops o s some=some u):u.bx=none/\u.v.length=1:=by
 unfold act at h
 simp only[ho] at h
 split at h
 ·split at h
  ·cases h;exact⟨rfl,rfl⟩
  ·cases h
 ·split at h<;>cases h<;>exact⟨rfl,rfl⟩
theorem anX(hE:ak P E){C:ag}(hC:C.Nat)(hf:∀f,de P C f){ops:Array Oper}{n k t j d:Nat}{oS oD:Oper}{s1 s':State}(H:II E C ops n k t j d oS oD s1 s'){Q:Exit->Act->World->Prop}:
 ∀(cr:Nat) (listed:Array Bool) (X:ax) (s:State) (a:Act) (tr:List eB),Rel X s a->uv ops listed->listed.size=n+1->listed.getD n true=false->cr=(rest n listed).length+1->oP E C ops (rest n listed) s tr s1->tr.Pairwise (wE ops)->
  (∀Y a',Ext X Y->Rel Y s' a'->Q .normal a' Y.w)->wpAny P .any ops Q cr listed a X.w:=by
 have hgS:ops.getD n default=oS:=by
  have:=H.last
  simp only[Array.getD_eq_getD_getElem?,this,Option.getD_some]
 have hgD:ops.getD k default=oD:=by
  have:=H.KV
  simp only[Array.getD_eq_getD_getElem?,this,Option.getD_some]
 have mH:∀i,i<ops.size->Nat.ble (vN ops i+1) (bit i)=true:=fun i hi=>by
  rcases Nat.lt_or_ge i n with h|h
  ·exact H.low i h
  ·have:i=n:=by have:=H.size;omega
   subst this
   unfold vN
   rw[hgS]
   exact H.aaH
 intro cr
 induction cr with
 |zero=>intro listed X s a tr hr fM hs hn od;omega
 |succ cr ih=>
  intro listed X s a tr hr fM hs hn od dV vS hQ
  have hrs:rest ops.size listed=rest n listed++ [n]:=by rw[H.size,Nw hs,if_neg (by rw[hn];simp)]
  refine⟨fun jb=> ?_,fun i hi=> ?_⟩
  ·have:=zwi mH (by rw[hs,H.size]) jb
   rw[hrs] at this
   simp at this
  ·obtain⟨Lq,se⟩:=HU hi
   have cz:=Lq
   rw[hrs] at cz
   rcases List.mem_append.1 cz with cz|cz
   ·obtain⟨p,q,xY⟩:=ON cz
    have dv:=List.mem_range.1 (List.mem_filter.1 cz).1
    rw[xY] at dV
    have mJ:=F5 dV
    obtain⟨tp,f,tq,u,e1,e2,k1,k2,k3⟩:=zrr p s tr dV (fun tp f tq e hl a' AP=>by
     have uK:f.i=i:=by
      rw[e,List.map_append,List.map_cons] at mJ
      have:=List.append_inj mJ (by simp [hl])
      injection this.2
     have haj:a'.i∈p:=by
      rw[e,List.map_append,List.map_cons] at mJ
      have:=List.append_inj mJ (by simp [hl])
      rw[<-this.1]
      exact List.mem_map.2 ⟨a',AP,rfl⟩
     rw[e] at vS
     have uM:=(List.pairwise_append.1 vS).2.2 a' AP f (by simp)
     rcases uM with hb|hb
     ·exfalso
      rw[uK] at hb
      obtain fY:=TJ fM _ _ (fun q hq=>by
       obtain⟨ed,xO,xP,Lc⟩:=Gb _ _ hq
       have:=se ed xO xP
       rw[Lc] at this
       exact this) a'.i hb
      have bG:a'.i∈rest n listed:=by rw[xY];exact List.mem_append_left _ haj
      have eA:=(List.mem_filter.1 bG).2
      have al:=List.mem_range.1 (List.mem_filter.1 bG).1
      have gG:a'.i<listed.size:=by omega
      simp only[Array.getD_eq_getD_getElem?,Array.getElem?_eq_getElem gG,Option.getD_some] at fY eA
      rw[fY] at eA
      cases eA
     ·exact hb)
    have bG:=Nv (n:=n) (by omega) xY
    have hio:ops[i]? =some (ops.getD i default):=by
     have:i<ops.size:=by rw[H.size];omega
     simp [this]
    refine XC hE hr hC hf hio (zpc hC k1) fun Y a' aY bz=> ?_
    refine ih (listed.setIfInBounds i true) Y _ a' (tp++tq) bz (OL fM fun q hq=>by
     obtain⟨ed,g1,g2,g3⟩:=Gb _ _ hq
     have:=se ed g1 g2
     rw[g3] at this
     exact this) (by simp [hs]) ?_ ?_ (by rw[bG];exact k3) ?_ (fun Z a2 cf dg=>hQ Z a2 (aY.trans cf) dg)
    ·simp only[Array.getD_eq_getD_getElem?] at hn⊢
     rw[Array.getElem?_setIfInBounds_ne (by omega)]
     exact hn
    ·rw[bG]
     rw[xY] at od
     simp only[List.length_append,List.length_cons] at od⊢
     omega
    ·rw[e1] at vS
     obtain⟨a1,a2,a3⟩:=List.pairwise_append.1 vS
     exact List.pairwise_append.2 ⟨a1,(List.pairwise_cons.1 a2).2,fun x hx y hy=>a3 x hx y (List.mem_cons_of_mem _ hy)⟩
   ·have dv:i=n:=by simpa using cz
    subst dv
    have cW:∀q∈rest i listed,q=k:=fun q hq=>by
     obtain⟨h1,h2⟩:=List.mem_filter.1 hq
     have hqn:=List.mem_range.1 h1
     by_cases e:q=k
     ·exact e
     ·exfalso
      have fY:=TJ fM _ _ (fun q hq=>by
       obtain⟨ed,xO,xP,Lc⟩:=Gb _ _ hq
       have:=se ed (by rw[hgS];exact xO) xP
       rw[Lc] at this
       exact this) q (ahZ H.mask hqn e)
      have gG:q<listed.size:=by omega
      simp only[Array.getD_eq_getD_getElem?,Array.getElem?_eq_getElem gG,Option.getD_some] at fY h2
      rw[fY] at h2
      cases h2
    have oe:(rest i listed).Nodup:=List.nodup_range.filter _
    have bG:rest i listed=[]\/rest i listed=[k]:=by
     match hl:rest i listed,cW,oe with
     | [],_,_=>exact .inl rfl
     | [q],cW,_=>exact .inr (by rw[cW q (by simp)])
     |q::q'::r,cW,oe=>
      have h1:=cW q (by simp)
      have h2:=cW q' (by simp)
      have:=(List.nodup_cons.1 oe).1
      rw[h1,h2] at this
      simp at this
    have Lz:Rel X (s1.av (some d) [.undef]) a/\(rest i listed=[k]->d≠t/\(s1.slot t).length=(s.slot t).length):=by
     rcases bG with bG|bG
     ·rw[bG] at dV
      obtain⟨rfl,_⟩:=dV
      exact⟨hr.kill d,fun e=>by rw[bG] at e;cases e⟩
     ·rw[bG] at dV
      match tr,dV with
      | [],dV=>exact dV.elim
      |f::tr,⟨u,h1,_,h3,_⟩=>
       rw[hgD] at h1 h3
       have La:oD.dst=some d/\oD.guard=none:=by
        have:=H.dst
        unfold isDst at this
        split at this
        ·rename_i d' h1 h2
         exact⟨by rw[h1,Nat.eq_of_beq_eq_true this],h2⟩
        ·cases this
       unfold fe at h1
       rw[La.2] at h1
       obtain⟨hbx,hvl⟩:=adk H.ext h1
       rw[La.1] at h3
       have e:s1=(s.close u.cl).av (some d) u.v:=by
        rw[<-h3]
        unfold State.apply
        rw[hbx]
        rfl
       have Lb:d≠t:=fun e2=>by
        have h5:=H.tup
        have h6:=H.len
        rw[e,e2] at h5 h6
        simp only[State.slot,State.av,List.getD_eq_getElem?_getD,List.getElem?_set] at h5 h6
        by_cases al:t<(s.close u.cl).sl.length
        ·simp [al] at h5
         omega
        ·simp [al] at h5
       refine⟨?_,fun _=>⟨Lb,?_⟩⟩
       ·have e3:s1.av (some d) [.undef]=(s.close u.cl).av (some d) [.undef]:=by
         rw[e]
         simp only[State.av,List.set_set]
        rw[e3]
        exact(hr.close u.cl).kill d
       ·rw[e,<-aeA u.cl s t]
        simp only[State.slot,State.av,List.getD_eq_getElem?_getD,List.getElem?_set]
        rw[if_neg Lb]
    obtain⟨dg,Lk⟩:=Lz
    obtain⟨lS,aaF,Z,aX,aY,Ba⟩:=alc hE dg H.link
    have hud:=aaF d (aeB s1 d)
    unfold wpOp
    simp only[H.last]
    have hw:Region.wanted oS (yielded ops a.tmps)=true:=by simp [Region.wanted,lS.2]
    rw[if_pos hw]
    refine .inl ?_
    unfold Oper.wp
    rw[aX,Oper.upon_skip,lS.1]
    show wpAny P .any ops Q cr (listed.setIfInBounds i true) a Z.w
    have C2:(listed.setIfInBounds i true).size=i+1:=by simpa using hs
    have fP:(listed.setIfInBounds i true).getD i true=true:=by
     have:i<listed.size:=by omega
     simp [Array.getD_eq_getD_getElem?,this]
    have xZ:rest ops.size (listed.setIfInBounds i true)=rest i listed:=by
     rw[H.size,Nw C2,if_pos fP,List.append_nil,aet (Nat.le_refl _)]
    rcases bG with bG|bG
    ·have:cr=0:=by rw[bG] at od;simpa using od
     subst this
     refine⟨?_,hQ Z a aY Ba⟩
     rcases LA:Region.ready .any ops (listed.setIfInBounds i true) with _|⟨q,r⟩
     ·rfl
     ·have:=(HU (i:=q) (by rw[LA];simp)).1
      rw[xZ,bG] at this
      cases this
    ·have:cr=1:=by rw[bG] at od;simpa using od
     subst this
     refine⟨fun jb=> ?_,fun q hq=> ?_⟩
     ·have:=zwi mH (by rw[C2,H.size]) jb
      rw[xZ,bG] at this
      cases this
     ·have Tj:=(HU hq).1
      rw[xZ,bG] at Tj
      have Tj:q=k:=by simpa using Tj
      subst Tj
      obtain⟨Lb,hlen⟩:=Lk bG
      have La:oD.dst=some d/\oD.guard=none:=by
       have:=H.dst
       unfold isDst at this
       split at this
       ·rename_i d' h1 h2
        exact⟨by rw[h1,Nat.eq_of_beq_eq_true this],h2⟩
       ·cases this
      have C3:∃vs:Array Value,a.tmps.getD t Go.undef= .tuple vs/\vs.size=(s.slot t).length:=by
       have jc:=hr.slot t
       have h5:=H.tup
       rw[hlen] at h5
       match hq:s.slot t,jc,h5 with
       | [],⟨vs,g1,g2,_⟩,_=>exact⟨vs,g1,by rw[g2]⟩
       | [x],_,h5=>simp at h5
       |x::y::r,⟨vs,g1,g2,_⟩,_=>exact⟨vs,g1,by rw[g2]⟩
      obtain⟨vs,hv,x8⟩:=C3
      have uN:j<vs.size:=by rw[x8,<-hlen];exact H.len
      have LG:=adl (P:=P) H.ext hv (Array.getElem?_eq_getElem uN) Z.w
      unfold wpOp
      simp only[H.KV]
      have hw:Region.wanted oD (yielded ops a.tmps)=true:=by simp [Region.wanted,La.2]
      rw[if_pos hw]
      refine .inl ?_
      unfold Oper.wp
      rw[LG,Oper.upon_value,La.1]
      have CK:Rel Z s' (a.put (some d) vs[j]):=by
       have:=Ba.dead d vs[j]
       rw[Ref.dead,ag5 hud] at this
       exact this
      refine⟨?_,hQ Z _ aY CK⟩
      have hkn:=H.kn
      have aaz:rest ops.size ((listed.setIfInBounds i true).setIfInBounds q true)=[]:=by
       have:=Nv (n:=ops.size) (listed:=listed.setIfInBounds i true) (i:=q) (p:=[]) (q:=[]) (by rw[C2,H.size];exact Nat.le_refl _) (by rw[xZ,bG];rfl)
       simpa using this
      rcases LA:Region.ready .any ops ((listed.setIfInBounds i true).setIfInBounds q true) with _|⟨z,r⟩
      ·rfl
      ·have:=(HU (i:=z) (by rw[LA];simp)).1
       rw[aaz] at this
       cases this
theorem ahy(hE:ak P E)(hm:P.follows .mixedOrders=true){C:ag}(hC:C.Nat)(hf:∀f,de P C f){X0:ax}(hx:Ext X0 X)(hr:Rel X s a){id k:Nat}{ops:Array Oper}{s':State}(h:sr E (C State) k ops.toList s some=some s'){Q:Exit->Act->World->Prop}(hQ:∀Y a',Ext X0 Y->Rel Y s' a'->Q .normal a' Y.w):(Code.region id ops true).wp P Q a X.w:=by
 unfold sr at h
 split at h
 case h_2=>cases h
 rename_i l oS hl
 split at h
 case h_2=>cases h
 rename_i oD hoD
 split at h
 case h_2=>cases h
 rename_i t j d aY ap1
 cases fO:(isDst oD d&&(Nat.ble (k+1) l.length&&(Nat.ble (zy oS.after.toList+1) (bit l.length)&&Nat.beq (jQ ops.toList l.length (zy oS.after.toList)|||bit k) (bit l.length-1)))) with
 |false=>rw[fO] at h;cases h
 |true=>
 rw[fO,cond_true] at h
 simp only[Bool.and_eq_true] at fO
 obtain⟨hd,hkl,Lp,uR⟩:=fO
 have hkl:k<l.length:=Nat.le_of_ble_eq_true hkl
 have uR:=Nat.eq_of_beq_eq_true uR
 obtain⟨s1,h1,h2⟩:=kf (QY hC (F:=fun s=>bif Nat.ble (j+1) (s.slot t).length&& !(Nat.beq (s.slot t).length 1) then kL E oS (s.av (some d) [.undef]) some else none) (G:=some) (K:=fun s=>bif Nat.ble (j+1) (s.slot t).length&& !(Nat.beq (s.slot t).length 1) then kL E oS (s.av (some d) [.undef]) some else none) (fun _=>rfl) l 0 s []) h
 cases hlen:(Nat.ble (j+1) (s1.slot t).length&& !(Nat.beq (s1.slot t).length 1)) with
 |false=>simp only[hlen] at h2;cases h2
 |true=>
 simp only[hlen,cond_true] at h2
 rw[Bool.and_eq_true] at hlen
 have iF:=zwb hl
 have b9:ops.size=l.length+1:=by rw[<-Array.length_toList,iF];simp
 have nG:ops[l.length]? =some oS:=by rw[<-Array.getElem?_toList,iF,List.getElem?_append_right (Nat.le_refl _),Nat.sub_self];rfl
 have lu:(List.range l.length).map (fun i=>ops.getD i default)=l:=by
  apply List.ext_getElem?
  intro i
  rw[List.getElem?_map]
  by_cases hi:i<l.length
  ·have h3:ops[i]? =l[i]? :=by rw[<-Array.getElem?_toList,iF,List.getElem?_append_left hi]
   have h4:i<ops.size:=by omega
   rw[List.getElem?_range hi,<-h3]
   simp [h4]
  ·rw[List.getElem?_eq_none (by simpa using hi),List.getElem?_eq_none (by omega)];rfl
 obtain⟨yp,r1,_,r3,r4⟩:=zb5 hC (List.range l.length) 0 s [] (fun j k hj=>by
  obtain⟨g1,g2⟩:=List.getElem?_eq_some_iff.1 hj
  simp at g2
  omega) (by rw[lu];exact h1)
 have H:II E C ops l.length k t j d oS oD s1 s':=⟨b9,nG,by rw[<-Array.getElem?_toList];exact hoD,hkl,aY,hd,Lp,uR,fun i hi=>r4 i (List.mem_range.2 hi),Nat.le_of_ble_eq_true hlen.1,fun e=>by rw[e] at hlen;simp at hlen,h2⟩
 have hk:fj s X {X with w:={X.w with drawn:=X.w.drawn+1}}:=⟨Nat.le_refl _,rfl,rfl,rfl,fun g _=>⟨rfl,rfl⟩,rfl,fun _ _ _=>rfl⟩
 have bG:rest l.length (Array.replicate ops.size false)=List.range l.length:=by
  refine List.filter_eq_self.2 fun i hi=> ?_
  have:=List.mem_range.1 hi
  have h2:i<ops.size:=by omega
  simp [h2]
 refine wp_region_any hm ?_
 have od:ops.size=(rest l.length (Array.replicate ops.size false)).length+1:=by rw[bG,b9];simp
 exact anX hE hC hf H ops.size (Array.replicate ops.size false) _ s a yp (hr.dF hk) (fun i hi=>by
  by_cases h:i<ops.size<;>simp [h] at hi) (by simp [b9]) (by simp [b9]) od (by rw[bG];exact r1) r3 (fun Y a' aY bz=>hQ Y a' (hx.trans (hk.ext.trans aY)) bz)
end Go.Ref

namespace Go.Ref
open Go
variable {P:Program} {E:Env} {X:ax} {s:State} {a:Act}
def Ex.exit':Ex->Exit
 | .normal=> .normal
 | .exit id=> .exit id
 | .ret=> .ret
theorem aiv{Q:Exit->Act->World->Prop}{c:Code}(I:Nat->Act->World->Prop)(round:∀n a w,I n a w->∃m,n=m+1/\c.wp P (Exit.then (I m) Q) a w){n:Nat}{a:Act}{w:World}(h₀:I n a w):(Code.loop c).wp P Q a w:=by
 intro b k cs
 have key:∀n a w,I n a w->∃e a' w',Q e a' w'/\Arrives P (lone (b.at a (.code c:: .inLoop c::k)) cs w) b k cs e a' w':=by
  intro n
  induction n with
  |zero=>intro a w h;obtain⟨m,hm,_⟩:=round 0 a w h;cases hm
  |succ n ih=>
   intro a w h
   obtain⟨m,hm,hr⟩:=round (n+1) a w h
   cases hm
   obtain⟨e,a₁,w₁,hq,nC⟩:=hr b (.inLoop c::k) cs
   cases e with
   |normal=>
    obtain⟨e₂,a₂,w₂,hq₂,harr₂⟩:=ih a₁ w₁ hq
    exact⟨e₂,a₂,w₂,hq₂,.of_steps (Steps.trans nC (.one step_inLoop)) harr₂⟩
   |exit id=>exact⟨_,a₁,w₁,hq,.pass (x:= .inLoop c) rfl (fun _ _=> .inl (by simp)) nC⟩
   |goto l=>exact⟨_,a₁,w₁,hq,.pass (x:= .inLoop c) rfl (fun _ _=> .inl (by simp)) nC⟩
   |ret=>exact⟨_,a₁,w₁,hq,.pass (x:= .inLoop c) rfl (fun _ _=> .inl (by simp)) nC⟩
   |panic ch=>exact⟨_,a₁,w₁,hq,.pass (x:= .inLoop c) rfl (fun _ _=> .inl (by simp)) nC⟩
   |outgrown=>exact⟨_,a₁,w₁,hq,.pass (x:= .inLoop c) rfl (fun _ _=> .inl (by simp)) nC⟩
 obtain⟨e,a',w',hq,nC⟩:=key n a w h₀
 exact⟨e,a',w',hq,.of_steps (.one step_loop) nC⟩
theorem Gi{α:Type}(z:α)(l:List Nat):∀(xs:List α) (i j:Nat),(gJ z l i xs)[j]? =(xs[j]?).map fun x=>bif l.any (Nat.beq (i+j)) then x else z
 | [],i,j=>by simp [gJ]
 |x::r,i,0=>by simp [gJ]
 |x::r,i,j+1=>by
  simp only[gJ,List.getElem?_cons_succ]
  rw[Gi z l r (i+1) j,show i+1+j=i+(j+1) by omega]
theorem zim{α:Type}(z:α)(l:List Nat):∀(xs:List α) (i:Nat),(gJ z l i xs).length=xs.length
 | [],i=>rfl
 |x::r,i=>by simp [gJ,zim z l r]
theorem Ou{p q:List Nat}:∀{l:List (List Nat)},q∈vg p l->q=p\/q∈l
 | [],h=>by simp [vg] at h;exact .inl h
 |r::l,h=>by
  simp only[vg] at h
  cases hl:ltL r p with
  |false=>rw[hl] at h;simpa using h
  |true=>
   rw[hl] at h
   rcases List.mem_cons.1 h with h|h
   ·exact .inr (by simp [h])
   ·rcases Ou h with h|h
    ·exact .inl h
    ·exact .inr (List.mem_cons_of_mem _ h)
theorem T8{q:List Nat}:∀{l:List (List Nat)},q∈nV l->q∈l
 | [],h=>h
 |p::l,h=>by
  rcases Ou h with h|h
  ·simp [h]
  ·exact List.mem_cons_of_mem _ (T8 h)
theorem alr{v:SV}{id:Nat}{t:Ty}{p:List Nat}(h:v.norm= .ptr id t p):v= .ptr id t p:=by
 cases v<;>simp [SV.norm] at h
 obtain⟨h1,h2,h3⟩:=h
 rw[h1,h2,h3]
theorem aA.norm{pl:List Nat->Place}{sv:SV}{v:Value}(hr:aA X pl sv v):aA X pl sv.norm v:=by
 cases sv with
 |aj t x own=>
  obtain⟨cs,h1,h2,h3⟩:=hr
  exact⟨cs,h1,h2,fun p hp=>h3 p (T8 hp)⟩
 |_=>exact hr
theorem cS.norm{pl:Nat->List Nat->Place}{l:List SV}{v:Value}(hr:cS X pl l v):cS X pl (l.map SV.norm) v:=by
 match l,hr with
 | [s],hr=>exact aA.norm hr
 | [],hr=>exact hr
 |x::y::r,⟨vs,h1,h2,h3⟩=>
  refine⟨vs,h1,by simpa using h2,fun j s u hs hu=> ?_⟩
  have hs:((x::y::r).map SV.norm)[j]? =some s:=hs
  rw[List.getElem?_map] at hs
  obtain⟨s0,fF,rfl⟩:=Option.map_eq_some_iff.1 hs
  exact aA.norm (h3 j s0 u fF hu)
theorem dK.less{r:Nat}{pl:List Nat->Place}{t:Ty}{x:El t}{own jZ:List (List Nat)}(ho:∀p∈jZ,p∈own)(h:dK X r pl t x own):dK X r pl t x jZ:=by
 unfold dK at h⊢
 split at h
 ·exact h
 ·exact h
 ·exact h
 ·exact⟨h.1,fun hm=>h.2 (ho [] hm)⟩
 ·exact⟨h.1,fun hp=>h.2 fun p hm=>ho p (hp p hm)⟩
 ·exact h.elim
 ·obtain⟨cs,T,h1,h2,h3⟩:=h
  exact⟨cs,T,h1,h2,fun p hp=>h3 p (ho p hp)⟩
theorem Rel.norm(hr:Rel X s a):Rel X s.norm a where
 size:=by simpa [State.norm] using hr.size
 ia:=by simpa [State.norm] using hr.ia
 bR:=fun i l v hl hv=>by
  simp only[State.norm,List.getElem?_map] at hl
  obtain⟨l0,h0,rfl⟩:=Option.map_eq_some_iff.1 hl
  exact cS.norm (hr.bR i l0 v h0 hv)
 boxes:=fun id B hB=>by
  simp only[State.norm,List.getElem?_map] at hB
  obtain⟨b0,h0,h1⟩:=Option.map_eq_some_iff.1 hB
  obtain⟨B0,rfl,rfl⟩:=Option.map_eq_some_iff.1 h1
  obtain⟨r,g1,g2,g3⟩:=hr.boxes id B0 h0
  exact⟨r,g1,g2,g3.less fun p hp=>T8 hp⟩
 live:=fun i l id t p hl hm=>by
  simp only[State.norm,List.getElem?_map] at hl
  obtain⟨l0,h0,rfl⟩:=Option.map_eq_some_iff.1 hl
  obtain⟨v0,LL,he⟩:=List.mem_map.1 hm
  rw[alr he] at LL
  obtain⟨B,hB⟩:=hr.live i l0 id t p h0 LL
  exact⟨B.norm,by simp [State.norm,hB]⟩
 defers:=hr.defers
 bA:=hr.bA.less (fun i l id b c j hl hm=>by
  simp only[State.norm,List.getElem?_map] at hl
  obtain⟨l0,h0,rfl⟩:=Option.map_eq_some_iff.1 hl
  obtain⟨v0,LL,he⟩:=List.mem_map.1 hm
  have:v0= .bA id b c j:=by cases v0<;>simp [SV.norm] at he;rw[he.1,he.2.1,he.2.2.1,he.2.2.2]
  subst this
  exact⟨l0,h0,LL,fun e=>by rw[e];rfl⟩) (fun id b c x own _ hb ho=>⟨x,nV own,by simp [State.norm,hb,bD.norm],fun hm=>ho (T8 hm)⟩)
theorem QU(hr:Rel X s a){l:List Nat}{R:Type}{K:State->Option R}{z:R}(h:sM l s K=some z):∃s',K s'=some z/\Rel X s' a:=by
 unfold sM at h
 simp only at h
 cases hb:(gJ [.undef] l 0 s.sl).all (fun v=>v.all (SV.roots l)) with
 |false=>rw[hb] at h;cases h
 |true=>
  rw[hb] at h
  refine⟨_,h,Rel.norm ?_⟩
  have jH:s.bs=s.bs.headD none::s.bs.tail:=by
   have:=hr.ia
   cases hs:s.bs with
   |nil=>rw[hs] at this;simp at this
   |cons b r=>rfl
  have cC:∀(id:Nat) B,(s.bs.headD none::gJ none l 0 s.bs.tail)[id]? =some (some B)->s.bs[id]? =some (some B):=by
   intro id B hB
   rw[jH]
   cases id with
   |zero=>exact hB
   |succ id=>
    simp only[List.getElem?_cons_succ] at hB⊢
    rw[Gi] at hB
    obtain⟨x,hx,he⟩:=Option.map_eq_some_iff.1 hB
    rw[hx]
    cases hl:l.any (Nat.beq (0+id))<;>rw[hl] at he
    ·cases he
    ·rw[<-he];rfl
  refine⟨by rw[zim];exact hr.size,?_,fun i v x hv hx=> ?_,fun id B hB=>hr.boxes id B (cC id B hB),fun i v id t p hv hm=> ?_,hr.defers,hr.bA.less (fun i v id c d j hv hm=> ?_) (fun id c d x own hex n8 ho=> ?_)⟩
  ·simp only[List.length_cons,zim,List.length_tail]
   have:=hr.ia
   omega
  ·rw[Gi] at hv
   obtain⟨y,hy,rfl⟩:=Option.map_eq_some_iff.1 hv
   cases hl:l.any (Nat.beq (0+i)) with
   |false=>trivial
   |true=>exact hr.bR i y x hy hx
  ·have u6:SV.roots l (.ptr id t p)=true:=by
    have:=List.all_eq_true.1 hb v (List.mem_of_getElem? hv)
    exact List.all_eq_true.1 this _ hm
   rw[Gi] at hv
   obtain⟨y,hy,he⟩:=Option.map_eq_some_iff.1 hv
   have sU:SV.ptr id t p∈y:=by
    cases hl:l.any (Nat.beq (0+i)) with
    |false=>rw[hl] at he;subst he;simp at hm
    |true=>rw[hl] at he;subst he;exact hm
   obtain⟨B,hB⟩:=hr.live i y id t p hy sU
   refine⟨B,?_⟩
   rw[jH] at hB
   cases id with
   |zero=>exact hB
   |succ id=>
    simp only[List.getElem?_cons_succ] at hB⊢
    rw[Gi,hB]
    have:l.any (Nat.beq id)=true:=u6
    have h2:l.any (Nat.beq (0+id))=true:=by rw[Nat.zero_add];exact this
    simp [this]
  ·rw[Gi] at hv
   obtain⟨y,hy,he⟩:=Option.map_eq_some_iff.1 hv
   cases hl:l.any (Nat.beq (0+i)) with
   |false=>rw[hl] at he;subst he;simp at hm
   |true=>rw[hl] at he;subst he;exact⟨y,hy,hm,fun h=>h⟩
  ·obtain⟨i,v,j,hv,hm⟩:=hex
   have u6:SV.roots l (.bA id c d j)=true:=by
    have:=List.all_eq_true.1 hb v (List.mem_of_getElem? hv)
    exact List.all_eq_true.1 this _ hm
   refine⟨x,own,?_,ho⟩
   rw[jH] at n8
   cases id with
   |zero=>exact n8
   |succ id=>
    simp only[List.getElem?_cons_succ] at n8⊢
    rw[Gi,n8]
    have:l.any (Nat.beq id)=true:=u6
    have h2:l.any (Nat.beq (0+id))=true:=by rw[Nat.zero_add];exact this
    simp [this]
def ax.still(X:ax)(r n:Nat):ax:={X with ow:=fun g=>if g=r then .ro n else X.ow g}
theorem yx{r n id:Nat}(h:X.ow r= .box id){ad:Addr}{v:Value}(hs:X.ay ad v):(X.still r n).ay ad v:=by
 have bK:ad.block≠r:=fun e=>by
  have:=hs.2.2
  rw[e,h] at this
  exact this
 refine⟨hs.1,hs.2.1,?_⟩
 simp only[ax.still]
 rw[if_neg bK]
 exact hs.2.2
theorem z152{r n id:Nat}(h:X.ow r= .box id):Ext X (X.still r n) where
 ay:=fun _ _=>yx h
 size:=Nat.le_refl _
 os:=rfl
 tape:=rfl
 output:=rfl
 β0:=rfl
 still:=fun g _ bQ=>by
  have bK:g≠r:=fun e=>by rw[e,h] at bQ;exact bQ
  exact⟨by simp only[ax.still];rw[if_neg bK],rfl⟩
theorem bu.fh{r n id:Nat}(h:X.ow r= .box id){pl:Place}{e:TypeId}{k m:Nat}{v:Value}(ho:bu X pl e k m v):bu (X.still r n) pl e k m v:=by
 rcases ho with ho|⟨g,cap,cur,h1,h2,h3,h4,h5,h6⟩
 ·exact .inl ho
 ·have bK:g≠r:=fun e=>by rw[e,h] at h6;cases h6
  exact .inr ⟨g,cap,cur,h1,h2,h3,h4,h5,by simp only[ax.still];rw[if_neg bK];exact h6⟩
theorem bn.fh{r n id:Nat}(h:X.ow r= .box id){pl:List Nat->Place}{t:Ty}{x:El t}{c:List Value}{own:List (List Nat)}(ho:bn X pl t x c own):bn (X.still r n) pl t x c own:=fun p hp=>by
 obtain⟨e,t',xs,v,g0,g1,g2,g3⟩:=ho p hp
 exact⟨e,t',xs,v,g0,g1,g2,g3.fh h⟩
theorem aA.fh{r n id:Nat}(h:X.ow r= .box id){pl:List Nat->Place}{sv:SV}{v:Value}(hk:∀bc c d j,sv= .bA bc c d j->bc≠id)(hr:aA X pl sv v):aA (X.still r n) pl sv v:=by
 cases sv with
 |aj t x own=>
  obtain⟨c,h1,h2,h3⟩:=hr
  exact⟨c,h1.ai (fun _ _=>yx h),h2,h3.fh h⟩
 |view t x=>
  obtain⟨ad,c,h1,h2,h3,h4⟩:=hr
  exact⟨ad,c,h1,h2,h3.ai (fun _ _=>yx h),fun i u hi=>yx h (h4 i u hi)⟩
 |cap f t x u y=>exact sG (fun _ _=>yx h) hr
 |bA bc c d j=>
  obtain⟨r',h1,h2,h3⟩:=hr
  have bK:r'≠r:=fun e=>by rw[e,h] at h2;injection h2 with h2;exact hk bc c d j rfl h2.symm
  exact⟨r',h1,by simp only[ax.still];rw[if_neg bK];exact h2,h3⟩
 |_=>exact hr
theorem T1(l:List Nat):∀(xs:List (Option bD)) (i j:Nat),(jG l i xs)[j]? =(xs[j]?).map fun b=>bif l.any (Nat.beq (i+j)) then b.map (fun B=>{B with own:=[]}) else b
 | [],i,j=>by simp [jG]
 |x::r,i,0=>by simp [jG]
 |x::r,i,j+1=>by
  simp only[jG,List.getElem?_cons_succ]
  rw[T1 l r (i+1) j,show i+1+j=i+(j+1) by omega]
theorem MH(l:List Nat):∀(xs:List (Option bD)) (i:Nat),(jG l i xs).length=xs.length
 | [],i=>rfl
 |x::r,i=>by simp [jG,MH l r]
theorem Rel.drop(hr:Rel X s a)(l:List Nat):Rel X (s.drop l) a where
 size:=hr.size
 ia:=by simp only[State.drop,MH];exact hr.ia
 bR:=hr.bR
 boxes:=fun id B hB=>by
  simp only[State.drop,T1] at hB
  obtain⟨b0,h0,h1⟩:=Option.map_eq_some_iff.1 hB
  cases hl:l.any (Nat.beq (0+id)) with
  |false=>rw[hl] at h1;simp only[cond_false] at h1;subst h1;exact hr.boxes id B h0
  |true=>
   rw[hl] at h1
   simp only[cond_true] at h1
   obtain⟨B0,rfl,rfl⟩:=Option.map_eq_some_iff.1 h1
   obtain⟨r,g1,g2,g3⟩:=hr.boxes id B0 h0
   exact⟨r,g1,g2,g3.less fun p hp=>by cases hp⟩
 live:=fun i v id t p hv hm=>by
  obtain⟨B,hB⟩:=hr.live i v id t p hv hm
  simp only[State.drop,T1,hB,Option.map_some]
  cases l.any (Nat.beq (0+id))<;>exact⟨_,rfl⟩
 defers:=hr.defers
 bA:=hr.bA.less (fun i l id c d j hl hm=>⟨l,hl,hm,fun h=>h⟩) (fun id c d x own _ hb ho=>by
  simp only[State.drop,T1,hb,Option.map_some]
  cases l.any (Nat.beq (0+id)) with
  |false=>exact⟨x,own,rfl,ho⟩
  |true=>exact⟨x,[],rfl,by simp⟩)
theorem alQ(hr:Rel X s a){r:Nat}{R:Type}{K:State->Option R}{z:R}(h:sw E r s K=some z):∃Y s',Y.w=X.w/\Ext X Y/\K s'=some z/\Rel Y s' a:=by
 unfold sw at h
 split at h
 ·exact⟨X,s,rfl,Ext.refl X,h,hr⟩
 rename_i d T hfz
 split at h
 case h_2=>cases h
 rename_i id n ta tb e t jc hT
 split at h
 case isFalse=>cases h
 rename_i heq
 have:=Ty.aI heq
 subst this
 split at h
 case h_2=>cases h
 rename_i B hB
 split at h
 case isFalse=>cases h
 rename_i dy
 obtain⟨hb,rr,h1,how,cs,T',aE,c9,fX⟩:=GX hr hB dy
 generalize(Ty.cast dy B.x:List (El ta))=xs at*
 cases hn:Nat.beq n (List.length xs) with
 |false=>rw[hn] at h;cases h
 |true=>
  rw[hn] at h
  have hn:=Nat.eq_of_beq_eq_true hn
  have hd:d<s.sl.length:=by
   rcases Nat.lt_or_ge d s.sl.length with h1|h1
   ·exact h1
   ·simp [State.slot,List.getElem?_eq_none h1] at jc
  have eL:=hr.slot d
  rw[jc] at eL
  obtain⟨r0,hβ,cap,hv,nF⟩:=(show aA X (.c d 0) (.ptr id (.aF (.ju n) ta tb) []) _ from eL)
  rw[h1] at hβ
  cases hβ
  have al:id<s.bs.length:=(List.getElem?_eq_some_iff.1 hb).1
  have og:=hr.pj hb (.inl (by rw[Ty.aI dy];rfl))
  refine⟨X.still rr (xs.length*ta.cells),_,rfl,z152 how,h,?_,?_,fun i l v hl hx=> ?_,fun bc B' eQ=> ?_,fun i l j t p hl hm=> ?_,hr.defers,hr.bA.less (fun i l sm c2 d2 j hl hm=> ?_) (fun sm c2 d2 x2 kQ hex mF ho=> ?_)⟩
  ·simpa using hr.size
  ·simpa using hr.ia
  ·replace hl:((s.sl.map (mC id)).set d [.aj (.sl e ta) xs []])[i]? =some l:=hl
   rw[List.getElem?_set] at hl
   split at hl
   ·rename_i uI
    subst uI
    rw[if_pos (by simpa using hd)] at hl
    cases hl
    have Bg:a.tmps.getD d Go.undef=v:=by
     rw[Array.getD_eq_getD_getElem?,hx];rfl
    rw[Bg] at hv
    refine⟨[v],?_,rfl,m7⟩
    rw[hv,hn]
    refine bh.yk rfl (by omega) (fun j y hj=>⟨⟨rr,0,none⟩,_,rfl,rfl,(fX j y hj).ai (fun _ _=>yx how),fun i u hi=> ?_⟩)
    have uN:=(List.getElem?_eq_some_iff.1 hj).1
    have hle:(j+1)*ta.cells<=xs.length*ta.cells:=Nat.mul_le_mul_right _ uN
    rw[Nat.add_mul,Nat.one_mul] at hle
    rw[List.getElem?_take] at hi
    split at hi
    case isFalse=>cases hi
    rename_i Te
    rw[List.getElem?_drop] at hi
    refine⟨BN rfl _,?_,?_⟩
    ·rw[jq,Nat.zero_add]
     show X.w.cell? _=_
     simp only[World.cell?,aE]
     simpa using hi
    ·rw[jq,Nat.zero_add]
     show Ow.used (if rr=rr then .ro (xs.length*ta.cells) else X.ow rr) _
     rw[if_pos rfl]
     show j*ta.cells+i<_
     omega
   ·rw[List.getElem?_map] at hl
    obtain⟨l0,h0,rfl⟩:=Option.map_eq_some_iff.1 hl
    exact N3 ((hr.bR i l0 v h0 hx).jx fun j sv u hm kc=>kc.fh how (fun bc c d k e e2=>og i l0 c d k h0 (e2▸e▸List.mem_of_getElem? hm)))
  ·replace eQ:(s.bs.set id none)[bc]? =some (some B'):=eQ
   rw[List.getElem?_set] at eQ
   split at eQ
   ·rename_i Lh
    cases eQ
   ·rename_i Lh
    obtain⟨r',g1,g2,g3⟩:=hr.boxes bc B' eQ
    have bK:r'≠rr:=fun e2=>by rw[e2,how] at g2;cases g2;exact Lh rfl
    exact⟨r',g1,by simp only[ax.still];rw[if_neg bK];exact g2,g3.move (fun _ _=>yx how) rfl (fun cs h5=>h5.fh how) fun _ _ g o _ ho hw=>⟨ho,by simp only[ax.still];rw[if_neg (fun e3=>by rw[e3,how] at hw;cases hw)];exact hw⟩⟩
  ·replace hl:((s.sl.map (mC id)).set d [.aj (.sl e ta) xs []])[i]? =some l:=hl
   rw[List.getElem?_set] at hl
   split at hl
   ·rw[if_pos (by simpa using hd)] at hl
    cases hl
    simp at hm
   ·rw[List.getElem?_map] at hl
    obtain⟨l0,h0,rfl⟩:=Option.map_eq_some_iff.1 hl
    obtain⟨hm,bK⟩:=Py hm
    obtain⟨B2,c8⟩:=hr.live i l0 j t p h0 hm
    exact⟨B2,by show(s.bs.set id none)[j]? =_;rw[List.getElem?_set,if_neg (fun e=>bK e.symm)];exact c8⟩
  ·replace hl:((s.sl.map (mC id)).set d [.aj (.sl e ta) xs []])[i]? =some l:=hl
   rw[List.getElem?_set] at hl
   split at hl
   ·rw[if_pos (by simpa using hd)] at hl
    cases hl
    simp at hm
   ·rw[List.getElem?_map] at hl
    obtain⟨l0,h0,rfl⟩:=Option.map_eq_some_iff.1 hl
    obtain⟨g1,g2⟩:=EH hm
    exact⟨l0,h0,g1,g2⟩
  ·refine⟨x2,kQ,?_,ho⟩
   show(s.bs.set id none)[sm]? =_
   rw[List.getElem?_set,if_neg (fun e=> ?_)]
   ·exact mF
   ·subst e
    rw[hb] at mF
    cases mF
    cases(Ty.aI dy)
theorem NF(hr:Rel X s a){id rr:Nat}{B:bD}(hb:s.bs[id]? =some (some B))(hs:B.t.bH=false)(h1:X.β id=some rr)(how:X.ow rr= .box id){cs:Array Value}{T:TypeId}(aE:X.w.heap[rr]? =some (.cells cs T (0,0)))(aM:bh X B.t B.x cs.toList){pl:List Nat->Place}{sv:SV}{v:Value}(hk:∀bc c d j,sv= .bA bc c d j->bc≠id)(h:aA X pl sv v):aA (X.still rr cs.size) pl (sO id B sv) v:=by
 have dF:=h.fh (n:=cs.size) how hk
 cases sv with
 |ptr j t p=>
  unfold sO
  simp only
  cases hj:Nat.beq j id with
  |false=>exact dF
  |true=>
   have:=Nat.eq_of_beq_eq_true hj
   subst this
   simp only[cond_true]
   split
   case isFalse=>trivial
   rename_i heq
   have:=Ty.aI heq
   subst this
   split
   case h_2=>trivial
   rename_i u y cC
   obtain⟨r0,hβ,hv⟩:=h
   rw[h1] at hβ
   cases hβ
   obtain⟨hv,dv⟩:=(rf hs).1 hv
   obtain⟨k1,k2,k3⟩:=Sb aM dv cC
   refine⟨_,_,hv,rfl,k3.ai (fun _ _=>yx how),fun i w hi=>⟨BN rfl _,?_,?_⟩⟩
   ·exact Um aE hi
   ·rw[jq]
    show Ow.used (if rr=rr then .ro cs.size else X.ow rr) _
    rw[if_pos rfl]
    rw[List.getElem?_take] at hi
    split at hi
    case isFalse=>cases hi
    rw[List.getElem?_drop] at hi
    have:=(List.getElem?_eq_some_iff.1 hi).1
    show _<cs.size
    simpa using this
 |_=>exact dF
theorem air(hr:Rel X s a){id rr:Nat}{B:bD}(hb:s.bs[id]? =some (some B))(hs:B.t.bH=false)(h1:X.β id=some rr)(how:X.ow rr= .box id){cs:Array Value}{T:TypeId}(aE:X.w.heap[rr]? =some (.cells cs T (0,0)))(aM:bh X B.t B.x cs.toList){pl:Nat->List Nat->Place}{l:List SV}{v:Value}(hk:∀bc c d j,SV.bA bc c d j∈l->bc≠id)(h:cS X pl l v):cS (X.still rr cs.size) pl (l.map (sO id B)) v:=by
 match l,h with
 | [sv],h=>exact NF hr hb hs h1 how aE aM (fun bc c d j e=>hk bc c d j (by simp [e])) h
 | [],⟨vs,g1,g2,g3⟩=>exact⟨vs,g1,g2,fun j sv u mI=>by simp at mI⟩
 |x::y::r,⟨vs,g1,g2,g3⟩=>
  refine⟨vs,g1,by simpa using g2,fun j sv u mI hu=> ?_⟩
  have mI:((x::y::r).map (sO id B))[j]? =some sv:=mI
  rw[List.getElem?_map] at mI
  obtain⟨s0,fF,rfl⟩:=Option.map_eq_some_iff.1 mI
  exact NF hr hb hs h1 how aE aM (fun bc c d j e=>hk bc c d j (e▸List.mem_of_getElem? fF)) (g3 j s0 u fF hu)
theorem alV{id:Nat}{B:bD}{l:List SV}{j:Nat}{t:Ty}{p:List Nat}(h:SV.ptr j t p∈l.map (sO id B)):SV.ptr j t p∈l/\j≠id:=by
 obtain⟨s0,fF,he⟩:=List.mem_map.1 h
 unfold sO at he
 cases s0 with
 |ptr j' t' p'=>
  simp only at he
  cases hb:Nat.beq j' id with
  |true=>
   rw[hb] at he
   simp only[cond_true] at he
   split at he
   ·split at he<;>cases he
   ·cases he
  |false=>
   rw[hb] at he
   cases he
   exact⟨fF,fun e=>Nat.ne_of_beq_eq_false hb e⟩
 |_=>simp only at he;cases he
theorem alU{id:Nat}{B:bD}{l:List SV}{i j:Nat}{a b:Ty}(h:SV.bA i a b j∈l.map (sO id B)):SV.bA i a b j∈l/\(l=[.bA i a b j]->l.map (sO id B)=[.bA i a b j]):=by
 refine⟨?_,fun e=>by rw[e];rfl⟩
 obtain⟨s0,fF,he⟩:=List.mem_map.1 h
 unfold sO at he
 cases s0 with
 |ptr j' t' p'=>
  simp only at he
  cases hb:Nat.beq j' id with
  |true=>
   rw[hb] at he
   simp only[cond_true] at he
   split at he
   ·split at he<;>cases he
   ·cases he
  |false=>rw[hb] at he;cases he
 |_=>simp only at he;first|(cases he;done)|(rw[<-he];exact fF)
theorem ado(hr:Rel X s a){id:Nat}{R:Type}{K:State->Option R}{z:R}(h:Xt id s K=some z):∃Y s',Y.w=X.w/\Ext X Y/\K s'=some z/\Rel Y s' a:=by
 unfold Xt at h
 split at h
 case h_2=>cases h
 rename_i B hB
 split at h
 case isTrue=>cases h
 rename_i hs
 have hs:B.t.bH=false:=by simpa using hs
 have hb:=rh hB
 obtain⟨rr,h1,uH⟩:=hr.boxes id B hb
 obtain⟨cs,T,aE,aM,how,_⟩:=uH.cells hs
 refine⟨X.still rr cs.size,_,rfl,z152 how,h,by simpa using hr.size,by simpa using hr.ia,fun i l v hl hx=> ?_,fun bc B' eQ=> ?_,fun i l j t p hl hm=> ?_,hr.defers,hr.bA.less (fun i l sm c2 d2 j hl hm=> ?_) (fun sm c2 d2 x2 kQ hex mF ho=> ?_)⟩
 ·replace hl:(s.sl.map fun l=>l.map (sO id B))[i]? =some l:=hl
  rw[List.getElem?_map] at hl
  obtain⟨l0,h0,rfl⟩:=Option.map_eq_some_iff.1 hl
  exact air hr hb hs h1 how aE aM (fun bc c d j hm e=>hr.pj hb (.inl (Se hs)) i l0 c d j h0 (e▸hm)) (hr.bR i l0 v h0 hx)
 ·replace eQ:(s.bs.set id none)[bc]? =some (some B'):=eQ
  rw[List.getElem?_set] at eQ
  split at eQ
  ·split at eQ<;>cases eQ
  ·rename_i Lh
   obtain⟨r',g1,g2,g3⟩:=hr.boxes bc B' eQ
   have bK:r'≠rr:=fun e2=>by rw[e2,how] at g2;cases g2;exact Lh rfl
   exact⟨r',g1,by simp only[ax.still];rw[if_neg bK];exact g2,g3.move (fun _ _=>yx how) rfl (fun cs h5=>h5.fh how) fun _ _ g o _ ho hw=>⟨ho,by simp only[ax.still];rw[if_neg (fun e3=>by rw[e3,how] at hw;cases hw)];exact hw⟩⟩
 ·replace hl:(s.sl.map fun l=>l.map (sO id B))[i]? =some l:=hl
  rw[List.getElem?_map] at hl
  obtain⟨l0,h0,rfl⟩:=Option.map_eq_some_iff.1 hl
  obtain⟨hm,bK⟩:=alV hm
  obtain⟨B2,c8⟩:=hr.live i l0 j t p h0 hm
  exact⟨B2,by show(s.bs.set id none)[j]? =_;rw[List.getElem?_set,if_neg (fun e=>bK e.symm)];exact c8⟩
 ·replace hl:(s.sl.map fun l=>l.map (sO id B))[i]? =some l:=hl
  rw[List.getElem?_map] at hl
  obtain⟨l0,h0,rfl⟩:=Option.map_eq_some_iff.1 hl
  obtain⟨g1,g2⟩:=alU hm
  exact⟨l0,h0,g1,g2⟩
 ·refine⟨x2,kQ,?_,ho⟩
  show(s.bs.set id none)[sm]? =_
  rw[List.getElem?_set,if_neg (fun e=> ?_)]
  ·exact mF
  ·subst e
   rw[hb] at mF
   cases mF
   cases hs
theorem zow{R:Type}{K:State->Option R}{z:R}:∀(l:List Nat) (X:ax) (s:State),Rel X s a->Il l s K=some z->∃Y s',Y.w=X.w/\Ext X Y/\K s'=some z/\Rel Y s' a
 | [],X,s,hr,h=>⟨X,s,rfl,Ext.refl X,h,hr⟩
 |id::r,X,s,hr,h=>by
  obtain⟨Y,s1,h1,h2,h3,h4⟩:=ado hr h
  obtain⟨Z,s2,k1,k2,k3,k4⟩:=zow r Y s1 h4 h3
  exact⟨Z,s2,k1.trans h1,h2.trans k2,k3,k4⟩
def Fr(E:Env)(X0:ax):Prop:=E.sp≠none->∀g pl n,X0.ow g≠ .row pl n
def NJ(P:Program)(E:Env)(C:ag)(k:Nat)(c:Code):Prop:=
 ∀(X0 X:ax) (s:State) (a:Act) (e:Ex) (s':State),Fr E X0->Ext X0 X->Rel X s a->ev E (C (Ex×State)) k c s (fun e s=>some (e,s))=some (e,s')->
  ∀(Q:Exit->Act->World->Prop),(∀Y a',Ext X0 Y->Rel Y s' a'->Q e.exit' a' Y.w)->c.wp P Q a X.w
theorem alf(hr:Rel X s a){k r:Nat}{R:Type}{K:State->Option R}{z:R}(h:nR E k r s K=some z):∃s',K s'=some z/\Rel X s' a:=by
 unfold nR at h
 split at h
 ·exact⟨s,h,hr⟩
 ·obtain⟨s',h1,h2⟩:=QU hr h
  refine⟨s',?_,h2⟩
  unfold cL at h1
  split at h1
  ·cases h1
  ·exact h1
theorem ahB{C:ag}(hC:C.Nat){k:Nat}{b:Code}(hb:NJ P E C k b){l lx:List Nat}{Q:Exit->Act->World->Prop}{e':Ex}{s':State}{X0:ax}(hF:Fr E X0)(hQ:∀Y a',Ext X0 Y->Rel Y s' a'->Q e'.exit' a' Y.w):
 ∀(n:Nat) (a:Act) (w:World),(∃X s,X.w=w/\Ext X0 X/\Rel X s a/\az (ev E (C (Ex×State)) k b) l lx n s (fun e s=>some (e,s))=some (e',s'))->
  ∃m,n=m+1/\b.wp P (Exit.then (fun a w=>∃X s,X.w=w/\Ext X0 X/\Rel X s a/\az (ev E (C (Ex×State)) k b) l lx m s (fun e s=>some (e,s))=some (e',s')) Q) a w:=by
 rintro n a w ⟨X,s,rfl,aY,hr,h⟩
 cases n with
 |zero=>cases h
 |succ m=>
  refine⟨m,rfl,?_⟩
  simp only[az] at h
  obtain⟨⟨e1,s2⟩,h1,h2⟩:=kf (wA hC b _ (fun e s=>some (e,s)) (K:=fun z=>match z.1 with
   | .normal=>sM l z.2 fun s=>az (ev E (C (Ex×State)) k b) l lx m s (fun e s=>some (e,s))
   |e=>sM lx z.2 fun s=>some (e,s)) (fun e s=>by cases e<;>rfl) s) h
  refine hb X0 X s a e1 s2 hF aY hr h1 _ fun Y a' cf bz=> ?_
  cases e1 with
  |normal=>
   obtain⟨s3,h3,CX⟩:=QU bz h2
   exact⟨Y,s3,rfl,cf,CX,h3⟩
  |exit id=>
   obtain⟨s3,h3,CX⟩:=QU bz h2
   cases h3
   exact hQ Y a' cf CX
  |ret=>
   obtain⟨s3,h3,CX⟩:=QU bz h2
   cases h3
   exact hQ Y a' cf CX
theorem za0(hE:ak P E)(hm:P.follows .mixedOrders=true){C:ag}(hC:C.Nat)(hf:∀f,de P C f){id:Nat}{ops:Array Oper}{d:Bool}{X00 X0:ax}{s0:State}{a:Act}{e:Ex}{s':State}(hx:Ext X00 X0)(hr0:Rel X0 s0 a)(h0:GV E (C (Ex×State)) id ops d s0 ((fun e s=>some (e,s)) Ex.normal)=some (e,s')){Q:Exit->Act->World->Prop}(hQ0:∀Y a',Ext X00 Y->Rel Y s' a'->Q e.exit' a' Y.w):(Code.region id ops d).wp P Q a X0.w:=by
 unfold GV at h0
 obtain⟨X1,s1,Tp,AY,h01,ea⟩:=alQ hr0 h0
 obtain⟨X,s,vT,cf,h,hr⟩:=zow _ X1 s1 ea h01
 have hw:X.w=X0.w:=vT.trans Tp
 have AX:Ext X0 X:=AY.trans cf
 clear h01 ea Tp vT AY cf
 have hQ:∀Y a',Ext X Y->Rel Y s' a'->Q e.exit' a' Y.w:=fun Y a' aY bz=>hQ0 Y a' (hx.trans (AX.trans aY)) bz
 rw[<-hw]
 clear h0 hr0 hQ0 AX hw
 cases d with
 |true=>
  simp only[cond_true] at h
  obtain⟨s1,h1,h2⟩:=kf (QY hC (F:=fun s=>some (Ex.normal,s)) (G:=some) (K:=fun s=>some (Ex.normal,s)) (fun _=>rfl) ops.toList 0 s []) h
  cases h2
  exact ahf hE hm hC hf hr h1 hQ
 |false=>
  simp only[cond_false] at h
  obtain⟨s1,h1,h2⟩:=kf (Gm hC (F:=fun s=>some (Ex.normal,s)) (G:=some) (K:=fun s=>some (Ex.normal,s)) (fun _=>rfl) ops.toList s) h
  cases h2
  refine wp_region (OO hE hC hf (List.range ops.size) X s a hr (fun i hi=>List.mem_range.1 hi) ?_ hQ)
  have:(List.range ops.size).map (fun i=>ops.getD i default)=ops.toList:=by
   apply List.ext_getElem?
   intro i
   rw[List.getElem?_map]
   by_cases hi:i<ops.size
   ·simp [hi]
   ·simp [hi]
  rw[this];exact h1
theorem Gf(hE:ak P E)(hm:P.follows .mixedOrders=true){C:ag}(hC:C.Nat)(hf:∀f,de P C f)(k:Nat):∀c:Code,NJ P E C k c
 | .skip=>fun X0 X s a e s' hF hx hr h Q hQ=>by
   simp only[ev,Option.some.injEq,Prod.mk.injEq] at h
   obtain⟨rfl,rfl⟩:=h
   exact wp_skip (hQ X a hx hr)
 | .region id ops d=>fun X0 X s a e s' hF hx hr h Q hQ=>by
   simp only[ev] at h
   split at h
   ·rename_i j q m5
    cases hj:Nat.beq id j with
    |true=>
     rw[hj,cond_true] at h
     cases d with
     |true=>cases h
     |false=>
      cases hq:Nat.beq q.2.2 0 with
      |true=>
       simp only[hq,cond_true] at h
       obtain⟨s1,h1,h2⟩:=kf (OE hC (F:=fun s=>some (Ex.normal,s)) (G:=some) (K:=fun s=>some (Ex.normal,s)) (fun _=>rfl)) h
       cases h2
       exact ahT hE hC hf (hF (by rw[m5];exact fun e=>by cases e)) hx hr h1 hQ
      |false=>
      simp only[hq,cond_false] at h
      obtain⟨s1,h1,h2⟩:=kf (OQ (F:=fun s=>some (Ex.normal,s)) (G:=some) (K:=fun s=>some (Ex.normal,s)) (fun _=>rfl)) h
      cases h2
      exact aii hE (hF (by rw[m5];exact fun e=>by cases e)) hx hr h1 hQ
    |false=>
     rw[hj,cond_false] at h
     exact za0 hE hm hC hf hx hr h hQ
   ·split at h
    ·exact za0 hE hm hC hf hx hr h hQ
    ·rename_i m l k hsg
     cases hi:Nat.beq id m with
     |true=>
      rw[hi,cond_true] at h
      cases d with
      |true=>cases h
      |false=>
       obtain⟨s1,h1,h2⟩:=kf (PM hC (F:=fun s=>some (Ex.normal,s)) (G:=some) (K:=fun s=>some (Ex.normal,s)) (fun _=>rfl)) h
       cases h2
       exact ali hE hC hf hx hr h1 hQ
     |false=>
     rw[hi,cond_false] at h
     cases CR:Nat.beq id l with
     |true=>
      rw[CR,cond_true] at h
      cases d with
      |false=>cases h
      |true=>
       obtain⟨s1,h1,h2⟩:=kf (On hC (F:=fun s=>some (Ex.normal,s)) (G:=some) (K:=fun s=>some (Ex.normal,s)) (fun _=>rfl)) h
       cases h2
       exact ahy hE hm hC hf hx hr h1 hQ
     |false=>
      rw[CR,cond_false] at h
      exact za0 hE hm hC hf hx hr h hQ
 | .seq x y=>fun X0 X s a e s' hF hx hr h Q hQ=>by
   simp only[ev] at h
   obtain⟨⟨e1,s1⟩,h1,h2⟩:=kf (wA hC x _ (fun e s=>some (e,s)) (K:=fun z=>match z.1 with
    | .normal=>nR E k (vD y) z.2 fun s=>ev E (C (Ex×State)) k y s (fun e s=>some (e,s))
    |e=>some (e,z.2)) (fun e s=>by cases e<;>rfl) s) h
   refine wp_seq (Gf hE hm hC hf k x X0 X s a e1 s1 hF hx hr h1 _ fun Y a' aY bz=> ?_)
   cases e1 with
   |normal=>
    obtain⟨s2,h2,bz⟩:=alf bz h2
    exact Gf hE hm hC hf k y X0 Y s2 a' e s' hF aY bz h2 Q hQ
   |exit id=>cases h2;exact hQ Y a' aY bz
   |ret=>cases h2;exact hQ Y a' aY bz
 | .cond c x y=>fun X0 X s a e s' hF hx hr h Q hQ=>by
   simp only[ev] at h
   have hc:=hr.aG c
   split at h
   case h_2=>cases h
   rename_i p w hs
   rw[hs] at hc
   have hv:=QI hc
   have ea:Rel X (s.av (vA c) (bl p)) a:=by
    cases c with
    |tmp i=>
     have jc:s.slot i=[.aj .bool p w]:=by
      have hh:one (s.slot i)= .aj .bool p w:=hs
      match hm:s.slot i,hh with
      | [sv],hh=>have CP:sv= .aj .bool p w:=hh;rw[CP]
      | [],hh=>cases hh
      |_::_::_,hh=>cases hh
     exact(hr.know jc).1
    |_=>exact hr
   refine wp_cond_split hv (fun hp=> ?_) (fun hp=> ?_)
   ·subst hp
    exact Gf hE hm hC hf k x X0 X _ a e s' hF hx ea h Q hQ
   ·subst hp
    exact Gf hE hm hC hf k y X0 X _ a e s' hF hx ea h Q hQ
 | .block id b=>fun X0 X s a e s' hF hx hr h Q hQ=>by
   simp only[ev] at h
   obtain⟨⟨e1,s1⟩,h1,h2⟩:=kf (wA hC b _ (fun e s=>some (e,s)) (K:=fun z=>match z.1 with
    | .exit j=>bif Nat.beq j id then some (.normal,z.2) else some (.exit j,z.2)
    |e=>some (e,z.2)) (fun e s=>by cases e<;>rfl) s) h
   refine wp_block (Gf hE hm hC hf k b X0 X s a e1 s1 hF hx hr h1 _ fun Y a' aY bz=> ?_)
   cases e1 with
   |normal=>cases h2;exact hQ Y a' aY bz
   |ret=>cases h2;exact hQ Y a' aY bz
   |exit j=>
    simp only at h2
    show(if j=id then Q .normal a' Y.w else Q (.exit j) a' Y.w)
    cases hj:Nat.beq j id with
    |true=>
     rw[hj] at h2;cases h2
     rw[if_pos (Nat.eq_of_beq_eq_true hj)]
     exact hQ Y a' aY bz
    |false=>
     rw[hj] at h2;cases h2
     rw[if_neg (Nat.ne_of_beq_eq_false hj)]
     exact hQ Y a' aY bz
 | .loop b=>fun X0 X s a e s' hF hx hr h Q hQ=>by
   simp only[ev] at h
   obtain⟨s1,h,ea⟩:=QU (hr.drop _) h
   exact aiv _ (ahB hC (Gf hE hm hC hf k b) hF (Q:=Q) hQ) ⟨X,s1,rfl,hx,ea,h⟩
 | .exit id=>fun X0 X s a e s' hF hx hr h Q hQ=>by
   simp only[ev,Option.some.injEq,Prod.mk.injEq] at h
   obtain⟨rfl,rfl⟩:=h
   exact wp_exit (hQ X a hx hr)
 | .ret=>fun X0 X s a e s' hF hx hr h Q hQ=>by
   simp only[ev,Option.some.injEq,Prod.mk.injEq] at h
   obtain⟨rfl,rfl⟩:=h
   exact wp_ret (hQ X a hx hr)
 | .rangeFunc .. =>fun X0 X s a e s' hF hx hr h Q hQ=>by simp only[ev] at h;cases h
 | .scope _=>fun X0 X s a e s' hF hx hr h Q hQ=>by simp only[ev] at h;cases h
 | .label _=>fun X0 X s a e s' hF hx hr h Q hQ=>by simp only[ev] at h;cases h
 | .goto _=>fun X0 X s a e s' hF hx hr h Q hQ=>by simp only[ev] at h;cases h
 | .refuse _=>fun X0 X s a e s' hF hx hr h Q hQ=>by simp only[ev] at h;cases h
end Go.Ref

