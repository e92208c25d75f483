/- No condition. -/
import Derived.Test.YtpjkbbihjoflnaaGreatDoorK0
import Derived.WideKeyRuns
import Derived.MapKept
import Derived.Laws.CopyRow
set_option linter.unusedVariables false
set_option linter.unusedSimpArgs false
set_option maxRecDepth 100000
namespace Go.Ref
open Go
variable {P:Program} {E:Env} {X:aw} {s:State} {a:Act} {o:Oper} {u:Out}
inductive Grown(w w':World)(e:TypeId)(k:Nat)(vb v':Value)(cx cy:List Value)(n:Nat):Prop where
 |same (h:w'=w) (hv:v'=vb) (hy:cy=[])
 |room (g cap:Nat) (cur fZ:Array Value) (hb:∃m,vb= .slice (some ⟨g,0,none⟩) m cap) (hg:w.heap[g]? =some (.cells cur e (0,0))) (hv:v'= .slice (some ⟨g,0,none⟩) n cap) (hn:n<=cap) (hm:cap<=maxLen)
   (hw:w'=w.setRow g fZ) (hs:fZ.size=cap*k) (ht:fZ.toList.take (n*k)=cx++cy)
 |new (cap:Nat) (fZ:Array Value) (hv:v'= .slice (some ⟨w.heap.size,0,none⟩) n cap) (hn:n<=cap) (hm:cap<=maxLen) (hw:w'=w.drew.alloc (.cells fZ e)) (hs:fZ.size=cap*k) (ht:fZ.toList.take (n*k)=cx++cy)
theorem adk(hE:al P E){T ty e:TypeId}{t:Ty}(hT:E.ty T=some (.sl e t))(hk:0<t.cells)(nG:E.bytes e≠0){xs ys:List (El t)}{vb vx:Value}{pl:Place}
 (bS:bp X pl e t.cells xs.length vb) {cx cy:List Value} (rx:bg X (.arr xs.length t) xs cx) (sx:∀g m c,vb= .slice (some ⟨g,0,none⟩) m c->∀(i:Nat) v,cx[i]? =some v->X.ay ((⟨g,0,none⟩:Addr).add i) v)
 (ry:bg X (.arr ys.length t) ys cy) (hvx:∃A c,vx= .slice A ys.length c/\(A=none->ys=[])/\∀ad,A=some ad->∀(i:Nat) v,cy[i]? =some v->X.ay (ad.add i) v)
 (hbound:(xs.length+ys.length)*E.bytes e<=140737488355328):
 ∃v' w',(Builtin.append_ #[T,T] ty #[vb,vx]).run P X.w= .ok v' w'/\Grown X.w w' e t.cells vb v' cx cy (xs.length+ys.length)/\(v'= .slice none 0 0->xs.length+ys.length=0):=by
 obtain⟨hu,he⟩:=(hE.ty T _ hT).dw
 obtain⟨i,hi,b6,gh,hz⟩:=(hE.ty e t he).info
 have hzs:(dR t (zp t)).cells.size=t.cells:=by rw[vH (sF X t)];simp [va]
 have xw:cx.length=xs.length*t.cells:=rx.2.1
 have uo:cy.length=ys.length*t.cells:=ry.2.1
 have h1:∀u∈cy,u.oneCell'=true:=ry.one
 have hle:xs.length+ys.length<=140737488355328:=Nat.le_trans (Nat.le_mul_of_pos_right _ (Nat.pos_of_ne_zero nG)) hbound
 have Aw:xs.length+ys.length<=maxLen:=by simp only[maxLen];omega
 obtain⟨A,c,rfl,hA,GK⟩:=hvx
 cases A with
 |none=>
  have uE:=hA rfl
  subst uE
  have ZF:cy=[]:=List.eq_nil_of_length_eq_zero (by simpa using uo)
  subst ZF
  rcases bS with⟨rfl,hn⟩|⟨g,cap,cur,rfl,hg,KA,sk,eF,how⟩
  ·refine⟨.slice none 0 0,X.w,?_,.same rfl rfl rfl,fun _=>by simp [hn]⟩
   simp [Builtin.append_,run_underlying hu,sizeOf,typeInfo,hi,Builtin.lenOf,Builtin.firstCells]
  ·refine⟨_,X.w,?_,.same rfl rfl rfl,fun e=>by cases e⟩
   simp [Builtin.append_,run_underlying hu,sizeOf,typeInfo,hi,Builtin.lenOf,Builtin.firstCells,KA,storeCells]
 |some ad=>
  have ZY:∀j u,cy[j]? =some u->X.w.cell? (ad.add j)=some u:=fun j u hj=>(GK ad rfl j u hj).2.1
  have l7:∀(old:Nat),(cx.toArray++cy.toArray++Builtin.zeroCells (dR t (zp t)).cells (grownCap X.w (xs.length+ys.length) old e-(xs.length+ys.length))).size=grownCap X.w (xs.length+ys.length) old e*t.cells/\
   (cx.toArray++cy.toArray++Builtin.zeroCells (dR t (zp t)).cells (grownCap X.w (xs.length+ys.length) old e-(xs.length+ys.length))).toList.take ((xs.length+ys.length)*t.cells)=cx++cy:=by
   intro old
   have Sk:=grownCap_ge X.w (xs.length+ys.length) old e
   refine⟨?_,?_⟩
   ·simp only[Array.size_append,List.size_toArray,size_zeroCells,hzs,xw,uo,<-Nat.add_mul]
    congr 1
    omega
   ·have hl:(cx++cy).length=(xs.length+ys.length)*t.cells:=by rw[List.length_append,xw,uo,Nat.add_mul]
    rw[<-hl]
    simp only[Array.toList_append]
    exact List.take_left
  rcases bS with⟨rfl,hn⟩|⟨g,cap,cur,rfl,hg,KA,sk,eF,how⟩
  ·have xp:cx=[]:=List.eq_nil_of_length_eq_zero (by rw[xw,hn,Nat.zero_mul])
   subst xp
   by_cases hm:ys.length=0
   ·have ZF:cy=[]:=List.eq_nil_of_length_eq_zero (by rw[uo,hm,Nat.zero_mul])
    subst ZF
    refine⟨.slice none 0 0,X.w,?_,.same rfl rfl rfl,fun _=>by omega⟩
    simp [Builtin.append_,run_underlying hu,sizeOf,typeInfo,hi,Builtin.lenOf,Builtin.firstCells,hm,loadCells,loadCellsFrom]
   ·have AW:xs.length=0:=hn
    rw[AW,Nat.zero_add] at hbound hle Aw
    have hr:=run_append_nil (P:=P) X.w T ty e i (dR t (zp t)) hu hi hz ad ys.length c cy (by rw[b6];exact uo) ZY (by omega) (by omega) (by rw[gh];omega)
    obtain⟨c1,c2⟩:=l7 0
    have Sk:=grownCap_ge X.w (xs.length+ys.length) 0 e
    have sk:=grownCap_le_maxLen X.w (xs.length+ys.length) 0 e (by rw[AW,Nat.zero_add];exact Aw)
    refine⟨_,_,hr,.new (grownCap X.w (xs.length+ys.length) 0 e) _ (by rw[AW,Nat.zero_add]) Sk sk ?_ c1 c2,fun e=>by cases e⟩
    rw[AW,Nat.zero_add]
    simp
  ·by_cases ng:xs.length+ys.length<=cap
   ·have di:xs.length*i.size+cy.length<=cur.size:=by rw[b6,uo,eF,<-Nat.add_mul];exact Nat.mul_le_mul_right _ ng
    have hr:=run_append_room (P:=P) X.w T ty e i hu hi g xs.length cap cur hg ad ys.length c cy (by rw[b6];exact uo) ZY h1 ng di
    refine⟨_,_,hr,.room g cap cur _ ⟨_,rfl⟩ hg rfl ng sk rfl ?_ ?_,fun e=>by cases e⟩
    ·simp only[List.size_toArray,List.length_append,List.length_take,List.length_drop,Array.length_toList]
     omega
    ·have nh:cur.toList.take (xs.length*i.size)=cx:=by
      rw[b6]
      apply List.ext_getElem?
      intro q
      by_cases hq:q<xs.length*t.cells
      ·rw[List.getElem?_take,if_pos hq]
       have KV:=List.getElem?_eq_getElem (l:=cx) (i:=q) (by rw[xw];exact hq)
       have:=(sx g _ _ rfl q _ KV).2.1
       rw[iK,Nat.zero_add] at this
       simp only[World.cell?,hg] at this
       rw[KV]
       simpa using this
      ·rw[List.getElem?_eq_none (by rw[List.length_take];omega),List.getElem?_eq_none (by omega)]
     have hl:(cx++cy).length=(xs.length+ys.length)*t.cells:=by rw[List.length_append,xw,uo,Nat.add_mul]
     rw[nh,<-hl]
     simp only[List.take_left]
   ·have holds:∀j u,cx[j]? =some u->X.w.cell? ((⟨g,0,none⟩:Addr).add j)=some u:=fun j u hj=>(sx g _ _ rfl j u hj).2.1
    have hr:=run_append_grow (P:=P) X.w T ty e i (dR t (zp t)) hu hi hz ⟨g,0,none⟩ xs.length cap cx (by rw[b6];exact xw) holds ad ys.length c cy (by rw[b6];exact uo) ZY (by omega) (by omega) (growslice_fits (by omega) (by rw[gh];exact hbound))
    obtain⟨c1,c2⟩:=l7 cap
    exact⟨_,_,hr,.new _ _ rfl (grownCap_ge _ _ _ _) (grownCap_le_maxLen _ _ _ _ Aw) rfl c1 c2,fun e=>by cases e⟩
theorem bp.Zr{X:aw}{s:State}{pl:Place}{e:TypeId}{k n:Nat}{v:Value}(h:bp X pl e k n v)(hf:¬cX s pl)(q:Place):∃Y,dY s X Y/\bp Y q e k n v:=by
 rcases h with h|⟨g,cap,cur,h1,h2,h3,h4,h5,h6⟩
 ·exact⟨X,dY.refl s X,.inl h⟩
 ·refine⟨{X with ow:=fun g'=>if g'=g then .row q (n*k) else X.ow g'},⟨rfl,rfl,fun g'=> ?_⟩,.inr ⟨g,cap,cur,h1,h2,h3,h4,h5,by simp⟩⟩
  by_cases e:g'=g
  ·subst e;exact .inr ⟨pl,_,q,h6,hf,by simp⟩
  ·exact .inl (by simp [e])
theorem aoN{R:Type}{t t':Ty}{x:El t'}{w:List (List Nat)}{K:El t->Option R}{z:R}(h:(SV.aj t' x w).el t K=some z):∃he:t'.cp t=true,K (Ty.cast he x)=some z:=by
 simp only[SV.el] at h
 split at h
 ·rename_i he;exact⟨he,h⟩
 ·cases h
theorem acG(hE:al P E)(hr:Rel X s a){ops:List Oper}{dN:Array Operand}{ts:Array TypeId}(ho:o.op= .call ⟨.builtin .append,dN,ts⟩){C:FuncId->bV Out}(h:act E C ops o s some=some u):aH P X s a o u:=by
 unfold act at h
 simp only[ho] at h
 split at h
 case h_2=>cases h
 rename_i b x T U ss Ch
 have has:dN= #[b,x]:=by rw[<-Array.toArray_toList (xs:=dN),ss]
 have kD:ts= #[T,U]:=by rw[<-Array.toArray_toList (xs:=ts),Ch]
 subst has kD
 have hb:=hr.aG b
 have hx:=hr.aG x
 unfold Ri at h
 split at h
 case isTrue=>cases h
 rename_i hTU
 have hTU:T=U:=by
  have:T.beq U=true:=by cases ub:Nat.beq T U<;>simp_all
  exact Nat.eq_of_beq_eq_true this
 subst hTU
 split at h
 case h_2=>cases h
 rename_i e t hT
 split at h
 case isTrue=>cases h
 rename_i h0
 have h0:Nat.beq (E.bytes e) 0=false/\Nat.beq t.cells 0=false:=by
  cases h1:Nat.beq (E.bytes e) 0<;>cases h2:Nat.beq t.cells 0<;>simp_all
 have nG:E.bytes e≠0:=fun e0=>by rw[e0] at h0;simp at h0
 have hk:0<t.cells:=by
  rcases Nat.eq_zero_or_pos t.cells with e0|e0
  ·rw[e0] at h0;simp at h0
  ·exact e0
 have key:∀(xs ys:List (El t)) (cl:List (Nat×Nat)) (pl:Place),¬cX (s.close cl) pl->bp X pl e t.cells xs.length (a.eval b)->bg X (.sl e t) xs [a.eval b]->bg X (.sl e t) ys [a.eval x]->
  (xs.length+ys.length)*E.bytes e<=140737488355328->aH P X s a o {v:=[.aj (.sl e t) (xs++ys:List (El t)) [[]]],cl:=cl}:=by
  intro xs ys cl pl GI bS C2 lF hbound
  obtain⟨A1,c1,AR,Ba⟩:=C2
  have e1:a.eval b= .slice A1 xs.length c1:=by simpa using AR
  obtain⟨A2,c2,KT,Lh⟩:=lF
  have e2:a.eval x= .slice A2 ys.length c2:=by simpa using KT
  obtain⟨_,_,cx,rx,_,sx⟩:=zb8 (X:=X) (e:=e) (show bg X (.sl e t) xs [.slice A1 xs.length c1] from⟨A1,c1,rfl,Ba⟩)
  obtain⟨_,_,cy,ry,ny,sy⟩:=zb8 (X:=X) (e:=e) (show bg X (.sl e t) ys [.slice A2 ys.length c2] from⟨A2,c2,rfl,Lh⟩)
  have sx':∀g m c,a.eval b= .slice (some ⟨g,0,none⟩) m c->∀(i:Nat) v,cx[i]? =some v->X.ay ((⟨g,0,none⟩:Addr).add i) v:=by
   intro g m c hv
   rw[e1] at hv
   injection hv with hA
   exact sx _ hA
  obtain⟨v',w',aW,Ct,uu⟩:=adk (ty:=o.type) hE hT hk nG bS rx sx' ry ⟨A2,c2,e2,ny,sy⟩ hbound
  have xw:cx.length=xs.length*t.cells:=rx.2.1
  have uo:cy.length=ys.length*t.cells:=ry.2.1
  have KL:(execOp a.eval o).run P X.w= .ok (.value v') w':=by
   simp only[execOp,ho,resolve,invoke,builtin,Sem.run_bind,Sem.run_pure,Result.andThen_ok,List.map_toArray,List.map_cons,List.map_nil,aW]
  have fin:∀(Y:aw),Y.w=w'->Mod (s.close cl) X Y->bg Y (.arr (xs.length+ys.length) t) (xs++ys:List (El t)) (cx++cy)->bp Y (.c (o.dst.getD 0) 0 []) e t.cells (xs.length+ys.length) v'->
   bg Y (.sl e t) (xs++ys:List (El t)) [v']->aH P X s a o {v:=[.aj (.sl e t) (xs++ys:List (El t)) [[]]],cl:=cl}:=by
   intro Y hY hm fc Z0 CE
   refine⟨Y,v',.inl (by rw[hY];exact KL),hm.ext,((hr.close cl).mod hm).fin ⟨[v'],CE,rfl,OZ ?_⟩ (fun id t p GH=>by simp at GH)⟩
   rw[List.length_append]
   exact Z0
  cases Ct with
  |same h1 h2 h3=>
   subst h2
   have hy0:ys=[]:=by
    have:ys.length=0:=by
     rcases Nat.mul_eq_zero.1 (show ys.length*t.cells=0 by rw[<-uo,h3];rfl) with h|h
     ·exact h
     ·omega
    exact List.eq_nil_of_length_eq_zero this
   subst hy0
   obtain⟨Y,mz,hO2⟩:=bp.Zr (s:=s.close cl) bS GI (.c (o.dst.getD 0) 0 [])
   refine fin Y (by rw[mz.w,h1]) mz.mod ?_ (by simpa using hO2) ?_
   ·have:=(GV rx ry)
    exact this.ai (fun _ _=>mz.ay.1)
   ·rw[List.append_nil]
    exact bg.ai (fun _ _=>mz.ay.1) (show bg X (.sl e t) xs [a.eval b] from⟨A1,c1,AR,Ba⟩)
  |new cap fZ hv hn hm hw hs ht=>
   let Y:aw:=⟨w',fun g=>if g=X.w.heap.size then .row (.c (o.dst.getD 0) 0 []) ((xs.length+ys.length)*t.cells) else X.ow g,X.β⟩
   have xu:eP (s.close cl) X Y:=⟨by simp [Y,hw],by simp only[Y,hw];rfl,by simp only[Y,hw];rfl,by simp only[Y,hw];rfl,fun g hg=>⟨by simp only[Y];rw[if_neg (by omega)],by simp only[Y,hw];exact RowKit.Below.heap_alloc _ _ _ hg⟩,rfl,fun _ _ _=>rfl⟩
   have aE:Y.w.heap[X.w.heap.size]? =some (.cells fZ e (0,0)):=by simp only[Y,hw];exact heap_alloc_new X.w.drew _
   have how:Y.ow X.w.heap.size= .row (.c (o.dst.getD 0) 0 []) ((xs.length+ys.length)*t.cells):=by simp [Y]
   have aL:=(GV rx ry).ai (fun _ _=>xu.ay)
   refine fin Y rfl xu.mod aL (.inr ⟨_,cap,fZ,hv,aE,hn,hm,hs,how⟩) ?_
   rw[hv,<-List.length_append]
   exact zj3 (cs:=cx++cy) aE (by rw[List.length_append];exact how) (by rw[List.length_append];exact ht) (by rw[List.length_append];exact aL) (by rw[List.length_append];exact hn)
  |room g cap cur fZ kc hg hv hn hm hw hs ht=>
   obtain⟨m,Ci⟩:=kc
   rcases bS with⟨hz,_⟩|⟨g',xg,J7,jh,Gz,KA,sk,eF,how⟩
   ·rw[hz] at Ci;cases Ci
   have Cr:g'=g:=by rw[Ci] at jh;injection jh with h1;injection h1 with h1;injection h1 with h1;exact h1.symm
   subst Cr
   have ZE:J7=cur:=by rw[hg] at Gz;cases Gz;rfl
   subst ZE
   have aq:=vN hg
   let Y:aw:=⟨w',fun k=>if k=g' then .row (.c (o.dst.getD 0) 0 []) ((xs.length+ys.length)*t.cells) else X.ow k,X.β⟩
   have aE:Y.w.heap[g']? =some (.cells fZ e (0,0)):=by simp only[Y,hw];exact setRow_heap X.w g' J7 fZ e (0,0) hg
   have oE:Y.ow g'= .row (.c (o.dst.getD 0) 0 []) ((xs.length+ys.length)*t.cells):=by simp [Y]
   have er:∀ad v,X.ay ad v->Y.ay ad v:=by
    intro ad v jL
    by_cases heq:ad.block=g'
    ·obtain⟨k1,k2,k3⟩:=jL
     rw[heq,how] at k3
     have k3:ad.off<xs.length*t.cells:=k3
     have had:ad=(⟨g',0,none⟩:Addr).add ad.off:=by rw[iK,Nat.zero_add];cases ad;simp_all
     have KV:=List.getElem?_eq_getElem (l:=cx) (i:=ad.off) (by rw[xw];exact k3)
     have xp:=(sx' g' _ _ Ci ad.off _ KV).2.1
     rw[<-had,k2] at xp
     refine⟨k1,?_,?_⟩
     ·have hq:fZ.toList[ad.off]? =some v:=by
       have:=congrArg (fun l=>l[ad.off]?) ht
       simp only[List.getElem?_take] at this
       have hle:xs.length*t.cells<=(xs.length+ys.length)*t.cells:=Nat.mul_le_mul_right _ (Nat.le_add_right _ _)
       rw[if_pos (by omega),List.getElem?_append_left (by rw[xw];exact k3),KV] at this
       rw[this];exact xp.symm
      simp only[World.cell?,heq,aE,k1]
      simpa using hq
     ·rw[heq,oE]
      have hle:xs.length*t.cells<=(xs.length+ys.length)*t.cells:=Nat.mul_le_mul_right _ (Nat.le_add_right _ _)
      show ad.off<_
      omega
    ·refine⟨jL.1,?_,?_⟩
     ·have:=jL.2.1
      simp only[World.cell?,Y,hw] at this⊢
      rw[setRow_other X.w g' ad.block fZ heq]
      exact this
     ·simp only[Y]
      rw[if_neg heq]
      exact jL.2.2
   have CC:Mod (s.close cl) X Y:=⟨er,by simp [Y,hw],by simp only[Y,hw];rfl,by simp only[Y,hw];rfl,by simp only[Y,hw];rfl,rfl,fun _ _ _=>rfl,fun k hk=>by
    by_cases heq:k=g'
    ·subst heq;exact .inr ⟨pl,_,how,GI⟩
    ·refine .inl ⟨by simp only[Y];rw[if_neg heq],?_⟩
     simp only[Y,hw]
     exact setRow_other X.w g' k fZ heq⟩
   have aL:=(GV rx ry).ai er
   refine fin Y rfl CC aL (.inr ⟨_,cap,fZ,hv,aE,hn,hm,hs,oE⟩) ?_
   rw[hv,<-List.length_append]
   exact zj3 (cs:=cx++cy) aE (by rw[List.length_append];exact oE) (by rw[List.length_append];exact ht) (by rw[List.length_append];exact aL) (by rw[List.length_append];exact hn)
 split at h
 ·rename_i jd
  rw[jd] at hb
  obtain⟨ys,h,uE⟩:=zz h
  cases hd:decide (List.length ys*E.bytes e<=140737488355328) with
  |false=>rw[hd] at h;cases h
  |true=>
   rw[hd] at h
   cases h
   obtain⟨cs,lF,ev⟩:=uE X _ _ hx
   have Ci:a.eval b= .slice none 0 0:=hb
   have uw:cs=[a.eval x]:=by
    obtain⟨A,c,eF,_⟩:=lF
    rw[ev,eF];rfl
   have:=key [] ys [] (.r 0 []) (fun hf=>hf) (.inl ⟨Ci,rfl⟩) (by rw[Ci];exact⟨none,0,rfl,Nat.le_refl _,fun j x hj=>by simp at hj⟩) (by rw[<-uw];exact lF) (by simpa using of_decide_eq_true hd)
   simpa using this
 ·rename_i t' xs0 xM jd
  rw[jd] at hb
  split at h
  case isTrue=>cases h
  rename_i Kn
  have Kn:gK xM []=true:=by cases ub:gK xM []<;>simp_all
  obtain⟨heq,h⟩:=aoN h
  have:=Ty.aI heq
  subst this
  obtain⟨ys,h,uE⟩:=zz h
  cases hd:decide ((List.length (Ty.cast heq xs0)+List.length ys)*E.bytes e<=140737488355328) with
  |false=>rw[hd] at h;cases h
  |true=>
   rw[hd] at h
   cases h
   obtain⟨cs,lF,ev⟩:=uE X _ _ hx
   have cE:=Bl Kn
   obtain⟨i,rfl⟩:=anf jd (fun e=>by rw[e] at cE;cases cE)
   obtain⟨cs1,r1,Si,hO⟩:=hb
   have uw:cs=[a.eval x]:=by
    obtain⟨A,c,eF,_⟩:=lF
    rw[ev,eF];rfl
   have AL:cs1=[a.eval (.tmp i)]:=by
    obtain⟨A,c,eF,_⟩:=r1
    rw[Si,eF];rfl
   obtain⟨e',t'',xs',v',_,g1,g2,g3⟩:=hO [] cE
   simp only[El.get,Option.some.injEq,Sigma.mk.injEq,Ty.sl.injEq] at g1
   obtain⟨⟨rfl,rfl⟩,g1⟩:=g1
   cases g1
   have jh:v'=a.eval (.tmp i):=by
    rw[AL] at g2
    simpa [Ty.off] using g2.symm
   rw[jh] at g3
   exact key xs0 ys [(i,0)] (.c i 0 []) cX.close g3 (by rw[<-AL];exact r1) (by rw[<-uw];exact lF) (of_decide_eq_true hd)
 ·cases h
end Go.Ref

namespace Go.Ref
open Go
variable {P:Program} {E:Env} {X:aw} {s:State} {a:Act} {o:Oper} {u:Out}
def aw.obj(X:aw)(r:Nat)(b:Obj):aw:={X with w:={X.w with heap:=X.w.heap.setIfInBounds r b}}
theorem G3{r g:Nat}{b:Obj}(h:g≠r):(X.obj r b).w.heap[g]? =X.w.heap[g]? :=by
 simp [aw.obj,Ne.symm h]
theorem NI{r:Nat}{b b':Obj}(h:X.w.heap[r]? =some b'):(X.obj r b).w.heap[r]? =some b:=(MapKept.heap_set h).1
theorem Fu{r id:Nat}{b:Obj}(h:X.ow r= .box id){ad:Addr}{v:Value}(hs:X.ay ad v):(X.obj r b).ay ad v:=by
 have bJ:ad.block≠r:=fun e=>by
  have:=hs.2.2
  rw[e,h] at this
  exact this
 refine⟨hs.1,?_,hs.2.2⟩
 have:=hs.2.1
 simp only[World.cell?] at this⊢
 rw[G3 bJ]
 exact this
theorem OX{r id:Nat}{b:Obj}(h:X.ow r= .box id):Ext X (X.obj r b) where
 ay:=fun _ _=>Fu h
 size:=by simp [aw.obj]
 os:=rfl
 tape:=rfl
 output:=rfl
 β0:=rfl
 still:=fun g _ bP=>by
  have bJ:g≠r:=fun e=>by rw[e,h] at bP;exact bP
  exact⟨rfl,G3 bJ⟩
theorem bp.obj{r id:Nat}{b:Obj}(h:X.ow r= .box id){pl:Place}{e:TypeId}{k n:Nat}{v:Value}(ho:bp X pl e k n v):bp (X.obj r b) pl e k n v:=by
 rcases ho with ho|⟨g,cap,cur,h1,h2,h3,h4,h5,h6⟩
 ·exact .inl ho
 ·have bJ:g≠r:=fun e=>by rw[e,h] at h6;cases h6
  exact .inr ⟨g,cap,cur,h1,(G3 bJ).trans h2,h3,h4,h5,h6⟩
theorem bn.obj{r id:Nat}{b:Obj}(h:X.ow r= .box id){pl:List Nat->Place}{t:Ty}{x:El t}{c:List Value}{own:List (List Nat)}(ho:bn X pl t x c own):bn (X.obj r b) pl t x c own:=fun p hp=>by
 obtain⟨e,t',xs,v,g0,g1,g2,g3⟩:=ho p hp
 exact⟨e,t',xs,v,g0,g1,g2,g3.obj h⟩
theorem az.obj{r id:Nat}{b:Obj}(h:X.ow r= .box id){pl:List Nat->Place}{sv:SV}{v:Value}(hk:∀bc c d j,sv= .bz bc c d j->bc≠id)(hr:az X pl sv v):az (X.obj r b) pl sv v:=by
 cases sv with
 |aj t x own=>
  obtain⟨c,h1,h2,h3⟩:=hr
  exact⟨c,h1.ai (fun _ _=>Fu h),h2,h3.obj h⟩
 |view t x=>
  obtain⟨ad,c,h1,h2,h3,h4⟩:=hr
  exact⟨ad,c,h1,h2,h3.ai (fun _ _=>Fu h),fun i u hi=>Fu h (h4 i u hi)⟩
 |cap f t x u y=>exact rV (fun _ _=>Fu h) hr
 |bz bc c d j=>
  obtain⟨r',h1,h2,h3⟩:=hr
  have bJ:r'≠r:=fun e=>by rw[e,h] at h2;injection h2 with h2;exact hk bc c d j rfl h2.symm
  refine⟨r',h1,h2,?_⟩
  simp only[World.cell?] at h3⊢
  rw[show(X.obj r b).w.heap[r']? =X.w.heap[r']? from G3 bJ];exact h3
 |_=>exact hr
theorem Rel.obj{r id:Nat}{B B':bC}{b:Obj}(hr:Rel X s a)(hb:s.bs[id]? =some (some B))(hβ:X.β id=some r)(h:X.ow r= .box id)(hB:bD (X.obj r b) id r B')(hg:B.t.eL=false\/ []∈B.own):Rel (X.obj r b) (s.aC (some (id,B'))) a where
 size:=hr.size
 gL:=by simpa [State.aC] using hr.gL
 bQ:=fun i l v hl hv=>(hr.bQ i l v hl hv).iS fun j sv u hm jL=>jL.obj h (fun bc c d k e e2=>hr.oM hb hg i l c d k hl (e2▸e▸List.mem_of_getElem? hm))
 boxes:=fun bc B2 cW=>by
  have aq:id<s.bs.length:=(List.getElem?_eq_some_iff.1 hb).1
  simp only[State.aC,List.getElem?_set] at cW
  by_cases e:id=bc
  ·subst e
   rw[if_pos rfl,if_pos aq] at cW
   cases cW;exact⟨r,hβ,hB⟩
  ·rw[if_neg e] at cW
   obtain⟨r',h1,h4,h2⟩:=hr.boxes bc B2 cW
   have bJ:r'≠r:=fun e2=>by rw[e2,h] at h4;cases h4;exact e rfl
   exact⟨r',h1,h4,h2.move (fun _ _=>Fu h) (G3 bJ) (fun cs h5=>h5.obj h) fun _ _ g o _ ho hw=>⟨(G3 (fun e3=>by rw[e3,h] at hw;cases hw)).trans ho,hw⟩⟩
 live:=fun i l bc t p hi hm=>by
  have aq:id<s.bs.length:=(List.getElem?_eq_some_iff.1 hb).1
  obtain⟨B2,cW⟩:=hr.live i l bc t p hi hm
  simp only[State.aC,List.getElem?_set]
  by_cases e:id=bc
  ·subst e;exact⟨B',by rw[if_pos rfl,if_pos aq]⟩
  ·rw[if_neg e];exact⟨B2,cW⟩
 defers:=hr.defers
 bz:=hr.bz.aC (hr.oM hb hg)
def aw.kP(X:aw)(b:Obj)(w:Ow)(β:Nat->Option Nat):aw:={w:=X.w.alloc b,ow:=fun g=>if g=X.w.heap.size then w else X.ow g,β}
theorem Mo(X:aw)(s:State)(b:Obj)(w:Ow)(β:Nat->Option Nat)(hβ0:β 0=X.β 0)(hβ:∀(id:Nat) B,s.bs[id]? =some (some B)->β id=X.β id):eP s X (X.kP b w β) where
 size:=by simp [aw.kP]
 os:=rfl
 tape:=rfl
 output:=rfl
 mV:=fun g hg=>⟨by simp only[aw.kP];rw[if_neg (by omega)],RowKit.Below.heap_alloc _ _ _ hg⟩
 β0:=hβ0
 β:=hβ
theorem zi8(hr:Rel X s a){t p:Ty}{x:El t}{b:Obj}{v:Value}(aW:(execOp a.eval o).run P X.w= .ok (.value v) (X.w.alloc b))
 (Ko:∀Y:aw,(∀ad v,X.ay ad v->Y.ay ad v)->Y.w.heap[X.w.heap.size]? =some b->∀pl,dz Y X.w.heap.size pl t x []) (oH:nu p [] X.w.heap.size v) (h:kq s o.dst t x p some=some u):aH P X s a o u:=by
 unfold kq at h
 split at h
 case h_2=>cases h
 rename_i d hd
 split at h
 case h_2=>cases h
 rename_i hb
 cases h
 let β:Nat->Option Nat:=fun id=>if id=d+1 then some X.w.heap.size else X.β id
 have aq:d+1<s.bs.length:=(List.getElem?_eq_some_iff.1 hb).1
 have hk:eP s X (X.kP b (.box (d+1)) β):=Mo X _ _ _ _ (by show(if _ then _ else _)=_;rw[if_neg (by omega)]) (fun id B hB=>by
  show(if id=d+1 then _ else _)=_
  rw[if_neg (fun e=>by rw[e,hb] at hB;cases hB)])
 have bH:bD (X.kP b (.box (d+1)) β) (d+1) X.w.heap.size ⟨t,x,[]⟩:=⟨by simp [aw.kP],Ko _ (fun _ _=>hk.ay) (heap_alloc_new X.w _) _⟩
 have hβd:β (d+1)=some X.w.heap.size:=by show(if d+1=d+1 then _ else _)=_;rw[if_pos rfl]
 have fc:=(hr.dx hk).fw aq hb hβd bH
 refine⟨X.kP b (.box (d+1)) β,v,.inl aW,hk.ext,?_⟩
 rw[hd]
 refine fc.put (fun d' e=> ?_) (fun id t' q hm=> ?_)
 ·cases e
  exact⟨X.w.heap.size,hβd,oH⟩
 ·have:id=d+1:=by have:=hm;simp at this;exact this.1
  subst this
  exact⟨⟨t,x,[]⟩,by simp [State.aC,List.getElem?_set,aq]⟩
def ki:(t:Ty)->El t->Value
 | .bool,b=> .bool b
 | .int k,n=> .int k n
 | .str,x=> .string x
 |_,_=>Go.undef
def Ty.iB:Ty->Bool
 | .bool| .int _| .str=>true
 |_=>false
theorem zr8{t:Ty}(hk:t.iB=true){x:El t}{v:Value}(h:eE X t x v):v=ki t x:=by
 obtain⟨cs,h1,h2⟩:=h
 cases t<;>simp [Ty.iB] at hk
 ·rw[h2,vL h1];rfl
 ·rw[h2,lL h1];rfl
 ·rw[h2,nC h1];rfl
theorem PE{T:TypeId}{t:Ty}(hE:al P E)(hT:E.ty T=some t)(hk:t.iB=true)(x:El t):∃d,P.underlying T=some d/\MapKept.IsKey d (ki t x)/\∀y,Instr.sameNow d (ki t x) (ki t y)=some (gd t x y):=by
 have hu:=(hE.ty T t hT).dw
 cases t<;>simp [Ty.iB] at hk
 ·have hu:P.underlying T=some .bool:=hu
  exact⟨_,hu,trivial,fun y=>by cases x<;>cases y<;>rfl⟩
 ·have hu:P.underlying T=some (.int _):=hu
  refine⟨_,hu,by simp [MapKept.IsKey,ki],fun y=> ?_⟩
  simp only[Instr.sameNow,ki,if_true,gd]
  congr 1
 ·have hu:P.underlying T=some .string:=hu
  refine⟨_,hu,trivial,fun y=> ?_⟩
  simp only[Instr.sameNow,ki,gd]
  congr 1
  by_cases e:x=y
  ·rw[decide_eq_true e];exact(MapKept.bytes_beq _ _).2 e
  ·rw[decide_eq_false e]
   cases hb:(x==y) with
   |false=>rfl
   |true=>exact absurd ((MapKept.bytes_beq _ _).1 hb) e
theorem Nn{kt vt:Ty}{d:TypeDesc}{k:El kt}(hk:kt.iB=true)(hs:∀y,Instr.sameNow d (ki kt k) (ki kt y)=some (gd kt k y)):∀(es:List MapEntry) (xs:List (El kt×El vt)) (i:Nat),es.length=xs.length->
 (∀(i:Nat) q e,xs[i]? =some q->es[i]? =some e->eE X kt q.1 e.key/\eE X vt q.2 e.val)->
 (fh (gd kt) xs k=false/\fg (gd kt) (El.bT vt) xs k=El.bT vt/\Instr.findNow d (ki kt k) es i=some none)\/(fh (gd kt) xs k=true/\∃j v,Instr.findNow d (ki kt k) es i=some (some (j,v))/\eE X vt (fg (gd kt) (El.bT vt) xs k) v)
 | [],[],i,_,_=> .inl ⟨rfl,rfl,rfl⟩
 |e::es,q::xs,i,hl,hp=>by
  obtain⟨h1,h2⟩:=hp 0 q e rfl rfl
  have hke:=zr8 hk h1
  have jg:=hs q.1
  rw[<-hke] at jg
  simp only[Instr.findNow,jg,fh,fg]
  cases heq:gd kt k q.1 with
  |true=>exact .inr ⟨rfl,i,e.val,rfl,h2⟩
  |false=>exact Nn hk hs es xs (i+1) (by simpa using hl) (fun i q e hq he=>hp (i+1) q e (by simpa using hq) (by simpa using he))
 | [],_::_,_,hl,_=>by simp at hl
 |_::_,[],_,hl,_=>by simp at hl
theorem zvr:∀{t:Ty},t.hG=true->t.depth<=2
 | .unit,_=>by decide
 | .pair (.int _) b,h=>by
   have:=zvr (t:=b) h
   simp only[Ty.depth];omega
theorem OQ:∀{t:Ty},t.hG=true->∀x y:El t,dI t x y=some (vq t x y)
 | .unit,_,_,_=>rfl
 | .pair (.int _) b,h,x,y=>by
   have:=OQ (t:=b) h x.2 y.2
   simp only[dI,this,vq]
theorem gV(hE:al P E){xs:Array Value}(w:World)(em:Bool)(n:Nat):
 ∀(fl:List Field) (t:Ty) (off:Nat),js E fl t off->t.hG=true->∀(x:El t) (c1:List Value),bg X t x c1->(xs.toList.drop off).take t.cells=c1->
  (forIn fl () fun(f:Field) (_:Unit)=>(if f.name≠ "_" then do
    let __do_lift<-part f.type xs f.offset
    Instr.checkKey em (n+1) f.type __do_lift
    pure (ForInStep.yield ()) else pure (ForInStep.yield ()):Sem (ForInStep Unit))).run P w= .ok () w:=by
 intro fl
 induction fl with
 |nil=>intro t off hf hi x c1 h1 h3;simp [List.forIn_nil]
 |cons f fl ihl=>
  intro t off hf hi x c1 h1 h3
  cases t<;>simp only[js] at hf<;>try exact hf.elim
  rename_i ta tb
  obtain⟨ho,GL,hn,bF⟩:=hf
  obtain⟨ca,cb,e1,ra,rb⟩:=h1
  have la:=ra.len
  have t1:(xs.toList.drop off).take ta.cells=ca:=by
   have:=congrArg (fun l=>l.take ta.cells) (h3.trans e1)
   simp only[List.take_take,Ty.cells] at this
   rw[Nat.min_eq_left (Nat.le_add_right _ _),<-la,List.take_left] at this
   rw[<-la];exact this
  have u1:(xs.toList.drop (off+ta.cells)).take tb.cells=cb:=by
   have:=congrArg (fun l=>l.drop ta.cells) (h3.trans e1)
   simp only[Ty.cells] at this
   rw[List.drop_take,Nat.add_sub_cancel_left,List.drop_drop,<-la,List.drop_left] at this
   rw[<-la];exact this
  have oF:=Fv hE GL ra (all:=xs) (off:=f.offset) (by rw[ho];exact t1) w
  cases ta<;>simp [Ty.hG] at hi
  rename_i k
  have hu:P.underlying f.type=some (.int k):=(hE.ty f.type _ GL).dw
  have Gv:(Instr.checkKey em (n+1) f.type (dR (.int k) ca)).run P w= .ok () w:=by
   rw[lL ra]
   exact MapKept.run_checkKey hu (by simp [MapKept.IsKey]) em n
  rw[List.forIn_cons]
  simp only[hn,ne_eq,not_false_eq_true,if_true,Sem.run_bind,oF,Gv,Result.andThen_ok,Sem.run_pure]
  exact ihl tb _ bF hi x.2 cb rb u1
theorem Mp{T:TypeId}{t:Ty}(hE:al P E)(hT:E.ty T=some t)(hk:t.isKey=true){x:El t}{v:Value}(h:eE X t x v)(em:Bool)(w:World):(Instr.checkKey em 10000 T v).run P w= .ok () w:=by
 cases h1:t.iB with
 |true=>
  obtain⟨d,hd,Sl,_⟩:=PE hE hT h1 x
  rw[zr8 h1 h]
  exact MapKept.run_checkKey hd Sl em 9999
 |false=>
  have hu:=(hE.ty T t hT).dw
  cases t<;>simp [Ty.isKey,Ty.iB] at hk h1
  rename_i ta tb
  obtain⟨fs,iz,iR,Su,_⟩:=hu
  obtain⟨cs,hr,rfl⟩:=h
  rw[jJ rfl]
  unfold Instr.checkKey
  simp only[Sem.run_bind,run_underlying iz,Result.andThen_ok]
  rw[<-Array.forIn_toList]
  have:=gV (X:=X) hE (xs:=cs.toArray) w em 9998 fs.toList (.pair ta tb) 0 iR hk x cs hr (by have:=hr.len;simp only[List.drop_zero];rw[<-this];exact List.take_length)
  exact(congrArg (fun r=>Result.andThen r (fun a w'=>Sem.run P (pure ()) w')) this).trans (by simp)
theorem zoq(hE:al P E){T:TypeId}{kt vt:Ty}(hT:E.ty T=some kt)(hk:kt.hG=true){k:El kt}{v:Value}(h:eE X kt k v)(w:World):∀(es:List MapEntry) (xs:List (El kt×El vt)) (i:Nat),es.length=xs.length->
 (∀(i:Nat) q e,xs[i]? =some q->es[i]? =some e->eE X kt q.1 e.key/\eE X vt q.2 e.val)->
 (fh (vq kt) xs k=false/\fg (vq kt) (El.bT vt) xs k=El.bT vt/\(Instr.findAsking T v es i).run P w= .ok none w)\/(fh (vq kt) xs k=true/\∃j u,(Instr.findAsking T v es i).run P w= .ok (some (j,u)) w/\eE X vt (fg (vq kt) (El.bT vt) xs k) u)
 | [],[],i,_,_=> .inl ⟨rfl,rfl,by simp [Instr.findAsking]⟩
 |e::es,q::xs,i,hl,hp=>by
  obtain⟨h1,h2⟩:=hp 0 q e rfl rfl
  obtain⟨c1,r1,rfl⟩:=h
  obtain⟨c2,r2,e2⟩:=h1
  have heq:(Op.equal T (dR kt c1) e.key).run P w= .ok (vq kt k q.1) w:=by
   rw[e2]
   exact L5 (X:=X) hE w 10000 kt T hT (Nat.le_trans (zvr hk) (by decide)) k q.1 c1 c2 _ r1 r2 (OQ hk k q.1)
  unfold Instr.findAsking
  simp only[Sem.run_bind,heq,Result.andThen_ok,fh,fg]
  cases heq:vq kt k q.1 with
  |true=>exact .inr ⟨rfl,i,e.val,by simp,h2⟩
  |false=>exact zoq hE hT hk ⟨c1,r1,rfl⟩ w es xs (i+1) (by simpa using hl) (fun i q e hq he=>hp (i+1) q e (by simpa using hq) (by simpa using he))
 | [],_::_,_,hl,_=>by simp at hl
 |_::_,[],_,hl,_=>by simp at hl
theorem Nz(hE:al P E){T:TypeId}{kt vt:Ty}(hT:E.ty T=some kt)(hk:kt.isKey=true){k:El kt}{v:Value}(h:eE X kt k v)(w:World)(es:List MapEntry)(xs:List (El kt×El vt))(hl:es.length=xs.length)
 (hp:∀(i:Nat) q e,xs[i]? =some q->es[i]? =some e->eE X kt q.1 e.key/\eE X vt q.2 e.val):
 (fh (gd kt) xs k=false/\fg (gd kt) (El.bT vt) xs k=El.bT vt/\(Instr.findKey T v es).run P w= .ok none w)\/(fh (gd kt) xs k=true/\∃j u,(Instr.findKey T v es).run P w= .ok (some (j,u)) w/\eE X vt (fg (gd kt) (El.bT vt) xs k) u):=by
 cases h1:kt.iB with
 |true=>
  obtain⟨d,hd,Sl,jg⟩:=PE hE hT h1 k
  rw[zr8 h1 h]
  rcases Nn (X:=X) h1 jg es xs 0 hl hp with⟨g1,g2,g3⟩|⟨g1,j,u,g3,g4⟩
  ·exact .inl ⟨g1,g2,MapKept.run_findKey hd g3⟩
  ·exact .inr ⟨g1,j,u,MapKept.run_findKey hd g3,g4⟩
 |false=>
  have hu:=(hE.ty T kt hT).dw
  cases kt<;>simp [Ty.isKey,Ty.iB] at hk h1
  rename_i ta tb
  obtain⟨fs,iz,_⟩:=hu
  have e:=run_findKey_eq (P:=P) w (k:=T) (by rw[iz]) v es
  have:=zoq (X:=X) hE hT hk h w es xs 0 hl hp
  rw[e]
  exact this
theorem zw1{T:TypeId}{kt vt:Ty}(hE:al P E)(h:nk E T=some (kt,vt)):∃k e,P.underlying T=some (.map k e)/\E.ty k=some kt/\E.ty e=some vt/\kt.isKey=true:=by
 unfold nk at h
 split at h
 case h_2=>cases h
 rename_i k e hm
 split at h
 case h_2=>cases h
 rename_i kt' vt' h1 h2
 split at h
 case isFalse=>cases h
 rename_i hk
 cases h
 exact⟨k,e,hE.mp T k e hm,h1,h2,hk⟩
theorem zp1{m:Operand}{kt vt:Ty}{R:Type}{K:Nat->List (El kt×El vt)->Option R}{z:R}(hr:Rel X s a)(h:vR s (s.aG m) kt vt K=some z):
 ∃id B r xs,K id xs=some z/\s.bs[id]? =some (some B)/\X.β id=some r/\X.ow r= .box id/\a.eval m= .map (some r)/\B.t.eL=false/\∃es clock,X.w.heap[r]? =some (.map es clock)/\es.size=xs.length/\
  ∀(i:Nat) (q:El kt×El vt) (e:MapEntry),xs[i]? =some q->es[i]? =some e->eE X kt q.1 e.key/\eE X vt q.2 e.val:=by
 have hx:=hr.aG m
 unfold vR at h
 split at h
 case h_2=>cases h
 rename_i id kt' vt' hm
 rw[hm] at hx
 obtain⟨r,hβ,hv⟩:=hx
 split at h
 case isFalse=>cases h
 split at h
 case h_2=>cases h
 rename_i B hB
 split at h
 case isFalse=>cases h
 rename_i dn
 have hb:=qJ hB
 obtain⟨r',h1,h2,h3⟩:=hr.boxes id B hb
 rw[hβ] at h1
 cases h1
 refine⟨id,B,r,_,h,hb,hβ,h2,hv,by rw[Ty.aI dn];rfl,?_⟩
 obtain⟨bt,bx,bo⟩:=B
 have e:=Ty.aI dn
 simp only at e
 subst e
 exact h3
theorem aci(hE:al P E)(hr:Rel X s a){ops:List Oper}{T:TypeId}{rs:Option Operand}(ho:o.op= .makeMap T rs){C:FuncId->bV Out}(h:act E C ops o s some=some u):aH P X s a o u:=by
 unfold act at h
 cases rs with
 |some r=>simp only[ho] at h;cases h
 |none=>
  simp only[ho] at h
  split at h
  case h_2=>cases h
  rename_i kt vt hm
  refine zi8 hr (t:= .aJ .mp kt vt) (p:= .aJ .mp kt vt) (x:=([]:List (El kt×El vt))) (b:= .map #[] 0) (v:= .map (some X.w.heap.size)) ?_ (fun Y _ hY pl=>⟨#[],0,hY,rfl,fun i q e hq=>by simp at hq⟩) rfl h
  simp [execOp,ho,Instr.makeMap]
theorem acJ(hE:al P E)(hr:Rel X s a){ops:List Oper}{T:TypeId}{x i:Operand}{ok:Bool}(ho:o.op= .lookup T x i ok){C:FuncId->bV Out}(h:act E C ops o s some=some u):aH P X s a o u:=by
 unfold act at h
 cases ok with
 |true=>simp only[ho] at h;cases h
 |false=>
  simp only[ho] at h
  unfold lv at h
  split at h
  case h_2=>cases h
  rename_i kt vt hm
  obtain⟨k,e,hu,hk,he,uk⟩:=zw1 hE hm
  obtain⟨id,B,r,xs,h,hb,hβ,how,hv,hBg,es,clock,aE,dm,fO⟩:=zp1 hr h
  obtain⟨key,h,ZR⟩:=zz h
  cases h
  obtain⟨ck,rk,evk⟩:=ZR X _ _ (hr.aG i)
  have Gv:=Mp hE hk uk (X:=X) (x:=key) ⟨ck,rk,evk⟩ es.isEmpty X.w
  rcases Nz (X:=X) hE hk uk (k:=key) ⟨ck,rk,evk⟩ X.w es.toList xs (by simpa using dm) (fun i q e hq he=>fO i q e hq (by simpa using he)) with⟨g1,g2,hf⟩|⟨g1,j,v,hf,g4⟩
  ·rw[g2]
   have hz:=TH (P:=P) hE he X.w
   refine aH.plain hr (v:=dR vt (zp vt)) ?_ (BF (sF X vt)) (fun _ _ _ e'=>by cases e')
   simp only[execOp,ho,Sem.run_bind,Instr.lookup,run_underlying hu,Result.andThen_ok,hv,MapKept.run_getObj_map aE,Sem.run_pure,Gv,hf,hz,Bool.false_eq_true,if_false]
  ·obtain⟨cv,rv,ev⟩:=g4
   refine aH.plain hr (v:=v) ?_ ⟨cv,rv,ev,mD⟩ (fun _ _ _ e'=>by cases e')
   simp only[execOp,ho,Sem.run_bind,Instr.lookup,run_underlying hu,Result.andThen_ok,hv,MapKept.run_getObj_map aE,Sem.run_pure,Gv,hf,Bool.false_eq_true,if_false]
theorem Nh(hE:al P E)(hr:Rel X s a){T:TypeId}{m k x:Operand}(ho:(execOp a.eval o).run P X.w=((Instr.mapUpdate T (a.eval m) (a.eval k) (a.eval x)).run P X.w).andThen fun _ w=> .ok .skip w)(h:mo E T s (s.aG m) (s.aG k) (s.aG x) some=some u):aH P X s a o u:=by
 unfold mo at h
 split at h
 case h_2=>cases h
 rename_i kt vt hm
 obtain⟨kT,eT,hu,hk,he,uk⟩:=zw1 hE hm
 obtain⟨id,B,r,xs,h,hb,hβ,how,hv,hBg,es,clock,aE,dm,fO⟩:=zp1 hr h
 obtain⟨key,h,ZR⟩:=zz h
 obtain⟨y,h,hyv⟩:=zz h
 obtain⟨ck,rk,Cd⟩:=ZR X _ _ (hr.aG k)
 obtain⟨cy,ry,Zm⟩:=hyv X _ _ (hr.aG x)
 have Gv:=Mp hE hk uk (X:=X) (x:=key) ⟨ck,rk,Cd⟩ false X.w
 rcases Nz (X:=X) hE hk uk (k:=key) ⟨ck,rk,Cd⟩ X.w es.toList xs (by simpa using dm) (fun i q e hq he=>fO i q e hq (by simpa using he)) with⟨g1,g2,hf⟩|⟨g1,j,v,hf,g4⟩
 ·rw[g1] at h
  cases h
  let new:Obj:= .map (es.push {key:=a.eval k,val:=a.eval x,born:=clock}) (clock+1)
  have aW:(execOp a.eval o).run P X.w= .ok .skip (X.obj r new).w:=by
   rw[ho]
   simp only[Instr.mapUpdate,Sem.run_bind,run_underlying hu,Result.andThen_ok,hv,MapKept.run_getObj_map aE,Gv,hf,MapKept.run_setObj_map _ aE]
   simp only[new]
   rfl
  have bH:bD (X.obj r new) id r ⟨.aJ .mp kt vt,(xs++ [(key,y)]:List (El kt×El vt)),[]⟩:=by
   refine⟨how,es.push {key:=a.eval k,val:=a.eval x,born:=clock},clock+1,NI aE,by simp [dm],fun i q e hq he=> ?_⟩
   have hs:∀ad v,X.ay ad v->(X.obj r new).ay ad v:=fun _ _=>Fu how
   have hq:(xs++ [(key,y)])[i]? =some q:=hq
   rw[List.getElem?_append] at hq
   rw[Array.getElem?_push] at he
   split at hq
   ·rename_i aq
    rw[if_neg (by omega)] at he
    obtain⟨j1,j2⟩:=fO i q e hq he
    exact⟨j1.mono hs,j2.mono hs⟩
   ·rename_i aq
    have hi:i-xs.length=0:=by
     have:=(List.getElem?_eq_some_iff.1 hq).1
     simp at this
     omega
    rw[hi] at hq
    cases hq
    rw[if_pos (by omega)] at he
    cases he
    exact⟨eE.mono hs ⟨ck,rk,Cd⟩,eE.mono hs ⟨cy,ry,Zm⟩⟩
  exact⟨X.obj r new,Go.undef,.inr ⟨aW,rfl⟩,OX how,(hr.obj hb hβ how bH (.inl hBg)).skip o.dst⟩
 ·rw[g1] at h
  cases h
theorem zcy(hE:al P E)(hr:Rel X s a){ops:List Oper}{T:TypeId}{m k x:Operand}(ho:o.op= .mapUpdate T m k x\/o.op= .insert T m k x){C:FuncId->bV Out}(h:act E C ops o s some=some u):aH P X s a o u:=by
 unfold act at h
 rcases ho with ho|ho
 ·simp only[ho] at h
  exact Nh hE hr (by simp [execOp,ho]) h
 ·simp only[ho] at h
  exact Nh hE hr (by simp [execOp,ho]) h
theorem adE(hE:al P E)(hr:Rel X s a){ops:List Oper}{T:TypeId}{x:Operand}(ho:o.op= .range T x){C:FuncId->bV Out}(h:act E C ops o s some=some u):aH P X s a o u:=by
 unfold act at h
 simp only[ho] at h
 split at h
 case h_2=>cases h
 rename_i hT
 obtain⟨y,h,hy⟩:=zz h
 obtain⟨cs,ry,ev⟩:=hy X _ _ (hr.aG x)
 rw[nC ry] at ev
 have hu:=(hE.ty T _ hT).dw
 refine zi8 hr (t:=kh) (p:=kh) (x:=((y,0):ByteArray×Nat)) (b:= .stringIter y 0) (v:= .pointer (some ⟨X.w.heap.size,0,none⟩)) ?_ (fun Y _ hY pl=>hY) ⟨rfl,trivial⟩ h
 simp [execOp,ho,Instr.range,run_underlying hu,ev]
theorem agB(hr:Rel X s a){ops:List Oper}{x:Operand}{str:Bool}(ho:o.op= .next x str){C:FuncId->bV Out}(h:act E C ops o s some=some u):aH P X s a o u:=by
 unfold act at h
 cases str with
 |false=>simp only[ho] at h;cases h
 |true=>
  simp only[ho] at h
  unfold lA at h
  have hx:=hr.aG x
  split at h
  case h_2=>cases h
  rename_i id hm
  rw[hm] at hx
  obtain⟨r,hβ,hv,_⟩:=hx
  split at h
  case h_2=>cases h
  rename_i B hB
  split at h
  case isFalse=>cases h
  rename_i dn
  have hb:=qJ hB
  obtain⟨r',h1,how,h3⟩:=hr.boxes id B hb
  rw[hβ] at h1
  cases h1
  have aE:X.w.heap[r]? =some (.stringIter (Ty.cast dn B.x:ByteArray×Nat).1 (Ty.cast dn B.x:ByteArray×Nat).2):=by
   obtain⟨bt,bx,bo⟩:=B
   have e:=Ty.aI dn
   simp only at e
   subst e
   exact h3
  generalize(Ty.cast dn B.x:ByteArray×Nat)=q at*
  obtain⟨st,pos⟩:=q
  simp only at h aE
  have hv:a.eval x= .pointer (some ⟨r,0,none⟩):=by simpa [Ty.off] using hv
  have cu:(getObj r).run P X.w= .ok (.stringIter st pos) X.w:=by simp [getObj,Sem.run,aE]
  cases aq:decide (pos<st.size) with
  |false=>
   rw[aq] at h
   cases h
   have aq:=of_decide_eq_false aq
   refine aH.plain hr (sv:= .over) (v:= .tuple #[.bool false]) ?_ rfl (fun _ _ _ e'=>by cases e')
   simp only[execOp,ho,Sem.run_bind,Instr.next,hv,cu,Result.andThen_ok,if_neg aq,Sem.run_pure]
  |true=>
   rw[aq] at h
   cases h
   have aq:=of_decide_eq_true aq
   let new:Obj:= .stringIter st (pos+(Utf8.decode st pos).2)
   have fu:(setObj r new).run P X.w= .ok () (X.obj r new).w:=by simp [setObj,Sem.run,aE,aw.obj]
   have bH:bD (X.obj r new) id r ⟨kh,((st,pos+(Utf8.decode st pos).2):ByteArray×Nat),[]⟩:=⟨how,NI aE⟩
   have fc:=hr.obj hb hβ how bH (.inl (by rw[Ty.aI dn];rfl))
   refine⟨X.obj r new,.tuple #[.bool true,.int .i64 pos,.int .i32 (Utf8.decode st pos).1],.inl ?_,OX how,?_⟩
   ·simp only[execOp,ho,Sem.run_bind,Instr.next,hv,cu,Result.andThen_ok,if_pos aq,Sem.run_pure]
    simp only[new] at fu
    rw[fu]
    rfl
   ·refine fc.put (fun d' e=>⟨_,rfl,rfl,fun j sv v hj hv=> ?_⟩) (fun id t' q hm=>by simp at hm)
    match j with
    |0=>cases hj;cases hv;exact nA
    |1=>cases hj;cases hv;exact jr
    |2=>cases hj;cases hv;exact jr
    |j+3=>simp at hj
theorem ak9{t:Ty}{k:Nat}(hk:(zp t).length=k)(n:Nat):((Array.range (n*k)).map fun i=>(zp t).toArray[i % (zp t).toArray.size]!).size=n*k/\
 ∀j,j<n->((((Array.range (n*k)).map fun i=>(zp t).toArray[i % (zp t).toArray.size]!).toList.drop (j*k)).take k)=zp t:=by
 refine⟨by simp,fun j hj=> ?_⟩
 apply List.ext_getElem?
 intro i
 rw[List.getElem?_take]
 split
 ·rename_i hi
  have aq:j*k+i<n*k:=by
   have:(j+1)*k<=n*k:=Nat.mul_le_mul_right _ hj
   rw[Nat.add_mul,Nat.one_mul] at this
   omega
  have CC:(j*k+i)% k=i:=by rw[Nat.mul_comm,Nat.mul_add_mod,Nat.mod_eq_of_lt hi]
  rw[List.getElem?_drop,Array.getElem?_toList,Array.getElem?_map,Array.getElem?_range,if_pos aq]
  simp only[Option.map_some,List.size_toArray,hk,CC]
  rw[List.getElem?_eq_getElem (by omega)]
  simp [getElem!_def,List.getElem?_eq_getElem (show i<(zp t).length by omega)]
 ·rename_i hi
  rw[List.getElem?_eq_none (by omega)]
theorem NC(hE:al P E){T e:TypeId}{t:Ty}(hT:E.ty T=some (.sl e t))(hk:t.cells≠0)(nG:E.bytes e≠0){n m:Int}(hn:0<=n)(hnm:n<=m)(hb:m*E.bytes e<=140737488355328)(w:World):
 m.toNat<=maxLen/\∃cur,cur.size=m.toNat*t.cells/\(∀j,j<m.toNat->(cur.toList.drop (j*t.cells)).take t.cells=zp t)/\
  (Instr.makeSlice T (.int .i64 n) (.int .i64 m)).run P w= .ok (.slice (some ⟨w.heap.size,0,none⟩) n.toNat m.toNat) (w.alloc (.cells cur e)):=by
 obtain⟨hu,he⟩:=(hE.ty T _ hT).dw
 obtain⟨i,hi,b6,gh,hz⟩:=(hE.ty e t he).info
 have hle:m<=m*E.bytes e:=by
  have h1:(1:Int)<=E.bytes e:=by omega
  have:=Int.mul_le_mul_of_nonneg_left h1 (show 0<=m by omega)
  simpa using this
 have CB:m.toNat<=maxLen:=by simp only[maxLen];omega
 have l7:(dR t (zp t)).cells=(zp t).toArray:=vH (X:=⟨w,fun _=> .all,fun _=>none⟩) (sF _ t)
 obtain⟨z1,z2⟩:=ak9 (va t) m.toNat
 refine⟨CB,(Array.range (m.toNat*t.cells)).map (fun i=>(zp t).toArray[i % (zp t).toArray.size]!),z1,z2,?_⟩
 have Sx:IntKind.i64.wrap n=n:=by simp [IntKind.wrap,IntKind.signed,IntKind.bits];omega
 have vA:IntKind.i64.wrap m=m:=by simp [IntKind.wrap,IntKind.signed,IntKind.bits];omega
 have hmul:(i.bytes:Int)*m<=2^48:=by rw[gh,Int.mul_comm];omega
 have c1:¬m<0:=by omega
 have c2:¬(281474976710656:Int)<(i.bytes:Int)*m:=by omega
 have c3:¬n<0:=by omega
 have c4:¬m<n:=by omega
 have hai:∀(n:Int) (w:World),(asInt (.int .i64 n)).run P w= .ok n w:=fun n w=>by simp [asInt,asIntOf]
 have hti:∀w:World,(typeInfo e).run P w= .ok i w:=fun w=>by simp [typeInfo,hi]
 have gk:∀w:World,(sizeOf e).run P w= .ok t.cells w:=fun w=>lJ hE he w
 have hzv:∀w:World,(zeroValue e).run P w= .ok (dR t (zp t)) w:=fun w=>TH hE he w
 simp only[Instr.makeSlice,Sem.run_bind,run_underlying hu,Result.andThen_ok,hai,hti,Sx,vA]
 by_cases h0:m.toNat*t.cells=0
 ·simp [c1,c2,c3,c4,gk,h0,newRow]
  rw[show Array.range 0= #[] from rfl]
  simp
 ·simp [c1,c2,c3,c4,gk,h0,hzv,l7,newRow]
theorem abP(hE:al P E)(hr:Rel X s a){ops:List Oper}{T:TypeId}{l c:Operand}(ho:o.op= .makeSlice T l c){C:FuncId->bV Out}(h:act E C ops o s some=some u):aH P X s a o u:=by
 unfold act at h
 simp only[ho] at h
 unfold lz at h
 split at h
 case h_2=>cases h
 rename_i e t hT
 split at h
 ·cases h
 rename_i bJ
 have nG:E.bytes e≠0:=fun e0=>bJ (by rw[e0];rfl)
 have hk:t.cells≠0:=fun e0=>bJ (by rw[e0];simp)
 obtain⟨n,h,hn⟩:=zz h
 obtain⟨m,h,hm⟩:=zz h
 obtain⟨_,rn,en⟩:=hn X _ _ (hr.aG l)
 rw[lL rn] at en
 obtain⟨_,rm,em⟩:=hm X _ _ (hr.aG c)
 rw[lL rm] at em
 cases hc:OR l with
 |true=>
  rw[hc] at h
  simp only[cond_true] at h
  cases d1:decide (n=0)<;>rw[d1] at h<;>simp only[cond_true,cond_false] at h
  ·cases h
  cases d2:decide (0<=m)<;>rw[d2] at h<;>simp only[cond_true,cond_false] at h
  ·cases h
  cases d3:decide (m*E.bytes e<=140737488355328)<;>rw[d3] at h<;>simp only[cond_true,cond_false] at h
  ·cases h
  cases h
  have d1:=of_decide_eq_true d1
  have d2:=of_decide_eq_true d2
  have d3:=of_decide_eq_true d3
  subst d1
  obtain⟨CB,cur,g1,g2,aW⟩:=NC (P:=P) hE hT hk nG (n:=0) (m:=m) (by omega) d2 d3 X.w
  have xu:eP s X (X.kP (.cells cur e) (.row (.c (o.dst.getD 0) 0 []) 0) X.β):=Mo X _ _ _ _ rfl (fun _ _ _=>rfl)
  refine⟨X.kP (.cells cur e) (.row (.c (o.dst.getD 0) 0 []) 0) X.β,.slice (some ⟨X.w.heap.size,0,none⟩) 0 m.toNat,.inl ?_,xu.ext,(hr.dx xu).fin ⟨[.slice (some ⟨X.w.heap.size,0,none⟩) 0 m.toNat],⟨_,_,rfl,Nat.zero_le _,fun j x hj=>by simp at hj⟩,rfl,fun p hp=> ?_⟩ (fun id t p hm=>by simp at hm)⟩
  ·simp only[execOp,ho,Sem.run_bind,en,em,aW,Result.andThen_ok,Sem.run_pure]
   rfl
  ·have hp:p=[]:=by simpa using hp
   subst hp
   refine⟨e,t,[],_,by simp [Ty.eK],rfl,rfl,.inr ⟨X.w.heap.size,m.toNat,cur,rfl,heap_alloc_new X.w _,Nat.zero_le _,CB,g1,?_⟩⟩
   simp [aw.kP]
 |false=>
  rw[hc] at h
  simp only[cond_false] at h
  cases d1:decide (n=m)<;>rw[d1] at h<;>simp only[cond_true,cond_false] at h
  ·cases h
  cases d2:decide (0<=n)<;>rw[d2] at h<;>simp only[cond_true,cond_false] at h
  ·cases h
  cases d3:decide (n*E.bytes e<=140737488355328)<;>rw[d3] at h<;>simp only[cond_true,cond_false] at h
  ·cases h
  have d1:=of_decide_eq_true d1
  have d2:=of_decide_eq_true d2
  have d3:=of_decide_eq_true d3
  have d1:m=n:=d1.symm
  subst d1
  obtain⟨CB,cur,g1,g2,aW⟩:=NC (P:=P) hE hT hk nG (n:=m) (m:=m) d2 (Int.le_refl _) d3 X.w
  refine zi8 hr (t:= .aJ .row t .unit) (p:= .aJ (.iP m.toNat) t .unit) (x:=(List.replicate m.toNat (El.bT t):List (El t))) (b:= .cells cur e) (v:= .slice (some ⟨X.w.heap.size,0,none⟩) m.toNat m.toNat) ?_ (fun Y _ hY pl=>⟨cur,e,hY,?_,fun j x hj=> ?_⟩) ⟨_,rfl,Nat.le_refl _⟩ h
  ·simp only[execOp,ho,Sem.run_bind,en,em,aW,Result.andThen_ok,Sem.run_pure]
  ·rw[g1];show _=List.length (List.replicate _ _)*_;rw[List.length_replicate]
  ·have hj:(List.replicate m.toNat (El.bT t))[j]? =some x:=hj
   rw[List.getElem?_replicate] at hj
   split at hj
   ·rename_i aq
    cases hj
    rw[g2 j aq]
    exact sF Y t
   ·cases hj
end Go.Ref

namespace Go.Ref
open Go
variable {P:Program} {E:Env} {X:aw} {s:State} {a:Act} {o:Oper} {u:Out}
theorem aj6(hE:al P E)(hr:Rel X s a){ops:List Oper}{T:TypeId}{x:Operand}{lo hi:Option Operand}(ho:o.op= .slice T x lo hi none){C:FuncId->bV Out}(h:act E C ops o s some=some u):aH P X s a o u:=by
 unfold act at h
 simp only[ho] at h
 split at h
 ·rename_i id n ta tb dE
  split at h
  case h_2=>cases h
  rename_i e t hT
  split at h
  case isFalse=>cases h
  rename_i heq
  have:=Ty.aI heq
  subst this
  unfold tV at h
  split at h
  ·cases h
  rename_i Kp
  have Cw:hi=none:=by
   cases hi with
   |none=>rfl
   |some _=>cases Kp
  subst Cw
  obtain⟨l,h,h1,hl⟩:=zb0 h
  cases h
  have hx:=hr.aG x
  rw[dE] at hx
  obtain⟨r0,hβ,cap,hv,m7⟩:=hx
  have hu:=(hE.ty T _ hT).dw
  have hbd:=zdu (P:=P) (isS:=true) hr hl (hi:=none) (m:=n) (n:=n) (c:=cap) rfl h1 (Nat.le_refl _) m7 X.w
  rw[Option.map_none] at hbd
  refine aH.plain hr (v:= .slice (if cap=l then some ⟨r0,0,none⟩ else(some (⟨r0,0,none⟩:Addr)).map (·.add (l*ta.cells))) (n-l) (cap-l)) ?_ ⟨r0,hβ,?_⟩ (fun _ _ _ e=>by cases e;exact sH hr dE)
  ·simp only[execOp,ho,Sem.run_bind,Instr.sliceAt,run_underlying hu.1,Result.andThen_ok,Instr.slice,hv,Option.map_none,hbd,Sem.run_pure,lJ hE hu.2]
  ·show∃xg off,_=Value.slice (some ⟨r0,off,none⟩) (n-l) xg/\_
   by_cases e':cap=l
   ·rw[if_pos e']
    exact⟨_,_,rfl,by omega,h1,.inl ⟨by omega,rfl⟩⟩
   ·rw[if_neg e']
    refine⟨cap-l,l*ta.cells,?_,by omega,h1,.inr rfl⟩
    rw[Option.map_some,iK,Nat.zero_add]
 ·rename_i id n t dE
  have hx:=hr.aG x
  rw[dE] at hx
  obtain⟨r0,hβ,hv⟩:=hx
  unfold rD at h
  split at h
  case h_2=>cases h
  rename_i u' hT AH Kp
  have lo0:lo=none:=by
   cases lo with
   |none=>rfl
   |some _=>cases AH
  have Cw:hi=none:=by
   cases hi with
   |none=>rfl
   |some _=>cases Kp
  subst lo0 Cw
  split at h
  case isFalse=>cases h
  rename_i heq
  have:=Ty.aI heq
  subst this
  split at h
  case h_2=>cases h
  rename_i B hB
  split at h
  case isFalse=>cases h
  rename_i dn
  cases h
  have hb:=qJ hB
  obtain⟨r,h1,ua⟩:=hr.boxes id B hb
  rw[hβ] at h1
  cases h1
  obtain⟨bt,bx,bo⟩:=B
  have e:=Ty.aI dn
  simp only at e
  subst e
  obtain⟨cs,T',aE,aL,how,_⟩:=ua.cells rfl
  have hv:a.eval x= .pointer (some ⟨r0,0,none⟩):=by rw[((qH rfl).1 hv).1];rfl
  obtain⟨e,iz,iR,_⟩:=(hE.ty T _ hT).dw
  have hlen:List.length (bx:List (El t))=n:=aL.1
  have bH:bD X id r0 ⟨.aJ .row t .unit,(bx:List (El t)),[]⟩:=⟨how,cs,T',aE,by have:=aL.2.1;rw[hlen];simpa using this,aL.2.2⟩
  have Kk:(Ty.cast dn bx:El (.arr n t))=bx:=rfl
  rw[Kk]
  refine⟨X,.slice (some ⟨r0,0,none⟩) n n,.inl ?_,Ext.refl X,(hr.ml hb hβ bH (.inl rfl)).fin ⟨r0,hβ,n,rfl,Nat.le_refl _⟩ (fun bc t' p' hm=> ?_)⟩
  ·simp only[execOp,ho,Sem.run_bind,Instr.sliceAt,run_underlying iz,Result.andThen_ok,Option.map_none,hv,Instr.sureAddr,Sem.run_pure,lJ hE iR]
   simp [Instr.sliceBounds]
   intro _
   rw[iK]
  ·have sn:SV.ptr bc t' p'= .ptr id (.aJ (.iP n) t .unit) []:=by simpa using hm
   cases sn
   exact⟨_,SZ hb⟩
 ·exact agy hE hr ho h
theorem abT(hr:Rel X s a){ops:List Oper}{fn:Fn}{fi ca:Array Operand}(ho:o.op= .makeFunc fn fi ca){C:FuncId->bV Out}(h:act E C ops o s some=some u):aH P X s a o u:=by
 unfold act at h
 cases fn with
 |func f=>
  simp only[ho] at h
  split at h
  case h_3=>cases h
  case h_2=>
   rename_i x y ue Cj
   have ue:fi= #[]:=by rw[<-Array.toArray_toList (xs:=fi),ue]
   have Cj:ca= #[x,y]:=by rw[<-Array.toArray_toList (xs:=ca),Cj]
   subst ue Cj
   unfold tR at h
   split at h
   case h_2=>cases h
   rename_i t x1 u' y1 dE KW
   cases h
   have hx:=hr.aG x
   have hy:=hr.aG y
   rw[dE] at hx
   rw[KW] at hy
   obtain⟨ad,cs,h1,h2,h3,h4⟩:=hx
   obtain⟨qt,eJ,k1,k2,k3,k4⟩:=hy
   refine aH.plain hr (v:= .func (.func f) #[] #[.pointer (some ad),.pointer (some qt)]) ?_ ⟨ad,qt,cs,eJ,rfl,⟨h2,h3,h4⟩,k2,k3,k4⟩ (fun _ _ _ e=>by cases e)
   simp [execOp,ho,Instr.makeFunc,h1,k1]
  rename_i x ue Cj
  have ue:fi= #[]:=by rw[<-Array.toArray_toList (xs:=fi),ue]
  have Cj:ca= #[x]:=by rw[<-Array.toArray_toList (xs:=ca),Cj]
  subst ue Cj
  unfold mW at h
  split at h
  case h_2=>cases h
  rename_i id u' dE
  split at h
  case isTrue=>cases h
  rename_i hs
  cases h
  have hx:=hr.aG x
  rw[dE] at hx
  obtain⟨r0,hβ,hv⟩:=hx
  have hv:=((Qk (by simpa using hs)).1 hv).1
  refine aH.plain hr (v:= .func (.func f) #[] #[.pointer (some ⟨r0,0,none⟩)]) ?_ ⟨r0,hβ,rfl⟩ (fun _ _ _ e=>by cases e;exact sH hr dE)
  have hv:a.eval x= .pointer (some ⟨r0,0,none⟩):=by rw[hv];simp [Ty.off]
  simp [execOp,ho,Instr.makeFunc,hv]
 |_=>simp only[ho] at h;cases h
theorem M7{t:Ty}{xs:List (El t)}{n l:Nat}{cs:List Value}(h:bg X (.arr n t) xs cs)(hl:l<=n):bg X (.arr l t) (xs.take l:List (El t)) (cs.take (l*t.cells)):=by
 obtain⟨h1,h2,h3⟩:=h
 have hm:=Nat.mul_le_mul_right t.cells hl
 refine⟨by rw[List.length_take];omega,by rw[List.length_take];omega,fun j y hj=> ?_⟩
 have hj:(xs.take l)[j]? =some y:=hj
 rw[List.getElem?_take] at hj
 split at hj
 case isFalse=>cases hj
 rename_i ui
 have hk:(j+1)*t.cells<=l*t.cells:=Nat.mul_le_mul_right _ ui
 rw[Nat.add_mul,Nat.one_mul] at hk
 have e:((cs.take (l*t.cells)).drop (j*t.cells)).take t.cells=(cs.drop (j*t.cells)).take t.cells:=by
  rw[List.drop_take,List.take_take,Nat.min_eq_left (by omega)]
 rw[e]
 exact h3 j y hj
theorem z171{t:Ty}{xs:List (El t)}{n l:Nat}{cs:List Value}(h:bg X (.arr n t) xs cs)(hl:l<=n):bg X (.arr (n-l) t) (xs.drop l:List (El t)) (cs.drop (l*t.cells)):=by
 obtain⟨h1,h2,h3⟩:=h
 refine⟨by rw[List.length_drop];omega,by rw[List.length_drop,Nat.sub_mul];omega,fun j y hj=> ?_⟩
 have hj:(xs.drop l)[j]? =some y:=hj
 rw[List.getElem?_drop] at hj
 rw[List.drop_drop,<-Nat.add_mul]
 exact h3 (l+j) y hj
theorem NM{α:Type}(xs ys:List α)(lo:Nat)(h:lo+ys.length<=xs.length):(bY xs ys lo).length=xs.length:=by
 unfold bY;simp;omega
theorem zv8(hE:al P E)(hr:Rel X s a){d x:Operand}{T e:TypeId}{t:Ty}{ts:Array TypeId}(ho:o.op= .call ⟨.builtin .copy,#[d,x],ts⟩)(kD:ts[0]? =some T)(hT:E.ty T=some (.sl e t)){id n lo:Nat}{ta tb:Ty}{p:List Nat}
 (dE:s.aG d= .ptr id (.aJ (.iP n) ta tb) p) (oI:∀r,nu (.aJ (.iP n) ta tb) p r (a.eval d)->∃cap off,a.eval d= .slice (some ⟨r,off,none⟩) (n-lo) cap/\lo<=n/\((n=lo/\off=0)\/off=lo*ta.cells))
 (h:iu t s id n lo ta tb (s.aG x) e some=some u):aH P X s a o u:=by
 have hx:=hr.aG d
 rw[dE] at hx
 obtain⟨r0,hβ,hv⟩:=hx
 unfold iu at h
 split at h
 case isFalse=>cases h
 rename_i heq
 have:=Ty.aI heq
 subst this
 obtain⟨ys,h,uE⟩:=zz h
 split at h
 case h_2=>cases h
 rename_i B hB
 split at h
 case isFalse=>cases h
 rename_i dn
 obtain⟨hb,r,h1,how,cs,T',aE,dm,fO⟩:=FV hr hB dn
 rw[hβ] at h1
 cases h1
 generalize(Ty.cast dn B.x:List (El ta))=xs at*
 cases hn:Nat.beq n (List.length xs)<;>rw[hn] at h
 ·cases h
 cases AH:Nat.ble lo n<;>rw[AH] at h
 ·cases h
 cases h
 have hn:=Nat.eq_of_beq_eq_true hn
 have AH:=Nat.le_of_ble_eq_true AH
 obtain⟨cap,off,hd,_,xA⟩:=oI r0 hv
 obtain⟨cx,lF,ev⟩:=uE X _ _ (hr.aG x)
 have abL:=lF
 obtain⟨A,c,xp,_⟩:=abL
 have ev:a.eval x= .slice A ys.length c:=by rw[ev,xp];rfl
 rw[xp] at lF
 obtain⟨_,hc,cy,ry,ny,sy⟩:=zb8 (X:=X) lF
 have hu:=(hE.ty T _ hT).dw
 have hm:(ys.take (n-lo)).length=min ys.length (n-lo):=by rw[List.length_take,Nat.min_comm]
 generalize GH:min ys.length (n-lo)=m at hm
 have hmy:m<=ys.length:=by omega
 have hmn:m<=n-lo:=by omega
 have htk:ys.take (n-lo)=ys.take m:=by
  rw[<-GH]
  rcases Nat.le_total ys.length (n-lo) with g|g
  ·rw[Nat.min_eq_left g,List.take_of_length_le g,List.take_of_length_le (Nat.le_refl _)]
  ·rw[Nat.min_eq_right g]
 have rz:=M7 ry hmy
 have K0:(cy.take (m*ta.cells)).length=m*ta.cells:=rz.2.1
 have eF:bg X (.arr xs.length ta) xs cs.toList:=⟨rfl,by simpa using dm,fO⟩
 have kd:(Builtin.firstCells ta.cells m (a.eval x)).run P X.w= .ok (cy.take (m*ta.cells)).toArray X.w:=by
  rw[ev]
  cases A with
  |none=>
   have:=ny rfl
   subst this
   have:m=0:=by simpa using hmy
   subst this
   simp [Builtin.firstCells]
  |some ad=>
   have:=run_loadCells_list (P:=P) X.w ad (cy.take (m*ta.cells)) (fun j v hj=>by
    rw[List.getElem?_take] at hj
    split at hj
    ·exact(sy ad rfl j v hj).2.1
    ·cases hj)
   rw[K0] at this
   simpa [Builtin.firstCells] using this
 have di:off+0+(cy.take (m*ta.cells)).length<=cs.size:=by
  rw[K0,dm,<-hn]
  rcases xA with⟨g1,g2⟩|g
  ·have:m=0:=by omega
   subst this
   omega
  ·rw[g,Nat.add_zero,<-Nat.add_mul]
   exact Nat.mul_le_mul_right _ (by omega)
 let new:=(cs.toList.take off++cy.take (m*ta.cells)++cs.toList.drop (off+(cy.take (m*ta.cells)).length)).toArray
 have bP:=run_storeCells_at P r0 off T' (cy.take (m*ta.cells)) 0 cs X.w aE di rz.one
 simp only[Nat.add_zero] at bP di
 have aW:(execOp a.eval o).run P X.w= .ok (.value (.int .i64 m)) (X.row r0 new).w:=by
  have ZS:Nat.min ys.length (n-lo)=m:=GH
  simp only[execOp,ho,resolve,invoke,builtin,Sem.run_bind,Sem.run_pure,Result.andThen_ok,List.map_toArray,List.map_cons,List.map_nil,Builtin.copy_,kD,hd]
  have e1:(Builtin.lenOf (a.eval x)).run P X.w= .ok ys.length X.w:=by rw[ev];simp [Builtin.lenOf]
  simp [run_underlying hu.1,e1,ZS,kd,bP,goInt,lJ hE hu.2]
  show _=X.w.setRow r0 new
  congr 1
  simp [new]
 have dV:new.toList=cs.toList.take off++cy.take (m*ta.cells)++cs.toList.drop (off+(cy.take (m*ta.cells)).length):=rfl
 have aL:bg X (.arr xs.length ta) (bY xs (ys.take m) lo:List (El ta)) new.toList:=by
  rw[dV,K0]
  by_cases m0:m=0
  ·subst m0
   have e1:bY xs (ys.take 0) lo=xs:=by unfold bY;simp
   rw[e1]
   simpa using eF
  ·have g:off=lo*ta.cells:=by rcases xA with⟨g1,_⟩|g<;>omega
   have h1:=M7 eF (show lo<=xs.length by omega)
   have h3:=z171 eF (show lo+m<=xs.length by omega)
   have:=GV h1 (GV rz h3)
   rw[show lo+(m+(xs.length-(lo+m)))=xs.length by omega] at this
   unfold bY
   rw[show(ys.take m).length=m by rw[List.length_take];omega,g,<-Nat.add_mul,List.append_assoc]
   exact this
 have b6:new.size=cs.size:=by
  have h1:new.toList.length=xs.length*ta.cells:=aL.2.1
  rw[dm,<-h1];simp
 have bH:bD (X.row r0 new) id r0 ⟨.aJ .row ta tb,(bY xs (ys.take (n-lo)) lo:List (El ta)),[]⟩:=by
  rw[htk]
  refine⟨how,new,T',setRow_heap X.w r0 cs new T' (0,0) aE,?_,fun j z hj=> ?_⟩
  ·rw[b6,dm]
   show _=List.length (bY xs (ys.take m) lo)*_
   rw[NM _ _ _ (by rw[List.length_take];omega)]
  ·exact bg.ai (fun _ _=>mE (cs:=new) how) (aL.2.2 j z hj)
 refine⟨X.row r0 new,.int .i64 m,.inl aW,FW how,?_⟩
 rw[hm]
 exact(hr.row hb hβ how bH (.inl (by rw[Ty.aI dn];rfl))).fin jr (fun id t p hm=>by simp [i64] at hm)
theorem agk{X:aw}(l:List UInt8):bg X (.arr l.length (.int .u8)) (l.map fun c=>(c.toNat:Int):List Int) (l.map fun c=>Value.int .u8 c.toNat):=by
 refine⟨by show(l.map _).length=_;simp,by simp [Ty.cells],fun j y hj=> ?_⟩
 have hj:(l.map fun c=>(c.toNat:Int))[j]? =some y:=hj
 rw[List.getElem?_map] at hj
 obtain⟨c,hc,rfl⟩:=Option.map_eq_some_iff.1 hj
 have:((l.map fun c=>Value.int .u8 c.toNat).drop (j*(Ty.int IntKind.u8).cells)).take (Ty.int IntKind.u8).cells=[Value.int .u8 c.toNat]:=by
  rw[show(Ty.int IntKind.u8).cells=1 from rfl,Nat.mul_one]
  apply List.ext_getElem?
  intro i
  rw[List.getElem?_take]
  cases i with
  |zero=>simp [hc]
  |succ i=>simp
 rw[this]
 rfl
theorem adA(hE:al P E)(hr:Rel X s a){d x:Operand}{T e:TypeId}{t:Ty}{ts:Array TypeId}(ho:o.op= .call ⟨.builtin .copy,#[d,x],ts⟩)(kD:ts[0]? =some T)(hT:E.ty T=some (.sl e t)){id n:Nat}{ta tb:Ty}
 (dE:s.aG d= .ptr id (.aJ (.iP n) ta tb) []) {y:ByteArray} {w:List (List Nat)} (KW:s.aG x= .aj .str y w) (h:ka t s id n ta tb y some=some u):aH P X s a o u:=by
 have hx:=hr.aG d
 rw[dE] at hx
 obtain⟨r0,hβ,cap,hd,m7⟩:=hx
 unfold ka at h
 split at h
 case isFalse=>cases h
 rename_i ZH
 have:=Ty.aI ZH
 subst this
 split at h
 case isFalse=>cases h
 rename_i heq
 have:=Ty.aI heq
 subst this
 split at h
 case h_2=>cases h
 rename_i B hB
 split at h
 case isFalse=>cases h
 rename_i dn
 obtain⟨hb,r,h1,how,cs,T',aE,dm,fO⟩:=FV hr hB dn
 rw[hβ] at h1
 cases h1
 generalize(Ty.cast dn B.x:List Int)=xs at*
 cases hn:Nat.beq n (List.length xs)<;>rw[hn] at h
 ·cases h
 cases h
 have hn:=Nat.eq_of_beq_eq_true hn
 have hy:=hr.aG x
 rw[KW] at hy
 obtain⟨cy,ry,ev,_⟩:=hy
 have ev:a.eval x= .string y:=by rw[ev,nC ry]
 have hu:=(hE.ty T _ hT).dw
 have vv:(Ty.int IntKind.u8).cells=1:=rfl
 rw[vv,Nat.mul_one] at dm
 let l:=y.data.toList.take n
 have GG:l.length=min n y.size:=by simp [l]
 have Kg:List.take n (nO y)=l.map fun c=>(c.toNat:Int):=by simp [nO,l]
 have kd:(Builtin.firstCells 1 (Nat.min y.size n) (.string y)).run P X.w= .ok (l.map fun c=>Value.int .u8 c.toNat).toArray X.w:=by
  have e1:((y.extract 0 (Nat.min y.size n)).data.map fun b=>Value.int .u8 b.toNat)=(l.map fun c=>Value.int .u8 c.toNat).toArray:=by
   apply Array.ext'
   have e0:(y.extract 0 (Nat.min y.size n)).data.toList=l:=by
    rw[ByteArray.data_extract,Array.toList_extract,List.extract_eq_take_drop]
    show List.take (Nat.min y.size n-0) (y.data.toList.drop 0)=y.data.toList.take n
    rw[Nat.sub_zero,List.drop_zero]
    show List.take (min y.data.toList.length n) y.data.toList=y.data.toList.take n
    rw[Nat.min_comm,<-List.take_eq_take_min]
   rw[Array.toList_map,e0]
  simp only[Builtin.firstCells,Sem.run_pure,e1]
 have di:0+(l.map fun c=>Value.int .u8 c.toNat).length<=cs.size:=by
  rw[List.length_map,dm,<-hn,GG];omega
 let new:=((l.map fun c=>Value.int .u8 c.toNat)++cs.toList.drop l.length).toArray
 have rz:=agk (X:=X) l
 have bP:=run_storeCells_at P r0 0 T' (l.map fun c=>Value.int .u8 c.toNat) 0 cs X.w aE (by simpa using di) rz.one
 have aW:(execOp a.eval o).run P X.w= .ok (.value (.int .i64 (l.length:Nat))) (X.row r0 new).w:=by
  have e1:(Builtin.lenOf (a.eval x)).run P X.w= .ok y.size X.w:=by rw[ev];simp [Builtin.lenOf]
  have e2:Nat.min y.size n=l.length:=by rw[GG];exact Nat.min_comm _ _
  have e3:=kd
  rw[e2] at e3
  simp only[execOp,ho,resolve,invoke,builtin,Sem.run_bind,Sem.run_pure,Result.andThen_ok,List.map_toArray,List.map_cons,List.map_nil,Builtin.copy_,kD,hd]
  rw[ev] at e1⊢
  simp [run_underlying hu.1,e1,e2,e3,bP,goInt,lJ hE hu.2,vv]
  rfl
 have eF:bg X (.arr xs.length (.int .u8)) xs cs.toList:=⟨rfl,by simpa [vv] using dm,fO⟩
 have aL:bg X (.arr xs.length (.int .u8)) (bY xs (l.map fun c=>(c.toNat:Int)) 0:List Int) new.toList:=by
  have hle:l.length<=xs.length:=by rw[GG];omega
  have h3:=z171 eF hle
  have:=GV rz h3
  rw[show l.length+(xs.length-l.length)=xs.length by omega] at this
  unfold bY
  simp only[List.take_zero,List.nil_append,Nat.zero_add,List.length_map]
  rw[vv,Nat.mul_one] at this
  exact this
 have b6:new.size=cs.size:=by
  have h1:new.toList.length=xs.length*1:=aL.2.1
  rw[dm];simpa using h1
 have bH:bD (X.row r0 new) id r0 ⟨.aJ .row (.int .u8) tb,(bY xs (List.take n (nO y)) 0:List Int),[]⟩:=by
  rw[Kg]
  refine⟨how,new,T',setRow_heap X.w r0 cs new T' (0,0) aE,?_,fun j z hj=> ?_⟩
  ·rw[b6,dm]
   show _=List.length (bY xs (l.map fun c=>(c.toNat:Int)) 0)*_
   rw[NM _ _ _ (by rw[List.length_map,GG];omega)]
   simp [vv]
  ·exact bg.ai (fun _ _=>mE (cs:=new) how) (aL.2.2 j z hj)
 refine⟨X.row r0 new,.int .i64 (l.length:Nat),.inl aW,FW how,?_⟩
 have Kv:(List.take n (nO y)).length=l.length:=by rw[Kg,List.length_map]
 rw[Kv]
 exact(hr.row hb hβ how bH (.inl (by rw[Ty.aI dn];rfl))).fin jr (fun id t p hm=>by simp [i64] at hm)
theorem agx(hE:al P E)(hr:Rel X s a){ops:List Oper}{dN:Array Operand}{ts:Array TypeId}(ho:o.op= .call ⟨.builtin .copy,dN,ts⟩){C:FuncId->bV Out}(h:act E C ops o s some=some u):aH P X s a o u:=by
 unfold act at h
 simp only[ho] at h
 split at h
 case h_2=>cases h
 rename_i d x T r ss Ch
 have has:dN= #[d,x]:=by rw[<-Array.toArray_toList (xs:=dN),ss]
 have kD:ts[0]? =some T:=by rw[<-Array.getElem?_toList,Ch];rfl
 subst has
 unfold copyV at h
 split at h
 ·rename_i e t id n ta tb hT dE
  split at h
  ·rename_i y w KW
   exact adA hE hr ho kD hT dE KW h
  ·exact zv8 hE hr ho kD hT dE (fun r hv=>by
    obtain⟨cap,h1,h2⟩:=hv
    exact⟨cap,0,h1,Nat.zero_le _,.inr (by simp)⟩) h
 ·rename_i e t id n ta tb l hT dE
  exact zv8 hE hr ho kD hT dE (fun r hv=>by
   obtain⟨cap,off,h1,h2,h3,h4⟩:=hv
   exact⟨cap,off,h1,h3,h4⟩) h
 ·cases h
end Go.Ref

namespace Go.Ref
open Go
variable {P:Program} {E:Env} {X:aw} {s:State} {a:Act} {o:Oper} {u:Out}
structure jS(X:aw)(l:List SV)(b:Option bC)(args:Array Value):Prop where
 size:args.size=l.length
 rep:∀(i:Nat) sv v,l[i]? =some sv->args[i]? =some v->az X (.c i 0) sv v
 ptr:∀id t p,SV.ptr id t p∈l->id=0/\b.isSome=true
 box:∀B,b=some B->∃r,X.β 0=some r/\bD X 0 r B
 rows:b=none->∀g pl n,X.ow g≠ .row pl n
 oM:l.any SV.bL=false
def yt(X Y:aw)(b:Option bC)(r:List SV)(b':Option bC)(v:Value):Prop:=
 ∃r0,cM {Y with β:=fun _=>some r0} .r r v/\
  (∀B',b'=some B'->bD Y 0 r0 B'/\(b.isSome=true->X.β 0=some r0))/\
  ((b'=none\/b.isSome=true)->∀id t p,SV.ptr id t p∉r)/\r.any SV.bL=false
def sf(P:Program)(f:FuncId):Prop:=∃fn c,P.funcs[f]? =some fn/\(fn.name== "runtime.NumGoroutine")=false/\fn.body=some c
def cY(P:Program)(C:ah)(f:FuncId):Prop:=
 ∀(l:List SV) (b:Option bC) (r:List SV) (b':Option bC),C (List SV×Option bC) f l b (fun r b=>some (r,b))=some (r,b')->sf P f/\
  ∀(X:aw) (args:Array Value),jS X l b args->Calls P f args X.w fun e w'=>match e with
   | .returned v=>∃Y,Y.w=w'/\Ext X Y/\yt X Y b r b' v
   |_=>False
def iT(k:Option Nat):Ow->Bool
 | .box id=>decide (k=some id)
 | .row (.b id _) _=>decide (k=some id)
 |_=>false
def iA(k:Option Nat):Ow->Ow
 | .all=> .all
 | .ro n=> .ro n
 | .box id=>if k=some id then .box 0 else .ro 0
 | .row (.b id p) n=>if k=some id then .row (.b 0 p) n else .ro n
 | .row _ n=> .ro n
def jl(k:Option Nat)(d:Nat):Ow->Ow
 | .all=> .all
 | .ro n=> .ro n
 | .box 0=>match k with
   |some id=> .box id
   |none=> .ro 0
 | .box _=> .ro 0
 | .row (.r j p) n=> .row (.c d j p) n
 | .row (.b 0 p) n=>match k with
   |some id=> .row (.b id p) n
   |none=> .ro n
 | .row _ n=> .ro n
theorem Mi{k:Option Nat}{w:Ow}{i:Nat}:(iA k w).used i↔w.used i:=by
 cases w with
 |all=>rfl
 |ro n=>rfl
 |box id=>simp only[iA];split<;>simp [Ow.used]
 |row pl n=>
  cases pl with
  |b id p=>simp only[iA];split<;>simp [Ow.used]
  |_=>rfl
theorem adU{k:Option Nat}{d:Nat}{w:Ow}{i:Nat}(h:w.used i):(jl k d w).used i:=by
 cases w with
 |all=>exact h
 |ro n=>exact h
 |box id=>exact h.elim
 |row pl n=>
  cases pl with
  |b id p=>
   cases id with
   |zero=>simp only[jl];split<;>exact h
   |succ id=>exact h
  |c i j p=>exact h
  |r j p=>exact h
theorem zvp{k:Option Nat}{w:Ow}(h:iT k w=false):(iA k w).still:=by
 cases w with
 |all=>trivial
 |ro n=>trivial
 |box id=>simp only[iT,decide_eq_false_iff_not] at h;simp only[iA];rw[if_neg h];trivial
 |row pl n=>
  cases pl with
  |b id p=>simp only[iT,decide_eq_false_iff_not] at h;simp only[iA];rw[if_neg h];trivial
  |_=>trivial
def aw.cS(X:aw)(k:Option Nat):aw:=⟨X.w,fun g=>iA k (X.ow g),match k with
 |some id=>fun _=>X.β id
 |none=>X.β⟩
theorem ve{k:Option Nat}{ad:Addr}{v:Value}:(X.cS k).ay ad v↔X.ay ad v:=by
 simp only[aw.ay,aw.cS,Mi]
def aw.back(X Y:aw)(k k':Option Nat)(d:Nat)(β:Nat->Option Nat):aw:=
 ⟨Y.w,fun g=>if g<X.w.heap.size/\iT k (X.ow g)=false then X.ow g else jl k' d (Y.ow g),β⟩
section
variable {k k':Option Nat} {d:Nat} {β:Nat->Option Nat} {Y:aw}
theorem Fq(h:Ext (X.cS k) Y){g:Nat}(hg:g<X.w.heap.size)(hm:iT k (X.ow g)=false):(X.back Y k k' d β).ow g=X.ow g/\(X.back Y k k' d β).w.heap[g]? =X.w.heap[g]? /\(Y.ow g).still/\Y.ow g=iA k (X.ow g):=by
 obtain⟨h1,h2⟩:=h.still g hg (zvp hm)
 refine⟨by simp only[aw.back];rw[if_pos ⟨hg,hm⟩],h2,?_,h1⟩
 rw[h1];exact zvp hm
theorem zds(h:Ext (X.cS k) Y){g:Nat}(hs:¬(Y.ow g).still):(X.back Y k k' d β).ow g=jl k' d (Y.ow g):=by
 simp only[aw.back]
 rw[if_neg]
 rintro⟨hg,hm⟩
 exact hs (Fq (k':=k') (d:=d) (β:=β) h hg hm).2.2.1
theorem vd(h:Ext (X.cS k) Y){ad:Addr}{v:Value}(hs:Y.ay ad v):(X.back Y k k' d β).ay ad v:=by
 refine⟨hs.1,hs.2.1,?_⟩
 simp only[aw.back]
 split
 ·rename_i hc
  have:=(Fq (k':=k') (d:=d) (β:=β) h hc.1 hc.2).2.2.2
  have hu:=hs.2.2
  rw[this,Mi] at hu
  exact hu
 ·exact adU hs.2.2
theorem zql(h:Ext (X.cS k) Y)(hβ:β 0=X.β 0):Ext X (X.back Y k k' d β) where
 ay:=fun ad v hs=>vd h (h.ay ad v (ve.2 hs))
 size:=h.size
 os:=h.os
 tape:=h.tape
 output:=h.output
 β0:=hβ
 still:=fun g hg bP=>by
  have hm:iT k (X.ow g)=false:=by cases hx:X.ow g<;>rw[hx] at bP<;>first|rfl|exact bP.elim
  obtain⟨h1,h2,_⟩:=Fq (k':=k') (d:=d) (β:=β) h hg hm
  exact⟨h1,h2⟩
theorem bp.back(h:Ext (X.cS k) Y){pl:Place}(fP:∀n,iT k (.row pl n)=false){e:TypeId}{m n:Nat}{v:Value}(ho:bp X pl e m n v):bp (X.back Y k k' d β) pl e m n v:=by
 rcases ho with ho|⟨g,cap,cur,h1,h2,h3,h4,h5,h6⟩
 ·exact .inl ho
 ·obtain⟨k1,k2,_⟩:=Fq (k':=k') (d:=d) (β:=β) h (vN h2) (by rw[h6];exact fP _)
  exact .inr ⟨g,cap,cur,h1,k2.trans h2,h3,h4,h5,k1.trans h6⟩
theorem bn.back(h:Ext (X.cS k) Y){pl:List Nat->Place}(fP:∀p n,iT k (.row (pl p) n)=false){t:Ty}{x:El t}{cs:List Value}{own:List (List Nat)}(ho:bn X pl t x cs own):bn (X.back Y k k' d β) pl t x cs own:=fun p hp=>by
 obtain⟨e,t',xs,v,g0,g1,g2,g3⟩:=ho p hp
 exact⟨e,t',xs,v,g0,g1,g2,g3.back h (fP p)⟩
theorem bn.out(h:Ext (X.cS k) Y){pl gv:List Nat->Place}(fP:∀p n,jl k' d (.row (pl p) n)= .row (gv p) n){t:Ty}{x:El t}{cs:List Value}{own:List (List Nat)}(ho:bn Y pl t x cs own):bn (X.back Y k k' d β) gv t x cs own:=fun p hp=>by
 obtain⟨e,t',xs,v,g0,g1,g2,g3⟩:=ho p hp
 refine⟨e,t',xs,v,g0,g1,g2,?_⟩
 rcases g3 with ho|⟨g,cap,cur,h1,h2,h3,h4,h5,h6⟩
 ·exact .inl ho
 ·refine .inr ⟨g,cap,cur,h1,h2,h3,h4,h5,?_⟩
  rw[zds h (by rw[h6];exact fun e=>e),h6,fP]
theorem az.back(h:Ext (X.cS k) Y){i j:Nat}{sv:SV}{v:Value}(hβ:∀id t p,sv= .ptr id t p->β id=X.β id)(hl:∀id a b n,sv= .bz id a b n->k≠some id/\β id=X.β id)(hr:az X (.c i j) sv v):az (X.back Y k k' d β) (.c i j) sv v:=by
 cases sv with
 |undef=>trivial
 |skip=>exact hr
 |cF=>exact hr
 |dT=>exact hr
 |over=>exact hr
 |aj t x own=>
  obtain⟨cs,h1,h2,h3⟩:=hr
  exact⟨cs,h1.ai (fun _ _ hs=>vd h (h.ay _ _ (ve.2 hs))),h2,h3.back h (fun _ _=>rfl)⟩
 |ptr id t p=>
  obtain⟨r,h1,h2⟩:=hr
  exact⟨r,(hβ id t p rfl).trans h1,h2⟩
 |view t x=>
  obtain⟨ad,cs,h1,h2,h3,h4⟩:=hr
  exact⟨ad,cs,h1,h2,h3.ai (fun _ _ hs=>vd h (h.ay _ _ (ve.2 hs))),fun i u hi=>vd h (h.ay _ _ (ve.2 (h4 i u hi)))⟩
 |cap f t x u y=>exact rV (fun _ _ hs=>vd h (h.ay _ _ (ve.2 hs))) hr
 |bz id a b n=>
  obtain⟨r,h1,h2,h3⟩:=hr
  obtain⟨hk,hb⟩:=hl id a b n rfl
  obtain⟨e1,e2,_⟩:=Fq (k':=k') (d:=d) (β:=β) h (World.block_lt_of_cell? X.w _ h3) (by rw[h2];simp [iT,hk])
  refine⟨r,hb.trans h1,e1.trans h2,?_⟩
  simp only[World.cell?] at h3⊢
  rw[e2];exact h3
theorem bD.back(h:Ext (X.cS k) Y){id r:Nat}{B:bC}(hk:k≠some id)(hb:bD X id r B):bD (X.back Y k k' d β) id r B:=by
 obtain⟨h3,h1⟩:=hb
 have hm:iT k (X.ow r)=false:=by rw[h3];simp [iT,hk]
 obtain⟨k1,k2,_⟩:=Fq (k':=k') (d:=d) (β:=β) h h1.lt hm
 exact⟨k1.trans h3,h1.move (fun _ _ hs=>vd h (h.ay _ _ (ve.2 hs))) k2 (fun cs h4=>h4.back h (fun _ _=>by simp [iT,hk])) fun _ _ g o _ ho hw=>by
  obtain⟨e1,e2,_⟩:=Fq (k':=k') (d:=d) (β:=β) h (vN ho) (by rw[hw];simp [iT,hk])
  exact⟨e2.trans ho,e1.trans hw⟩⟩
theorem bD.out(h:Ext (X.cS k) Y){id r:Nat}{B:bC}(hk:k'=some id)(hb:bD Y 0 r B):bD (X.back Y k k' d β) id r B:=by
 obtain⟨h3,h1⟩:=hb
 refine⟨?_,h1.move (fun _ _ hs=>vd h hs) rfl (fun cs h4=>h4.out h (fun p n=>by simp [jl,hk])) fun _ _ g o _ ho hw=>⟨ho,by rw[zds h (by rw[hw];exact fun hh=>hh),hw];simp [jl,hk]⟩⟩
 rw[zds h (by rw[h3];exact fun e=>e),h3]
 simp [jl,hk]
theorem az.out(h:Ext (X.cS k) Y){r0 id j:Nat}{sv:SV}{v:Value}(hβ:∀bc t p,sv= .ptr bc t p->β id=some r0)(hn:sv.bL=false)(hr:az {Y with β:=fun _=>some r0} (.r j) sv v):az (X.back Y k k' d β) (.c d j) (sv.gy id) v:=by
 cases sv with
 |undef=>trivial
 |skip=>exact hr
 |cF=>exact hr
 |dT=>exact hr
 |over=>exact hr
 |aj t x own=>
  obtain⟨cs,h1,h2,h3⟩:=hr
  have h3:bn Y (.r j) t x cs own:=h3
  exact⟨cs,bg.ai (fun ad v (hs:({Y with β:=fun _=>some r0}:aw).ay ad v)=>vd (Y:=Y) h hs) h1,h2,h3.out h (fun _ _=>rfl)⟩
 |ptr bc t p=>
  obtain⟨r,h1,h2⟩:=hr
  have h1:some r0=some r:=h1
  cases h1
  exact⟨r0,hβ bc t p rfl,h2⟩
 |view t x=>
  obtain⟨ad,cs,h1,h2,h3,h4⟩:=hr
  exact⟨ad,cs,h1,h2,bg.ai (fun ad v (hs:({Y with β:=fun _=>some r0}:aw).ay ad v)=>vd (Y:=Y) h hs) h3,fun i u hi=>vd h (show Y.ay _ _ from h4 i u hi)⟩
 |cap f t x u y=>exact rV (X:={Y with β:=fun _=>some r0}) (fun ad v (hs:({Y with β:=fun _=>some r0}:aw).ay ad v)=>vd (Y:=Y) h hs) hr
 |bz bc a b n=>cases hn
theorem Rel.back(h:Ext (X.cS k) Y)(hr:Rel X s a)(hβ:∀(id:Nat) B,s.bs[id]? =some (some B)->β id=X.β id)(hk:∀(id:Nat) B,s.bs[id]? =some (some B)->k≠some id):Rel (X.back Y k k' d β) s a where
 size:=hr.size
 gL:=hr.gL
 bQ:=fun i l v hl hv=>(hr.bQ i l v hl hv).iS fun j sv u hm jL=>jL.back h (fun id t p e=>by
  obtain⟨B,hB⟩:=hr.live i l id t p hl (e▸List.mem_of_getElem? hm)
  exact hβ id B hB) (fun id c d n e=>by
  obtain⟨_,⟨x,own,hb,_⟩,_⟩:=hr.bz i l id c d n hl (e▸List.mem_of_getElem? hm)
  exact⟨hk id _ hb,hβ id _ hb⟩)
 boxes:=fun id B hB=>by
  obtain⟨r,h1,h2⟩:=hr.boxes id B hB
  exact⟨r,(hβ id B hB).trans h1,h2.back h (hk id B hB)⟩
 live:=hr.live
 defers:=hr.defers
 bz:=hr.bz
theorem Rel.xf(h:Ext (X.cS k) Y)(hr:Rel X s a){id r:Nat}{B B':bC}(hb:s.bs[id]? =some (some B))(hk:k=some id)(Ks:k'=some id)(hβ:X.β id=some r)(hB:bD Y 0 r B')(hg:B.t.eL=false\/ []∈B.own):Rel (X.back Y k k' d X.β) (s.aC (some (id,B'))) a where
 size:=hr.size
 gL:=by simpa [State.aC] using hr.gL
 bQ:=fun i l v hl hv=>(hr.bQ i l v hl hv).iS fun j sv u hm jL=>jL.back h (fun _ _ _ _=>rfl) (fun bc c d n e=>⟨fun e2=>by
  rw[hk] at e2
  cases e2
  exact hr.oM hb hg i l c d n hl (e▸List.mem_of_getElem? hm),rfl⟩)
 boxes:=fun bc B2 cW=>by
  have aq:id<s.bs.length:=(List.getElem?_eq_some_iff.1 hb).1
  simp only[State.aC,List.getElem?_set] at cW
  by_cases e:id=bc
  ·subst e
   rw[if_pos rfl,if_pos aq] at cW
   cases cW;exact⟨r,hβ,hB.out h Ks⟩
  ·rw[if_neg e] at cW
   obtain⟨r',h1,h2⟩:=hr.boxes bc B2 cW
   exact⟨r',h1,h2.back h (by rw[hk];intro e2;cases e2;exact e rfl)⟩
 live:=fun i l bc t p hi hm=>by
  have aq:id<s.bs.length:=(List.getElem?_eq_some_iff.1 hb).1
  obtain⟨B2,cW⟩:=hr.live i l bc t p hi hm
  simp only[State.aC,List.getElem?_set]
  by_cases e:id=bc
  ·subst e;exact⟨B',by rw[if_pos rfl,if_pos aq]⟩
  ·rw[if_neg e];exact⟨B2,cW⟩
 defers:=hr.defers
 bz:=hr.bz.aC (hr.oM hb hg)
end
theorem az.cS{k:Option Nat}{pl gv:List Nat->Place}{t:Ty}{x:El t}{w:List (List Nat)}{v:Value}(hr:az X pl (.aj t x w) v):az (X.cS k) gv (.aj t x []) v:=by
 obtain⟨cs,h1,h2,_⟩:=hr
 exact⟨cs,h1.ai (fun _ _=>ve.2),h2,mD⟩
theorem bD.cS{id r:Nat}{B:bC}(hb:bD X id r B):bD (X.cS (some id)) 0 r B:=by
 obtain⟨h3,h1⟩:=hb
 refine⟨by simp [aw.cS,h3,iA],h1.move (fun _ _=>ve.2) rfl (fun cs h4 p hp=> ?_) fun _ _ g o _ ho hw=>⟨ho,by simp [aw.cS,hw,iA]⟩⟩
 obtain⟨e,t',xs,v,g0,g1,g2,g3⟩:=h4 p hp
 refine⟨e,t',xs,v,g0,g1,g2,?_⟩
 rcases g3 with ho|⟨g,cap,cur,k1,k2,k3,k4,k5,k6⟩
 ·exact .inl ho
 ·exact .inr ⟨g,cap,cur,k1,k2,k3,k4,k5,by simp [aw.cS,k6,iA]⟩
theorem zqj:∀(vs l:List SV) (b:Option (Nat×bC)),jt s vs=some (l,b)->l.any SV.bL=false
 | [],l,b,h=>by
   simp only[jt,Option.some.injEq,Prod.mk.injEq] at h
   rw[<-h.1];rfl
 |v::r,l,b,h=>by
  simp only[jt] at h
  split at h
  ·cases h
  rename_i l1 b1 h1
  have ih:=zqj r l1 b1 h1
  split at h
  ·cases h;simpa [SV.bL] using ih
  ·cases h;simpa [SV.bL] using ih
  ·cases h;simpa [SV.bL] using ih
  ·split at h
   case h_2=>cases h
   split at h
   case isFalse=>cases h
   cases h;simpa [SV.bL] using ih
  ·cases h
theorem zqk(hr:Rel X s a):∀(vs:List (SV×Value)) (l:List SV) (b:Option (Nat×bC)),(∀x∈vs,∃q,az X q x.1 x.2)->jt s (vs.map (·.1))=some (l,b)->l.length=vs.length/\
 (∀id B,b=some (id,B)->s.bs[id]? =some (some B))/\
 (∀id t p,SV.ptr id t p∈l->id=0/\b.isSome=true)/\
 ∀k,(∀id B,b=some (id,B)->k=some id)->∀(i:Nat) sv x,l[i]? =some sv->vs[i]? =some x->∀q,az (X.cS k) q sv x.2:=by
 intro vs
 induction vs with
 |nil=>
  intro l b _ h
  simp only[List.map_nil,jt,Option.some.injEq,Prod.mk.injEq] at h
  obtain⟨rfl,rfl⟩:=h
  refine⟨rfl,(fun id B e=>by cases e),(fun id t p hm=>by cases hm),fun k _ i sv x hl=>by simp at hl⟩
 |cons x r ih=>
  intro l b jf h
  simp only[List.map_cons,jt] at h
  split at h
  ·cases h
  rename_i l1 b1 h1
  obtain⟨i1,i2,i3,i4⟩:=ih l1 b1 (fun y hy=>jf y (List.mem_cons_of_mem _ hy)) h1
  obtain⟨q0,hx⟩:=jf x List.mem_cons_self
  have fin:∀(sv:SV),l=sv::l1->(∀id B,b1=some (id,B)->b=b1)->(∀id B,b=some (id,B)->s.bs[id]? =some (some B))->(∀id t p,sv= .ptr id t p->id=0/\b.isSome=true)->
   (∀k,(∀id B,b=some (id,B)->k=some id)->∀q,az (X.cS k) q sv x.2)->l.length=(x::r).length/\
   (∀id B,b=some (id,B)->s.bs[id]? =some (some B))/\
   (∀id t p,SV.ptr id t p∈l->id=0/\b.isSome=true)/\
   ∀k,(∀id B,b=some (id,B)->k=some id)->∀(i:Nat) sv y,l[i]? =some sv->(x::r)[i]? =some y->∀q,az (X.cS k) q sv y.2:=by
   intro sv hl hb bH bJ aL
   subst hl
   refine⟨by simp [i1],bH,fun id t p hm=> ?_,fun k hk i sv' y hl hv=> ?_⟩
   ·rcases List.mem_cons.1 hm with e|hm
    ·exact bJ id t p e.symm
    ·obtain⟨j1,j2⟩:=i3 id t p hm
     cases nF:b1 with
     |none=>rw[nF] at j2;cases j2
     |some bb=>rw[hb bb.1 bb.2 nF];exact⟨j1,j2⟩
   ·cases i with
    |zero=>
     simp only[List.getElem?_cons_zero,Option.some.injEq] at hl hv
     subst hl hv
     exact aL k hk
    |succ i=>
     simp only[List.getElem?_cons_succ] at hl hv
     exact i4 k (fun id B e=>hk id B (by rw[hb id B e];exact e)) i sv' y hl hv
  obtain⟨x1,x2⟩:=x
  simp only at h hx fin
  split at h
  ·cases h
   exact fin _ rfl (fun _ _ _=>rfl) i2 (fun _ _ _ e=>by cases e) (fun k _ q=>hx.cS)
  ·cases h
   exact fin _ rfl (fun _ _ _=>rfl) i2 (fun _ _ _ e=>by cases e) (fun k _ q=>hx)
  ·cases h
   refine fin _ rfl (fun _ _ _=>rfl) i2 (fun _ _ _ e=>by cases e) (fun k _ q=> ?_)
   obtain⟨ad,cs,g1,g2,g3,g4⟩:=hx
   exact⟨ad,cs,g1,g2,g3.ai (fun _ _=>ve.2),fun i w hi=>ve.2 (g4 i w hi)⟩
  ·rename_i id t
   split at h
   case h_2=>cases h
   rename_i B hB
   split at h
   case isFalse=>cases h
   cases h
   obtain⟨rr,g1,g2⟩:=hx
   refine fin _ rfl (fun _ _ e=>by cases e) (fun id B e=>by cases e;exact qJ hB) (fun _ _ _ e=>by cases e;exact⟨rfl,rfl⟩) (fun k hk q=> ?_)
   have:=hk id B rfl
   subst this
   exact⟨rr,g1,g2⟩
  ·cases h
def kG(P:Program)(X:aw)(s:State)(a:Act)(o:Oper)(u:Out):Prop:=
 ∀(next:Act->World->Prop) (Q:Exit->Act->World->Prop),(∀Y v,Ext X Y->Rel Y (s.apply o.dst u) (a.put o.dst v)->next (a.put o.dst v) Y.w)->o.wp P a X.w next Q
theorem aH.does(h:aH P X s a o u):kG P X s a o u:=fun next Q hn=>by
 obtain⟨Y,v,h1,h2,h3⟩:=h
 unfold Oper.wp
 rcases h1 with h1|⟨h1,rfl⟩
 ·rw[h1,Oper.upon_value];exact hn Y v h2 h3
 ·rw[h1,Oper.upon_skip];exact hn Y _ h2 h3
theorem L3{f:FuncId}(h:sf P f){dN:Array Operand}{ts:Array TypeId}(ho:o.op= .call ⟨.value (.func f),dN,ts⟩)(w:World):(execOp a.eval o).run P w= .ok (.enter f (dN.map a.eval)) w:=by
 obtain⟨fn,c,h1,h2,h3⟩:=h
 simp [execOp,ho,resolve,Deferred.ofValue,Act.eval,invoke,callFunc,h1,h3]
 simpa using h2
theorem zw9{l:List SV}{id:Nat}(h:∀id t p,SV.ptr id t p∉l):l.map (SV.gy id)=l:=by
 induction l with
 |nil=>rfl
 |cons v r ih=>
  rw[List.map_cons,ih (fun id t p hm=>h id t p (List.mem_cons_of_mem _ hm))]
  congr 1
  cases v<;>first|rfl|skip
  exact absurd (List.mem_cons_self) (h _ _ _)
theorem zr9{k k':Option Nat}{d:Nat}{β:Nat->Option Nat}{Y:aw}(h:Ext (X.cS k) Y){r0 id:Nat}{r:List SV}{v:Value}(hβ:∀bc t p,SV.ptr bc t p∈r->β id=some r0)(hn:r.any SV.bL=false)(hr:cM {Y with β:=fun _=>some r0} .r r v):cM (X.back Y k k' d β) (.c d) (r.map (SV.gy id)) v:=by
 match r,hr with
 | [sv],hr=>exact az.out h (fun bc t p e=>hβ bc t p (by simp [e])) (by simpa using hn) hr
 | [],⟨vs,h1,h2,h3⟩=>exact⟨vs,h1,h2,fun j s u hs=>by simp at hs⟩
 |x::y::r,⟨vs,h1,h2,h3⟩=>
  refine⟨vs,h1,by simpa using h2,fun j sv u hs hu=> ?_⟩
  have hs:((x::y::r).map (SV.gy id))[j]? =some sv:=hs
  rw[List.getElem?_map] at hs
  obtain⟨s0,fe,rfl⟩:=Option.map_eq_some_iff.1 hs
  exact az.out h (fun bc t p e=>hβ bc t p (e▸List.mem_of_getElem? fe)) (by simpa using List.any_eq_false.1 hn s0 (List.mem_of_getElem? fe)) (h3 j s0 u fe hu)
theorem MG{l:List SV}{id:Nat}(h:l.any SV.bL=false):(l.map (SV.gy id)).any SV.bL=false:=List.any_eq_false.2 fun v hv=>by
 obtain⟨w,hw,rfl⟩:=List.mem_map.1 hv
 have:=List.any_eq_false.1 h w hw
 cases w<;>first|exact this|simp [SV.gy,SV.bL]
theorem adP:∀g pl n,(X.cS none).ow g≠ .row pl n:=fun g pl n=>by
 show iA none (X.ow g)≠_
 cases X.ow g with
 |row q m=>cases q<;>simp [iA]
 |_=>simp [iA]
theorem ze1(hr:Rel X s a){C:ah}(hC:C.Nat){f:FuncId}(hf:cY P C f){vs:List (SV×Value)}(xE:∀x∈vs,∃q,az X q x.1 x.2)(eG:sf P f->(execOp a.eval o).run P X.w= .ok (.enter f (vs.map (·.2)).toArray) X.w)(h:fX (C Out) s o.dst f (vs.map (·.1)) some=some u):kG P X s a o u:=by
 have aW:=eG
 clear eG
 unfold fX at h
 have enter:∀(l:List SV) (b:Option (Nat×bC)) (k:Option Nat),jt s (vs.map (·.1))=some (l,b)->(∀id B,b=some (id,B)->k=some id)->(b=none->k=none)->jS (X.cS k) l (b.map (·.2)) (vs.map (·.2)).toArray:=by
  intro l b k bW hk AG
  obtain⟨i1,i2,i3,i4⟩:=zqk hr vs l b xE bW
  refine⟨by simpa using i1.symm,fun i sv v hl hv=> ?_,fun id t p hm=> ?_,fun B hB=> ?_,fun hb=> ?_,zqj _ _ _ bW⟩
  ·rw[List.getElem?_toArray,List.getElem?_map] at hv
   obtain⟨x,hx,rfl⟩:=Option.map_eq_some_iff.1 hv
   exact i4 k hk i sv x hl hx _
  ·obtain⟨j1,j2⟩:=i3 id t p hm
   exact⟨j1,by simpa using j2⟩
  ·obtain⟨bb,hbb,rfl⟩:=Option.map_eq_some_iff.1 hB
   obtain⟨id,B⟩:=bb
   obtain⟨r,h1,h2⟩:=hr.boxes id B (i2 id B hbb)
   have:=hk id B hbb
   subst this
   exact⟨r,h1,h2.cS⟩
  ·have hb:b=none:=by cases b<;>simp at hb⊢
   rw[AG hb]
   exact adP
 split at h
 ·rename_i l bW
  obtain⟨⟨r,b'⟩,m6,h⟩:=jP (hC Out _ f l none _ (fun r b=>some (r,b)) (fun z=>match z.2 with
   |none=>some {v:=z.1}
   |some B=>match o.dst with
    |some d=>match s.bs[d+1]? with
     |some none=>some {v:=z.1.map (SV.gy (d+1)),bx:=some (d+1,B)}
     |_=>none
    |none=>none) (fun r b=>rfl)) h
  obtain⟨eG,m9⟩:=hf l none r b' m6
  have hI:=enter l none none bW (fun id B e=>by cases e) (fun _=>rfl)
  intro next Q hn
  unfold Oper.wp
  rw[aW eG,Oper.upon_enter]
  refine(m9 (X.cS none) _ hI).mono fun e w' he=> ?_
  cases e with
  |returned v=>
   obtain⟨Y,rfl,aZ,r0,aL,bH,oH,dV⟩:=he
   simp only at h
   cases b' with
   |none=>
    cases h
    have hp:=oH (.inl rfl)
    have cf:=zql (k':=none) (d:=o.dst.getD 0) (β:=X.β) aZ rfl
    refine hn (X.back Y none none (o.dst.getD 0) X.β) v cf ?_
    refine(Rel.back (k':=none) aZ hr (fun _ _ _=>rfl) (fun _ _ _=>by simp)).fin ?_ (fun id t p hm=>absurd hm (hp id t p)) dV
    have:=zr9 (k':=none) (d:=o.dst.getD 0) (β:=X.β) (id:=0) aZ (fun bc t p hm=>absurd hm (hp bc t p)) dV aL
    rw[zw9 hp] at this
    exact this
   |some B=>
    simp only at h
    split at h
    case h_2=>cases h
    rename_i d hd
    split at h
    case h_2=>cases h
    rename_i jd
    cases h
    have aq:d+1<s.bs.length:=(List.getElem?_eq_some_iff.1 jd).1
    obtain⟨hB,_⟩:=bH B rfl
    let β:Nat->Option Nat:=fun id=>if id=d+1 then some r0 else X.β id
    have hβd:β (d+1)=some r0:=by simp [β]
    have cf:=zql (k':=some (d+1)) (d:=d) (β:=β) aZ (by simp [β])
    refine hn (X.back Y none (some (d+1)) d β) v cf ?_
    have bu:=(Rel.back (k':=some (d+1)) (d:=d) (β:=β) aZ hr (fun id B2 cW=>by
     show(if _ then _ else _)=_
     rw[if_neg (fun e=>by rw[e,jd] at cW;cases cW)]) (fun _ _ _=>by simp)).fw aq jd hβd (hB.out aZ rfl)
    rw[hd]
    refine bu.put (fun d' e=> ?_) (fun id t p hm=> ?_) (MG dV)
    ·cases e
     exact zr9 aZ (fun _ _ _ _=>hβd) dV aL
    ·obtain⟨s0,_,he0⟩:=List.mem_map.1 hm
     have:id=d+1:=by
      cases s0<;>simp [SV.gy] at he0
      exact he0.1.symm
     subst this
     exact⟨B,by simp [State.close,State.aC,List.getElem?_set,aq]⟩
  |panicked c=>exact he.elim
  |outgrown=>exact he.elim
 ·rename_i l id B bW
  split at h
  case isTrue=>cases h
  rename_i ox
  have hg:B.t.eL=false\/ []∈B.own:=by
   rw[Bool.not_eq_true,Bool.and_eq_false_iff,Bool.not_eq_false'] at ox
   exact ox.imp (fun h=>h) Bl
  obtain⟨⟨r,b'⟩,m6,h⟩:=jP (hC Out _ f l (some B) _ (fun r b=>some (r,b)) (fun z=>match z.2 with
   |some B'=>if B'.t.cp B.t=true then some {v:=z.1,bx:=some (id,B')} else none
   |none=>none) (fun r b=>rfl)) h
  obtain⟨eG,m9⟩:=hf l (some B) r b' m6
  have hI:=enter l (some (id,B)) (some id) bW (fun id B e=>by cases e;rfl) (fun e=>by cases e)
  obtain⟨_,i2,_,_⟩:=zqk hr vs l _ xE bW
  have hb:=i2 id B rfl
  intro next Q hn
  unfold Oper.wp
  rw[aW eG,Oper.upon_enter]
  refine(m9 (X.cS (some id)) _ hI).mono fun e w' he=> ?_
  cases e with
  |returned v=>
   obtain⟨Y,rfl,aZ,r0,aL,bH,oH,dV⟩:=he
   simp only at h
   cases b' with
   |none=>cases h
   |some B'=>
    simp only at h
    split at h
    case isFalse=>cases h
    cases h
    have hp:=oH (.inr rfl)
    obtain⟨hB,hβ⟩:=bH B' rfl
    have hβ:=hβ rfl
    have cf:=zql (k':=some id) (d:=o.dst.getD 0) (β:=X.β) aZ rfl
    refine hn (X.back Y (some id) (some id) (o.dst.getD 0) X.β) v cf ?_
    refine(Rel.xf (k:=some id) (k':=some id) aZ hr hb rfl rfl hβ hB hg).fin ?_ (fun id t p hm=>absurd hm (hp id t p)) dV
    have:=zr9 (k':=some id) (d:=o.dst.getD 0) (β:=X.β) (id:=0) aZ (fun bc t p hm=>absurd hm (hp bc t p)) dV aL
    rw[zw9 hp] at this
    exact this
  |panicked c=>exact he.elim
  |outgrown=>exact he.elim
 ·cases h
theorem zdr(hr:Rel X s a)(dN:Array Operand):∀x∈dN.toList.map (fun x=>(s.aG x,a.eval x)),∃q,az X q x.1 x.2:=fun x hx=>by
 obtain⟨y,_,rfl⟩:=List.mem_map.1 hx
 exact⟨_,hr.aG y⟩
theorem MK{X:aw}{pl:List Nat->Place}{sv:SV}{v:Value}(h:az X pl sv v):az X pl sv.shut v:=by
 cases sv with
 |aj t x own=>
  obtain⟨cs,h1,h2,_⟩:=h
  exact⟨cs,h1,h2,mD⟩
 |bz id a b j=>trivial
 |_=>exact h
theorem ahq{X:aw}{pl:Nat->List Nat->Place}{l:List SV}{v:Value}(h:cM X pl l v):cM X pl (l.map SV.shut) v:=by
 match l,h with
 | [sv],h=>exact MK (sv:=sv) h
 | [],h=>exact h
 |x::y::r,⟨vs,g1,g2,g3⟩=>
  refine⟨vs,g1,by simpa using g2,fun j sv u l9 hu=> ?_⟩
  have l9:((x::y::r).map SV.shut)[j]? =some sv:=l9
  rw[List.getElem?_map] at l9
  obtain⟨s0,fe,rfl⟩:=Option.map_eq_some_iff.1 l9
  exact MK (g3 j s0 u fe hu)
theorem ahp{l:List SV}{j:Nat}{t:Ty}{p:List Nat}(h:SV.ptr j t p∈l.map SV.shut):SV.ptr j t p∈l:=by
 obtain⟨s0,fe,he⟩:=List.mem_map.1 h
 cases s0<;>first|(cases he;done)|(rw[<-he];exact fe)|skip
theorem Rel.bO(hr:Rel X s a){d:Nat}{l:List SV}:Rel X {s with sl:=s.sl.set d l} a->Rel X {s with sl:=s.sl.set d (l.map SV.shut)} a:=fun h=>{
 size:=by simpa using hr.size
 gL:=by simpa using hr.gL
 bQ:=fun i l' v hl hv=>by
  replace hl:(s.sl.set d (l.map SV.shut))[i]? =some l':=hl
  rw[List.getElem?_set] at hl
  split at hl
  ·rename_i uc
   split at hl
   ·cases hl
    rename_i aq
    exact ahq (h.bQ i l v (by show(s.sl.set d l)[i]? =_;rw[List.getElem?_set,if_pos uc,if_pos aq]) hv)
   ·cases hl
  ·rename_i uc
   exact h.bQ i l' v (by show(s.sl.set d l)[i]? =_;rw[List.getElem?_set,if_neg uc];exact hl) hv
 boxes:=h.boxes
 live:=fun i l' id t p hl hm=>by
  replace hl:(s.sl.set d (l.map SV.shut))[i]? =some l':=hl
  rw[List.getElem?_set] at hl
  split at hl
  ·rename_i uc
   split at hl
   ·cases hl
    rename_i aq
    exact h.live i l id t p (by show(s.sl.set d l)[i]? =_;rw[List.getElem?_set,if_pos uc,if_pos aq]) (ahp hm)
   ·cases hl
  ·rename_i uc
   exact h.live i l' id t p (by show(s.sl.set d l)[i]? =_;rw[List.getElem?_set,if_neg uc];exact hl) hm
 defers:=h.defers
 bz:=h.bz.less (fun i l' id c b j hl hm=>by
  replace hl:(s.sl.set d (l.map SV.shut))[i]? =some l':=hl
  rw[List.getElem?_set] at hl
  split at hl
  ·split at hl
   ·cases hl
    exact(YW (zj1 l) hm).elim
   ·cases hl
  ·rename_i uc
   exact⟨l',by show(s.sl.set d l)[i]? =_;rw[List.getElem?_set,if_neg uc];exact hl,hm,fun h=>h⟩) (fun id c b x own _ hb ho=>⟨x,own,hb,ho⟩)}
theorem kG.shut(h:kG P X s a o u):kG P X s a o u.shut:=fun next Q hn=>h next Q fun Y v aZ bu=>hn Y v aZ (by
 unfold State.apply at bu⊢
 show Rel Y (((s.close u.cl).aC u.bx).au o.dst (u.v.map SV.shut)) _
 generalize(s.close u.cl).aC u.bx=s1 at*
 cases hd:o.dst with
 |none=>rw[hd] at bu;exact bu
 |some d=>
  rw[hd] at bu
  have e:=Rel.bO (X:=Y) (s:={s1 with sl:=s1.sl.set d u.v}) (a:=a.put (some d) v) (d:=d) (l:=u.v) bu (by
   show Rel Y {s1 with sl:=(s1.sl.set d u.v).set d u.v} _
   rw[List.set_set];exact bu)
  show Rel Y {s1 with sl:=s1.sl.set d (u.v.map SV.shut)} _
  have e2:Rel Y {s1 with sl:=(s1.sl.set d u.v).set d (u.v.map SV.shut)} (a.put (some d) v):=e
  rw[List.set_set] at e2
  exact e2)
def fj(id j:Nat):Ow->Bool
 | .row (.b bc (j'::_)) _=>Nat.beq bc id&&Nat.beq j' j
 |_=>false
def yn(id j:Nat):Ow->Ow
 | .all=> .all
 | .ro n=> .ro n
 | .box _=> .ro 0
 | .row (.b bc (j'::p)) n=>if Nat.beq bc id&&Nat.beq j' j then .row (.b 0 p) n else .ro n
 | .row _ n=> .ro n
def YP(id j d:Nat):Ow->Ow
 | .all=> .all
 | .ro n=> .ro n
 | .box _=> .ro 0
 | .row (.r i p) n=> .row (.c d i p) n
 | .row (.b 0 p) n=> .row (.b id (j::p)) n
 | .row _ n=> .ro n
theorem zoy{id j:Nat}{w:Ow}{i:Nat}:(yn id j w).used i↔w.used i:=by
 cases w with
 |all=>rfl
 |ro n=>rfl
 |box id=>simp [yn,Ow.used]
 |row pl n=>
  cases pl with
  |b bc p=>
   cases p with
   |nil=>rfl
   |cons j' p=>simp only[yn];split<;>rfl
  |_=>rfl
theorem acC{id j d:Nat}{w:Ow}{i:Nat}(h:w.used i):(YP id j d w).used i:=by
 cases w with
 |all=>exact h
 |ro n=>exact h
 |box id=>exact h.elim
 |row pl n=>
  cases pl with
  |b bc p=>cases bc<;>exact h
  |c i j p=>exact h
  |r j p=>exact h
theorem zir{id j:Nat}{w:Ow}(h:fj id j w=false):(yn id j w).still:=by
 cases w with
 |all=>trivial
 |ro n=>trivial
 |box id=>trivial
 |row pl n=>
  cases pl with
  |b bc p=>
   cases p with
   |nil=>trivial
   |cons j' p=>simp only[fj] at h;simp only[yn,h];trivial
  |_=>trivial
def aw.eA(X:aw)(id j g:Nat):aw:=⟨X.w,fun q=>if q=g then .box 0 else yn id j (X.ow q),fun _=>some g⟩
def aw.bf(X Y:aw)(id j g d:Nat):aw:=⟨Y.w,fun q=>if q=g then .row (.b id [j]) 0 else if q<X.w.heap.size/\fj id j (X.ow q)=false then X.ow q else YP id j d (Y.ow q),X.β⟩
section
variable {Y:aw} {id j g d:Nat}
theorem Mr(hg:X.ow g= .row (.b id [j]) 0){ad:Addr}{v:Value}:(X.eA id j g).ay ad v↔X.ay ad v:=by
 simp only[aw.ay,aw.eA]
 split
 ·rename_i e
  rw[e,hg]
  simp [Ow.used]
 ·rw[zoy]
theorem x8(h:Ext (X.eA id j g) Y){q:Nat}(hq:q<X.w.heap.size)(hm:fj id j (X.ow q)=false)(bJ:q≠g):(X.bf Y id j g d).ow q=X.ow q/\(X.bf Y id j g d).w.heap[q]? =X.w.heap[q]? /\(Y.ow q).still/\Y.ow q=yn id j (X.ow q):=by
 have e:(X.eA id j g).ow q=yn id j (X.ow q):=by simp only[aw.eA];rw[if_neg bJ]
 obtain⟨h1,h2⟩:=h.still q hq (by rw[e];exact zir hm)
 refine⟨by simp only[aw.bf];rw[if_neg bJ,if_pos ⟨hq,hm⟩],h2,?_,h1.trans e⟩
 rw[h1,e];exact zir hm
theorem aed(h:Ext (X.eA id j g) Y){q:Nat}(bJ:q≠g)(hs:¬(Y.ow q).still):(X.bf Y id j g d).ow q=YP id j d (Y.ow q):=by
 simp only[aw.bf]
 rw[if_neg bJ,if_neg]
 rintro⟨hq,hm⟩
 exact hs (x8 (d:=d) h hq hm bJ).2.2.1
theorem zba(h:Ext (X.eA id j g) Y)(hY:Y.ow g= .box 0){ad:Addr}{v:Value}(hs:Y.ay ad v):(X.bf Y id j g d).ay ad v:=by
 have bJ:ad.block≠g:=fun e=>by
  have:=hs.2.2
  rw[e,hY] at this
  exact this
 refine⟨hs.1,hs.2.1,?_⟩
 simp only[aw.bf]
 rw[if_neg bJ]
 split
 ·rename_i hc
  have:=(x8 (d:=d) h hc.1 hc.2 bJ).2.2.2
  have hu:=hs.2.2
  rw[this,zoy] at hu
  exact hu
 ·exact acC hs.2.2
theorem S6(h:Ext (X.eA id j g) Y)(hg:X.ow g= .row (.b id [j]) 0)(hY:Y.ow g= .box 0):Ext X (X.bf Y id j g d) where
 ay:=fun ad v hs=>zba h hY (h.ay ad v ((Mr hg).2 hs))
 size:=h.size
 os:=h.os
 tape:=h.tape
 output:=h.output
 β0:=rfl
 still:=fun q hq bP=>by
  have hm:fj id j (X.ow q)=false:=by cases hx:X.ow q<;>rw[hx] at bP<;>first|rfl|exact bP.elim
  obtain⟨h1,h2,_⟩:=x8 (d:=d) h hq hm (fun e=>by rw[e,hg] at bP;exact bP)
  exact⟨h1,h2⟩
theorem bp.bf(h:Ext (X.eA id j g) Y)(hg:X.ow g= .row (.b id [j]) 0){pl:Place}(fP:∀n,fj id j (.row pl n)=false){e:TypeId}{m n:Nat}{v:Value}(ho:bp X pl e m n v):bp (X.bf Y id j g d) pl e m n v:=by
 rcases ho with ho|⟨q,cap,cur,h1,h2,h3,h4,h5,h6⟩
 ·exact .inl ho
 ·obtain⟨k1,k2,_⟩:=x8 (d:=d) h (vN h2) (by rw[h6];exact fP _) (fun e=>by
   rw[e,hg] at h6
   injection h6 with h6 _
   have:=fP 0
   rw[<-h6] at this
   simp [fj] at this)
  exact .inr ⟨q,cap,cur,h1,k2.trans h2,h3,h4,h5,k1.trans h6⟩
theorem bn.bf(h:Ext (X.eA id j g) Y)(hg:X.ow g= .row (.b id [j]) 0){pl:List Nat->Place}(fP:∀p n,fj id j (.row (pl p) n)=false){t:Ty}{x:El t}{cs:List Value}{own:List (List Nat)}(ho:bn X pl t x cs own):bn (X.bf Y id j g d) pl t x cs own:=fun p hp=>by
 obtain⟨e,t',xs,v,g0,g1,g2,g3⟩:=ho p hp
 exact⟨e,t',xs,v,g0,g1,g2,g3.bf h hg (fP p)⟩
theorem bn.rJ(h:Ext (X.eA id j g) Y)(hY:Y.ow g= .box 0){pl gv:List Nat->Place}(fP:∀p n,YP id j d (.row (pl p) n)= .row (gv p) n){t:Ty}{x:El t}{cs:List Value}{own:List (List Nat)}(ho:bn Y pl t x cs own):bn (X.bf Y id j g d) gv t x cs own:=fun p hp=>by
 obtain⟨e,t',xs,v,g0,g1,g2,g3⟩:=ho p hp
 refine⟨e,t',xs,v,g0,g1,g2,?_⟩
 rcases g3 with ho|⟨q,cap,cur,h1,h2,h3,h4,h5,h6⟩
 ·exact .inl ho
 ·refine .inr ⟨q,cap,cur,h1,h2,h3,h4,h5,?_⟩
  rw[aed h (fun e=>by rw[e,hY] at h6;cases h6) (by rw[h6];exact fun e=>e),h6,fP]
theorem az.bf(h:Ext (X.eA id j g) Y)(hg:X.ow g= .row (.b id [j]) 0)(hY:Y.ow g= .box 0){i k:Nat}{sv:SV}{v:Value}(hr:az X (.c i k) sv v):az (X.bf Y id j g d) (.c i k) sv v:=by
 have hs:∀a v,X.ay a v->(X.bf Y id j g d).ay a v:=(S6 h hg hY).ay
 cases sv with
 |undef=>trivial
 |skip=>exact hr
 |cF=>exact hr
 |dT=>exact hr
 |over=>exact hr
 |aj t x own=>
  obtain⟨cs,h1,h2,h3⟩:=hr
  exact⟨cs,h1.ai hs,h2,h3.bf h hg (fun _ _=>rfl)⟩
 |ptr bc t p=>
  obtain⟨r,h1,h2⟩:=hr
  exact⟨r,h1,h2⟩
 |view t x=>
  obtain⟨ad,cs,h1,h2,h3,h4⟩:=hr
  exact⟨ad,cs,h1,h2,h3.ai hs,fun i u hi=>hs _ _ (h4 i u hi)⟩
 |cap f t x u y=>exact rV hs hr
 |bz bc a b n=>
  obtain⟨r,h1,h2,h3⟩:=hr
  obtain⟨e1,e2,_⟩:=x8 (d:=d) (q:=r) h (World.block_lt_of_cell? X.w _ h3) (by rw[h2];rfl) (fun e=>by rw[e,hg] at h2;cases h2)
  refine⟨r,h1,e1.trans h2,?_⟩
  simp only[World.cell?] at h3⊢
  rw[e2];exact h3
theorem bD.bf(h:Ext (X.eA id j g) Y)(hg:X.ow g= .row (.b id [j]) 0)(hY:Y.ow g= .box 0){bc r:Nat}{B:bC}(bJ:bc≠id)(hb:bD X bc r B):bD (X.bf Y id j g d) bc r B:=by
 obtain⟨h3,h1⟩:=hb
 have hm:∀p n,fj id j (.row (.b bc p) n)=false:=fun p n=>by
  cases p with
  |nil=>rfl
  |cons j' p=>simp [fj,bJ]
 obtain⟨k1,k2,_⟩:=x8 (d:=d) h h1.lt (by rw[h3];rfl) (fun e=>by rw[e,hg] at h3;cases h3)
 exact⟨k1.trans h3,h1.move (S6 h hg hY).ay k2 (fun cs h4=>h4.bf h hg hm) fun p _ q o n ho hw=>by
  obtain⟨e1,e2,_⟩:=x8 (d:=d) h (vN ho) (by rw[hw];exact hm _ _) (fun e=>by
   rw[e,hg] at hw
   injection hw with hw _
   have:=hm p n
   rw[<-hw] at this
   simp [fj] at this)
  exact⟨e2.trans ho,e1.trans hw⟩⟩
theorem az.rJ(h:Ext (X.eA id j g) Y)(hY:Y.ow g= .box 0){r0 k:Nat}{sv:SV}{v:Value}(hp:∀id t p,sv≠ .ptr id t p)(hn:sv.bL=false)(hr:az {Y with β:=fun _=>some r0} (.r k) sv v):az (X.bf Y id j g d) (.c d k) sv v:=by
 have hs:∀a v,({Y with β:=fun _=>some r0}:aw).ay a v->(X.bf Y id j g d).ay a v:=fun a v hs=>zba h hY (show Y.ay a v from hs)
 cases sv with
 |undef=>trivial
 |skip=>exact hr
 |cF=>exact hr
 |dT=>exact hr
 |over=>exact hr
 |aj t x own=>
  obtain⟨cs,h1,h2,h3⟩:=hr
  have h3:bn Y (.r k) t x cs own:=h3
  exact⟨cs,bg.ai hs h1,h2,h3.rJ h hY (fun _ _=>rfl)⟩
 |ptr bc t p=>exact absurd rfl (hp bc t p)
 |view t x=>
  obtain⟨ad,cs,h1,h2,h3,h4⟩:=hr
  exact⟨ad,cs,h1,h2,bg.ai hs h3,fun i u hi=>hs _ _ (h4 i u hi)⟩
 |cap f t x u y=>exact rV (X:={Y with β:=fun _=>some r0}) hs hr
 |bz bc a b n=>cases hn
theorem cM.rJ(h:Ext (X.eA id j g) Y)(hY:Y.ow g= .box 0){r0:Nat}{r:List SV}{v:Value}(hp:∀id t p,SV.ptr id t p∉r)(hn:r.any SV.bL=false)(hr:cM {Y with β:=fun _=>some r0} .r r v):cM (X.bf Y id j g d) (.c d) r v:=
 hr.iS fun k sv u hk hu=>hu.rJ h hY (fun id t p e=>hp id t p (e▸List.mem_of_getElem? hk)) (by simpa using List.any_eq_false.1 hn sv (List.mem_of_getElem? hk))
theorem dA.bf(h:Ext (X.eA id j g) Y)(hg:X.ow g= .row (.b id [j]) 0)(hY:Y.ow g= .box 0){k:Nat}(hk:k≠j){b:Ty}{m:Option (El b)}{v:Value}(hm:dA X (fun p=> .b id (k::p)) b m v):dA (X.bf Y id j g d) (fun p=> .b id (k::p)) b m v:=
 hm.move (S6 h hg hY).ay fun p _ q o n ho hw=>by
  have hf:fj id j (.row (.b id (k::p)) n)=false:=by
   simp only[fj]
   rw[show Nat.beq k j=false from by
    cases h:Nat.beq k j with
    |false=>rfl
    |true=>exact absurd (Nat.eq_of_beq_eq_true h) hk,Bool.and_false]
  obtain⟨e1,e2,_⟩:=x8 (d:=d) h (vN ho) (by rw[hw];exact hf) (fun e=>by
   rw[e,hg] at hw
   injection hw with hw _
   injection hw with _ hw
   injection hw with hw _
   exact hk hw.symm)
  exact⟨e2.trans ho,e1.trans hw⟩
end
theorem P6:∀(vs l:List SV),jt s vs=some (l,none)->∀sv∈l,(∃t x,sv= .aj t x [])\/sv= .cF\/∃t x,sv= .view t x
 | [],l,h,sv,hm=>by
   simp only[jt,Option.some.injEq,Prod.mk.injEq] at h
   rw[<-h.1] at hm
   cases hm
 |v::r,l,h,sv,hm=>by
  simp only[jt] at h
  split at h
  ·cases h
  rename_i l1 b1 h1
  split at h
  ·cases h
   rcases List.mem_cons.1 hm with rfl|hm
   ·exact .inl ⟨_,_,rfl⟩
   ·exact P6 r l1 h1 sv hm
  ·cases h
   rcases List.mem_cons.1 hm with rfl|hm
   ·exact .inr (.inl rfl)
   ·exact P6 r l1 h1 sv hm
  ·cases h
   rcases List.mem_cons.1 hm with rfl|hm
   ·exact .inr (.inr ⟨_,_,rfl⟩)
   ·exact P6 r l1 h1 sv hm
  ·split at h
   case h_2=>cases h
   split at h
   case isFalse=>cases h
   cases h
  ·cases h
theorem zoz{dN:List Operand}{t id j:Nat}{ta tb:Ty}{r:List Operand}(h:Gd s dN=some (t,id,ta,tb,j,r)):dN= .tmp t::r/\s.slot t=[.bz id ta tb j]:=by
 unfold Gd at h
 split at h
 case h_2=>cases h
 split at h
 case h_2=>cases h
 rename_i hs
 cases h
 exact⟨rfl,hs⟩
theorem aki{X:aw}{id j:Nat}{b:Ty}{m:Option (El b)×Option (El b)}{p0 p1:Value}{y:El b}(hj:j<2)(h0:dA X (fun p=> .b id (0::p)) b m.1 p0)(h1:dA X (fun p=> .b id (1::p)) b m.2 p1)(hy:getM j m=some y):dA X (fun p=> .b id (j::p)) b (some y) (if j=0 then p0 else p1):=by
 match j,hj with
 |0,_=>
  have hy:m.1=some y:=hy
  rw[hy] at h0
  exact h0
 |1,_=>
  have hy:m.2=some y:=hy
  rw[hy] at h1
  exact h1
theorem adx(hr:Rel X s a){C:ah}(hC:C.Nat){f:FuncId}(hf:cY P C f){dN:Array Operand}{ts:Array TypeId}(ho:o.op= .call ⟨.value (.func f),dN,ts⟩){t id j:Nat}{ta tb:Ty}{r:List Operand}(hl:Gd s dN.toList=some (t,id,ta,tb,j,r))(h:j7 (C Out) s f t id ta tb j (r.map s.aG) some=some u):kG P X s a o u:=by
 obtain⟨has,bP⟩:=zoz hl
 have ix:=hr.slot t
 rw[bP] at ix
 obtain⟨rr,hβ,how,dO⟩:az X (.c t 0) (.bz id ta tb j) (a.tmps.getD t Go.undef):=ix
 have hti:t<s.sl.length:=by
  rcases Nat.lt_or_ge t s.sl.length with h|h
  ·exact h
  ·simp [State.slot,List.getElem?_eq_none h] at bP
 have hsi:s.sl[t]? =some [.bz id ta tb j]:=by rw[qL hti,bP]
 obtain⟨_,⟨x1,K9,nF,ao9⟩,KS⟩:=hr.bz t _ id ta tb j hsi (by simp)
 unfold j7 at h
 split at h
 case isTrue=>cases h
 rename_i eh
 have eh:tb.bG=false:=by simpa using eh
 split at h
 case h_2=>cases h
 rename_i l bW
 obtain⟨x,own,r1,hb,h,bS,h1,_,c,p0,p1,T,aE,aL,sr,qw⟩:=FR hr h
 rw[hβ] at h1
 cases h1
 split at h
 case h_2=>cases h
 rename_i y hy
 have hv:(c++ [p0,p1,Value.int .i64 x.2.2])[ta.cells+j]? =some (a.tmps.getD t Go.undef):=by
  simp only[World.cell?,aE] at dO
  simpa using dO
 rw[List.getElem?_append_right (by rw[aL.len];omega),aL.len,Nat.add_sub_cancel_left] at hv
 have hj:j<2:=by
  match j,hy with
  |0,_=>omega
  |1,_=>omega
  |j+2,hy=>cases hy
 obtain⟨g,csg,Tg,AM,ZK,mA,hrg,hwg⟩:=aki hj sr qw hy
 have hvt:a.tmps.getD t Go.undef= .pointer (some ⟨g,0,none⟩):=by
  match j,hj with
  |0,_=>
   have hv:p0=a.tmps.getD t Go.undef:=by simpa using hv
   rw[<-hv];exact AM
  |1,_=>
   have hv:p1=a.tmps.getD t Go.undef:=by simpa using hv
   rw[<-hv];exact AM
 obtain⟨⟨res,b'⟩,m6,h⟩:=jP (hC Out _ f (.ptr 0 tb []::l) (some ⟨tb,y,BL⟩) _ (fun r b=>some (r,b)) (fun z=>match z.2 with
  |some B'=>if h:B'.t.cp tb=true then bif gK B'.own [2] then some {v:=z.1,bx:=some (id,⟨.aJ .bN ta tb,(x.1,fN j (some (Ty.cast h B'.x)) x.2.1,x.2.2),[]::own⟩),cl:=[(t,0)]} else none else none
  |none=>none) (fun r b=>rfl)) h
 obtain⟨eG,m9⟩:=hf _ _ res b' m6
 have hI:jS (X.eA id j g) (.ptr 0 tb []::l) (some ⟨tb,y,BL⟩) (dN.map a.eval):=by
  have er:∀ad v,X.ay ad v->(X.eA id j g).ay ad v:=fun _ _=>(Mr mA).2
  have Kf:dN.toList.map a.eval=a.eval (.tmp t)::r.map a.eval:=by rw[has];rfl
  have cu:∀i,(dN.map a.eval)[i]? =(a.eval (.tmp t)::r.map a.eval)[i]? :=fun i=>by
   rw[<-Kf,<-Array.toList_map,Array.getElem?_toList]
  obtain⟨i1,_,_,i4⟩:=zqk hr (r.map fun x=>(s.aG x,a.eval x)) l none (fun z hz=>by
   obtain⟨q,_,rfl⟩:=List.mem_map.1 hz
   exact⟨_,hr.aG q⟩) (by rw[List.map_map];exact bW)
  refine⟨?_,fun i sv v hs hv=> ?_,fun bc t' p hm=> ?_,fun B hB=> ?_,(fun hb=>by cases hb),(by have:=zqj _ _ _ bW;simpa [SV.bL] using this)⟩
  ·have:=congrArg List.length Kf
   simp at this i1⊢
   omega
  ·rw[cu] at hv
   cases i with
   |zero=>
    simp only[List.getElem?_cons_zero,Option.some.injEq] at hs hv
    subst hs hv
    refine⟨g,rfl,(qH eh).2 ⟨?_,by simp [Ty.eK]⟩⟩
    show a.tmps.getD t Go.undef=_
    rw[hvt]
    simp [Ty.off]
   |succ i=>
    simp only[List.getElem?_cons_succ] at hs hv
    have hx:=i4 none (fun _ _ e=>by cases e) i sv
    rw[List.getElem?_map] at hv
    obtain⟨q,hq,rfl⟩:=Option.map_eq_some_iff.1 hv
    have uy:=hx (s.aG q,a.eval q) hs (by rw[List.getElem?_map,hq];rfl) (.c (i+1) 0)
    have AP:∀ad v,(X.cS none).ay ad v->(X.eA id j g).ay ad v:=fun ad v h=>er ad v (ve.1 h)
    rcases P6 _ _ bW sv (List.mem_of_getElem? hs) with⟨t1,y1,rfl⟩|rfl|⟨t1,y1,rfl⟩
    ·obtain⟨cs,e1,e2,_⟩:=uy
     exact⟨cs,e1.ai AP,e2,mD⟩
    ·exact uy
    ·obtain⟨ad,cs,e1,e2,e3,e4⟩:=uy
     exact⟨ad,cs,e1,e2,e3.ai AP,fun i w hi=>AP _ _ (e4 i w hi)⟩
  ·rcases List.mem_cons.1 hm with e|hm
   ·cases e;exact⟨rfl,rfl⟩
   ·rcases P6 _ _ bW _ hm with⟨_,_,e⟩|e|⟨_,_,e⟩<;>cases e
  ·cases hB
   refine⟨g,rfl,by simp [aw.eA],dz.of eh ZK (hrg.ai er) fun p hp=> ?_⟩
   obtain⟨e,t',xs,v,g0,g1,g2,g3⟩:=hwg p hp
   refine⟨e,t',xs,v,g0,g1,g2,?_⟩
   rcases g3 with g3|⟨q,cap,cur,k1,k2,k3,k4,k5,k6⟩
   ·exact .inl g3
   ·refine .inr ⟨q,cap,cur,k1,k2,k3,k4,k5,?_⟩
    have bJ:q≠g:=fun e=>by
     rw[e,mA] at k6
     injection k6 with k6 _
     injection k6 with _ k6
     injection k6 with _ k6
     have:p=[2]:=by simpa [BL] using hp
     rw[this] at k6
     cases k6
    simp only[aw.eA]
    rw[if_neg bJ,k6]
    simp [yn]
 intro next Q hn
 unfold Oper.wp
 rw[L3 eG ho,Oper.upon_enter]
 refine(m9 (X.eA id j g) _ hI).mono fun e w' he=> ?_
 cases e with
 |panicked c=>exact he.elim
 |outgrown=>exact he.elim
 |returned v=>
  obtain⟨Y,rfl,aZ,r0,KK,bH,oH,dV⟩:=he
  cases b' with
  |none=>cases h
  |some B'=>
   simp only at h
   split at h
   case isFalse=>cases h
   rename_i dn
   cases Kz:gK B'.own [2] with
   |false=>rw[Kz] at h;cases h
   |true=>
   rw[Kz,cond_true] at h
   cases h
   have hp:=oH (.inr rfl)
   obtain⟨hB,hβ0⟩:=bH B' rfl
   have hβ0:=hβ0 rfl
   have:g=r0:=by
    have e:(X.eA id j g).β 0=some g:=rfl
    rw[e] at hβ0
    injection hβ0
   subst this
   have hY:Y.ow g= .box 0:=hB.1
   have hX:=S6 (d:=o.dst.getD 0) aZ mA hY
   refine hn (X.bf Y id j g (o.dst.getD 0)) v hX ?_
   obtain⟨er1,er2,_⟩:=x8 (d:=o.dst.getD 0) (q:=rr) aZ (vN aE) (by rw[how];rfl) (fun e=>by rw[e,mA] at how;cases how)
   have cE:dA (X.bf Y id j g (o.dst.getD 0)) (fun p=> .b id (j::p)) tb (some (Ty.cast dn B'.x)) (.pointer (some ⟨g,0,none⟩)):=by
    obtain⟨bt,bx,bo⟩:=B'
    have e:=Ty.aI dn
    simp only at e
    subst e
    obtain⟨eJ,T',k1,k2,k3⟩:=(dz.plain eh).1 hB.2
    refine⟨g,eJ,T',rfl,k1,by simp [aw.bf],k2.ai fun _ _=>zba aZ hY,?_⟩
    have h2:bn (X.bf Y id j g (o.dst.getD 0)) (fun p=> .b id (j::p)) bt bx eJ.toList bo:=bn.rJ aZ hY (pl:= .b 0) (fun _ _=>rfl) k3
    intro p hp
    have:p=[2]:=by simpa [BL] using hp
    subst this
    exact h2 [2] (Bl Kz)
   have Cu:ia (X.bf Y id j g (o.dst.getD 0)) rr (.b id) ta tb (x.1,fN j (some (Ty.cast dn B'.x)) x.2.1,x.2.2):=by
    refine⟨c,p0,p1,T,er2.trans aE,aL.ai hX.ay,?_,?_⟩
    ·match j,hj,AM with
     |0,_,AM=>
      have:p0= .pointer (some ⟨g,0,none⟩):=AM
      rw[this];exact cE
     |1,_,_=>exact sr.bf aZ mA hY (by omega)
    ·match j,hj,AM with
     |0,_,_=>exact qw.bf aZ mA hY (by omega)
     |1,_,AM=>
      have:p1= .pointer (some ⟨g,0,none⟩):=AM
      rw[this];exact cE
   have eR:=hr.cg t 0
   have iw:∀(i:Nat) (l:List SV) a b j,(s.cg t 0).sl[i]? =some l->SV.bz id a b j∈l->False:=fun i l a' b' j' kM hm=>by
    simp only[State.cg,List.getElem?_set] at kM
    split at kM
    ·first
      |(split at kM
        ·cases kM
         rw[bP] at hm
         simp [Ref.bO,SV.shut] at hm
        ·cases kM)
      |(cases kM
        rw[bP] at hm
        simp [Ref.bO,SV.shut] at hm)
    ·rename_i e
     exact e (KS i l a' b' j' kM hm).symm
   have aq:id<(s.cg t 0).bs.length:=(List.getElem?_eq_some_iff.1 hb).1
   have bu:Rel (X.bf Y id j g (o.dst.getD 0)) ((s.cg t 0).aC (some (id,⟨.aJ .bN ta tb,(x.1,fN j (some (Ty.cast dn B'.x)) x.2.1,x.2.2),[]::own⟩))) a:=by
    refine⟨eR.size,by simpa [State.aC] using eR.gL,fun i l v kM jh=>(eR.bQ i l v kM jh).iS fun k sv u hm hu=>hu.bf aZ mA hY,fun bc B2 cW=> ?_,fun i l bc t' p hi hm=> ?_,eR.defers,eR.bz.aC iw⟩
    ·simp only[State.aC,List.getElem?_set] at cW
     by_cases e:id=bc
     ·subst e
      rw[if_pos rfl,if_pos aq] at cW
      cases cW
      exact⟨rr,hβ,er1.trans how,⟨_,er2.trans aE⟩,fun _=>Cu⟩
     ·rw[if_neg e] at cW
      obtain⟨r',k1,k2⟩:=eR.boxes bc B2 cW
      exact⟨r',k1,k2.bf aZ mA hY (fun e2=>e e2.symm)⟩
    ·obtain⟨B2,cW⟩:=eR.live i l bc t' p hi hm
     simp only[State.aC,List.getElem?_set]
     by_cases e:id=bc
     ·subst e;exact⟨_,by rw[if_pos rfl,if_pos aq]⟩
     ·rw[if_neg e];exact⟨B2,cW⟩
   exact bu.fin (KK.rJ aZ hY hp dV) (fun id t p hm=>absurd hm (hp id t p)) dV
theorem agv(hr:Rel X s a){C:ah}(hC:C.Nat){f:FuncId}(hf:cY P C f){ops:List Oper}{dN:Array Operand}{ts:Array TypeId}(ho:o.op= .call ⟨.value (.func f),dN,ts⟩)(h:act E (C Out) ops o s some=some u):kG P X s a o u:=by
 unfold act at h
 simp only[ho] at h
 split at h
 ·rename_i t id ta tb j r hl
  exact adx hr hC hf ho hl h
 obtain⟨u0,h0,h1⟩:=jP (Tc hC (F:=fun u=>some (bif fG E o.dst then u.shut else u)) (G:=some) (K:=fun u=>some (bif fG E o.dst then u.shut else u)) (fun _=>rfl)) h
 have hd:kG P X s a o u0:=by
  refine ze1 hr hC hf (zdr hr dN) (fun eG=> ?_) (by rw[List.map_map];exact h0)
  rw[L3 eG ho]
  congr 2
  apply Array.toList_inj.1
  simp [Function.comp_def]
 cases hs:fG E o.dst with
 |false=>rw[hs] at h1;cases h1;exact hd
 |true=>rw[hs] at h1;cases h1;exact hd.shut
theorem amQ{f:FuncId}(h:sf P f){x:Operand}{v:Value}{dN:Array Operand}{ts:Array TypeId}(ho:o.op= .call ⟨.value x,dN,ts⟩)(hx:a.eval x= .func (.func f) #[] #[v])(w:World):(execOp a.eval o).run P w= .ok (.enter f (dN.map a.eval++ #[v])) w:=by
 obtain⟨fn,c,h1,h2,h3⟩:=h
 simp [execOp,ho,resolve,Deferred.ofValue,hx,invoke,callFunc,h1,h3]
 simpa using h2
theorem ajW{f:FuncId}(h:sf P f){x:Operand}{v v2:Value}{dN:Array Operand}{ts:Array TypeId}(ho:o.op= .call ⟨.value x,dN,ts⟩)(hx:a.eval x= .func (.func f) #[] #[v,v2])(w:World):(execOp a.eval o).run P w= .ok (.enter f (dN.map a.eval++ #[v,v2])) w:=by
 obtain⟨fn,c,h1,h2,h3⟩:=h
 simp [execOp,ho,resolve,Deferred.ofValue,hx,invoke,callFunc,h1,h3]
 simpa using h2
theorem adw(hr:Rel X s a){C:ah}(hC:C.Nat)(hf:∀f,cY P C f){ops:List Oper}{y:Nat}{dN:Array Operand}{ts:Array TypeId}(ho:o.op= .call ⟨.value (.tmp y),dN,ts⟩)(h:act E (C Out) ops o s some=some u):kG P X s a o u:=by
 unfold act at h
 simp only[ho] at h
 split at h
 case h_3=>cases h
 case h_2=>
  rename_i f t x1 u' y1 dE
  have hx:=hr.aG (.tmp y)
  rw[dE] at hx
  obtain⟨ad,qt,cs,eJ,hv,⟨g2,g3,g4⟩,k2,k3,k4⟩:=hx
  refine ze1 hr hC (hf f) (vs:=dN.toList.map (fun x=>(s.aG x,a.eval x))++ [(.view t x1,.pointer (some ad)),(.view u' y1,.pointer (some qt))]) (fun x hx=> ?_) (fun eG=> ?_) (by rw[List.map_append,List.map_map];exact h)
  ·rcases List.mem_append.1 hx with hx|hx
   ·exact zdr hr dN x hx
   ·rcases List.mem_cons.1 hx with rfl|hx
    ·exact⟨.r 0,ad,cs,rfl,g2,g3,g4⟩
    ·rw[List.mem_singleton.1 hx]
     exact⟨.r 0,qt,eJ,rfl,k2,k3,k4⟩
  ·rw[ajW eG ho hv]
   congr 2
   apply Array.toList_inj.1
   simp [Function.comp_def]
 rename_i id f t b dE
 have hx:=hr.aG (.tmp y)
 rw[dE] at hx
 obtain⟨r0,hβ,hv⟩:=hx
 have hv:a.eval (.tmp y)= .func (.func f) #[] #[.pointer (some ⟨r0,0,none⟩)]:=hv
 split at h
 case isTrue=>cases h
 rename_i hs
 refine ze1 hr hC (hf f) (vs:=dN.toList.map (fun x=>(s.aG x,a.eval x))++ [(.ptr id t [],.pointer (some ⟨r0,0,none⟩))]) (fun x hx=> ?_) (fun eG=> ?_) (by rw[List.map_append,List.map_map];exact h)
 ·rcases List.mem_append.1 hx with hx|hx
  ·exact zdr hr dN x hx
  ·rw[List.mem_singleton.1 hx]
   exact⟨.r 0,r0,hβ,(Qk (by simpa using hs)).2 ⟨by simp [Ty.off],by simp [Ty.eK]⟩⟩
 ·rw[amQ eG ho hv]
  congr 2
  apply Array.toList_inj.1
  simp [Function.comp_def]
end Go.Ref

namespace Go.Ref
open Go
variable {P:Program} {E:Env} {X:aw} {s:State} {a:Act} {o:Oper} {u:Out}
theorem ajG(hE:al P E)(hr:Rel X s a){C:ah}(hC:C.Nat)(hf:∀f,cY P C f){ops:List Oper}(h:act E (C Out) ops o s some=some u):kG P X s a o u:=by
 cases ho:o.op with
 |move x=>exact(agA hr ho h).does
 |assign x=>exact(acH hr ho h).does
 |pick c x y=>exact(agC hr ho h).does
 |binOp op T x y T'=>exact(aj4 hE hr ho h).does
 |unOp op T x=>exact(amT hr ho h).does
 |convert S T x=>exact(agw hE hr ho h).does
 |load T x=>exact(agz hE hr ho h).does
 |store T x y=>exact(adF hE hr ho h).does
 |nilCheck x=>exact(abU hr ho h).does
 |fieldAddr T x j=>exact(z119 hE hr ho h).does
 |indexAddr T x i=>exact(abO hE hr ho h).does
 |index T x i=>exact(adC hE hr ho h).does
 |field T x j=>exact(adB hE hr ho h).does
 |slice T x lo hi mx=>
  cases mx with
  |none=>exact(aj6 hE hr ho h).does
  |some m=>unfold act at h;simp only[ho] at h;cases h
 |alloc T=>exact(adu hE hr ho h).does
 |box T x=>exact(aj5 hE hr ho h).does
 |build T parts=>exact(adv hE hr ho h).does
 |buildSlice T n parts=>exact(zv7 hE hr ho h).does
 |extract x j=>exact(acd hr ho h).does
 |makeMap T r=>exact(aci hE hr ho h).does
 |lookup T x i ok=>exact(acJ hE hr ho h).does
 |mapUpdate T m k x=>exact(zcy hE hr (.inl ho) h).does
 |insert T m k x=>exact(zcy hE hr (.inr ho) h).does
 |range T x=>exact(adE hE hr ho h).does
 |next x str=>exact(agB hr ho h).does
 |makeSlice T l c=>exact(abP hE hr ho h).does
 |makeFunc fn fi ca=>exact(abT hr ho h).does
 |call c=>
  obtain⟨callee,args,ts⟩:=c
  cases callee with
  |value x=>
   cases x with
   |func f=>exact agv hr hC (hf f) ho h
   |tmp y=>exact adw hr hC hf ho h
   |_=>unfold act at h;simp only[ho] at h;cases h
  |builtin b=>
   cases b with
   |len=>exact(aj7 (x:= .const Go.undef) (T:=0) hE hr ho h).does
   |append=>exact(acG hE hr ho h).does
   |copy=>exact(agx hE hr ho h).does
   |max=>exact(LW (g:=true) hr ho h).does
   |min=>exact(LW (g:=false) hr ho h).does
   |_=>unfold act at h;simp only[ho] at h;cases h
  |_=>unfold act at h;simp only[ho] at h;cases h
 |_=>unfold act at h;simp only[ho] at h;cases h
theorem Rel.know(hr:Rel X s a){d:Nat}{p:Bool}{o:List (List Nat)}(h:s.slot d=[.aj .bool p o]):Rel X (s.au (some d) (bl p)) a/\a.tmps[d]? =some (.bool p):=by
 have hd:d<s.sl.length:=by
  rcases Nat.lt_or_ge d s.sl.length with h1|h1
  ·exact h1
  ·simp [State.slot,List.getElem?_eq_none h1] at h
 have sm:d<a.tmps.size:=by rw[<-hr.size];exact hd
 have hv:a.tmps[d]? =some (a.tmps.getD d Go.undef):=by simp [Array.getElem?_eq_getElem sm]
 have hs:=hr.slot d
 rw[h] at hs
 have hb:=PQ (X:=X) hs
 rw[hb] at hv
 refine⟨?_,hv⟩
 have Z7:a.put (some d) (.bool p)=a:=by
  cases a with
  |mk tmps defers=>
   simp only[Act.put,Act.mk.injEq,and_true]
   apply Array.ext_getElem?
   intro i
   rw[Array.getElem?_setIfInBounds]
   split
   ·rename_i e
    subst e
    first
     |exact hv.symm
     |(rw[if_pos sm];exact hv.symm)
   ·rfl
 have:=hr.put (d:=some d) (l:=bl p) (v:= .bool p) (fun _ _=>nA) (fun id t q hm=>by simp [bl] at hm)
 rw[Z7] at this
 exact this
theorem WH(hE:al P E)(hr:Rel X s a){C:ah}(hC:C.Nat)(hf:∀f,cY P C f){ops:Array Oper}{i:Nat}(hi:ops[i]? =some o){s':State}(h:step E (C State) ops.toList o s some=some s'){Q:Exit->Act->World->Prop}{K:Act->World->Prop}
 (hK:∀Y a',Ext X Y->Rel Y s' a'->K a' Y.w):wpOp P ops Q i K a X.w:=by
 unfold wpOp
 simp only[hi]
 have ox:∀{s1:State},Rel X s1 a->(act E (C State) ops.toList o s1 fun u=>some (s1.apply o.dst u))=some s'->o.wp P a X.w K Q:=by
  intro s1 eR h1
  obtain⟨u,hu,h2⟩:=jP (ye hC (F:=fun u=>some (s1.apply o.dst u)) (G:=some) (K:=fun u=>some (s1.apply o.dst u)) (fun _=>rfl)) h1
  cases h2
  exact ajG hE eR hC hf hu K Q (fun Y v aZ bu=>hK Y _ aZ bu)
 have ke:∀{s1:State},Rel X s1 a->some (s1.au o.dst [.skip])=some s'->K (a.put o.dst Go.undef) X.w:=by
  intro s1 eR h1
  cases h1
  exact hK X _ (Ext.refl X) (eR.skip o.dst)
 unfold step at h
 simp only at h
 split at h
 ·rename_i hg
  have hw:Region.wanted o (yielded ops a.tmps)=true:=by simp [Region.wanted,hg]
  rw[if_pos hw]
  exact .inl (ox hr h)
 ·rename_i g want hg
  split at h
  ·cases h
  rename_i d hd
  have hd':(ops[g]?).bind (·.dst)=some d:=by simpa [Rn] using hd
  split at h
  ·rename_i p hs
   obtain⟨eR,hv⟩:=hr.know hs
   have hy:yielded ops a.tmps g=some p:=by simp [yielded,hd',hv]
   have hw:Region.wanted o (yielded ops a.tmps)=(p==want):=by simp [Region.wanted,hg,hy]
   cases p<;>cases want<;>simp only[cond_true,cond_false] at h<;>rw[hw]
   ·exact .inl (ox eR h)
   ·exact ke eR h
   ·exact ke eR h
   ·exact .inl (ox eR h)
  ·rename_i hs
   have ix:=hr.slot d
   rw[hs] at ix
   have oI:a.tmps.getD d Go.undef=Go.undef:=ix
   have hy:yielded ops a.tmps g=none:=by
    simp only[yielded,hd',Option.bind_some]
    cases ht:a.tmps[d]? with
    |none=>rfl
    |some v=>
     have:v=Go.undef:=by
      rw[<-oI]
      simp [Array.getD_eq_getD_getElem?,ht]
     subst this
     rfl
   have hw:Region.wanted o (yielded ops a.tmps)=false:=by simp [Region.wanted,hg,hy]
   rw[hw]
   exact ke hr h
  ·cases h
theorem z196(hE:al P E){C:ah}(hC:C.Nat)(hf:∀f,cY P C f){ops:Array Oper}{s':State}{Q:Exit->Act->World->Prop}:∀(l:List Nat) (X:aw) (s:State) (a:Act),Rel X s a->(∀i∈l,i<ops.size)->
 steps E (C State) ops.toList (l.map fun i=>ops.getD i default) s some=some s'->(∀Y a',Ext X Y->Rel Y s' a'->Q .normal a' Y.w)->wpOps P ops Q l a X.w
 | [],X,s,a,hr,_,h,hQ=>by
   cases h
   exact hQ X a (Ext.refl X) hr
 |i::r,X,s,a,hr,hl,h,hQ=>by
  simp only[List.map_cons,steps] at h
  obtain⟨s1,h1,h2⟩:=jP (zrd hC (F:=fun s=>steps E (C State) ops.toList (r.map fun i=>ops.getD i default) s some) (G:=some) (K:=fun s=>steps E (C State) ops.toList (r.map fun i=>ops.getD i default) s some) (fun _=>rfl)) h
  have hi:ops[i]? =some (ops.getD i default):=by
   have:=hl i (by simp)
   simp [this]
  rw[wpOps_cons]
  refine WH hE hr hC hf hi h1 fun Y a' aZ bu=> ?_
  exact z196 hE hC hf r Y s1 a' bu (fun j hj=>hl j (List.mem_cons_of_mem _ hj)) h2 fun Z a2 cf dc=>hQ Z a2 (aZ.trans cf) dc
end Go.Ref

namespace Go.Ref
open Go
variable {P:Program} {E:Env} {X:aw} {s:State} {a:Act} {o:Oper} {u:Out}
theorem zqt(i j:Nat):(bit i).testBit j=decide (i=j):=by
 simp [bit,Nat.shiftLeft_eq,Nat.testBit_two_pow]
theorem ya:∀(l:List Nat) (j:Nat),(jk l).testBit j=decide (j∈l)
 | [],j=>by simp [jk]
 |i::r,j=>by
  rw[jk,Nat.testBit_or,zqt,ya r j]
  by_cases h:i=j
  ·subst h;simp
  ·have h':¬j=i:=fun e=>h e.symm
   simp [h,h']
theorem Tx{a b:Nat}(h:Nat.beq (a&&&b) 0=true)(j:Nat):a.testBit j=true->b.testBit j=false:=by
 intro ha
 have h0:=Nat.eq_of_beq_eq_true h
 have:=congrArg (fun n=>Nat.testBit n j) h0
 simp only[Nat.testBit_and,Nat.zero_testBit,ha,Bool.true_and] at this
 exact this
theorem Fc:∀(l:List Edge) (j:Nat),(zy l).testBit j=true->∃e∈l,Region.binds .any e=true/\e.on=j
 | [],j,h=>by simp [zy] at h
 |e::r,j,h=>by
  simp only[zy] at h
  cases hb:Region.binds .any e with
  |false=>
   rw[hb] at h
   obtain⟨e',h1,h2⟩:=Fc r j h
   exact⟨e',List.mem_cons_of_mem _ h1,h2⟩
  |true=>
   rw[hb] at h
   simp only[cond_true,Nat.testBit_or,zqt,Bool.or_eq_true,decide_eq_true_eq] at h
   rcases h with h|h
   ·exact⟨e,by simp,hb,h⟩
   ·obtain⟨e',h1,h2⟩:=Fc r j h
    exact⟨e',List.mem_cons_of_mem _ h1,h2⟩
theorem zho:∀(l:List Edge) (e:Edge),e∈l->Region.binds .any e=true->(zy l).testBit e.on=true
 |e'::r,e,h,hb=>by
  simp only[zy]
  rcases List.mem_cons.1 h with rfl|h
  ·rw[hb];simp [Nat.testBit_or,zqt]
  ·have:=zho r e h hb
   cases Region.binds .any e'<;>simp [Nat.testBit_or,this]
theorem LH{m i j:Nat}(h:Nat.ble (m+1) (bit i)=true)(hj:m.testBit j=true):j<i:=by
 have h1:m<2^i:=by
  have:=Nat.le_of_ble_eq_true h
  simp only[bit,Nat.shiftLeft_eq,Nat.one_mul] at this
  omega
 rcases Nat.lt_or_ge j i with h2|h2
 ·exact h2
 ·have h3:m<2^j:=Nat.lt_of_lt_of_le h1 (Nat.pow_le_pow_right (by omega) h2)
  rw[Nat.testBit_lt_two_pow h3] at hj
  cases hj
def eN(E:Env)(C:ah)(ops:List Oper)(o:Oper)(s:State):Option Out:=
 match o.guard with
 |none=>act E (C Out) ops o s some
 |some (g,want)=>match Rn ops g with
  |none=>none
  |some d=>match s.slot d with
   | [.aj .bool p []]=>if p=want then act E (C Out) ops o s some else some {v:=[.skip]}
   | [.skip]=>some {v:=[.skip]}
   |_=>none
theorem G8{d:Nat}{l:List SV}(h:s.slot d=l):s.au (some d) l=s:=by
 cases s with
 |mk sl bs=>
  simp only[State.au,State.mk.injEq,and_true]
  simp only[State.slot] at h
  apply List.ext_getElem?
  intro i
  rw[List.getElem?_set]
  split
  ·rename_i e
   subst e
   split
   ·rename_i aq
    rw[List.getD_eq_getElem?_getD,List.getElem?_eq_getElem aq] at h
    rw[List.getElem?_eq_getElem aq]
    simpa using h.symm
   ·rename_i aq
    rw[List.getElem?_eq_none (by omega)]
  ·rfl
theorem ahv{C:ah}(hC:C.Nat){R:Type}{ops:List Oper}{i:Nat}{tr:List dW}{K:State->List dW->Option R}{z:R}(h:lG E (C R) ops o i s tr K=some z):
 ∃u,eN E C ops o s=some u/\fits ops (zy o.after.toList) (gD ops o i s u) tr=true/\K (s.apply o.dst u) (gD ops o i s u::tr)=some z:=by
 have ox:(act E (C R) ops o s fun u=>bif fits ops (zy o.after.toList) (gD ops o i s u) tr then K (s.apply o.dst u) (gD ops o i s u::tr) else none)=some z->
  ∃u,act E (C Out) ops o s some=some u/\fits ops (zy o.after.toList) (gD ops o i s u) tr=true/\K (s.apply o.dst u) (gD ops o i s u::tr)=some z:=by
  intro h
  obtain⟨u,h1,h2⟩:=jP (ye hC (F:=fun u=>bif fits ops (zy o.after.toList) (gD ops o i s u) tr then K (s.apply o.dst u) (gD ops o i s u::tr) else none) (G:=some) (K:=fun u=>bif fits ops (zy o.after.toList) (gD ops o i s u) tr then K (s.apply o.dst u) (gD ops o i s u::tr) else none) (fun _=>rfl)) h
  cases hf:fits ops (zy o.after.toList) (gD ops o i s u) tr with
  |false=>rw[hf] at h2;cases h2
  |true=>rw[hf] at h2;exact⟨u,h1,hf,h2⟩
 have ke:(bif fits ops (zy o.after.toList) (gD ops o i s {v:=[.skip]}) tr then K (s.apply o.dst {v:=[.skip]}) (gD ops o i s {v:=[.skip]}::tr) else none)=some z->
  fits ops (zy o.after.toList) (gD ops o i s {v:=[.skip]}) tr=true/\K (s.apply o.dst {v:=[.skip]}) (gD ops o i s {v:=[.skip]}::tr)=some z:=by
  intro h
  cases hf:fits ops (zy o.after.toList) (gD ops o i s {v:=[.skip]}) tr with
  |false=>rw[hf] at h;cases h
  |true=>rw[hf] at h;exact⟨rfl,h⟩
 unfold lG at h
 unfold eN
 simp only at h
 split at h
 ·rename_i hg
  try simp only[hg]
  exact ox h
 ·rename_i g want hg
  try simp only[hg]
  split at h
  ·cases h
  rename_i d hd
  try simp only[hd]
  split at h
  ·rename_i p hs
   have l9:s.slot d=bl p:=hs
   try simp only[hs]
   cases p<;>cases want<;>simp only[cond_true,cond_false] at h
   ·rw[G8 l9] at h;rw[if_pos rfl];exact ox h
   ·rw[G8 l9] at h;rw[if_neg (by simp)];exact⟨_,rfl,ke h⟩
   ·rw[G8 l9] at h;rw[if_neg (by simp)];exact⟨_,rfl,ke h⟩
   ·rw[G8 l9] at h;rw[if_pos rfl];exact ox h
  ·rename_i hs
   try simp only[hs]
   exact⟨_,rfl,ke h⟩
  ·cases h
theorem zpb{C:ah}(hC:C.Nat){ops:List Oper}(h:eN E C ops o s=some u):step E (C State) ops o s some=some (s.apply o.dst u):=by
 have ox:act E (C Out) ops o s some=some u->(act E (C State) ops o s fun u=>some (s.apply o.dst u))=some (s.apply o.dst u):=by
  intro h
  rw[ye hC (F:=fun u=>some (s.apply o.dst u)) (G:=some) (K:=fun u=>some (s.apply o.dst u)) (fun _=>rfl),h]
  rfl
 unfold eN at h
 unfold step
 simp only
 split at h
 ·rename_i hg
  try simp only[hg]
  exact ox h
 ·rename_i g want hg
  try simp only[hg]
  split at h
  ·cases h
  rename_i d hd
  try simp only[hd]
  split at h
  ·rename_i p hs
   have l9:s.slot d=bl p:=hs
   try simp only[hs]
   split at h
   ·rename_i e
    subst e
    cases p<;>simp only[cond_true,cond_false]<;>rw[G8 l9]<;>exact ox h
   ·rename_i e
    cases h
    cases p<;>cases want<;>simp only[cond_true,cond_false]<;>first|exact absurd rfl e|(rw[G8 l9];rfl)
  ·rename_i hs
   try simp only[hs]
   cases h
   rfl
  ·cases h
structure mF(ts bs:List Nat)(s s':State):Prop where
 sl:∀t∈ts,s.slot t=s'.slot t
 bs:∀id∈bs,s.bs[id]? =s'.bs[id]?
theorem NV{l:List Operand}{t:Nat}:Operand.tmp t∈l->t∈sc l:=by
 induction l with
 |nil=>intro h;cases h
 |cons x r ih=>
  intro h
  rcases List.mem_cons.1 h with e|h
  ·subst e;simp [sc]
  ·have:=ih h
   cases x<;>simp [sc,this]
theorem zit{s s':State}{ts:List Nat}(h:∀t∈ts,s.slot t=s'.slot t){l:List Operand}(hl:∀t∈sc l,t∈ts){x:Operand}(hx:x∈l):s.aG x=s'.aG x:=by
 cases x with
 |tmp t=>simp only[State.aG,State.xK,h t (hl t (NV hx))]
 |_=>rfl
theorem ad4(j:Nat):bO [SV.undef] j=[SV.undef]:=by
 cases j<;>rfl
theorem zax{s:State}{i j t:Nat}:(s.cg i j).slot t=if t=i then bO (s.slot t) j else s.slot t:=by
 simp only[State.cg,State.slot,List.getD_eq_getElem?_getD,List.getElem?_set]
 by_cases e:t=i
 ·subst e
  rw[if_pos rfl,if_pos rfl]
  by_cases aq:t<s.sl.length
  ·rw[if_pos aq];rfl
  ·rw[if_neg aq,List.getElem?_eq_none (by omega)]
   simp [ad4]
 ·rw[if_neg e,if_neg (fun h=>e h.symm)]
theorem zok{t:Nat}:∀{c:List (Nat×Nat)} {s s':State},s.slot t=s'.slot t->(s.close c).slot t=(s'.close c).slot t
 | [],s,s',h=>h
 |(i,j)::r,s,s',h=>by
  rw[Fe,Fe]
  refine zok (c:=r) ?_
  rw[zax,zax,h]
theorem zp4{ts:List Nat}:∀{l:List (Nat×Operand)} {s s':State},(∀t∈ts,s.slot t=s'.slot t)->(∀t∈sc (l.map (·.2)),t∈ts)->z21 s l=z21 s' l
 | [],s,s',h,hl=>rfl
 |(i,x)::r,s,s',h,hl=>by
  have hx:s.aG x=s'.aG x:=zit h hl (by simp)
  have hr:∀c:List (Nat×Nat),z21 (s.close c) r=z21 (s'.close c) r:=fun c=>zp4 (fun t ht=>zok (h t ht)) (fun t ht=>hl t (by
   cases x<;>simp [sc,ht]))
  simp only[z21,hx,hr]
theorem PV{s s':State}:∀{l:List SV},(∀id∈l.flatMap cn,s.box id=s'.box id)->jt s l=jt s' l
 | [],h=>rfl
 |v::r,h=>by
  have hr:jt s r=jt s' r:=PV fun id fK=>h id (by simp only[List.flatMap_cons,List.mem_append];exact .inr fK)
  simp only[jt,hr]
  split
  ·rfl
  ·rename_i l b _
   cases v with
   |ptr id t p=>
    have hb:s.box id=s'.box id:=h id (by simp [cn])
    cases p with
    |nil=>cases b<;>simp only[hb]
    |cons _ _=>rfl
   |_=>rfl
theorem af0{C:FuncId->bV Out}{ops:List Oper}{s s':State}(h:mF (looks ops o) (zw s o) s s'):act E C ops o s some=act E C ops o s' some:=by
 have ix:∀t∈sc o.op.operands.toList,s.slot t=s'.slot t:=fun t ht=>h.sl t (by simp only[looks,List.mem_append];exact .inl ht)
 have cC:∀x∈o.op.operands.toList,s.aG x=s'.aG x:=fun x hx=>zit ix (fun _ ht=>ht) hx
 have bH:∀id∈zw s o,s.box id=s'.box id:=fun id fK=>by
  simp only[State.box,List.getD_eq_getElem?_getD,h.bs id fK]
 unfold act
 cases ho:o.op with
 |move x=>
  have ht:nv s x=nv s' x:=by
   cases x with
   |tmp t=>
    have:s.slot t=s'.slot t:=ix t (by simp [ho,Op.operands,sc])
    simp only[nv,this]
   |_=>rfl
  simp only;rw[cC x (by simp [ho,Op.operands]),ht]
 |assign x=>simp only;rw[cC x (by simp [ho,Op.operands])]
 |pick c x y=>simp only;rw[cC c (by simp [ho,Op.operands]),cC x (by simp [ho,Op.operands]),cC y (by simp [ho,Op.operands])]
 |binOp op T x y T'=>simp only;rw[cC x (by simp [ho,Op.operands]),cC y (by simp [ho,Op.operands])]
 |unOp op T x=>simp only;rw[cC x (by simp [ho,Op.operands])]
 |convert S T x=>
  have hx:=cC x (by simp [ho,Op.operands])
  simp only
  rw[<-hx]
  split
  ·rename_i id n ta tb e
   simp only[j9,bH id (by simp [zw,ho,e,cn])]
  ·rfl
 |makeMap T r=>
  cases r with
  |some r=>rfl
  |none=>
   simp only
   cases hd:o.dst with
   |none=>rfl
   |some d=>
    have:=h.bs (d+1) (by simp [zw,ho,hd])
    simp only[kq,this]
 |lookup T x i ok=>
  cases ok with
  |true=>rfl
  |false=>
   simp only
   rw[<-cC x (by simp [ho,Op.operands]),<-cC i (by simp [ho,Op.operands])]
   unfold lv vR
   split
   ·split
    ·rename_i e
     simp only[bH _ (by simp only[zw,ho,e,cn];exact List.mem_singleton.2 rfl)]
    ·rfl
   ·rfl
 |mapUpdate T m k x=>
  simp only
  rw[<-cC m (by simp [ho,Op.operands]),<-cC k (by simp [ho,Op.operands]),<-cC x (by simp [ho,Op.operands])]
  unfold mo vR
  split
  ·split
   ·rename_i e
    simp only[bH _ (by simp only[zw,ho,e,cn];exact List.mem_singleton.2 rfl)]
   ·rfl
  ·rfl
 |insert T m k x=>
  simp only
  rw[<-cC m (by simp [ho,Op.operands]),<-cC k (by simp [ho,Op.operands]),<-cC x (by simp [ho,Op.operands])]
  unfold mo vR
  split
  ·split
   ·rename_i e
    simp only[bH _ (by simp only[zw,ho,e,cn];exact List.mem_singleton.2 rfl)]
   ·rfl
  ·rfl
 |range T x=>
  simp only
  rw[<-cC x (by simp [ho,Op.operands])]
  cases hd:o.dst with
  |none=>rfl
  |some d=>
   have:=h.bs (d+1) (by simp [zw,ho,hd])
   simp only[kq,this]
 |next x str=>
  cases str with
  |false=>rfl
  |true=>
   simp only
   rw[<-cC x (by simp [ho,Op.operands])]
   unfold lA
   split
   ·rename_i e
    simp only[bH _ (by simp only[zw,ho,e,cn];exact List.mem_singleton.2 rfl)]
   ·rfl
 |makeSlice T l c=>
  simp only
  rw[<-cC l (by simp [ho,Op.operands]),<-cC c (by simp [ho,Op.operands])]
  cases hd:o.dst with
  |none=>rfl
  |some d=>
   have:=h.bs (d+1) (by simp [zw,ho,hd])
   simp only[lz,kq,this]
 |load T x=>
  have hx:=cC x (by simp [ho,Op.operands])
  simp only
  rw[<-hx]
  unfold load
  split
  ·split
   ·rfl
   ·rename_i id t p e
    simp only[FT,nP,bH id (by simp [zw,ho,e,cn])]
   ·rfl
  ·unfold ko
   split
   ·rename_i id a b j e
    simp only[nP,bH id (by simp [zw,ho,e,cn])]
   ·rfl
 |store T x y=>
  have hx:=cC x (by simp [ho,Op.operands])
  have hy:=cC y (by simp [ho,Op.operands])
  simp only
  rw[<-hx]
  unfold store
  rw[<-hy]
  split
  ·split
   ·rename_i id t p e
    simp only[Fw,nP,bH id (by simp [zw,ho,e,cn])]
   ·rfl
  ·rfl
 |nilCheck x=>simp only;rw[cC x (by simp [ho,Op.operands])]
 |fieldAddr T x j=>simp only;rw[cC x (by simp [ho,Op.operands])]
 |indexAddr T x i=>simp only;rw[cC x (by simp [ho,Op.operands]),cC i (by simp [ho,Op.operands])]
 |index T x i=>simp only;rw[cC x (by simp [ho,Op.operands]),cC i (by simp [ho,Op.operands])]
 |field T x j=>simp only;rw[cC x (by simp [ho,Op.operands])]
 |slice T x lo hi mx=>
  cases mx with
  |none=>
   simp only
   have AH:lo.map s.aG=lo.map s'.aG:=by
    cases lo with
    |none=>rfl
    |some l=>simp only[Option.map_some,cC l (by simp [ho,Op.operands])]
   have Kp:hi.map s.aG=hi.map s'.aG:=by
    cases hi with
    |none=>rfl
    |some l=>simp only[Option.map_some,cC l (by simp [ho,Op.operands])]
   rw[<-cC x (by simp [ho,Op.operands]),AH,Kp]
   split
   ·rfl
   ·rename_i id n t e
    simp only[rD,bH id (by simp [zw,ho,e,cn])]
   ·rfl
  |some m=>rfl
 |makeFunc fn fi ca=>
  cases fn with
  |func f=>
   simp only
   split
   ·rename_i x e1 e2
    have hm:x∈o.op.operands.toList:=by
     simp only[ho,Op.operands,Array.toList_append,List.mem_append,e2]
     exact .inr (by simp)
    rw[cC x hm]
   ·rename_i x y e1 e2
    have hm:∀z∈ [x,y],z∈o.op.operands.toList:=fun z hz=>by
     simp only[ho,Op.operands,Array.toList_append,List.mem_append,e2]
     exact .inr hz
    rw[cC x (hm x (by simp)),cC y (hm y (by simp))]
   ·rfl
  |_=>rfl
 |alloc T=>
  simp only
  cases hd:o.dst with
  |none=>split<;>simp_all
  |some d=>
   have:=h.bs (d+1) (by simp [zw,ho,hd])
   cases E.ty T<;>cases E.gr T<;>simp only[this]
 |box T x=>
  have hx:=cC x (by simp [ho,Op.operands])
  simp only
  cases hd:o.dst with
  |none=>split<;>simp_all
  |some d=>
   have:=h.bs (d+1) (by simp [zw,ho,hd])
   cases E.ty T<;>simp only[this,hx]
 |build T parts=>
  have hp:z21 s parts.toList=z21 s' parts.toList:=zp4 ix (fun t ht=>by simpa [ho,Op.operands] using ht)
  simp only[hp]
 |buildSlice T n parts=>
  have hp:(parts.toList.map fun p=>(p.1,s.aG p.2))=parts.toList.map fun p=>(p.1,s'.aG p.2):=List.map_congr_left fun p hp=>by
   rw[cC p.2 (by
    simp only[ho,Op.operands]
    exact List.mem_map.2 ⟨p,hp,rfl⟩)]
  simp only[hp]
 |extract x j=>
  cases x with
  |tmp t=>
   have:s.slot t=s'.slot t:=ix t (by simp [ho,Op.operands,sc])
   simp only[this]
  |_=>rfl
 |call c=>
  obtain⟨callee,args,ts⟩:=c
  cases callee with
  |value x=>
   cases x with
   |func f=>
    have bW:args.toList.map s.aG=args.toList.map s'.aG:=List.map_congr_left fun x hx=>cC x (by
     simp only[ho,Op.operands,Call.operands,Array.toList_append,List.mem_append]
     exact .inr hx)
    have jd:jt s (args.toList.map s'.aG)=jt s' (args.toList.map s'.aG):=PV fun id fK=>bH id (by
     simp only[zw,ho,List.mem_append]
     refine .inl ?_
     rw[<-bW,List.flatMap_map] at fK
     exact fK)
    have hlk:Gd s args.toList=Gd s' args.toList:=by
     cases Ke:args.toList with
     |nil=>rfl
     |cons x r=>
      cases x with
      |tmp t=>
       have:s.slot t=s'.slot t:=ix t (by
        simp only[ho,Op.operands,Call.operands,Array.toList_append,Ke]
        exact NV (List.mem_append_right _ (by simp)))
       simp only[Gd,this]
      |_=>rfl
    simp only
    rw[<-hlk]
    split
    ·rename_i t id a b j r hl
     obtain⟨Ke,bP⟩:=zoz hl
     have hr:r.map s.aG=r.map s'.aG:=by
      have:=bW
      rw[Ke] at this
      simpa using(List.cons.inj this).2
     have hbr:jt s (r.map s'.aG)=jt s' (r.map s'.aG):=PV fun id fK=>bH id (by
      simp only[zw,ho,List.mem_append]
      refine .inl ?_
      rw[<-hr,List.flatMap_map] at fK
      rw[Ke,List.flatMap_cons,List.mem_append]
      exact .inr fK)
     have fK:s.box id=s'.box id:=bH id (by
      simp only[zw,ho,List.mem_append]
      refine .inl ?_
      rw[Ke,List.flatMap_cons,List.mem_append]
      refine .inl ?_
      have:s.aG (.tmp t)= .bz id a b j:=by show one (s.slot t)=_;rw[bP];rfl
      rw[this];simp [cn])
     simp only[j7,nP,hr,hbr,fK]
    simp only[fX,bW,jd]
    cases hd:o.dst with
    |none=>rfl
    |some d=>
     have:=h.bs (d+1) (by simp [zw,ho,hd])
     simp only[this]
   |tmp y=>
    have hy:s.aG (.tmp y)=s'.aG (.tmp y):=cC (.tmp y) (by
     simp only[ho,Op.operands,Call.operands,Array.toList_append,List.mem_append]
     exact .inl (by simp))
    have bW:args.toList.map s.aG=args.toList.map s'.aG:=List.map_congr_left fun x hx=>cC x (by
     simp only[ho,Op.operands,Call.operands,Array.toList_append,List.mem_append]
     exact .inr hx)
    simp only
    rw[<-hy]
    split
    ·rename_i id f t b e
     have jd:jt s (args.toList.map s'.aG++ [.ptr id t []])=jt s' (args.toList.map s'.aG++ [.ptr id t []]):=PV fun bc fK=>bH bc (by
      simp only[zw,ho,List.mem_append,e]
      rw[List.flatMap_append,List.mem_append] at fK
      rcases fK with fK|fK
      ·refine .inl ?_
       rw[<-bW,List.flatMap_map] at fK
       exact fK
      ·exact .inr (.inl (by simpa [cn] using fK)))
     simp only[fX,bW,jd]
     cases hd:o.dst with
     |none=>rfl
     |some d=>
      have:=h.bs (d+1) (by simp [zw,ho,hd])
      simp only[this]
    ·rename_i f t x u y e
     have jd:jt s (args.toList.map s'.aG++ [.view t x,.view u y])=jt s' (args.toList.map s'.aG++ [.view t x,.view u y]):=PV fun bc fK=>bH bc (by
      simp only[zw,ho,List.mem_append]
      rw[List.flatMap_append,List.mem_append] at fK
      rcases fK with fK|fK
      ·refine .inl ?_
       rw[<-bW,List.flatMap_map] at fK
       exact fK
      ·simp [cn] at fK)
     simp only[fX,bW,jd]
     cases hd:o.dst with
     |none=>rfl
     |some d=>
      have:=h.bs (d+1) (by simp [zw,ho,hd])
      simp only[this]
    ·rfl
   |_=>rfl
  |builtin b=>
   have bW:∀x∈args.toList,s.aG x=s'.aG x:=fun x hx=>cC x (by
    simp only[ho,Op.operands,Call.operands,Array.toList_append,List.mem_append]
    exact .inr hx)
   cases b with
   |copy=>
    simp only
    split
    ·rename_i d x T r e1 e2
     rw[bW x (by rw[e1];simp),<-bW d (by rw[e1];simp)]
     unfold copyV
     split
     ·rename_i e0 t0 id n ta tb hT e
      have hb:s.box id=s'.box id:=bH id (by simp only[zw,ho,e1,List.flatMap_cons,e,cn];exact List.mem_append_left _ (List.mem_singleton.2 rfl))
      simp only[iu,ka,hb]
     ·rename_i e0 t0 id n ta tb l hT e
      have hb:s.box id=s'.box id:=bH id (by simp only[zw,ho,e1,List.flatMap_cons,e,cn];exact List.mem_append_left _ (List.mem_singleton.2 rfl))
      simp only[iu,hb]
     ·rfl
    ·rfl
   |len=>
    simp only
    split
    ·rename_i x T e1 e2
     rw[bW x (by rw[e1];simp)]
    ·rfl
   |append=>
    simp only
    split
    ·rename_i x y T U e1 e2
     rw[bW x (by rw[e1];simp),bW y (by rw[e1];simp)]
    ·rfl
   |max=>
    simp only
    split
    ·rename_i x y e1
     rw[bW x (by rw[e1];simp),bW y (by rw[e1];simp)]
    ·rfl
   |min=>
    simp only
    split
    ·rename_i x y e1
     rw[bW x (by rw[e1];simp),bW y (by rw[e1];simp)]
    ·rfl
   |_=>rfl
  |_=>rfl
 |_=>rfl
end Go.Ref

namespace Go.Ref
open Go
variable {P:Program} {E:Env} {X:aw} {s:State} {a:Act} {o:Oper} {u:Out}
def RZ:List (Nat×Nat)->Nat->List SV->List SV
 | [],_,l=>l
 |(i,j)::r,t,l=>RZ r t (if t=i then bO l j else l)
theorem SX{t:Nat}:∀{c:List (Nat×Nat)} {s:State},(s.close c).slot t=RZ c t (s.slot t)
 | [],s=>rfl
 |(i,j)::r,s=>by rw[Fe,SX (c:=r),zax];rfl
theorem sC{t:Nat}:∀{c:List (Nat×Nat)} {l:List SV},t∉c.map (·.1)->RZ c t l=l
 | [],l,h=>rfl
 |(i,j)::r,l,h=>by
  simp only[List.map_cons,List.mem_cons,not_or] at h
  simp only[RZ]
  rw[if_neg h.1]
  exact sC h.2
theorem G0{d:Option Nat}:(s.apply d u).sl.length=s.sl.length:=by
 cases d with
 |none=>simp only[State.apply,State.au];cases u.bx<;>simp [State.aC,P7]
 |some d=>simp only[State.apply,State.au,List.length_set];cases u.bx<;>simp [State.aC,P7]
theorem PU{d:Option Nat}{t:Nat}:(s.apply d u).slot t=if d=some t/\t<s.sl.length then u.v else RZ u.cl t (s.slot t):=by
 have hb:∀(s:State) b,(s.aC b).slot t=s.slot t:=fun s b=>by cases b<;>rfl
 cases d with
 |none=>
  simp only[State.apply,State.au,hb,SX]
  rw[if_neg (by simp)]
 |some d=>
  simp only[State.apply]
  by_cases e:d=t
  ·subst e
   by_cases aq:d<s.sl.length
   ·rw[if_pos ⟨rfl,aq⟩]
    have:d<((s.close u.cl).aC u.bx).sl.length:=by
     have:((s.close u.cl).aC u.bx).sl.length=s.sl.length:=by cases u.bx<;>simp [State.aC,P7]
     omega
    simp only[State.au,State.slot,List.getD_eq_getElem?_getD,List.getElem?_set_self this,Option.getD_some]
   ·rw[if_neg (fun h=>aq h.2)]
    have:((s.close u.cl).aC u.bx).sl.length<=d:=by
     have:((s.close u.cl).aC u.bx).sl.length=s.sl.length:=by cases u.bx<;>simp [State.aC,P7]
     omega
    have h2:(((s.close u.cl).aC u.bx).au (some d) u.v).slot d=((s.close u.cl).aC u.bx).slot d:=by
     simp only[State.au,State.slot]
     rw[List.set_eq_of_length_le this]
    rw[h2,hb,SX]
  ·rw[if_neg (fun h=>e (by injection h.1))]
   have h2:(((s.close u.cl).aC u.bx).au (some d) u.v).slot t=((s.close u.cl).aC u.bx).slot t:=by
    simp only[State.au,State.slot,List.getD_eq_getElem?_getD,List.getElem?_set_ne e]
   rw[h2,hb,SX]
theorem Qe{d:Option Nat}{id:Nat}:(s.apply d u).bs[id]? =match u.bx with
 |some (bc,B)=>if bc=id then(s.bs[id]?).map (fun _=>some B) else s.bs[id]?
 |none=>s.bs[id]? :=by
 have hs:∀(s:State) d l,(s.au d l).bs=s.bs:=fun s d l=>by cases d<;>rfl
 simp only[State.apply,hs]
 cases hb:u.bx with
 |none=>simp only[State.aC,z40]
 |some b=>
  obtain⟨bc,B⟩:=b
  simp only[State.aC,z40]
  rw[List.getElem?_set]
  by_cases e:bc=id
  ·subst e
   rw[if_pos rfl,if_pos rfl]
   by_cases aq:bc<s.bs.length
   ·rw[if_pos aq,List.getElem?_eq_getElem aq];rfl
   ·rw[if_neg aq,List.getElem?_eq_none (by omega)];rfl
  ·rw[if_neg e,if_neg e]
theorem aht{s s':State}(h1:s.sl.length=s'.sl.length)(h2:∀t,s.slot t=s'.slot t)(h3:∀id:Nat,s.bs[id]? =s'.bs[id]?):s=s':=by
 cases s with
 |mk sl bs=>
  cases s' with
  |mk sl' bs'=>
   simp only[State.mk.injEq]
   refine⟨List.ext_getElem? fun i=> ?_,List.ext_getElem? h3⟩
   have:=h2 i
   simp only[State.slot,List.getD_eq_getElem?_getD] at this h1
   by_cases aq:i<sl.length
   ·rw[List.getElem?_eq_getElem aq,List.getElem?_eq_getElem (by omega)] at this⊢
    simpa using this
   ·rw[List.getElem?_eq_none (by omega),List.getElem?_eq_none (by omega)]
structure BO(R1 W1 b1 c1 R2 W2 b2 c2:List Nat):Prop where
 h1:∀t∈W1,t∉R2/\t∉W2
 h2:∀t∈W2,t∉R1
 h3:∀id∈c1,id∉b2/\id∉c2
 h4:∀id∈c2,id∉b1
theorem ab7{o1 o2:Oper}{ops:List Oper}{i1 i2:Nat}{s1 s2:State}{u1 u2:Out}(h:(gD ops o1 i1 s1 u1).apart (gD ops o2 i2 s2 u2)=true):
 BO (looks ops o1) (o1.dst.toList++u1.cl.map (·.1)) (zw s1 o1) (u1.bx.toList.map (·.1)) (looks ops o2) (o2.dst.toList++u2.cl.map (·.1)) (zw s2 o2) (u2.bx.toList.map (·.1)):=by
 simp only[dW.apart,gD,Bool.and_eq_true] at h
 obtain⟨g1,g2,g3,g4⟩:=h
 refine⟨fun t ht=> ?_,fun t ht=> ?_,fun t ht=> ?_,fun t ht=> ?_⟩
 ·have:=Tx g1 t (by rw[ya];exact decide_eq_true ht)
  simp only[Nat.testBit_or,ya,Bool.or_eq_false_iff,decide_eq_false_iff_not] at this
  exact this
 ·have:=Tx g2 t (by rw[ya];exact decide_eq_true ht)
  simpa only[ya,decide_eq_false_iff_not] using this
 ·have:=Tx g3 t (by rw[ya];exact decide_eq_true ht)
  simp only[Nat.testBit_or,ya,Bool.or_eq_false_iff,decide_eq_false_iff_not] at this
  exact this
 ·have:=Tx g4 t (by rw[ya];exact decide_eq_true ht)
  simpa only[ya,decide_eq_false_iff_not] using this
theorem zoh{d:Option Nat}{ts bs:List Nat}(h1:∀t∈ts,t∉d.toList++u.cl.map (·.1))(h2:∀id∈bs,id∉u.bx.toList.map (·.1)):mF ts bs (s.apply d u) s where
 sl:=fun t ht=>by
  have h:=h1 t ht
  simp only[List.mem_append,not_or] at h
  rw[PU,if_neg (fun hc=>h.1 (by rw[hc.1];simp)),sC h.2]
 bs:=fun id fK=>by
  have h:=h2 id fK
  rw[Qe]
  cases hb:u.bx with
  |none=>rfl
  |some b=>
   obtain⟨bc,B⟩:=b
   rw[hb] at h
   simp only
   rw[if_neg (fun e=>h (by simp [e]))]
theorem adl{d1 d2:Option Nat}{u1 u2:Out}(h1:∀t∈d1.toList++u1.cl.map (·.1),t∉d2.toList++u2.cl.map (·.1))(h2:∀id∈u1.bx.toList.map (·.1),id∉u2.bx.toList.map (·.1)):
 (s.apply d1 u1).apply d2 u2=(s.apply d2 u2).apply d1 u1:=by
 refine aht (by rw[G0,G0,G0,G0]) (fun t=> ?_) (fun id=> ?_)
 ·rw[PU,PU,PU,PU,G0,G0]
  by_cases Co:d1=some t
  ·have hm:t∈d1.toList++u1.cl.map (·.1):=by rw[Co];simp
   have hn:=h1 t hm
   simp only[List.mem_append,not_or] at hn
   have sm:¬d2=some t:=fun e=>hn.1 (by rw[e];simp)
   by_cases aq:t<s.sl.length
   ·rw[if_neg (fun h=>sm h.1),if_pos ⟨Co,aq⟩,sC hn.2,if_pos ⟨Co,aq⟩]
   ·rw[if_neg (fun h=>sm h.1),if_neg (fun h=>aq h.2),if_neg (fun h=>aq h.2),if_neg (fun h=>aq h.2),sC hn.2,sC hn.2]
  ·by_cases sm:d2=some t
   ·have hn:t∉d1.toList++u1.cl.map (·.1):=fun hm=>h1 t hm (by rw[sm];simp)
    simp only[List.mem_append,not_or] at hn
    by_cases aq:t<s.sl.length
    ·rw[if_pos ⟨sm,aq⟩,if_neg (fun h=>Co h.1),if_pos ⟨sm,aq⟩,sC hn.2]
    ·rw[if_neg (fun h=>aq h.2),if_neg (fun h=>aq h.2),if_neg (fun h=>aq h.2),if_neg (fun h=>aq h.2),sC hn.2,sC hn.2]
   ·rw[if_neg (fun h=>sm h.1),if_neg (fun h=>Co h.1),if_neg (fun h=>Co h.1),if_neg (fun h=>sm h.1)]
    by_cases hm:t∈u1.cl.map (·.1)
    ·have hn:=h1 t (by simp only[List.mem_append];exact .inr hm)
     simp only[List.mem_append,not_or] at hn
     rw[sC hn.2,sC hn.2]
    ·rw[sC hm,sC hm]
 ·rw[Qe,Qe,Qe,Qe]
  cases nF:u1.bx with
  |none=>rfl
  |some b1=>
   obtain⟨id1,B1⟩:=b1
   cases kc:u2.bx with
   |none=>rfl
   |some b2=>
    obtain⟨rI,B2⟩:=b2
    rw[nF,kc] at h2
    have bJ:id1≠rI:=fun e=>h2 id1 (by simp) (by simp [e])
    simp only
    by_cases e1:id1=id
    ·subst e1
     rw[if_neg (fun e=>bJ e.symm),if_pos rfl,if_pos rfl,if_neg (fun e=>bJ e.symm)]
    ·by_cases e2:rI=id
     ·subst e2
      rw[if_pos rfl,if_neg e1,if_neg e1,if_pos rfl]
     ·rw[if_neg e2,if_neg e1,if_neg e1,if_neg e2]
theorem zp6{ops:List Oper}{s s':State}(h:∀t∈looks ops o,s.slot t=s'.slot t):zw s o=zw s' o:=by
 have cC:∀x∈o.op.operands.toList,s.aG x=s'.aG x:=fun x hx=>zit (ts:=sc o.op.operands.toList) (fun t ht=>h t (by simp only[looks,List.mem_append];exact .inl ht)) (fun _ ht=>ht) hx
 unfold zw
 cases ho:o.op with
 |load T x=>simp only;rw[cC x (by simp [ho,Op.operands])]
 |store T x y=>simp only;rw[cC x (by simp [ho,Op.operands])]
 |convert S T x=>simp only;rw[cC x (by simp [ho,Op.operands])]
 |slice T x lo hi mx=>simp only;rw[cC x (by simp [ho,Op.operands])]
 |lookup T x i ok=>simp only;rw[cC x (by simp [ho,Op.operands])]
 |mapUpdate T m k x=>simp only;rw[cC m (by simp [ho,Op.operands])]
 |insert T m k x=>simp only;rw[cC m (by simp [ho,Op.operands])]
 |next x str=>simp only;rw[cC x (by simp [ho,Op.operands])]
 |call c=>
  obtain⟨callee,args,ts⟩:=c
  have:(args.toList.map fun x=>cn (s.aG x))=args.toList.map fun x=>cn (s'.aG x):=List.map_congr_left fun x hx=>by
   rw[cC x (by
    simp only[ho,Op.operands,Call.operands,Array.toList_append,List.mem_append]
    exact .inr hx)]
  cases callee with
  |value f=>
   simp only
   have hf:s.aG f=s'.aG f:=cC f (by
    simp only[ho,Op.operands,Call.operands,Array.toList_append,List.mem_append]
    exact .inl (by simp))
   rw[hf,List.flatMap_def,List.flatMap_def,this]
  |builtin b=>
   cases b with
   |copy=>simp only;rw[List.flatMap_def,List.flatMap_def,this]
   |_=>rfl
  |_=>rfl
 |_=>rfl
theorem MB{C:ah}{ops:List Oper}{s s':State}(h:mF (looks ops o) (zw s o) s s'):eN E C ops o s=eN E C ops o s':=by
 unfold eN
 rw[af0 h]
 split
 ·rfl
 ·rename_i g want hg
  split
  ·rfl
  ·rename_i d hd
   rw[h.sl d (by simp [looks,hg,hd])]
theorem swap{C:ah}{ops:List Oper}{o1 o2:Oper}{i1 i2:Nat}{u1 u2:Out}(h1:eN E C ops o1 s=some u1)(h2:eN E C ops o2 (s.apply o1.dst u1)=some u2)(h:(gD ops o1 i1 s u1).apart (gD ops o2 i2 (s.apply o1.dst u1) u2)=true):
 eN E C ops o2 s=some u2/\gD ops o2 i2 s u2=gD ops o2 i2 (s.apply o1.dst u1) u2/\eN E C ops o1 (s.apply o2.dst u2)=some u1/\gD ops o1 i1 (s.apply o2.dst u2) u1=gD ops o1 i1 s u1/\
  (s.apply o2.dst u2).apply o1.dst u1=(s.apply o1.dst u1).apply o2.dst u2:=by
 have hp:=ab7 h
 have ag1:mF (looks ops o2) (zw (s.apply o1.dst u1) o2) (s.apply o1.dst u1) s:=zoh (fun t ht hm=>(hp.h1 t hm).1 ht) (fun id fK hm=>(hp.h3 id hm).1 fK)
 have eR:=zp6 (ops:=ops) (o:=o2) ag1.sl
 have Zd:mF (looks ops o1) (zw s o1) (s.apply o2.dst u2) s:=zoh (fun t ht hm=>hp.h2 t hm ht) (fun id fK hm=>hp.h4 id hm fK)
 have fc:=zp6 (ops:=ops) (o:=o1) Zd.sl
 refine⟨by rw[<-MB ag1];exact h2,by simp only[gD,eR],?_,by simp only[gD,fc],(adl (fun t ht=>(hp.h1 t ht).2) (fun id fK=>(hp.h3 id fK).2)).symm⟩
 rw[MB (s:=s.apply o2.dst u2) (s':=s) ⟨Zd.sl,fun id fK=>Zd.bs id (by rw[<-fc];exact fK)⟩]
 exact h1
end Go.Ref

namespace Go.Ref
open Go
variable {P:Program} {E:Env} {X:aw} {s:State} {a:Act} {o:Oper} {u:Out}
def od(E:Env)(C:ah)(ops:Array Oper):List Nat->State->List dW->State->Prop
 | [],s,tr,z=>s=z/\tr=[]
 |i::r,s,f::tr,z=>∃u,eN E C ops.toList (ops.getD i default) s=some u/\f=gD ops.toList (ops.getD i default) i s u/\od E C ops r (s.apply (ops.getD i default).dst u) tr z
 |_::_,_,[],_=>False
def vn(ops:Array Oper)(i:Nat):Nat:=zy (ops.getD i default).after.toList
theorem z145{ops:List Oper}{q:Nat}:∀(n m:Nat),m.testBit q=true->(jo ops n m).testBit q=true
 |0,m,h=>h
 |i+1,m,h=>by
  refine z145 i _ ?_
  split
  ·cases m.testBit i with
   |false=>exact h
   |true=>rw[cond_true,Nat.testBit_or,h];rfl
  ·exact h
theorem zp0{listed:Array Bool}{i q:Nat}(h:listed.getD q false=true):(listed.setIfInBounds i true).getD q false=true:=by
 simp only[Array.getD_eq_getD_getElem?,Array.getElem?_setIfInBounds] at h⊢
 split
 ·split
  ·rfl
  ·rename_i h1 h2
   subst h1
   rw[Array.getElem?_eq_none (by omega)] at h
   exact h
 ·exact h
theorem agS{listed:Array Bool}{i q:Nat}(e:q≠i):(listed.setIfInBounds i true).getD q false=listed.getD q false:=by
 simp only[Array.getD_eq_getD_getElem?]
 rw[Array.getElem?_setIfInBounds_ne (by omega)]
def tN(ops:Array Oper)(listed:Array Bool):Prop:=∀i,listed.getD i false=true->∀q,(vn ops i).testBit q=true->listed.getD q false=true
theorem SR{ops:Array Oper}{listed:Array Bool}(fq:tN ops listed):∀(n m:Nat),(∀q,m.testBit q=true->listed.getD q false=true)->∀q,(jo ops.toList n m).testBit q=true->listed.getD q false=true
 |0,m,h=>h
 |i+1,m,h=>by
  refine SR fq i _ fun q hq=> ?_
  split at hq
  ·rename_i o ho
   cases hb:m.testBit i with
   |false=>rw[hb] at hq;exact h q hq
   |true=>
    rw[hb,cond_true,Nat.testBit_or,Bool.or_eq_true] at hq
    rcases hq with hq|hq
    ·exact h q hq
    ·refine fq i (h i hb) q ?_
     have:ops.getD i default=o:=by
      rw[Array.getElem?_toList] at ho
      simp only[Array.getD_eq_getD_getElem?,ho,Option.getD_some]
     unfold vn
     rw[this]
     exact hq
  ·exact h q hq
theorem NQ{ops:Array Oper}{listed:Array Bool}(fq:tN ops listed){i:Nat}(h:∀q,(vn ops i).testBit q=true->listed.getD q false=true):tN ops (listed.setIfInBounds i true):=fun j hj q hq=>by
 by_cases e:j=i
 ·subst e
  exact zp0 (h q hq)
 ·rw[agS e] at hj
  exact zp0 (fq j hj q hq)
def vT(ops:Array Oper)(a b:dW):Prop:=(jo ops.toList b.i (vn ops b.i)).testBit a.i=true\/a.apart b=true
theorem E4{C:ah}{ops:Array Oper}:∀{l:List Nat} {s z:State} {tr:List dW},od E C ops l s tr z->tr.map (·.i)=l
 | [],s,z,tr,h=>by rw[h.2];rfl
 |i::r,s,z,f::tr,h=>by
  obtain⟨u,_,rfl,h3⟩:=h
  simp only[List.map_cons,E4 h3]
  rfl
 |_::_,s,z,[],h=>h.elim
theorem zb9{C:ah}(hC:C.Nat){ops:Array Oper}{z:State}:∀(l:List Nat) (i:Nat) (s:State) (tr:List dW),(∀(j:Nat) k,l[j]? =some k->k=i+j)->
 yq E (C State) ops.toList (l.map fun k=>ops.getD k default) i s tr some=some z->∃xW,od E C ops l s xW z/\(∀a∈tr,∀b∈xW,vT ops a b)/\xW.Pairwise (vT ops)/\∀k∈l,Nat.ble (vn ops k+1) (bit k)=true
 | [],i,s,tr,hl,h=>by
   cases h
   exact⟨[],⟨rfl,rfl⟩,(fun a _ b hb=>by cases hb),List.Pairwise.nil,fun k hk=>by cases hk⟩
 |k::r,i,s,tr,hl,h=>by
  have hk:k=i:=by simpa using hl 0 k rfl
  subst hk
  simp only[List.map_cons,yq] at h
  obtain⟨u,h1,h2,h3⟩:=ahv hC h
  obtain⟨xW,r1,r2,r3,r4⟩:=zb9 hC r (k+1) _ _ (fun j k' hj=>by
   have:=hl (j+1) k' hj
   omega) h3
  simp only[fits,Bool.and_eq_true] at h2
  obtain⟨h2a,Zw⟩:=h2
  have Zw:=List.all_eq_true.1 Zw
  refine⟨gD ops.toList (ops.getD k default) k s u::xW,⟨u,h1,rfl,r1⟩,fun a ha b hb=> ?_,?_,fun k' Ks=> ?_⟩
  ·rcases List.mem_cons.1 hb with rfl|hb
   ·have:=Zw a ha
    simp only[Bool.or_eq_true] at this
    rcases this with this|this|this
    ·exact .inl (z145 _ _ this)
    ·exact .inr this
    ·exact .inl this
   ·exact r2 a (List.mem_cons_of_mem _ ha) b hb
  ·exact List.pairwise_cons.2 ⟨fun b hb=>r2 _ (by simp) b hb,r3⟩
  ·rcases List.mem_cons.1 Ks with rfl|Ks
   ·exact h2a
   ·exact r4 k' Ks
theorem zrh{C:ah}{ops:Array Oper}{z:State}{i:Nat}{q:List Nat}:∀(p:List Nat) (s:State) (tr:List dW),od E C ops (p++i::q) s tr z->(∀(tp:List dW) f tq,tr=tp++f::tq->tp.length=p.length->∀a∈tp,a.apart f=true)->
 ∃tp f tq u,tr=tp++f::tq/\tp.length=p.length/\eN E C ops.toList (ops.getD i default) s=some u/\f=gD ops.toList (ops.getD i default) i s u/\od E C ops (p++q) (s.apply (ops.getD i default).dst u) (tp++tq) z
 | [],s,[],h,Ay=>h.elim
 | [],s,f::tr,h,Ay=>by
   obtain⟨u,h1,h2,h3⟩:=h
   exact⟨[],f,tr,u,rfl,rfl,h1,h2,h3⟩
 |j::p,s,[],h,Ay=>h.elim
 |j::p,s,g::tr,h,Ay=>by
  obtain⟨uj,h1,h2,h3⟩:=h
  obtain⟨tp,f,tq,u,e1,e2,k1,k2,k3⟩:=zrh p _ tr h3 (fun tp f tq e hl a ha=>Ay (g::tp) f tq (by rw[e];rfl) (by simp [hl]) a (List.mem_cons_of_mem _ ha))
  have hg:=Ay (g::tp) f tq (by rw[e1];rfl) (by simp [e2]) g (by simp)
  rw[h2,k2] at hg
  obtain⟨w1,w2,w3,w4,w5⟩:=swap h1 k1 hg
  refine⟨g::tp,f,tq,u,by rw[e1];rfl,by simp [e2],w1,by rw[k2,w2],uj,w3,by rw[h2,w4],?_⟩
  rw[w5]
  exact k3
theorem NR{l:List Nat}{i:Nat}(h:i∈l):∃p q,l=p++i::q:=List.append_of_mem h
theorem zve{p q:List Nat}{i:Nat}(h:(p++i::q).Nodup):(p++i::q).filter (fun j=> !(Nat.beq j i))=p++q:=by
 have h':=List.nodup_append.1 h
 have hp:∀j∈p,j≠i:=fun j hj=>h'.2.2 j hj i (by simp)
 have hq:∀j∈q,j≠i:=fun j hj e=>by
  have:=(List.nodup_cons.1 h'.2.1).1
  rw[e] at hj;exact this hj
 rw[List.filter_append,List.filter_cons]
 have hb:∀j,j≠i->(!(Nat.beq j i))=true:=fun j hj=>by
  cases hh:Nat.beq j i with
  |false=>rfl
  |true=>exact absurd (Nat.eq_of_beq_eq_true hh) hj
 rw[List.filter_eq_self.2 (fun j hj=>hb j (hp j hj)),List.filter_eq_self.2 (fun j hj=>hb j (hq j hj))]
 have:(!(Nat.beq i i))=false:=by simp
 rw[this]
 simp
def rest(n:Nat)(listed:Array Bool):List Nat:=(List.range n).filter fun i=> !listed.getD i true
theorem akP{n:Nat}{listed:Array Bool}(hs:listed.size=n){i:Nat}{p q:List Nat}(h:rest n listed=p++i::q):rest n (listed.setIfInBounds i true)=p++q:=by
 have nI:(rest n listed).Nodup:=List.nodup_range.filter _
 rw[h] at nI
 rw[<-zve nI,<-h]
 simp only[rest,List.filter_filter]
 refine List.filter_congr fun j hj=> ?_
 have ZP:=List.mem_range.1 hj
 by_cases e:j=i
 ·subst e
  have:(listed.setIfInBounds j true).getD j true=true:=by simp [Array.getD_eq_getD_getElem?,hs,ZP]
  rw[this];simp
 ·have h1:(listed.setIfInBounds i true).getD j true=listed.getD j true:=by
   simp only[Array.getD_eq_getD_getElem?]
   rw[Array.getElem?_setIfInBounds_ne (fun h=>e h.symm)]
  have h2:Nat.beq j i=false:=by
   cases hh:Nat.beq j i with
   |false=>rfl
   |true=>exact absurd (Nat.eq_of_beq_eq_true hh) e
  rw[h1,h2];simp
theorem G4{ops:Array Oper}{listed:Array Bool}{i:Nat}(h:i∈Region.ready .any ops listed):i∈rest ops.size listed/\∀e∈(ops.getD i default).after.toList,Region.binds .any e=true->listed.getD e.on false=true:=by
 unfold Region.ready at h
 obtain⟨h1,h2⟩:=List.mem_filter.1 h
 have hi:=List.mem_range.1 h1
 rw[Bool.and_eq_true] at h2
 refine⟨List.mem_filter.2 ⟨h1,h2.1⟩,fun e he hb=> ?_⟩
 have h3:=h2.2
 rw[Array.getElem?_eq_getElem hi] at h3
 simp only[Option.map_some,Option.getD_some] at h3
 have cu:ops.getD i default=ops[i]:=by simp [hi]
 rw[cu] at he
 have h4:=Array.all_eq_true_iff_forall_mem.1 h3 e (by simpa using he)
 rw[hb] at h4
 simpa using h4
theorem NO{ops:Array Oper}{listed:Array Bool}{i:Nat}(h:i∈rest ops.size listed)(ha:∀e∈(ops.getD i default).after.toList,Region.binds .any e=true->listed.getD e.on false=true):i∈Region.ready .any ops listed:=by
 obtain⟨h1,h2⟩:=List.mem_filter.1 h
 have hi:=List.mem_range.1 h1
 refine List.mem_filter.2 ⟨h1,?_⟩
 rw[Bool.and_eq_true]
 refine⟨h2,?_⟩
 have cu:ops.getD i default=ops[i]:=by simp [hi]
 rw[Array.getElem?_eq_getElem hi]
 simp only[Option.map_some,Option.getD_some]
 refine Array.all_eq_true_iff_forall_mem.2 fun e he=> ?_
 cases hb:Region.binds .any e with
 |false=>rfl
 |true=>
  rw[ha e (by rw[cu];simpa using he) hb]
  simp
theorem aj8(hE:al P E){C:ah}(hC:C.Nat)(hf:∀f,cY P C f){ops:Array Oper}{z:State}{Q:Exit->Act->World->Prop}(l8:∀k,k<ops.size->Nat.ble (vn ops k+1) (bit k)=true):
 ∀(cq:Nat) (listed:Array Bool) (X:aw) (s:State) (a:Act) (tr:List dW),Rel X s a->tN ops listed->listed.size=ops.size->cq=(rest ops.size listed).length->od E C ops (rest ops.size listed) s tr z->tr.Pairwise (vT ops)->
  (∀Y a',Ext X Y->Rel Y z a'->Q .normal a' Y.w)->wpAny P .any ops Q cq listed a X.w:=by
 intro cq
 have done:∀(listed:Array Bool),listed.size=ops.size->Region.ready .any ops listed=[]->rest ops.size listed=[]:=by
  intro listed hs hr
  rcases hl:rest ops.size listed with _|⟨i,r⟩
  ·rfl
  have cE:i∈rest ops.size listed:=by rw[hl];simp
  have dp:=List.mem_range.1 (List.mem_filter.1 cE).1
  have kg:i∈Region.ready .any ops listed:=by
   refine NO cE fun e he hb=> ?_
   have aq:e.on<i:=LH (l8 i dp) (zho _ e he hb)
   cases hx:listed.getD e.on false with
   |true=>rfl
   |false=>
    exfalso
    have gi:e.on<listed.size:=by omega
    have AV:listed.getD e.on true=false:=by
     simp only[Array.getD_eq_getD_getElem?,Array.getElem?_eq_getElem gi,Option.getD_some] at hx⊢
     exact hx
    have hm:e.on∈rest ops.size listed:=List.mem_filter.2 ⟨List.mem_range.2 (by omega),by rw[AV];rfl⟩
    have iy:(rest ops.size listed).Pairwise (· < ·):=List.pairwise_lt_range.filter _
    rw[hl] at iy hm
    rcases List.mem_cons.1 hm with e1|hm
    ·omega
    ·have:=(List.pairwise_cons.1 iy).1 _ hm
     omega
  rw[hr] at kg
  cases kg
 induction cq with
 |zero=>
  intro listed X s a tr hr fq hs nH dP vz hQ
  have uu:rest ops.size listed=[]:=List.eq_nil_of_length_eq_zero nH.symm
  rw[uu] at dP
  obtain⟨rfl,_⟩:=dP
  refine⟨?_,hQ X a (Ext.refl X) hr⟩
  rcases KI:Region.ready .any ops listed with _|⟨i,r⟩
  ·rfl
  ·have:=(G4 (i:=i) (by rw[KI];simp)).1
   rw[uu] at this
   cases this
 |succ cq ih=>
  intro listed X s a tr hr fq hs nH dP vz hQ
  refine⟨fun iw=> ?_,fun i hi=> ?_⟩
  ·rw[done listed hs iw] at nH
   cases nH
  ·obtain⟨cE,rG⟩:=G4 hi
   obtain⟨p,q,xB⟩:=NR cE
   have dp:=List.mem_range.1 (List.mem_filter.1 cE).1
   rw[xB] at dP
   have mc:=E4 dP
   obtain⟨tp,f,tq,u,e1,e2,k1,k2,k3⟩:=zrh p s tr dP (fun tp f tq e hl a' Ax=>by
    have ue:f.i=i:=by
     rw[e,List.map_append,List.map_cons] at mc
     have:=List.append_inj mc (by simp [hl])
     injection this.2
    have ZB:a'.i∈p:=by
     rw[e,List.map_append,List.map_cons] at mc
     have:=List.append_inj mc (by simp [hl])
     rw[<-this.1]
     exact List.mem_map.2 ⟨a',Ax,rfl⟩
    rw[e] at vz
    have uh:=(List.pairwise_append.1 vz).2.2 a' Ax f (by simp)
    rcases uh with hb|hb
    ·exfalso
     rw[ue] at hb
     obtain fE:=SR fq _ _ (fun q hq=>by
      obtain⟨ed,xq,xr,Km⟩:=Fc _ _ hq
      have:=rG ed xq xr
      rw[Km] at this
      exact this) a'.i hb
     have bF:a'.i∈rest ops.size listed:=by rw[xB];exact List.mem_append_left _ ZB
     have dV:=(List.mem_filter.1 bF).2
     have aq:=List.mem_range.1 (List.mem_filter.1 bF).1
     have gi:a'.i<listed.size:=by omega
     simp only[Array.getD_eq_getD_getElem?,Array.getElem?_eq_getElem gi,Option.getD_some] at fE dV
     rw[fE] at dV
     cases dV
    ·exact hb)
   have bF:=akP hs xB
   have ZO:ops[i]? =some (ops.getD i default):=by simp [dp]
   refine WH hE hr hC hf ZO (zpb hC k1) fun Y a' aZ bu=> ?_
   refine ih (listed.setIfInBounds i true) Y _ a' (tp++tq) bu (NQ fq fun q hq=>by
    obtain⟨ed,g1,g2,g3⟩:=Fc _ _ hq
    have:=rG ed g1 g2
    rw[g3] at this
    exact this) (by simp [hs]) ?_ (by rw[bF];exact k3) ?_ (fun Z a2 cf dc=>hQ Z a2 (aZ.trans cf) dc)
   ·rw[bF]
    rw[xB] at nH
    simp only[List.length_append,List.length_cons] at nH⊢
    omega
   ·rw[e1] at vz
    obtain⟨a1,a2,a3⟩:=List.pairwise_append.1 vz
    exact List.pairwise_append.2 ⟨a1,(List.pairwise_cons.1 a2).2,fun x hx y hy=>a3 x hx y (List.mem_cons_of_mem _ hy)⟩
theorem agD(hE:al P E)(hm:P.follows .mixedOrders=true){C:ah}(hC:C.Nat)(hf:∀f,cY P C f){id:Nat}{ops:Array Oper}{z:State}{Q:Exit->Act->World->Prop}(hr:Rel X s a)(h:yq E (C State) ops.toList ops.toList 0 s [] some=some z)
 (hQ:∀Y a',Ext X Y->Rel Y z a'->Q .normal a' Y.w):(Code.region id ops true).wp P Q a X.w:=by
 have kf:(List.range ops.size).map (fun i=>ops.getD i default)=ops.toList:=by
  apply List.ext_getElem?
  intro i
  rw[List.getElem?_map]
  by_cases hi:i<ops.size
  ·simp [hi]
  ·simp [hi]
 have bF:rest ops.size (Array.replicate ops.size false)=List.range ops.size:=by
  refine List.filter_eq_self.2 fun i hi=> ?_
  have:=List.mem_range.1 hi
  simp [this]
 obtain⟨xW,r1,_,r3,r4⟩:=zb9 hC (List.range ops.size) 0 s [] (fun j k hj=>by
  have:=(List.getElem?_eq_some_iff.1 hj)
  obtain⟨h1,h2⟩:=this
  simp at h2
  omega) (by rw[kf];exact h)
 have hk:eP s X {X with w:={X.w with drawn:=X.w.drawn+1}}:=⟨Nat.le_refl _,rfl,rfl,rfl,fun g _=>⟨rfl,rfl⟩,rfl,fun _ _ _=>rfl⟩
 refine wp_region_any hm ?_
 exact aj8 hE hC hf (fun k hk=>r4 k (List.mem_range.2 hk)) ops.size (Array.replicate ops.size false) _ s a xW (hr.dx hk) (fun i hi=>by
  by_cases h:i<ops.size<;>simp [h] at hi) (by simp) (by rw[bF];simp) (by rw[bF];exact r1) r3 (fun Y a' aZ bu=>hQ Y a' (hk.ext.trans aZ) bu)
end Go.Ref

namespace Go.Ref
open Go
variable {P:Program} {E:Env} {X:aw} {s:State} {a:Act}
theorem bg.flat{X Y:aw}:∀{t:Ty} {x:El t} {cs:List Value},t.flat=true->bg X t x cs->bg Y t x cs
 | .bool,_,_,_,hr=>hr
 | .int _,_,_,_,hr=>hr
 | .str,_,_,_,hr=>hr
 | .unit,_,_,_,hr=>hr
 | .sl _ _,_,_,hf,_=>by cases hf
 | .aJ _ _ _,_,_,hf,_=>by cases hf
 | .arr n t,xs,cs,hf,⟨h1,h2,h3⟩=>⟨h1,h2,fun j x hj=>bg.flat (t:=t) hf (h3 j x hj)⟩
 | .pair a b,x,cs,hf,⟨c1,c2,h1,h2,h3⟩=>by
   have hf:(a.flat&&b.flat)=true:=hf
   rw[Bool.and_eq_true] at hf
   exact⟨c1,c2,h1,bg.flat hf.1 h2,bg.flat hf.2 h3⟩
theorem az.flat{X Y:aw}{pl:List Nat->Place}{sv:SV}{v:Value}(hf:sv.flat=true)(hr:az X pl sv v):az Y pl sv v:=by
 cases sv with
 |aj t x own=>
  have hf:(t.flat&&own.isEmpty)=true:=hf
  rw[Bool.and_eq_true] at hf
  obtain⟨cs,h1,h2,_⟩:=hr
  have:own=[]:=List.isEmpty_iff.1 hf.2
  subst this
  exact⟨cs,h1.flat hf.1,h2,mD⟩
 |undef=>trivial
 |skip=>exact hr
 |cF=>exact hr
 |dT=>exact hr
 |over=>exact hr
 |_=>cases hf
theorem Tf{o:Nat}:∀{sl:List (List SV)} {i:Nat},lm o i sl=true->∀(j:Nat) l,sl[j]? =some l->i+j≠o->∀sv∈l,SV.flat sv=true
 | [],i,_,j,l,h,_=>by simp at h
 |l0::r,i,h,j,l,hl,bJ=>by
  rw[lm,Bool.and_eq_true,Bool.or_eq_true] at h
  cases j with
  |zero=>
   cases hl
   rcases h.1 with h1|h1
   ·exact absurd (Nat.eq_of_beq_eq_true h1) bJ
   ·exact fun sv hm=>List.all_eq_true.1 h1 sv hm
  |succ j=>exact Tf h.2 j l hl (by omega)
structure nV(X:aw)(a:Act)(o:Nat)(e:TypeId)(xs:List Int)(own:List (List Nat))(g c:Nat)(cur:Array Value):Prop where
 val:a.tmps.getD o Go.undef= .slice (some ⟨g,0,none⟩) xs.length c
 heap:X.w.heap[g]? =some (.cells cur e (0,0))
 cell:∀(j:Nat) x,xs[j]? =some x->X.w.cell? ⟨g,j,none⟩=some (.int .u8 x)
 le:xs.length<=c
 most:c<=maxLen
 size:cur.size=c
 ow:X.ow g= .row (.c o 0 []) (xs.length*1)
 own:∀p∈own,p=[]
theorem ane{o:Nat}{e:TypeId}{xs:List Int}{own:List (List Nat)}(hr:Rel X s a)(hs:s.slot o=[.aj (.sl e (.int .u8)) xs own])(bS:gK own []=true){i:Nat}(hi:i<xs.length):∃g c cur,nV X a o e xs own g c cur:=by
 have ix:=hr.slot o
 rw[hs] at ix
 obtain⟨cs,aL,hv,hO⟩:=(show az X (.c o 0) (.aj (.sl e (.int .u8)) xs own) (a.tmps.getD o Go.undef) from ix)
 have cE:([]:List Nat)∈own:=by
  unfold gK at bS
  obtain⟨q,h1,h2⟩:=List.any_eq_true.1 bS
  have:q=[]:=by simpa using h2
  rw[<-this];exact h1
 have cR:∀p∈own,p=[]:=fun p hp=>by
  obtain⟨e2,t2,xs2,v2,g1,g2,g3,g4⟩:=hO p hp
  cases p with
  |cons q r=>simp [El.get] at g2
  |nil=>rfl
 obtain⟨e1,t1,xs1,v1,_,hg,hc,ci⟩:=hO [] cE
 simp only[El.get,Option.some.injEq] at hg
 cases hg
 obtain⟨A,c,eF,hle,fO⟩:=aL
 subst eF
 have hv:a.tmps.getD o Go.undef= .slice A xs.length c:=hv
 have AR:v1= .slice A xs.length c:=by
  have:([Value.slice A xs.length c]:List Value)[0]? =some v1:=hc
  simpa using this.symm
 subst AR
 rcases ci with⟨_,h0⟩|⟨g,cap,cur,h1,h2,h3,h4,h5,h6⟩
 ·have h0:List.length xs=0:=h0
  omega
 injection h1 with k1 k2 k3
 subst k1 k3
 have h5:cur.size=c*1:=h5
 have h6:X.ow g= .row (.c o 0 []) (List.length xs*1):=h6
 have dO:∀(j:Nat) x,xs[j]? =some x->X.w.cell? ⟨g,j,none⟩=some (.int .u8 x):=fun j x hj=>by
  obtain⟨ad,eJ,e1,_,e2,e3⟩:=fO j x hj
  cases e1
  have e2:eJ=[.int .u8 x]:=e2
  subst e2
  have:=(e3 0 (.int .u8 x) rfl).2.1
  rw[iK] at this
  simpa [Ty.cells] using this
 exact⟨g,c,cur,hv,h2,dO,hle,h4,by omega,h6,cR⟩
theorem akN{o:Nat}{e:TypeId}{xs:List Int}{own:List (List Nat)}{X0:aw}(hF:∀g pl n,X0.ow g≠ .row pl n)(hx:Ext X0 X)(hr:Rel X s a)(ho:o<s.sl.length)(ug:lm o 0 s.sl=true)(jd:s.bs.all Option.isNone=true)
 {g c:Nat} {cur:Array Value} (hR:nV X a o e xs own g c cur) {i:Nat} (hi:i<xs.length) (z:Int):
   Ext X0 (X.row g (cur.toList.take i++ [Value.int .u8 z]++cur.toList.drop (i+1)).toArray)/\Rel (X.row g (cur.toList.take i++ [Value.int .u8 z]++cur.toList.drop (i+1)).toArray) ⟨s.sl.set o [.aj (.sl e (.int .u8)) (xs.set i z:List Int) own],s.bs⟩ a:=by
 obtain⟨hv,h2,dO,hle,h4,h5,h6,cR⟩:=hR
 refine⟨?_,?_⟩
 ·
  have dj:∀b,b≠g->(X.row g (cur.toList.take i++ [Value.int .u8 z]++cur.toList.drop (i+1)).toArray).w.heap[b]? =X.w.heap[b]? :=fun b hb=>setRow_other X.w g b _ hb
  have nJ:∀ad v,X0.ay ad v->ad.block≠g:=fun ad v ej e0=>by
   have aq:=aw.iF ej
   have hu:=ej.2.2
   cases hw:X0.ow ad.block with
   |all=>have:=(hx.still ad.block aq (by rw[hw];trivial)).1;rw[e0,h6] at this;rw[<-e0,hw] at this;cases this
   |ro n=>have:=(hx.still ad.block aq (by rw[hw];trivial)).1;rw[e0,h6] at this;rw[<-e0,hw] at this;cases this
   |box id=>rw[hw] at hu;exact hu
   |row pl n=>exact hF _ _ _ hw
  refine⟨fun ad v ej=> ?_,?_,hx.os,hx.tape,hx.output,hx.β0,fun b hb bP=> ?_⟩
  ·have h7:=hx.ay ad v ej
   refine⟨h7.1,?_,h7.2.2⟩
   have:=h7.2.1
   simp only[World.cell?] at this⊢
   rw[dj _ (nJ ad v ej)];exact this
  ·have:=hx.size
   simpa [aw.row] using this
  ·have h7:=hx.still b hb bP
   have bJ:b≠g:=fun e0=>by
    have h8:=h7.1
    rw[e0,h6] at h8
    rw[e0,<-h8] at bP
    exact bP
   exact⟨h7.1,(dj b bJ).trans h7.2⟩
 ·generalize gY:(cur.toList.take i++ [Value.int .u8 z]++cur.toList.drop (i+1)).toArray=new
  have dV:new.toList=cur.toList.take i++ [Value.int .u8 z]++cur.toList.drop (i+1):=by rw[<-gY]
  have eh:new.size=cur.size:=by
   have:new.toList.length=cur.toList.length:=by rw[dV];simp;omega
   simpa using this
  have aE:(X.row g new).w.heap[g]? =some (.cells new e (0,0)):=setRow_heap X.w g cur new e (0,0) h2
  refine⟨by simpa using hr.size,by simpa using hr.gL,fun j l v hl jh=> ?_,fun id B hB=> ?_,fun j l id t p hl hm=> ?_,hr.defers,fun j l id c b k hl hm=> ?_⟩
  ·rw[List.getElem?_set] at hl
   by_cases AK:o=j
   ·subst AK
    rw[if_pos rfl,if_pos ho] at hl
    cases hl
    have hvv:a.tmps.getD o Go.undef=v:=by rw[Array.getD_eq_getD_getElem?,jh];rfl
    rw[hvv] at hv
    subst hv
    refine⟨[.slice (some ⟨g,0,none⟩) xs.length c],?_,rfl,fun p hp=> ?_⟩
    ·refine bg.xS (t:= .int .u8) (List.length_set ..) hle fun j x hj=>⟨⟨g,0,none⟩,[.int .u8 x],rfl,rfl,rfl,fun k w hk=> ?_⟩
     have ui:j<xs.length:=by have:=(List.getElem?_eq_some_iff.1 hj).1;rw[List.length_set] at this;exact this
     cases k with
     |succ k=>simp at hk
     |zero=>
      have hk:Value.int .u8 x=w:=by simpa using hk
      subst hk
      refine⟨Bs rfl _,?_,?_⟩
      ·rw[iK]
       show(X.row g new).w.cell? _=_
       simp only[World.cell?,aE,Ty.cells]
       rw[show 0+(j*1+0)=j by omega,<-Array.getElem?_toList,dV]
       have hj:(xs.set i z)[j]? =some x:=hj
       rw[List.getElem?_set] at hj
       have ao2:i<cur.toList.length:=by simp;omega
       by_cases hij:i=j
       ·subst hij
        rw[if_pos rfl,if_pos hi] at hj
        cases hj
        rw[List.append_assoc,List.getElem?_append_right (by simp;omega)]
        have:i-(cur.toList.take i).length=0:=by simp;omega
        rw[this];rfl
       ·rw[if_neg hij] at hj
        have vv:=dO j x hj
        simp only[World.cell?,h2] at vv
        rw[<-Array.getElem?_toList] at vv
        rcases Nat.lt_or_ge j i with aq|Sk
        ·rw[List.append_assoc,List.getElem?_append_left (by simp;omega),List.getElem?_take,if_pos aq]
         exact vv
        ·have hgt:i<j:=by omega
         rw[List.getElem?_append_right (by simp;omega),List.getElem?_drop]
         have:i+1+(j-(cur.toList.take i++ [Value.int .u8 z]).length)=j:=by simp;omega
         rw[this]
         exact vv
      ·rw[iK]
       show Ow.used (X.ow g) _
       rw[h6]
       show _<_
       simp only[Ty.cells]
       omega
    ·have:=cR p hp
     subst this
     refine⟨e,.int .u8,(xs.set i z:List Int),_,by simp [Ty.eK],rfl,rfl,?_⟩
     have hls:List.length (xs.set i z)=xs.length:=List.length_set ..
     rw[hls]
     exact .inr ⟨g,c,new,rfl,aE,hle,h4,by rw[eh,h5];simp [Ty.cells],h6⟩
   ·rw[if_neg AK] at hl
    have:=Tf ug j l hl (by omega)
    exact(hr.bQ j l v hl jh).iS fun k sv u hk hu=>hu.flat (this sv (List.mem_of_getElem? hk))
  ·have:=List.all_eq_true.1 jd (some B) (List.mem_of_getElem? hB)
   cases this
  ·rw[List.getElem?_set] at hl
   by_cases AK:o=j
   ·subst AK
    rw[if_pos rfl,if_pos ho] at hl
    cases hl
    simp at hm
   ·rw[if_neg AK] at hl
    have:=Tf ug j l hl (by omega) _ hm
    cases this
  ·exfalso
   replace hl:(s.sl.set o [.aj (.sl e (.int .u8)) (xs.set i z:List Int) own])[j]? =some l:=hl
   rw[List.getElem?_set] at hl
   by_cases AK:o=j
   ·subst AK
    rw[if_pos rfl,if_pos ho] at hl
    cases hl
    simp at hm
   ·rw[if_neg AK] at hl
    have:=Tf ug j l hl (by omega) _ hm
    cases this
theorem nR{a:Act}{d i:Nat}{v:Value}(hd:d<a.tmps.size):(a.put (some d) v).tmps.getD i Go.undef=if d=i then v else a.tmps.getD i Go.undef:=by
 simp only[Act.put,Array.getD_eq_getD_getElem?,Array.getElem?_setIfInBounds]
 split
 ·first|rfl|(rw[if_pos hd];rfl)
 ·rfl
theorem rW{a:Act}{d:Nat}{v:Value}:(a.put (some d) v).tmps.size=a.tmps.size:=by simp [Act.put]
theorem raw{ops:Array Oper}{Q:Exit->Act->World->Prop}{i d:Nat}{rest:List Nat}{a:Act}{w:World}{o:Oper}{v:Value}(hi:ops[i]? =some o)(hd:isDst o d=true)(aW:(execOp a.eval o).run P w= .ok (.value v) w)(K:wpOps P ops Q rest (a.put (some d) v) w):wpOps P ops Q (i::rest) a w:=by
 have ln:o.dst=some d/\o.guard=none:=by
  unfold isDst at hd
  split at hd
  ·rename_i d' h1 h2
   exact⟨by rw[h1,Nat.eq_of_beq_eq_true hd],h2⟩
  ·cases hd
 rw[wpOps_cons]
 unfold wpOp
 simp only[hi]
 have hw:Region.wanted o (yielded ops a.tmps)=true:=by simp [Region.wanted,ln.2]
 rw[if_pos hw]
 refine .inl ?_
 unfold Oper.wp
 rw[aW,Oper.upon_value,ln.1]
 exact K
theorem vJ{x:Operand}{i:Nat}(h:fF x i=true):x= .tmp i:=by
 unfold fF at h
 split at h
 ·rw[Nat.eq_of_beq_eq_true h]
 ·cases h
theorem OS{T:TypeId}(h:xG E T=true):E.ty T=some (.int .u8):=by
 unfold xG at h
 split at h
 ·assumption
 ·cases h
theorem zvt{T:TypeId}(h:Wy E T=true):∃e,E.ty T=some (.sl e (.int .u8)):=by
 unfold Wy at h
 split at h
 ·exact⟨_,by assumption⟩
 ·cases h
theorem vK{o:Oper}{d x:Nat}(h:Gc o d x=true):isDst o d=true/\∀(a:Act) (w:World),(execOp a.eval o).run P w= .ok (.value (a.tmps.getD x Go.undef)) w:=by
 unfold Gc at h
 rw[Bool.and_eq_true] at h
 refine⟨h.1,fun a w=> ?_⟩
 have h:=h.2
 split at h
 ·rename_i y ho
  have:=vJ h
  subst this
  simp only[execOp,ho]
  rfl
 ·cases h
theorem WB(hE:al P E){o:Oper}{d x:Nat}(h:isLen E o d x=true):isDst o d=true/\∀(a:Act) (w:World) A n c,a.tmps.getD x Go.undef= .slice A n c->(execOp a.eval o).run P w= .ok (.value (.int .i64 n)) w:=by
 unfold isLen at h
 rw[Bool.and_eq_true] at h
 refine⟨h.1,fun a w A n c hv=> ?_⟩
 have h:=h.2
 split at h
 ·rename_i dN ts ho
  split at h
  ·rename_i y T ss Ch
   have has:dN= #[y]:=by rw[<-Array.toArray_toList (xs:=dN),ss]
   have kD:ts= #[T]:=by rw[<-Array.toArray_toList (xs:=ts),Ch]
   subst has kD
   rw[Bool.and_eq_true] at h
   have:=vJ h.1
   subst this
   obtain⟨e,hT⟩:=zvt h.2
   have hu:=(hE.ty T _ hT).dw
   have ev:a.eval (.tmp x)= .slice A n c:=hv
   simp [execOp,ho,resolve,invoke,builtin,Builtin.len_,ev,run_underlying hu.1,goInt]
  ·cases h
 ·cases h
theorem TD{o:Oper}{d x:Nat}(h:YV o d x=true):isDst o d=true/\∀(a:Act) (w:World) (n:Int),a.tmps.getD x Go.undef= .int .i64 n->(execOp a.eval o).run P w= .ok (.value (.int .i64 (IntKind.i64.wrap (n-1)))) w:=by
 unfold YV at h
 rw[Bool.and_eq_true] at h
 refine⟨h.1,fun a w n hv=> ?_⟩
 have h:=h.2
 split at h
 ·rename_i T y c T' ho
  rw[Bool.and_eq_true] at h
  have:=vJ h.1
  subst this
  have hc:=of_decide_eq_true h.2
  subst hc
  have ev:a.eval (.tmp x)= .int .i64 n:=hv
  have ec:a.eval (.const (.int .i64 1))= .int .i64 1:=rfl
  obtain⟨sv,v,hl,KT,_,hr,_⟩:=zqr (P:=P) (op:= .sub) (T:=T) (k:= .i64) (k':= .i64) (m:=n) (n:=1) w rfl
  cases hl
  have:=Bh (hr ⟨w,fun _=> .all,fun _=>none⟩ (fun _=> .r 0 []))
  subst this
  simp only[execOp,ho,Sem.run_bind,ev,ec,SN,Result.andThen_ok,KT,Sem.run_pure]
 ·cases h
theorem Pa{o:Oper}{d x y:Nat}(h:uH o d x y=true):isDst o d=true/\∀(a:Act) (w:World) (n m:Int),a.tmps.getD x Go.undef= .int .u8 n->a.tmps.getD y Go.undef= .int .u8 m->(execOp a.eval o).run P w= .ok (.value (.int .u8 (IntKind.u8.wrap (n+m)))) w:=by
 unfold uH at h
 rw[Bool.and_eq_true] at h
 refine⟨h.1,fun a w n m hv hu=> ?_⟩
 have h:=h.2
 split at h
 ·rename_i T u v T' ho
  rw[Bool.and_eq_true] at h
  have:=vJ h.1
  subst this
  have:=vJ h.2
  subst this
  have ev:a.eval (.tmp x)= .int .u8 n:=hv
  have eu:a.eval (.tmp y)= .int .u8 m:=hu
  obtain⟨sv,v,hl,KT,_,hr,_⟩:=zqr (P:=P) (op:= .add) (T:=T) (k:= .u8) (k':= .u8) (m:=n) (n:=m) w rfl
  cases hl
  have:=Bh (hr ⟨w,fun _=> .all,fun _=>none⟩ (fun _=> .r 0 []))
  subst this
  simp only[execOp,ho,Sem.run_bind,ev,eu,SN,Result.andThen_ok,KT,Sem.run_pure]
 ·cases h
theorem YO(hE:al P E){o:Oper}{d x i:Nat}(h:xF E o d x i=true):isDst o d=true/\∀(a:Act) (w:World) (g n c:Nat) (j:Int),a.tmps.getD x Go.undef= .slice (some ⟨g,0,none⟩) n c->a.tmps.getD i Go.undef= .int .i64 j->0<=j->j<n->(execOp a.eval o).run P w= .ok (.value (.pointer (some ⟨g,j.toNat,none⟩))) w:=by
 unfold xF at h
 rw[Bool.and_eq_true] at h
 refine⟨h.1,fun a w g n c j hv hj h0 h1=> ?_⟩
 have h:=h.2
 split at h
 ·rename_i T y z ho
  rw[Bool.and_eq_true,Bool.and_eq_true] at h
  have:=vJ h.1
  subst this
  have:=vJ h.2.1
  subst this
  obtain⟨e,hT⟩:=zvt h.2.2
  have hu:=(hE.ty T _ hT).dw
  have ev:a.eval (.tmp x)= .slice (some ⟨g,0,none⟩) n c:=hv
  have ei:a.eval (.tmp i)= .int .i64 j:=hj
  simp only[execOp,ho,Sem.run_bind,Instr.indexAt,ei,ev,asIntOf,Sem.run_pure,Result.andThen_ok,run_underlying hu.1,Sem.run_ite,h0,h1,and_self,if_true,lJ hE hu.2]
  simp [Ty.cells,iK]
 ·cases h
theorem NB(hE:al P E){o:Oper}{d x:Nat}(h:E2 E o d x=true):isDst o d=true/\∀(a:Act) (w:World) (g j:Nat) (y:Int),a.tmps.getD x Go.undef= .pointer (some ⟨g,j,none⟩)->w.cell? ⟨g,j,none⟩=some (.int .u8 y)->(execOp a.eval o).run P w= .ok (.value (.int .u8 y)) w:=by
 unfold E2 at h
 rw[Bool.and_eq_true] at h
 refine⟨h.1,fun a w g j y hv hc=> ?_⟩
 have h:=h.2
 split at h
 ·rename_i T z ho
  rw[Bool.and_eq_true] at h
  have:=vJ h.1
  subst this
  have hT:=OS h.2
  have ev:a.eval (.tmp x)= .pointer (some ⟨g,j,none⟩):=hv
  have hl:=Bj (P:=P) hE hT (X:=⟨w,fun _=> .all,fun _=>none⟩) (x:=y) (cs:=[.int .u8 y]) rfl (ad:=⟨g,j,none⟩) (w:=w) (fun k v hk=>by
   cases k with
   |zero=>rw[iK];have hk:Value.int .u8 y=v:=by simpa using hk
          rw[<-hk];exact hc
   |succ k=>simp at hk)
  simp only[execOp,ho,Sem.run_bind,Instr.loadAt,ev,Instr.sureAddr,Sem.run_pure,Result.andThen_ok,hl]
  rfl
 ·cases h
theorem ang(hE:al P E){ops:Array Oper}{Q:Exit->Act->World->Prop}{o:Oper}{x y:Nat}(h:uG E o x y=true){k:Nat}{rest:List Nat}(hi:ops[k]? =some o){a:Act}{X:aw}{g j:Nat}{z:Int}{cur:Array Value}{T':TypeId}(hv:a.tmps.getD x Go.undef= .pointer (some ⟨g,j,none⟩))(hz:a.tmps.getD y Go.undef= .int .u8 z)(hg:X.w.heap[g]? =some (.cells cur T' (0,0)))(hj:j+1<=cur.size)
 (K:wpOps P ops Q rest (a.put none Go.undef) (X.row g (cur.toList.take j++ [Value.int .u8 z]++cur.toList.drop (j+1)).toArray).w):wpOps P ops Q (k::rest) a X.w:=by
 unfold uG at h
 rw[Bool.and_eq_true] at h
 have ln:o.dst=none/\o.guard=none:=by
  have h:=h.1
  split at h
  ·exact⟨by assumption,by assumption⟩
  ·cases h
 have h:=h.2
 rw[wpOps_cons]
 unfold wpOp
 simp only[hi]
 have hw:Region.wanted o (yielded ops a.tmps)=true:=by simp [Region.wanted,ln.2]
 rw[if_pos hw]
 refine .inl ?_
 unfold Oper.wp
 split at h
 ·rename_i T u v ho
  rw[Bool.and_eq_true,Bool.and_eq_true] at h
  have:=vJ h.1
  subst this
  have:=vJ h.2.1
  subst this
  have hT:=OS h.2.2
  have ev:a.eval (.tmp x)= .pointer (some ⟨g,j,none⟩):=hv
  have ez:a.eval (.tmp y)= .int .u8 z:=hz
  have bP:=GR (P:=P) hE hT (X:=X) (x:=z) (cs:=[.int .u8 z]) rfl (off:=j) (w:=X.w) (r:=g) (cur:=cur) (T':=T') hg hj
  have gX:dR (.int .u8) [.int .u8 z]= .int .u8 z:=rfl
  rw[gX] at bP
  have aW:(execOp a.eval o).run P X.w= .ok .skip (X.row g (cur.toList.take j++ [Value.int .u8 z]++cur.toList.drop (j+1)).toArray).w:=by
   simp only[execOp,ho,Sem.run_bind,Instr.storeAt,ev,Instr.sureAddr,Sem.run_pure,Result.andThen_ok,ez,bP]
   rfl
  rw[aW,Oper.upon_skip,ln.1]
  exact K
 ·cases h
theorem Mq:∀(n m:Nat) (sl:List (List SV)),(kj n m sl).length=sl.length
 |0,m,sl=>rfl
 |n+1,m,sl=>by rw[kj,Mq n (m+1),List.length_set]
def dead(s:State)(d:Nat):State:=s.au (some d) [.undef]
theorem Rel.dead(hr:Rel X s a)(d:Nat)(v:Value):Rel X (Ref.dead s d) (a.put (some d) v):=hr.put (fun _ _=>trivial) (fun id t p hm=>by simp at hm)
theorem ahz(hE:al P E){X0:aw}(hF:∀g pl n,X0.ow g≠ .row pl n)(hx:Ext X0 X)(hr:Rel X s a){q:Nat×Nat×Nat}{id:Nat}{ops:Array Oper}{s':State}(h:lH E q ops.toList s some=some s'){Q:Exit->Act->World->Prop}(hQ:∀Y a',Ext X0 Y->Rel Y s' a'->Q .normal a' Y.w):(Code.region id ops false).wp P Q a X.w:=by
 obtain⟨o,x,m⟩:=q
 unfold lH at h
 simp only at h
 cases fm:E6 E o x m ops.toList with
 |false=>rw[fm] at h;cases h
 |true=>
 rw[fm,cond_true] at h
 cases hb:(Nat.ble (o+1) m&&(Nat.ble (x+1) m&&(!(Nat.beq o x)&&Nat.ble (m+13) s.sl.length))) with
 |false=>rw[hb] at h;cases h
 |true=>
 rw[hb,cond_true] at h
 simp only[Bool.and_eq_true,Bool.not_eq_true',Nat.ble_eq] at hb
 obtain⟨hom,hxm,hox,CB⟩:=hb
 split at h
 case h_2=>cases h
 rename_i et xs own y ow2 gk KQ
 cases bS:gK own [] with
 |false=>rw[bS] at h;cases h
 |true=>
 rw[bS,cond_true] at h
 cases ug:(lm o 0 (kj 13 m s.sl)&&s.bs.all Option.isNone) with
 |false=>rw[ug] at h;cases h
 |true=>
 rw[ug,cond_true] at h
 rw[Bool.and_eq_true] at ug
 obtain⟨h0,h1,h⟩:=vF h
 cases h
 generalize hj:IntKind.i64.wrap ((List.length xs:Int)-1)=j at h0 h1
 have hi:j.toNat<xs.length:=by omega
 obtain⟨g,c,cur,hR⟩:=ane hr gk bS hi
 have dm:m+13<=a.tmps.size:=by rw[<-hr.size];exact CB
 have hy:a.tmps.getD x Go.undef= .int .u8 y:=by
  have ix:=hr.slot x
  rw[KQ] at ix
  exact Bh (show az X (.c x 0) (.aj (.int .u8) y ow2) _ from ix)
 have hgx:xs[j.toNat]? =some (xs.getD j.toNat 0):=by rw[List.getD_eq_getElem?_getD,List.getElem?_eq_getElem hi];rfl
 have xp:=hR.cell _ _ hgx
 unfold E6 at fm
 split at fm
 case h_2=>cases fm
 rename_i o0 o1 o2 o3 o4 o5 o6 o7 o8 o9 o10 o11 o12 o13 gZ
 simp only[Bool.and_eq_true] at fm
 obtain⟨k0,k1,k2,k3,k4,k5,k6,k7,k8,k9,k10,k11,k12,k13⟩:=fm
 have cu:∀i,ops[i]? =([o0,o1,o2,o3,o4,o5,o6,o7,o8,o9,o10,o11,o12,o13]:List Oper)[i]? :=fun i=>by rw[<-Array.getElem?_toList,gZ]
 have b6:ops.size=14:=by rw[<-Array.length_toList,gZ];rfl
 refine wp_region ?_
 rw[b6,show List.range 14=[0,1,2,3,4,5,6,7,8,9,10,11,12,13] from rfl]
 have vo:=hR.val
 generalize xE:(Value.slice (some ⟨g,0,none⟩) xs.length c)=vs at vo
 refine raw (cu 0) (vK (P:=P) k0).1 ((vK k0).2 a X.w) ?_
 rw[vo]
 have e1:=fun i=>nR (i:=i) (v:=vs) (show m<a.tmps.size by omega)
 have r1:=hr.dead m vs
 generalize KG:a.put (some m) vs=a1 at e1 r1
 have z1:a1.tmps.size=a.tmps.size:=by rw[<-KG,rW]
 refine raw (cu 1) (vK (P:=P) k1).1 ((vK k1).2 a1 X.w) ?_
 rw[e1,if_neg (by omega),vo]
 have e2:=fun i=>nR (a:=a1) (i:=i) (v:=vs) (show m+1<a1.tmps.size by omega)
 have r2:=r1.dead (m+1) vs
 generalize Z6:a1.put (some (m+1)) vs=a2 at e2 r2
 have z2:a2.tmps.size=a.tmps.size:=by rw[<-Z6,rW,z1]
 refine raw (cu 2) (WB hE k2).1 ((WB hE k2).2 a2 X.w _ _ _ (by rw[e2,if_pos rfl];exact xE.symm)) ?_
 have e3:=fun i=>nR (a:=a2) (i:=i) (v:= .int .i64 (xs.length:Nat)) (show m+2<a2.tmps.size by omega)
 have r3:=r2.dead (m+2) (.int .i64 (xs.length:Nat))
 generalize hp3:a2.put (some (m+2)) (.int .i64 (xs.length:Nat))=a3 at e3 r3⊢
 have z3:a3.tmps.size=a.tmps.size:=by rw[<-hp3,rW,z2]
 refine raw (cu 3) (TD (P:=P) k3).1 ((TD k3).2 a3 X.w _ (by rw[e3,if_pos rfl])) ?_
 rw[hj]
 have e4:=fun i=>nR (a:=a3) (i:=i) (v:= .int .i64 j) (show m+3<a3.tmps.size by omega)
 have r4:=r3.dead (m+3) (.int .i64 j)
 generalize hp4:a3.put (some (m+3)) (.int .i64 j)=a4 at e4 r4⊢
 have z4:a4.tmps.size=a.tmps.size:=by rw[<-hp4,rW,z3]
 have q4:∀i,i<m->a4.tmps.getD i Go.undef=a.tmps.getD i Go.undef:=fun i hi=>by rw[e4,if_neg (by omega),e3,if_neg (by omega),e2,if_neg (by omega),e1,if_neg (by omega)]
 have qm:a4.tmps.getD m Go.undef=vs:=by rw[e4,if_neg (by omega),e3,if_neg (by omega),e2,if_neg (by omega),e1,if_pos rfl]
 refine raw (cu 4) (vK (P:=P) k4).1 ((vK k4).2 a4 X.w) ?_
 rw[q4 o (by omega),vo]
 have e5:=fun i=>nR (a:=a4) (i:=i) (v:=vs) (show m+4<a4.tmps.size by omega)
 have r5:=r4.dead (m+4) vs
 generalize hp5:a4.put (some (m+4)) vs=a5 at e5 r5⊢
 have z5:a5.tmps.size=a.tmps.size:=by rw[<-hp5,rW,z4]
 refine raw (cu 5) (vK (P:=P) k5).1 ((vK k5).2 a5 X.w) ?_
 rw[e5,if_neg (by omega),q4 o (by omega),vo]
 have e6:=fun i=>nR (a:=a5) (i:=i) (v:=vs) (show m+5<a5.tmps.size by omega)
 have r6:=r5.dead (m+5) vs
 generalize hp6:a5.put (some (m+5)) vs=a6 at e6 r6⊢
 have z6:a6.tmps.size=a.tmps.size:=by rw[<-hp6,rW,z5]
 refine raw (cu 6) (WB hE k6).1 ((WB hE k6).2 a6 X.w _ _ _ (by rw[e6,if_pos rfl];exact xE.symm)) ?_
 have e7:=fun i=>nR (a:=a6) (i:=i) (v:= .int .i64 (xs.length:Nat)) (show m+6<a6.tmps.size by omega)
 have r7:=r6.dead (m+6) (.int .i64 (xs.length:Nat))
 generalize hp7:a6.put (some (m+6)) (.int .i64 (xs.length:Nat))=a7 at e7 r7⊢
 have z7:a7.tmps.size=a.tmps.size:=by rw[<-hp7,rW,z6]
 refine raw (cu 7) (TD (P:=P) k7).1 ((TD k7).2 a7 X.w _ (by rw[e7,if_pos rfl])) ?_
 rw[hj]
 have e8:=fun i=>nR (a:=a7) (i:=i) (v:= .int .i64 j) (show m+7<a7.tmps.size by omega)
 have r8:=r7.dead (m+7) (.int .i64 j)
 generalize hp8:a7.put (some (m+7)) (.int .i64 j)=a8 at e8 r8⊢
 have z8:a8.tmps.size=a.tmps.size:=by rw[<-hp8,rW,z7]
 have q8:∀i,i<=m+3->a8.tmps.getD i Go.undef=a4.tmps.getD i Go.undef:=fun i hi=>by rw[e8,if_neg (by omega),e7,if_neg (by omega),e6,if_neg (by omega),e5,if_neg (by omega)]
 refine raw (cu 8) (YO hE k8).1 ((YO hE k8).2 a8 X.w g xs.length c j (by rw[e8,if_neg (by omega),e7,if_neg (by omega),e6,if_neg (by omega),e5,if_pos rfl];exact xE.symm) (by rw[e8,if_pos rfl]) h0 h1) ?_
 have e9:=fun i=>nR (a:=a8) (i:=i) (v:= .pointer (some ⟨g,j.toNat,none⟩)) (show m+8<a8.tmps.size by omega)
 have r9:=r8.dead (m+8) (.pointer (some ⟨g,j.toNat,none⟩))
 generalize hp9:a8.put (some (m+8)) (.pointer (some ⟨g,j.toNat,none⟩))=a9 at e9 r9⊢
 have z9:a9.tmps.size=a.tmps.size:=by rw[<-hp9,rW,z8]
 refine raw (cu 9) (NB hE k9).1 ((NB hE k9).2 a9 X.w g j.toNat _ (by rw[e9,if_pos rfl]) xp) ?_
 generalize hwx:xs.getD j.toNat 0=wx
 have Gr:=fun i=>nR (a:=a9) (i:=i) (v:= .int .u8 wx) (show m+9<a9.tmps.size by omega)
 have kS:=r9.dead (m+9) (.int .u8 wx)
 generalize Z3:a9.put (some (m+9)) (.int .u8 wx)=B3 at Gr kS⊢
 have z10:B3.tmps.size=a.tmps.size:=by rw[<-Z3,rW,z9]
 refine raw (cu 10) (vK (P:=P) k10).1 ((vK k10).2 B3 X.w) ?_
 rw[Gr,if_neg (by omega),e9,if_neg (by omega),q8 x (by omega),q4 x (by omega),hy]
 have Gs:=fun i=>nR (a:=B3) (i:=i) (v:= .int .u8 y) (show m+10<B3.tmps.size by omega)
 have lE:=kS.dead (m+10) (.int .u8 y)
 generalize Z4:B3.put (some (m+10)) (.int .u8 y)=B4 at Gs lE⊢
 have z11:B4.tmps.size=a.tmps.size:=by rw[<-Z4,rW,z10]
 refine raw (cu 11) (Pa (P:=P) k11).1 ((Pa k11).2 B4 X.w wx y (by rw[Gs,if_neg (by omega),Gr,if_pos rfl]) (by rw[Gs,if_pos rfl])) ?_
 generalize hwz:IntKind.u8.wrap (wx+y)=wz
 have Zi:=fun i=>nR (a:=B4) (i:=i) (v:= .int .u8 wz) (show m+11<B4.tmps.size by omega)
 have nK:=lE.dead (m+11) (.int .u8 wz)
 generalize Z5:B4.put (some (m+11)) (.int .u8 wz)=a12 at Zi nK⊢
 have z12:a12.tmps.size=a.tmps.size:=by rw[<-Z5,rW,z11]
 have q12:∀i,i<=m+3->a12.tmps.getD i Go.undef=a4.tmps.getD i Go.undef:=fun i hi=>by rw[Zi,if_neg (by omega),Gs,if_neg (by omega),Gr,if_neg (by omega),e9,if_neg (by omega),q8 i hi]
 refine raw (cu 12) (YO hE k12).1 ((YO hE k12).2 a12 X.w g xs.length c j (by rw[q12 m (by omega),qm];exact xE.symm) (by rw[q12 (m+3) (by omega),e4,if_pos rfl]) h0 h1) ?_
 have Sh:=fun i=>nR (a:=a12) (i:=i) (v:= .pointer (some ⟨g,j.toNat,none⟩)) (show m+12<a12.tmps.size by omega)
 have mj:=nK.dead (m+12) (.pointer (some ⟨g,j.toNat,none⟩))
 generalize apa:a12.put (some (m+12)) (.pointer (some ⟨g,j.toNat,none⟩))=J3 at Sh mj⊢
 have Zx:nV X J3 o et xs own g c cur:=⟨by rw[Sh,if_neg (by omega),q12 o (by omega),q4 o (by omega),hR.val],hR.heap,hR.cell,hR.le,hR.most,hR.size,hR.ow,hR.own⟩
 refine ang hE k13 (cu 13) (by rw[Sh,if_pos rfl]) (by rw[Sh,if_neg (by omega),Zi,if_pos rfl]) hR.heap (by rw[hR.size];have:=hR.le;omega) ?_
 have aaf:Rel X ⟨kj 13 m s.sl,s.bs⟩ J3:=mj
 obtain⟨hX,bu⟩:=akN hF hx aaf (by rw[Mq];omega) ug.1 ug.2 Zx hi wz
 have uf:=hQ _ J3 hX (by
  unfold Bd
  rw[hj,hwx,hwz]
  exact bu)
 exact uf
end Go.Ref

namespace Go.Ref
open Go
variable {P:Program} {E:Env} {X:aw} {s:State} {a:Act}
structure oe(X Y:aw)(g0:Nat):Prop where
 heap:∀b,b≠g0->Y.w.heap[b]? =X.w.heap[b]?
 ow:Y.ow=X.ow
 β:Y.β=X.β
theorem oe.ay{Y:aw}{g0:Nat}(h:oe X Y g0){ad:Addr}{v:Value}(bJ:ad.block≠g0)(hs:X.ay ad v):Y.ay ad v:=by
 refine⟨hs.1,?_,?_⟩
 ·have:=hs.2.1
  simp only[World.cell?] at this⊢
  rw[h.heap _ bJ];exact this
 ·rw[h.ow];exact hs.2.2
theorem OO{own:List (List Nat)}{p:List Nat}(h:gK own p=true):p∈own:=by
 unfold gK at h
 obtain⟨q,h1,h2⟩:=List.any_eq_true.1 h
 have:q=p:=by simpa using h2
 rw[<-this];exact h1
def plS(pl:List Nat->Place):List Nat->Place
 |j::p=>pl ((j+1)::p)
 | []=>pl []
theorem akJ{pl:List Nat->Place}{a b:Ty}{x:El (.pair a b)}{c1 c2:List Value}{own:List (List Nat)}(hr:bg X a x.1 c1)(h:bn X pl (.pair a b) x (c1++c2) own):bn X (fun p=>pl (0::p)) a x.1 c1 (R0 own [0]):=fun p hp=>by
 unfold R0 at hp
 obtain⟨q,hq,rfl⟩:=List.mem_map.1 hp
 obtain⟨hq,gj⟩:=List.mem_filter.1 hq
 match q,gj with
 |0::q,_=>
  obtain⟨e,t',xs,v,g0,g1,g2,g3⟩:=h (0::q) hq
  have g2:(c1++c2)[a.off q]? =some v:=g2
  refine⟨e,t',xs,v,g0,g1,?_,g3⟩
  show c1[a.off q]? =some v
  rw[<-g2,List.getElem?_append_left]
  obtain⟨_,k2,_⟩:=Rm hr (show a.eK q from g0) (show El.get a q x.1=_ from g1)
  have k2:a.off q+1<=a.cells:=k2
  have:=hr.len
  omega
 | [],gj=>simp at gj
 |(j+1)::q,gj=>simp at gj
theorem akK{pl:List Nat->Place}{a b:Ty}{x:El (.pair a b)}{c1 c2:List Value}{own:List (List Nat)}(hl:c1.length=a.cells)(h:bn X pl (.pair a b) x (c1++c2) own):bn X (plS pl) b x.2 c2 (xi own):=fun p hp=>by
 unfold xi at hp
 obtain⟨q,hq,he⟩:=List.mem_filterMap.1 hp
 match q,he with
 |(j+1)::q,he=>
  cases he
  obtain⟨e,t',xs,v,g0,g1,g2,g3⟩:=h ((j+1)::q) hq
  refine⟨e,t',xs,v,g0,g1,?_,g3⟩
  have g2:(c1++c2)[a.cells+b.off (j::q)]? =some v:=g2
  rw[List.getElem?_append_right (by omega)] at g2
  rw[<-g2]
  congr 1
  omega
 | [],he=>cases he
 |0::q,he=>cases he
theorem bn.Lk{Y:aw}{g0:Nat}(h:oe X Y g0){pl:List Nat->Place}(fP:∀p n,X.ow g0≠ .row (pl p) n){t:Ty}{x:El t}{cs:List Value}{own:List (List Nat)}(ho:bn X pl t x cs own):bn Y pl t x cs own:=fun p hp=>by
 obtain⟨e,t',xs,v,k0,k1,k2,k3⟩:=ho p hp
 refine⟨e,t',xs,v,k0,k1,k2,?_⟩
 rcases k3 with ho|⟨g,cap,cur,h1,h2,h3,h4,h5,h6⟩
 ·exact .inl ho
 ·have bJ:g≠g0:=fun e=>fP p _ (e▸h6)
  exact .inr ⟨g,cap,cur,h1,(h.heap g bJ).trans h2,h3,h4,h5,by rw[h.ow];exact h6⟩
theorem bg.cK{Y:aw}{g0:Nat}(h:oe X Y g0):∀{t:Ty} {x:El t} {cs:List Value} {own:List (List Nat)} {pl:List Nat->Place},(∀p n,X.ow g0≠ .row (pl p) n)->t.cK own=true->bg X t x cs->bn X pl t x cs own->bg Y t x cs
 | .bool,_,_,_,_,_,_,hr,_=>hr
 | .int _,_,_,_,_,_,_,hr,_=>hr
 | .str,_,_,_,_,_,_,hr,_=>hr
 | .unit,_,_,_,_,_,_,hr,_=>hr
 | .aJ _ _ _,_,_,_,_,_,hs,_,_=>by cases hs
 | .arr n t,xs,cs,own,pl,_,hs,hr,_=>bg.flat (t:= .arr n t) (show t.flat=true from hs) hr
 | .pair a b,x,cs,own,pl,fP,hs,hr,ho=>by
   have hs:(a.cK (R0 own [0])&&b.cK (xi own))=true:=hs
   rw[Bool.and_eq_true] at hs
   obtain⟨c1,c2,h1,h2,h3⟩:=hr
   subst h1
   exact⟨c1,c2,rfl,bg.cK h (pl:=fun p=>pl (0::p)) (fun p n=>fP _ n) hs.1 h2 (akJ h2 ho),bg.cK h (pl:=plS pl) (fun p n=>by cases p<;>exact fP _ n) hs.2 h3 (akK h2.len ho)⟩
 | .sl e t,xs,cs,own,pl,fP,hs,hr,ho=>by
   have hs:(t.flat&&gK own [])=true:=hs
   rw[Bool.and_eq_true] at hs
   obtain⟨A,c,eF,hle,fO⟩:=hr
   subst eF
   refine⟨A,c,rfl,hle,fun j x hj=> ?_⟩
   obtain⟨ad,eJ,e1,e2,e3,e4⟩:=fO j x hj
   subst e1
   refine⟨ad,eJ,rfl,e2,e3.flat hs.1,fun i v hi=>h.ay ?_ (e4 i v hi)⟩
   obtain⟨e1,t1,xs1,v1,_,hg,hc,ci⟩:=ho [] (OO hs.2)
   simp only[El.get,Option.some.injEq] at hg
   cases hg
   have AR:v1= .slice (some ad) xs.length c:=by
    have:([Value.slice (some ad) xs.length c]:List Value)[0]? =some v1:=hc
    simpa using this.symm
   subst AR
   rcases ci with⟨h0,_⟩|⟨g,cap,cur,h1,h2,h3,h4,h5,h6⟩
   ·cases h0
   ·injection h1 with k1 k2 k3
    cases k1
    rw[iK]
    intro e
    have e:g=g0:=e
    exact fP [] _ (e▸h6)
theorem az.cK{Y:aw}{g0:Nat}(h:oe X Y g0){pl:List Nat->Place}(fP:∀p n,X.ow g0≠ .row (pl p) n){bs:List (Option bC)}{sv:SV}{v:Value}(hs:sv.cK bs=true)(hr:az X pl sv v):az Y pl sv v:=by
 cases sv with
 |aj t x own=>
  obtain⟨cs,h1,h2,h3⟩:=hr
  exact⟨cs,h1.cK h fP hs h3,h2,h3.Lk h fP⟩
 |undef=>trivial
 |skip=>exact hr
 |cF=>exact hr
 |dT=>exact hr
 |over=>exact hr
 |ptr id t p=>
  obtain⟨r,h1,h2⟩:=hr
  exact⟨r,by rw[h.β];exact h1,h2⟩
 |_=>cases hs
theorem ad7{bs:List (Option bC)}{id:Nat}{B:bC}(h:(bs.map YZ)[id]? =some (some B)):bs[id]? =some (some B)/\B.cK=true:=by
 rw[List.getElem?_map] at h
 obtain⟨b0,h0,h1⟩:=Option.map_eq_some_iff.1 h
 cases b0 with
 |none=>cases h1
 |some B0=>
  unfold YZ at h1
  simp only at h1
  cases hb:B0.cK with
  |false=>rw[hb] at h1;cases h1
  |true=>rw[hb] at h1;cases h1;exact⟨h0,hb⟩
structure Y1(X:aw)(o:Nat)(e:TypeId)(k n:Nat)(v:Value)(g c:Nat)(cur:Array Value):Prop where
 val:v= .slice (some ⟨g,0,none⟩) n c
 heap:X.w.heap[g]? =some (.cells cur e (0,0))
 le:n<=c
 size:cur.size=c*k
 ow:X.ow g= .row (.c o 0 []) (n*k)
theorem Lf{o:Nat}{e:TypeId}{t:Ty}{xs:List (El t)}{own:List (List Nat)}(hr:Rel X s a)(hs:s.slot o=[.aj (.sl e t) xs own])(bS:gK own []=true){i:Nat}(hi:i<xs.length):∃g c cur,Y1 X o e t.cells xs.length (a.tmps.getD o Go.undef) g c cur:=by
 have ix:=hr.slot o
 rw[hs] at ix
 obtain⟨cs,aL,hv,hO⟩:=(show az X (.c o 0) (.aj (.sl e t) xs own) (a.tmps.getD o Go.undef) from ix)
 obtain⟨e1,t1,xs1,v1,_,hg,hc,ci⟩:=hO [] (OO bS)
 simp only[El.get,Option.some.injEq] at hg
 cases hg
 obtain⟨A,c,eF,hle,fO⟩:=aL
 subst eF
 have hv:a.tmps.getD o Go.undef= .slice A xs.length c:=hv
 have AR:v1= .slice A xs.length c:=by
  have:([Value.slice A xs.length c]:List Value)[0]? =some v1:=hc
  simpa using this.symm
 subst AR
 rcases ci with⟨_,h0⟩|⟨g,cap,cur,h1,h2,h3,h4,h5,h6⟩
 ·have h0:List.length xs=0:=h0
  omega
 injection h1 with k1 k2 k3
 subst k1 k3
 exact⟨g,c,cur,hv,h2,hle,h5,h6⟩
theorem NP{g:Nat}{new:Array Value}:oe X (X.row g new) g:=⟨fun b hb=>setRow_other X.w g b _ hb,rfl,rfl⟩
theorem akQ{X0:aw}(hF:∀g pl n,X0.ow g≠ .row pl n)(hx:Ext X0 X){g m:Nat}{pl:Place}{new:Array Value}(how:X.ow g= .row pl m):Ext X0 (X.row g new):=by
 have dj:∀b,b≠g->(X.row g new).w.heap[b]? =X.w.heap[b]? :=fun b hb=>setRow_other X.w g b _ hb
 have nJ:∀ad v,X0.ay ad v->ad.block≠g:=fun ad v ej e0=>by
  have aq:=aw.iF ej
  have hu:=ej.2.2
  cases hw:X0.ow ad.block with
  |all=>have:=(hx.still ad.block aq (by rw[hw];trivial)).1;rw[e0,how] at this;rw[<-e0,hw] at this;cases this
  |ro n=>have:=(hx.still ad.block aq (by rw[hw];trivial)).1;rw[e0,how] at this;rw[<-e0,hw] at this;cases this
  |box id=>rw[hw] at hu;exact hu
  |row pl n=>exact hF _ _ _ hw
 refine⟨fun ad v ej=>NP.ay (nJ ad v ej) (hx.ay ad v ej),?_,hx.os,hx.tape,hx.output,hx.β0,fun b hb bP=> ?_⟩
 ·have:=hx.size
  simpa [aw.row] using this
 ·have h7:=hx.still b hb bP
  have bJ:b≠g:=fun e0=>by
   have h8:=h7.1
   rw[e0,how] at h8
   rw[e0,<-h8] at bP
   exact bP
  exact⟨h7.1,(dj b bJ).trans h7.2⟩
theorem ahr(hr:Rel X s a){x g m:Nat}{new:Array Value}(how:X.ow g= .row (.c x 0 []) m):Rel (X.row g new) (s.cK x) a:=by
 have hB:oe X (X.row g new) g:=NP
 refine⟨by simpa [State.cK] using hr.size,by simpa [State.cK] using hr.gL,fun j l v hl hv=> ?_,fun id B hb=> ?_,fun j l id t p hl hm=> ?_,hr.defers,fun j l id c b k hl hm=> ?_⟩
 ·simp only[State.cK,List.getElem?_map] at hl
  obtain⟨l0,h0,rfl⟩:=Option.map_eq_some_iff.1 hl
  unfold hold
  cases cR:l0.all (SV.cK s.bs) with
  |false=>trivial
  |true=>
   rw[cond_true]
   rw[List.getElem?_set] at h0
   by_cases hxj:x=j
   ·subst hxj
    rw[if_pos rfl] at h0
    split at h0
    ·cases h0;trivial
    ·cases h0
   ·rw[if_neg hxj] at h0
    exact(hr.bQ j l0 v h0 hv).iS fun k sv u hk hu=>hu.cK hB (fun p n e=>by rw[how] at e;injection e with e _;injection e with e _;exact hxj e) (List.all_eq_true.1 cR sv (List.mem_of_getElem? hk))
 ·obtain⟨h1,h2⟩:=ad7 hb
  obtain⟨r,k1,k2⟩:=hr.boxes id B h1
  unfold bC.cK at h2
  rw[Bool.and_eq_true] at h2
  have eh:B.t.bG=false:=by simpa using h2.1
  obtain⟨cs,T,aE,aL,oE,bS⟩:=k2.cells eh
  have bJ:r≠g:=fun e=>by rw[e,how] at oE;cases oE
  have fP:∀p n,X.ow g≠ .row (.b id p) n:=fun p n e=>by rw[how] at e;injection e with e _;cases e
  exact⟨r,k1,by rw[hB.ow];exact oE,dz.of eh ((hB.heap r bJ).trans aE) (aL.cK hB fP h2.2 bS) (bS.Lk hB fP)⟩
 ·simp only[State.cK,List.getElem?_map] at hl
  obtain⟨l0,h0,rfl⟩:=Option.map_eq_some_iff.1 hl
  unfold hold at hm
  cases cR:l0.all (SV.cK s.bs) with
  |false=>rw[cR] at hm;simp at hm
  |true=>
   rw[cR,cond_true] at hm
   have h1:=List.all_eq_true.1 cR _ hm
   unfold SV.cK at h1
   simp only at h1
   split at h1
   case h_2=>cases h1
   rename_i B hB
   have hb:=qJ (s:=s) hB
   exact⟨B,by simp only[State.cK,List.getElem?_map,hb,Option.map_some,YZ,h1,cond_true]⟩
 ·exfalso
  simp only[State.cK,List.getElem?_map] at hl
  obtain⟨l0,h0,rfl⟩:=Option.map_eq_some_iff.1 hl
  unfold hold at hm
  cases cR:l0.all (SV.cK s.bs) with
  |false=>rw[cR] at hm;simp at hm
  |true=>
   rw[cR,cond_true] at hm
   have:=List.all_eq_true.1 cR _ hm
   cases this
theorem zvz{α:Type}:∀{l r:List α} {x y:α},WA l=some (r,x,y)->l=r++ [x,y]
 | [],_,_,_,h=>by cases h
 | [_],_,_,_,h=>by cases h
 | [a,b],_,_,_,h=>by cases h;rfl
 |a::b::c::r,_,_,_,h=>by
  simp only[WA] at h
  split at h
  case h_2=>cases h
  rename_i l x y hl
  cases h
  have:=zvz (l:=b::c::r) hl
  rw[this];rfl
theorem zre(hE:al P E){C:ah}(hC:C.Nat)(hf:∀f,cY P C f){ops:Array Oper}{s':State}{Q:Exit->Act->World->Prop}{rest:List Nat}:∀(l:List Nat) (X:aw) (s:State) (a:Act),Rel X s a->(∀i∈l,i<ops.size)->
 steps E (C State) ops.toList (l.map fun i=>ops.getD i default) s some=some s'->(∀Y a',Ext X Y->Rel Y s' a'->wpOps P ops Q rest a' Y.w)->wpOps P ops Q (l++rest) a X.w
 | [],X,s,a,hr,_,h,hQ=>by
   cases h
   exact hQ X a (Ext.refl X) hr
 |i::r,X,s,a,hr,hl,h,hQ=>by
  simp only[List.map_cons,steps] at h
  obtain⟨s1,h1,h2⟩:=jP (zrd hC (F:=fun s=>steps E (C State) ops.toList (r.map fun i=>ops.getD i default) s some) (G:=some) (K:=fun s=>steps E (C State) ops.toList (r.map fun i=>ops.getD i default) s some) (fun _=>rfl)) h
  have hi:ops[i]? =some (ops.getD i default):=by
   have:=hl i (by simp)
   simp [this]
  rw[List.cons_append,wpOps_cons]
  refine WH hE hr hC hf hi h1 fun Y a' aZ bu=> ?_
  exact zre hE hC hf r Y s1 a' bu (fun j hj=>hl j (List.mem_cons_of_mem _ hj)) h2 fun Z a2 cf dc=>hQ Z a2 (aZ.trans cf) dc
theorem akM(hE:al P E){X0:aw}(hF:∀g pl n,X0.ow g≠ .row pl n)(hx:Ext X0 X)(hr:Rel X s a){ops:Array Oper}{k l:Nat}{oA oS:Oper}(hA:ops[k]? =some oA)(hS:ops[l]? =some oS){s':State}(h:jn E oA oS s some=some s'){Q:Exit->Act->World->Prop}(hQ:∀Y a',Ext X0 Y->Rel Y s' a'->Q .normal a' Y.w):wpOps P ops Q [k,l] a X.w:=by
 unfold jn at h
 split at h
 case h_2=>cases h
 rename_i T x i T' d vo Z1 hoS
 cases fm:(isDst oA d&&(!(Nat.beq x d)&&lB oS)) with
 |false=>rw[fm] at h;cases h
 |true=>
 rw[fm,cond_true] at h
 rw[Bool.and_eq_true,Bool.and_eq_true] at fm
 obtain⟨hd,hxd,ln⟩:=fm
 have ln:oS.dst=none/\oS.guard=none:=by
  unfold lB at ln
  split at ln
  ·exact⟨by assumption,by assumption⟩
  ·cases ln
 have hxd:x≠d:=fun e=>by rw[e] at hxd;simp at hxd
 unfold uM at h
 split at h
 case h_2=>cases h
 rename_i e t xs own KQ
 cases hb:gK own [] with
 |false=>rw[hb] at h;cases h
 |true=>
 rw[hb,cond_true] at h
 split at h
 case h_2=>cases h
 rename_i u w hT vu
 cases hu:(u.cp (.sl e t)&&(w.cp t&&Nat.ble (d+1) s.sl.length)) with
 |false=>rw[hu] at h;cases h
 |true=>
 rw[hu,cond_true] at h
 rw[Bool.and_eq_true,Bool.and_eq_true] at hu
 have:=Ty.aI hu.1
 subst this
 have:=Ty.aI hu.2.1
 subst this
 have hds:d<a.tmps.size:=by rw[<-hr.size];exact Nat.le_of_ble_eq_true hu.2.2
 obtain⟨n,kk,h,hn⟩:=zr4 h
 obtain⟨y,h,hy⟩:=zz h
 obtain⟨h0,h1,h⟩:=vF h
 cases h
 have hi:n.toNat<xs.length:=by omega
 obtain⟨g,c,cur,hR⟩:=Lf hr KQ hb hi
 have dp:=hn X _ _ (hr.aG i)
 have hU:=hE.ty T _ hT
 have ev:a.eval (.tmp x)= .slice (some ⟨g,0,none⟩) xs.length c:=hR.val
 have uA:(execOp a.eval oA).run P X.w= .ok (.value (.pointer (some ⟨g,n.toNat*w.cells,none⟩))) X.w:=by
  have aq:n<(xs.length:Int):=h1
  simp only[execOp,Z1,Sem.run_bind,Instr.indexAt,dp,ev,asIntOf,Sem.run_pure,Result.andThen_ok,run_underlying hU.dw.1,Sem.run_ite,h0,aq,and_self,if_true,lJ hE hU.dw.2]
  simp [iK]
 refine raw hA hd uA ?_
 have eR:Rel X (s.au (some d) [.undef]) (a.put (some d) (.pointer (some ⟨g,n.toNat*w.cells,none⟩))):=hr.put (fun _ _=>trivial) (fun id t p hm=>by simp at hm)
 have evd:(a.put (some d) (.pointer (some ⟨g,n.toNat*w.cells,none⟩))).eval (.tmp d)= .pointer (some ⟨g,n.toNat*w.cells,none⟩):=by
  show(a.put (some d) _).tmps.getD d Go.undef=_
  rw[nR hds,if_pos rfl]
 generalize a.put (some d) (.pointer (some ⟨g,n.toNat*w.cells,none⟩))=a1 at eR evd⊢
 obtain⟨cs,lF,Zm⟩:=hy X _ _ (eR.aG vo)
 have hle:(n.toNat+1)*w.cells<=c*w.cells:=Nat.mul_le_mul_right _ (by have:=hR.le;omega)
 rw[Nat.add_mul,Nat.one_mul] at hle
 have bP:=GR (P:=P) hE vu lF (r:=g) (off:=n.toNat*w.cells) (w:=X.w) hR.heap (by rw[hR.size];exact hle)
 rw[wpOps_cons]
 unfold wpOp
 simp only[hS]
 have hw:Region.wanted oS (yielded ops a1.tmps)=true:=by simp [Region.wanted,ln.2]
 rw[if_pos hw]
 refine .inl ?_
 unfold Oper.wp
 generalize gY:(cur.toList.take (n.toNat*w.cells)++cs++cur.toList.drop (n.toNat*w.cells+cs.length)).toArray=new at bP
 have aW:(execOp a1.eval oS).run P X.w= .ok .skip (X.row g new).w:=by
  simp only[execOp,hoS,Sem.run_bind,Instr.storeAt,evd,Instr.sureAddr,Sem.run_pure,Result.andThen_ok,Zm,bP]
  rfl
 rw[aW,Oper.upon_skip,ln.1]
 exact hQ _ a1 (akQ hF hx hR.ow) (ahr eR hR.ow)
theorem ahd(hE:al P E){C:ah}(hC:C.Nat)(hf:∀f,cY P C f){X0:aw}(hF:∀g pl n,X0.ow g≠ .row pl n)(hx:Ext X0 X)(hr:Rel X s a){id:Nat}{ops:Array Oper}{s':State}(h:lD E (C State) ops.toList s some=some s'){Q:Exit->Act->World->Prop}(hQ:∀Y a',Ext X0 Y->Rel Y s' a'->Q .normal a' Y.w):(Code.region id ops false).wp P Q a X.w:=by
 unfold lD at h
 split at h
 case h_2=>cases h
 rename_i l oA oS hl
 obtain⟨s1,h1,h2⟩:=jP (Fp hC (F:=fun s=>jn E oA oS s some) (G:=some) (K:=fun s=>jn E oA oS s some) (fun _=>rfl) l s) h
 have gZ:=zvz hl
 have b6:ops.size=l.length+2:=by rw[<-Array.length_toList,gZ];simp
 refine wp_region ?_
 have kf:List.range ops.size=List.range l.length++ [l.length,l.length+1]:=by
  rw[b6,List.range_succ,List.range_succ,List.append_assoc];rfl
 rw[kf]
 have hA:ops[l.length]? =some oA:=by rw[<-Array.getElem?_toList,gZ,List.getElem?_append_right (Nat.le_refl _),Nat.sub_self];rfl
 have hS:ops[l.length+1]? =some oS:=by rw[<-Array.getElem?_toList,gZ,List.getElem?_append_right (by omega),Nat.add_sub_cancel_left];rfl
 have kN:(List.range l.length).map (fun i=>ops.getD i default)=l:=by
  apply List.ext_getElem?
  intro i
  rw[List.getElem?_map]
  by_cases hi:i<l.length
  ·have h3:ops[i]? =l[i]? :=by rw[<-Array.getElem?_toList,gZ,List.getElem?_append_left hi]
   have h4:i<ops.size:=by omega
   rw[List.getElem?_range hi,<-h3]
   simp [h4]
  ·rw[List.getElem?_eq_none (by simpa using hi),List.getElem?_eq_none (by omega)];rfl
 refine zre hE hC hf (List.range l.length) X s a hr (fun i hi=>by have:=List.mem_range.1 hi;omega) (by rw[kN];exact h1) fun Y a' aZ bu=> ?_
 exact akM hE hF (hx.trans aZ) bu hA hS h2 hQ
end Go.Ref

namespace Go.Ref
open Go
variable {P:Program} {E:Env} {X:aw} {s:State} {a:Act}
theorem abI{ops:Array Oper}{Q:Exit->Act->World->Prop}{i d:Nat}{rest:List Nat}{a:Act}{w w':World}{o:Oper}{v:Value}(hi:ops[i]? =some o)(hd:isDst o d=true)(aW:(execOp a.eval o).run P w= .ok (.value v) w')(K:wpOps P ops Q rest (a.put (some d) v) w'):wpOps P ops Q (i::rest) a w:=by
 have ln:o.dst=some d/\o.guard=none:=by
  unfold isDst at hd
  split at hd
  ·rename_i d' h1 h2
   exact⟨by rw[h1,Nat.eq_of_beq_eq_true hd],h2⟩
  ·cases hd
 rw[wpOps_cons]
 unfold wpOp
 simp only[hi]
 have hw:Region.wanted o (yielded ops a.tmps)=true:=by simp [Region.wanted,ln.2]
 rw[if_pos hw]
 refine .inl ?_
 unfold Oper.wp
 rw[aW,Oper.upon_value,ln.1]
 exact K
theorem ziq{α:Type}:∀{l r:List α} {x y z:α},Ti l=some (r,x,y,z)->l=r++ [x,y,z]
 | [],_,_,_,_,h=>by cases h
 | [_],_,_,_,_,h=>by cases h
 | [_,_],_,_,_,_,h=>by cases h
 | [a,b,c],_,_,_,_,h=>by cases h;rfl
 |a::b::c::d::r,_,_,_,_,h=>by
  simp only[Ti] at h
  split at h
  case h_2=>cases h
  rename_i l x y z hl
  cases h
  have:=ziq (l:=b::c::d::r) hl
  rw[this];rfl
theorem Rel.kill(hr:Rel X s a)(d:Nat):Rel X (s.au (some d) [.undef]) a:=by
 have ew:∀(i:Nat) (l:List SV),(s.au (some d) [.undef]).sl[i]? =some l->l=[.undef]\/s.sl[i]? =some l:=fun i l hi=>by
  simp only[State.au,List.getElem?_set] at hi
  split at hi
  ·split at hi
   ·cases hi;exact .inl rfl
   ·cases hi
  ·exact .inr hi
 refine⟨by simpa [State.au] using hr.size,by simpa [State.au] using hr.gL,fun i l v hi hv=> ?_,hr.boxes,fun i l id t p hi hm=> ?_,hr.defers,hr.bz.less (fun i l id c b j hi hm=> ?_) (fun id c b x own _ hb ho=>⟨x,own,hb,ho⟩)⟩
 ·rcases ew i l hi with rfl|hi
  ·trivial
  ·exact hr.bQ i l v hi hv
 ·rcases ew i l hi with rfl|hi
  ·simp at hm
  ·exact hr.live i l id t p hi hm
 ·rcases ew i l hi with rfl|hi
  ·simp at hm
  ·exact⟨l,hi,hm,fun h=>h⟩
theorem aan{P:Program}{fs:Array Field}(h:∀f∈fs.toList,∃i,P.info? f.type=some i):∃places,fs.toList.mapM (fun(f:Field)=>(P.info? f.type).map fun i=>(f.offset,i.size))=some places/\∀(j:Nat) (f:Field) i,fs.toList[j]? =some f->P.info? f.type=some i->places[j]? =some (f.offset,i.size):=by
 generalize fs.toList=l at h
 induction l with
 |nil=>exact⟨[],rfl,fun j f i hj=>by simp at hj⟩
 |cons f r ih=>
  obtain⟨i,hi⟩:=h f (by simp)
  obtain⟨places,h1,h2⟩:=ih fun f hf=>h f (List.mem_cons_of_mem _ hf)
  refine⟨(f.offset,i.size)::places,by simp [List.mapM_cons,hi,h1],fun j g k hj hg=> ?_⟩
  cases j with
  |zero=>
   simp only[List.getElem?_cons_zero,Option.some.injEq] at hj
   subst hj
   rw[hi] at hg
   cases hg
   rfl
  |succ j=>exact h2 j g k (by simpa using hj) hg
theorem agi(hE:al P E){T:TypeId}{ta tb:Ty}(hT:E.gr T=some (ta,tb)){y:El ta}{cs:List Value}(hr:bg X ta y cs)(w:World):(Instr.build T #[(0,dR ta cs)]).run P w= .ok (.agg (cs++ [Value.pointer none,Value.pointer none,Value.int .i64 0]).toArray) w:=by
 obtain⟨fs,f0,hu,ZJ,xA,KR,cR⟩:=hE.g3 T ta tb hT
 obtain⟨i,hi,hz⟩:=hE.gz T ta tb hT
 obtain⟨places,KG,Z6⟩:=aan (P:=P) (fs:=fs) cR
 obtain⟨i0,Cw,fe,_⟩:=(hE.ty _ _ KR).info
 have fP:places[0]? =some (f0.offset,i0.size):=Z6 0 f0 i0 (by rw[Array.getElem?_toList];exact ZJ) Cw
 have hmc:=vH hr
 have fq:=hr.len
 have K0:=va ta
 refine run_build w T _ _ ?_
 unfold Program.built
 simp only[hi,hu,hz,KG]
 have KZ:(Value.agg (zp ta++ [Value.pointer none,Value.pointer none,Value.int .i64 0]).toArray).cells=(zp ta++ [Value.pointer none,Value.pointer none,Value.int .i64 0]).toArray:=rfl
 simp only[KZ,Instr.fill,List.getElem?_toArray,fP,xA,fe,hmc]
 rw[if_neg (by simp;omega)]
 have lp:=zr0 0 cs (zp ta++ [Value.pointer none,Value.pointer none,Value.int .i64 0]).toArray (by simp;omega)
 congr 1
 apply Array.toList_inj.1
 rw[lp]
 simp only[List.take_zero,List.nil_append,Nat.zero_add]
 rw[fq,<-K0,List.drop_left]
theorem am8(hE:al P E){X0:aw}(hx:Ext X0 X)(hr:Rel X s a){ops:Array Oper}{k:Nat}{oB oX oA:Oper}(hB:ops[k]? =some oB)(hX:ops[k+1]? =some oX)(hA:ops[k+2]? =some oA){s':State}(h:rL E oB oX oA s some=some s'){Q:Exit->Act->World->Prop}(hQ:∀Y a',Ext X0 Y->Rel Y s' a'->Q .normal a' Y.w):wpOps P ops Q [k,k+1,k+2] a X.w:=by
 unfold rL at h
 split at h
 case h_2=>cases h
 rename_i T parts T' e1 e2 hoB hoX Z1
 split at h
 case h_2=>cases h
 rename_i d1 d2 d3 Co sm hd3
 cases fm:(Nat.beq T T'&&(Nat.beq d1 e1&&(Nat.beq d2 e2&&(isDst oB d1&&(isDst oX d2&&(isDst oA d3&&(Nat.ble (d1+1) s.sl.length&&Nat.ble (d2+1) s.sl.length))))))) with
 |false=>rw[fm] at h;cases h
 |true=>
 rw[fm,cond_true] at h
 simp only[Bool.and_eq_true] at fm
 obtain⟨Zz,xq,xr,hB1,hX1,hA1,CH,AP⟩:=fm
 have Zz:=Nat.eq_of_beq_eq_true Zz
 have xq:=Nat.eq_of_beq_eq_true xq
 have xr:=Nat.eq_of_beq_eq_true xr
 subst Zz xq xr
 split at h
 case h_2=>cases h
 rename_i x ta tb oG Ct
 obtain⟨y,h,hy⟩:=zz h
 split at h
 case h_2=>cases h
 rename_i jd
 cases h
 have oG:parts= #[(0,x)]:=by rw[<-Array.toArray_toList (xs:=parts),oG]
 subst oG
 obtain⟨cs,lF,Zl⟩:=hy X _ _ (hr.aG x)
 have aah:d1<a.tmps.size:=by rw[<-hr.size];exact Nat.le_of_ble_eq_true CH
 have aai:d2<a.tmps.size:=by rw[<-hr.size];exact Nat.le_of_ble_eq_true AP
 have KM:(execOp a.eval oB).run P X.w= .ok (.value (.agg (cs++ [Value.pointer none,Value.pointer none,Value.int .i64 0]).toArray)) X.w:=by
  have:=agi (X:=X) hE Ct lF X.w
  simp only[execOp,hoB,Sem.run_bind]
  have e:(#[((0:Nat),x)].map fun(i,x)=>(i,a.eval x))= #[(0,dR ta cs)]:=by simp [Zl]
  rw[e,this]
  rfl
 refine raw hB hB1 KM ?_
 have eR:Rel X (s.au (some d1) [.undef]) (a.put (some d1) (.agg (cs++ [Value.pointer none,Value.pointer none,Value.int .i64 0]).toArray)):=hr.put (fun _ _=>trivial) (fun id t p hm=>by simp at hm)
 have Si:(a.put (some d1) (.agg (cs++ [Value.pointer none,Value.pointer none,Value.int .i64 0]).toArray)).eval (.tmp d1)= .agg (cs++ [Value.pointer none,Value.pointer none,Value.int .i64 0]).toArray:=by
  show(a.put (some d1) _).tmps.getD d1 Go.undef=_
  rw[nR aah,if_pos rfl]
 have Sz:(a.put (some d1) (.agg (cs++ [Value.pointer none,Value.pointer none,Value.int .i64 0]).toArray)).tmps.size=a.tmps.size:=rW
 generalize a.put (some d1) (.agg (cs++ [Value.pointer none,Value.pointer none,Value.int .i64 0]).toArray)=a1 at eR Si Sz⊢
 let β:Nat->Option Nat:=fun id=>if id=d2+1 then some X.w.heap.size else X.β id
 have Kh:(s.au (some d1) [.undef]).bs[d2+1]? =some none:=jd
 have aq:d2+1<s.bs.length:=(List.getElem?_eq_some_iff.1 jd).1
 have hk:eP (s.au (some d1) [.undef]) X (X.new (cs++ [Value.pointer none,Value.pointer none,Value.int .i64 0]).toArray T (.box (d2+1)) β):=Qi X _ _ _ _ _ (by show(if _ then _ else _)=_;rw[if_neg (by omega)]) (fun id B hB=>by
  show(if id=d2+1 then _ else _)=_
  rw[if_neg (fun e=>by rw[e,Kh] at hB;cases hB)])
 obtain⟨n1,n2⟩:=Qa X (cs++ [Value.pointer none,Value.pointer none,Value.int .i64 0]).toArray T (.box (d2+1)) β
 have KO:(execOp a1.eval oX).run P X.w= .ok (.value (.pointer (some ⟨X.w.heap.size,0,none⟩))) (X.new (cs++ [Value.pointer none,Value.pointer none,Value.int .i64 0]).toArray T (.box (d2+1)) β).w:=by
  simp only[execOp,hoX,Sem.run_bind,Instr.box,Si,P1,Result.andThen_ok,Sem.run_pure]
  rfl
 refine abI hX hX1 KO ?_
 have bH:bD (X.new (cs++ [Value.pointer none,Value.pointer none,Value.int .i64 0]).toArray T (.box (d2+1)) β) (d2+1) X.w.heap.size ⟨.aJ .bN ta tb,(y,(none,none),(0:Int)),[]::kW⟩:=
  ⟨n2,⟨_,n1⟩,fun _=>⟨cs,.pointer none,.pointer none,T,n1,lF.ai (fun _ _=>hk.ay),rfl,rfl⟩⟩
 have hβd:β (d2+1)=some X.w.heap.size:=by show(if d2+1=d2+1 then _ else _)=_;rw[if_pos rfl]
 have fc:=((eR.dx hk).fw (d:=d2+1) aq Kh hβd bH).dead d2 (.pointer (some ⟨X.w.heap.size,0,none⟩))
 have ev2:(a1.put (some d2) (.pointer (some ⟨X.w.heap.size,0,none⟩))).eval (.tmp d2)= .pointer (some ⟨X.w.heap.size,0,none⟩):=by
  show(a1.put (some d2) _).tmps.getD d2 Go.undef=_
  rw[nR (show d2<a1.tmps.size by rw[Sz];exact aai),if_pos rfl]
 generalize a1.put (some d2) (.pointer (some ⟨X.w.heap.size,0,none⟩))=a2 at fc ev2⊢
 have uA:(execOp a2.eval oA).run P (X.new (cs++ [Value.pointer none,Value.pointer none,Value.int .i64 0]).toArray T (.box (d2+1)) β).w= .ok (.value (.pointer (some ⟨X.w.heap.size,0,none⟩))) (X.new (cs++ [Value.pointer none,Value.pointer none,Value.int .i64 0]).toArray T (.box (d2+1)) β).w:=by
  simp only[execOp,Z1,Sem.run_bind,ev2,Sem.run_pure,Result.andThen_ok]
 refine raw hA hA1 uA ?_
 refine hQ (X.new _ T (.box (d2+1)) β) _ (hx.trans hk.ext) (fc.put (fun d' e=> ?_) fun id t p hm=> ?_)
 ·exact⟨X.w.heap.size,hβd,rfl,trivial⟩
 ·have:id=d2+1:=by have:=hm;simp at this;exact this.1
  subst this
  exact⟨⟨.aJ .bN ta tb,(y,(none,none),(0:Int)),[]::kW⟩,by simp [State.aC,State.au,Ref.dead,List.getElem?_set,aq]⟩
theorem akz(hE:al P E){C:ah}(hC:C.Nat)(hf:∀f,cY P C f){X0:aw}(hx:Ext X0 X)(hr:Rel X s a){id:Nat}{ops:Array Oper}{s':State}(h:GM E (C State) ops.toList s some=some s'){Q:Exit->Act->World->Prop}(hQ:∀Y a',Ext X0 Y->Rel Y s' a'->Q .normal a' Y.w):(Code.region id ops false).wp P Q a X.w:=by
 unfold GM at h
 split at h
 case h_2=>cases h
 rename_i l oB oX oA hl
 obtain⟨s1,h1,h2⟩:=jP (Fp hC (F:=fun s=>rL E oB oX oA s some) (G:=some) (K:=fun s=>rL E oB oX oA s some) (fun _=>rfl) l s) h
 have gZ:=ziq hl
 have b6:ops.size=l.length+3:=by rw[<-Array.length_toList,gZ];simp
 refine wp_region ?_
 have kf:List.range ops.size=List.range l.length++ [l.length,l.length+1,l.length+2]:=by
  rw[b6,List.range_succ,List.range_succ,List.range_succ,List.append_assoc,List.append_assoc];rfl
 rw[kf]
 have cu:∀j,ops[l.length+j]? =[oB,oX,oA][j]? :=fun j=>by rw[<-Array.getElem?_toList,gZ,List.getElem?_append_right (by omega),Nat.add_sub_cancel_left]
 have kN:(List.range l.length).map (fun i=>ops.getD i default)=l:=by
  apply List.ext_getElem?
  intro i
  rw[List.getElem?_map]
  by_cases hi:i<l.length
  ·have h3:ops[i]? =l[i]? :=by rw[<-Array.getElem?_toList,gZ,List.getElem?_append_left hi]
   have h4:i<ops.size:=by omega
   rw[List.getElem?_range hi,<-h3]
   simp [h4]
  ·rw[List.getElem?_eq_none (by simpa using hi),List.getElem?_eq_none (by omega)];rfl
 refine zre hE hC hf (List.range l.length) X s a hr (fun i hi=>by have:=List.mem_range.1 hi;omega) (by rw[kN];exact h1) fun Y a' aZ bu=> ?_
 exact am8 hE (hx.trans aZ) bu (cu 0) (cu 1) (cu 2) h2 hQ
theorem Nd{Y:aw}{id:Nat}{pl:Nat->List Nat->Place}{l:List SV}{v:Value}(hr:cM Y pl l v):cM Y pl (l6 id l) v:=by
 have key:∀(sv:SV) (q:List Nat->Place) (w:Value),az Y q sv w->az Y q (match sv with
  | .ptr j _ _=>bif Nat.beq j id then .undef else sv
  |v=>v) w:=by
  intro sv q w h
  cases sv with
  |ptr j t p=>
   simp only
   cases Nat.beq j id with
   |true=>trivial
   |false=>exact h
  |_=>exact h
 match l,hr with
 | [sv],hr=>exact key sv _ _ hr
 | [],hr=>exact hr
 |x::y::r,⟨vs,h1,h2,h3⟩=>
  refine⟨vs,h1,by simpa [l6] using h2,fun j s u hs hu=> ?_⟩
  have hs:(l6 id (x::y::r))[j]? =some s:=hs
  unfold l6 at hs
  rw[List.getElem?_map] at hs
  obtain⟨s0,fe,rfl⟩:=Option.map_eq_some_iff.1 hs
  exact key s0 _ _ (h3 j s0 u fe hu)
theorem OG{id:Nat}{l:List SV}{j:Nat}{t:Ty}{p:List Nat}(h:SV.ptr j t p∈l6 id l):SV.ptr j t p∈l/\j≠id:=by
 unfold l6 at h
 obtain⟨s0,fe,he⟩:=List.mem_map.1 h
 cases s0 with
 |ptr j' t' p'=>
  simp only at he
  cases hb:Nat.beq j' id with
  |true=>rw[hb] at he;cases he
  |false=>
   rw[hb] at he
   cases he
   exact⟨fe,fun e=>Nat.ne_of_beq_eq_false hb e⟩
 |_=>simp only at he;cases he
theorem z117{id:Nat}{l:List SV}{i j:Nat}{a b:Ty}(h:SV.bz i a b j∈l6 id l):SV.bz i a b j∈l/\(l=[.bz i a b j]->l6 id l=[.bz i a b j]):=by
 refine⟨?_,fun e=>by rw[e];rfl⟩
 unfold l6 at h
 obtain⟨s0,fe,he⟩:=List.mem_map.1 h
 cases s0 with
 |ptr j' t' p'=>
  simp only at he
  cases hb:Nat.beq j' id<;>rw[hb] at he<;>cases he
 |_=>simp only at he;first|(cases he;done)|(rw[<-he];exact fe)
def yp(id m j g:Nat)(X:aw)(q:Nat):Ow:=
 if q=g then .row (.b id [j]) 0 else match X.ow q with
  | .row (.b m' p) n=>if m'=m then .row (.b id (j::p)) n else .row (.b m' p) n
  |w=>w
theorem acU{id m j g q i:Nat}(hg:∃b,X.ow g= .box b):(yp id m j g X q).used i↔(X.ow q).used i:=by
 unfold yp
 split
 ·rename_i e
  obtain⟨b,hb⟩:=hg
  rw[e,hb]
  simp [Ow.used]
 ·cases hq:X.ow q with
  |row pl n=>
   cases pl with
   |b m' p=>simp only;split<;>rfl
   |_=>rfl
  |_=>rfl
theorem acT{id m j g q:Nat}(bJ:q≠g)(h:∀p n,X.ow q≠ .row (.b m p) n):yp id m j g X q=X.ow q:=by
 unfold yp
 rw[if_neg bJ]
 cases hq:X.ow q with
 |row pl n=>
  cases pl with
  |b m' p=>
   simp only
   rw[if_neg (fun e=>h p n (by rw[hq,e]))]
  |_=>rfl
 |_=>rfl
theorem ad9{T:TypeId}(hE:al P E)(lq:E.pt T=true){r off:Nat}{cur:Array Value}{T':TypeId}{w:World}{v:Value}(hv:v.cells= #[v])(ho:v.oneCell'=true)(hg:w.heap[r]? =some (.cells cur T' (0,0)))(hf:off+1<=cur.size):
 (storeVar T ⟨r,off,none⟩ v).run P w= .ok () (w.setRow r (cur.toList.take off++ [v]++cur.toList.drop (off+1)).toArray):=by
 obtain⟨i,hi,hs⟩:=hE.p1 T lq
 have bP:=run_storeCells_at P r off T' [v] 0 cur w hg (by simpa using hf) (fun u hu=>by
  have:u=v:=by simpa using hu
  rw[this];exact ho)
 simp only[Nat.add_zero] at bP
 have gk:(sizeOf T).run P w= .ok 1 w:=by simp [sizeOf,typeInfo,hi,hs]
 unfold storeVar
 simp only[Sem.run_bind,gk,Result.andThen_ok,hv]
 rw[if_neg (by simp)]
 exact bP
theorem akU{c:List Value}{p0 p1 n v:Value}{k j:Nat}(hk:c.length=k)(hj:j<2):(c++ [p0,p1,n]).take (k+j)++ [v]++(c++ [p0,p1,n]).drop (k+j+1)=c++ [if j=0 then v else p0,if j=1 then v else p1,n]:=by
 subst hk
 match j,hj with
 |0,_=>simp
 |1,_=>
  rw[List.take_append,List.drop_append]
  simp [List.take_of_length_le]
  rw[List.drop_eq_nil_of_le (by omega),show c.length+1+1-c.length=2 by omega]
  rfl
theorem aku(hE:al P E)(hr:Rel X s a){oS:Oper}{s':State}(h:km E oS s some=some s'):(oS.dst=none/\oS.guard=none)/\(∀i,s.slot i=[.undef]->s'.slot i=[.undef])/\∃Z,(execOp a.eval oS).run P X.w= .ok .skip Z.w/\Ext X Z/\Rel Z s' a:=by
 unfold km at h
 split at h
 case h_2=>cases h
 rename_i T tx ty ho
 cases nI:lB oS with
 |false=>rw[nI] at h;cases h
 |true=>
 rw[nI,cond_true] at h
 have ln:oS.dst=none/\oS.guard=none:=by
  unfold lB at nI
  split at nI
  ·exact⟨by assumption,by assumption⟩
  ·cases nI
 refine⟨ln,?_⟩
 split at h
 case isFalse=>cases h
 rename_i lq
 split at h
 case h_2=>cases h
 rename_i id ta tb j KQ
 have hx:=hr.slot tx
 rw[KQ] at hx
 obtain⟨rr,hβ,hv,hj⟩:az X (.c tx 0) (.ptr id (.aJ .bN ta tb) [1,j]) (a.tmps.getD tx Go.undef):=hx
 have hv:a.tmps.getD tx Go.undef= .pointer (some ⟨rr,ta.cells+j,none⟩):=hv
 have hj:j<2:=hj
 have Zl:a.eval (.tmp tx)= .pointer (some ⟨rr,ta.cells+j,none⟩):=hv
 obtain⟨z,own,r1,hb,h,bS,h1,how,c,p0,p1,T',aE,aL,sr,qw⟩:=FR hr h
 rw[hβ] at h1
 cases h1
 cases gX:gK own [] with
 |false=>rw[gX] at h;cases h
 |true=>
 rw[gX,cond_true] at h
 have gX:=Bl gX
 have fq:=aL.len
 have di:ta.cells+j+1<=(c++ [p0,p1,Value.int .i64 z.2.2]).toArray.size:=by simp;omega
 have aW:∀v,v.cells= #[v]->v.oneCell'=true->a.eval (.tmp ty)=v->(execOp a.eval oS).run P X.w= .ok .skip (X.row rr (c++ [if j=0 then v else p0,if j=1 then v else p1,Value.int .i64 z.2.2]).toArray).w:=fun v h1 h2 h3=>by
  have bP:=ad9 (P:=P) hE lq h1 h2 aE di
  rw[akU fq hj] at bP
  simp only[execOp,ho,Sem.run_bind,Instr.storeAt,Zl,Instr.sureAddr,Sem.run_pure,Result.andThen_ok,h3,bP]
  rfl
 split at h
 case h_3=>cases h
 case h_2=>
  rename_i GK
  cases h
  have hy:=hr.slot ty
  rw[GK] at hy
  have hy:a.tmps.getD ty Go.undef= .pointer none:=hy
  have aW:=aW (.pointer none) rfl rfl hy
  generalize gY:(c++ [if j=0 then Value.pointer none else p0,if j=1 then Value.pointer none else p1,Value.int .i64 z.2.2]).toArray=new at aW
  refine⟨fun i hi=>hi,X.row rr new,aW,FW how,hr.row hb hβ how ⟨how,⟨_,setRow_heap X.w rr _ _ T' (0,0) aE⟩,fun _=> ?_⟩ (.inr gX)⟩
  have hg:∀k,∀{m:Option (El tb)} {v:Value},dA X (fun p=> .b id (k::p)) tb m v->dA (X.row rr new) (fun p=> .b id (k::p)) tb m v:=fun k m v hm=>hm.move (fun _ _=>mE how) fun p _ q o n hq hw=>by
   have bJ:q≠rr:=fun e=>by rw[e,how] at hw;cases hw
   exact⟨(setRow_other X.w rr q _ bJ).trans hq,hw⟩
  refine⟨c,if j=0 then Value.pointer none else p0,if j=1 then Value.pointer none else p1,T',?_,aL.ai (fun _ _=>mE how),?_,?_⟩
  ·rw[gY];exact setRow_heap X.w rr _ _ T' (0,0) aE
  ·match j,hj with
   |0,_=>rfl
   |1,_=>exact hg 0 sr
  ·match j,hj with
   |0,_=>exact hg 1 qw
   |1,_=>rfl
 rename_i m tb' GK
 split at h
 case h_2=>cases h
 rename_i B hB
 split at h
 case isFalse=>cases h
 rename_i dn
 cases fm:(tb'.cp tb&&(!tb.bG&&(gK B.own [2]&& !(Nat.beq id m)))) with
 |false=>rw[fm] at h;cases h
 |true=>
 rw[fm,cond_true] at h
 cases h
 simp only[Bool.and_eq_true,Bool.not_eq_true'] at fm
 obtain⟨ht,eh,Kz,GD⟩:=fm
 have:=Ty.aI ht
 subst this
 have GD:id≠m:=fun e=>by rw[e] at GD;simp at GD
 have hbm:=qJ hB
 obtain⟨g,hβm,ua⟩:=hr.boxes m B hbm
 obtain⟨bt,bx,bo⟩:=B
 have e:=Ty.aI dn
 simp only at e
 subst e
 obtain⟨csg,Tg,ZK,hrg,mA,hwg⟩:=ua.cells eh
 have hy:=hr.slot ty
 rw[GK] at hy
 obtain⟨g',hβ',hvy⟩:az X (.c ty 0) (.ptr m bt []) (a.tmps.getD ty Go.undef):=hy
 rw[hβm] at hβ'
 cases hβ'
 have hvy:a.tmps.getD ty Go.undef= .pointer (some ⟨g,0,none⟩):=by
  have:=((qH eh).1 hvy).1
  rw[this];simp [Ty.off]
 have Ct:g≠rr:=fun e=>by rw[e,how] at mA;injection mA with mA;exact GD mA
 generalize gY:(c++ [if j=0 then Value.pointer (some ⟨g,0,none⟩) else p0,if j=1 then Value.pointer (some ⟨g,0,none⟩) else p1,Value.int .i64 z.2.2]).toArray=new at*
 have aW:=aW (.pointer (some ⟨g,0,none⟩)) rfl rfl hvy
 rw[gY] at aW
 let Z:aw:=⟨(X.row rr new).w,yp id m j g X,X.β⟩
 have dj:∀q,q≠rr->Z.w.heap[q]? =X.w.heap[q]? :=fun q hq=>setRow_other X.w rr q _ hq
 have er:∀ad v,X.ay ad v->Z.ay ad v:=fun ad v hs=>by
  have bJ:ad.block≠rr:=fun e=>by
   have:=hs.2.2
   rw[e,how] at this
   exact this
  refine⟨hs.1,?_,(acU ⟨m,mA⟩).2 hs.2.2⟩
  have:=hs.2.1
  simp only[World.cell?] at this⊢
  rw[dj _ bJ];exact this
 have jg:∀q,q≠g->(∀p n,X.ow q≠ .row (.b m p) n)->Z.ow q=X.ow q:=fun q h1 h2=>acT h1 h2
 have bH:∀q b,b≠m->X.ow q= .box b->Z.ow q= .box b:=fun q b hb hq=>by
  rw[jg q (fun e=>by rw[e,mA] at hq;injection hq with hq;exact hb hq.symm) (fun p n e=>by rw[hq] at e;cases e)]
  exact hq
 have CG:∀q pl n,X.ow q= .row pl n->(∀p,pl≠ .b m p)->Z.ow q= .row pl n:=fun q pl n hq hp=>by
  rw[jg q (fun e=>by rw[e,mA] at hq;cases hq) (fun p n' e=>by rw[hq] at e;injection e with e _;exact hp p e)]
  exact hq
 have Kd:∀{pl:Place} {e:TypeId} {k n:Nat} {v:Value},(∀p,pl≠ .b m p)->bp X pl e k n v->bp Z pl e k n v:=fun hp ho=>by
  rcases ho with ho|⟨q,cap,cur,k1,k2,k3,k4,k5,k6⟩
  ·exact .inl ho
  ·exact .inr ⟨q,cap,cur,k1,(dj q (fun e=>by rw[e,how] at k6;cases k6)).trans k2,k3,k4,k5,CG q _ _ k6 hp⟩
 have AJ:∀k,∀{x:Option (El bt)} {v:Value},dA X (fun p=> .b id (k::p)) bt x v->dA Z (fun p=> .b id (k::p)) bt x v:=fun k x v hm=>hm.move er fun p _ q o n hq hw=>⟨(dj q (fun e=>by rw[e,how] at hw;cases hw)).trans hq,CG q _ _ hw (fun p' e=>by injection e with e _;exact GD e)⟩
 have cE:dA Z (fun p=> .b id (j::p)) bt (some bx) (.pointer (some ⟨g,0,none⟩)):=by
  refine⟨g,csg,Tg,rfl,(dj g Ct).trans ZK,by show yp id m j g X g=_;simp [yp],hrg.ai er,fun p hp=> ?_⟩
  have:p=[2]:=by simpa [BL] using hp
  subst this
  obtain⟨e,t',xs,v,g0,g1,g2,g3⟩:=hwg [2] (Bl Kz)
  refine⟨e,t',xs,v,g0,g1,g2,?_⟩
  rcases g3 with g3|⟨q,cap,cur,k1,k2,k3,k4,k5,k6⟩
  ·exact .inl g3
  ·refine .inr ⟨q,cap,cur,k1,(dj q (fun e=>by rw[e,how] at k6;cases k6)).trans k2,k3,k4,k5,?_⟩
   show yp id m j g X q=_
   unfold yp
   rw[if_neg (fun e=>by rw[e,mA] at k6;cases k6),k6]
   simp
 have Cu:ia Z rr (.b id) ta bt (z.1,fN j (some bx) z.2.1,z.2.2):=by
  refine⟨c,if j=0 then Value.pointer (some ⟨g,0,none⟩) else p0,if j=1 then Value.pointer (some ⟨g,0,none⟩) else p1,T',?_,aL.ai er,?_,?_⟩
  ·rw[gY];exact setRow_heap X.w rr _ _ T' (0,0) aE
  ·match j,hj,cE with
   |0,_,cE=>exact cE
   |1,_,_=>exact AJ 0 sr
  ·match j,hj,cE with
   |0,_,_=>exact AJ 1 qw
   |1,_,cE=>exact cE
 have KD:=hr.oM hb (.inr gX)
 have KE:=hr.oM hbm (.inl (Rp eh))
 have aZ:Ext X Z:=⟨er,by show X.w.heap.size<=(X.row rr new).w.heap.size;simp [aw.row],rfl,rfl,rfl,rfl,fun q hq bP=>⟨jg q (fun e=>by rw[e,mA] at bP;exact bP) (fun p n e=>by rw[e] at bP;exact bP),dj q (fun e=>by rw[e,how] at bP;exact bP)⟩⟩
 have Kq:id<s.bs.length:=(List.getElem?_eq_some_iff.1 hb).1
 refine⟨fun i hi=> ?_,Z,aW,aZ,by simpa [nj] using hr.size,by simpa [nj] using hr.gL,fun i l v hl hx=> ?_,fun bc B' eD=> ?_,fun i l bc t p hl hm=> ?_,hr.defers,hr.bz.less (fun i l rI c2 d2 k hl hm=> ?_) (fun rI c2 d2 x2 kv hex kc Z0=> ?_)⟩
 ·by_cases aq:i<s.sl.length
  ·have:=qL aq
   rw[hi] at this
   simp [nj,State.slot,this,l6]
  ·simp [nj,State.slot,List.getElem?_eq_none (Nat.le_of_not_lt aq)]
 ·replace hl:(s.sl.map (l6 m))[i]? =some l:=hl
  rw[List.getElem?_map] at hl
  obtain⟨l0,h0,rfl⟩:=Option.map_eq_some_iff.1 hl
  refine Nd ((hr.bQ i l0 v h0 hx).iS fun k sv u hk hu=> ?_)
  cases sv with
  |undef=>trivial
  |skip=>exact hu
  |cF=>exact hu
  |dT=>exact hu
  |over=>exact hu
  |aj t x own=>
   obtain⟨cs,q1,q2,q3⟩:=hu
   refine⟨cs,q1.ai er,q2,fun p hp=> ?_⟩
   obtain⟨e,t',xs,v,g0,g1,g2,g3⟩:=q3 p hp
   exact⟨e,t',xs,v,g0,g1,g2,Kd (fun p' e=>by cases e) g3⟩
  |ptr bc t p=>exact hu
  |view t x=>
   obtain⟨ad,cs,q1,q2,q3,q4⟩:=hu
   exact⟨ad,cs,q1,q2,q3.ai er,fun i u hi=>er _ _ (q4 i u hi)⟩
  |cap f t x u y=>exact rV er hu
  |bz bc c' d' n=>
   obtain⟨r',q1,q2,q3⟩:=hu
   have bJ:bc≠id:=fun e=>KD i l0 c' d' n h0 (e▸List.mem_of_getElem? hk)
   have hnm:bc≠m:=fun e=>KE i l0 c' d' n h0 (e▸List.mem_of_getElem? hk)
   refine⟨r',q1,bH r' bc hnm q2,?_⟩
   simp only[World.cell?] at q3⊢
   rw[dj r' (fun e=>by rw[e,how] at q2;injection q2 with q2;exact bJ q2.symm)]
   exact q3
 ·replace eD:((s.bs.set m none).set id (some ⟨.aJ .bN ta bt,(z.1,fN j (some bx) z.2.1,z.2.2),own⟩))[bc]? =some (some B'):=eD
  rw[List.getElem?_set] at eD
  by_cases e1:id=bc
  ·subst e1
   rw[if_pos rfl,if_pos (by simpa using Kq)] at eD
   cases eD
   exact⟨rr,hβ,bH rr id GD how,⟨_,setRow_heap X.w rr _ _ T' (0,0) aE⟩,fun _=>Cu⟩
  ·rw[if_neg e1,List.getElem?_set] at eD
   by_cases e2:m=bc
   ·rw[if_pos e2] at eD
    split at eD<;>cases eD
   ·rw[if_neg e2] at eD
    obtain⟨r',q1,q2,q3⟩:=hr.boxes bc B' eD
    have bJ:r'≠rr:=fun e=>by rw[e,how] at q2;injection q2 with q2;exact e1 q2
    exact⟨r',q1,bH r' bc (fun e=>e2 e.symm) q2,q3.move er (dj r' bJ) (fun cs ho p hp=>by
     obtain⟨e,t',xs,v,g0,g1,g2,g3⟩:=ho p hp
     exact⟨e,t',xs,v,g0,g1,g2,Kd (fun p' e=>by injection e with e _;exact e2 e.symm) g3⟩) fun p _ q o n hq hw=>⟨(dj q (fun e=>by rw[e,how] at hw;cases hw)).trans hq,CG q _ _ hw (fun p' e=>by injection e with e _;exact e2 e.symm)⟩⟩
 ·replace hl:(s.sl.map (l6 m))[i]? =some l:=hl
  rw[List.getElem?_map] at hl
  obtain⟨l0,h0,rfl⟩:=Option.map_eq_some_iff.1 hl
  obtain⟨hm,bJ⟩:=OG hm
  obtain⟨B2,cW⟩:=hr.live i l0 bc t p h0 hm
  show∃B,((s.bs.set m none).set id (some ⟨.aJ .bN ta bt,(z.1,fN j (some bx) z.2.1,z.2.2),own⟩))[bc]? =some (some B)
  rw[List.getElem?_set]
  by_cases e1:id=bc
  ·rw[if_pos e1,if_pos (by simpa using Kq)];exact⟨_,rfl⟩
  ·rw[if_neg e1,List.getElem?_set,if_neg (fun e=>bJ e.symm)];exact⟨B2,cW⟩
 ·replace hl:(s.sl.map (l6 m))[i]? =some l:=hl
  rw[List.getElem?_map] at hl
  obtain⟨l0,h0,rfl⟩:=Option.map_eq_some_iff.1 hl
  obtain⟨g1,g2⟩:=z117 hm
  exact⟨l0,h0,g1,g2⟩
 ·obtain⟨i,l,k,hl,hm⟩:=hex
  replace hl:(s.sl.map (l6 m))[i]? =some l:=hl
  rw[List.getElem?_map] at hl
  obtain⟨l0,h0,rfl⟩:=Option.map_eq_some_iff.1 hl
  obtain⟨g1,_⟩:=z117 hm
  refine⟨x2,kv,?_,Z0⟩
  show((s.bs.set m none).set id (some ⟨.aJ .bN ta bt,(z.1,fN j (some bx) z.2.1,z.2.2),own⟩))[rI]? =_
  rw[List.getElem?_set,if_neg (show¬id=rI from fun e=>KD i l0 c2 d2 k h0 (by rw[e];exact g1)),List.getElem?_set,if_neg (show¬m=rI from fun e=>KE i l0 c2 d2 k h0 (by rw[e];exact g1))]
  exact kc
theorem zvy{α:Type}:∀{l r:List α} {x:α},Wz l=some (r,x)->l=r++ [x]
 | [],_,_,h=>by cases h
 | [a],_,_,h=>by cases h;rfl
 |a::b::r,_,_,h=>by
  simp only[Wz] at h
  split at h
  case h_2=>cases h
  rename_i l x hl
  cases h
  have:=zvy (l:=b::r) hl
  rw[this];rfl
theorem MH{n:Nat}{listed:Array Bool}(hs:n<=listed.size){i:Nat}{p q:List Nat}(h:rest n listed=p++i::q):rest n (listed.setIfInBounds i true)=p++q:=by
 have nI:(rest n listed).Nodup:=List.nodup_range.filter _
 rw[h] at nI
 rw[<-zve nI,<-h]
 simp only[rest,List.filter_filter]
 refine List.filter_congr fun j hj=> ?_
 have ZP:=List.mem_range.1 hj
 by_cases e:j=i
 ·subst e
  have:(listed.setIfInBounds j true).getD j true=true:=by
   have:j<listed.size:=by omega
   simp [Array.getD_eq_getD_getElem?,this]
  rw[this];simp
 ·have h1:(listed.setIfInBounds i true).getD j true=listed.getD j true:=by
   simp only[Array.getD_eq_getD_getElem?]
   rw[Array.getElem?_setIfInBounds_ne (fun h=>e h.symm)]
  have h2:Nat.beq j i=false:=by
   cases hh:Nat.beq j i with
   |false=>rfl
   |true=>exact absurd (Nat.eq_of_beq_eq_true hh) e
  rw[h1,h2];simp
theorem adY{n:Nat}{listed:Array Bool}{i:Nat}(h:n<=i):rest n (listed.setIfInBounds i true)=rest n listed:=by
 simp only[rest]
 refine List.filter_congr fun j hj=> ?_
 have ZP:=List.mem_range.1 hj
 simp only[Array.getD_eq_getD_getElem?]
 rw[Array.getElem?_setIfInBounds_ne (by omega)]
theorem MI{n:Nat}{listed:Array Bool}(hs:listed.size=n+1):rest (n+1) listed=rest n listed++(if listed.getD n true=true then [] else [n]):=by
 simp only[rest,List.range_succ,List.filter_append]
 congr 1
 cases h:listed.getD n true with
 |false=>
  rw[if_neg (by simp)]
  simp only[List.filter_cons,h,Bool.not_false,if_true,List.filter_nil]
 |true=>
  rw[if_pos rfl]
  simp only[List.filter_cons,h,Bool.not_true,Bool.false_eq_true,if_false,List.filter_nil]
theorem zw4{ops:Array Oper}(l8:∀k,k<ops.size->Nat.ble (vn ops k+1) (bit k)=true){listed:Array Bool}(hs:listed.size=ops.size)(hr:Region.ready .any ops listed=[]):rest ops.size listed=[]:=by
 rcases hl:rest ops.size listed with _|⟨i,r⟩
 ·rfl
 have cE:i∈rest ops.size listed:=by rw[hl];simp
 have dp:=List.mem_range.1 (List.mem_filter.1 cE).1
 have kg:i∈Region.ready .any ops listed:=by
  refine NO cE fun e he hb=> ?_
  have aq:e.on<i:=LH (l8 i dp) (zho _ e he hb)
  cases hx:listed.getD e.on false with
  |true=>rfl
  |false=>
   exfalso
   have gi:e.on<listed.size:=by omega
   have AV:listed.getD e.on true=false:=by
    simp only[Array.getD_eq_getD_getElem?,Array.getElem?_eq_getElem gi,Option.getD_some] at hx⊢
    exact hx
   have hm:e.on∈rest ops.size listed:=List.mem_filter.2 ⟨List.mem_range.2 (by omega),by rw[AV];rfl⟩
   have iy:(rest ops.size listed).Pairwise (· < ·):=List.pairwise_lt_range.filter _
   rw[hl] at iy hm
   rcases List.mem_cons.1 hm with e1|hm
   ·omega
   ·have:=(List.pairwise_cons.1 iy).1 _ hm
    omega
 rw[hr] at kg
 cases kg
theorem acM{o:Oper}{t j:Nat}(ho:o.op= .extract (.tmp t) j){vs:Array Value}(hv:a.tmps.getD t Go.undef= .tuple vs){v:Value}(hj:vs[j]? =some v)(w:World):(execOp a.eval o).run P w= .ok (.value v) w:=by
 have ev:a.eval (.tmp t)= .tuple vs:=hv
 simp [execOp,ho,ev,Instr.extract,hj]
structure HP(E:Env)(C:ah)(ops:Array Oper)(n k t j d:Nat)(oS oD:Oper)(s1 s':State):Prop where
 size:ops.size=n+1
 last:ops[n]? =some oS
 J8:ops[k]? =some oD
 kn:k<n
 ext:oD.op= .extract (.tmp t) j
 dst:isDst oD d=true
 aam:Nat.ble (zy oS.after.toList+1) (bit n)=true
 mask:jo ops.toList n (zy oS.after.toList)|||bit k=bit n-1
 low:∀i,i<n->Nat.ble (vn ops i+1) (bit i)=true
 len:j<(s1.slot t).length
 tup:(s1.slot t).length≠1
 link:km E oS (s1.au (some d) [.undef]) some=some s'
theorem ahj{m n k i:Nat}(h:m|||bit k=bit n-1)(hi:i<n)(hk:i≠k):m.testBit i=true:=by
 have h1:(m|||bit k).testBit i=true:=by
  rw[h]
  simp only[bit,Nat.shiftLeft_eq,Nat.one_mul]
  rw[Nat.testBit_two_pow_sub_one]
  simpa using hi
 rw[Nat.testBit_or] at h1
 have h2:(bit k).testBit i=false:=by
  simp only[bit,Nat.shiftLeft_eq,Nat.one_mul]
  rw[Nat.testBit_two_pow]
  simp
  omega
 rw[h2,Bool.or_false] at h1
 exact h1
theorem ad5(c:List (Nat×Nat)):∀(s:State) (t:Nat),((s.close c).slot t).length=(s.slot t).length:=by
 induction c with
 |nil=>intro s t;rfl
 |cons x r ih=>
  intro s t
  obtain⟨i,j⟩:=x
  rw[Fe,ih]
  simp only[State.cg,State.slot,List.getD_eq_getElem?_getD,List.getElem?_set]
  by_cases e:i=t
  ·subst e
   by_cases aq:i<s.sl.length
   ·rw[if_pos rfl,if_pos aq,List.getElem?_eq_getElem aq]
    simp [z7y]
   ·rw[if_pos rfl,if_neg aq,List.getElem?_eq_none (by omega)]
  ·rw[if_neg e]
theorem agu{s:State}{d:Nat}(h:s.slot d=[.undef]):s.au (some d) [.undef]=s:=by
 simp only[State.au]
 have:s.sl.set d [.undef]=s.sl:=by
  apply List.ext_getElem?
  intro i
  rw[List.getElem?_set]
  by_cases e:d=i
  ·subst e
   by_cases aq:d<s.sl.length
   ·rw[if_pos rfl,if_pos aq,qL aq,h]
   ·rw[if_pos rfl,if_neg aq,List.getElem?_eq_none (by omega)]
  ·rw[if_neg e]
 rw[this]
theorem ad6(s:State)(d:Nat):(s.au (some d) [.undef]).slot d=[.undef]:=by
 simp only[State.slot,State.au,List.getD_eq_getElem?_getD,List.getElem?_set]
 by_cases aq:d<s.sl.length
 ·simp [aq]
 ·simp [aq]
theorem acL{C:ah}{ops:List Oper}{o:Oper}{t j:Nat}(ho:o.op= .extract (.tmp t) j){u:Out}(h:act E (C Out) ops o s some=some u):u.bx=none/\u.v.length=1:=by
 unfold act at h
 simp only[ho] at h
 split at h
 ·split at h
  ·cases h;exact⟨rfl,rfl⟩
  ·cases h
 ·split at h<;>cases h<;>exact⟨rfl,rfl⟩
theorem am7(hE:al P E){C:ah}(hC:C.Nat)(hf:∀f,cY P C f){ops:Array Oper}{n k t j d:Nat}{oS oD:Oper}{s1 s':State}(H:HP E C ops n k t j d oS oD s1 s'){Q:Exit->Act->World->Prop}:
 ∀(cq:Nat) (listed:Array Bool) (X:aw) (s:State) (a:Act) (tr:List dW),Rel X s a->tN ops listed->listed.size=n+1->listed.getD n true=false->cq=(rest n listed).length+1->od E C ops (rest n listed) s tr s1->tr.Pairwise (vT ops)->
  (∀Y a',Ext X Y->Rel Y s' a'->Q .normal a' Y.w)->wpAny P .any ops Q cq listed a X.w:=by
 have hgS:ops.getD n default=oS:=by
  have:=H.last
  simp only[Array.getD_eq_getD_getElem?,this,Option.getD_some]
 have hgD:ops.getD k default=oD:=by
  have:=H.J8
  simp only[Array.getD_eq_getD_getElem?,this,Option.getD_some]
 have l8:∀i,i<ops.size->Nat.ble (vn ops i+1) (bit i)=true:=fun i hi=>by
  rcases Nat.lt_or_ge i n with h|h
  ·exact H.low i h
  ·have:i=n:=by have:=H.size;omega
   subst this
   unfold vn
   rw[hgS]
   exact H.aam
 intro cq
 induction cq with
 |zero=>intro listed X s a tr hr fq hs hn nH;omega
 |succ cq ih=>
  intro listed X s a tr hr fq hs hn nH dP vz hQ
  have hrs:rest ops.size listed=rest n listed++ [n]:=by rw[H.size,MI hs,if_neg (by rw[hn];simp)]
  refine⟨fun iw=> ?_,fun i hi=> ?_⟩
  ·have:=zw4 l8 (by rw[hs,H.size]) iw
   rw[hrs] at this
   simp at this
  ·obtain⟨Ky,rG⟩:=G4 hi
   have cE:=Ky
   rw[hrs] at cE
   rcases List.mem_append.1 cE with cE|cE
   ·obtain⟨p,q,xB⟩:=NR cE
    have dp:=List.mem_range.1 (List.mem_filter.1 cE).1
    rw[xB] at dP
    have mc:=E4 dP
    obtain⟨tp,f,tq,u,e1,e2,k1,k2,k3⟩:=zrh p s tr dP (fun tp f tq e hl a' Ax=>by
     have ue:f.i=i:=by
      rw[e,List.map_append,List.map_cons] at mc
      have:=List.append_inj mc (by simp [hl])
      injection this.2
     have ZB:a'.i∈p:=by
      rw[e,List.map_append,List.map_cons] at mc
      have:=List.append_inj mc (by simp [hl])
      rw[<-this.1]
      exact List.mem_map.2 ⟨a',Ax,rfl⟩
     rw[e] at vz
     have uh:=(List.pairwise_append.1 vz).2.2 a' Ax f (by simp)
     rcases uh with hb|hb
     ·exfalso
      rw[ue] at hb
      obtain fE:=SR fq _ _ (fun q hq=>by
       obtain⟨ed,xq,xr,Km⟩:=Fc _ _ hq
       have:=rG ed xq xr
       rw[Km] at this
       exact this) a'.i hb
      have bF:a'.i∈rest n listed:=by rw[xB];exact List.mem_append_left _ ZB
      have dV:=(List.mem_filter.1 bF).2
      have aq:=List.mem_range.1 (List.mem_filter.1 bF).1
      have gi:a'.i<listed.size:=by omega
      simp only[Array.getD_eq_getD_getElem?,Array.getElem?_eq_getElem gi,Option.getD_some] at fE dV
      rw[fE] at dV
      cases dV
     ·exact hb)
    have bF:=MH (n:=n) (by omega) xB
    have ZO:ops[i]? =some (ops.getD i default):=by
     have:i<ops.size:=by rw[H.size];omega
     simp [this]
    refine WH hE hr hC hf ZO (zpb hC k1) fun Y a' aZ bu=> ?_
    refine ih (listed.setIfInBounds i true) Y _ a' (tp++tq) bu (NQ fq fun q hq=>by
     obtain⟨ed,g1,g2,g3⟩:=Fc _ _ hq
     have:=rG ed g1 g2
     rw[g3] at this
     exact this) (by simp [hs]) ?_ ?_ (by rw[bF];exact k3) ?_ (fun Z a2 cf dc=>hQ Z a2 (aZ.trans cf) dc)
    ·simp only[Array.getD_eq_getD_getElem?] at hn⊢
     rw[Array.getElem?_setIfInBounds_ne (by omega)]
     exact hn
    ·rw[bF]
     rw[xB] at nH
     simp only[List.length_append,List.length_cons] at nH⊢
     omega
    ·rw[e1] at vz
     obtain⟨a1,a2,a3⟩:=List.pairwise_append.1 vz
     exact List.pairwise_append.2 ⟨a1,(List.pairwise_cons.1 a2).2,fun x hx y hy=>a3 x hx y (List.mem_cons_of_mem _ hy)⟩
   ·have dp:i=n:=by simpa using cE
    subst dp
    have cR:∀q∈rest i listed,q=k:=fun q hq=>by
     obtain⟨h1,h2⟩:=List.mem_filter.1 hq
     have hqn:=List.mem_range.1 h1
     by_cases e:q=k
     ·exact e
     ·exfalso
      have fE:=SR fq _ _ (fun q hq=>by
       obtain⟨ed,xq,xr,Km⟩:=Fc _ _ hq
       have:=rG ed (by rw[hgS];exact xq) xr
       rw[Km] at this
       exact this) q (ahj H.mask hqn e)
      have gi:q<listed.size:=by omega
      simp only[Array.getD_eq_getD_getElem?,Array.getElem?_eq_getElem gi,Option.getD_some] at fE h2
      rw[fE] at h2
      cases h2
    have nI:(rest i listed).Nodup:=List.nodup_range.filter _
    have bF:rest i listed=[]\/rest i listed=[k]:=by
     match hl:rest i listed,cR,nI with
     | [],_,_=>exact .inl rfl
     | [q],cR,_=>exact .inr (by rw[cR q (by simp)])
     |q::q'::r,cR,nI=>
      have h1:=cR q (by simp)
      have h2:=cR q' (by simp)
      have:=(List.nodup_cons.1 nI).1
      rw[h1,h2] at this
      simp at this
    have KH:Rel X (s1.au (some d) [.undef]) a/\(rest i listed=[k]->d≠t/\(s1.slot t).length=(s.slot t).length):=by
     rcases bF with bF|bF
     ·rw[bF] at dP
      obtain⟨rfl,_⟩:=dP
      exact⟨hr.kill d,fun e=>by rw[bF] at e;cases e⟩
     ·rw[bF] at dP
      match tr,dP with
      | [],dP=>exact dP.elim
      |f::tr,⟨u,h1,_,h3,_⟩=>
       rw[hgD] at h1 h3
       have AA:oD.dst=some d/\oD.guard=none:=by
        have:=H.dst
        unfold isDst at this
        split at this
        ·rename_i d' h1 h2
         exact⟨by rw[h1,Nat.eq_of_beq_eq_true this],h2⟩
        ·cases this
       unfold eN at h1
       rw[AA.2] at h1
       obtain⟨hbx,hvl⟩:=acL H.ext h1
       rw[AA.1] at h3
       have e:s1=(s.close u.cl).au (some d) u.v:=by
        rw[<-h3]
        unfold State.apply
        rw[hbx]
        rfl
       have Kl:d≠t:=fun e2=>by
        have h5:=H.tup
        have h6:=H.len
        rw[e,e2] at h5 h6
        simp only[State.slot,State.au,List.getD_eq_getElem?_getD,List.getElem?_set] at h5 h6
        by_cases aq:t<(s.close u.cl).sl.length
        ·simp [aq] at h5
         omega
        ·simp [aq] at h5
       refine⟨?_,fun _=>⟨Kl,?_⟩⟩
       ·have e3:s1.au (some d) [.undef]=(s.close u.cl).au (some d) [.undef]:=by
         rw[e]
         simp only[State.au,List.set_set]
        rw[e3]
        exact(hr.close u.cl).kill d
       ·rw[e,<-ad5 u.cl s t]
        simp only[State.slot,State.au,List.getD_eq_getElem?_getD,List.getElem?_set]
        rw[if_neg Kl]
    obtain⟨dc,Kt⟩:=KH
    obtain⟨ln,aak,Z,aW,aZ,AN⟩:=aku hE dc H.link
    have hud:=aak d (ad6 s1 d)
    unfold wpOp
    simp only[H.last]
    have hw:Region.wanted oS (yielded ops a.tmps)=true:=by simp [Region.wanted,ln.2]
    rw[if_pos hw]
    refine .inl ?_
    unfold Oper.wp
    rw[aW,Oper.upon_skip,ln.1]
    show wpAny P .any ops Q cq (listed.setIfInBounds i true) a Z.w
    have CI:(listed.setIfInBounds i true).size=i+1:=by simpa using hs
    have fu:(listed.setIfInBounds i true).getD i true=true:=by
     have:i<listed.size:=by omega
     simp [Array.getD_eq_getD_getElem?,this]
    have xC:rest ops.size (listed.setIfInBounds i true)=rest i listed:=by
     rw[H.size,MI CI,if_pos fu,List.append_nil,adY (Nat.le_refl _)]
    rcases bF with bF|bF
    ·have:cq=0:=by rw[bF] at nH;simpa using nH
     subst this
     refine⟨?_,hQ Z a aZ AN⟩
     rcases KI:Region.ready .any ops (listed.setIfInBounds i true) with _|⟨q,r⟩
     ·rfl
     ·have:=(G4 (i:=q) (by rw[KI];simp)).1
      rw[xC,bF] at this
      cases this
    ·have:cq=1:=by rw[bF] at nH;simpa using nH
     subst this
     refine⟨fun iw=> ?_,fun q hq=> ?_⟩
     ·have:=zw4 l8 (by rw[CI,H.size]) iw
      rw[xC,bF] at this
      cases this
     ·have Sq:=(G4 hq).1
      rw[xC,bF] at Sq
      have Sq:q=k:=by simpa using Sq
      subst Sq
      obtain⟨Kl,hlen⟩:=Kt bF
      have AA:oD.dst=some d/\oD.guard=none:=by
       have:=H.dst
       unfold isDst at this
       split at this
       ·rename_i d' h1 h2
        exact⟨by rw[h1,Nat.eq_of_beq_eq_true this],h2⟩
       ·cases this
      have CJ:∃vs:Array Value,a.tmps.getD t Go.undef= .tuple vs/\vs.size=(s.slot t).length:=by
       have ix:=hr.slot t
       have h5:=H.tup
       rw[hlen] at h5
       match hq:s.slot t,ix,h5 with
       | [],⟨vs,g1,g2,_⟩,_=>exact⟨vs,g1,by rw[g2]⟩
       | [x],_,h5=>simp at h5
       |x::y::r,⟨vs,g1,g2,_⟩,_=>exact⟨vs,g1,by rw[g2]⟩
      obtain⟨vs,hv,xE⟩:=CJ
      have ui:j<vs.size:=by rw[xE,<-hlen];exact H.len
      have KN:=acM (P:=P) H.ext hv (Array.getElem?_eq_getElem ui) Z.w
      unfold wpOp
      simp only[H.J8]
      have hw:Region.wanted oD (yielded ops a.tmps)=true:=by simp [Region.wanted,AA.2]
      rw[if_pos hw]
      refine .inl ?_
      unfold Oper.wp
      rw[KN,Oper.upon_value,AA.1]
      have uf:Rel Z s' (a.put (some d) vs[j]):=by
       have:=AN.dead d vs[j]
       rw[Ref.dead,agu hud] at this
       exact this
      refine⟨?_,hQ Z _ aZ uf⟩
      have hkn:=H.kn
      have aae:rest ops.size ((listed.setIfInBounds i true).setIfInBounds q true)=[]:=by
       have:=MH (n:=ops.size) (listed:=listed.setIfInBounds i true) (i:=q) (p:=[]) (q:=[]) (by rw[CI,H.size];exact Nat.le_refl _) (by rw[xC,bF];rfl)
       simpa using this
      rcases KI:Region.ready .any ops ((listed.setIfInBounds i true).setIfInBounds q true) with _|⟨z,r⟩
      ·rfl
      ·have:=(G4 (i:=z) (by rw[KI];simp)).1
       rw[aae] at this
       cases this
theorem agT(hE:al P E)(hm:P.follows .mixedOrders=true){C:ah}(hC:C.Nat)(hf:∀f,cY P C f){X0:aw}(hx:Ext X0 X)(hr:Rel X s a){id k:Nat}{ops:Array Oper}{s':State}(h:rK E (C State) k ops.toList s some=some s'){Q:Exit->Act->World->Prop}(hQ:∀Y a',Ext X0 Y->Rel Y s' a'->Q .normal a' Y.w):(Code.region id ops true).wp P Q a X.w:=by
 unfold rK at h
 split at h
 case h_2=>cases h
 rename_i l oS hl
 split at h
 case h_2=>cases h
 rename_i oD hoD
 split at h
 case h_2=>cases h
 rename_i t j d aZ ao8
 cases fm:(isDst oD d&&(Nat.ble (k+1) l.length&&(Nat.ble (zy oS.after.toList+1) (bit l.length)&&Nat.beq (jo ops.toList l.length (zy oS.after.toList)|||bit k) (bit l.length-1)))) with
 |false=>rw[fm] at h;cases h
 |true=>
 rw[fm,cond_true] at h
 simp only[Bool.and_eq_true] at fm
 obtain⟨hd,ZQ,Kx,uq⟩:=fm
 have ZQ:k<l.length:=Nat.le_of_ble_eq_true ZQ
 have uq:=Nat.eq_of_beq_eq_true uq
 obtain⟨s1,h1,h2⟩:=jP (P3 hC (F:=fun s=>bif Nat.ble (j+1) (s.slot t).length&& !(Nat.beq (s.slot t).length 1) then km E oS (s.au (some d) [.undef]) some else none) (G:=some) (K:=fun s=>bif Nat.ble (j+1) (s.slot t).length&& !(Nat.beq (s.slot t).length 1) then km E oS (s.au (some d) [.undef]) some else none) (fun _=>rfl) l 0 s []) h
 cases hlen:(Nat.ble (j+1) (s1.slot t).length&& !(Nat.beq (s1.slot t).length 1)) with
 |false=>simp only[hlen] at h2;cases h2
 |true=>
 simp only[hlen,cond_true] at h2
 rw[Bool.and_eq_true] at hlen
 have gZ:=zvy hl
 have b6:ops.size=l.length+1:=by rw[<-Array.length_toList,gZ];simp
 have m8:ops[l.length]? =some oS:=by rw[<-Array.getElem?_toList,gZ,List.getElem?_append_right (Nat.le_refl _),Nat.sub_self];rfl
 have kN:(List.range l.length).map (fun i=>ops.getD i default)=l:=by
  apply List.ext_getElem?
  intro i
  rw[List.getElem?_map]
  by_cases hi:i<l.length
  ·have h3:ops[i]? =l[i]? :=by rw[<-Array.getElem?_toList,gZ,List.getElem?_append_left hi]
   have h4:i<ops.size:=by omega
   rw[List.getElem?_range hi,<-h3]
   simp [h4]
  ·rw[List.getElem?_eq_none (by simpa using hi),List.getElem?_eq_none (by omega)];rfl
 obtain⟨xW,r1,_,r3,r4⟩:=zb9 hC (List.range l.length) 0 s [] (fun j k hj=>by
  obtain⟨g1,g2⟩:=List.getElem?_eq_some_iff.1 hj
  simp at g2
  omega) (by rw[kN];exact h1)
 have H:HP E C ops l.length k t j d oS oD s1 s':=⟨b6,m8,by rw[<-Array.getElem?_toList];exact hoD,ZQ,aZ,hd,Kx,uq,fun i hi=>r4 i (List.mem_range.2 hi),Nat.le_of_ble_eq_true hlen.1,fun e=>by rw[e] at hlen;simp at hlen,h2⟩
 have hk:eP s X {X with w:={X.w with drawn:=X.w.drawn+1}}:=⟨Nat.le_refl _,rfl,rfl,rfl,fun g _=>⟨rfl,rfl⟩,rfl,fun _ _ _=>rfl⟩
 have bF:rest l.length (Array.replicate ops.size false)=List.range l.length:=by
  refine List.filter_eq_self.2 fun i hi=> ?_
  have:=List.mem_range.1 hi
  have h2:i<ops.size:=by omega
  simp [h2]
 refine wp_region_any hm ?_
 have nH:ops.size=(rest l.length (Array.replicate ops.size false)).length+1:=by rw[bF,b6];simp
 exact am7 hE hC hf H ops.size (Array.replicate ops.size false) _ s a xW (hr.dx hk) (fun i hi=>by
  by_cases h:i<ops.size<;>simp [h] at hi) (by simp [b6]) (by simp [b6]) nH (by rw[bF];exact r1) r3 (fun Y a' aZ bu=>hQ Y a' (hx.trans (hk.ext.trans aZ)) bu)
end Go.Ref

namespace Go.Ref
open Go
variable {P:Program} {E:Env} {X:aw} {s:State} {a:Act}
def Ex.exit':Ex->Exit
 | .normal=> .normal
 | .exit id=> .exit id
 | .ret=> .ret
theorem ahQ{Q:Exit->Act->World->Prop}{c:Code}(I:Nat->Act->World->Prop)(round:∀n a w,I n a w->∃m,n=m+1/\c.wp P (Exit.then (I m) Q) a w){n:Nat}{a:Act}{w:World}(h₀:I n a w):(Code.loop c).wp P Q a w:=by
 intro b k cs
 have key:∀n a w,I n a w->∃e a' w',Q e a' w'/\Arrives P (lone (b.at a (.code c:: .inLoop c::k)) cs w) b k cs e a' w':=by
  intro n
  induction n with
  |zero=>intro a w h;obtain⟨m,hm,_⟩:=round 0 a w h;cases hm
  |succ n ih=>
   intro a w h
   obtain⟨m,hm,hr⟩:=round (n+1) a w h
   cases hm
   obtain⟨e,a₁,w₁,hq,m4⟩:=hr b (.inLoop c::k) cs
   cases e with
   |normal=>
    obtain⟨e₂,a₂,w₂,hq₂,harr₂⟩:=ih a₁ w₁ hq
    exact⟨e₂,a₂,w₂,hq₂,.of_steps (Steps.trans m4 (.one step_inLoop)) harr₂⟩
   |exit id=>exact⟨_,a₁,w₁,hq,.pass (x:= .inLoop c) rfl (fun _ _=> .inl (by simp)) m4⟩
   |goto l=>exact⟨_,a₁,w₁,hq,.pass (x:= .inLoop c) rfl (fun _ _=> .inl (by simp)) m4⟩
   |ret=>exact⟨_,a₁,w₁,hq,.pass (x:= .inLoop c) rfl (fun _ _=> .inl (by simp)) m4⟩
   |panic ch=>exact⟨_,a₁,w₁,hq,.pass (x:= .inLoop c) rfl (fun _ _=> .inl (by simp)) m4⟩
   |outgrown=>exact⟨_,a₁,w₁,hq,.pass (x:= .inLoop c) rfl (fun _ _=> .inl (by simp)) m4⟩
 obtain⟨e,a',w',hq,m4⟩:=key n a w h₀
 exact⟨e,a',w',hq,.of_steps (.one step_loop) m4⟩
theorem Fk{α:Type}(z:α)(l:List Nat):∀(xs:List α) (i j:Nat),(gl z l i xs)[j]? =(xs[j]?).map fun x=>bif l.any (Nat.beq (i+j)) then x else z
 | [],i,j=>by simp [gl]
 |x::r,i,0=>by simp [gl]
 |x::r,i,j+1=>by
  simp only[gl,List.getElem?_cons_succ]
  rw[Fk z l r (i+1) j,show i+1+j=i+(j+1) by omega]
theorem zip{α:Type}(z:α)(l:List Nat):∀(xs:List α) (i:Nat),(gl z l i xs).length=xs.length
 | [],i=>rfl
 |x::r,i=>by simp [gl,zip z l r]
theorem ND{p q:List Nat}:∀{l:List (List Nat)},q∈uF p l->q=p\/q∈l
 | [],h=>by simp [uF] at h;exact .inl h
 |r::l,h=>by
  simp only[uF] at h
  cases hl:ltL r p with
  |false=>rw[hl] at h;simpa using h
  |true=>
   rw[hl] at h
   rcases List.mem_cons.1 h with h|h
   ·exact .inr (by simp [h])
   ·rcases ND h with h|h
    ·exact .inl h
    ·exact .inr (List.mem_cons_of_mem _ h)
theorem Tj{q:List Nat}:∀{l:List (List Nat)},q∈nr l->q∈l
 | [],h=>h
 |p::l,h=>by
  rcases ND h with h|h
  ·simp [h]
  ·exact List.mem_cons_of_mem _ (Tj h)
theorem akH{v:SV}{id:Nat}{t:Ty}{p:List Nat}(h:v.norm= .ptr id t p):v= .ptr id t p:=by
 cases v<;>simp [SV.norm] at h
 obtain⟨h1,h2,h3⟩:=h
 rw[h1,h2,h3]
theorem az.norm{pl:List Nat->Place}{sv:SV}{v:Value}(hr:az X pl sv v):az X pl sv.norm v:=by
 cases sv with
 |aj t x own=>
  obtain⟨cs,h1,h2,h3⟩:=hr
  exact⟨cs,h1,h2,fun p hp=>h3 p (Tj hp)⟩
 |_=>exact hr
theorem cM.norm{pl:Nat->List Nat->Place}{l:List SV}{v:Value}(hr:cM X pl l v):cM X pl (l.map SV.norm) v:=by
 match l,hr with
 | [s],hr=>exact az.norm hr
 | [],hr=>exact hr
 |x::y::r,⟨vs,h1,h2,h3⟩=>
  refine⟨vs,h1,by simpa using h2,fun j s u hs hu=> ?_⟩
  have hs:((x::y::r).map SV.norm)[j]? =some s:=hs
  rw[List.getElem?_map] at hs
  obtain⟨s0,fe,rfl⟩:=Option.map_eq_some_iff.1 hs
  exact az.norm (h3 j s0 u fe hu)
theorem dz.less{r:Nat}{pl:List Nat->Place}{t:Ty}{x:El t}{own jE:List (List Nat)}(ho:∀p∈jE,p∈own)(h:dz X r pl t x own):dz X r pl t x jE:=by
 unfold dz at h⊢
 split at h
 ·exact h
 ·exact h
 ·exact h
 ·exact⟨h.1,fun hm=>h.2 (ho [] hm)⟩
 ·exact⟨h.1,fun hp=>h.2 fun p hm=>ho p (hp p hm)⟩
 ·exact h.elim
 ·obtain⟨cs,T,h1,h2,h3⟩:=h
  exact⟨cs,T,h1,h2,fun p hp=>h3 p (ho p hp)⟩
theorem Rel.norm(hr:Rel X s a):Rel X s.norm a where
 size:=by simpa [State.norm] using hr.size
 gL:=by simpa [State.norm] using hr.gL
 bQ:=fun i l v hl hv=>by
  simp only[State.norm,List.getElem?_map] at hl
  obtain⟨l0,h0,rfl⟩:=Option.map_eq_some_iff.1 hl
  exact cM.norm (hr.bQ i l0 v h0 hv)
 boxes:=fun id B hB=>by
  simp only[State.norm,List.getElem?_map] at hB
  obtain⟨b0,h0,h1⟩:=Option.map_eq_some_iff.1 hB
  obtain⟨B0,rfl,rfl⟩:=Option.map_eq_some_iff.1 h1
  obtain⟨r,g1,g2,g3⟩:=hr.boxes id B0 h0
  exact⟨r,g1,g2,g3.less fun p hp=>Tj hp⟩
 live:=fun i l id t p hl hm=>by
  simp only[State.norm,List.getElem?_map] at hl
  obtain⟨l0,h0,rfl⟩:=Option.map_eq_some_iff.1 hl
  obtain⟨v0,Sv,he⟩:=List.mem_map.1 hm
  rw[akH he] at Sv
  obtain⟨B,hB⟩:=hr.live i l0 id t p h0 Sv
  exact⟨B.norm,by simp [State.norm,hB]⟩
 defers:=hr.defers
 bz:=hr.bz.less (fun i l id b c j hl hm=>by
  simp only[State.norm,List.getElem?_map] at hl
  obtain⟨l0,h0,rfl⟩:=Option.map_eq_some_iff.1 hl
  obtain⟨v0,Sv,he⟩:=List.mem_map.1 hm
  have:v0= .bz id b c j:=by cases v0<;>simp [SV.norm] at he;rw[he.1,he.2.1,he.2.2.1,he.2.2.2]
  subst this
  exact⟨l0,h0,Sv,fun e=>by rw[e];rfl⟩) (fun id b c x own _ hb ho=>⟨x,nr own,by simp [State.norm,hb,bC.norm],fun hm=>ho (Tj hm)⟩)
theorem PY(hr:Rel X s a){l:List Nat}{R:Type}{K:State->Option R}{z:R}(h:rZ l s K=some z):∃s',K s'=some z/\Rel X s' a:=by
 unfold rZ at h
 simp only at h
 cases hb:(gl [.undef] l 0 s.sl).all (fun v=>v.all (SV.roots l)) with
 |false=>rw[hb] at h;cases h
 |true=>
  rw[hb] at h
  refine⟨_,h,Rel.norm ?_⟩
  have jd:s.bs=s.bs.headD none::s.bs.tail:=by
   have:=hr.gL
   cases hs:s.bs with
   |nil=>rw[hs] at this;simp at this
   |cons b r=>rfl
  have cu:∀(id:Nat) B,(s.bs.headD none::gl none l 0 s.bs.tail)[id]? =some (some B)->s.bs[id]? =some (some B):=by
   intro id B hB
   rw[jd]
   cases id with
   |zero=>exact hB
   |succ id=>
    simp only[List.getElem?_cons_succ] at hB⊢
    rw[Fk] at hB
    obtain⟨x,hx,he⟩:=Option.map_eq_some_iff.1 hB
    rw[hx]
    cases hl:l.any (Nat.beq (0+id))<;>rw[hl] at he
    ·cases he
    ·rw[<-he];rfl
  refine⟨by rw[zip];exact hr.size,?_,fun i v x hv hx=> ?_,fun id B hB=>hr.boxes id B (cu id B hB),fun i v id t p hv hm=> ?_,hr.defers,hr.bz.less (fun i v id c d j hv hm=> ?_) (fun id c d x own hex nF ho=> ?_)⟩
  ·simp only[List.length_cons,zip,List.length_tail]
   have:=hr.gL
   omega
  ·rw[Fk] at hv
   obtain⟨y,hy,rfl⟩:=Option.map_eq_some_iff.1 hv
   cases hl:l.any (Nat.beq (0+i)) with
   |false=>trivial
   |true=>exact hr.bQ i y x hy hx
  ·have uz:SV.roots l (.ptr id t p)=true:=by
    have:=List.all_eq_true.1 hb v (List.mem_of_getElem? hv)
    exact List.all_eq_true.1 this _ hm
   rw[Fk] at hv
   obtain⟨y,hy,he⟩:=Option.map_eq_some_iff.1 hv
   have sn:SV.ptr id t p∈y:=by
    cases hl:l.any (Nat.beq (0+i)) with
    |false=>rw[hl] at he;subst he;simp at hm
    |true=>rw[hl] at he;subst he;exact hm
   obtain⟨B,hB⟩:=hr.live i y id t p hy sn
   refine⟨B,?_⟩
   rw[jd] at hB
   cases id with
   |zero=>exact hB
   |succ id=>
    simp only[List.getElem?_cons_succ] at hB⊢
    rw[Fk,hB]
    have:l.any (Nat.beq id)=true:=uz
    have h2:l.any (Nat.beq (0+id))=true:=by rw[Nat.zero_add];exact this
    simp [this]
  ·rw[Fk] at hv
   obtain⟨y,hy,he⟩:=Option.map_eq_some_iff.1 hv
   cases hl:l.any (Nat.beq (0+i)) with
   |false=>rw[hl] at he;subst he;simp at hm
   |true=>rw[hl] at he;subst he;exact⟨y,hy,hm,fun h=>h⟩
  ·obtain⟨i,v,j,hv,hm⟩:=hex
   have uz:SV.roots l (.bz id c d j)=true:=by
    have:=List.all_eq_true.1 hb v (List.mem_of_getElem? hv)
    exact List.all_eq_true.1 this _ hm
   refine⟨x,own,?_,ho⟩
   rw[jd] at nF
   cases id with
   |zero=>exact nF
   |succ id=>
    simp only[List.getElem?_cons_succ] at nF⊢
    rw[Fk,nF]
    have:l.any (Nat.beq id)=true:=uz
    have h2:l.any (Nat.beq (0+id))=true:=by rw[Nat.zero_add];exact this
    simp [this]
def aw.still(X:aw)(r n:Nat):aw:={X with ow:=fun g=>if g=r then .ro n else X.ow g}
theorem x7{r n id:Nat}(h:X.ow r= .box id){ad:Addr}{v:Value}(hs:X.ay ad v):(X.still r n).ay ad v:=by
 have bJ:ad.block≠r:=fun e=>by
  have:=hs.2.2
  rw[e,h] at this
  exact this
 refine⟨hs.1,hs.2.1,?_⟩
 simp only[aw.still]
 rw[if_neg bJ]
 exact hs.2.2
theorem ML{r n id:Nat}(h:X.ow r= .box id):Ext X (X.still r n) where
 ay:=fun _ _=>x7 h
 size:=Nat.le_refl _
 os:=rfl
 tape:=rfl
 output:=rfl
 β0:=rfl
 still:=fun g _ bP=>by
  have bJ:g≠r:=fun e=>by rw[e,h] at bP;exact bP
  exact⟨by simp only[aw.still];rw[if_neg bJ],rfl⟩
theorem bp.eO{r n id:Nat}(h:X.ow r= .box id){pl:Place}{e:TypeId}{k m:Nat}{v:Value}(ho:bp X pl e k m v):bp (X.still r n) pl e k m v:=by
 rcases ho with ho|⟨g,cap,cur,h1,h2,h3,h4,h5,h6⟩
 ·exact .inl ho
 ·have bJ:g≠r:=fun e=>by rw[e,h] at h6;cases h6
  exact .inr ⟨g,cap,cur,h1,h2,h3,h4,h5,by simp only[aw.still];rw[if_neg bJ];exact h6⟩
theorem bn.eO{r n id:Nat}(h:X.ow r= .box id){pl:List Nat->Place}{t:Ty}{x:El t}{c:List Value}{own:List (List Nat)}(ho:bn X pl t x c own):bn (X.still r n) pl t x c own:=fun p hp=>by
 obtain⟨e,t',xs,v,g0,g1,g2,g3⟩:=ho p hp
 exact⟨e,t',xs,v,g0,g1,g2,g3.eO h⟩
theorem az.eO{r n id:Nat}(h:X.ow r= .box id){pl:List Nat->Place}{sv:SV}{v:Value}(hk:∀bc c d j,sv= .bz bc c d j->bc≠id)(hr:az X pl sv v):az (X.still r n) pl sv v:=by
 cases sv with
 |aj t x own=>
  obtain⟨c,h1,h2,h3⟩:=hr
  exact⟨c,h1.ai (fun _ _=>x7 h),h2,h3.eO h⟩
 |view t x=>
  obtain⟨ad,c,h1,h2,h3,h4⟩:=hr
  exact⟨ad,c,h1,h2,h3.ai (fun _ _=>x7 h),fun i u hi=>x7 h (h4 i u hi)⟩
 |cap f t x u y=>exact rV (fun _ _=>x7 h) hr
 |bz bc c d j=>
  obtain⟨r',h1,h2,h3⟩:=hr
  have bJ:r'≠r:=fun e=>by rw[e,h] at h2;injection h2 with h2;exact hk bc c d j rfl h2.symm
  exact⟨r',h1,by simp only[aw.still];rw[if_neg bJ];exact h2,h3⟩
 |_=>exact hr
theorem Td(l:List Nat):∀(xs:List (Option bC)) (i j:Nat),(jc l i xs)[j]? =(xs[j]?).map fun b=>bif l.any (Nat.beq (i+j)) then b.map (fun B=>{B with own:=[]}) else b
 | [],i,j=>by simp [jc]
 |x::r,i,0=>by simp [jc]
 |x::r,i,j+1=>by
  simp only[jc,List.getElem?_cons_succ]
  rw[Td l r (i+1) j,show i+1+j=i+(j+1) by omega]
theorem LX(l:List Nat):∀(xs:List (Option bC)) (i:Nat),(jc l i xs).length=xs.length
 | [],i=>rfl
 |x::r,i=>by simp [jc,LX l r]
theorem Rel.drop(hr:Rel X s a)(l:List Nat):Rel X (s.drop l) a where
 size:=hr.size
 gL:=by simp only[State.drop,LX];exact hr.gL
 bQ:=hr.bQ
 boxes:=fun id B hB=>by
  simp only[State.drop,Td] at hB
  obtain⟨b0,h0,h1⟩:=Option.map_eq_some_iff.1 hB
  cases hl:l.any (Nat.beq (0+id)) with
  |false=>rw[hl] at h1;simp only[cond_false] at h1;subst h1;exact hr.boxes id B h0
  |true=>
   rw[hl] at h1
   simp only[cond_true] at h1
   obtain⟨B0,rfl,rfl⟩:=Option.map_eq_some_iff.1 h1
   obtain⟨r,g1,g2,g3⟩:=hr.boxes id B0 h0
   exact⟨r,g1,g2,g3.less fun p hp=>by cases hp⟩
 live:=fun i v id t p hv hm=>by
  obtain⟨B,hB⟩:=hr.live i v id t p hv hm
  simp only[State.drop,Td,hB,Option.map_some]
  cases l.any (Nat.beq (0+id))<;>exact⟨_,rfl⟩
 defers:=hr.defers
 bz:=hr.bz.less (fun i l id c d j hl hm=>⟨l,hl,hm,fun h=>h⟩) (fun id c d x own _ hb ho=>by
  simp only[State.drop,Td,hb,Option.map_some]
  cases l.any (Nat.beq (0+id)) with
  |false=>exact⟨x,own,rfl,ho⟩
  |true=>exact⟨x,[],rfl,by simp⟩)
theorem ak0(hr:Rel X s a){r:Nat}{R:Type}{K:State->Option R}{z:R}(h:rO E r s K=some z):∃Y s',Y.w=X.w/\Ext X Y/\K s'=some z/\Rel Y s' a:=by
 unfold rO at h
 split at h
 ·exact⟨X,s,rfl,Ext.refl X,h,hr⟩
 rename_i d T hfz
 split at h
 case h_2=>cases h
 rename_i id n ta tb e t ix hT
 split at h
 case isFalse=>cases h
 rename_i heq
 have:=Ty.aI heq
 subst this
 split at h
 case h_2=>cases h
 rename_i B hB
 split at h
 case isFalse=>cases h
 rename_i dn
 obtain⟨hb,rr,h1,how,cs,T',aE,dm,fO⟩:=FV hr hB dn
 generalize(Ty.cast dn B.x:List (El ta))=xs at*
 cases hn:Nat.beq n (List.length xs) with
 |false=>rw[hn] at h;cases h
 |true=>
  rw[hn] at h
  have hn:=Nat.eq_of_beq_eq_true hn
  have hd:d<s.sl.length:=by
   rcases Nat.lt_or_ge d s.sl.length with h1|h1
   ·exact h1
   ·simp [State.slot,List.getElem?_eq_none h1] at ix
  have ew:=hr.slot d
  rw[ix] at ew
  obtain⟨r0,hβ,cap,hv,m7⟩:=(show az X (.c d 0) (.ptr id (.aJ (.iP n) ta tb) []) _ from ew)
  rw[h1] at hβ
  cases hβ
  have aq:id<s.bs.length:=(List.getElem?_eq_some_iff.1 hb).1
  have nJ:=hr.oM hb (.inl (by rw[Ty.aI dn];rfl))
  refine⟨X.still rr (xs.length*ta.cells),_,rfl,ML how,h,?_,?_,fun i l v hl hx=> ?_,fun bc B' eD=> ?_,fun i l j t p hl hm=> ?_,hr.defers,hr.bz.less (fun i l rI c2 d2 j hl hm=> ?_) (fun rI c2 d2 x2 kv hex kc ho=> ?_)⟩
  ·simpa using hr.size
  ·simpa using hr.gL
  ·replace hl:((s.sl.map (l6 id)).set d [.aj (.sl e ta) xs []])[i]? =some l:=hl
   rw[List.getElem?_set] at hl
   split at hl
   ·rename_i uc
    subst uc
    rw[if_pos (by simpa using hd)] at hl
    cases hl
    have KU:a.tmps.getD d Go.undef=v:=by
     rw[Array.getD_eq_getD_getElem?,hx];rfl
    rw[KU] at hv
    refine⟨[v],?_,rfl,mD⟩
    rw[hv,hn]
    refine bg.xS rfl (by omega) (fun j y hj=>⟨⟨rr,0,none⟩,_,rfl,rfl,(fO j y hj).ai (fun _ _=>x7 how),fun i u hi=> ?_⟩)
    have ui:=(List.getElem?_eq_some_iff.1 hj).1
    have hle:(j+1)*ta.cells<=xs.length*ta.cells:=Nat.mul_le_mul_right _ ui
    rw[Nat.add_mul,Nat.one_mul] at hle
    rw[List.getElem?_take] at hi
    split at hi
    case isFalse=>cases hi
    rename_i Sl
    rw[List.getElem?_drop] at hi
    refine⟨Bs rfl _,?_,?_⟩
    ·rw[iK,Nat.zero_add]
     show X.w.cell? _=_
     simp only[World.cell?,aE]
     simpa using hi
    ·rw[iK,Nat.zero_add]
     show Ow.used (if rr=rr then .ro (xs.length*ta.cells) else X.ow rr) _
     rw[if_pos rfl]
     show j*ta.cells+i<_
     omega
   ·rw[List.getElem?_map] at hl
    obtain⟨l0,h0,rfl⟩:=Option.map_eq_some_iff.1 hl
    exact Nd ((hr.bQ i l0 v h0 hx).iS fun j sv u hm jL=>jL.eO how (fun bc c d k e e2=>nJ i l0 c d k h0 (e2▸e▸List.mem_of_getElem? hm)))
  ·replace eD:(s.bs.set id none)[bc]? =some (some B'):=eD
   rw[List.getElem?_set] at eD
   split at eD
   ·rename_i Kr
    cases eD
   ·rename_i Kr
    obtain⟨r',g1,g2,g3⟩:=hr.boxes bc B' eD
    have bJ:r'≠rr:=fun e2=>by rw[e2,how] at g2;cases g2;exact Kr rfl
    exact⟨r',g1,by simp only[aw.still];rw[if_neg bJ];exact g2,g3.move (fun _ _=>x7 how) rfl (fun cs h5=>h5.eO how) fun _ _ g o _ ho hw=>⟨ho,by simp only[aw.still];rw[if_neg (fun e3=>by rw[e3,how] at hw;cases hw)];exact hw⟩⟩
  ·replace hl:((s.sl.map (l6 id)).set d [.aj (.sl e ta) xs []])[i]? =some l:=hl
   rw[List.getElem?_set] at hl
   split at hl
   ·rw[if_pos (by simpa using hd)] at hl
    cases hl
    simp at hm
   ·rw[List.getElem?_map] at hl
    obtain⟨l0,h0,rfl⟩:=Option.map_eq_some_iff.1 hl
    obtain⟨hm,bJ⟩:=OG hm
    obtain⟨B2,cW⟩:=hr.live i l0 j t p h0 hm
    exact⟨B2,by show(s.bs.set id none)[j]? =_;rw[List.getElem?_set,if_neg (fun e=>bJ e.symm)];exact cW⟩
  ·replace hl:((s.sl.map (l6 id)).set d [.aj (.sl e ta) xs []])[i]? =some l:=hl
   rw[List.getElem?_set] at hl
   split at hl
   ·rw[if_pos (by simpa using hd)] at hl
    cases hl
    simp at hm
   ·rw[List.getElem?_map] at hl
    obtain⟨l0,h0,rfl⟩:=Option.map_eq_some_iff.1 hl
    obtain⟨g1,g2⟩:=z117 hm
    exact⟨l0,h0,g1,g2⟩
  ·refine⟨x2,kv,?_,ho⟩
   show(s.bs.set id none)[rI]? =_
   rw[List.getElem?_set,if_neg (fun e=> ?_)]
   ·exact kc
   ·subst e
    rw[hb] at kc
    cases kc
    cases(Ty.aI dn)
theorem MS(hr:Rel X s a){id rr:Nat}{B:bC}(hb:s.bs[id]? =some (some B))(hs:B.t.bG=false)(h1:X.β id=some rr)(how:X.ow rr= .box id){cs:Array Value}{T:TypeId}(aE:X.w.heap[rr]? =some (.cells cs T (0,0)))(aL:bg X B.t B.x cs.toList){pl:List Nat->Place}{sv:SV}{v:Value}(hk:∀bc c d j,sv= .bz bc c d j->bc≠id)(h:az X pl sv v):az (X.still rr cs.size) pl (se id B sv) v:=by
 have dx:=h.eO (n:=cs.size) how hk
 cases sv with
 |ptr j t p=>
  unfold se
  simp only
  cases hj:Nat.beq j id with
  |false=>exact dx
  |true=>
   have:=Nat.eq_of_beq_eq_true hj
   subst this
   simp only[cond_true]
   split
   case isFalse=>trivial
   rename_i heq
   have:=Ty.aI heq
   subst this
   split
   case h_2=>trivial
   rename_i u y cu
   obtain⟨r0,hβ,hv⟩:=h
   rw[h1] at hβ
   cases hβ
   obtain⟨hv,dp⟩:=(qH hs).1 hv
   obtain⟨k1,k2,k3⟩:=Rm aL dp cu
   refine⟨_,_,hv,rfl,k3.ai (fun _ _=>x7 how),fun i w hi=>⟨Bs rfl _,?_,?_⟩⟩
   ·exact Tz aE hi
   ·rw[iK]
    show Ow.used (if rr=rr then .ro cs.size else X.ow rr) _
    rw[if_pos rfl]
    rw[List.getElem?_take] at hi
    split at hi
    case isFalse=>cases hi
    rw[List.getElem?_drop] at hi
    have:=(List.getElem?_eq_some_iff.1 hi).1
    show _<cs.size
    simpa using this
 |_=>exact dx
theorem ahM(hr:Rel X s a){id rr:Nat}{B:bC}(hb:s.bs[id]? =some (some B))(hs:B.t.bG=false)(h1:X.β id=some rr)(how:X.ow rr= .box id){cs:Array Value}{T:TypeId}(aE:X.w.heap[rr]? =some (.cells cs T (0,0)))(aL:bg X B.t B.x cs.toList){pl:Nat->List Nat->Place}{l:List SV}{v:Value}(hk:∀bc c d j,SV.bz bc c d j∈l->bc≠id)(h:cM X pl l v):cM (X.still rr cs.size) pl (l.map (se id B)) v:=by
 match l,h with
 | [sv],h=>exact MS hr hb hs h1 how aE aL (fun bc c d j e=>hk bc c d j (by simp [e])) h
 | [],⟨vs,g1,g2,g3⟩=>exact⟨vs,g1,g2,fun j sv u l9=>by simp at l9⟩
 |x::y::r,⟨vs,g1,g2,g3⟩=>
  refine⟨vs,g1,by simpa using g2,fun j sv u l9 hu=> ?_⟩
  have l9:((x::y::r).map (se id B))[j]? =some sv:=l9
  rw[List.getElem?_map] at l9
  obtain⟨s0,fe,rfl⟩:=Option.map_eq_some_iff.1 l9
  exact MS hr hb hs h1 how aE aL (fun bc c d j e=>hk bc c d j (e▸List.mem_of_getElem? fe)) (g3 j s0 u fe hu)
theorem ak5{id:Nat}{B:bC}{l:List SV}{j:Nat}{t:Ty}{p:List Nat}(h:SV.ptr j t p∈l.map (se id B)):SV.ptr j t p∈l/\j≠id:=by
 obtain⟨s0,fe,he⟩:=List.mem_map.1 h
 unfold se at he
 cases s0 with
 |ptr j' t' p'=>
  simp only at he
  cases hb:Nat.beq j' id with
  |true=>
   rw[hb] at he
   simp only[cond_true] at he
   split at he
   ·split at he<;>cases he
   ·cases he
  |false=>
   rw[hb] at he
   cases he
   exact⟨fe,fun e=>Nat.ne_of_beq_eq_false hb e⟩
 |_=>simp only at he;cases he
theorem ak4{id:Nat}{B:bC}{l:List SV}{i j:Nat}{a b:Ty}(h:SV.bz i a b j∈l.map (se id B)):SV.bz i a b j∈l/\(l=[.bz i a b j]->l.map (se id B)=[.bz i a b j]):=by
 refine⟨?_,fun e=>by rw[e];rfl⟩
 obtain⟨s0,fe,he⟩:=List.mem_map.1 h
 unfold se at he
 cases s0 with
 |ptr j' t' p'=>
  simp only at he
  cases hb:Nat.beq j' id with
  |true=>
   rw[hb] at he
   simp only[cond_true] at he
   split at he
   ·split at he<;>cases he
   ·cases he
  |false=>rw[hb] at he;cases he
 |_=>simp only at he;first|(cases he;done)|(rw[<-he];exact fe)
theorem acO(hr:Rel X s a){id:Nat}{R:Type}{K:State->Option R}{z:R}(h:Wx id s K=some z):∃Y s',Y.w=X.w/\Ext X Y/\K s'=some z/\Rel Y s' a:=by
 unfold Wx at h
 split at h
 case h_2=>cases h
 rename_i B hB
 split at h
 case isTrue=>cases h
 rename_i hs
 have hs:B.t.bG=false:=by simpa using hs
 have hb:=qJ hB
 obtain⟨rr,h1,ua⟩:=hr.boxes id B hb
 obtain⟨cs,T,aE,aL,how,_⟩:=ua.cells hs
 refine⟨X.still rr cs.size,_,rfl,ML how,h,by simpa using hr.size,by simpa using hr.gL,fun i l v hl hx=> ?_,fun bc B' eD=> ?_,fun i l j t p hl hm=> ?_,hr.defers,hr.bz.less (fun i l rI c2 d2 j hl hm=> ?_) (fun rI c2 d2 x2 kv hex kc ho=> ?_)⟩
 ·replace hl:(s.sl.map fun l=>l.map (se id B))[i]? =some l:=hl
  rw[List.getElem?_map] at hl
  obtain⟨l0,h0,rfl⟩:=Option.map_eq_some_iff.1 hl
  exact ahM hr hb hs h1 how aE aL (fun bc c d j hm e=>hr.oM hb (.inl (Rp hs)) i l0 c d j h0 (e▸hm)) (hr.bQ i l0 v h0 hx)
 ·replace eD:(s.bs.set id none)[bc]? =some (some B'):=eD
  rw[List.getElem?_set] at eD
  split at eD
  ·split at eD<;>cases eD
  ·rename_i Kr
   obtain⟨r',g1,g2,g3⟩:=hr.boxes bc B' eD
   have bJ:r'≠rr:=fun e2=>by rw[e2,how] at g2;cases g2;exact Kr rfl
   exact⟨r',g1,by simp only[aw.still];rw[if_neg bJ];exact g2,g3.move (fun _ _=>x7 how) rfl (fun cs h5=>h5.eO how) fun _ _ g o _ ho hw=>⟨ho,by simp only[aw.still];rw[if_neg (fun e3=>by rw[e3,how] at hw;cases hw)];exact hw⟩⟩
 ·replace hl:(s.sl.map fun l=>l.map (se id B))[i]? =some l:=hl
  rw[List.getElem?_map] at hl
  obtain⟨l0,h0,rfl⟩:=Option.map_eq_some_iff.1 hl
  obtain⟨hm,bJ⟩:=ak5 hm
  obtain⟨B2,cW⟩:=hr.live i l0 j t p h0 hm
  exact⟨B2,by show(s.bs.set id none)[j]? =_;rw[List.getElem?_set,if_neg (fun e=>bJ e.symm)];exact cW⟩
 ·replace hl:(s.sl.map fun l=>l.map (se id B))[i]? =some l:=hl
  rw[List.getElem?_map] at hl
  obtain⟨l0,h0,rfl⟩:=Option.map_eq_some_iff.1 hl
  obtain⟨g1,g2⟩:=ak4 hm
  exact⟨l0,h0,g1,g2⟩
 ·refine⟨x2,kv,?_,ho⟩
  show(s.bs.set id none)[rI]? =_
  rw[List.getElem?_set,if_neg (fun e=> ?_)]
  ·exact kc
  ·subst e
   rw[hb] at kc
   cases kc
   cases hs
theorem zot{R:Type}{K:State->Option R}{z:R}:∀(l:List Nat) (X:aw) (s:State),Rel X s a->Hw l s K=some z->∃Y s',Y.w=X.w/\Ext X Y/\K s'=some z/\Rel Y s' a
 | [],X,s,hr,h=>⟨X,s,rfl,Ext.refl X,h,hr⟩
 |id::r,X,s,hr,h=>by
  obtain⟨Y,s1,h1,h2,h3,h4⟩:=acO hr h
  obtain⟨Z,s2,k1,k2,k3,k4⟩:=zot r Y s1 h4 h3
  exact⟨Z,s2,k1.trans h1,h2.trans k2,k3,k4⟩
def Fr(E:Env)(X0:aw):Prop:=E.sp≠none->∀g pl n,X0.ow g≠ .row pl n
def MW(P:Program)(E:Env)(C:ah)(k:Nat)(c:Code):Prop:=
 ∀(X0 X:aw) (s:State) (a:Act) (e:Ex) (s':State),Fr E X0->Ext X0 X->Rel X s a->ev E (C (Ex×State)) k c s (fun e s=>some (e,s))=some (e,s')->
  ∀(Q:Exit->Act->World->Prop),(∀Y a',Ext X0 Y->Rel Y s' a'->Q e.exit' a' Y.w)->c.wp P Q a X.w
theorem akx(hr:Rel X s a){k r:Nat}{R:Type}{K:State->Option R}{z:R}(h:nm E k r s K=some z):∃s',K s'=some z/\Rel X s' a:=by
 unfold nm at h
 split at h
 ·exact⟨s,h,hr⟩
 ·obtain⟨s',h1,h2⟩:=PY hr h
  refine⟨s',?_,h2⟩
  unfold cJ at h1
  split at h1
  ·cases h1
  ·exact h1
theorem agW{C:ah}(hC:C.Nat){k:Nat}{b:Code}(hb:MW P E C k b){l lx:List Nat}{Q:Exit->Act->World->Prop}{e':Ex}{s':State}{X0:aw}(hF:Fr E X0)(hQ:∀Y a',Ext X0 Y->Rel Y s' a'->Q e'.exit' a' Y.w):
 ∀(n:Nat) (a:Act) (w:World),(∃X s,X.w=w/\Ext X0 X/\Rel X s a/\aB (ev E (C (Ex×State)) k b) l lx n s (fun e s=>some (e,s))=some (e',s'))->
  ∃m,n=m+1/\b.wp P (Exit.then (fun a w=>∃X s,X.w=w/\Ext X0 X/\Rel X s a/\aB (ev E (C (Ex×State)) k b) l lx m s (fun e s=>some (e,s))=some (e',s')) Q) a w:=by
 rintro n a w ⟨X,s,rfl,aZ,hr,h⟩
 cases n with
 |zero=>cases h
 |succ m=>
  refine⟨m,rfl,?_⟩
  simp only[aB] at h
  obtain⟨⟨e1,s2⟩,h1,h2⟩:=jP (vQ hC b _ (fun e s=>some (e,s)) (K:=fun z=>match z.1 with
   | .normal=>rZ l z.2 fun s=>aB (ev E (C (Ex×State)) k b) l lx m s (fun e s=>some (e,s))
   |e=>rZ lx z.2 fun s=>some (e,s)) (fun e s=>by cases e<;>rfl) s) h
  refine hb X0 X s a e1 s2 hF aZ hr h1 _ fun Y a' cf bu=> ?_
  cases e1 with
  |normal=>
   obtain⟨s3,h3,CE⟩:=PY bu h2
   exact⟨Y,s3,rfl,cf,CE,h3⟩
  |exit id=>
   obtain⟨s3,h3,CE⟩:=PY bu h2
   cases h3
   exact hQ Y a' cf CE
  |ret=>
   obtain⟨s3,h3,CE⟩:=PY bu h2
   cases h3
   exact hQ Y a' cf CE
theorem z9z(hE:al P E)(hm:P.follows .mixedOrders=true){C:ah}(hC:C.Nat)(hf:∀f,cY P C f){id:Nat}{ops:Array Oper}{d:Bool}{X00 X0:aw}{s0:State}{a:Act}{e:Ex}{s':State}(hx:Ext X00 X0)(hr0:Rel X0 s0 a)(h0:FU E (C (Ex×State)) id ops d s0 ((fun e s=>some (e,s)) Ex.normal)=some (e,s')){Q:Exit->Act->World->Prop}(hQ0:∀Y a',Ext X00 Y->Rel Y s' a'->Q e.exit' a' Y.w):(Code.region id ops d).wp P Q a X0.w:=by
 unfold FU at h0
 obtain⟨X1,s1,Sx,AE,h01,eR⟩:=ak0 hr0 h0
 obtain⟨X,s,vA,cf,h,hr⟩:=zot _ X1 s1 eR h01
 have hw:X.w=X0.w:=vA.trans Sx
 have AD:Ext X0 X:=AE.trans cf
 clear h01 eR Sx vA AE cf
 have hQ:∀Y a',Ext X Y->Rel Y s' a'->Q e.exit' a' Y.w:=fun Y a' aZ bu=>hQ0 Y a' (hx.trans (AD.trans aZ)) bu
 rw[<-hw]
 clear h0 hr0 hQ0 AD hw
 cases d with
 |true=>
  simp only[cond_true] at h
  obtain⟨s1,h1,h2⟩:=jP (P3 hC (F:=fun s=>some (Ex.normal,s)) (G:=some) (K:=fun s=>some (Ex.normal,s)) (fun _=>rfl) ops.toList 0 s []) h
  cases h2
  exact agD hE hm hC hf hr h1 hQ
 |false=>
  simp only[cond_false] at h
  obtain⟨s1,h1,h2⟩:=jP (Fp hC (F:=fun s=>some (Ex.normal,s)) (G:=some) (K:=fun s=>some (Ex.normal,s)) (fun _=>rfl) ops.toList s) h
  cases h2
  refine wp_region (z196 hE hC hf (List.range ops.size) X s a hr (fun i hi=>List.mem_range.1 hi) ?_ hQ)
  have:(List.range ops.size).map (fun i=>ops.getD i default)=ops.toList:=by
   apply List.ext_getElem?
   intro i
   rw[List.getElem?_map]
   by_cases hi:i<ops.size
   ·simp [hi]
   ·simp [hi]
  rw[this];exact h1
theorem Fi(hE:al P E)(hm:P.follows .mixedOrders=true){C:ah}(hC:C.Nat)(hf:∀f,cY P C f)(k:Nat):∀c:Code,MW P E C k c
 | .skip=>fun X0 X s a e s' hF hx hr h Q hQ=>by
   simp only[ev,Option.some.injEq,Prod.mk.injEq] at h
   obtain⟨rfl,rfl⟩:=h
   exact wp_skip (hQ X a hx hr)
 | .region id ops d=>fun X0 X s a e s' hF hx hr h Q hQ=>by
   simp only[ev] at h
   split at h
   ·rename_i j q mB
    cases hj:Nat.beq id j with
    |true=>
     rw[hj,cond_true] at h
     cases d with
     |true=>cases h
     |false=>
      cases hq:Nat.beq q.2.2 0 with
      |true=>
       simp only[hq,cond_true] at h
       obtain⟨s1,h1,h2⟩:=jP (NL hC (F:=fun s=>some (Ex.normal,s)) (G:=some) (K:=fun s=>some (Ex.normal,s)) (fun _=>rfl)) h
       cases h2
       exact ahd hE hC hf (hF (by rw[mB];exact fun e=>by cases e)) hx hr h1 hQ
      |false=>
      simp only[hq,cond_false] at h
      obtain⟨s1,h1,h2⟩:=jP (NT (F:=fun s=>some (Ex.normal,s)) (G:=some) (K:=fun s=>some (Ex.normal,s)) (fun _=>rfl)) h
      cases h2
      exact ahz hE (hF (by rw[mB];exact fun e=>by cases e)) hx hr h1 hQ
    |false=>
     rw[hj,cond_false] at h
     exact z9z hE hm hC hf hx hr h hQ
   ·split at h
    ·exact z9z hE hm hC hf hx hr h hQ
    ·rename_i m l k hsg
     cases hi:Nat.beq id m with
     |true=>
      rw[hi,cond_true] at h
      cases d with
      |true=>cases h
      |false=>
       obtain⟨s1,h1,h2⟩:=jP (OV hC (F:=fun s=>some (Ex.normal,s)) (G:=some) (K:=fun s=>some (Ex.normal,s)) (fun _=>rfl)) h
       cases h2
       exact akz hE hC hf hx hr h1 hQ
     |false=>
     rw[hi,cond_false] at h
     cases oC:Nat.beq id l with
     |true=>
      rw[oC,cond_true] at h
      cases d with
      |false=>cases h
      |true=>
       obtain⟨s1,h1,h2⟩:=jP (NA hC (F:=fun s=>some (Ex.normal,s)) (G:=some) (K:=fun s=>some (Ex.normal,s)) (fun _=>rfl)) h
       cases h2
       exact agT hE hm hC hf hx hr h1 hQ
     |false=>
      rw[oC,cond_false] at h
      exact z9z hE hm hC hf hx hr h hQ
 | .seq x y=>fun X0 X s a e s' hF hx hr h Q hQ=>by
   simp only[ev] at h
   obtain⟨⟨e1,s1⟩,h1,h2⟩:=jP (vQ hC x _ (fun e s=>some (e,s)) (K:=fun z=>match z.1 with
    | .normal=>nm E k (z24 y) z.2 fun s=>ev E (C (Ex×State)) k y s (fun e s=>some (e,s))
    |e=>some (e,z.2)) (fun e s=>by cases e<;>rfl) s) h
   refine wp_seq (Fi hE hm hC hf k x X0 X s a e1 s1 hF hx hr h1 _ fun Y a' aZ bu=> ?_)
   cases e1 with
   |normal=>
    obtain⟨s2,h2,bu⟩:=akx bu h2
    exact Fi hE hm hC hf k y X0 Y s2 a' e s' hF aZ bu h2 Q hQ
   |exit id=>cases h2;exact hQ Y a' aZ bu
   |ret=>cases h2;exact hQ Y a' aZ bu
 | .cond c x y=>fun X0 X s a e s' hF hx hr h Q hQ=>by
   simp only[ev] at h
   have hc:=hr.aG c
   split at h
   case h_2=>cases h
   rename_i p w hs
   rw[hs] at hc
   have hv:=PQ hc
   have eR:Rel X (s.au (uV c) (bl p)) a:=by
    cases c with
    |tmp i=>
     have ix:s.slot i=[.aj .bool p w]:=by
      have hh:one (s.slot i)= .aj .bool p w:=hs
      match hm:s.slot i,hh with
      | [sv],hh=>have Cv:sv= .aj .bool p w:=hh;rw[Cv]
      | [],hh=>cases hh
      |_::_::_,hh=>cases hh
     exact(hr.know ix).1
    |_=>exact hr
   refine wp_cond_split hv (fun hp=> ?_) (fun hp=> ?_)
   ·subst hp
    exact Fi hE hm hC hf k x X0 X _ a e s' hF hx eR h Q hQ
   ·subst hp
    exact Fi hE hm hC hf k y X0 X _ a e s' hF hx eR h Q hQ
 | .block id b=>fun X0 X s a e s' hF hx hr h Q hQ=>by
   simp only[ev] at h
   obtain⟨⟨e1,s1⟩,h1,h2⟩:=jP (vQ hC b _ (fun e s=>some (e,s)) (K:=fun z=>match z.1 with
    | .exit j=>bif Nat.beq j id then some (.normal,z.2) else some (.exit j,z.2)
    |e=>some (e,z.2)) (fun e s=>by cases e<;>rfl) s) h
   refine wp_block (Fi hE hm hC hf k b X0 X s a e1 s1 hF hx hr h1 _ fun Y a' aZ bu=> ?_)
   cases e1 with
   |normal=>cases h2;exact hQ Y a' aZ bu
   |ret=>cases h2;exact hQ Y a' aZ bu
   |exit j=>
    simp only at h2
    show(if j=id then Q .normal a' Y.w else Q (.exit j) a' Y.w)
    cases hj:Nat.beq j id with
    |true=>
     rw[hj] at h2;cases h2
     rw[if_pos (Nat.eq_of_beq_eq_true hj)]
     exact hQ Y a' aZ bu
    |false=>
     rw[hj] at h2;cases h2
     rw[if_neg (Nat.ne_of_beq_eq_false hj)]
     exact hQ Y a' aZ bu
 | .loop b=>fun X0 X s a e s' hF hx hr h Q hQ=>by
   simp only[ev] at h
   obtain⟨s1,h,eR⟩:=PY (hr.drop _) h
   exact ahQ _ (agW hC (Fi hE hm hC hf k b) hF (Q:=Q) hQ) ⟨X,s1,rfl,hx,eR,h⟩
 | .exit id=>fun X0 X s a e s' hF hx hr h Q hQ=>by
   simp only[ev,Option.some.injEq,Prod.mk.injEq] at h
   obtain⟨rfl,rfl⟩:=h
   exact wp_exit (hQ X a hx hr)
 | .ret=>fun X0 X s a e s' hF hx hr h Q hQ=>by
   simp only[ev,Option.some.injEq,Prod.mk.injEq] at h
   obtain⟨rfl,rfl⟩:=h
   exact wp_ret (hQ X a hx hr)
 | .rangeFunc .. =>fun X0 X s a e s' hF hx hr h Q hQ=>by simp only[ev] at h;cases h
 | .scope _=>fun X0 X s a e s' hF hx hr h Q hQ=>by simp only[ev] at h;cases h
 | .label _=>fun X0 X s a e s' hF hx hr h Q hQ=>by simp only[ev] at h;cases h
 | .goto _=>fun X0 X s a e s' hF hx hr h Q hQ=>by simp only[ev] at h;cases h
 | .refuse _=>fun X0 X s a e s' hF hx hr h Q hQ=>by simp only[ev] at h;cases h
end Go.Ref

