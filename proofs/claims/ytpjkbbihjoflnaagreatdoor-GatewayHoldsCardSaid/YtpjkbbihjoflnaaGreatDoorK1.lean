/- No condition. -/
import Derived.Test.YtpjkbbihjoflnaaGreatDoorK0
import Derived.WideKeyRuns
import Derived.MapKept
import Derived.Laws.CopyRow
set_option linter.unusedVariables false
set_option linter.unusedSimpArgs false
set_option maxRecDepth 100000
namespace Go.Ref
open Go
variable {P:Program} {E:Env} {X:ax} {s:State} {a:Act} {o:Oper} {u:Out}
inductive Grown(w w':World)(e:TypeId)(k:Nat)(vb v':Value)(cx cy:List Value)(n:Nat):Prop where
 |same (h:w'=w) (hv:v'=vb) (hy:cy=[])
 |room (g cap:Nat) (cur fM:Array Value) (hb:∃m,vb= .slice (some ⟨g,0,none⟩) m cap) (hg:w.heap[g]? =some (.cells cur e (0,0))) (hv:v'= .slice (some ⟨g,0,none⟩) n cap) (hn:n<=cap) (hm:cap<=maxLen)
   (hw:w'=w.setRow g fM) (hs:fM.size=cap*k) (ht:fM.toList.take (n*k)=cx++cy)
 |new (cap:Nat) (fM:Array Value) (hv:v'= .slice (some ⟨w.heap.size,0,none⟩) n cap) (hn:n<=cap) (hm:cap<=maxLen) (hw:w'=w.drew.alloc (.cells fM e)) (hs:fM.size=cap*k) (ht:fM.toList.take (n*k)=cx++cy)
theorem abD(hE:aq P E){T ty e:TypeId}{t:Ty}(hT:E.ty T=some (.sl e t))(hk:0<t.cells)(nr:E.bytes e≠0){xs ys:List (El t)}{vb vx:Value}{pl:Place}
 (bR:bn X pl e t.cells xs.length vb) {cx cy:List Value} (rx:bf X (.arr xs.length t) xs cx) (sx:∀g m c,vb= .slice (some ⟨g,0,none⟩) m c->∀(i:Nat) v,cx[i]? =some v->X.az ((⟨g,0,none⟩:Addr).add i) v)
 (ry:bf X (.arr ys.length t) ys cy) (hvx:∃A c,vx= .slice A ys.length c/\(A=none->ys=[])/\∀ad,A=some ad->∀(i:Nat) v,cy[i]? =some v->X.az (ad.add i) v)
 (hbound:(xs.length+ys.length)*E.bytes e<=140737488355328):
 ∃v' w',(Builtin.append_ #[T,T] ty #[vb,vx]).run P X.w= .ok v' w'/\Grown X.w w' e t.cells vb v' cx cy (xs.length+ys.length)/\(v'= .slice none 0 0->xs.length+ys.length=0):=by
 obtain⟨hu,he⟩:=(hE.ty T _ hT).di
 obtain⟨i,hi,bZ,fQ,hz⟩:=(hE.ty e t he).info
 have hzs:(dJ t (zp t)).cells.size=t.cells:=by rw[uV (rR X t)];simp [uy]
 have wQ:cx.length=xs.length*t.cells:=rx.2.1
 have tE:cy.length=ys.length*t.cells:=ry.2.1
 have h1:∀u∈cy,u.oneCell'=true:=ry.one
 have hle:xs.length+ys.length<=140737488355328:=Nat.le_trans (Nat.le_mul_of_pos_right _ (Nat.pos_of_ne_zero nr)) hbound
 have zO:xs.length+ys.length<=maxLen:=by simp only[maxLen];omega
 obtain⟨A,c,rfl,hA,E9⟩:=hvx
 cases A with
 |none=>
  have tT:=hA rfl
  subst tT
  have XA:cy=[]:=List.eq_nil_of_length_eq_zero (by simpa using tE)
  subst XA
  rcases bR with⟨rfl,hn⟩|⟨g,cap,cur,rfl,hg,I2,rG,eh,how⟩
  ·refine⟨.slice none 0 0,X.w,?_,.same rfl rfl rfl,fun _=>by simp [hn]⟩
   simp [Builtin.append_,run_underlying hu,sizeOf,typeInfo,hi,Builtin.lenOf,Builtin.firstCells]
  ·refine⟨_,X.w,?_,.same rfl rfl rfl,fun e=>by cases e⟩
   simp [Builtin.append_,run_underlying hu,sizeOf,typeInfo,hi,Builtin.lenOf,Builtin.firstCells,I2,storeCells]
 |some ad=>
  have XT:∀j u,cy[j]? =some u->X.w.cell? (ad.add j)=some u:=fun j u hj=>(E9 ad rfl j u hj).2.1
  have lO:∀(old:Nat),(cx.toArray++cy.toArray++Builtin.zeroCells (dJ t (zp t)).cells (grownCap X.w (xs.length+ys.length) old e-(xs.length+ys.length))).size=grownCap X.w (xs.length+ys.length) old e*t.cells/\
   (cx.toArray++cy.toArray++Builtin.zeroCells (dJ t (zp t)).cells (grownCap X.w (xs.length+ys.length) old e-(xs.length+ys.length))).toList.take ((xs.length+ys.length)*t.cells)=cx++cy:=by
   intro old
   have Qk:=grownCap_ge X.w (xs.length+ys.length) old e
   refine⟨?_,?_⟩
   ·simp only[Array.size_append,List.size_toArray,size_zeroCells,hzs,wQ,tE,<-Nat.add_mul]
    congr 1
    omega
   ·have hl:(cx++cy).length=(xs.length+ys.length)*t.cells:=by rw[List.length_append,wQ,tE,Nat.add_mul]
    rw[<-hl]
    simp only[Array.toList_append]
    exact List.take_left
  rcases bR with⟨rfl,hn⟩|⟨g,cap,cur,rfl,hg,I2,rG,eh,how⟩
  ·have wK:cx=[]:=List.eq_nil_of_length_eq_zero (by rw[wQ,hn,Nat.zero_mul])
   subst wK
   by_cases hm:ys.length=0
   ·have XA:cy=[]:=List.eq_nil_of_length_eq_zero (by rw[tE,hm,Nat.zero_mul])
    subst XA
    refine⟨.slice none 0 0,X.w,?_,.same rfl rfl rfl,fun _=>by omega⟩
    simp [Builtin.append_,run_underlying hu,sizeOf,typeInfo,hi,Builtin.lenOf,Builtin.firstCells,hm,loadCells,loadCellsFrom]
   ·have Al:xs.length=0:=hn
    rw[Al,Nat.zero_add] at hbound hle zO
    have hr:=run_append_nil (P:=P) X.w T ty e i (dJ t (zp t)) hu hi hz ad ys.length c cy (by rw[bZ];exact tE) XT (by omega) (by omega) (by rw[fQ];omega)
    obtain⟨c1,c2⟩:=lO 0
    have Qk:=grownCap_ge X.w (xs.length+ys.length) 0 e
    have rG:=grownCap_le_maxLen X.w (xs.length+ys.length) 0 e (by rw[Al,Nat.zero_add];exact zO)
    refine⟨_,_,hr,.new (grownCap X.w (xs.length+ys.length) 0 e) _ (by rw[Al,Nat.zero_add]) Qk rG ?_ c1 c2,fun e=>by cases e⟩
    rw[Al,Nat.zero_add]
    simp
  ·by_cases mX:xs.length+ys.length<=cap
   ·have dc:xs.length*i.size+cy.length<=cur.size:=by rw[bZ,tE,eh,<-Nat.add_mul];exact Nat.mul_le_mul_right _ mX
    have hr:=run_append_room (P:=P) X.w T ty e i hu hi g xs.length cap cur hg ad ys.length c cy (by rw[bZ];exact tE) XT h1 mX dc
    refine⟨_,_,hr,.room g cap cur _ ⟨_,rfl⟩ hg rfl mX rG rfl ?_ ?_,fun e=>by cases e⟩
    ·simp only[List.size_toArray,List.length_append,List.length_take,List.length_drop,Array.length_toList]
     omega
    ·have mY:cur.toList.take (xs.length*i.size)=cx:=by
      rw[bZ]
      apply List.ext_getElem?
      intro q
      by_cases hq:q<xs.length*t.cells
      ·rw[List.getElem?_take,if_pos hq]
       have Jm:=List.getElem?_eq_getElem (l:=cx) (i:=q) (by rw[wQ];exact hq)
       have:=(sx g _ _ rfl q _ Jm).2.1
       rw[iq,Nat.zero_add] at this
       simp only[World.cell?,hg] at this
       rw[Jm]
       simpa using this
      ·rw[List.getElem?_eq_none (by rw[List.length_take];omega),List.getElem?_eq_none (by omega)]
     have hl:(cx++cy).length=(xs.length+ys.length)*t.cells:=by rw[List.length_append,wQ,tE,Nat.add_mul]
     rw[mY,<-hl]
     simp only[List.take_left]
   ·have holds:∀j u,cx[j]? =some u->X.w.cell? ((⟨g,0,none⟩:Addr).add j)=some u:=fun j u hj=>(sx g _ _ rfl j u hj).2.1
    have hr:=run_append_grow (P:=P) X.w T ty e i (dJ t (zp t)) hu hi hz ⟨g,0,none⟩ xs.length cap cx (by rw[bZ];exact wQ) holds ad ys.length c cy (by rw[bZ];exact tE) XT (by omega) (by omega) (growslice_fits (by omega) (by rw[fQ];exact hbound))
    obtain⟨c1,c2⟩:=lO cap
    exact⟨_,_,hr,.new _ _ rfl (grownCap_ge _ _ _ _) (grownCap_le_maxLen _ _ _ _ zO) rfl c1 c2,fun e=>by cases e⟩
theorem bn.Xl{X:ax}{s:State}{pl:Place}{e:TypeId}{k n:Nat}{v:Value}(h:bn X pl e k n v)(hf:¬cS s pl)(q:Place):∃Y,dP s X Y/\bn Y q e k n v:=by
 rcases h with h|⟨g,cap,cur,h1,h2,h3,h4,h5,h6⟩
 ·exact⟨X,dP.refl s X,.inl h⟩
 ·refine⟨{X with ow:=fun g'=>if g'=g then .row q (n*k) else X.ow g'},⟨rfl,rfl,fun g'=> ?_⟩,.inr ⟨g,cap,cur,h1,h2,h3,h4,h5,by simp⟩⟩
  by_cases e:g'=g
  ·subst e;exact .inr ⟨pl,_,q,h6,hf,by simp⟩
  ·exact .inl (by simp [e])
theorem amU{R:Type}{t t':Ty}{x:El t'}{w:List (List Nat)}{K:El t->Option R}{z:R}(h:(SV.ak t' x w).el t K=some z):∃he:t'.cj t=true,K (Ty.cast he x)=some z:=by
 simp only[SV.el] at h
 split at h
 ·rename_i he;exact⟨he,h⟩
 ·cases h
theorem aa2(hE:aq P E)(hr:Rel X s a){ops:List Oper}{dF:Array Operand}{ts:Array TypeId}(ho:o.op= .call ⟨.builtin .append,dF,ts⟩){C:FuncId->bU Out}(h:act E C ops o s some=some u):aI P X s a o u:=by
 unfold act at h
 simp only[ho] at h
 split at h
 case h_2=>cases h
 rename_i b x T U rL BA
 have has:dF= #[b,x]:=by rw[<-Array.toArray_toList (xs:=dF),rL]
 have kj:ts= #[T,U]:=by rw[<-Array.toArray_toList (xs:=ts),BA]
 subst has kj
 have hb:=hr.aH b
 have hx:=hr.aH x
 unfold Pf at h
 split at h
 case isTrue=>cases h
 rename_i hTU
 have hTU:T=U:=by
  have:T.beq U=true:=by cases qP:Nat.beq T U<;>simp_all
  exact Nat.eq_of_beq_eq_true this
 subst hTU
 split at h
 case h_2=>cases h
 rename_i e t hT
 split at h
 case isTrue=>cases h
 rename_i h0
 have h0:Nat.beq (E.bytes e) 0=false/\Nat.beq t.cells 0=false:=by
  cases h1:Nat.beq (E.bytes e) 0<;>cases h2:Nat.beq t.cells 0<;>simp_all
 have nr:E.bytes e≠0:=fun e0=>by rw[e0] at h0;simp at h0
 have hk:0<t.cells:=by
  rcases Nat.eq_zero_or_pos t.cells with e0|e0
  ·rw[e0] at h0;simp at h0
  ·exact e0
 have key:∀(xs ys:List (El t)) (cl:List (Nat×Nat)) (pl:Place),¬cS (s.close cl) pl->bn X pl e t.cells xs.length (a.eval b)->bf X (.sl e t) xs [a.eval b]->bf X (.sl e t) ys [a.eval x]->
  (xs.length+ys.length)*E.bytes e<=140737488355328->aI P X s a o {v:=[.ak (.sl e t) (xs++ys:List (El t)) [[]]],cl:=cl}:=by
  intro xs ys cl pl E7 bR Cl lk hbound
  obtain⟨A1,c1,Ai,Av⟩:=Cl
  have e1:a.eval b= .slice A1 xs.length c1:=by simpa using Ai
  obtain⟨A2,c2,Jk,JH⟩:=lk
  have e2:a.eval x= .slice A2 ys.length c2:=by simpa using Jk
  obtain⟨_,_,cx,rx,_,sx⟩:=zaj (X:=X) (e:=e) (show bf X (.sl e t) xs [.slice A1 xs.length c1] from⟨A1,c1,rfl,Av⟩)
  obtain⟨_,_,cy,ry,ny,sy⟩:=zaj (X:=X) (e:=e) (show bf X (.sl e t) ys [.slice A2 ys.length c2] from⟨A2,c2,rfl,JH⟩)
  have sx':∀g m c,a.eval b= .slice (some ⟨g,0,none⟩) m c->∀(i:Nat) v,cx[i]? =some v->X.az ((⟨g,0,none⟩:Addr).add i) v:=by
   intro g m c hv
   rw[e1] at hv
   injection hv with hA
   exact sx _ hA
  obtain⟨v',w',aW,BK,tH⟩:=abD (ty:=o.type) hE hT hk nr bR rx sx' ry ⟨A2,c2,e2,ny,sy⟩ hbound
  have wQ:cx.length=xs.length*t.cells:=rx.2.1
  have tE:cy.length=ys.length*t.cells:=ry.2.1
  have Jc:(execOp a.eval o).run P X.w= .ok (.value v') w':=by
   simp only[execOp,ho,resolve,invoke,builtin,Sem.run_bind,Sem.run_pure,Result.andThen_ok,List.map_toArray,List.map_cons,List.map_nil,aW]
  have fin:∀(Y:ax),Y.w=w'->Mod (s.close cl) X Y->bf Y (.arr (xs.length+ys.length) t) (xs++ys:List (El t)) (cx++cy)->bn Y (.c (o.dst.getD 0) 0 []) e t.cells (xs.length+ys.length) v'->
   bf Y (.sl e t) (xs++ys:List (El t)) [v']->aI P X s a o {v:=[.ak (.sl e t) (xs++ys:List (El t)) [[]]],cl:=cl}:=by
   intro Y hY hm eR XV BU
   refine⟨Y,v',.inl (by rw[hY];exact Jc),hm.ext,((hr.close cl).mod hm).fin ⟨[v'],BU,rfl,Nb ?_⟩ (fun id t p E6=>by simp at E6)⟩
   rw[List.length_append]
   exact XV
  cases BK with
  |same h1 h2 h3=>
   subst h2
   have hy0:ys=[]:=by
    have:ys.length=0:=by
     rcases Nat.mul_eq_zero.1 (show ys.length*t.cells=0 by rw[<-tE,h3];rfl) with h|h
     ·exact h
     ·omega
    exact List.eq_nil_of_length_eq_zero this
   subst hy0
   obtain⟨Y,l8,hO2⟩:=bn.Xl (s:=s.close cl) bR E7 (.c (o.dst.getD 0) 0 [])
   refine fin Y (by rw[l8.w,h1]) l8.mod ?_ (by simpa using hO2) ?_
   ·have:=(Fi rx ry)
    exact this.aj (fun _ _=>l8.az.1)
   ·rw[List.append_nil]
    exact bf.aj (fun _ _=>l8.az.1) (show bf X (.sl e t) xs [a.eval b] from⟨A1,c1,Ai,Av⟩)
  |new cap fM hv hn hm hw hs ht=>
   let Y:ax:=⟨w',fun g=>if g=X.w.heap.size then .row (.c (o.dst.getD 0) 0 []) ((xs.length+ys.length)*t.cells) else X.ow g,X.β⟩
   have wO:eF (s.close cl) X Y:=⟨by simp [Y,hw],by simp only[Y,hw];rfl,by simp only[Y,hw];rfl,by simp only[Y,hw];rfl,fun g hg=>⟨by simp only[Y];rw[if_neg (by omega)],by simp only[Y,hw];exact RowKit.Below.heap_alloc _ _ _ hg⟩,rfl,fun _ _ _=>rfl⟩
   have aD:Y.w.heap[X.w.heap.size]? =some (.cells fM e (0,0)):=by simp only[Y,hw];exact heap_alloc_new X.w.drew _
   have how:Y.ow X.w.heap.size= .row (.c (o.dst.getD 0) 0 []) ((xs.length+ys.length)*t.cells):=by simp [Y]
   have aL:=(Fi rx ry).aj (fun _ _=>wO.az)
   refine fin Y rfl wO.mod aL (.inr ⟨_,cap,fM,hv,aD,hn,hm,hs,how⟩) ?_
   rw[hv,<-List.length_append]
   exact zi6 (cs:=cx++cy) aD (by rw[List.length_append];exact how) (by rw[List.length_append];exact ht) (by rw[List.length_append];exact aL) (by rw[List.length_append];exact hn)
  |room g cap cur fM lN hg hv hn hm hw hs ht=>
   obtain⟨m,BB⟩:=lN
   rcases bR with⟨hz,_⟩|⟨g',wD,Iq,iQ,E2,I2,rG,eh,how⟩
   ·rw[hz] at BB;cases BB
   have BJ:g'=g:=by rw[BB] at iQ;injection iQ with h1;injection h1 with h1;injection h1 with h1;exact h1.symm
   subst BJ
   have Xz:Iq=cur:=by rw[hg] at E2;cases E2;rfl
   subst Xz
   have ar:=u7 hg
   let Y:ax:=⟨w',fun k=>if k=g' then .row (.c (o.dst.getD 0) 0 []) ((xs.length+ys.length)*t.cells) else X.ow k,X.β⟩
   have aD:Y.w.heap[g']? =some (.cells fM e (0,0)):=by simp only[Y,hw];exact setRow_heap X.w g' Iq fM e (0,0) hg
   have n4:Y.ow g'= .row (.c (o.dst.getD 0) 0 []) ((xs.length+ys.length)*t.cells):=by simp [Y]
   have dW:∀ad v,X.az ad v->Y.az ad v:=by
    intro ad v jt
    by_cases heq:ad.block=g'
    ·obtain⟨k1,k2,k3⟩:=jt
     rw[heq,how] at k3
     have k3:ad.off<xs.length*t.cells:=k3
     have had:ad=(⟨g',0,none⟩:Addr).add ad.off:=by rw[iq,Nat.zero_add];cases ad;simp_all
     have Jm:=List.getElem?_eq_getElem (l:=cx) (i:=ad.off) (by rw[wQ];exact k3)
     have wK:=(sx' g' _ _ BB ad.off _ Jm).2.1
     rw[<-had,k2] at wK
     refine⟨k1,?_,?_⟩
     ·have hq:fM.toList[ad.off]? =some v:=by
       have:=congrArg (fun l=>l[ad.off]?) ht
       simp only[List.getElem?_take] at this
       have hle:xs.length*t.cells<=(xs.length+ys.length)*t.cells:=Nat.mul_le_mul_right _ (Nat.le_add_right _ _)
       rw[if_pos (by omega),List.getElem?_append_left (by rw[wQ];exact k3),Jm] at this
       rw[this];exact wK.symm
      simp only[World.cell?,heq,aD,k1]
      simpa using hq
     ·rw[heq,n4]
      have hle:xs.length*t.cells<=(xs.length+ys.length)*t.cells:=Nat.mul_le_mul_right _ (Nat.le_add_right _ _)
      show ad.off<_
      omega
    ·refine⟨jt.1,?_,?_⟩
     ·have:=jt.2.1
      simp only[World.cell?,Y,hw] at this⊢
      rw[setRow_other X.w g' ad.block fM heq]
      exact this
     ·simp only[Y]
      rw[if_neg heq]
      exact jt.2.2
   have BS:Mod (s.close cl) X Y:=⟨dW,by simp [Y,hw],by simp only[Y,hw];rfl,by simp only[Y,hw];rfl,by simp only[Y,hw];rfl,rfl,fun _ _ _=>rfl,fun k hk=>by
    by_cases heq:k=g'
    ·subst heq;exact .inr ⟨pl,_,how,E7⟩
    ·refine .inl ⟨by simp only[Y];rw[if_neg heq],?_⟩
     simp only[Y,hw]
     exact setRow_other X.w g' k fM heq⟩
   have aL:=(Fi rx ry).aj dW
   refine fin Y rfl BS aL (.inr ⟨_,cap,fM,hv,aD,hn,hm,hs,n4⟩) ?_
   rw[hv,<-List.length_append]
   exact zi6 (cs:=cx++cy) aD (by rw[List.length_append];exact n4) (by rw[List.length_append];exact ht) (by rw[List.length_append];exact aL) (by rw[List.length_append];exact hn)
 split at h
 ·rename_i iM
  rw[iM] at hb
  obtain⟨ys,h,tT⟩:=zy h
  cases hd:decide (List.length ys*E.bytes e<=140737488355328) with
  |false=>rw[hd] at h;cases h
  |true=>
   rw[hd] at h
   cases h
   obtain⟨cs,lk,ev⟩:=tT X _ _ hx
   have BB:a.eval b= .slice none 0 0:=hb
   have tK:cs=[a.eval x]:=by
    obtain⟨A,c,eh,_⟩:=lk
    rw[ev,eh];rfl
   have:=key [] ys [] (.r 0 []) (fun hf=>hf) (.inl ⟨BB,rfl⟩) (by rw[BB];exact⟨none,0,rfl,Nat.le_refl _,fun j x hj=>by simp at hj⟩) (by rw[<-tK];exact lk) (by simpa using of_decide_eq_true hd)
   simpa using this
 ·rename_i t' xs0 xd iM
  rw[iM] at hb
  split at h
  case isTrue=>cases h
  rename_i II
  have II:gm xd []=true:=by cases qP:gm xd []<;>simp_all
  obtain⟨heq,h⟩:=amU h
  have:=Ty.aJ heq
  subst this
  obtain⟨ys,h,tT⟩:=zy h
  cases hd:decide ((List.length (Ty.cast heq xs0)+List.length ys)*E.bytes e<=140737488355328) with
  |false=>rw[hd] at h;cases h
  |true=>
   rw[hd] at h
   cases h
   obtain⟨cs,lk,ev⟩:=tT X _ _ hx
   have cC:=AE II
   obtain⟨i,rfl⟩:=alk iM (fun e=>by rw[e] at cC;cases cC)
   obtain⟨cs1,r1,Qh,hO⟩:=hb
   have tK:cs=[a.eval x]:=by
    obtain⟨A,c,eh,_⟩:=lk
    rw[ev,eh];rfl
   have Ad:cs1=[a.eval (.tmp i)]:=by
    obtain⟨A,c,eh,_⟩:=r1
    rw[Qh,eh];rfl
   obtain⟨e',t'',xs',v',_,g1,g2,g3⟩:=hO [] cC
   simp only[El.get,Option.some.injEq,Sigma.mk.injEq,Ty.sl.injEq] at g1
   obtain⟨⟨rfl,rfl⟩,g1⟩:=g1
   cases g1
   have iQ:v'=a.eval (.tmp i):=by
    rw[Ad] at g2
    simpa [Ty.off] using g2.symm
   rw[iQ] at g3
   exact key xs0 ys [(i,0)] (.c i 0 []) cS.close g3 (by rw[<-Ad];exact r1) (by rw[<-tK];exact lk) (of_decide_eq_true hd)
 ·cases h
end Go.Ref

namespace Go.Ref
open Go
variable {P:Program} {E:Env} {X:ax} {s:State} {a:Act} {o:Oper} {u:Out}
def ax.obj(X:ax)(r:Nat)(b:Obj):ax:={X with w:={X.w with heap:=X.w.heap.setIfInBounds r b}}
theorem Fo{r g:Nat}{b:Obj}(h:g≠r):(X.obj r b).w.heap[g]? =X.w.heap[g]? :=by
 simp [ax.obj,Ne.symm h]
theorem L1{r:Nat}{b b':Obj}(h:X.w.heap[r]? =some b'):(X.obj r b).w.heap[r]? =some b:=(MapKept.heap_set h).1
theorem DY{r id:Nat}{b:Obj}(h:X.ow r= .box id){ad:Addr}{v:Value}(hs:X.az ad v):(X.obj r b).az ad v:=by
 have bK:ad.block≠r:=fun e=>by
  have:=hs.2.2
  rw[e,h] at this
  exact this
 refine⟨hs.1,?_,hs.2.2⟩
 have:=hs.2.1
 simp only[World.cell?] at this⊢
 rw[Fo bK]
 exact this
theorem M9{r id:Nat}{b:Obj}(h:X.ow r= .box id):Ext X (X.obj r b) where
 az:=fun _ _=>DY h
 size:=by simp [ax.obj]
 os:=rfl
 tape:=rfl
 output:=rfl
 β0:=rfl
 still:=fun g _ bS=>by
  have bK:g≠r:=fun e=>by rw[e,h] at bS;exact bS
  exact⟨rfl,Fo bK⟩
theorem bn.obj{r id:Nat}{b:Obj}(h:X.ow r= .box id){pl:Place}{e:TypeId}{k n:Nat}{v:Value}(ho:bn X pl e k n v):bn (X.obj r b) pl e k n v:=by
 rcases ho with ho|⟨g,cap,cur,h1,h2,h3,h4,h5,h6⟩
 ·exact .inl ho
 ·have bK:g≠r:=fun e=>by rw[e,h] at h6;cases h6
  exact .inr ⟨g,cap,cur,h1,(Fo bK).trans h2,h3,h4,h5,h6⟩
theorem bk.obj{r id:Nat}{b:Obj}(h:X.ow r= .box id){pl:List Nat->Place}{t:Ty}{x:El t}{c:List Value}{own:List (List Nat)}(ho:bk X pl t x c own):bk (X.obj r b) pl t x c own:=fun p hp=>by
 obtain⟨e,t',xs,v,g0,g1,g2,g3⟩:=ho p hp
 exact⟨e,t',xs,v,g0,g1,g2,g3.obj h⟩
theorem aA.obj{r id:Nat}{b:Obj}(h:X.ow r= .box id){pl:List Nat->Place}{sv:SV}{v:Value}(hk:∀bc c d j,sv= .bA bc c d j->bc≠id)(hr:aA X pl sv v):aA (X.obj r b) pl sv v:=by
 cases sv with
 |ak t x own=>
  obtain⟨c,h1,h2,h3⟩:=hr
  exact⟨c,h1.aj (fun _ _=>DY h),h2,h3.obj h⟩
 |view t x=>
  obtain⟨ad,c,h1,h2,h3,h4⟩:=hr
  exact⟨ad,c,h1,h2,h3.aj (fun _ _=>DY h),fun i u hi=>DY h (h4 i u hi)⟩
 |cap f t x u y=>exact rh (fun _ _=>DY h) hr
 |bA bc c d j=>
  obtain⟨r',h1,h2,h3⟩:=hr
  have bK:r'≠r:=fun e=>by rw[e,h] at h2;injection h2 with h2;exact hk bc c d j rfl h2.symm
  refine⟨r',h1,h2,?_⟩
  simp only[World.cell?] at h3⊢
  rw[show(X.obj r b).w.heap[r']? =X.w.heap[r']? from Fo bK];exact h3
 |_=>exact hr
theorem Rel.obj{r id:Nat}{B B':bC}{b:Obj}(hr:Rel X s a)(hb:s.bs[id]? =some (some B))(hβ:X.β id=some r)(h:X.ow r= .box id)(hB:bD (X.obj r b) id r B')(hg:B.t.eB=false\/ []∈B.own):Rel (X.obj r b) (s.aC (some (id,B'))) a where
 size:=hr.size
 gn:=by simpa [State.aC] using hr.gn
 bP:=fun i l v hl hv=>(hr.bP i l v hl hv).iC fun j sv u hm jt=>jt.obj h (fun bc c d k e e2=>hr.od hb hg i l c d k hl (e2▸e▸List.mem_of_getElem? hm))
 boxes:=fun bc B2 cR=>by
  have ar:id<s.bs.length:=(List.getElem?_eq_some_iff.1 hb).1
  simp only[State.aC,List.getElem?_set] at cR
  by_cases e:id=bc
  ·subst e
   rw[if_pos rfl,if_pos ar] at cR
   cases cR;exact⟨r,hβ,hB⟩
  ·rw[if_neg e] at cR
   obtain⟨r',h1,h4,h2⟩:=hr.boxes bc B2 cR
   have bK:r'≠r:=fun e2=>by rw[e2,h] at h4;cases h4;exact e rfl
   exact⟨r',h1,h4,h2.move (fun _ _=>DY h) (Fo bK) (fun cs h5=>h5.obj h) fun _ _ g o _ ho hw=>⟨(Fo (fun e3=>by rw[e3,h] at hw;cases hw)).trans ho,hw⟩⟩
 live:=fun i l bc t p hi hm=>by
  have ar:id<s.bs.length:=(List.getElem?_eq_some_iff.1 hb).1
  obtain⟨B2,cR⟩:=hr.live i l bc t p hi hm
  simp only[State.aC,List.getElem?_set]
  by_cases e:id=bc
  ·subst e;exact⟨B',by rw[if_pos rfl,if_pos ar]⟩
  ·rw[if_neg e];exact⟨B2,cR⟩
 defers:=hr.defers
 bA:=hr.bA.aC (hr.od hb hg)
def ax.kB(X:ax)(b:Obj)(w:Ow)(β:Nat->Option Nat):ax:={w:=X.w.alloc b,ow:=fun g=>if g=X.w.heap.size then w else X.ow g,β}
theorem KK(X:ax)(s:State)(b:Obj)(w:Ow)(β:Nat->Option Nat)(hβ0:β 0=X.β 0)(hβ:∀(id:Nat) B,s.bs[id]? =some (some B)->β id=X.β id):eF s X (X.kB b w β) where
 size:=by simp [ax.kB]
 os:=rfl
 tape:=rfl
 output:=rfl
 mI:=fun g hg=>⟨by simp only[ax.kB];rw[if_neg (by omega)],RowKit.Below.heap_alloc _ _ _ hg⟩
 β0:=hβ0
 β:=hβ
theorem zha(hr:Rel X s a){t p:Ty}{x:El t}{b:Obj}{v:Value}(aW:(execOp a.eval o).run P X.w= .ok (.value v) (X.w.alloc b))
 (IJ:∀Y:ax,(∀ad v,X.az ad v->Y.az ad v)->Y.w.heap[X.w.heap.size]? =some b->∀pl,dm Y X.w.heap.size pl t x []) (n7:nb p [] X.w.heap.size v) (h:j7 s o.dst t x p some=some u):aI P X s a o u:=by
 unfold j7 at h
 split at h
 case h_2=>cases h
 rename_i d hd
 split at h
 case h_2=>cases h
 rename_i hb
 cases h
 let β:Nat->Option Nat:=fun id=>if id=d+1 then some X.w.heap.size else X.β id
 have ar:d+1<s.bs.length:=(List.getElem?_eq_some_iff.1 hb).1
 have hk:eF s X (X.kB b (.box (d+1)) β):=KK X _ _ _ _ (by show(if _ then _ else _)=_;rw[if_neg (by omega)]) (fun id B hB=>by
  show(if id=d+1 then _ else _)=_
  rw[if_neg (fun e=>by rw[e,hb] at hB;cases hB)])
 have bI:bD (X.kB b (.box (d+1)) β) (d+1) X.w.heap.size ⟨t,x,[]⟩:=⟨by simp [ax.kB],IJ _ (fun _ _=>hk.az) (heap_alloc_new X.w _) _⟩
 have hβd:β (d+1)=some X.w.heap.size:=by show(if d+1=d+1 then _ else _)=_;rw[if_pos rfl]
 have eR:=(hr.dj hk).fc ar hb hβd bI
 refine⟨X.kB b (.box (d+1)) β,v,.inl aW,hk.ext,?_⟩
 rw[hd]
 refine eR.put (fun d' e=> ?_) (fun id t' q hm=> ?_)
 ·cases e
  exact⟨X.w.heap.size,hβd,n7⟩
 ·have:id=d+1:=by have:=hm;simp at this;exact this.1
  subst this
  exact⟨⟨t,x,[]⟩,by simp [State.aC,List.getElem?_set,ar]⟩
def jX:(t:Ty)->El t->Value
 | .bool,b=> .bool b
 | .int k,n=> .int k n
 | .str,x=> .string x
 |_,_=>Go.undef
def Ty.ia:Ty->Bool
 | .bool| .int _| .str=>true
 |_=>false
theorem zq3{t:Ty}(hk:t.ia=true){x:El t}{v:Value}(h:eg X t x v):v=jX t x:=by
 obtain⟨cs,h1,h2⟩:=h
 cases t<;>simp [Ty.ia] at hk
 ·rw[h2,uZ h1];rfl
 ·rw[h2,lr h1];rfl
 ·rw[h2,nm h1];rfl
theorem NO{T:TypeId}{t:Ty}(hE:aq P E)(hT:E.ty T=some t)(hk:t.ia=true)(x:El t):∃d,P.underlying T=some d/\MapKept.IsKey d (jX t x)/\∀y,Instr.sameNow d (jX t x) (jX t y)=some (fO t x y):=by
 have hu:=(hE.ty T t hT).di
 cases t<;>simp [Ty.ia] at hk
 ·have hu:P.underlying T=some .bool:=hu
  exact⟨_,hu,trivial,fun y=>by cases x<;>cases y<;>rfl⟩
 ·have hu:P.underlying T=some (.int _):=hu
  refine⟨_,hu,by simp [MapKept.IsKey,jX],fun y=> ?_⟩
  simp only[Instr.sameNow,jX,if_true,fO]
  congr 1
 ·have hu:P.underlying T=some .string:=hu
  refine⟨_,hu,trivial,fun y=> ?_⟩
  simp only[Instr.sameNow,jX,fO]
  congr 1
  by_cases e:x=y
  ·rw[decide_eq_true e];exact(MapKept.bytes_beq _ _).2 e
  ·rw[decide_eq_false e]
   cases hb:(x==y) with
   |false=>rfl
   |true=>exact absurd ((MapKept.bytes_beq _ _).1 hb) e
theorem LI{kt vt:Ty}{d:TypeDesc}{k:El kt}(hk:kt.ia=true)(hs:∀y,Instr.sameNow d (jX kt k) (jX kt y)=some (fO kt k y)):∀(es:List MapEntry) (xs:List (El kt×El vt)) (i:Nat),es.length=xs.length->
 (∀(i:Nat) q e,xs[i]? =some q->es[i]? =some e->eg X kt q.1 e.key/\eg X vt q.2 e.val)->
 (eW (fO kt) xs k=false/\eV (fO kt) (El.bT vt) xs k=El.bT vt/\Instr.findNow d (jX kt k) es i=some none)\/(eW (fO kt) xs k=true/\∃j v,Instr.findNow d (jX kt k) es i=some (some (j,v))/\eg X vt (eV (fO kt) (El.bT vt) xs k) v)
 | [],[],i,_,_=> .inl ⟨rfl,rfl,rfl⟩
 |e::es,q::xs,i,hl,hp=>by
  obtain⟨h1,h2⟩:=hp 0 q e rfl rfl
  have hke:=zq3 hk h1
  have iP:=hs q.1
  rw[<-hke] at iP
  simp only[Instr.findNow,iP,eW,eV]
  cases heq:fO kt k q.1 with
  |true=>exact .inr ⟨rfl,i,e.val,rfl,h2⟩
  |false=>exact LI hk hs es xs (i+1) (by simpa using hl) (fun i q e hq he=>hp (i+1) q e (by simpa using hq) (by simpa using he))
 | [],_::_,_,hl,_=>by simp at hl
 |_::_,[],_,hl,_=>by simp at hl
theorem zuo:∀{t:Ty},t.gL=true->t.depth<=2
 | .unit,_=>by decide
 | .pair (.int _) b,h=>by
   have:=zuo (t:=b) h
   simp only[Ty.depth];omega
theorem M1:∀{t:Ty},t.gL=true->∀x y:El t,dz t x y=some (uK t x y)
 | .unit,_,_,_=>rfl
 | .pair (.int _) b,h,x,y=>by
   have:=M1 (t:=b) h x.2 y.2
   simp only[dz,this,uK]
theorem gF(hE:aq P E){xs:Array Value}(w:World)(em:Bool)(n:Nat):
 ∀(fl:List Field) (t:Ty) (off:Nat),ja E fl t off->t.gL=true->∀(x:El t) (c1:List Value),bf X t x c1->(xs.toList.drop off).take t.cells=c1->
  (forIn fl () fun(f:Field) (_:Unit)=>(if f.name≠ "_" then do
    let __do_lift<-part f.type xs f.offset
    Instr.checkKey em (n+1) f.type __do_lift
    pure (ForInStep.yield ()) else pure (ForInStep.yield ()):Sem (ForInStep Unit))).run P w= .ok () w:=by
 intro fl
 induction fl with
 |nil=>intro t off hf hi x c1 h1 h3;simp [List.forIn_nil]
 |cons f fl Ys=>
  intro t off hf hi x c1 h1 h3
  cases t<;>simp only[ja] at hf<;>try exact hf.elim
  rename_i ta tb
  obtain⟨ho,Fa,hn,bG⟩:=hf
  obtain⟨ca,cb,e1,ra,rb⟩:=h1
  have la:=ra.len
  have t1:(xs.toList.drop off).take ta.cells=ca:=by
   have:=congrArg (fun l=>l.take ta.cells) (h3.trans e1)
   simp only[List.take_take,Ty.cells] at this
   rw[Nat.min_eq_left (Nat.le_add_right _ _),<-la,List.take_left] at this
   rw[<-la];exact this
  have u1:(xs.toList.drop (off+ta.cells)).take tb.cells=cb:=by
   have:=congrArg (fun l=>l.drop ta.cells) (h3.trans e1)
   simp only[Ty.cells] at this
   rw[List.drop_take,Nat.add_sub_cancel_left,List.drop_drop,<-la,List.drop_left] at this
   rw[<-la];exact this
  have n5:=DZ hE Fa ra (all:=xs) (off:=f.offset) (by rw[ho];exact t1) w
  cases ta<;>simp [Ty.gL] at hi
  rename_i k
  have hu:P.underlying f.type=some (.int k):=(hE.ty f.type _ Fa).di
  have EZ:(Instr.checkKey em (n+1) f.type (dJ (.int k) ca)).run P w= .ok () w:=by
   rw[lr ra]
   exact MapKept.run_checkKey hu (by simp [MapKept.IsKey]) em n
  rw[List.forIn_cons]
  simp only[hn,ne_eq,not_false_eq_true,if_true,Sem.run_bind,n5,EZ,Result.andThen_ok,Sem.run_pure]
  exact Ys tb _ bG hi x.2 cb rb u1
theorem KL{T:TypeId}{t:Ty}(hE:aq P E)(hT:E.ty T=some t)(hk:t.isKey=true){x:El t}{v:Value}(h:eg X t x v)(em:Bool)(w:World):(Instr.checkKey em 10000 T v).run P w= .ok () w:=by
 cases h1:t.ia with
 |true=>
  obtain⟨d,hd,Ql,_⟩:=NO hE hT h1 x
  rw[zq3 h1 h]
  exact MapKept.run_checkKey hd Ql em 9999
 |false=>
  have hu:=(hE.ty T t hT).di
  cases t<;>simp [Ty.isKey,Ty.ia] at hk h1
  rename_i ta tb
  obtain⟨fs,hN,iB,Qs,_⟩:=hu
  obtain⟨cs,hr,rfl⟩:=h
  rw[jr rfl]
  unfold Instr.checkKey
  simp only[Sem.run_bind,run_underlying hN,Result.andThen_ok]
  rw[<-Array.forIn_toList]
  have:=gF (X:=X) hE (xs:=cs.toArray) w em 9998 fs.toList (.pair ta tb) 0 iB hk x cs hr (by have:=hr.len;simp only[List.drop_zero];rw[<-this];exact List.take_length)
  exact(congrArg (fun r=>Result.andThen r (fun a w'=>Sem.run P (pure ()) w')) this).trans (by simp)
theorem zni(hE:aq P E){T:TypeId}{kt vt:Ty}(hT:E.ty T=some kt)(hk:kt.gL=true){k:El kt}{v:Value}(h:eg X kt k v)(w:World):∀(es:List MapEntry) (xs:List (El kt×El vt)) (i:Nat),es.length=xs.length->
 (∀(i:Nat) q e,xs[i]? =some q->es[i]? =some e->eg X kt q.1 e.key/\eg X vt q.2 e.val)->
 (eW (uK kt) xs k=false/\eV (uK kt) (El.bT vt) xs k=El.bT vt/\(Instr.findAsking T v es i).run P w= .ok none w)\/(eW (uK kt) xs k=true/\∃j u,(Instr.findAsking T v es i).run P w= .ok (some (j,u)) w/\eg X vt (eV (uK kt) (El.bT vt) xs k) u)
 | [],[],i,_,_=> .inl ⟨rfl,rfl,by simp [Instr.findAsking]⟩
 |e::es,q::xs,i,hl,hp=>by
  obtain⟨h1,h2⟩:=hp 0 q e rfl rfl
  obtain⟨c1,r1,rfl⟩:=h
  obtain⟨c2,r2,e2⟩:=h1
  have heq:(Op.equal T (dJ kt c1) e.key).run P w= .ok (uK kt k q.1) w:=by
   rw[e2]
   exact Kp (X:=X) hE w 10000 kt T hT (Nat.le_trans (zuo hk) (by decide)) k q.1 c1 c2 _ r1 r2 (M1 hk k q.1)
  unfold Instr.findAsking
  simp only[Sem.run_bind,heq,Result.andThen_ok,eW,eV]
  cases heq:uK kt k q.1 with
  |true=>exact .inr ⟨rfl,i,e.val,by simp,h2⟩
  |false=>exact zni hE hT hk ⟨c1,r1,rfl⟩ w es xs (i+1) (by simpa using hl) (fun i q e hq he=>hp (i+1) q e (by simpa using hq) (by simpa using he))
 | [],_::_,_,hl,_=>by simp at hl
 |_::_,[],_,hl,_=>by simp at hl
theorem z171(hE:aq P E){T:TypeId}{kt vt:Ty}(hT:E.ty T=some kt)(hk:kt.isKey=true){k:El kt}{v:Value}(h:eg X kt k v)(w:World)(es:List MapEntry)(xs:List (El kt×El vt))(hl:es.length=xs.length)
 (hp:∀(i:Nat) q e,xs[i]? =some q->es[i]? =some e->eg X kt q.1 e.key/\eg X vt q.2 e.val):
 (eW (fO kt) xs k=false/\eV (fO kt) (El.bT vt) xs k=El.bT vt/\(Instr.findKey T v es).run P w= .ok none w)\/(eW (fO kt) xs k=true/\∃j u,(Instr.findKey T v es).run P w= .ok (some (j,u)) w/\eg X vt (eV (fO kt) (El.bT vt) xs k) u):=by
 cases h1:kt.ia with
 |true=>
  obtain⟨d,hd,Ql,iP⟩:=NO hE hT h1 k
  rw[zq3 h1 h]
  rcases LI (X:=X) h1 iP es xs 0 hl hp with⟨g1,g2,g3⟩|⟨g1,j,u,g3,g4⟩
  ·exact .inl ⟨g1,g2,MapKept.run_findKey hd g3⟩
  ·exact .inr ⟨g1,j,u,MapKept.run_findKey hd g3,g4⟩
 |false=>
  have hu:=(hE.ty T kt hT).di
  cases kt<;>simp [Ty.isKey,Ty.ia] at hk h1
  rename_i ta tb
  obtain⟨fs,hN,_⟩:=hu
  have e:=run_findKey_eq (P:=P) w (k:=T) (by rw[hN]) v es
  have:=zni (X:=X) hE hT hk h w es xs 0 hl hp
  rw[e]
  exact this
theorem zuv{T:TypeId}{kt vt:Ty}(hE:aq P E)(h:m6 E T=some (kt,vt)):∃k e,P.underlying T=some (.map k e)/\E.ty k=some kt/\E.ty e=some vt/\kt.isKey=true:=by
 unfold m6 at h
 split at h
 case h_2=>cases h
 rename_i k e hm
 split at h
 case h_2=>cases h
 rename_i Yt Z7 h1 h2
 split at h
 case isFalse=>cases h
 rename_i hk
 cases h
 exact⟨k,e,hE.mp T k e hm,h1,h2,hk⟩
theorem znt{m:Operand}{kt vt:Ty}{R:Type}{K:Nat->List (El kt×El vt)->Option R}{z:R}(hr:Rel X s a)(h:vf s (s.aH m) kt vt K=some z):
 ∃id B r xs,K id xs=some z/\s.bs[id]? =some (some B)/\X.β id=some r/\X.ow r= .box id/\a.eval m= .map (some r)/\B.t.eB=false/\∃es clock,X.w.heap[r]? =some (.map es clock)/\es.size=xs.length/\
  ∀(i:Nat) (q:El kt×El vt) (e:MapEntry),xs[i]? =some q->es[i]? =some e->eg X kt q.1 e.key/\eg X vt q.2 e.val:=by
 have hx:=hr.aH m
 unfold vf at h
 split at h
 case h_2=>cases h
 rename_i id Yt Z7 hm
 rw[hm] at hx
 obtain⟨r,hβ,hv⟩:=hx
 split at h
 case isFalse=>cases h
 split at h
 case h_2=>cases h
 rename_i B hB
 split at h
 case isFalse=>cases h
 rename_i df
 have hb:=qd hB
 obtain⟨r',h1,h2,h3⟩:=hr.boxes id B hb
 rw[hβ] at h1
 cases h1
 refine⟨id,B,r,_,h,hb,hβ,h2,hv,by rw[Ty.aJ df];rfl,?_⟩
 obtain⟨bt,bx,bo⟩:=B
 have e:=Ty.aJ df
 simp only at e
 subst e
 exact h3
theorem aaD(hE:aq P E)(hr:Rel X s a){ops:List Oper}{T:TypeId}{rs:Option Operand}(ho:o.op= .makeMap T rs){C:FuncId->bU Out}(h:act E C ops o s some=some u):aI P X s a o u:=by
 unfold act at h
 cases rs with
 |some r=>simp only[ho] at h;cases h
 |none=>
  simp only[ho] at h
  split at h
  case h_2=>cases h
  rename_i kt vt hm
  refine zha hr (t:= .aG .mp kt vt) (p:= .aG .mp kt vt) (x:=([]:List (El kt×El vt))) (b:= .map #[] 0) (v:= .map (some X.w.heap.size)) ?_ (fun Y _ hY pl=>⟨#[],0,hY,rfl,fun i q e hq=>by simp at hq⟩) rfl h
  simp [execOp,ho,Instr.makeMap]
theorem aa5(hE:aq P E)(hr:Rel X s a){ops:List Oper}{T:TypeId}{x i:Operand}{ok:Bool}(ho:o.op= .lookup T x i ok){C:FuncId->bU Out}(h:act E C ops o s some=some u):aI P X s a o u:=by
 unfold act at h
 cases ok with
 |true=>simp only[ho] at h;cases h
 |false=>
  simp only[ho] at h
  unfold kZ at h
  split at h
  case h_2=>cases h
  rename_i kt vt hm
  obtain⟨k,e,hu,hk,he,tC⟩:=zuv hE hm
  obtain⟨id,B,r,xs,h,hb,hβ,how,hv,hBg,es,clock,aD,du,fC⟩:=znt hr h
  obtain⟨key,h,XL⟩:=zy h
  cases h
  obtain⟨ck,rk,evk⟩:=XL X _ _ (hr.aH i)
  have EZ:=KL hE hk tC (X:=X) (x:=key) ⟨ck,rk,evk⟩ es.isEmpty X.w
  rcases z171 (X:=X) hE hk tC (k:=key) ⟨ck,rk,evk⟩ X.w es.toList xs (by simpa using du) (fun i q e hq he=>fC i q e hq (by simpa using he)) with⟨g1,g2,hf⟩|⟨g1,j,v,hf,g4⟩
  ·rw[g2]
   have hz:=RG (P:=P) hE he X.w
   refine aI.plain hr (v:=dJ vt (zp vt)) ?_ (AR (rR X vt)) (fun _ _ _ e'=>by cases e')
   simp only[execOp,ho,Sem.run_bind,Instr.lookup,run_underlying hu,Result.andThen_ok,hv,MapKept.run_getObj_map aD,Sem.run_pure,EZ,hf,hz,Bool.false_eq_true,if_false]
  ·obtain⟨cv,rv,ev⟩:=g4
   refine aI.plain hr (v:=v) ?_ ⟨cv,rv,ev,mg⟩ (fun _ _ _ e'=>by cases e')
   simp only[execOp,ho,Sem.run_bind,Instr.lookup,run_underlying hu,Result.andThen_ok,hv,MapKept.run_getObj_map aD,Sem.run_pure,EZ,hf,Bool.false_eq_true,if_false]
theorem LC(hE:aq P E)(hr:Rel X s a){T:TypeId}{m k x:Operand}(ho:(execOp a.eval o).run P X.w=((Instr.mapUpdate T (a.eval m) (a.eval k) (a.eval x)).run P X.w).andThen fun _ w=> .ok .skip w)(h:l4 E T s (s.aH m) (s.aH k) (s.aH x) some=some u):aI P X s a o u:=by
 unfold l4 at h
 split at h
 case h_2=>cases h
 rename_i kt vt hm
 obtain⟨kT,eT,hu,hk,he,tC⟩:=zuv hE hm
 obtain⟨id,B,r,xs,h,hb,hβ,how,hv,hBg,es,clock,aD,du,fC⟩:=znt hr h
 obtain⟨key,h,XL⟩:=zy h
 obtain⟨y,h,hyv⟩:=zy h
 obtain⟨ck,rk,Bu⟩:=XL X _ _ (hr.aH k)
 obtain⟨cy,ry,Xg⟩:=hyv X _ _ (hr.aH x)
 have EZ:=KL hE hk tC (X:=X) (x:=key) ⟨ck,rk,Bu⟩ false X.w
 rcases z171 (X:=X) hE hk tC (k:=key) ⟨ck,rk,Bu⟩ X.w es.toList xs (by simpa using du) (fun i q e hq he=>fC i q e hq (by simpa using he)) with⟨g1,g2,hf⟩|⟨g1,j,v,hf,g4⟩
 ·rw[g1] at h
  cases h
  let new:Obj:= .map (es.push {key:=a.eval k,val:=a.eval x,born:=clock}) (clock+1)
  have aW:(execOp a.eval o).run P X.w= .ok .skip (X.obj r new).w:=by
   rw[ho]
   simp only[Instr.mapUpdate,Sem.run_bind,run_underlying hu,Result.andThen_ok,hv,MapKept.run_getObj_map aD,EZ,hf,MapKept.run_setObj_map _ aD]
   simp only[new]
   rfl
  have bI:bD (X.obj r new) id r ⟨.aG .mp kt vt,(xs++ [(key,y)]:List (El kt×El vt)),[]⟩:=by
   refine⟨how,es.push {key:=a.eval k,val:=a.eval x,born:=clock},clock+1,L1 aD,by simp [du],fun i q e hq he=> ?_⟩
   have hs:∀ad v,X.az ad v->(X.obj r new).az ad v:=fun _ _=>DY how
   have hq:(xs++ [(key,y)])[i]? =some q:=hq
   rw[List.getElem?_append] at hq
   rw[Array.getElem?_push] at he
   split at hq
   ·rename_i ar
    rw[if_neg (by omega)] at he
    obtain⟨j1,j2⟩:=fC i q e hq he
    exact⟨j1.mono hs,j2.mono hs⟩
   ·rename_i ar
    have hi:i-xs.length=0:=by
     have:=(List.getElem?_eq_some_iff.1 hq).1
     simp at this
     omega
    rw[hi] at hq
    cases hq
    rw[if_pos (by omega)] at he
    cases he
    exact⟨eg.mono hs ⟨ck,rk,Bu⟩,eg.mono hs ⟨cy,ry,Xg⟩⟩
  exact⟨X.obj r new,Go.undef,.inr ⟨aW,rfl⟩,M9 how,(hr.obj hb hβ how bI (.inl hBg)).skip o.dst⟩
 ·rw[g1] at h
  cases h
theorem zc6(hE:aq P E)(hr:Rel X s a){ops:List Oper}{T:TypeId}{m k x:Operand}(ho:o.op= .mapUpdate T m k x\/o.op= .insert T m k x){C:FuncId->bU Out}(h:act E C ops o s some=some u):aI P X s a o u:=by
 unfold act at h
 rcases ho with ho|ho
 ·simp only[ho] at h
  exact LC hE hr (by simp [execOp,ho]) h
 ·simp only[ho] at h
  exact LC hE hr (by simp [execOp,ho]) h
theorem abU(hE:aq P E)(hr:Rel X s a){ops:List Oper}{T:TypeId}{x:Operand}(ho:o.op= .range T x){C:FuncId->bU Out}(h:act E C ops o s some=some u):aI P X s a o u:=by
 unfold act at h
 simp only[ho] at h
 split at h
 case h_2=>cases h
 rename_i hT
 obtain⟨y,h,hy⟩:=zy h
 obtain⟨cs,ry,ev⟩:=hy X _ _ (hr.aH x)
 rw[nm ry] at ev
 have hu:=(hE.ty T _ hT).di
 refine zha hr (t:=jW) (p:=jW) (x:=((y,0):ByteArray×Nat)) (b:= .stringIter y 0) (v:= .pointer (some ⟨X.w.heap.size,0,none⟩)) ?_ (fun Y _ hY pl=>hY) ⟨rfl,trivial⟩ h
 simp [execOp,ho,Instr.range,run_underlying hu,ev]
theorem aeO(hr:Rel X s a){ops:List Oper}{x:Operand}{str:Bool}(ho:o.op= .next x str){C:FuncId->bU Out}(h:act E C ops o s some=some u):aI P X s a o u:=by
 unfold act at h
 cases str with
 |false=>simp only[ho] at h;cases h
 |true=>
  simp only[ho] at h
  unfold lf at h
  have hx:=hr.aH x
  split at h
  case h_2=>cases h
  rename_i id hm
  rw[hm] at hx
  obtain⟨r,hβ,hv,_⟩:=hx
  split at h
  case h_2=>cases h
  rename_i B hB
  split at h
  case isFalse=>cases h
  rename_i df
  have hb:=qd hB
  obtain⟨r',h1,how,h3⟩:=hr.boxes id B hb
  rw[hβ] at h1
  cases h1
  have aD:X.w.heap[r]? =some (.stringIter (Ty.cast df B.x:ByteArray×Nat).1 (Ty.cast df B.x:ByteArray×Nat).2):=by
   obtain⟨bt,bx,bo⟩:=B
   have e:=Ty.aJ df
   simp only at e
   subst e
   exact h3
  generalize(Ty.cast df B.x:ByteArray×Nat)=q at*
  obtain⟨st,pos⟩:=q
  simp only at h aD
  have hv:a.eval x= .pointer (some ⟨r,0,none⟩):=by simpa [Ty.off] using hv
  have cz:(getObj r).run P X.w= .ok (.stringIter st pos) X.w:=by simp [getObj,Sem.run,aD]
  cases ar:decide (pos<st.size) with
  |false=>
   rw[ar] at h
   cases h
   have ar:=of_decide_eq_false ar
   refine aI.plain hr (sv:= .over) (v:= .tuple #[.bool false]) ?_ rfl (fun _ _ _ e'=>by cases e')
   simp only[execOp,ho,Sem.run_bind,Instr.next,hv,cz,Result.andThen_ok,if_neg ar,Sem.run_pure]
  |true=>
   rw[ar] at h
   cases h
   have ar:=of_decide_eq_true ar
   let new:Obj:= .stringIter st (pos+(Utf8.decode st pos).2)
   have fb:(setObj r new).run P X.w= .ok () (X.obj r new).w:=by simp [setObj,Sem.run,aD,ax.obj]
   have bI:bD (X.obj r new) id r ⟨jW,((st,pos+(Utf8.decode st pos).2):ByteArray×Nat),[]⟩:=⟨how,L1 aD⟩
   have eR:=hr.obj hb hβ how bI (.inl (by rw[Ty.aJ df];rfl))
   refine⟨X.obj r new,.tuple #[.bool true,.int .i64 pos,.int .i32 (Utf8.decode st pos).1],.inl ?_,M9 how,?_⟩
   ·simp only[execOp,ho,Sem.run_bind,Instr.next,hv,cz,Result.andThen_ok,if_pos ar,Sem.run_pure]
    simp only[new] at fb
    rw[fb]
    rfl
   ·refine eR.put (fun d' e=>⟨_,rfl,rfl,fun j sv v hj hv=> ?_⟩) (fun id t' q hm=>by simp at hm)
    match j with
    |0=>cases hj;cases hv;exact nk
    |1=>cases hj;cases hv;exact iZ
    |2=>cases hj;cases hv;exact iZ
    |j+3=>simp at hj
theorem aji{t:Ty}{k:Nat}(hk:(zp t).length=k)(n:Nat):((Array.range (n*k)).map fun i=>(zp t).toArray[i % (zp t).toArray.size]!).size=n*k/\
 ∀j,j<n->((((Array.range (n*k)).map fun i=>(zp t).toArray[i % (zp t).toArray.size]!).toList.drop (j*k)).take k)=zp t:=by
 refine⟨by simp,fun j hj=> ?_⟩
 apply List.ext_getElem?
 intro i
 rw[List.getElem?_take]
 split
 ·rename_i hi
  have ar:j*k+i<n*k:=by
   have:(j+1)*k<=n*k:=Nat.mul_le_mul_right _ hj
   rw[Nat.add_mul,Nat.one_mul] at this
   omega
  have BS:(j*k+i)% k=i:=by rw[Nat.mul_comm,Nat.mul_add_mod,Nat.mod_eq_of_lt hi]
  rw[List.getElem?_drop,Array.getElem?_toList,Array.getElem?_map,Array.getElem?_range,if_pos ar]
  simp only[Option.map_some,List.size_toArray,hk,BS]
  rw[List.getElem?_eq_getElem (by omega)]
  simp [getElem!_def,List.getElem?_eq_getElem (show i<(zp t).length by omega)]
 ·rename_i hi
  rw[List.getElem?_eq_none (by omega)]
theorem z175(hE:aq P E){T e:TypeId}{t:Ty}(hT:E.ty T=some (.sl e t))(hk:t.cells≠0)(nr:E.bytes e≠0){n m:Int}(hn:0<=n)(hnm:n<=m)(hb:m*E.bytes e<=140737488355328)(w:World):
 m.toNat<=maxLen/\∃cur,cur.size=m.toNat*t.cells/\(∀j,j<m.toNat->(cur.toList.drop (j*t.cells)).take t.cells=zp t)/\
  (Instr.makeSlice T (.int .i64 n) (.int .i64 m)).run P w= .ok (.slice (some ⟨w.heap.size,0,none⟩) n.toNat m.toNat) (w.alloc (.cells cur e)):=by
 obtain⟨hu,he⟩:=(hE.ty T _ hT).di
 obtain⟨i,hi,bZ,fQ,hz⟩:=(hE.ty e t he).info
 have hle:m<=m*E.bytes e:=by
  have h1:(1:Int)<=E.bytes e:=by omega
  have:=Int.mul_le_mul_of_nonneg_left h1 (show 0<=m by omega)
  simpa using this
 have BR:m.toNat<=maxLen:=by simp only[maxLen];omega
 have lO:(dJ t (zp t)).cells=(zp t).toArray:=uV (X:=⟨w,fun _=> .all,fun _=>none⟩) (rR _ t)
 obtain⟨z1,z2⟩:=aji (uy t) m.toNat
 refine⟨BR,(Array.range (m.toNat*t.cells)).map (fun i=>(zp t).toArray[i % (zp t).toArray.size]!),z1,z2,?_⟩
 have Qv:IntKind.i64.wrap n=n:=by simp [IntKind.wrap,IntKind.signed,IntKind.bits];omega
 have uP:IntKind.i64.wrap m=m:=by simp [IntKind.wrap,IntKind.signed,IntKind.bits];omega
 have hmul:(i.bytes:Int)*m<=2^48:=by rw[fQ,Int.mul_comm];omega
 have c1:¬m<0:=by omega
 have c2:¬(281474976710656:Int)<(i.bytes:Int)*m:=by omega
 have c3:¬n<0:=by omega
 have c4:¬m<n:=by omega
 have hai:∀(n:Int) (w:World),(asInt (.int .i64 n)).run P w= .ok n w:=fun n w=>by simp [asInt,asIntOf]
 have Ye:∀w:World,(typeInfo e).run P w= .ok i w:=fun w=>by simp [typeInfo,hi]
 have hJ:∀w:World,(sizeOf e).run P w= .ok t.cells w:=fun w=>lp hE he w
 have hzv:∀w:World,(zeroValue e).run P w= .ok (dJ t (zp t)) w:=fun w=>RG hE he w
 simp only[Instr.makeSlice,Sem.run_bind,run_underlying hu,Result.andThen_ok,hai,Ye,Qv,uP]
 by_cases h0:m.toNat*t.cells=0
 ·simp [c1,c2,c3,c4,hJ,h0,newRow]
  rw[show Array.range 0= #[] from rfl]
  simp
 ·simp [c1,c2,c3,c4,hJ,h0,hzv,lO,newRow]
theorem aad(hE:aq P E)(hr:Rel X s a){ops:List Oper}{T:TypeId}{l c:Operand}(ho:o.op= .makeSlice T l c){C:FuncId->bU Out}(h:act E C ops o s some=some u):aI P X s a o u:=by
 unfold act at h
 simp only[ho] at h
 unfold ld at h
 split at h
 case h_2=>cases h
 rename_i e t hT
 split at h
 ·cases h
 rename_i bK
 have nr:E.bytes e≠0:=fun e0=>bK (by rw[e0];rfl)
 have hk:t.cells≠0:=fun e0=>bK (by rw[e0];simp)
 obtain⟨n,h,hn⟩:=zy h
 obtain⟨m,h,hm⟩:=zy h
 obtain⟨_,rn,en⟩:=hn X _ _ (hr.aH l)
 rw[lr rn] at en
 obtain⟨_,rm,em⟩:=hm X _ _ (hr.aH c)
 rw[lr rm] at em
 cases hc:M3 l with
 |true=>
  rw[hc] at h
  simp only[cond_true] at h
  cases d1:decide (n=0)<;>rw[d1] at h<;>simp only[cond_true,cond_false] at h
  ·cases h
  cases d2:decide (0<=m)<;>rw[d2] at h<;>simp only[cond_true,cond_false] at h
  ·cases h
  cases d3:decide (m*E.bytes e<=140737488355328)<;>rw[d3] at h<;>simp only[cond_true,cond_false] at h
  ·cases h
  cases h
  have d1:=of_decide_eq_true d1
  have d2:=of_decide_eq_true d2
  have d3:=of_decide_eq_true d3
  subst d1
  obtain⟨BR,cur,g1,g2,aW⟩:=z175 (P:=P) hE hT hk nr (n:=0) (m:=m) (by omega) d2 d3 X.w
  have wO:eF s X (X.kB (.cells cur e) (.row (.c (o.dst.getD 0) 0 []) 0) X.β):=KK X _ _ _ _ rfl (fun _ _ _=>rfl)
  refine⟨X.kB (.cells cur e) (.row (.c (o.dst.getD 0) 0 []) 0) X.β,.slice (some ⟨X.w.heap.size,0,none⟩) 0 m.toNat,.inl ?_,wO.ext,(hr.dj wO).fin ⟨[.slice (some ⟨X.w.heap.size,0,none⟩) 0 m.toNat],⟨_,_,rfl,Nat.zero_le _,fun j x hj=>by simp at hj⟩,rfl,fun p hp=> ?_⟩ (fun id t p hm=>by simp at hm)⟩
  ·simp only[execOp,ho,Sem.run_bind,en,em,aW,Result.andThen_ok,Sem.run_pure]
   rfl
  ·have hp:p=[]:=by simpa using hp
   subst hp
   refine⟨e,t,[],_,by simp [Ty.eA],rfl,rfl,.inr ⟨X.w.heap.size,m.toNat,cur,rfl,heap_alloc_new X.w _,Nat.zero_le _,BR,g1,?_⟩⟩
   simp [ax.kB]
 |false=>
  rw[hc] at h
  simp only[cond_false] at h
  cases d1:decide (n=m)<;>rw[d1] at h<;>simp only[cond_true,cond_false] at h
  ·cases h
  cases d2:decide (0<=n)<;>rw[d2] at h<;>simp only[cond_true,cond_false] at h
  ·cases h
  cases d3:decide (n*E.bytes e<=140737488355328)<;>rw[d3] at h<;>simp only[cond_true,cond_false] at h
  ·cases h
  have d1:=of_decide_eq_true d1
  have d2:=of_decide_eq_true d2
  have d3:=of_decide_eq_true d3
  have d1:m=n:=d1.symm
  subst d1
  obtain⟨BR,cur,g1,g2,aW⟩:=z175 (P:=P) hE hT hk nr (n:=m) (m:=m) d2 (Int.le_refl _) d3 X.w
  refine zha hr (t:= .aG .row t .unit) (p:= .aG (.iz m.toNat) t .unit) (x:=(List.replicate m.toNat (El.bT t):List (El t))) (b:= .cells cur e) (v:= .slice (some ⟨X.w.heap.size,0,none⟩) m.toNat m.toNat) ?_ (fun Y _ hY pl=>⟨cur,e,hY,?_,fun j x hj=> ?_⟩) ⟨_,rfl,Nat.le_refl _⟩ h
  ·simp only[execOp,ho,Sem.run_bind,en,em,aW,Result.andThen_ok,Sem.run_pure]
  ·rw[g1];show _=List.length (List.replicate _ _)*_;rw[List.length_replicate]
  ·have hj:(List.replicate m.toNat (El.bT t))[j]? =some x:=hj
   rw[List.getElem?_replicate] at hj
   split at hj
   ·rename_i ar
    cases hj
    rw[g2 j ar]
    exact rR Y t
   ·cases hj
end Go.Ref

namespace Go.Ref
open Go
variable {P:Program} {E:Env} {X:ax} {s:State} {a:Act} {o:Oper} {u:Out}
theorem aii(hE:aq P E)(hr:Rel X s a){ops:List Oper}{T:TypeId}{x:Operand}{lo hi:Option Operand}(ho:o.op= .slice T x lo hi none){C:FuncId->bU Out}(h:act E C ops o s some=some u):aI P X s a o u:=by
 unfold act at h
 simp only[ho] at h
 split at h
 ·rename_i id n ta tb dv
  split at h
  case h_2=>cases h
  rename_i e t hT
  split at h
  case isFalse=>cases h
  rename_i heq
  have:=Ty.aJ heq
  subst this
  unfold td at h
  split at h
  ·cases h
  rename_i IK
  have BN:hi=none:=by
   cases hi with
   |none=>rfl
   |some _=>cases IK
  subst BN
  obtain⟨l,h,h1,hl⟩:=zac h
  cases h
  have hx:=hr.aH x
  rw[dv] at hx
  obtain⟨r0,hβ,cap,hv,mR⟩:=hx
  have hu:=(hE.ty T _ hT).di
  have hbd:=zd0 (P:=P) (isS:=true) hr hl (hi:=none) (m:=n) (n:=n) (c:=cap) rfl h1 (Nat.le_refl _) mR X.w
  rw[Option.map_none] at hbd
  refine aI.plain hr (v:= .slice (if cap=l then some ⟨r0,0,none⟩ else(some (⟨r0,0,none⟩:Addr)).map (·.add (l*ta.cells))) (n-l) (cap-l)) ?_ ⟨r0,hβ,?_⟩ (fun _ _ _ e=>by cases e;exact rT hr dv)
  ·simp only[execOp,ho,Sem.run_bind,Instr.sliceAt,run_underlying hu.1,Result.andThen_ok,Instr.slice,hv,Option.map_none,hbd,Sem.run_pure,lp hE hu.2]
  ·show∃wD off,_=Value.slice (some ⟨r0,off,none⟩) (n-l) wD/\_
   by_cases e':cap=l
   ·rw[if_pos e']
    exact⟨_,_,rfl,by omega,h1,.inl ⟨by omega,rfl⟩⟩
   ·rw[if_neg e']
    refine⟨cap-l,l*ta.cells,?_,by omega,h1,.inr rfl⟩
    rw[Option.map_some,iq,Nat.zero_add]
 ·rename_i id n t dv
  have hx:=hr.aH x
  rw[dv] at hx
  obtain⟨r0,hβ,hv⟩:=hx
  unfold qK at h
  split at h
  case h_2=>cases h
  rename_i u' hT BQ IK
  have lo0:lo=none:=by
   cases lo with
   |none=>rfl
   |some _=>cases BQ
  have BN:hi=none:=by
   cases hi with
   |none=>rfl
   |some _=>cases IK
  subst lo0 BN
  split at h
  case isFalse=>cases h
  rename_i heq
  have:=Ty.aJ heq
  subst this
  split at h
  case h_2=>cases h
  rename_i B hB
  split at h
  case isFalse=>cases h
  rename_i df
  cases h
  have hb:=qd hB
  obtain⟨r,h1,tk⟩:=hr.boxes id B hb
  rw[hβ] at h1
  cases h1
  obtain⟨bt,bx,bo⟩:=B
  have e:=Ty.aJ df
  simp only at e
  subst e
  obtain⟨cs,T',aD,aL,how,_⟩:=tk.cells rfl
  have hv:a.eval x= .pointer (some ⟨r0,0,none⟩):=by rw[((qc rfl).1 hv).1];rfl
  obtain⟨e,hN,iB,_⟩:=(hE.ty T _ hT).di
  have hlen:List.length (bx:List (El t))=n:=aL.1
  have bI:bD X id r0 ⟨.aG .row t .unit,(bx:List (El t)),[]⟩:=⟨how,cs,T',aD,by have:=aL.2.1;rw[hlen];simpa using this,aL.2.2⟩
  have ID:(Ty.cast df bx:El (.arr n t))=bx:=rfl
  rw[ID]
  refine⟨X,.slice (some ⟨r0,0,none⟩) n n,.inl ?_,Ext.refl X,(hr.lY hb hβ bI (.inl rfl)).fin ⟨r0,hβ,n,rfl,Nat.le_refl _⟩ (fun bc t' p' hm=> ?_)⟩
  ·simp only[execOp,ho,Sem.run_bind,Instr.sliceAt,run_underlying hN,Result.andThen_ok,Option.map_none,hv,Instr.sureAddr,Sem.run_pure,lp hE iB]
   simp [Instr.sliceBounds]
   intro _
   rw[iq]
  ·have rI:SV.ptr bc t' p'= .ptr id (.aG (.iz n) t .unit) []:=by simpa using hm
   cases rI
   exact⟨_,QV hb⟩
 ·exact aeL hE hr ho h
theorem z130(hr:Rel X s a){ops:List Oper}{fn:Fn}{fi ca:Array Operand}(ho:o.op= .makeFunc fn fi ca){C:FuncId->bU Out}(h:act E C ops o s some=some u):aI P X s a o u:=by
 unfold act at h
 cases fn with
 |func f=>
  simp only[ho] at h
  split at h
  case h_3=>cases h
  case h_2=>
   rename_i x y tu BC
   have tu:fi= #[]:=by rw[<-Array.toArray_toList (xs:=fi),tu]
   have BC:ca= #[x,y]:=by rw[<-Array.toArray_toList (xs:=ca),BC]
   subst tu BC
   unfold s9 at h
   split at h
   case h_2=>cases h
   rename_i t x1 u' y1 dv Jn
   cases h
   have hx:=hr.aH x
   have hy:=hr.aH y
   rw[dv] at hx
   rw[Jn] at hy
   obtain⟨ad,cs,h1,h2,h3,h4⟩:=hx
   obtain⟨pW,ey,k1,k2,k3,k4⟩:=hy
   refine aI.plain hr (v:= .func (.func f) #[] #[.pointer (some ad),.pointer (some pW)]) ?_ ⟨ad,pW,cs,ey,rfl,⟨h2,h3,h4⟩,k2,k3,k4⟩ (fun _ _ _ e=>by cases e)
   simp [execOp,ho,Instr.makeFunc,h1,k1]
  rename_i x tu BC
  have tu:fi= #[]:=by rw[<-Array.toArray_toList (xs:=fi),tu]
  have BC:ca= #[x]:=by rw[<-Array.toArray_toList (xs:=ca),BC]
  subst tu BC
  unfold mJ at h
  split at h
  case h_2=>cases h
  rename_i id u' dv
  split at h
  case isTrue=>cases h
  rename_i hs
  cases h
  have hx:=hr.aH x
  rw[dv] at hx
  obtain⟨r0,hβ,hv⟩:=hx
  have hv:=((Ov (by simpa using hs)).1 hv).1
  refine aI.plain hr (v:= .func (.func f) #[] #[.pointer (some ⟨r0,0,none⟩)]) ?_ ⟨r0,hβ,rfl⟩ (fun _ _ _ e=>by cases e;exact rT hr dv)
  have hv:a.eval x= .pointer (some ⟨r0,0,none⟩):=by rw[hv];simp [Ty.off]
  simp [execOp,ho,Instr.makeFunc,hv]
 |_=>simp only[ho] at h;cases h
theorem Ls{t:Ty}{xs:List (El t)}{n l:Nat}{cs:List Value}(h:bf X (.arr n t) xs cs)(hl:l<=n):bf X (.arr l t) (xs.take l:List (El t)) (cs.take (l*t.cells)):=by
 obtain⟨h1,h2,h3⟩:=h
 have hm:=Nat.mul_le_mul_right t.cells hl
 refine⟨by rw[List.length_take];omega,by rw[List.length_take];omega,fun j y hj=> ?_⟩
 have hj:(xs.take l)[j]? =some y:=hj
 rw[List.getElem?_take] at hj
 split at hj
 case isFalse=>cases hj
 rename_i tA
 have hk:(j+1)*t.cells<=l*t.cells:=Nat.mul_le_mul_right _ tA
 rw[Nat.add_mul,Nat.one_mul] at hk
 have e:((cs.take (l*t.cells)).drop (j*t.cells)).take t.cells=(cs.drop (j*t.cells)).take t.cells:=by
  rw[List.drop_take,List.take_take,Nat.min_eq_left (by omega)]
 rw[e]
 exact h3 j y hj
theorem Lr{t:Ty}{xs:List (El t)}{n l:Nat}{cs:List Value}(h:bf X (.arr n t) xs cs)(hl:l<=n):bf X (.arr (n-l) t) (xs.drop l:List (El t)) (cs.drop (l*t.cells)):=by
 obtain⟨h1,h2,h3⟩:=h
 refine⟨by rw[List.length_drop];omega,by rw[List.length_drop,Nat.sub_mul];omega,fun j y hj=> ?_⟩
 have hj:(xs.drop l)[j]? =some y:=hj
 rw[List.getElem?_drop] at hj
 rw[List.drop_drop,<-Nat.add_mul]
 exact h3 (l+j) y hj
theorem L4{α:Type}(xs ys:List α)(lo:Nat)(h:lo+ys.length<=xs.length):(bX xs ys lo).length=xs.length:=by
 unfold bX;simp;omega
theorem zu4(hE:aq P E)(hr:Rel X s a){d x:Operand}{T e:TypeId}{t:Ty}{ts:Array TypeId}(ho:o.op= .call ⟨.builtin .copy,#[d,x],ts⟩)(kj:ts[0]? =some T)(hT:E.ty T=some (.sl e t)){id n lo:Nat}{ta tb:Ty}{p:List Nat}
 (dv:s.aH d= .ptr id (.aG (.iz n) ta tb) p) (mZ:∀r,nb (.aG (.iz n) ta tb) p r (a.eval d)->∃cap off,a.eval d= .slice (some ⟨r,off,none⟩) (n-lo) cap/\lo<=n/\((n=lo/\off=0)\/off=lo*ta.cells))
 (h:gZ t s id n lo ta tb (s.aH x) e some=some u):aI P X s a o u:=by
 have hx:=hr.aH d
 rw[dv] at hx
 obtain⟨r0,hβ,hv⟩:=hx
 unfold gZ at h
 split at h
 case isFalse=>cases h
 rename_i heq
 have:=Ty.aJ heq
 subst this
 obtain⟨ys,h,tT⟩:=zy h
 split at h
 case h_2=>cases h
 rename_i B hB
 split at h
 case isFalse=>cases h
 rename_i df
 obtain⟨hb,r,h1,how,cs,T',aD,du,fC⟩:=Eo hr hB df
 rw[hβ] at h1
 cases h1
 generalize(Ty.cast df B.x:List (El ta))=xs at*
 cases hn:Nat.beq n (List.length xs)<;>rw[hn] at h
 ·cases h
 cases BQ:Nat.ble lo n<;>rw[BQ] at h
 ·cases h
 cases h
 have hn:=Nat.eq_of_beq_eq_true hn
 have BQ:=Nat.le_of_ble_eq_true BQ
 obtain⟨cap,off,hd,_,wS⟩:=mZ r0 hv
 obtain⟨cx,lk,ev⟩:=tT X _ _ (hr.aH x)
 have Z0:=lk
 obtain⟨A,c,wK,_⟩:=Z0
 have ev:a.eval x= .slice A ys.length c:=by rw[ev,wK];rfl
 rw[wK] at lk
 obtain⟨_,hc,cy,ry,ny,sy⟩:=zaj (X:=X) lk
 have hu:=(hE.ty T _ hT).di
 have hm:(ys.take (n-lo)).length=min ys.length (n-lo):=by rw[List.length_take,Nat.min_comm]
 generalize E6:min ys.length (n-lo)=m at hm
 have hmy:m<=ys.length:=by omega
 have hmn:m<=n-lo:=by omega
 have htk:ys.take (n-lo)=ys.take m:=by
  rw[<-E6]
  rcases Nat.le_total ys.length (n-lo) with g|g
  ·rw[Nat.min_eq_left g,List.take_of_length_le g,List.take_of_length_le (Nat.le_refl _)]
  ·rw[Nat.min_eq_right g]
 have rz:=Ls ry hmy
 have Jp:(cy.take (m*ta.cells)).length=m*ta.cells:=rz.2.1
 have eh:bf X (.arr xs.length ta) xs cs.toList:=⟨rfl,by simpa using du,fC⟩
 have jS:(Builtin.firstCells ta.cells m (a.eval x)).run P X.w= .ok (cy.take (m*ta.cells)).toArray X.w:=by
  rw[ev]
  cases A with
  |none=>
   have:=ny rfl
   subst this
   have:m=0:=by simpa using hmy
   subst this
   simp [Builtin.firstCells]
  |some ad=>
   have:=run_loadCells_list (P:=P) X.w ad (cy.take (m*ta.cells)) (fun j v hj=>by
    rw[List.getElem?_take] at hj
    split at hj
    ·exact(sy ad rfl j v hj).2.1
    ·cases hj)
   rw[Jp] at this
   simpa [Builtin.firstCells] using this
 have dc:off+0+(cy.take (m*ta.cells)).length<=cs.size:=by
  rw[Jp,du,<-hn]
  rcases wS with⟨g1,g2⟩|g
  ·have:m=0:=by omega
   subst this
   omega
  ·rw[g,Nat.add_zero,<-Nat.add_mul]
   exact Nat.mul_le_mul_right _ (by omega)
 let new:=(cs.toList.take off++cy.take (m*ta.cells)++cs.toList.drop (off+(cy.take (m*ta.cells)).length)).toArray
 have bS:=run_storeCells_at P r0 off T' (cy.take (m*ta.cells)) 0 cs X.w aD dc rz.one
 simp only[Nat.add_zero] at bS dc
 have aW:(execOp a.eval o).run P X.w= .ok (.value (.int .i64 m)) (X.row r0 new).w:=by
  have XM:Nat.min ys.length (n-lo)=m:=E6
  simp only[execOp,ho,resolve,invoke,builtin,Sem.run_bind,Sem.run_pure,Result.andThen_ok,List.map_toArray,List.map_cons,List.map_nil,Builtin.copy_,kj,hd]
  have e1:(Builtin.lenOf (a.eval x)).run P X.w= .ok ys.length X.w:=by rw[ev];simp [Builtin.lenOf]
  simp [run_underlying hu.1,e1,XM,jS,bS,goInt,lp hE hu.2]
  show _=X.w.setRow r0 new
  congr 1
  simp [new]
 have dM:new.toList=cs.toList.take off++cy.take (m*ta.cells)++cs.toList.drop (off+(cy.take (m*ta.cells)).length):=rfl
 have aL:bf X (.arr xs.length ta) (bX xs (ys.take m) lo:List (El ta)) new.toList:=by
  rw[dM,Jp]
  by_cases m0:m=0
  ·subst m0
   have e1:bX xs (ys.take 0) lo=xs:=by unfold bX;simp
   rw[e1]
   simpa using eh
  ·have g:off=lo*ta.cells:=by rcases wS with⟨g1,_⟩|g<;>omega
   have h1:=Ls eh (show lo<=xs.length by omega)
   have h3:=Lr eh (show lo+m<=xs.length by omega)
   have:=Fi h1 (Fi rz h3)
   rw[show lo+(m+(xs.length-(lo+m)))=xs.length by omega] at this
   unfold bX
   rw[show(ys.take m).length=m by rw[List.length_take];omega,g,<-Nat.add_mul,List.append_assoc]
   exact this
 have bZ:new.size=cs.size:=by
  have h1:new.toList.length=xs.length*ta.cells:=aL.2.1
  rw[du,<-h1];simp
 have bI:bD (X.row r0 new) id r0 ⟨.aG .row ta tb,(bX xs (ys.take (n-lo)) lo:List (El ta)),[]⟩:=by
  rw[htk]
  refine⟨how,new,T',setRow_heap X.w r0 cs new T' (0,0) aD,?_,fun j z hj=> ?_⟩
  ·rw[bZ,du]
   show _=List.length (bX xs (ys.take m) lo)*_
   rw[L4 _ _ _ (by rw[List.length_take];omega)]
  ·exact bf.aj (fun _ _=>mh (cs:=new) how) (aL.2.2 j z hj)
 refine⟨X.row r0 new,.int .i64 m,.inl aW,Ep how,?_⟩
 rw[hm]
 exact(hr.row hb hβ how bI (.inl (by rw[Ty.aJ df];rfl))).fin iZ (fun id t p hm=>by simp [i64] at hm)
theorem aex{X:ax}(l:List UInt8):bf X (.arr l.length (.int .u8)) (l.map fun c=>(c.toNat:Int):List Int) (l.map fun c=>Value.int .u8 c.toNat):=by
 refine⟨by show(l.map _).length=_;simp,by simp [Ty.cells],fun j y hj=> ?_⟩
 have hj:(l.map fun c=>(c.toNat:Int))[j]? =some y:=hj
 rw[List.getElem?_map] at hj
 obtain⟨c,hc,rfl⟩:=Option.map_eq_some_iff.1 hj
 have:((l.map fun c=>Value.int .u8 c.toNat).drop (j*(Ty.int IntKind.u8).cells)).take (Ty.int IntKind.u8).cells=[Value.int .u8 c.toNat]:=by
  rw[show(Ty.int IntKind.u8).cells=1 from rfl,Nat.mul_one]
  apply List.ext_getElem?
  intro i
  rw[List.getElem?_take]
  cases i with
  |zero=>simp [hc]
  |succ i=>simp
 rw[this]
 rfl
theorem abQ(hE:aq P E)(hr:Rel X s a){d x:Operand}{T e:TypeId}{t:Ty}{ts:Array TypeId}(ho:o.op= .call ⟨.builtin .copy,#[d,x],ts⟩)(kj:ts[0]? =some T)(hT:E.ty T=some (.sl e t)){id n:Nat}{ta tb:Ty}
 (dv:s.aH d= .ptr id (.aG (.iz n) ta tb) []) {y:ByteArray} {w:List (List Nat)} (Jn:s.aH x= .ak .str y w) (h:jQ t s id n ta tb y some=some u):aI P X s a o u:=by
 have hx:=hr.aH d
 rw[dv] at hx
 obtain⟨r0,hβ,cap,hd,mR⟩:=hx
 unfold jQ at h
 split at h
 case isFalse=>cases h
 rename_i XC
 have:=Ty.aJ XC
 subst this
 split at h
 case isFalse=>cases h
 rename_i heq
 have:=Ty.aJ heq
 subst this
 split at h
 case h_2=>cases h
 rename_i B hB
 split at h
 case isFalse=>cases h
 rename_i df
 obtain⟨hb,r,h1,how,cs,T',aD,du,fC⟩:=Eo hr hB df
 rw[hβ] at h1
 cases h1
 generalize(Ty.cast df B.x:List Int)=xs at*
 cases hn:Nat.beq n (List.length xs)<;>rw[hn] at h
 ·cases h
 cases h
 have hn:=Nat.eq_of_beq_eq_true hn
 have hy:=hr.aH x
 rw[Jn] at hy
 obtain⟨cy,ry,ev,_⟩:=hy
 have ev:a.eval x= .string y:=by rw[ev,nm ry]
 have hu:=(hE.ty T _ hT).di
 have uN:(Ty.int IntKind.u8).cells=1:=rfl
 rw[uN,Nat.mul_one] at du
 let l:=y.data.toList.take n
 have Qn:l.length=min n y.size:=by simp [l]
 have Qi:List.take n (nA y)=l.map fun c=>(c.toNat:Int):=by simp [nA,l]
 have jS:(Builtin.firstCells 1 (Nat.min y.size n) (.string y)).run P X.w= .ok (l.map fun c=>Value.int .u8 c.toNat).toArray X.w:=by
  have e1:((y.extract 0 (Nat.min y.size n)).data.map fun b=>Value.int .u8 b.toNat)=(l.map fun c=>Value.int .u8 c.toNat).toArray:=by
   apply Array.ext'
   have e0:(y.extract 0 (Nat.min y.size n)).data.toList=l:=by
    rw[ByteArray.data_extract,Array.toList_extract,List.extract_eq_take_drop]
    show List.take (Nat.min y.size n-0) (y.data.toList.drop 0)=y.data.toList.take n
    rw[Nat.sub_zero,List.drop_zero]
    show List.take (min y.data.toList.length n) y.data.toList=y.data.toList.take n
    rw[Nat.min_comm,<-List.take_eq_take_min]
   rw[Array.toList_map,e0]
  simp only[Builtin.firstCells,Sem.run_pure,e1]
 have dc:0+(l.map fun c=>Value.int .u8 c.toNat).length<=cs.size:=by
  rw[List.length_map,du,<-hn,Qn];omega
 let new:=((l.map fun c=>Value.int .u8 c.toNat)++cs.toList.drop l.length).toArray
 have rz:=aex (X:=X) l
 have bS:=run_storeCells_at P r0 0 T' (l.map fun c=>Value.int .u8 c.toNat) 0 cs X.w aD (by simpa using dc) rz.one
 have aW:(execOp a.eval o).run P X.w= .ok (.value (.int .i64 (l.length:Nat))) (X.row r0 new).w:=by
  have e1:(Builtin.lenOf (a.eval x)).run P X.w= .ok y.size X.w:=by rw[ev];simp [Builtin.lenOf]
  have e2:Nat.min y.size n=l.length:=by rw[Qn];exact Nat.min_comm _ _
  have e3:=jS
  rw[e2] at e3
  simp only[execOp,ho,resolve,invoke,builtin,Sem.run_bind,Sem.run_pure,Result.andThen_ok,List.map_toArray,List.map_cons,List.map_nil,Builtin.copy_,kj,hd]
  rw[ev] at e1⊢
  simp [run_underlying hu.1,e1,e2,e3,bS,goInt,lp hE hu.2,uN]
  rfl
 have eh:bf X (.arr xs.length (.int .u8)) xs cs.toList:=⟨rfl,by simpa [uN] using du,fC⟩
 have aL:bf X (.arr xs.length (.int .u8)) (bX xs (l.map fun c=>(c.toNat:Int)) 0:List Int) new.toList:=by
  have hle:l.length<=xs.length:=by rw[Qn];omega
  have h3:=Lr eh hle
  have:=Fi rz h3
  rw[show l.length+(xs.length-l.length)=xs.length by omega] at this
  unfold bX
  simp only[List.take_zero,List.nil_append,Nat.zero_add,List.length_map]
  rw[uN,Nat.mul_one] at this
  exact this
 have bZ:new.size=cs.size:=by
  have h1:new.toList.length=xs.length*1:=aL.2.1
  rw[du];simpa using h1
 have bI:bD (X.row r0 new) id r0 ⟨.aG .row (.int .u8) tb,(bX xs (List.take n (nA y)) 0:List Int),[]⟩:=by
  rw[Qi]
  refine⟨how,new,T',setRow_heap X.w r0 cs new T' (0,0) aD,?_,fun j z hj=> ?_⟩
  ·rw[bZ,du]
   show _=List.length (bX xs (l.map fun c=>(c.toNat:Int)) 0)*_
   rw[L4 _ _ _ (by rw[List.length_map,Qn];omega)]
   simp [uN]
  ·exact bf.aj (fun _ _=>mh (cs:=new) how) (aL.2.2 j z hj)
 refine⟨X.row r0 new,.int .i64 (l.length:Nat),.inl aW,Ep how,?_⟩
 have IX:(List.take n (nA y)).length=l.length:=by rw[Qi,List.length_map]
 rw[IX]
 exact(hr.row hb hβ how bI (.inl (by rw[Ty.aJ df];rfl))).fin iZ (fun id t p hm=>by simp [i64] at hm)
theorem aeK(hE:aq P E)(hr:Rel X s a){ops:List Oper}{dF:Array Operand}{ts:Array TypeId}(ho:o.op= .call ⟨.builtin .copy,dF,ts⟩){C:FuncId->bU Out}(h:act E C ops o s some=some u):aI P X s a o u:=by
 unfold act at h
 simp only[ho] at h
 split at h
 case h_2=>cases h
 rename_i d x T r rL BA
 have has:dF= #[d,x]:=by rw[<-Array.toArray_toList (xs:=dF),rL]
 have kj:ts[0]? =some T:=by rw[<-Array.getElem?_toList,BA];rfl
 subst has
 unfold copyV at h
 split at h
 ·rename_i e t id n ta tb hT dv
  split at h
  ·rename_i y w Jn
   exact abQ hE hr ho kj hT dv Jn h
  ·exact zu4 hE hr ho kj hT dv (fun r hv=>by
    obtain⟨cap,h1,h2⟩:=hv
    exact⟨cap,0,h1,Nat.zero_le _,.inr (by simp)⟩) h
 ·rename_i e t id n ta tb l hT dv
  exact zu4 hE hr ho kj hT dv (fun r hv=>by
   obtain⟨cap,off,h1,h2,h3,h4⟩:=hv
   exact⟨cap,off,h1,h3,h4⟩) h
 ·cases h
end Go.Ref

namespace Go.Ref
open Go
variable {P:Program} {E:Env} {X:ax} {s:State} {a:Act} {o:Oper} {u:Out}
structure jA(X:ax)(l:List SV)(b:Option bC)(args:Array Value):Prop where
 size:args.size=l.length
 rep:∀(i:Nat) sv v,l[i]? =some sv->args[i]? =some v->aA X (.c i 0) sv v
 ptr:∀id t p,SV.ptr id t p∈l->id=0/\b.isSome=true
 box:∀B,b=some B->∃r,X.β 0=some r/\bD X 0 r B
 rows:b=none->∀g pl n,X.ow g≠ .row pl n
 od:l.any SV.bM=false
def xV(X Y:ax)(b:Option bC)(r:List SV)(b':Option bC)(v:Value):Prop:=
 ∃r0,cI {Y with β:=fun _=>some r0} .r r v/\
  (∀B',b'=some B'->bD Y 0 r0 B'/\(b.isSome=true->X.β 0=some r0))/\
  ((b'=none\/b.isSome=true)->∀id t p,SV.ptr id t p∉r)/\r.any SV.bM=false
def rD(P:Program)(f:FuncId):Prop:=∃fn c,P.funcs[f]? =some fn/\(fn.name== "runtime.NumGoroutine")=false/\fn.body=some c
def cT(P:Program)(C:ah)(f:FuncId):Prop:=
 ∀(l:List SV) (b:Option bC) (r:List SV) (b':Option bC),C (List SV×Option bC) f l b (fun r b=>some (r,b))=some (r,b')->rD P f/\
  ∀(X:ax) (args:Array Value),jA X l b args->Calls P f args X.w fun e w'=>match e with
   | .returned v=>∃Y,Y.w=w'/\Ext X Y/\xV X Y b r b' v
   |_=>False
def iD(k:Option Nat):Ow->Bool
 | .box id=>decide (k=some id)
 | .row (.b id _) _=>decide (k=some id)
 |_=>false
def hP(k:Option Nat):Ow->Ow
 | .all=> .all
 | .ro n=> .ro n
 | .box id=>if k=some id then .box 0 else .ro 0
 | .row (.b id p) n=>if k=some id then .row (.b 0 p) n else .ro n
 | .row _ n=> .ro n
def iU(k:Option Nat)(d:Nat):Ow->Ow
 | .all=> .all
 | .ro n=> .ro n
 | .box 0=>match k with
   |some id=> .box id
   |none=> .ro 0
 | .box _=> .ro 0
 | .row (.r j p) n=> .row (.c d j p) n
 | .row (.b 0 p) n=>match k with
   |some id=> .row (.b id p) n
   |none=> .ro n
 | .row _ n=> .ro n
theorem KH{k:Option Nat}{w:Ow}{i:Nat}:(hP k w).used i↔w.used i:=by
 cases w with
 |all=>rfl
 |ro n=>rfl
 |box id=>simp only[hP];split<;>simp [Ow.used]
 |row pl n=>
  cases pl with
  |b id p=>simp only[hP];split<;>simp [Ow.used]
  |_=>rfl
theorem ab8{k:Option Nat}{d:Nat}{w:Ow}{i:Nat}(h:w.used i):(iU k d w).used i:=by
 cases w with
 |all=>exact h
 |ro n=>exact h
 |box id=>exact h.elim
 |row pl n=>
  cases pl with
  |b id p=>
   cases id with
   |zero=>simp only[iU];split<;>exact h
   |succ id=>exact h
  |c i j p=>exact h
  |r j p=>exact h
theorem zum{k:Option Nat}{w:Ow}(h:iD k w=false):(hP k w).still:=by
 cases w with
 |all=>trivial
 |ro n=>trivial
 |box id=>simp only[iD,decide_eq_false_iff_not] at h;simp only[hP];rw[if_neg h];trivial
 |row pl n=>
  cases pl with
  |b id p=>simp only[iD,decide_eq_false_iff_not] at h;simp only[hP];rw[if_neg h];trivial
  |_=>trivial
def ax.cP(X:ax)(k:Option Nat):ax:=⟨X.w,fun g=>hP k (X.ow g),match k with
 |some id=>fun _=>X.β id
 |none=>X.β⟩
theorem uA{k:Option Nat}{ad:Addr}{v:Value}:(X.cP k).az ad v↔X.az ad v:=by
 simp only[ax.az,ax.cP,KH]
def ax.back(X Y:ax)(k k':Option Nat)(d:Nat)(β:Nat->Option Nat):ax:=
 ⟨Y.w,fun g=>if g<X.w.heap.size/\iD k (X.ow g)=false then X.ow g else iU k' d (Y.ow g),β⟩
section
variable {k k':Option Nat} {d:Nat} {β:Nat->Option Nat} {Y:ax}
theorem DW(h:Ext (X.cP k) Y){g:Nat}(hg:g<X.w.heap.size)(hm:iD k (X.ow g)=false):(X.back Y k k' d β).ow g=X.ow g/\(X.back Y k k' d β).w.heap[g]? =X.w.heap[g]? /\(Y.ow g).still/\Y.ow g=hP k (X.ow g):=by
 obtain⟨h1,h2⟩:=h.still g hg (zum hm)
 refine⟨by simp only[ax.back];rw[if_pos ⟨hg,hm⟩],h2,?_,h1⟩
 rw[h1];exact zum hm
theorem zcy(h:Ext (X.cP k) Y){g:Nat}(hs:¬(Y.ow g).still):(X.back Y k k' d β).ow g=iU k' d (Y.ow g):=by
 simp only[ax.back]
 rw[if_neg]
 rintro⟨hg,hm⟩
 exact hs (DW (k':=k') (d:=d) (β:=β) h hg hm).2.2.1
theorem uz(h:Ext (X.cP k) Y){ad:Addr}{v:Value}(hs:Y.az ad v):(X.back Y k k' d β).az ad v:=by
 refine⟨hs.1,hs.2.1,?_⟩
 simp only[ax.back]
 split
 ·rename_i hc
  have:=(DW (k':=k') (d:=d) (β:=β) h hc.1 hc.2).2.2.2
  have hu:=hs.2.2
  rw[this,KH] at hu
  exact hu
 ·exact ab8 hs.2.2
theorem zpi(h:Ext (X.cP k) Y)(hβ:β 0=X.β 0):Ext X (X.back Y k k' d β) where
 az:=fun ad v hs=>uz h (h.az ad v (uA.2 hs))
 size:=h.size
 os:=h.os
 tape:=h.tape
 output:=h.output
 β0:=hβ
 still:=fun g hg bS=>by
  have hm:iD k (X.ow g)=false:=by cases hx:X.ow g<;>rw[hx] at bS<;>first|rfl|exact bS.elim
  obtain⟨h1,h2,_⟩:=DW (k':=k') (d:=d) (β:=β) h hg hm
  exact⟨h1,h2⟩
theorem bn.back(h:Ext (X.cP k) Y){pl:Place}(fD:∀n,iD k (.row pl n)=false){e:TypeId}{m n:Nat}{v:Value}(ho:bn X pl e m n v):bn (X.back Y k k' d β) pl e m n v:=by
 rcases ho with ho|⟨g,cap,cur,h1,h2,h3,h4,h5,h6⟩
 ·exact .inl ho
 ·obtain⟨k1,k2,_⟩:=DW (k':=k') (d:=d) (β:=β) h (u7 h2) (by rw[h6];exact fD _)
  exact .inr ⟨g,cap,cur,h1,k2.trans h2,h3,h4,h5,k1.trans h6⟩
theorem bk.back(h:Ext (X.cP k) Y){pl:List Nat->Place}(fD:∀p n,iD k (.row (pl p) n)=false){t:Ty}{x:El t}{cs:List Value}{own:List (List Nat)}(ho:bk X pl t x cs own):bk (X.back Y k k' d β) pl t x cs own:=fun p hp=>by
 obtain⟨e,t',xs,v,g0,g1,g2,g3⟩:=ho p hp
 exact⟨e,t',xs,v,g0,g1,g2,g3.back h (fD p)⟩
theorem bk.out(h:Ext (X.cP k) Y){pl fW:List Nat->Place}(fD:∀p n,iU k' d (.row (pl p) n)= .row (fW p) n){t:Ty}{x:El t}{cs:List Value}{own:List (List Nat)}(ho:bk Y pl t x cs own):bk (X.back Y k k' d β) fW t x cs own:=fun p hp=>by
 obtain⟨e,t',xs,v,g0,g1,g2,g3⟩:=ho p hp
 refine⟨e,t',xs,v,g0,g1,g2,?_⟩
 rcases g3 with ho|⟨g,cap,cur,h1,h2,h3,h4,h5,h6⟩
 ·exact .inl ho
 ·refine .inr ⟨g,cap,cur,h1,h2,h3,h4,h5,?_⟩
  rw[zcy h (by rw[h6];exact fun e=>e),h6,fD]
theorem aA.back(h:Ext (X.cP k) Y){i j:Nat}{sv:SV}{v:Value}(hβ:∀id t p,sv= .ptr id t p->β id=X.β id)(hl:∀id a b n,sv= .bA id a b n->k≠some id/\β id=X.β id)(hr:aA X (.c i j) sv v):aA (X.back Y k k' d β) (.c i j) sv v:=by
 cases sv with
 |undef=>trivial
 |skip=>exact hr
 |cD=>exact hr
 |dK=>exact hr
 |over=>exact hr
 |ak t x own=>
  obtain⟨cs,h1,h2,h3⟩:=hr
  exact⟨cs,h1.aj (fun _ _ hs=>uz h (h.az _ _ (uA.2 hs))),h2,h3.back h (fun _ _=>rfl)⟩
 |ptr id t p=>
  obtain⟨r,h1,h2⟩:=hr
  exact⟨r,(hβ id t p rfl).trans h1,h2⟩
 |view t x=>
  obtain⟨ad,cs,h1,h2,h3,h4⟩:=hr
  exact⟨ad,cs,h1,h2,h3.aj (fun _ _ hs=>uz h (h.az _ _ (uA.2 hs))),fun i u hi=>uz h (h.az _ _ (uA.2 (h4 i u hi)))⟩
 |cap f t x u y=>exact rh (fun _ _ hs=>uz h (h.az _ _ (uA.2 hs))) hr
 |bA id a b n=>
  obtain⟨r,h1,h2,h3⟩:=hr
  obtain⟨hk,hb⟩:=hl id a b n rfl
  obtain⟨e1,e2,_⟩:=DW (k':=k') (d:=d) (β:=β) h (World.block_lt_of_cell? X.w _ h3) (by rw[h2];simp [iD,hk])
  refine⟨r,hb.trans h1,e1.trans h2,?_⟩
  simp only[World.cell?] at h3⊢
  rw[e2];exact h3
theorem bD.back(h:Ext (X.cP k) Y){id r:Nat}{B:bC}(hk:k≠some id)(hb:bD X id r B):bD (X.back Y k k' d β) id r B:=by
 obtain⟨h3,h1⟩:=hb
 have hm:iD k (X.ow r)=false:=by rw[h3];simp [iD,hk]
 obtain⟨k1,k2,_⟩:=DW (k':=k') (d:=d) (β:=β) h h1.lt hm
 exact⟨k1.trans h3,h1.move (fun _ _ hs=>uz h (h.az _ _ (uA.2 hs))) k2 (fun cs h4=>h4.back h (fun _ _=>by simp [iD,hk])) fun _ _ g o _ ho hw=>by
  obtain⟨e1,e2,_⟩:=DW (k':=k') (d:=d) (β:=β) h (u7 ho) (by rw[hw];simp [iD,hk])
  exact⟨e2.trans ho,e1.trans hw⟩⟩
theorem bD.out(h:Ext (X.cP k) Y){id r:Nat}{B:bC}(hk:k'=some id)(hb:bD Y 0 r B):bD (X.back Y k k' d β) id r B:=by
 obtain⟨h3,h1⟩:=hb
 refine⟨?_,h1.move (fun _ _ hs=>uz h hs) rfl (fun cs h4=>h4.out h (fun p n=>by simp [iU,hk])) fun _ _ g o _ ho hw=>⟨ho,by rw[zcy h (by rw[hw];exact fun hh=>hh),hw];simp [iU,hk]⟩⟩
 rw[zcy h (by rw[h3];exact fun e=>e),h3]
 simp [iU,hk]
theorem aA.out(h:Ext (X.cP k) Y){r0 id j:Nat}{sv:SV}{v:Value}(hβ:∀bc t p,sv= .ptr bc t p->β id=some r0)(hn:sv.bM=false)(hr:aA {Y with β:=fun _=>some r0} (.r j) sv v):aA (X.back Y k k' d β) (.c d j) (sv.fY id) v:=by
 cases sv with
 |undef=>trivial
 |skip=>exact hr
 |cD=>exact hr
 |dK=>exact hr
 |over=>exact hr
 |ak t x own=>
  obtain⟨cs,h1,h2,h3⟩:=hr
  have h3:bk Y (.r j) t x cs own:=h3
  exact⟨cs,bf.aj (fun ad v (hs:({Y with β:=fun _=>some r0}:ax).az ad v)=>uz (Y:=Y) h hs) h1,h2,h3.out h (fun _ _=>rfl)⟩
 |ptr bc t p=>
  obtain⟨r,h1,h2⟩:=hr
  have h1:some r0=some r:=h1
  cases h1
  exact⟨r0,hβ bc t p rfl,h2⟩
 |view t x=>
  obtain⟨ad,cs,h1,h2,h3,h4⟩:=hr
  exact⟨ad,cs,h1,h2,bf.aj (fun ad v (hs:({Y with β:=fun _=>some r0}:ax).az ad v)=>uz (Y:=Y) h hs) h3,fun i u hi=>uz h (show Y.az _ _ from h4 i u hi)⟩
 |cap f t x u y=>exact rh (X:={Y with β:=fun _=>some r0}) (fun ad v (hs:({Y with β:=fun _=>some r0}:ax).az ad v)=>uz (Y:=Y) h hs) hr
 |bA bc a b n=>cases hn
theorem Rel.back(h:Ext (X.cP k) Y)(hr:Rel X s a)(hβ:∀(id:Nat) B,s.bs[id]? =some (some B)->β id=X.β id)(hk:∀(id:Nat) B,s.bs[id]? =some (some B)->k≠some id):Rel (X.back Y k k' d β) s a where
 size:=hr.size
 gn:=hr.gn
 bP:=fun i l v hl hv=>(hr.bP i l v hl hv).iC fun j sv u hm jt=>jt.back h (fun id t p e=>by
  obtain⟨B,hB⟩:=hr.live i l id t p hl (e▸List.mem_of_getElem? hm)
  exact hβ id B hB) (fun id c d n e=>by
  obtain⟨_,⟨x,own,hb,_⟩,_⟩:=hr.bA i l id c d n hl (e▸List.mem_of_getElem? hm)
  exact⟨hk id _ hb,hβ id _ hb⟩)
 boxes:=fun id B hB=>by
  obtain⟨r,h1,h2⟩:=hr.boxes id B hB
  exact⟨r,(hβ id B hB).trans h1,h2.back h (hk id B hB)⟩
 live:=hr.live
 defers:=hr.defers
 bA:=hr.bA
theorem Rel.wC(h:Ext (X.cP k) Y)(hr:Rel X s a){id r:Nat}{B B':bC}(hb:s.bs[id]? =some (some B))(hk:k=some id)(IQ:k'=some id)(hβ:X.β id=some r)(hB:bD Y 0 r B')(hg:B.t.eB=false\/ []∈B.own):Rel (X.back Y k k' d X.β) (s.aC (some (id,B'))) a where
 size:=hr.size
 gn:=by simpa [State.aC] using hr.gn
 bP:=fun i l v hl hv=>(hr.bP i l v hl hv).iC fun j sv u hm jt=>jt.back h (fun _ _ _ _=>rfl) (fun bc c d n e=>⟨fun e2=>by
  rw[hk] at e2
  cases e2
  exact hr.od hb hg i l c d n hl (e▸List.mem_of_getElem? hm),rfl⟩)
 boxes:=fun bc B2 cR=>by
  have ar:id<s.bs.length:=(List.getElem?_eq_some_iff.1 hb).1
  simp only[State.aC,List.getElem?_set] at cR
  by_cases e:id=bc
  ·subst e
   rw[if_pos rfl,if_pos ar] at cR
   cases cR;exact⟨r,hβ,hB.out h IQ⟩
  ·rw[if_neg e] at cR
   obtain⟨r',h1,h2⟩:=hr.boxes bc B2 cR
   exact⟨r',h1,h2.back h (by rw[hk];intro e2;cases e2;exact e rfl)⟩
 live:=fun i l bc t p hi hm=>by
  have ar:id<s.bs.length:=(List.getElem?_eq_some_iff.1 hb).1
  obtain⟨B2,cR⟩:=hr.live i l bc t p hi hm
  simp only[State.aC,List.getElem?_set]
  by_cases e:id=bc
  ·subst e;exact⟨B',by rw[if_pos rfl,if_pos ar]⟩
  ·rw[if_neg e];exact⟨B2,cR⟩
 defers:=hr.defers
 bA:=hr.bA.aC (hr.od hb hg)
end
theorem aA.cP{k:Option Nat}{pl fW:List Nat->Place}{t:Ty}{x:El t}{w:List (List Nat)}{v:Value}(hr:aA X pl (.ak t x w) v):aA (X.cP k) fW (.ak t x []) v:=by
 obtain⟨cs,h1,h2,_⟩:=hr
 exact⟨cs,h1.aj (fun _ _=>uA.2),h2,mg⟩
theorem bD.cP{id r:Nat}{B:bC}(hb:bD X id r B):bD (X.cP (some id)) 0 r B:=by
 obtain⟨h3,h1⟩:=hb
 refine⟨by simp [ax.cP,h3,hP],h1.move (fun _ _=>uA.2) rfl (fun cs h4 p hp=> ?_) fun _ _ g o _ ho hw=>⟨ho,by simp [ax.cP,hw,hP]⟩⟩
 obtain⟨e,t',xs,v,g0,g1,g2,g3⟩:=h4 p hp
 refine⟨e,t',xs,v,g0,g1,g2,?_⟩
 rcases g3 with ho|⟨g,cap,cur,k1,k2,k3,k4,k5,k6⟩
 ·exact .inl ho
 ·exact .inr ⟨g,cap,cur,k1,k2,k3,k4,k5,by simp [ax.cP,k6,hP]⟩
theorem zpg:∀(vs l:List SV) (b:Option (Nat×bC)),jb s vs=some (l,b)->l.any SV.bM=false
 | [],l,b,h=>by
   simp only[jb,Option.some.injEq,Prod.mk.injEq] at h
   rw[<-h.1];rfl
 |v::r,l,b,h=>by
  simp only[jb] at h
  split at h
  ·cases h
  rename_i l1 b1 h1
  have ih:=zpg r l1 b1 h1
  split at h
  ·cases h;simpa [SV.bM] using ih
  ·cases h;simpa [SV.bM] using ih
  ·cases h;simpa [SV.bM] using ih
  ·split at h
   case h_2=>cases h
   split at h
   case isFalse=>cases h
   cases h;simpa [SV.bM] using ih
  ·cases h
theorem zph(hr:Rel X s a):∀(vs:List (SV×Value)) (l:List SV) (b:Option (Nat×bC)),(∀x∈vs,∃q,aA X q x.1 x.2)->jb s (vs.map (·.1))=some (l,b)->l.length=vs.length/\
 (∀id B,b=some (id,B)->s.bs[id]? =some (some B))/\
 (∀id t p,SV.ptr id t p∈l->id=0/\b.isSome=true)/\
 ∀k,(∀id B,b=some (id,B)->k=some id)->∀(i:Nat) sv x,l[i]? =some sv->vs[i]? =some x->∀q,aA (X.cP k) q sv x.2:=by
 intro vs
 induction vs with
 |nil=>
  intro l b _ h
  simp only[List.map_nil,jb,Option.some.injEq,Prod.mk.injEq] at h
  obtain⟨rfl,rfl⟩:=h
  refine⟨rfl,(fun id B e=>by cases e),(fun id t p hm=>by cases hm),fun k _ i sv x hl=>by simp at hl⟩
 |cons x r ih=>
  intro l b iO h
  simp only[List.map_cons,jb] at h
  split at h
  ·cases h
  rename_i l1 b1 h1
  obtain⟨i1,i2,i3,i4⟩:=ih l1 b1 (fun y hy=>iO y (List.mem_cons_of_mem _ hy)) h1
  obtain⟨q0,hx⟩:=iO x List.mem_cons_self
  have fin:∀(sv:SV),l=sv::l1->(∀id B,b1=some (id,B)->b=b1)->(∀id B,b=some (id,B)->s.bs[id]? =some (some B))->(∀id t p,sv= .ptr id t p->id=0/\b.isSome=true)->
   (∀k,(∀id B,b=some (id,B)->k=some id)->∀q,aA (X.cP k) q sv x.2)->l.length=(x::r).length/\
   (∀id B,b=some (id,B)->s.bs[id]? =some (some B))/\
   (∀id t p,SV.ptr id t p∈l->id=0/\b.isSome=true)/\
   ∀k,(∀id B,b=some (id,B)->k=some id)->∀(i:Nat) sv y,l[i]? =some sv->(x::r)[i]? =some y->∀q,aA (X.cP k) q sv y.2:=by
   intro sv hl hb bI bK aL
   subst hl
   refine⟨by simp [i1],bI,fun id t p hm=> ?_,fun k hk i sv' y hl hv=> ?_⟩
   ·rcases List.mem_cons.1 hm with e|hm
    ·exact bK id t p e.symm
    ·obtain⟨j1,j2⟩:=i3 id t p hm
     cases nq:b1 with
     |none=>rw[nq] at j2;cases j2
     |some bb=>rw[hb bb.1 bb.2 nq];exact⟨j1,j2⟩
   ·cases i with
    |zero=>
     simp only[List.getElem?_cons_zero,Option.some.injEq] at hl hv
     subst hl hv
     exact aL k hk
    |succ i=>
     simp only[List.getElem?_cons_succ] at hl hv
     exact i4 k (fun id B e=>hk id B (by rw[hb id B e];exact e)) i sv' y hl hv
  obtain⟨x1,x2⟩:=x
  simp only at h hx fin
  split at h
  ·cases h
   exact fin _ rfl (fun _ _ _=>rfl) i2 (fun _ _ _ e=>by cases e) (fun k _ q=>hx.cP)
  ·cases h
   exact fin _ rfl (fun _ _ _=>rfl) i2 (fun _ _ _ e=>by cases e) (fun k _ q=>hx)
  ·cases h
   refine fin _ rfl (fun _ _ _=>rfl) i2 (fun _ _ _ e=>by cases e) (fun k _ q=> ?_)
   obtain⟨ad,cs,g1,g2,g3,g4⟩:=hx
   exact⟨ad,cs,g1,g2,g3.aj (fun _ _=>uA.2),fun i w hi=>uA.2 (g4 i w hi)⟩
  ·rename_i id t
   split at h
   case h_2=>cases h
   rename_i B hB
   split at h
   case isFalse=>cases h
   cases h
   obtain⟨rr,g1,g2⟩:=hx
   refine fin _ rfl (fun _ _ e=>by cases e) (fun id B e=>by cases e;exact qd hB) (fun _ _ _ e=>by cases e;exact⟨rfl,rfl⟩) (fun k hk q=> ?_)
   have:=hk id B rfl
   subst this
   exact⟨rr,g1,g2⟩
  ·cases h
def kp(P:Program)(X:ax)(s:State)(a:Act)(o:Oper)(u:Out):Prop:=
 ∀(next:Act->World->Prop) (Q:Exit->Act->World->Prop),(∀Y v,Ext X Y->Rel Y (s.apply o.dst u) (a.put o.dst v)->next (a.put o.dst v) Y.w)->o.wp P a X.w next Q
theorem aI.does(h:aI P X s a o u):kp P X s a o u:=fun next Q hn=>by
 obtain⟨Y,v,h1,h2,h3⟩:=h
 unfold Oper.wp
 rcases h1 with h1|⟨h1,rfl⟩
 ·rw[h1,Oper.upon_value];exact hn Y v h2 h3
 ·rw[h1,Oper.upon_skip];exact hn Y _ h2 h3
theorem Kn{f:FuncId}(h:rD P f){dF:Array Operand}{ts:Array TypeId}(ho:o.op= .call ⟨.value (.func f),dF,ts⟩)(w:World):(execOp a.eval o).run P w= .ok (.enter f (dF.map a.eval)) w:=by
 obtain⟨fn,c,h1,h2,h3⟩:=h
 simp [execOp,ho,resolve,Deferred.ofValue,Act.eval,invoke,callFunc,h1,h3]
 simpa using h2
theorem zv2{l:List SV}{id:Nat}(h:∀id t p,SV.ptr id t p∉l):l.map (SV.fY id)=l:=by
 induction l with
 |nil=>rfl
 |cons v r ih=>
  rw[List.map_cons,ih (fun id t p hm=>h id t p (List.mem_cons_of_mem _ hm))]
  congr 1
  cases v<;>first|rfl|skip
  exact absurd (List.mem_cons_self) (h _ _ _)
theorem zq4{k k':Option Nat}{d:Nat}{β:Nat->Option Nat}{Y:ax}(h:Ext (X.cP k) Y){r0 id:Nat}{r:List SV}{v:Value}(hβ:∀bc t p,SV.ptr bc t p∈r->β id=some r0)(hn:r.any SV.bM=false)(hr:cI {Y with β:=fun _=>some r0} .r r v):cI (X.back Y k k' d β) (.c d) (r.map (SV.fY id)) v:=by
 match r,hr with
 | [sv],hr=>exact aA.out h (fun bc t p e=>hβ bc t p (by simp [e])) (by simpa using hn) hr
 | [],⟨vs,h1,h2,h3⟩=>exact⟨vs,h1,h2,fun j s u hs=>by simp at hs⟩
 |x::y::r,⟨vs,h1,h2,h3⟩=>
  refine⟨vs,h1,by simpa using h2,fun j sv u hs hu=> ?_⟩
  have hs:((x::y::r).map (SV.fY id))[j]? =some sv:=hs
  rw[List.getElem?_map] at hs
  obtain⟨s0,eS,rfl⟩:=Option.map_eq_some_iff.1 hs
  exact aA.out h (fun bc t p e=>hβ bc t p (e▸List.mem_of_getElem? eS)) (by simpa using List.any_eq_false.1 hn s0 (List.mem_of_getElem? eS)) (h3 j s0 u eS hu)
theorem K1{l:List SV}{id:Nat}(h:l.any SV.bM=false):(l.map (SV.fY id)).any SV.bM=false:=List.any_eq_false.2 fun v hv=>by
 obtain⟨w,hw,rfl⟩:=List.mem_map.1 hv
 have:=List.any_eq_false.1 h w hw
 cases w<;>first|exact this|simp [SV.fY,SV.bM]
theorem ab4:∀g pl n,(X.cP none).ow g≠ .row pl n:=fun g pl n=>by
 show hP none (X.ow g)≠_
 cases X.ow g with
 |row q m=>cases q<;>simp [hP]
 |_=>simp [hP]
theorem zd8(hr:Rel X s a){C:ah}(hC:C.Nat){f:FuncId}(hf:cT P C f){vs:List (SV×Value)}(wV:∀x∈vs,∃q,aA X q x.1 x.2)(ej:rD P f->(execOp a.eval o).run P X.w= .ok (.enter f (vs.map (·.2)).toArray) X.w)(h:fK (C Out) s o.dst f (vs.map (·.1)) some=some u):kp P X s a o u:=by
 have aW:=ej
 clear ej
 unfold fK at h
 have enter:∀(l:List SV) (b:Option (Nat×bC)) (k:Option Nat),jb s (vs.map (·.1))=some (l,b)->(∀id B,b=some (id,B)->k=some id)->(b=none->k=none)->jA (X.cP k) l (b.map (·.2)) (vs.map (·.2)).toArray:=by
  intro l b k bV hk zZ
  obtain⟨i1,i2,i3,i4⟩:=zph hr vs l b wV bV
  refine⟨by simpa using i1.symm,fun i sv v hl hv=> ?_,fun id t p hm=> ?_,fun B hB=> ?_,fun hb=> ?_,zpg _ _ _ bV⟩
  ·rw[List.getElem?_toArray,List.getElem?_map] at hv
   obtain⟨x,hx,rfl⟩:=Option.map_eq_some_iff.1 hv
   exact i4 k hk i sv x hl hx _
  ·obtain⟨j1,j2⟩:=i3 id t p hm
   exact⟨j1,by simpa using j2⟩
  ·obtain⟨bb,hbb,rfl⟩:=Option.map_eq_some_iff.1 hB
   obtain⟨id,B⟩:=bb
   obtain⟨r,h1,h2⟩:=hr.boxes id B (i2 id B hbb)
   have:=hk id B hbb
   subst this
   exact⟨r,h1,h2.cP⟩
  ·have hb:b=none:=by cases b<;>simp at hb⊢
   rw[zZ hb]
   exact ab4
 split at h
 ·rename_i l bV
  obtain⟨⟨r,b'⟩,mQ,h⟩:=jx (hC Out _ f l none _ (fun r b=>some (r,b)) (fun z=>match z.2 with
   |none=>some {v:=z.1}
   |some B=>match o.dst with
    |some d=>match s.bs[d+1]? with
     |some none=>some {v:=z.1.map (SV.fY (d+1)),bx:=some (d+1,B)}
     |_=>none
    |none=>none) (fun r b=>rfl)) h
  obtain⟨ej,mT⟩:=hf l none r b' mQ
  have gN:=enter l none none bV (fun id B e=>by cases e) (fun _=>rfl)
  intro next Q hn
  unfold Oper.wp
  rw[aW ej,Oper.upon_enter]
  refine(mT (X.cP none) _ gN).mono fun e w' he=> ?_
  cases e with
  |returned v=>
   obtain⟨Y,rfl,aZ,r0,aL,bI,n7,dM⟩:=he
   simp only at h
   cases b' with
   |none=>
    cases h
    have hp:=n7 (.inl rfl)
    have b7:=zpi (k':=none) (d:=o.dst.getD 0) (β:=X.β) aZ rfl
    refine hn (X.back Y none none (o.dst.getD 0) X.β) v b7 ?_
    refine(Rel.back (k':=none) aZ hr (fun _ _ _=>rfl) (fun _ _ _=>by simp)).fin ?_ (fun id t p hm=>absurd hm (hp id t p)) dM
    have:=zq4 (k':=none) (d:=o.dst.getD 0) (β:=X.β) (id:=0) aZ (fun bc t p hm=>absurd hm (hp bc t p)) dM aL
    rw[zv2 hp] at this
    exact this
   |some B=>
    simp only at h
    split at h
    case h_2=>cases h
    rename_i d hd
    split at h
    case h_2=>cases h
    rename_i iM
    cases h
    have ar:d+1<s.bs.length:=(List.getElem?_eq_some_iff.1 iM).1
    obtain⟨hB,_⟩:=bI B rfl
    let β:Nat->Option Nat:=fun id=>if id=d+1 then some r0 else X.β id
    have hβd:β (d+1)=some r0:=by simp [β]
    have b7:=zpi (k':=some (d+1)) (d:=d) (β:=β) aZ (by simp [β])
    refine hn (X.back Y none (some (d+1)) d β) v b7 ?_
    have bq:=(Rel.back (k':=some (d+1)) (d:=d) (β:=β) aZ hr (fun id B2 cR=>by
     show(if _ then _ else _)=_
     rw[if_neg (fun e=>by rw[e,iM] at cR;cases cR)]) (fun _ _ _=>by simp)).fc ar iM hβd (hB.out aZ rfl)
    rw[hd]
    refine bq.put (fun d' e=> ?_) (fun id t p hm=> ?_) (K1 dM)
    ·cases e
     exact zq4 aZ (fun _ _ _ _=>hβd) dM aL
    ·obtain⟨s0,_,he0⟩:=List.mem_map.1 hm
     have:id=d+1:=by
      cases s0<;>simp [SV.fY] at he0
      exact he0.1.symm
     subst this
     exact⟨B,by simp [State.close,State.aC,List.getElem?_set,ar]⟩
  |panicked c=>exact he.elim
  |outgrown=>exact he.elim
 ·rename_i l id B bV
  split at h
  case isTrue=>cases h
  rename_i qQ
  have hg:B.t.eB=false\/ []∈B.own:=by
   rw[Bool.not_eq_true,Bool.and_eq_false_iff,Bool.not_eq_false'] at qQ
   exact qQ.imp (fun h=>h) AE
  obtain⟨⟨r,b'⟩,mQ,h⟩:=jx (hC Out _ f l (some B) _ (fun r b=>some (r,b)) (fun z=>match z.2 with
   |some B'=>if B'.t.cj B.t=true then some {v:=z.1,bx:=some (id,B')} else none
   |none=>none) (fun r b=>rfl)) h
  obtain⟨ej,mT⟩:=hf l (some B) r b' mQ
  have gN:=enter l (some (id,B)) (some id) bV (fun id B e=>by cases e;rfl) (fun e=>by cases e)
  obtain⟨_,i2,_,_⟩:=zph hr vs l _ wV bV
  have hb:=i2 id B rfl
  intro next Q hn
  unfold Oper.wp
  rw[aW ej,Oper.upon_enter]
  refine(mT (X.cP (some id)) _ gN).mono fun e w' he=> ?_
  cases e with
  |returned v=>
   obtain⟨Y,rfl,aZ,r0,aL,bI,n7,dM⟩:=he
   simp only at h
   cases b' with
   |none=>cases h
   |some B'=>
    simp only at h
    split at h
    case isFalse=>cases h
    cases h
    have hp:=n7 (.inr rfl)
    obtain⟨hB,hβ⟩:=bI B' rfl
    have hβ:=hβ rfl
    have b7:=zpi (k':=some id) (d:=o.dst.getD 0) (β:=X.β) aZ rfl
    refine hn (X.back Y (some id) (some id) (o.dst.getD 0) X.β) v b7 ?_
    refine(Rel.wC (k:=some id) (k':=some id) aZ hr hb rfl rfl hβ hB hg).fin ?_ (fun id t p hm=>absurd hm (hp id t p)) dM
    have:=zq4 (k':=some id) (d:=o.dst.getD 0) (β:=X.β) (id:=0) aZ (fun bc t p hm=>absurd hm (hp bc t p)) dM aL
    rw[zv2 hp] at this
    exact this
  |panicked c=>exact he.elim
  |outgrown=>exact he.elim
 ·cases h
theorem zcx(hr:Rel X s a)(dF:Array Operand):∀x∈dF.toList.map (fun x=>(s.aH x,a.eval x)),∃q,aA X q x.1 x.2:=fun x hx=>by
 obtain⟨y,_,rfl⟩:=List.mem_map.1 hx
 exact⟨_,hr.aH y⟩
theorem K7{X:ax}{pl:List Nat->Place}{sv:SV}{v:Value}(h:aA X pl sv v):aA X pl sv.shut v:=by
 cases sv with
 |ak t x own=>
  obtain⟨cs,h1,h2,_⟩:=h
  exact⟨cs,h1,h2,mg⟩
 |bA id a b j=>trivial
 |_=>exact h
theorem afA{X:ax}{pl:Nat->List Nat->Place}{l:List SV}{v:Value}(h:cI X pl l v):cI X pl (l.map SV.shut) v:=by
 match l,h with
 | [sv],h=>exact K7 (sv:=sv) h
 | [],h=>exact h
 |x::y::r,⟨vs,g1,g2,g3⟩=>
  refine⟨vs,g1,by simpa using g2,fun j sv u lQ hu=> ?_⟩
  have lQ:((x::y::r).map SV.shut)[j]? =some sv:=lQ
  rw[List.getElem?_map] at lQ
  obtain⟨s0,eS,rfl⟩:=Option.map_eq_some_iff.1 lQ
  exact K7 (g3 j s0 u eS hu)
theorem afz{l:List SV}{j:Nat}{t:Ty}{p:List Nat}(h:SV.ptr j t p∈l.map SV.shut):SV.ptr j t p∈l:=by
 obtain⟨s0,eS,he⟩:=List.mem_map.1 h
 cases s0<;>first|(cases he;done)|(rw[<-he];exact eS)|skip
theorem Rel.bO(hr:Rel X s a){d:Nat}{l:List SV}:Rel X {s with sl:=s.sl.set d l} a->Rel X {s with sl:=s.sl.set d (l.map SV.shut)} a:=fun h=>{
 size:=by simpa using hr.size
 gn:=by simpa using hr.gn
 bP:=fun i l' v hl hv=>by
  replace hl:(s.sl.set d (l.map SV.shut))[i]? =some l':=hl
  rw[List.getElem?_set] at hl
  split at hl
  ·rename_i tm
   split at hl
   ·cases hl
    rename_i ar
    exact afA (h.bP i l v (by show(s.sl.set d l)[i]? =_;rw[List.getElem?_set,if_pos tm,if_pos ar]) hv)
   ·cases hl
  ·rename_i tm
   exact h.bP i l' v (by show(s.sl.set d l)[i]? =_;rw[List.getElem?_set,if_neg tm];exact hl) hv
 boxes:=h.boxes
 live:=fun i l' id t p hl hm=>by
  replace hl:(s.sl.set d (l.map SV.shut))[i]? =some l':=hl
  rw[List.getElem?_set] at hl
  split at hl
  ·rename_i tm
   split at hl
   ·cases hl
    rename_i ar
    exact h.live i l id t p (by show(s.sl.set d l)[i]? =_;rw[List.getElem?_set,if_pos tm,if_pos ar]) (afz hm)
   ·cases hl
  ·rename_i tm
   exact h.live i l' id t p (by show(s.sl.set d l)[i]? =_;rw[List.getElem?_set,if_neg tm];exact hl) hm
 defers:=h.defers
 bA:=h.bA.less (fun i l' id c b j hl hm=>by
  replace hl:(s.sl.set d (l.map SV.shut))[i]? =some l':=hl
  rw[List.getElem?_set] at hl
  split at hl
  ·split at hl
   ·cases hl
    exact(WM (zi4 l) hm).elim
   ·cases hl
  ·rename_i tm
   exact⟨l',by show(s.sl.set d l)[i]? =_;rw[List.getElem?_set,if_neg tm];exact hl,hm,fun h=>h⟩) (fun id c b x own _ hb ho=>⟨x,own,hb,ho⟩)}
theorem kp.shut(h:kp P X s a o u):kp P X s a o u.shut:=fun next Q hn=>h next Q fun Y v aZ bq=>hn Y v aZ (by
 unfold State.apply at bq⊢
 show Rel Y (((s.close u.cl).aC u.bx).av o.dst (u.v.map SV.shut)) _
 generalize(s.close u.cl).aC u.bx=s1 at*
 cases hd:o.dst with
 |none=>rw[hd] at bq;exact bq
 |some d=>
  rw[hd] at bq
  have e:=Rel.bO (X:=Y) (s:={s1 with sl:=s1.sl.set d u.v}) (a:=a.put (some d) v) (d:=d) (l:=u.v) bq (by
   show Rel Y {s1 with sl:=(s1.sl.set d u.v).set d u.v} _
   rw[List.set_set];exact bq)
  show Rel Y {s1 with sl:=s1.sl.set d (u.v.map SV.shut)} _
  have e2:Rel Y {s1 with sl:=(s1.sl.set d u.v).set d (u.v.map SV.shut)} (a.put (some d) v):=e
  rw[List.set_set] at e2
  exact e2)
def eX(id j:Nat):Ow->Bool
 | .row (.b bc (j'::_)) _=>Nat.beq bc id&&Nat.beq j' j
 |_=>false
def xR(id j:Nat):Ow->Ow
 | .all=> .all
 | .ro n=> .ro n
 | .box _=> .ro 0
 | .row (.b bc (j'::p)) n=>if Nat.beq bc id&&Nat.beq j' j then .row (.b 0 p) n else .ro n
 | .row _ n=> .ro n
def WE(id j d:Nat):Ow->Ow
 | .all=> .all
 | .ro n=> .ro n
 | .box _=> .ro 0
 | .row (.r i p) n=> .row (.c d i p) n
 | .row (.b 0 p) n=> .row (.b id (j::p)) n
 | .row _ n=> .ro n
theorem znq{id j:Nat}{w:Ow}{i:Nat}:(xR id j w).used i↔w.used i:=by
 cases w with
 |all=>rfl
 |ro n=>rfl
 |box id=>simp [xR,Ow.used]
 |row pl n=>
  cases pl with
  |b bc p=>
   cases p with
   |nil=>rfl
   |cons j' p=>simp only[xR];split<;>rfl
  |_=>rfl
theorem aaY{id j d:Nat}{w:Ow}{i:Nat}(h:w.used i):(WE id j d w).used i:=by
 cases w with
 |all=>exact h
 |ro n=>exact h
 |box id=>exact h.elim
 |row pl n=>
  cases pl with
  |b bc p=>cases bc<;>exact h
  |c i j p=>exact h
  |r j p=>exact h
theorem zhu{id j:Nat}{w:Ow}(h:eX id j w=false):(xR id j w).still:=by
 cases w with
 |all=>trivial
 |ro n=>trivial
 |box id=>trivial
 |row pl n=>
  cases pl with
  |b bc p=>
   cases p with
   |nil=>trivial
   |cons j' p=>simp only[eX] at h;simp only[xR,h];trivial
  |_=>trivial
def ax.dZ(X:ax)(id j g:Nat):ax:=⟨X.w,fun q=>if q=g then .box 0 else xR id j (X.ow q),fun _=>some g⟩
def ax.bd(X Y:ax)(id j g d:Nat):ax:=⟨Y.w,fun q=>if q=g then .row (.b id [j]) 0 else if q<X.w.heap.size/\eX id j (X.ow q)=false then X.ow q else WE id j d (Y.ow q),X.β⟩
section
variable {Y:ax} {id j g d:Nat}
theorem KN(hg:X.ow g= .row (.b id [j]) 0){ad:Addr}{v:Value}:(X.dZ id j g).az ad v↔X.az ad v:=by
 simp only[ax.az,ax.dZ]
 split
 ·rename_i e
  rw[e,hg]
  simp [Ow.used]
 ·rw[znq]
theorem xx(h:Ext (X.dZ id j g) Y){q:Nat}(hq:q<X.w.heap.size)(hm:eX id j (X.ow q)=false)(bK:q≠g):(X.bd Y id j g d).ow q=X.ow q/\(X.bd Y id j g d).w.heap[q]? =X.w.heap[q]? /\(Y.ow q).still/\Y.ow q=xR id j (X.ow q):=by
 have e:(X.dZ id j g).ow q=xR id j (X.ow q):=by simp only[ax.dZ];rw[if_neg bK]
 obtain⟨h1,h2⟩:=h.still q hq (by rw[e];exact zhu hm)
 refine⟨by simp only[ax.bd];rw[if_neg bK,if_pos ⟨hq,hm⟩],h2,?_,h1.trans e⟩
 rw[h1,e];exact zhu hm
theorem acu(h:Ext (X.dZ id j g) Y){q:Nat}(bK:q≠g)(hs:¬(Y.ow q).still):(X.bd Y id j g d).ow q=WE id j d (Y.ow q):=by
 simp only[ax.bd]
 rw[if_neg bK,if_neg]
 rintro⟨hq,hm⟩
 exact hs (xx (d:=d) h hq hm bK).2.2.1
theorem zal(h:Ext (X.dZ id j g) Y)(hY:Y.ow g= .box 0){ad:Addr}{v:Value}(hs:Y.az ad v):(X.bd Y id j g d).az ad v:=by
 have bK:ad.block≠g:=fun e=>by
  have:=hs.2.2
  rw[e,hY] at this
  exact this
 refine⟨hs.1,hs.2.1,?_⟩
 simp only[ax.bd]
 rw[if_neg bK]
 split
 ·rename_i hc
  have:=(xx (d:=d) h hc.1 hc.2 bK).2.2.2
  have hu:=hs.2.2
  rw[this,znq] at hu
  exact hu
 ·exact aaY hs.2.2
theorem QY(h:Ext (X.dZ id j g) Y)(hg:X.ow g= .row (.b id [j]) 0)(hY:Y.ow g= .box 0):Ext X (X.bd Y id j g d) where
 az:=fun ad v hs=>zal h hY (h.az ad v ((KN hg).2 hs))
 size:=h.size
 os:=h.os
 tape:=h.tape
 output:=h.output
 β0:=rfl
 still:=fun q hq bS=>by
  have hm:eX id j (X.ow q)=false:=by cases hx:X.ow q<;>rw[hx] at bS<;>first|rfl|exact bS.elim
  obtain⟨h1,h2,_⟩:=xx (d:=d) h hq hm (fun e=>by rw[e,hg] at bS;exact bS)
  exact⟨h1,h2⟩
theorem bn.bd(h:Ext (X.dZ id j g) Y)(hg:X.ow g= .row (.b id [j]) 0){pl:Place}(fD:∀n,eX id j (.row pl n)=false){e:TypeId}{m n:Nat}{v:Value}(ho:bn X pl e m n v):bn (X.bd Y id j g d) pl e m n v:=by
 rcases ho with ho|⟨q,cap,cur,h1,h2,h3,h4,h5,h6⟩
 ·exact .inl ho
 ·obtain⟨k1,k2,_⟩:=xx (d:=d) h (u7 h2) (by rw[h6];exact fD _) (fun e=>by
   rw[e,hg] at h6
   injection h6 with h6 _
   have:=fD 0
   rw[<-h6] at this
   simp [eX] at this)
  exact .inr ⟨q,cap,cur,h1,k2.trans h2,h3,h4,h5,k1.trans h6⟩
theorem bk.bd(h:Ext (X.dZ id j g) Y)(hg:X.ow g= .row (.b id [j]) 0){pl:List Nat->Place}(fD:∀p n,eX id j (.row (pl p) n)=false){t:Ty}{x:El t}{cs:List Value}{own:List (List Nat)}(ho:bk X pl t x cs own):bk (X.bd Y id j g d) pl t x cs own:=fun p hp=>by
 obtain⟨e,t',xs,v,g0,g1,g2,g3⟩:=ho p hp
 exact⟨e,t',xs,v,g0,g1,g2,g3.bd h hg (fD p)⟩
theorem bk.qS(h:Ext (X.dZ id j g) Y)(hY:Y.ow g= .box 0){pl fW:List Nat->Place}(fD:∀p n,WE id j d (.row (pl p) n)= .row (fW p) n){t:Ty}{x:El t}{cs:List Value}{own:List (List Nat)}(ho:bk Y pl t x cs own):bk (X.bd Y id j g d) fW t x cs own:=fun p hp=>by
 obtain⟨e,t',xs,v,g0,g1,g2,g3⟩:=ho p hp
 refine⟨e,t',xs,v,g0,g1,g2,?_⟩
 rcases g3 with ho|⟨q,cap,cur,h1,h2,h3,h4,h5,h6⟩
 ·exact .inl ho
 ·refine .inr ⟨q,cap,cur,h1,h2,h3,h4,h5,?_⟩
  rw[acu h (fun e=>by rw[e,hY] at h6;cases h6) (by rw[h6];exact fun e=>e),h6,fD]
theorem aA.bd(h:Ext (X.dZ id j g) Y)(hg:X.ow g= .row (.b id [j]) 0)(hY:Y.ow g= .box 0){i k:Nat}{sv:SV}{v:Value}(hr:aA X (.c i k) sv v):aA (X.bd Y id j g d) (.c i k) sv v:=by
 have hs:∀a v,X.az a v->(X.bd Y id j g d).az a v:=(QY h hg hY).az
 cases sv with
 |undef=>trivial
 |skip=>exact hr
 |cD=>exact hr
 |dK=>exact hr
 |over=>exact hr
 |ak t x own=>
  obtain⟨cs,h1,h2,h3⟩:=hr
  exact⟨cs,h1.aj hs,h2,h3.bd h hg (fun _ _=>rfl)⟩
 |ptr bc t p=>
  obtain⟨r,h1,h2⟩:=hr
  exact⟨r,h1,h2⟩
 |view t x=>
  obtain⟨ad,cs,h1,h2,h3,h4⟩:=hr
  exact⟨ad,cs,h1,h2,h3.aj hs,fun i u hi=>hs _ _ (h4 i u hi)⟩
 |cap f t x u y=>exact rh hs hr
 |bA bc a b n=>
  obtain⟨r,h1,h2,h3⟩:=hr
  obtain⟨e1,e2,_⟩:=xx (d:=d) (q:=r) h (World.block_lt_of_cell? X.w _ h3) (by rw[h2];rfl) (fun e=>by rw[e,hg] at h2;cases h2)
  refine⟨r,h1,e1.trans h2,?_⟩
  simp only[World.cell?] at h3⊢
  rw[e2];exact h3
theorem bD.bd(h:Ext (X.dZ id j g) Y)(hg:X.ow g= .row (.b id [j]) 0)(hY:Y.ow g= .box 0){bc r:Nat}{B:bC}(bK:bc≠id)(hb:bD X bc r B):bD (X.bd Y id j g d) bc r B:=by
 obtain⟨h3,h1⟩:=hb
 have hm:∀p n,eX id j (.row (.b bc p) n)=false:=fun p n=>by
  cases p with
  |nil=>rfl
  |cons j' p=>simp [eX,bK]
 obtain⟨k1,k2,_⟩:=xx (d:=d) h h1.lt (by rw[h3];rfl) (fun e=>by rw[e,hg] at h3;cases h3)
 exact⟨k1.trans h3,h1.move (QY h hg hY).az k2 (fun cs h4=>h4.bd h hg hm) fun p _ q o n ho hw=>by
  obtain⟨e1,e2,_⟩:=xx (d:=d) h (u7 ho) (by rw[hw];exact hm _ _) (fun e=>by
   rw[e,hg] at hw
   injection hw with hw _
   have:=hm p n
   rw[<-hw] at this
   simp [eX] at this)
  exact⟨e2.trans ho,e1.trans hw⟩⟩
theorem aA.qS(h:Ext (X.dZ id j g) Y)(hY:Y.ow g= .box 0){r0 k:Nat}{sv:SV}{v:Value}(hp:∀id t p,sv≠ .ptr id t p)(hn:sv.bM=false)(hr:aA {Y with β:=fun _=>some r0} (.r k) sv v):aA (X.bd Y id j g d) (.c d k) sv v:=by
 have hs:∀a v,({Y with β:=fun _=>some r0}:ax).az a v->(X.bd Y id j g d).az a v:=fun a v hs=>zal h hY (show Y.az a v from hs)
 cases sv with
 |undef=>trivial
 |skip=>exact hr
 |cD=>exact hr
 |dK=>exact hr
 |over=>exact hr
 |ak t x own=>
  obtain⟨cs,h1,h2,h3⟩:=hr
  have h3:bk Y (.r k) t x cs own:=h3
  exact⟨cs,bf.aj hs h1,h2,h3.qS h hY (fun _ _=>rfl)⟩
 |ptr bc t p=>exact absurd rfl (hp bc t p)
 |view t x=>
  obtain⟨ad,cs,h1,h2,h3,h4⟩:=hr
  exact⟨ad,cs,h1,h2,bf.aj hs h3,fun i u hi=>hs _ _ (h4 i u hi)⟩
 |cap f t x u y=>exact rh (X:={Y with β:=fun _=>some r0}) hs hr
 |bA bc a b n=>cases hn
theorem cI.qS(h:Ext (X.dZ id j g) Y)(hY:Y.ow g= .box 0){r0:Nat}{r:List SV}{v:Value}(hp:∀id t p,SV.ptr id t p∉r)(hn:r.any SV.bM=false)(hr:cI {Y with β:=fun _=>some r0} .r r v):cI (X.bd Y id j g d) (.c d) r v:=
 hr.iC fun k sv u hk hu=>hu.qS h hY (fun id t p e=>hp id t p (e▸List.mem_of_getElem? hk)) (by simpa using List.any_eq_false.1 hn sv (List.mem_of_getElem? hk))
theorem dn.bd(h:Ext (X.dZ id j g) Y)(hg:X.ow g= .row (.b id [j]) 0)(hY:Y.ow g= .box 0){k:Nat}(hk:k≠j){b:Ty}{m:Option (El b)}{v:Value}(hm:dn X (fun p=> .b id (k::p)) b m v):dn (X.bd Y id j g d) (fun p=> .b id (k::p)) b m v:=
 hm.move (QY h hg hY).az fun p _ q o n ho hw=>by
  have hf:eX id j (.row (.b id (k::p)) n)=false:=by
   simp only[eX]
   rw[show Nat.beq k j=false from by
    cases h:Nat.beq k j with
    |false=>rfl
    |true=>exact absurd (Nat.eq_of_beq_eq_true h) hk,Bool.and_false]
  obtain⟨e1,e2,_⟩:=xx (d:=d) h (u7 ho) (by rw[hw];exact hf) (fun e=>by
   rw[e,hg] at hw
   injection hw with hw _
   injection hw with _ hw
   injection hw with hw _
   exact hk hw.symm)
  exact⟨e2.trans ho,e1.trans hw⟩
end
theorem Od:∀(vs l:List SV),jb s vs=some (l,none)->∀sv∈l,(∃t x,sv= .ak t x [])\/sv= .cD\/∃t x,sv= .view t x
 | [],l,h,sv,hm=>by
   simp only[jb,Option.some.injEq,Prod.mk.injEq] at h
   rw[<-h.1] at hm
   cases hm
 |v::r,l,h,sv,hm=>by
  simp only[jb] at h
  split at h
  ·cases h
  rename_i l1 b1 h1
  split at h
  ·cases h
   rcases List.mem_cons.1 hm with rfl|hm
   ·exact .inl ⟨_,_,rfl⟩
   ·exact Od r l1 h1 sv hm
  ·cases h
   rcases List.mem_cons.1 hm with rfl|hm
   ·exact .inr (.inl rfl)
   ·exact Od r l1 h1 sv hm
  ·cases h
   rcases List.mem_cons.1 hm with rfl|hm
   ·exact .inr (.inr ⟨_,_,rfl⟩)
   ·exact Od r l1 h1 sv hm
  ·split at h
   case h_2=>cases h
   split at h
   case isFalse=>cases h
   cases h
  ·cases h
theorem znr{dF:List Operand}{t id j:Nat}{ta tb:Ty}{r:List Operand}(h:EJ s dF=some (t,id,ta,tb,j,r)):dF= .tmp t::r/\s.slot t=[.bA id ta tb j]:=by
 unfold EJ at h
 split at h
 case h_2=>cases h
 split at h
 case h_2=>cases h
 rename_i hs
 cases h
 exact⟨rfl,hs⟩
theorem aiv{X:ax}{id j:Nat}{b:Ty}{m:Option (El b)×Option (El b)}{p0 p1:Value}{y:El b}(hj:j<2)(h0:dn X (fun p=> .b id (0::p)) b m.1 p0)(h1:dn X (fun p=> .b id (1::p)) b m.2 p1)(hy:getM j m=some y):dn X (fun p=> .b id (j::p)) b (some y) (if j=0 then p0 else p1):=by
 match j,hj with
 |0,_=>
  have hy:m.1=some y:=hy
  rw[hy] at h0
  exact h0
 |1,_=>
  have hy:m.2=some y:=hy
  rw[hy] at h1
  exact h1
theorem abN(hr:Rel X s a){C:ah}(hC:C.Nat){f:FuncId}(hf:cT P C f){dF:Array Operand}{ts:Array TypeId}(ho:o.op= .call ⟨.value (.func f),dF,ts⟩){t id j:Nat}{ta tb:Ty}{r:List Operand}(hl:EJ s dF.toList=some (t,id,ta,tb,j,r))(h:jN (C Out) s f t id ta tb j (r.map s.aH) some=some u):kp P X s a o u:=by
 obtain⟨has,bS⟩:=znr hl
 have hI:=hr.slot t
 rw[bS] at hI
 obtain⟨rr,hβ,how,dG⟩:aA X (.c t 0) (.bA id ta tb j) (a.tmps.getD t Go.undef):=hI
 have Ye:t<s.sl.length:=by
  rcases Nat.lt_or_ge t s.sl.length with h|h
  ·exact h
  ·simp [State.slot,List.getElem?_eq_none h] at bS
 have hsi:s.sl[t]? =some [.bA id ta tb j]:=by rw[qh Ye,bS]
 obtain⟨_,⟨x1,Jx,nq,anh⟩,Jj⟩:=hr.bA t _ id ta tb j hsi (by simp)
 unfold jN at h
 split at h
 case isTrue=>cases h
 rename_i dU
 have dU:tb.bH=false:=by simpa using dU
 split at h
 case h_2=>cases h
 rename_i l bV
 obtain⟨x,own,r1,hb,h,bR,h1,_,c,p0,p1,T,aD,aL,rJ,rK⟩:=Ek hr h
 rw[hβ] at h1
 cases h1
 split at h
 case h_2=>cases h
 rename_i y hy
 have hv:(c++ [p0,p1,Value.int .i64 x.2.2])[ta.cells+j]? =some (a.tmps.getD t Go.undef):=by
  simp only[World.cell?,aD] at dG
  simpa using dG
 rw[List.getElem?_append_right (by rw[aL.len];omega),aL.len,Nat.add_sub_cancel_left] at hv
 have hj:j<2:=by
  match j,hy with
  |0,_=>omega
  |1,_=>omega
  |j+2,hy=>cases hy
 obtain⟨g,csg,Tg,Ae,XF,l9,X7,Yi⟩:=aiv hj rJ rK hy
 have hvt:a.tmps.getD t Go.undef= .pointer (some ⟨g,0,none⟩):=by
  match j,hj with
  |0,_=>
   have hv:p0=a.tmps.getD t Go.undef:=by simpa using hv
   rw[<-hv];exact Ae
  |1,_=>
   have hv:p1=a.tmps.getD t Go.undef:=by simpa using hv
   rw[<-hv];exact Ae
 obtain⟨⟨res,b'⟩,mQ,h⟩:=jx (hC Out _ f (.ptr 0 tb []::l) (some ⟨tb,y,AZ⟩) _ (fun r b=>some (r,b)) (fun z=>match z.2 with
  |some B'=>if h:B'.t.cj tb=true then bif gm B'.own [2] then some {v:=z.1,bx:=some (id,⟨.aG .bz ta tb,(x.1,fB j (some (Ty.cast h B'.x)) x.2.1,x.2.2),[]::own⟩),cl:=[(t,0)]} else none else none
  |none=>none) (fun r b=>rfl)) h
 obtain⟨ej,mT⟩:=hf _ _ res b' mQ
 have gN:jA (X.dZ id j g) (.ptr 0 tb []::l) (some ⟨tb,y,AZ⟩) (dF.map a.eval):=by
  have dW:∀ad v,X.az ad v->(X.dZ id j g).az ad v:=fun _ _=>(KN l9).2
  have Iz:dF.toList.map a.eval=a.eval (.tmp t)::r.map a.eval:=by rw[has];rfl
  have cz:∀i,(dF.map a.eval)[i]? =(a.eval (.tmp t)::r.map a.eval)[i]? :=fun i=>by
   rw[<-Iz,<-Array.toList_map,Array.getElem?_toList]
  obtain⟨i1,_,_,i4⟩:=zph hr (r.map fun x=>(s.aH x,a.eval x)) l none (fun z hz=>by
   obtain⟨q,_,rfl⟩:=List.mem_map.1 hz
   exact⟨_,hr.aH q⟩) (by rw[List.map_map];exact bV)
  refine⟨?_,fun i sv v hs hv=> ?_,fun bc t' p hm=> ?_,fun B hB=> ?_,(fun hb=>by cases hb),(by have:=zpg _ _ _ bV;simpa [SV.bM] using this)⟩
  ·have:=congrArg List.length Iz
   simp at this i1⊢
   omega
  ·rw[cz] at hv
   cases i with
   |zero=>
    simp only[List.getElem?_cons_zero,Option.some.injEq] at hs hv
    subst hs hv
    refine⟨g,rfl,(qc dU).2 ⟨?_,by simp [Ty.eA]⟩⟩
    show a.tmps.getD t Go.undef=_
    rw[hvt]
    simp [Ty.off]
   |succ i=>
    simp only[List.getElem?_cons_succ] at hs hv
    have hx:=i4 none (fun _ _ e=>by cases e) i sv
    rw[List.getElem?_map] at hv
    obtain⟨q,hq,rfl⟩:=Option.map_eq_some_iff.1 hv
    have tM:=hx (s.aH q,a.eval q) hs (by rw[List.getElem?_map,hq];rfl) (.c (i+1) 0)
    have Jg:∀ad v,(X.cP none).az ad v->(X.dZ id j g).az ad v:=fun ad v h=>dW ad v (uA.1 h)
    rcases Od _ _ bV sv (List.mem_of_getElem? hs) with⟨t1,y1,rfl⟩|rfl|⟨t1,y1,rfl⟩
    ·obtain⟨cs,e1,e2,_⟩:=tM
     exact⟨cs,e1.aj Jg,e2,mg⟩
    ·exact tM
    ·obtain⟨ad,cs,e1,e2,e3,e4⟩:=tM
     exact⟨ad,cs,e1,e2,e3.aj Jg,fun i w hi=>Jg _ _ (e4 i w hi)⟩
  ·rcases List.mem_cons.1 hm with e|hm
   ·cases e;exact⟨rfl,rfl⟩
   ·rcases Od _ _ bV _ hm with⟨_,_,e⟩|e|⟨_,_,e⟩<;>cases e
  ·cases hB
   refine⟨g,rfl,by simp [ax.dZ],dm.of dU XF (X7.aj dW) fun p hp=> ?_⟩
   obtain⟨e,t',xs,v,g0,g1,g2,g3⟩:=Yi p hp
   refine⟨e,t',xs,v,g0,g1,g2,?_⟩
   rcases g3 with g3|⟨q,cap,cur,k1,k2,k3,k4,k5,k6⟩
   ·exact .inl g3
   ·refine .inr ⟨q,cap,cur,k1,k2,k3,k4,k5,?_⟩
    have bK:q≠g:=fun e=>by
     rw[e,l9] at k6
     injection k6 with k6 _
     injection k6 with _ k6
     injection k6 with _ k6
     have:p=[2]:=by simpa [AZ] using hp
     rw[this] at k6
     cases k6
    simp only[ax.dZ]
    rw[if_neg bK,k6]
    simp [xR]
 intro next Q hn
 unfold Oper.wp
 rw[Kn ej ho,Oper.upon_enter]
 refine(mT (X.dZ id j g) _ gN).mono fun e w' he=> ?_
 cases e with
 |panicked c=>exact he.elim
 |outgrown=>exact he.elim
 |returned v=>
  obtain⟨Y,rfl,aZ,r0,Jb,bI,n7,dM⟩:=he
  cases b' with
  |none=>cases h
  |some B'=>
   simp only at h
   split at h
   case isFalse=>cases h
   rename_i df
   cases I1:gm B'.own [2] with
   |false=>rw[I1] at h;cases h
   |true=>
   rw[I1,cond_true] at h
   cases h
   have hp:=n7 (.inr rfl)
   obtain⟨hB,hβ0⟩:=bI B' rfl
   have hβ0:=hβ0 rfl
   have:g=r0:=by
    have e:(X.dZ id j g).β 0=some g:=rfl
    rw[e] at hβ0
    injection hβ0
   subst this
   have hY:Y.ow g= .box 0:=hB.1
   have hX:=QY (d:=o.dst.getD 0) aZ l9 hY
   refine hn (X.bd Y id j g (o.dst.getD 0)) v hX ?_
   obtain⟨er1,er2,_⟩:=xx (d:=o.dst.getD 0) (q:=rr) aZ (u7 aD) (by rw[how];rfl) (fun e=>by rw[e,l9] at how;cases how)
   have cC:dn (X.bd Y id j g (o.dst.getD 0)) (fun p=> .b id (j::p)) tb (some (Ty.cast df B'.x)) (.pointer (some ⟨g,0,none⟩)):=by
    obtain⟨bt,bx,bo⟩:=B'
    have e:=Ty.aJ df
    simp only at e
    subst e
    obtain⟨ey,T',k1,k2,k3⟩:=(dm.plain dU).1 hB.2
    refine⟨g,ey,T',rfl,k1,by simp [ax.bd],k2.aj fun _ _=>zal aZ hY,?_⟩
    have h2:bk (X.bd Y id j g (o.dst.getD 0)) (fun p=> .b id (j::p)) bt bx ey.toList bo:=bk.qS aZ hY (pl:= .b 0) (fun _ _=>rfl) k3
    intro p hp
    have:p=[2]:=by simpa [AZ] using hp
    subst this
    exact h2 [2] (AE I1)
   have BL:gR (X.bd Y id j g (o.dst.getD 0)) rr (.b id) ta tb (x.1,fB j (some (Ty.cast df B'.x)) x.2.1,x.2.2):=by
    refine⟨c,p0,p1,T,er2.trans aD,aL.aj hX.az,?_,?_⟩
    ·match j,hj,Ae with
     |0,_,Ae=>
      have:p0= .pointer (some ⟨g,0,none⟩):=Ae
      rw[this];exact cC
     |1,_,_=>exact rJ.bd aZ l9 hY (by omega)
    ·match j,hj,Ae with
     |0,_,_=>exact rK.bd aZ l9 hY (by omega)
     |1,_,Ae=>
      have:p1= .pointer (some ⟨g,0,none⟩):=Ae
      rw[this];exact cC
   have eH:=hr.b9 t 0
   have hG:∀(i:Nat) (l:List SV) a b j,(s.b9 t 0).sl[i]? =some l->SV.bA id a b j∈l->False:=fun i l a' b' j' ky hm=>by
    simp only[State.b9,List.getElem?_set] at ky
    split at ky
    ·first
      |(split at ky
        ·cases ky
         rw[bS] at hm
         simp [Ref.bO,SV.shut] at hm
        ·cases ky)
      |(cases ky
        rw[bS] at hm
        simp [Ref.bO,SV.shut] at hm)
    ·rename_i e
     exact e (Jj i l a' b' j' ky hm).symm
   have ar:id<(s.b9 t 0).bs.length:=(List.getElem?_eq_some_iff.1 hb).1
   have bq:Rel (X.bd Y id j g (o.dst.getD 0)) ((s.b9 t 0).aC (some (id,⟨.aG .bz ta tb,(x.1,fB j (some (Ty.cast df B'.x)) x.2.1,x.2.2),[]::own⟩))) a:=by
    refine⟨eH.size,by simpa [State.aC] using eH.gn,fun i l v ky iQ=>(eH.bP i l v ky iQ).iC fun k sv u hm hu=>hu.bd aZ l9 hY,fun bc B2 cR=> ?_,fun i l bc t' p hi hm=> ?_,eH.defers,eH.bA.aC hG⟩
    ·simp only[State.aC,List.getElem?_set] at cR
     by_cases e:id=bc
     ·subst e
      rw[if_pos rfl,if_pos ar] at cR
      cases cR
      exact⟨rr,hβ,er1.trans how,⟨_,er2.trans aD⟩,fun _=>BL⟩
     ·rw[if_neg e] at cR
      obtain⟨r',k1,k2⟩:=eH.boxes bc B2 cR
      exact⟨r',k1,k2.bd aZ l9 hY (fun e2=>e e2.symm)⟩
    ·obtain⟨B2,cR⟩:=eH.live i l bc t' p hi hm
     simp only[State.aC,List.getElem?_set]
     by_cases e:id=bc
     ·subst e;exact⟨_,by rw[if_pos rfl,if_pos ar]⟩
     ·rw[if_neg e];exact⟨B2,cR⟩
   exact bq.fin (Jb.qS aZ hY hp dM) (fun id t p hm=>absurd hm (hp id t p)) dM
theorem aeI(hr:Rel X s a){C:ah}(hC:C.Nat){f:FuncId}(hf:cT P C f){ops:List Oper}{dF:Array Operand}{ts:Array TypeId}(ho:o.op= .call ⟨.value (.func f),dF,ts⟩)(h:act E (C Out) ops o s some=some u):kp P X s a o u:=by
 unfold act at h
 simp only[ho] at h
 split at h
 ·rename_i t id ta tb j r hl
  exact abN hr hC hf ho hl h
 obtain⟨u0,h0,h1⟩:=jx (Rd hC (F:=fun u=>some (bif fq E o.dst then u.shut else u)) (G:=some) (K:=fun u=>some (bif fq E o.dst then u.shut else u)) (fun _=>rfl)) h
 have hd:kp P X s a o u0:=by
  refine zd8 hr hC hf (zcx hr dF) (fun ej=> ?_) (by rw[List.map_map];exact h0)
  rw[Kn ej ho]
  congr 2
  apply Array.toList_inj.1
  simp [Function.comp_def]
 cases hs:fq E o.dst with
 |false=>rw[hs] at h1;cases h1;exact hd
 |true=>rw[hs] at h1;cases h1;exact hd.shut
theorem akU{f:FuncId}(h:rD P f){x:Operand}{v:Value}{dF:Array Operand}{ts:Array TypeId}(ho:o.op= .call ⟨.value x,dF,ts⟩)(hx:a.eval x= .func (.func f) #[] #[v])(w:World):(execOp a.eval o).run P w= .ok (.enter f (dF.map a.eval++ #[v])) w:=by
 obtain⟨fn,c,h1,h2,h3⟩:=h
 simp [execOp,ho,resolve,Deferred.ofValue,hx,invoke,callFunc,h1,h3]
 simpa using h2
theorem ah7{f:FuncId}(h:rD P f){x:Operand}{v v2:Value}{dF:Array Operand}{ts:Array TypeId}(ho:o.op= .call ⟨.value x,dF,ts⟩)(hx:a.eval x= .func (.func f) #[] #[v,v2])(w:World):(execOp a.eval o).run P w= .ok (.enter f (dF.map a.eval++ #[v,v2])) w:=by
 obtain⟨fn,c,h1,h2,h3⟩:=h
 simp [execOp,ho,resolve,Deferred.ofValue,hx,invoke,callFunc,h1,h3]
 simpa using h2
theorem abM(hr:Rel X s a){C:ah}(hC:C.Nat)(hf:∀f,cT P C f){ops:List Oper}{y:Nat}{dF:Array Operand}{ts:Array TypeId}(ho:o.op= .call ⟨.value (.tmp y),dF,ts⟩)(h:act E (C Out) ops o s some=some u):kp P X s a o u:=by
 unfold act at h
 simp only[ho] at h
 split at h
 case h_3=>cases h
 case h_2=>
  rename_i f t x1 u' y1 dv
  have hx:=hr.aH (.tmp y)
  rw[dv] at hx
  obtain⟨ad,pW,cs,ey,hv,⟨g2,g3,g4⟩,k2,k3,k4⟩:=hx
  refine zd8 hr hC (hf f) (vs:=dF.toList.map (fun x=>(s.aH x,a.eval x))++ [(.view t x1,.pointer (some ad)),(.view u' y1,.pointer (some pW))]) (fun x hx=> ?_) (fun ej=> ?_) (by rw[List.map_append,List.map_map];exact h)
  ·rcases List.mem_append.1 hx with hx|hx
   ·exact zcx hr dF x hx
   ·rcases List.mem_cons.1 hx with rfl|hx
    ·exact⟨.r 0,ad,cs,rfl,g2,g3,g4⟩
    ·rw[List.mem_singleton.1 hx]
     exact⟨.r 0,pW,ey,rfl,k2,k3,k4⟩
  ·rw[ah7 ej ho hv]
   congr 2
   apply Array.toList_inj.1
   simp [Function.comp_def]
 rename_i id f t b dv
 have hx:=hr.aH (.tmp y)
 rw[dv] at hx
 obtain⟨r0,hβ,hv⟩:=hx
 have hv:a.eval (.tmp y)= .func (.func f) #[] #[.pointer (some ⟨r0,0,none⟩)]:=hv
 split at h
 case isTrue=>cases h
 rename_i hs
 refine zd8 hr hC (hf f) (vs:=dF.toList.map (fun x=>(s.aH x,a.eval x))++ [(.ptr id t [],.pointer (some ⟨r0,0,none⟩))]) (fun x hx=> ?_) (fun ej=> ?_) (by rw[List.map_append,List.map_map];exact h)
 ·rcases List.mem_append.1 hx with hx|hx
  ·exact zcx hr dF x hx
  ·rw[List.mem_singleton.1 hx]
   exact⟨.r 0,r0,hβ,(Ov (by simpa using hs)).2 ⟨by simp [Ty.off],by simp [Ty.eA]⟩⟩
 ·rw[akU ej ho hv]
  congr 2
  apply Array.toList_inj.1
  simp [Function.comp_def]
end Go.Ref

namespace Go.Ref
open Go
variable {P:Program} {E:Env} {X:ax} {s:State} {a:Act} {o:Oper} {u:Out}
theorem ahR(hE:aq P E)(hr:Rel X s a){C:ah}(hC:C.Nat)(hf:∀f,cT P C f){ops:List Oper}(h:act E (C Out) ops o s some=some u):kp P X s a o u:=by
 cases ho:o.op with
 |move x=>exact(aeN hr ho h).does
 |assign x=>exact(aa3 hr ho h).does
 |pick c x y=>exact(aeP hr ho h).does
 |binOp op T x y T'=>exact(aif hE hr ho h).does
 |unOp op T x=>exact(akX hr ho h).does
 |convert S T x=>exact(aeJ hE hr ho h).does
 |load T x=>exact(aeM hE hr ho h).does
 |store T x y=>exact(abV hE hr ho h).does
 |nilCheck x=>exact(z131 hr ho h).does
 |fieldAddr T x j=>exact(zzz hE hr ho h).does
 |indexAddr T x i=>exact(aac hE hr ho h).does
 |index T x i=>exact(abS hE hr ho h).does
 |field T x j=>exact(abR hE hr ho h).does
 |slice T x lo hi mx=>
  cases mx with
  |none=>exact(aii hE hr ho h).does
  |some m=>unfold act at h;simp only[ho] at h;cases h
 |alloc T=>exact(abK hE hr ho h).does
 |box T x=>exact(aih hE hr ho h).does
 |build T parts=>exact(abL hE hr ho h).does
 |buildSlice T n parts=>exact(zu3 hE hr ho h).does
 |extract x j=>exact(z168 hr ho h).does
 |makeMap T r=>exact(aaD hE hr ho h).does
 |lookup T x i ok=>exact(aa5 hE hr ho h).does
 |mapUpdate T m k x=>exact(zc6 hE hr (.inl ho) h).does
 |insert T m k x=>exact(zc6 hE hr (.inr ho) h).does
 |range T x=>exact(abU hE hr ho h).does
 |next x str=>exact(aeO hr ho h).does
 |makeSlice T l c=>exact(aad hE hr ho h).does
 |makeFunc fn fi ca=>exact(z130 hr ho h).does
 |call c=>
  obtain⟨callee,args,ts⟩:=c
  cases callee with
  |value x=>
   cases x with
   |func f=>exact aeI hr hC (hf f) ho h
   |tmp y=>exact abM hr hC hf ho h
   |_=>unfold act at h;simp only[ho] at h;cases h
  |builtin b=>
   cases b with
   |len=>exact(aij (x:= .const Go.undef) (T:=0) hE hr ho h).does
   |append=>exact(aa2 hE hr ho h).does
   |copy=>exact(aeK hE hr ho h).does
   |max=>exact(Kk (g:=true) hr ho h).does
   |min=>exact(Kk (g:=false) hr ho h).does
   |_=>unfold act at h;simp only[ho] at h;cases h
  |_=>unfold act at h;simp only[ho] at h;cases h
 |_=>unfold act at h;simp only[ho] at h;cases h
theorem Rel.know(hr:Rel X s a){d:Nat}{p:Bool}{o:List (List Nat)}(h:s.slot d=[.ak .bool p o]):Rel X (s.av (some d) (bl p)) a/\a.tmps[d]? =some (.bool p):=by
 have hd:d<s.sl.length:=by
  rcases Nat.lt_or_ge d s.sl.length with h1|h1
  ·exact h1
  ·simp [State.slot,List.getElem?_eq_none h1] at h
 have rH:d<a.tmps.size:=by rw[<-hr.size];exact hd
 have hv:a.tmps[d]? =some (a.tmps.getD d Go.undef):=by simp [Array.getElem?_eq_getElem rH]
 have hs:=hr.slot d
 rw[h] at hs
 have hb:=NZ (X:=X) hs
 rw[hb] at hv
 refine⟨?_,hv⟩
 have X3:a.put (some d) (.bool p)=a:=by
  cases a with
  |mk tmps defers=>
   simp only[Act.put,Act.mk.injEq,and_true]
   apply Array.ext_getElem?
   intro i
   rw[Array.getElem?_setIfInBounds]
   split
   ·rename_i e
    subst e
    first
     |exact hv.symm
     |(rw[if_pos rH];exact hv.symm)
   ·rfl
 have:=hr.put (d:=some d) (l:=bl p) (v:= .bool p) (fun _ _=>nk) (fun id t q hm=>by simp [bl] at hm)
 rw[X3] at this
 exact this
theorem UA(hE:aq P E)(hr:Rel X s a){C:ah}(hC:C.Nat)(hf:∀f,cT P C f){ops:Array Oper}{i:Nat}(hi:ops[i]? =some o){s':State}(h:step E (C State) ops.toList o s some=some s'){Q:Exit->Act->World->Prop}{K:Act->World->Prop}
 (hK:∀Y a',Ext X Y->Rel Y s' a'->K a' Y.w):wpOp P ops Q i K a X.w:=by
 unfold wpOp
 simp only[hi]
 have qQ:∀{s1:State},Rel X s1 a->(act E (C State) ops.toList o s1 fun u=>some (s1.apply o.dst u))=some s'->o.wp P a X.w K Q:=by
  intro s1 eH h1
  obtain⟨u,hu,h2⟩:=jx (xH hC (F:=fun u=>some (s1.apply o.dst u)) (G:=some) (K:=fun u=>some (s1.apply o.dst u)) (fun _=>rfl)) h1
  cases h2
  exact ahR hE eH hC hf hu K Q (fun Y v aZ bq=>hK Y _ aZ bq)
 have jT:∀{s1:State},Rel X s1 a->some (s1.av o.dst [.skip])=some s'->K (a.put o.dst Go.undef) X.w:=by
  intro s1 eH h1
  cases h1
  exact hK X _ (Ext.refl X) (eH.skip o.dst)
 unfold step at h
 simp only at h
 split at h
 ·rename_i hg
  have hw:Region.wanted o (yielded ops a.tmps)=true:=by simp [Region.wanted,hg]
  rw[if_pos hw]
  exact .inl (qQ hr h)
 ·rename_i g want hg
  split at h
  ·cases h
  rename_i d hd
  have hd':(ops[g]?).bind (·.dst)=some d:=by simpa [Pm] using hd
  split at h
  ·rename_i p hs
   obtain⟨eH,hv⟩:=hr.know hs
   have hy:yielded ops a.tmps g=some p:=by simp [yielded,hd',hv]
   have hw:Region.wanted o (yielded ops a.tmps)=(p==want):=by simp [Region.wanted,hg,hy]
   cases p<;>cases want<;>simp only[cond_true,cond_false] at h<;>rw[hw]
   ·exact .inl (qQ eH h)
   ·exact jT eH h
   ·exact jT eH h
   ·exact .inl (qQ eH h)
  ·rename_i hs
   have hI:=hr.slot d
   rw[hs] at hI
   have mZ:a.tmps.getD d Go.undef=Go.undef:=hI
   have hy:yielded ops a.tmps g=none:=by
    simp only[yielded,hd',Option.bind_some]
    cases ht:a.tmps[d]? with
    |none=>rfl
    |some v=>
     have:v=Go.undef:=by
      rw[<-mZ]
      simp [Array.getD_eq_getD_getElem?,ht]
     subst this
     rfl
   have hw:Region.wanted o (yielded ops a.tmps)=false:=by simp [Region.wanted,hg,hy]
   rw[hw]
   exact jT hr h
  ·cases h
theorem Mc(hE:aq P E){C:ah}(hC:C.Nat)(hf:∀f,cT P C f){ops:Array Oper}{s':State}{Q:Exit->Act->World->Prop}:∀(l:List Nat) (X:ax) (s:State) (a:Act),Rel X s a->(∀i∈l,i<ops.size)->
 steps E (C State) ops.toList (l.map fun i=>ops.getD i default) s some=some s'->(∀Y a',Ext X Y->Rel Y s' a'->Q .normal a' Y.w)->wpOps P ops Q l a X.w
 | [],X,s,a,hr,_,h,hQ=>by
   cases h
   exact hQ X a (Ext.refl X) hr
 |i::r,X,s,a,hr,hl,h,hQ=>by
  simp only[List.map_cons,steps] at h
  obtain⟨s1,h1,h2⟩:=jx (zq7 hC (F:=fun s=>steps E (C State) ops.toList (r.map fun i=>ops.getD i default) s some) (G:=some) (K:=fun s=>steps E (C State) ops.toList (r.map fun i=>ops.getD i default) s some) (fun _=>rfl)) h
  have hi:ops[i]? =some (ops.getD i default):=by
   have:=hl i (by simp)
   simp [this]
  rw[wpOps_cons]
  refine UA hE hr hC hf hi h1 fun Y a' aZ bq=> ?_
  exact Mc hE hC hf r Y s1 a' bq (fun j hj=>hl j (List.mem_cons_of_mem _ hj)) h2 fun Z a2 b7 cX=>hQ Z a2 (aZ.trans b7) cX
end Go.Ref

namespace Go.Ref
open Go
variable {P:Program} {E:Env} {X:ax} {s:State} {a:Act} {o:Oper} {u:Out}
theorem zpq(i j:Nat):(bit i).testBit j=decide (i=j):=by
 simp [bit,Nat.shiftLeft_eq,Nat.testBit_two_pow]
theorem xC:∀(l:List Nat) (j:Nat),(iT l).testBit j=decide (j∈l)
 | [],j=>by simp [iT]
 |i::r,j=>by
  rw[iT,Nat.testBit_or,zpq,xC r j]
  by_cases h:i=j
  ·subst h;simp
  ·have h':¬j=i:=fun e=>h e.symm
   simp [h,h']
theorem Rw{a b:Nat}(h:Nat.beq (a&&&b) 0=true)(j:Nat):a.testBit j=true->b.testBit j=false:=by
 intro ha
 have h0:=Nat.eq_of_beq_eq_true h
 have:=congrArg (fun n=>Nat.testBit n j) h0
 simp only[Nat.testBit_and,Nat.zero_testBit,ha,Bool.true_and] at this
 exact this
theorem DL:∀(l:List Edge) (j:Nat),(zx l).testBit j=true->∃e∈l,Region.binds .any e=true/\e.on=j
 | [],j,h=>by simp [zx] at h
 |e::r,j,h=>by
  simp only[zx] at h
  cases hb:Region.binds .any e with
  |false=>
   rw[hb] at h
   obtain⟨e',h1,h2⟩:=DL r j h
   exact⟨e',List.mem_cons_of_mem _ h1,h2⟩
  |true=>
   rw[hb] at h
   simp only[cond_true,Nat.testBit_or,zpq,Bool.or_eq_true,decide_eq_true_eq] at h
   rcases h with h|h
   ·exact⟨e,by simp,hb,h⟩
   ·obtain⟨e',h1,h2⟩:=DL r j h
    exact⟨e',List.mem_cons_of_mem _ h1,h2⟩
theorem zgq:∀(l:List Edge) (e:Edge),e∈l->Region.binds .any e=true->(zx l).testBit e.on=true
 |e'::r,e,h,hb=>by
  simp only[zx]
  rcases List.mem_cons.1 h with rfl|h
  ·rw[hb];simp [Nat.testBit_or,zpq]
  ·have:=zgq r e h hb
   cases Region.binds .any e'<;>simp [Nat.testBit_or,this]
theorem J6{m i j:Nat}(h:Nat.ble (m+1) (bit i)=true)(hj:m.testBit j=true):j<i:=by
 have h1:m<2^i:=by
  have:=Nat.le_of_ble_eq_true h
  simp only[bit,Nat.shiftLeft_eq,Nat.one_mul] at this
  omega
 rcases Nat.lt_or_ge j i with h2|h2
 ·exact h2
 ·have h3:m<2^j:=Nat.lt_of_lt_of_le h1 (Nat.pow_le_pow_right (by omega) h2)
  rw[Nat.testBit_lt_two_pow h3] at hj
  cases hj
def eD(E:Env)(C:ah)(ops:List Oper)(o:Oper)(s:State):Option Out:=
 match o.guard with
 |none=>act E (C Out) ops o s some
 |some (g,want)=>match Pm ops g with
  |none=>none
  |some d=>match s.slot d with
   | [.ak .bool p []]=>if p=want then act E (C Out) ops o s some else some {v:=[.skip]}
   | [.skip]=>some {v:=[.skip]}
   |_=>none
theorem Ft{d:Nat}{l:List SV}(h:s.slot d=l):s.av (some d) l=s:=by
 cases s with
 |mk sl bs=>
  simp only[State.av,State.mk.injEq,and_true]
  simp only[State.slot] at h
  apply List.ext_getElem?
  intro i
  rw[List.getElem?_set]
  split
  ·rename_i e
   subst e
   split
   ·rename_i ar
    rw[List.getD_eq_getElem?_getD,List.getElem?_eq_getElem ar] at h
    rw[List.getElem?_eq_getElem ar]
    simpa using h.symm
   ·rename_i ar
    rw[List.getElem?_eq_none (by omega)]
  ·rfl
theorem afF{C:ah}(hC:C.Nat){R:Type}{ops:List Oper}{i:Nat}{tr:List dN}{K:State->List dN->Option R}{z:R}(h:ll E (C R) ops o i s tr K=some z):
 ∃u,eD E C ops o s=some u/\fits ops (zx o.after.toList) (gf ops o i s u) tr=true/\K (s.apply o.dst u) (gf ops o i s u::tr)=some z:=by
 have qQ:(act E (C R) ops o s fun u=>bif fits ops (zx o.after.toList) (gf ops o i s u) tr then K (s.apply o.dst u) (gf ops o i s u::tr) else none)=some z->
  ∃u,act E (C Out) ops o s some=some u/\fits ops (zx o.after.toList) (gf ops o i s u) tr=true/\K (s.apply o.dst u) (gf ops o i s u::tr)=some z:=by
  intro h
  obtain⟨u,h1,h2⟩:=jx (xH hC (F:=fun u=>bif fits ops (zx o.after.toList) (gf ops o i s u) tr then K (s.apply o.dst u) (gf ops o i s u::tr) else none) (G:=some) (K:=fun u=>bif fits ops (zx o.after.toList) (gf ops o i s u) tr then K (s.apply o.dst u) (gf ops o i s u::tr) else none) (fun _=>rfl)) h
  cases hf:fits ops (zx o.after.toList) (gf ops o i s u) tr with
  |false=>rw[hf] at h2;cases h2
  |true=>rw[hf] at h2;exact⟨u,h1,hf,h2⟩
 have jT:(bif fits ops (zx o.after.toList) (gf ops o i s {v:=[.skip]}) tr then K (s.apply o.dst {v:=[.skip]}) (gf ops o i s {v:=[.skip]}::tr) else none)=some z->
  fits ops (zx o.after.toList) (gf ops o i s {v:=[.skip]}) tr=true/\K (s.apply o.dst {v:=[.skip]}) (gf ops o i s {v:=[.skip]}::tr)=some z:=by
  intro h
  cases hf:fits ops (zx o.after.toList) (gf ops o i s {v:=[.skip]}) tr with
  |false=>rw[hf] at h;cases h
  |true=>rw[hf] at h;exact⟨rfl,h⟩
 unfold ll at h
 unfold eD
 simp only at h
 split at h
 ·rename_i hg
  try simp only[hg]
  exact qQ h
 ·rename_i g want hg
  try simp only[hg]
  split at h
  ·cases h
  rename_i d hd
  try simp only[hd]
  split at h
  ·rename_i p hs
   have lQ:s.slot d=bl p:=hs
   try simp only[hs]
   cases p<;>cases want<;>simp only[cond_true,cond_false] at h
   ·rw[Ft lQ] at h;rw[if_pos rfl];exact qQ h
   ·rw[Ft lQ] at h;rw[if_neg (by simp)];exact⟨_,rfl,jT h⟩
   ·rw[Ft lQ] at h;rw[if_neg (by simp)];exact⟨_,rfl,jT h⟩
   ·rw[Ft lQ] at h;rw[if_pos rfl];exact qQ h
  ·rename_i hs
   try simp only[hs]
   exact⟨_,rfl,jT h⟩
  ·cases h
theorem zo4{C:ah}(hC:C.Nat){ops:List Oper}(h:eD E C ops o s=some u):step E (C State) ops o s some=some (s.apply o.dst u):=by
 have qQ:act E (C Out) ops o s some=some u->(act E (C State) ops o s fun u=>some (s.apply o.dst u))=some (s.apply o.dst u):=by
  intro h
  rw[xH hC (F:=fun u=>some (s.apply o.dst u)) (G:=some) (K:=fun u=>some (s.apply o.dst u)) (fun _=>rfl),h]
  rfl
 unfold eD at h
 unfold step
 simp only
 split at h
 ·rename_i hg
  try simp only[hg]
  exact qQ h
 ·rename_i g want hg
  try simp only[hg]
  split at h
  ·cases h
  rename_i d hd
  try simp only[hd]
  split at h
  ·rename_i p hs
   have lQ:s.slot d=bl p:=hs
   try simp only[hs]
   split at h
   ·rename_i e
    subst e
    cases p<;>simp only[cond_true,cond_false]<;>rw[Ft lQ]<;>exact qQ h
   ·rename_i e
    cases h
    cases p<;>cases want<;>simp only[cond_true,cond_false]<;>first|exact absurd rfl e|(rw[Ft lQ];rfl)
  ·rename_i hs
   try simp only[hs]
   cases h
   rfl
  ·cases h
structure mj(ts bs:List Nat)(s s':State):Prop where
 sl:∀t∈ts,s.slot t=s'.slot t
 bs:∀id∈bs,s.bs[id]? =s'.bs[id]?
theorem Mg{l:List Operand}{t:Nat}:Operand.tmp t∈l->t∈rA l:=by
 induction l with
 |nil=>intro h;cases h
 |cons x r ih=>
  intro h
  rcases List.mem_cons.1 h with e|h
  ·subst e;simp [rA]
  ·have:=ih h
   cases x<;>simp [rA,this]
theorem zhw{s s':State}{ts:List Nat}(h:∀t∈ts,s.slot t=s'.slot t){l:List Operand}(hl:∀t∈rA l,t∈ts){x:Operand}(hx:x∈l):s.aH x=s'.aH x:=by
 cases x with
 |tmp t=>simp only[State.aH,State.xb,h t (hl t (Mg hx))]
 |_=>rfl
theorem acj(j:Nat):bO [SV.undef] j=[SV.undef]:=by
 cases j<;>rfl
theorem za9{s:State}{i j t:Nat}:(s.b9 i j).slot t=if t=i then bO (s.slot t) j else s.slot t:=by
 simp only[State.b9,State.slot,List.getD_eq_getElem?_getD,List.getElem?_set]
 by_cases e:t=i
 ·subst e
  rw[if_pos rfl,if_pos rfl]
  by_cases ar:t<s.sl.length
  ·rw[if_pos ar];rfl
  ·rw[if_neg ar,List.getElem?_eq_none (by omega)]
   simp [acj]
 ·rw[if_neg e,if_neg (fun h=>e h.symm)]
theorem znc{t:Nat}:∀{c:List (Nat×Nat)} {s s':State},s.slot t=s'.slot t->(s.close c).slot t=(s'.close c).slot t
 | [],s,s',h=>h
 |(i,j)::r,s,s',h=>by
  rw[DM,DM]
  refine znc (c:=r) ?_
  rw[za9,za9,h]
theorem znw{ts:List Nat}:∀{l:List (Nat×Operand)} {s s':State},(∀t∈ts,s.slot t=s'.slot t)->(∀t∈rA (l.map (·.2)),t∈ts)->mi s l=mi s' l
 | [],s,s',h,hl=>rfl
 |(i,x)::r,s,s',h,hl=>by
  have hx:s.aH x=s'.aH x:=zhw h hl (by simp)
  have hr:∀c:List (Nat×Nat),mi (s.close c) r=mi (s'.close c) r:=fun c=>znw (fun t ht=>znc (h t ht)) (fun t ht=>hl t (by
   cases x<;>simp [rA,ht]))
  simp only[mi,hx,hr]
theorem N4{s s':State}:∀{l:List SV},(∀id∈l.flatMap ci,s.box id=s'.box id)->jb s l=jb s' l
 | [],h=>rfl
 |v::r,h=>by
  have hr:jb s r=jb s' r:=N4 fun id fx=>h id (by simp only[List.flatMap_cons,List.mem_append];exact .inr fx)
  simp only[jb,hr]
  split
  ·rfl
  ·rename_i l b _
   cases v with
   |ptr id t p=>
    have hb:s.box id=s'.box id:=h id (by simp [ci])
    cases p with
    |nil=>cases b<;>simp only[hb]
    |cons _ _=>rfl
   |_=>rfl
theorem aee{C:FuncId->bU Out}{ops:List Oper}{s s':State}(h:mj (looks ops o) (zv s o) s s'):act E C ops o s some=act E C ops o s' some:=by
 have hI:∀t∈rA o.op.operands.toList,s.slot t=s'.slot t:=fun t ht=>h.sl t (by simp only[looks,List.mem_append];exact .inl ht)
 have cA:∀x∈o.op.operands.toList,s.aH x=s'.aH x:=fun x hx=>zhw hI (fun _ ht=>ht) hx
 have bI:∀id∈zv s o,s.box id=s'.box id:=fun id fx=>by
  simp only[State.box,List.getD_eq_getElem?_getD,h.bs id fx]
 unfold act
 cases ho:o.op with
 |move x=>
  have ht:ng s x=ng s' x:=by
   cases x with
   |tmp t=>
    have:s.slot t=s'.slot t:=hI t (by simp [ho,Op.operands,rA])
    simp only[ng,this]
   |_=>rfl
  simp only;rw[cA x (by simp [ho,Op.operands]),ht]
 |assign x=>simp only;rw[cA x (by simp [ho,Op.operands])]
 |pick c x y=>simp only;rw[cA c (by simp [ho,Op.operands]),cA x (by simp [ho,Op.operands]),cA y (by simp [ho,Op.operands])]
 |binOp op T x y T'=>simp only;rw[cA x (by simp [ho,Op.operands]),cA y (by simp [ho,Op.operands])]
 |unOp op T x=>simp only;rw[cA x (by simp [ho,Op.operands])]
 |convert S T x=>
  have hx:=cA x (by simp [ho,Op.operands])
  simp only
  rw[<-hx]
  split
  ·rename_i id n ta tb e
   simp only[jP,bI id (by simp [zv,ho,e,ci])]
  ·rfl
 |makeMap T r=>
  cases r with
  |some r=>rfl
  |none=>
   simp only
   cases hd:o.dst with
   |none=>rfl
   |some d=>
    have:=h.bs (d+1) (by simp [zv,ho,hd])
    simp only[j7,this]
 |lookup T x i ok=>
  cases ok with
  |true=>rfl
  |false=>
   simp only
   rw[<-cA x (by simp [ho,Op.operands]),<-cA i (by simp [ho,Op.operands])]
   unfold kZ vf
   split
   ·split
    ·rename_i e
     simp only[bI _ (by simp only[zv,ho,e,ci];exact List.mem_singleton.2 rfl)]
    ·rfl
   ·rfl
 |mapUpdate T m k x=>
  simp only
  rw[<-cA m (by simp [ho,Op.operands]),<-cA k (by simp [ho,Op.operands]),<-cA x (by simp [ho,Op.operands])]
  unfold l4 vf
  split
  ·split
   ·rename_i e
    simp only[bI _ (by simp only[zv,ho,e,ci];exact List.mem_singleton.2 rfl)]
   ·rfl
  ·rfl
 |insert T m k x=>
  simp only
  rw[<-cA m (by simp [ho,Op.operands]),<-cA k (by simp [ho,Op.operands]),<-cA x (by simp [ho,Op.operands])]
  unfold l4 vf
  split
  ·split
   ·rename_i e
    simp only[bI _ (by simp only[zv,ho,e,ci];exact List.mem_singleton.2 rfl)]
   ·rfl
  ·rfl
 |range T x=>
  simp only
  rw[<-cA x (by simp [ho,Op.operands])]
  cases hd:o.dst with
  |none=>rfl
  |some d=>
   have:=h.bs (d+1) (by simp [zv,ho,hd])
   simp only[j7,this]
 |next x str=>
  cases str with
  |false=>rfl
  |true=>
   simp only
   rw[<-cA x (by simp [ho,Op.operands])]
   unfold lf
   split
   ·rename_i e
    simp only[bI _ (by simp only[zv,ho,e,ci];exact List.mem_singleton.2 rfl)]
   ·rfl
 |makeSlice T l c=>
  simp only
  rw[<-cA l (by simp [ho,Op.operands]),<-cA c (by simp [ho,Op.operands])]
  cases hd:o.dst with
  |none=>rfl
  |some d=>
   have:=h.bs (d+1) (by simp [zv,ho,hd])
   simp only[ld,j7,this]
 |load T x=>
  have hx:=cA x (by simp [ho,Op.operands])
  simp only
  rw[<-hx]
  unfold load
  split
  ·split
   ·rfl
   ·rename_i id t p e
    simp only[Em,nB,bI id (by simp [zv,ho,e,ci])]
   ·rfl
  ·unfold j5
   split
   ·rename_i id a b j e
    simp only[nB,bI id (by simp [zv,ho,e,ci])]
   ·rfl
 |store T x y=>
  have hx:=cA x (by simp [ho,Op.operands])
  have hy:=cA y (by simp [ho,Op.operands])
  simp only
  rw[<-hx]
  unfold store
  rw[<-hy]
  split
  ·split
   ·rename_i id t p e
    simp only[D0,nB,bI id (by simp [zv,ho,e,ci])]
   ·rfl
  ·rfl
 |nilCheck x=>simp only;rw[cA x (by simp [ho,Op.operands])]
 |fieldAddr T x j=>simp only;rw[cA x (by simp [ho,Op.operands])]
 |indexAddr T x i=>simp only;rw[cA x (by simp [ho,Op.operands]),cA i (by simp [ho,Op.operands])]
 |index T x i=>simp only;rw[cA x (by simp [ho,Op.operands]),cA i (by simp [ho,Op.operands])]
 |field T x j=>simp only;rw[cA x (by simp [ho,Op.operands])]
 |slice T x lo hi mx=>
  cases mx with
  |none=>
   simp only
   have BQ:lo.map s.aH=lo.map s'.aH:=by
    cases lo with
    |none=>rfl
    |some l=>simp only[Option.map_some,cA l (by simp [ho,Op.operands])]
   have IK:hi.map s.aH=hi.map s'.aH:=by
    cases hi with
    |none=>rfl
    |some l=>simp only[Option.map_some,cA l (by simp [ho,Op.operands])]
   rw[<-cA x (by simp [ho,Op.operands]),BQ,IK]
   split
   ·rfl
   ·rename_i id n t e
    simp only[qK,bI id (by simp [zv,ho,e,ci])]
   ·rfl
  |some m=>rfl
 |makeFunc fn fi ca=>
  cases fn with
  |func f=>
   simp only
   split
   ·rename_i x e1 e2
    have hm:x∈o.op.operands.toList:=by
     simp only[ho,Op.operands,Array.toList_append,List.mem_append,e2]
     exact .inr (by simp)
    rw[cA x hm]
   ·rename_i x y e1 e2
    have hm:∀z∈ [x,y],z∈o.op.operands.toList:=fun z hz=>by
     simp only[ho,Op.operands,Array.toList_append,List.mem_append,e2]
     exact .inr hz
    rw[cA x (hm x (by simp)),cA y (hm y (by simp))]
   ·rfl
  |_=>rfl
 |alloc T=>
  simp only
  cases hd:o.dst with
  |none=>split<;>simp_all
  |some d=>
   have:=h.bs (d+1) (by simp [zv,ho,hd])
   cases E.ty T<;>cases E.gr T<;>simp only[this]
 |box T x=>
  have hx:=cA x (by simp [ho,Op.operands])
  simp only
  cases hd:o.dst with
  |none=>split<;>simp_all
  |some d=>
   have:=h.bs (d+1) (by simp [zv,ho,hd])
   cases E.ty T<;>simp only[this,hx]
 |build T parts=>
  have hp:mi s parts.toList=mi s' parts.toList:=znw hI (fun t ht=>by simpa [ho,Op.operands] using ht)
  simp only[hp]
 |buildSlice T n parts=>
  have hp:(parts.toList.map fun p=>(p.1,s.aH p.2))=parts.toList.map fun p=>(p.1,s'.aH p.2):=List.map_congr_left fun p hp=>by
   rw[cA p.2 (by
    simp only[ho,Op.operands]
    exact List.mem_map.2 ⟨p,hp,rfl⟩)]
  simp only[hp]
 |extract x j=>
  cases x with
  |tmp t=>
   have:s.slot t=s'.slot t:=hI t (by simp [ho,Op.operands,rA])
   simp only[this]
  |_=>rfl
 |call c=>
  obtain⟨callee,args,ts⟩:=c
  cases callee with
  |value x=>
   cases x with
   |func f=>
    have bV:args.toList.map s.aH=args.toList.map s'.aH:=List.map_congr_left fun x hx=>cA x (by
     simp only[ho,Op.operands,Call.operands,Array.toList_append,List.mem_append]
     exact .inr hx)
    have iM:jb s (args.toList.map s'.aH)=jb s' (args.toList.map s'.aH):=N4 fun id fx=>bI id (by
     simp only[zv,ho,List.mem_append]
     refine .inl ?_
     rw[<-bV,List.flatMap_map] at fx
     exact fx)
    have hlk:EJ s args.toList=EJ s' args.toList:=by
     cases Iy:args.toList with
     |nil=>rfl
     |cons x r=>
      cases x with
      |tmp t=>
       have:s.slot t=s'.slot t:=hI t (by
        simp only[ho,Op.operands,Call.operands,Array.toList_append,Iy]
        exact Mg (List.mem_append_right _ (by simp)))
       simp only[EJ,this]
      |_=>rfl
    simp only
    rw[<-hlk]
    split
    ·rename_i t id a b j r hl
     obtain⟨Iy,bS⟩:=znr hl
     have hr:r.map s.aH=r.map s'.aH:=by
      have:=bV
      rw[Iy] at this
      simpa using(List.cons.inj this).2
     have hbr:jb s (r.map s'.aH)=jb s' (r.map s'.aH):=N4 fun id fx=>bI id (by
      simp only[zv,ho,List.mem_append]
      refine .inl ?_
      rw[<-hr,List.flatMap_map] at fx
      rw[Iy,List.flatMap_cons,List.mem_append]
      exact .inr fx)
     have fx:s.box id=s'.box id:=bI id (by
      simp only[zv,ho,List.mem_append]
      refine .inl ?_
      rw[Iy,List.flatMap_cons,List.mem_append]
      refine .inl ?_
      have:s.aH (.tmp t)= .bA id a b j:=by show one (s.slot t)=_;rw[bS];rfl
      rw[this];simp [ci])
     simp only[jN,nB,hr,hbr,fx]
    simp only[fK,bV,iM]
    cases hd:o.dst with
    |none=>rfl
    |some d=>
     have:=h.bs (d+1) (by simp [zv,ho,hd])
     simp only[this]
   |tmp y=>
    have hy:s.aH (.tmp y)=s'.aH (.tmp y):=cA (.tmp y) (by
     simp only[ho,Op.operands,Call.operands,Array.toList_append,List.mem_append]
     exact .inl (by simp))
    have bV:args.toList.map s.aH=args.toList.map s'.aH:=List.map_congr_left fun x hx=>cA x (by
     simp only[ho,Op.operands,Call.operands,Array.toList_append,List.mem_append]
     exact .inr hx)
    simp only
    rw[<-hy]
    split
    ·rename_i id f t b e
     have iM:jb s (args.toList.map s'.aH++ [.ptr id t []])=jb s' (args.toList.map s'.aH++ [.ptr id t []]):=N4 fun bc fx=>bI bc (by
      simp only[zv,ho,List.mem_append,e]
      rw[List.flatMap_append,List.mem_append] at fx
      rcases fx with fx|fx
      ·refine .inl ?_
       rw[<-bV,List.flatMap_map] at fx
       exact fx
      ·exact .inr (.inl (by simpa [ci] using fx)))
     simp only[fK,bV,iM]
     cases hd:o.dst with
     |none=>rfl
     |some d=>
      have:=h.bs (d+1) (by simp [zv,ho,hd])
      simp only[this]
    ·rename_i f t x u y e
     have iM:jb s (args.toList.map s'.aH++ [.view t x,.view u y])=jb s' (args.toList.map s'.aH++ [.view t x,.view u y]):=N4 fun bc fx=>bI bc (by
      simp only[zv,ho,List.mem_append]
      rw[List.flatMap_append,List.mem_append] at fx
      rcases fx with fx|fx
      ·refine .inl ?_
       rw[<-bV,List.flatMap_map] at fx
       exact fx
      ·simp [ci] at fx)
     simp only[fK,bV,iM]
     cases hd:o.dst with
     |none=>rfl
     |some d=>
      have:=h.bs (d+1) (by simp [zv,ho,hd])
      simp only[this]
    ·rfl
   |_=>rfl
  |builtin b=>
   have bV:∀x∈args.toList,s.aH x=s'.aH x:=fun x hx=>cA x (by
    simp only[ho,Op.operands,Call.operands,Array.toList_append,List.mem_append]
    exact .inr hx)
   cases b with
   |copy=>
    simp only
    split
    ·rename_i d x T r e1 e2
     rw[bV x (by rw[e1];simp),<-bV d (by rw[e1];simp)]
     unfold copyV
     split
     ·rename_i e0 t0 id n ta tb hT e
      have hb:s.box id=s'.box id:=bI id (by simp only[zv,ho,e1,List.flatMap_cons,e,ci];exact List.mem_append_left _ (List.mem_singleton.2 rfl))
      simp only[gZ,jQ,hb]
     ·rename_i e0 t0 id n ta tb l hT e
      have hb:s.box id=s'.box id:=bI id (by simp only[zv,ho,e1,List.flatMap_cons,e,ci];exact List.mem_append_left _ (List.mem_singleton.2 rfl))
      simp only[gZ,hb]
     ·rfl
    ·rfl
   |len=>
    simp only
    split
    ·rename_i x T e1 e2
     rw[bV x (by rw[e1];simp)]
    ·rfl
   |append=>
    simp only
    split
    ·rename_i x y T U e1 e2
     rw[bV x (by rw[e1];simp),bV y (by rw[e1];simp)]
    ·rfl
   |max=>
    simp only
    split
    ·rename_i x y e1
     rw[bV x (by rw[e1];simp),bV y (by rw[e1];simp)]
    ·rfl
   |min=>
    simp only
    split
    ·rename_i x y e1
     rw[bV x (by rw[e1];simp),bV y (by rw[e1];simp)]
    ·rfl
   |_=>rfl
  |_=>rfl
 |_=>rfl
end Go.Ref

namespace Go.Ref
open Go
variable {P:Program} {E:Env} {X:ax} {s:State} {a:Act} {o:Oper} {u:Out}
def PZ:List (Nat×Nat)->Nat->List SV->List SV
 | [],_,l=>l
 |(i,j)::r,t,l=>PZ r t (if t=i then bO l j else l)
theorem QR{t:Nat}:∀{c:List (Nat×Nat)} {s:State},(s.close c).slot t=PZ c t (s.slot t)
 | [],s=>rfl
 |(i,j)::r,s=>by rw[DM,QR (c:=r),za9];rfl
theorem rP{t:Nat}:∀{c:List (Nat×Nat)} {l:List SV},t∉c.map (·.1)->PZ c t l=l
 | [],l,h=>rfl
 |(i,j)::r,l,h=>by
  simp only[List.map_cons,List.mem_cons,not_or] at h
  simp only[PZ]
  rw[if_neg h.1]
  exact rP h.2
theorem Fl{d:Option Nat}:(s.apply d u).sl.length=s.sl.length:=by
 cases d with
 |none=>simp only[State.apply,State.av];cases u.bx<;>simp [State.aC,Oe]
 |some d=>simp only[State.apply,State.av,List.length_set];cases u.bx<;>simp [State.aC,Oe]
theorem N3{d:Option Nat}{t:Nat}:(s.apply d u).slot t=if d=some t/\t<s.sl.length then u.v else PZ u.cl t (s.slot t):=by
 have hb:∀(s:State) b,(s.aC b).slot t=s.slot t:=fun s b=>by cases b<;>rfl
 cases d with
 |none=>
  simp only[State.apply,State.av,hb,QR]
  rw[if_neg (by simp)]
 |some d=>
  simp only[State.apply]
  by_cases e:d=t
  ·subst e
   by_cases ar:d<s.sl.length
   ·rw[if_pos ⟨rfl,ar⟩]
    have:d<((s.close u.cl).aC u.bx).sl.length:=by
     have:((s.close u.cl).aC u.bx).sl.length=s.sl.length:=by cases u.bx<;>simp [State.aC,Oe]
     omega
    simp only[State.av,State.slot,List.getD_eq_getElem?_getD,List.getElem?_set_self this,Option.getD_some]
   ·rw[if_neg (fun h=>ar h.2)]
    have:((s.close u.cl).aC u.bx).sl.length<=d:=by
     have:((s.close u.cl).aC u.bx).sl.length=s.sl.length:=by cases u.bx<;>simp [State.aC,Oe]
     omega
    have h2:(((s.close u.cl).aC u.bx).av (some d) u.v).slot d=((s.close u.cl).aC u.bx).slot d:=by
     simp only[State.av,State.slot]
     rw[List.set_eq_of_length_le this]
    rw[h2,hb,QR]
  ·rw[if_neg (fun h=>e (by injection h.1))]
   have h2:(((s.close u.cl).aC u.bx).av (some d) u.v).slot t=((s.close u.cl).aC u.bx).slot t:=by
    simp only[State.av,State.slot,List.getD_eq_getElem?_getD,List.getElem?_set_ne e]
   rw[h2,hb,QR]
theorem z91{d:Option Nat}{id:Nat}:(s.apply d u).bs[id]? =match u.bx with
 |some (bc,B)=>if bc=id then(s.bs[id]?).map (fun _=>some B) else s.bs[id]?
 |none=>s.bs[id]? :=by
 have hs:∀(s:State) d l,(s.av d l).bs=s.bs:=fun s d l=>by cases d<;>rfl
 simp only[State.apply,hs]
 cases hb:u.bx with
 |none=>simp only[State.aC,xD]
 |some b=>
  obtain⟨bc,B⟩:=b
  simp only[State.aC,xD]
  rw[List.getElem?_set]
  by_cases e:bc=id
  ·subst e
   rw[if_pos rfl,if_pos rfl]
   by_cases ar:bc<s.bs.length
   ·rw[if_pos ar,List.getElem?_eq_getElem ar];rfl
   ·rw[if_neg ar,List.getElem?_eq_none (by omega)];rfl
  ·rw[if_neg e,if_neg e]
theorem afD{s s':State}(h1:s.sl.length=s'.sl.length)(h2:∀t,s.slot t=s'.slot t)(h3:∀id:Nat,s.bs[id]? =s'.bs[id]?):s=s':=by
 cases s with
 |mk sl bs=>
  cases s' with
  |mk sl' bs'=>
   simp only[State.mk.injEq]
   refine⟨List.ext_getElem? fun i=> ?_,List.ext_getElem? h3⟩
   have:=h2 i
   simp only[State.slot,List.getD_eq_getElem?_getD] at this h1
   by_cases ar:i<sl.length
   ·rw[List.getElem?_eq_getElem ar,List.getElem?_eq_getElem (by omega)] at this⊢
    simpa using this
   ·rw[List.getElem?_eq_none (by omega),List.getElem?_eq_none (by omega)]
structure A4(R1 W1 b1 c1 R2 W2 b2 c2:List Nat):Prop where
 h1:∀t∈W1,t∉R2/\t∉W2
 h2:∀t∈W2,t∉R1
 h3:∀id∈c1,id∉b2/\id∉c2
 h4:∀id∈c2,id∉b1
theorem aaw{o1 o2:Oper}{ops:List Oper}{i1 i2:Nat}{s1 s2:State}{u1 u2:Out}(h:(gf ops o1 i1 s1 u1).apart (gf ops o2 i2 s2 u2)=true):
 A4 (looks ops o1) (o1.dst.toList++u1.cl.map (·.1)) (zv s1 o1) (u1.bx.toList.map (·.1)) (looks ops o2) (o2.dst.toList++u2.cl.map (·.1)) (zv s2 o2) (u2.bx.toList.map (·.1)):=by
 simp only[dN.apart,gf,Bool.and_eq_true] at h
 obtain⟨g1,g2,g3,g4⟩:=h
 refine⟨fun t ht=> ?_,fun t ht=> ?_,fun t ht=> ?_,fun t ht=> ?_⟩
 ·have:=Rw g1 t (by rw[xC];exact decide_eq_true ht)
  simp only[Nat.testBit_or,xC,Bool.or_eq_false_iff,decide_eq_false_iff_not] at this
  exact this
 ·have:=Rw g2 t (by rw[xC];exact decide_eq_true ht)
  simpa only[xC,decide_eq_false_iff_not] using this
 ·have:=Rw g3 t (by rw[xC];exact decide_eq_true ht)
  simp only[Nat.testBit_or,xC,Bool.or_eq_false_iff,decide_eq_false_iff_not] at this
  exact this
 ·have:=Rw g4 t (by rw[xC];exact decide_eq_true ht)
  simpa only[xC,decide_eq_false_iff_not] using this
theorem zn9{d:Option Nat}{ts bs:List Nat}(h1:∀t∈ts,t∉d.toList++u.cl.map (·.1))(h2:∀id∈bs,id∉u.bx.toList.map (·.1)):mj ts bs (s.apply d u) s where
 sl:=fun t ht=>by
  have h:=h1 t ht
  simp only[List.mem_append,not_or] at h
  rw[N3,if_neg (fun hc=>h.1 (by rw[hc.1];simp)),rP h.2]
 bs:=fun id fx=>by
  have h:=h2 id fx
  rw[z91]
  cases hb:u.bx with
  |none=>rfl
  |some b=>
   obtain⟨bc,B⟩:=b
   rw[hb] at h
   simp only
   rw[if_neg (fun e=>h (by simp [e]))]
theorem abE{d1 d2:Option Nat}{u1 u2:Out}(h1:∀t∈d1.toList++u1.cl.map (·.1),t∉d2.toList++u2.cl.map (·.1))(h2:∀id∈u1.bx.toList.map (·.1),id∉u2.bx.toList.map (·.1)):
 (s.apply d1 u1).apply d2 u2=(s.apply d2 u2).apply d1 u1:=by
 refine afD (by rw[Fl,Fl,Fl,Fl]) (fun t=> ?_) (fun id=> ?_)
 ·rw[N3,N3,N3,N3,Fl,Fl]
  by_cases BF:d1=some t
  ·have hm:t∈d1.toList++u1.cl.map (·.1):=by rw[BF];simp
   have hn:=h1 t hm
   simp only[List.mem_append,not_or] at hn
   have rH:¬d2=some t:=fun e=>hn.1 (by rw[e];simp)
   by_cases ar:t<s.sl.length
   ·rw[if_neg (fun h=>rH h.1),if_pos ⟨BF,ar⟩,rP hn.2,if_pos ⟨BF,ar⟩]
   ·rw[if_neg (fun h=>rH h.1),if_neg (fun h=>ar h.2),if_neg (fun h=>ar h.2),if_neg (fun h=>ar h.2),rP hn.2,rP hn.2]
  ·by_cases rH:d2=some t
   ·have hn:t∉d1.toList++u1.cl.map (·.1):=fun hm=>h1 t hm (by rw[rH];simp)
    simp only[List.mem_append,not_or] at hn
    by_cases ar:t<s.sl.length
    ·rw[if_pos ⟨rH,ar⟩,if_neg (fun h=>BF h.1),if_pos ⟨rH,ar⟩,rP hn.2]
    ·rw[if_neg (fun h=>ar h.2),if_neg (fun h=>ar h.2),if_neg (fun h=>ar h.2),if_neg (fun h=>ar h.2),rP hn.2,rP hn.2]
   ·rw[if_neg (fun h=>rH h.1),if_neg (fun h=>BF h.1),if_neg (fun h=>BF h.1),if_neg (fun h=>rH h.1)]
    by_cases hm:t∈u1.cl.map (·.1)
    ·have hn:=h1 t (by simp only[List.mem_append];exact .inr hm)
     simp only[List.mem_append,not_or] at hn
     rw[rP hn.2,rP hn.2]
    ·rw[rP hm,rP hm]
 ·rw[z91,z91,z91,z91]
  cases nq:u1.bx with
  |none=>rfl
  |some b1=>
   obtain⟨Yq,B1⟩:=b1
   cases lN:u2.bx with
   |none=>rfl
   |some b2=>
    obtain⟨qR,B2⟩:=b2
    rw[nq,lN] at h2
    have bK:Yq≠qR:=fun e=>h2 Yq (by simp) (by simp [e])
    simp only
    by_cases e1:Yq=id
    ·subst e1
     rw[if_neg (fun e=>bK e.symm),if_pos rfl,if_pos rfl,if_neg (fun e=>bK e.symm)]
    ·by_cases e2:qR=id
     ·subst e2
      rw[if_pos rfl,if_neg e1,if_neg e1,if_pos rfl]
     ·rw[if_neg e2,if_neg e1,if_neg e1,if_neg e2]
theorem zny{ops:List Oper}{s s':State}(h:∀t∈looks ops o,s.slot t=s'.slot t):zv s o=zv s' o:=by
 have cA:∀x∈o.op.operands.toList,s.aH x=s'.aH x:=fun x hx=>zhw (ts:=rA o.op.operands.toList) (fun t ht=>h t (by simp only[looks,List.mem_append];exact .inl ht)) (fun _ ht=>ht) hx
 unfold zv
 cases ho:o.op with
 |load T x=>simp only;rw[cA x (by simp [ho,Op.operands])]
 |store T x y=>simp only;rw[cA x (by simp [ho,Op.operands])]
 |convert S T x=>simp only;rw[cA x (by simp [ho,Op.operands])]
 |slice T x lo hi mx=>simp only;rw[cA x (by simp [ho,Op.operands])]
 |lookup T x i ok=>simp only;rw[cA x (by simp [ho,Op.operands])]
 |mapUpdate T m k x=>simp only;rw[cA m (by simp [ho,Op.operands])]
 |insert T m k x=>simp only;rw[cA m (by simp [ho,Op.operands])]
 |next x str=>simp only;rw[cA x (by simp [ho,Op.operands])]
 |call c=>
  obtain⟨callee,args,ts⟩:=c
  have:(args.toList.map fun x=>ci (s.aH x))=args.toList.map fun x=>ci (s'.aH x):=List.map_congr_left fun x hx=>by
   rw[cA x (by
    simp only[ho,Op.operands,Call.operands,Array.toList_append,List.mem_append]
    exact .inr hx)]
  cases callee with
  |value f=>
   simp only
   have hf:s.aH f=s'.aH f:=cA f (by
    simp only[ho,Op.operands,Call.operands,Array.toList_append,List.mem_append]
    exact .inl (by simp))
   rw[hf,List.flatMap_def,List.flatMap_def,this]
  |builtin b=>
   cases b with
   |copy=>simp only;rw[List.flatMap_def,List.flatMap_def,this]
   |_=>rfl
  |_=>rfl
 |_=>rfl
theorem KV{C:ah}{ops:List Oper}{s s':State}(h:mj (looks ops o) (zv s o) s s'):eD E C ops o s=eD E C ops o s':=by
 unfold eD
 rw[aee h]
 split
 ·rfl
 ·rename_i g want hg
  split
  ·rfl
  ·rename_i d hd
   rw[h.sl d (by simp [looks,hg,hd])]
theorem swap{C:ah}{ops:List Oper}{o1 o2:Oper}{i1 i2:Nat}{u1 u2:Out}(h1:eD E C ops o1 s=some u1)(h2:eD E C ops o2 (s.apply o1.dst u1)=some u2)(h:(gf ops o1 i1 s u1).apart (gf ops o2 i2 (s.apply o1.dst u1) u2)=true):
 eD E C ops o2 s=some u2/\gf ops o2 i2 s u2=gf ops o2 i2 (s.apply o1.dst u1) u2/\eD E C ops o1 (s.apply o2.dst u2)=some u1/\gf ops o1 i1 (s.apply o2.dst u2) u1=gf ops o1 i1 s u1/\
  (s.apply o2.dst u2).apply o1.dst u1=(s.apply o1.dst u1).apply o2.dst u2:=by
 have hp:=aaw h
 have ag1:mj (looks ops o2) (zv (s.apply o1.dst u1) o2) (s.apply o1.dst u1) s:=zn9 (fun t ht hm=>(hp.h1 t hm).1 ht) (fun id fx hm=>(hp.h3 id hm).1 fx)
 have eH:=zny (ops:=ops) (o:=o2) ag1.sl
 have W7:mj (looks ops o1) (zv s o1) (s.apply o2.dst u2) s:=zn9 (fun t ht hm=>hp.h2 t hm ht) (fun id fx hm=>hp.h4 id hm fx)
 have eR:=zny (ops:=ops) (o:=o1) W7.sl
 refine⟨by rw[<-KV ag1];exact h2,by simp only[gf,eH],?_,by simp only[gf,eR],(abE (fun t ht=>(hp.h1 t ht).2) (fun id fx=>(hp.h3 id fx).2)).symm⟩
 rw[KV (s:=s.apply o2.dst u2) (s':=s) ⟨W7.sl,fun id fx=>W7.bs id (by rw[<-eR];exact fx)⟩]
 exact h1
end Go.Ref

namespace Go.Ref
open Go
variable {P:Program} {E:Env} {X:ax} {s:State} {a:Act} {o:Oper} {u:Out}
def nU(E:Env)(C:ah)(ops:Array Oper):List Nat->State->List dN->State->Prop
 | [],s,tr,z=>s=z/\tr=[]
 |i::r,s,f::tr,z=>∃u,eD E C ops.toList (ops.getD i default) s=some u/\f=gf ops.toList (ops.getD i default) i s u/\nU E C ops r (s.apply (ops.getD i default).dst u) tr z
 |_::_,_,[],_=>False
def uI(ops:Array Oper)(i:Nat):Nat:=zx (ops.getD i default).after.toList
theorem K8{ops:List Oper}{q:Nat}:∀(n m:Nat),m.testBit q=true->(iX ops n m).testBit q=true
 |0,m,h=>h
 |i+1,m,h=>by
  refine K8 i _ ?_
  split
  ·cases m.testBit i with
   |false=>exact h
   |true=>rw[cond_true,Nat.testBit_or,h];rfl
  ·exact h
theorem zns{listed:Array Bool}{i q:Nat}(h:listed.getD q false=true):(listed.setIfInBounds i true).getD q false=true:=by
 simp only[Array.getD_eq_getD_getElem?,Array.getElem?_setIfInBounds] at h⊢
 split
 ·split
  ·rfl
  ·rename_i h1 h2
   subst h1
   rw[Array.getElem?_eq_none (by omega)] at h
   exact h
 ·exact h
theorem ae4{listed:Array Bool}{i q:Nat}(e:q≠i):(listed.setIfInBounds i true).getD q false=listed.getD q false:=by
 simp only[Array.getD_eq_getD_getElem?]
 rw[Array.getElem?_setIfInBounds_ne (by omega)]
def s4(ops:Array Oper)(listed:Array Bool):Prop:=∀i,listed.getD i false=true->∀q,(uI ops i).testBit q=true->listed.getD q false=true
theorem QN{ops:Array Oper}{listed:Array Bool}(eZ:s4 ops listed):∀(n m:Nat),(∀q,m.testBit q=true->listed.getD q false=true)->∀q,(iX ops.toList n m).testBit q=true->listed.getD q false=true
 |0,m,h=>h
 |i+1,m,h=>by
  refine QN eZ i _ fun q hq=> ?_
  split at hq
  ·rename_i o ho
   cases hb:m.testBit i with
   |false=>rw[hb] at hq;exact h q hq
   |true=>
    rw[hb,cond_true,Nat.testBit_or,Bool.or_eq_true] at hq
    rcases hq with hq|hq
    ·exact h q hq
    ·refine eZ i (h i hb) q ?_
     have:ops.getD i default=o:=by
      rw[Array.getElem?_toList] at ho
      simp only[Array.getD_eq_getD_getElem?,ho,Option.getD_some]
     unfold uI
     rw[this]
     exact hq
  ·exact h q hq
theorem L9{ops:Array Oper}{listed:Array Bool}(eZ:s4 ops listed){i:Nat}(h:∀q,(uI ops i).testBit q=true->listed.getD q false=true):s4 ops (listed.setIfInBounds i true):=fun j hj q hq=>by
 by_cases e:j=i
 ·subst e
  exact zns (h q hq)
 ·rw[ae4 e] at hj
  exact zns (eZ j hj q hq)
def vh(ops:Array Oper)(a b:dN):Prop:=(iX ops.toList b.i (uI ops b.i)).testBit a.i=true\/a.apart b=true
theorem DG{C:ah}{ops:Array Oper}:∀{l:List Nat} {s z:State} {tr:List dN},nU E C ops l s tr z->tr.map (·.i)=l
 | [],s,z,tr,h=>by rw[h.2];rfl
 |i::r,s,z,f::tr,h=>by
  obtain⟨u,_,rfl,h3⟩:=h
  simp only[List.map_cons,DG h3]
  rfl
 |_::_,s,z,[],h=>h.elim
theorem zak{C:ah}(hC:C.Nat){ops:Array Oper}{z:State}:∀(l:List Nat) (i:Nat) (s:State) (tr:List dN),(∀(j:Nat) k,l[j]? =some k->k=i+j)->
 xT E (C State) ops.toList (l.map fun k=>ops.getD k default) i s tr some=some z->∃xn,nU E C ops l s xn z/\(∀a∈tr,∀b∈xn,vh ops a b)/\xn.Pairwise (vh ops)/\∀k∈l,Nat.ble (uI ops k+1) (bit k)=true
 | [],i,s,tr,hl,h=>by
   cases h
   exact⟨[],⟨rfl,rfl⟩,(fun a _ b hb=>by cases hb),List.Pairwise.nil,fun k hk=>by cases hk⟩
 |k::r,i,s,tr,hl,h=>by
  have hk:k=i:=by simpa using hl 0 k rfl
  subst hk
  simp only[List.map_cons,xT] at h
  obtain⟨u,h1,h2,h3⟩:=afF hC h
  obtain⟨xn,r1,r2,r3,r4⟩:=zak hC r (k+1) _ _ (fun j k' hj=>by
   have:=hl (j+1) k' hj
   omega) h3
  simp only[fits,Bool.and_eq_true] at h2
  obtain⟨h2a,Xq⟩:=h2
  have Xq:=List.all_eq_true.1 Xq
  refine⟨gf ops.toList (ops.getD k default) k s u::xn,⟨u,h1,rfl,r1⟩,fun a ha b hb=> ?_,?_,fun k' IQ=> ?_⟩
  ·rcases List.mem_cons.1 hb with rfl|hb
   ·have:=Xq a ha
    simp only[Bool.or_eq_true] at this
    rcases this with this|this|this
    ·exact .inl (K8 _ _ this)
    ·exact .inr this
    ·exact .inl this
   ·exact r2 a (List.mem_cons_of_mem _ ha) b hb
  ·exact List.pairwise_cons.2 ⟨fun b hb=>r2 _ (by simp) b hb,r3⟩
  ·rcases List.mem_cons.1 IQ with rfl|IQ
   ·exact h2a
   ·exact r4 k' IQ
theorem zqb{C:ah}{ops:Array Oper}{z:State}{i:Nat}{q:List Nat}:∀(p:List Nat) (s:State) (tr:List dN),nU E C ops (p++i::q) s tr z->(∀(tp:List dN) f tq,tr=tp++f::tq->tp.length=p.length->∀a∈tp,a.apart f=true)->
 ∃tp f tq u,tr=tp++f::tq/\tp.length=p.length/\eD E C ops.toList (ops.getD i default) s=some u/\f=gf ops.toList (ops.getD i default) i s u/\nU E C ops (p++q) (s.apply (ops.getD i default).dst u) (tp++tq) z
 | [],s,[],h,zQ=>h.elim
 | [],s,f::tr,h,zQ=>by
   obtain⟨u,h1,h2,h3⟩:=h
   exact⟨[],f,tr,u,rfl,rfl,h1,h2,h3⟩
 |j::p,s,[],h,zQ=>h.elim
 |j::p,s,g::tr,h,zQ=>by
  obtain⟨uj,h1,h2,h3⟩:=h
  obtain⟨tp,f,tq,u,e1,e2,k1,k2,k3⟩:=zqb p _ tr h3 (fun tp f tq e hl a ha=>zQ (g::tp) f tq (by rw[e];rfl) (by simp [hl]) a (List.mem_cons_of_mem _ ha))
  have hg:=zQ (g::tp) f tq (by rw[e1];rfl) (by simp [e2]) g (by simp)
  rw[h2,k2] at hg
  obtain⟨w1,w2,w3,w4,w5⟩:=swap h1 k1 hg
  refine⟨g::tp,f,tq,u,by rw[e1];rfl,by simp [e2],w1,by rw[k2,w2],uj,w3,by rw[h2,w4],?_⟩
  rw[w5]
  exact k3
theorem Mb{l:List Nat}{i:Nat}(h:i∈l):∃p q,l=p++i::q:=List.append_of_mem h
theorem zua{p q:List Nat}{i:Nat}(h:(p++i::q).Nodup):(p++i::q).filter (fun j=> !(Nat.beq j i))=p++q:=by
 have h':=List.nodup_append.1 h
 have hp:∀j∈p,j≠i:=fun j hj=>h'.2.2 j hj i (by simp)
 have hq:∀j∈q,j≠i:=fun j hj e=>by
  have:=(List.nodup_cons.1 h'.2.1).1
  rw[e] at hj;exact this hj
 rw[List.filter_append,List.filter_cons]
 have hb:∀j,j≠i->(!(Nat.beq j i))=true:=fun j hj=>by
  cases hh:Nat.beq j i with
  |false=>rfl
  |true=>exact absurd (Nat.eq_of_beq_eq_true hh) hj
 rw[List.filter_eq_self.2 (fun j hj=>hb j (hp j hj)),List.filter_eq_self.2 (fun j hj=>hb j (hq j hj))]
 have:(!(Nat.beq i i))=false:=by simp
 rw[this]
 simp
def rest(n:Nat)(listed:Array Bool):List Nat:=(List.range n).filter fun i=> !listed.getD i true
theorem aiZ{n:Nat}{listed:Array Bool}(hs:listed.size=n){i:Nat}{p q:List Nat}(h:rest n listed=p++i::q):rest n (listed.setIfInBounds i true)=p++q:=by
 have nu:(rest n listed).Nodup:=List.nodup_range.filter _
 rw[h] at nu
 rw[<-zua nu,<-h]
 simp only[rest,List.filter_filter]
 refine List.filter_congr fun j hj=> ?_
 have XJ:=List.mem_range.1 hj
 by_cases e:j=i
 ·subst e
  have:(listed.setIfInBounds j true).getD j true=true:=by simp [Array.getD_eq_getD_getElem?,hs,XJ]
  rw[this];simp
 ·have h1:(listed.setIfInBounds i true).getD j true=listed.getD j true:=by
   simp only[Array.getD_eq_getD_getElem?]
   rw[Array.getElem?_setIfInBounds_ne (fun h=>e h.symm)]
  have h2:Nat.beq j i=false:=by
   cases hh:Nat.beq j i with
   |false=>rfl
   |true=>exact absurd (Nat.eq_of_beq_eq_true hh) e
  rw[h1,h2];simp
theorem Fp{ops:Array Oper}{listed:Array Bool}{i:Nat}(h:i∈Region.ready .any ops listed):i∈rest ops.size listed/\∀e∈(ops.getD i default).after.toList,Region.binds .any e=true->listed.getD e.on false=true:=by
 unfold Region.ready at h
 obtain⟨h1,h2⟩:=List.mem_filter.1 h
 have hi:=List.mem_range.1 h1
 rw[Bool.and_eq_true] at h2
 refine⟨List.mem_filter.2 ⟨h1,h2.1⟩,fun e he hb=> ?_⟩
 have h3:=h2.2
 rw[Array.getElem?_eq_getElem hi] at h3
 simp only[Option.map_some,Option.getD_some] at h3
 have cz:ops.getD i default=ops[i]:=by simp [hi]
 rw[cz] at he
 have h4:=Array.all_eq_true_iff_forall_mem.1 h3 e (by simpa using he)
 rw[hb] at h4
 simpa using h4
theorem L6{ops:Array Oper}{listed:Array Bool}{i:Nat}(h:i∈rest ops.size listed)(ha:∀e∈(ops.getD i default).after.toList,Region.binds .any e=true->listed.getD e.on false=true):i∈Region.ready .any ops listed:=by
 obtain⟨h1,h2⟩:=List.mem_filter.1 h
 have hi:=List.mem_range.1 h1
 refine List.mem_filter.2 ⟨h1,?_⟩
 rw[Bool.and_eq_true]
 refine⟨h2,?_⟩
 have cz:ops.getD i default=ops[i]:=by simp [hi]
 rw[Array.getElem?_eq_getElem hi]
 simp only[Option.map_some,Option.getD_some]
 refine Array.all_eq_true_iff_forall_mem.2 fun e he=> ?_
 cases hb:Region.binds .any e with
 |false=>rfl
 |true=>
  rw[ha e (by rw[cz];simpa using he) hb]
  simp
theorem aik(hE:aq P E){C:ah}(hC:C.Nat)(hf:∀f,cT P C f){ops:Array Oper}{z:State}{Q:Exit->Act->World->Prop}(lP:∀k,k<ops.size->Nat.ble (uI ops k+1) (bit k)=true):
 ∀(cm:Nat) (listed:Array Bool) (X:ax) (s:State) (a:Act) (tr:List dN),Rel X s a->s4 ops listed->listed.size=ops.size->cm=(rest ops.size listed).length->nU E C ops (rest ops.size listed) s tr z->tr.Pairwise (vh ops)->
  (∀Y a',Ext X Y->Rel Y z a'->Q .normal a' Y.w)->wpAny P .any ops Q cm listed a X.w:=by
 intro cm
 have done:∀(listed:Array Bool),listed.size=ops.size->Region.ready .any ops listed=[]->rest ops.size listed=[]:=by
  intro listed hs hr
  rcases hl:rest ops.size listed with _|⟨i,r⟩
  ·rfl
  have cC:i∈rest ops.size listed:=by rw[hl];simp
  have dg:=List.mem_range.1 (List.mem_filter.1 cC).1
  have jV:i∈Region.ready .any ops listed:=by
   refine L6 cC fun e he hb=> ?_
   have ar:e.on<i:=J6 (lP i dg) (zgq _ e he hb)
   cases hx:listed.getD e.on false with
   |true=>rfl
   |false=>
    exfalso
    have fR:e.on<listed.size:=by omega
    have Ak:listed.getD e.on true=false:=by
     simp only[Array.getD_eq_getD_getElem?,Array.getElem?_eq_getElem fR,Option.getD_some] at hx⊢
     exact hx
    have hm:e.on∈rest ops.size listed:=List.mem_filter.2 ⟨List.mem_range.2 (by omega),by rw[Ak];rfl⟩
    have hM:(rest ops.size listed).Pairwise (· < ·):=List.pairwise_lt_range.filter _
    rw[hl] at hM hm
    rcases List.mem_cons.1 hm with e1|hm
    ·omega
    ·have:=(List.pairwise_cons.1 hM).1 _ hm
     omega
  rw[hr] at jV
  cases jV
 induction cm with
 |zero=>
  intro listed X s a tr hr eZ hs ns dH uO hQ
  have tH:rest ops.size listed=[]:=List.eq_nil_of_length_eq_zero ns.symm
  rw[tH] at dH
  obtain⟨rfl,_⟩:=dH
  refine⟨?_,hQ X a (Ext.refl X) hr⟩
  rcases I9:Region.ready .any ops listed with _|⟨i,r⟩
  ·rfl
  ·have:=(Fp (i:=i) (by rw[I9];simp)).1
   rw[tH] at this
   cases this
 |succ cm ih=>
  intro listed X s a tr hr eZ hs ns dH uO hQ
  refine⟨fun hG=> ?_,fun i hi=> ?_⟩
  ·rw[done listed hs hG] at ns
   cases ns
  ·obtain⟨cC,qN⟩:=Fp hi
   obtain⟨p,q,wT⟩:=Mb cC
   have dg:=List.mem_range.1 (List.mem_filter.1 cC).1
   rw[wT] at dH
   have lR:=DG dH
   obtain⟨tp,f,tq,u,e1,e2,k1,k2,k3⟩:=zqb p s tr dH (fun tp f tq e hl a' zP=>by
    have tu:f.i=i:=by
     rw[e,List.map_append,List.map_cons] at lR
     have:=List.append_inj lR (by simp [hl])
     injection this.2
    have Xw:a'.i∈p:=by
     rw[e,List.map_append,List.map_cons] at lR
     have:=List.append_inj lR (by simp [hl])
     rw[<-this.1]
     exact List.mem_map.2 ⟨a',zP,rfl⟩
    rw[e] at uO
    have tw:=(List.pairwise_append.1 uO).2.2 a' zP f (by simp)
    rcases tw with hb|hb
    ·exfalso
     rw[tu] at hb
     obtain fo:=QN eZ _ _ (fun q hq=>by
      obtain⟨ed,wL,wM,IG⟩:=DL _ _ hq
      have:=qN ed wL wM
      rw[IG] at this
      exact this) a'.i hb
     have bG:a'.i∈rest ops.size listed:=by rw[wT];exact List.mem_append_left _ Xw
     have dM:=(List.mem_filter.1 bG).2
     have ar:=List.mem_range.1 (List.mem_filter.1 bG).1
     have fR:a'.i<listed.size:=by omega
     simp only[Array.getD_eq_getD_getElem?,Array.getElem?_eq_getElem fR,Option.getD_some] at fo dM
     rw[fo] at dM
     cases dM
    ·exact hb)
   have bG:=aiZ hs wT
   have XI:ops[i]? =some (ops.getD i default):=by simp [dg]
   refine UA hE hr hC hf XI (zo4 hC k1) fun Y a' aZ bq=> ?_
   refine ih (listed.setIfInBounds i true) Y _ a' (tp++tq) bq (L9 eZ fun q hq=>by
    obtain⟨ed,g1,g2,g3⟩:=DL _ _ hq
    have:=qN ed g1 g2
    rw[g3] at this
    exact this) (by simp [hs]) ?_ (by rw[bG];exact k3) ?_ (fun Z a2 b7 cX=>hQ Z a2 (aZ.trans b7) cX)
   ·rw[bG]
    rw[wT] at ns
    simp only[List.length_append,List.length_cons] at ns⊢
    omega
   ·rw[e1] at uO
    obtain⟨a1,a2,a3⟩:=List.pairwise_append.1 uO
    exact List.pairwise_append.2 ⟨a1,(List.pairwise_cons.1 a2).2,fun x hx y hy=>a3 x hx y (List.mem_cons_of_mem _ hy)⟩
theorem aeQ(hE:aq P E)(hm:P.follows .mixedOrders=true){C:ah}(hC:C.Nat)(hf:∀f,cT P C f){id:Nat}{ops:Array Oper}{z:State}{Q:Exit->Act->World->Prop}(hr:Rel X s a)(h:xT E (C State) ops.toList ops.toList 0 s [] some=some z)
 (hQ:∀Y a',Ext X Y->Rel Y z a'->Q .normal a' Y.w):(Code.region id ops true).wp P Q a X.w:=by
 have jU:(List.range ops.size).map (fun i=>ops.getD i default)=ops.toList:=by
  apply List.ext_getElem?
  intro i
  rw[List.getElem?_map]
  by_cases hi:i<ops.size
  ·simp [hi]
  ·simp [hi]
 have bG:rest ops.size (Array.replicate ops.size false)=List.range ops.size:=by
  refine List.filter_eq_self.2 fun i hi=> ?_
  have:=List.mem_range.1 hi
  simp [this]
 obtain⟨xn,r1,_,r3,r4⟩:=zak hC (List.range ops.size) 0 s [] (fun j k hj=>by
  have:=(List.getElem?_eq_some_iff.1 hj)
  obtain⟨h1,h2⟩:=this
  simp at h2
  omega) (by rw[jU];exact h)
 have hk:eF s X {X with w:={X.w with drawn:=X.w.drawn+1}}:=⟨Nat.le_refl _,rfl,rfl,rfl,fun g _=>⟨rfl,rfl⟩,rfl,fun _ _ _=>rfl⟩
 refine wp_region_any hm ?_
 exact aik hE hC hf (fun k hk=>r4 k (List.mem_range.2 hk)) ops.size (Array.replicate ops.size false) _ s a xn (hr.dj hk) (fun i hi=>by
  by_cases h:i<ops.size<;>simp [h] at hi) (by simp) (by rw[bG];simp) (by rw[bG];exact r1) r3 (fun Y a' aZ bq=>hQ Y a' (hk.ext.trans aZ) bq)
end Go.Ref

namespace Go.Ref
open Go
variable {P:Program} {E:Env} {X:ax} {s:State} {a:Act}
theorem bf.flat{X Y:ax}:∀{t:Ty} {x:El t} {cs:List Value},t.flat=true->bf X t x cs->bf Y t x cs
 | .bool,_,_,_,hr=>hr
 | .int _,_,_,_,hr=>hr
 | .str,_,_,_,hr=>hr
 | .unit,_,_,_,hr=>hr
 | .sl _ _,_,_,hf,_=>by cases hf
 | .aG _ _ _,_,_,hf,_=>by cases hf
 | .arr n t,xs,cs,hf,⟨h1,h2,h3⟩=>⟨h1,h2,fun j x hj=>bf.flat (t:=t) hf (h3 j x hj)⟩
 | .pair a b,x,cs,hf,⟨c1,c2,h1,h2,h3⟩=>by
   have hf:(a.flat&&b.flat)=true:=hf
   rw[Bool.and_eq_true] at hf
   exact⟨c1,c2,h1,bf.flat hf.1 h2,bf.flat hf.2 h3⟩
theorem aA.flat{X Y:ax}{pl:List Nat->Place}{sv:SV}{v:Value}(hf:sv.flat=true)(hr:aA X pl sv v):aA Y pl sv v:=by
 cases sv with
 |ak t x own=>
  have hf:(t.flat&&own.isEmpty)=true:=hf
  rw[Bool.and_eq_true] at hf
  obtain⟨cs,h1,h2,_⟩:=hr
  have:own=[]:=List.isEmpty_iff.1 hf.2
  subst this
  exact⟨cs,h1.flat hf.1,h2,mg⟩
 |undef=>trivial
 |skip=>exact hr
 |cD=>exact hr
 |dK=>exact hr
 |over=>exact hr
 |_=>cases hf
theorem Rg{o:Nat}:∀{sl:List (List SV)} {i:Nat},kS o i sl=true->∀(j:Nat) l,sl[j]? =some l->i+j≠o->∀sv∈l,SV.flat sv=true
 | [],i,_,j,l,h,_=>by simp at h
 |l0::r,i,h,j,l,hl,bK=>by
  rw[kS,Bool.and_eq_true,Bool.or_eq_true] at h
  cases j with
  |zero=>
   cases hl
   rcases h.1 with h1|h1
   ·exact absurd (Nat.eq_of_beq_eq_true h1) bK
   ·exact fun sv hm=>List.all_eq_true.1 h1 sv hm
  |succ j=>exact Rg h.2 j l hl (by omega)
structure nG(X:ax)(a:Act)(o:Nat)(e:TypeId)(xs:List Int)(own:List (List Nat))(g c:Nat)(cur:Array Value):Prop where
 val:a.tmps.getD o Go.undef= .slice (some ⟨g,0,none⟩) xs.length c
 heap:X.w.heap[g]? =some (.cells cur e (0,0))
 cell:∀(j:Nat) x,xs[j]? =some x->X.w.cell? ⟨g,j,none⟩=some (.int .u8 x)
 le:xs.length<=c
 most:c<=maxLen
 size:cur.size=c
 ow:X.ow g= .row (.c o 0 []) (xs.length*1)
 own:∀p∈own,p=[]
theorem alj{o:Nat}{e:TypeId}{xs:List Int}{own:List (List Nat)}(hr:Rel X s a)(hs:s.slot o=[.ak (.sl e (.int .u8)) xs own])(bR:gm own []=true){i:Nat}(hi:i<xs.length):∃g c cur,nG X a o e xs own g c cur:=by
 have hI:=hr.slot o
 rw[hs] at hI
 obtain⟨cs,aL,hv,hO⟩:=(show aA X (.c o 0) (.ak (.sl e (.int .u8)) xs own) (a.tmps.getD o Go.undef) from hI)
 have cC:([]:List Nat)∈own:=by
  unfold gm at bR
  obtain⟨q,h1,h2⟩:=List.any_eq_true.1 bR
  have:q=[]:=by simpa using h2
  rw[<-this];exact h1
 have cO:∀p∈own,p=[]:=fun p hp=>by
  obtain⟨e2,t2,xs2,v2,g1,g2,g3,g4⟩:=hO p hp
  cases p with
  |cons q r=>simp [El.get] at g2
  |nil=>rfl
 obtain⟨e1,t1,xs1,v1,_,hg,hc,cc⟩:=hO [] cC
 simp only[El.get,Option.some.injEq] at hg
 cases hg
 obtain⟨A,c,eh,hle,fC⟩:=aL
 subst eh
 have hv:a.tmps.getD o Go.undef= .slice A xs.length c:=hv
 have Ai:v1= .slice A xs.length c:=by
  have:([Value.slice A xs.length c]:List Value)[0]? =some v1:=hc
  simpa using this.symm
 subst Ai
 rcases cc with⟨_,h0⟩|⟨g,cap,cur,h1,h2,h3,h4,h5,h6⟩
 ·have h0:List.length xs=0:=h0
  omega
 injection h1 with k1 k2 k3
 subst k1 k3
 have h5:cur.size=c*1:=h5
 have h6:X.ow g= .row (.c o 0 []) (List.length xs*1):=h6
 have dG:∀(j:Nat) x,xs[j]? =some x->X.w.cell? ⟨g,j,none⟩=some (.int .u8 x):=fun j x hj=>by
  obtain⟨ad,ey,e1,_,e2,e3⟩:=fC j x hj
  cases e1
  have e2:ey=[.int .u8 x]:=e2
  subst e2
  have:=(e3 0 (.int .u8 x) rfl).2.1
  rw[iq] at this
  simpa [Ty.cells] using this
 exact⟨g,c,cur,hv,h2,dG,hle,h4,by omega,h6,cO⟩
theorem aiX{o:Nat}{e:TypeId}{xs:List Int}{own:List (List Nat)}{X0:ax}(hF:∀g pl n,X0.ow g≠ .row pl n)(hx:Ext X0 X)(hr:Rel X s a)(ho:o<s.sl.length)(tv:kS o 0 s.sl=true)(iM:s.bs.all Option.isNone=true)
 {g c:Nat} {cur:Array Value} (hR:nG X a o e xs own g c cur) {i:Nat} (hi:i<xs.length) (z:Int):
   Ext X0 (X.row g (cur.toList.take i++ [Value.int .u8 z]++cur.toList.drop (i+1)).toArray)/\Rel (X.row g (cur.toList.take i++ [Value.int .u8 z]++cur.toList.drop (i+1)).toArray) ⟨s.sl.set o [.ak (.sl e (.int .u8)) (xs.set i z:List Int) own],s.bs⟩ a:=by
 obtain⟨hv,h2,dG,hle,h4,h5,h6,cO⟩:=hR
 refine⟨?_,?_⟩
 ·
  have dd:∀b,b≠g->(X.row g (cur.toList.take i++ [Value.int .u8 z]++cur.toList.drop (i+1)).toArray).w.heap[b]? =X.w.heap[b]? :=fun b hb=>setRow_other X.w g b _ hb
  have nv:∀ad v,X0.az ad v->ad.block≠g:=fun ad v dV e0=>by
   have ar:=ax.ii dV
   have hu:=dV.2.2
   cases hw:X0.ow ad.block with
   |all=>have:=(hx.still ad.block ar (by rw[hw];trivial)).1;rw[e0,h6] at this;rw[<-e0,hw] at this;cases this
   |ro n=>have:=(hx.still ad.block ar (by rw[hw];trivial)).1;rw[e0,h6] at this;rw[<-e0,hw] at this;cases this
   |box id=>rw[hw] at hu;exact hu
   |row pl n=>exact hF _ _ _ hw
  refine⟨fun ad v dV=> ?_,?_,hx.os,hx.tape,hx.output,hx.β0,fun b hb bS=> ?_⟩
  ·have h7:=hx.az ad v dV
   refine⟨h7.1,?_,h7.2.2⟩
   have:=h7.2.1
   simp only[World.cell?] at this⊢
   rw[dd _ (nv ad v dV)];exact this
  ·have:=hx.size
   simpa [ax.row] using this
  ·have h7:=hx.still b hb bS
   have bK:b≠g:=fun e0=>by
    have h8:=h7.1
    rw[e0,h6] at h8
    rw[e0,<-h8] at bS
    exact bS
   exact⟨h7.1,(dd b bK).trans h7.2⟩
 ·generalize gI:(cur.toList.take i++ [Value.int .u8 z]++cur.toList.drop (i+1)).toArray=new
  have dM:new.toList=cur.toList.take i++ [Value.int .u8 z]++cur.toList.drop (i+1):=by rw[<-gI]
  have dU:new.size=cur.size:=by
   have:new.toList.length=cur.toList.length:=by rw[dM];simp;omega
   simpa using this
  have aD:(X.row g new).w.heap[g]? =some (.cells new e (0,0)):=setRow_heap X.w g cur new e (0,0) h2
  refine⟨by simpa using hr.size,by simpa using hr.gn,fun j l v hl iQ=> ?_,fun id B hB=> ?_,fun j l id t p hl hm=> ?_,hr.defers,fun j l id c b k hl hm=> ?_⟩
  ·rw[List.getElem?_set] at hl
   by_cases Ac:o=j
   ·subst Ac
    rw[if_pos rfl,if_pos ho] at hl
    cases hl
    have hvv:a.tmps.getD o Go.undef=v:=by rw[Array.getD_eq_getD_getElem?,iQ];rfl
    rw[hvv] at hv
    subst hv
    refine⟨[.slice (some ⟨g,0,none⟩) xs.length c],?_,rfl,fun p hp=> ?_⟩
    ·refine bf.xj (t:= .int .u8) (List.length_set ..) hle fun j x hj=>⟨⟨g,0,none⟩,[.int .u8 x],rfl,rfl,rfl,fun k w hk=> ?_⟩
     have tA:j<xs.length:=by have:=(List.getElem?_eq_some_iff.1 hj).1;rw[List.length_set] at this;exact this
     cases k with
     |succ k=>simp at hk
     |zero=>
      have hk:Value.int .u8 x=w:=by simpa using hk
      subst hk
      refine⟨AK rfl _,?_,?_⟩
      ·rw[iq]
       show(X.row g new).w.cell? _=_
       simp only[World.cell?,aD,Ty.cells]
       rw[show 0+(j*1+0)=j by omega,<-Array.getElem?_toList,dM]
       have hj:(xs.set i z)[j]? =some x:=hj
       rw[List.getElem?_set] at hj
       have am9:i<cur.toList.length:=by simp;omega
       by_cases hij:i=j
       ·subst hij
        rw[if_pos rfl,if_pos hi] at hj
        cases hj
        rw[List.append_assoc,List.getElem?_append_right (by simp;omega)]
        have:i-(cur.toList.take i).length=0:=by simp;omega
        rw[this];rfl
       ·rw[if_neg hij] at hj
        have uN:=dG j x hj
        simp only[World.cell?,h2] at uN
        rw[<-Array.getElem?_toList] at uN
        rcases Nat.lt_or_ge j i with ar|Qk
        ·rw[List.append_assoc,List.getElem?_append_left (by simp;omega),List.getElem?_take,if_pos ar]
         exact uN
        ·have hgt:i<j:=by omega
         rw[List.getElem?_append_right (by simp;omega),List.getElem?_drop]
         have:i+1+(j-(cur.toList.take i++ [Value.int .u8 z]).length)=j:=by simp;omega
         rw[this]
         exact uN
      ·rw[iq]
       show Ow.used (X.ow g) _
       rw[h6]
       show _<_
       simp only[Ty.cells]
       omega
    ·have:=cO p hp
     subst this
     refine⟨e,.int .u8,(xs.set i z:List Int),_,by simp [Ty.eA],rfl,rfl,?_⟩
     have hls:List.length (xs.set i z)=xs.length:=List.length_set ..
     rw[hls]
     exact .inr ⟨g,c,new,rfl,aD,hle,h4,by rw[dU,h5];simp [Ty.cells],h6⟩
   ·rw[if_neg Ac] at hl
    have:=Rg tv j l hl (by omega)
    exact(hr.bP j l v hl iQ).iC fun k sv u hk hu=>hu.flat (this sv (List.mem_of_getElem? hk))
  ·have:=List.all_eq_true.1 iM (some B) (List.mem_of_getElem? hB)
   cases this
  ·rw[List.getElem?_set] at hl
   by_cases Ac:o=j
   ·subst Ac
    rw[if_pos rfl,if_pos ho] at hl
    cases hl
    simp at hm
   ·rw[if_neg Ac] at hl
    have:=Rg tv j l hl (by omega) _ hm
    cases this
  ·exfalso
   replace hl:(s.sl.set o [.ak (.sl e (.int .u8)) (xs.set i z:List Int) own])[j]? =some l:=hl
   rw[List.getElem?_set] at hl
   by_cases Ac:o=j
   ·subst Ac
    rw[if_pos rfl,if_pos ho] at hl
    cases hl
    simp at hm
   ·rw[if_neg Ac] at hl
    have:=Rg tv j l hl (by omega) _ hm
    cases this
theorem nD{a:Act}{d i:Nat}{v:Value}(hd:d<a.tmps.size):(a.put (some d) v).tmps.getD i Go.undef=if d=i then v else a.tmps.getD i Go.undef:=by
 simp only[Act.put,Array.getD_eq_getD_getElem?,Array.getElem?_setIfInBounds]
 split
 ·first|rfl|(rw[if_pos hd];rfl)
 ·rfl
theorem ri{a:Act}{d:Nat}{v:Value}:(a.put (some d) v).tmps.size=a.tmps.size:=by simp [Act.put]
theorem raw{ops:Array Oper}{Q:Exit->Act->World->Prop}{i d:Nat}{rest:List Nat}{a:Act}{w:World}{o:Oper}{v:Value}(hi:ops[i]? =some o)(hd:isDst o d=true)(aW:(execOp a.eval o).run P w= .ok (.value v) w)(K:wpOps P ops Q rest (a.put (some d) v) w):wpOps P ops Q (i::rest) a w:=by
 have kU:o.dst=some d/\o.guard=none:=by
  unfold isDst at hd
  split at hd
  ·rename_i d' h1 h2
   exact⟨by rw[h1,Nat.eq_of_beq_eq_true hd],h2⟩
  ·cases hd
 rw[wpOps_cons]
 unfold wpOp
 simp only[hi]
 have hw:Region.wanted o (yielded ops a.tmps)=true:=by simp [Region.wanted,kU.2]
 rw[if_pos hw]
 refine .inl ?_
 unfold Oper.wp
 rw[aW,Oper.upon_value,kU.1]
 exact K
theorem uX{x:Operand}{i:Nat}(h:fp x i=true):x= .tmp i:=by
 unfold fp at h
 split at h
 ·rw[Nat.eq_of_beq_eq_true h]
 ·cases h
theorem M4{T:TypeId}(h:wX E T=true):E.ty T=some (.int .u8):=by
 unfold wX at h
 split at h
 ·assumption
 ·cases h
theorem zuq{T:TypeId}(h:Us E T=true):∃e,E.ty T=some (.sl e (.int .u8)):=by
 unfold Us at h
 split at h
 ·exact⟨_,by assumption⟩
 ·cases h
theorem uY{o:Oper}{d x:Nat}(h:EI o d x=true):isDst o d=true/\∀(a:Act) (w:World),(execOp a.eval o).run P w= .ok (.value (a.tmps.getD x Go.undef)) w:=by
 unfold EI at h
 rw[Bool.and_eq_true] at h
 refine⟨h.1,fun a w=> ?_⟩
 have h:=h.2
 split at h
 ·rename_i y ho
  have:=uX h
  subst this
  simp only[execOp,ho]
  rfl
 ·cases h
theorem Uv(hE:aq P E){o:Oper}{d x:Nat}(h:isLen E o d x=true):isDst o d=true/\∀(a:Act) (w:World) A n c,a.tmps.getD x Go.undef= .slice A n c->(execOp a.eval o).run P w= .ok (.value (.int .i64 n)) w:=by
 unfold isLen at h
 rw[Bool.and_eq_true] at h
 refine⟨h.1,fun a w A n c hv=> ?_⟩
 have h:=h.2
 split at h
 ·rename_i dF ts ho
  split at h
  ·rename_i y T rL BA
   have has:dF= #[y]:=by rw[<-Array.toArray_toList (xs:=dF),rL]
   have kj:ts= #[T]:=by rw[<-Array.toArray_toList (xs:=ts),BA]
   subst has kj
   rw[Bool.and_eq_true] at h
   have:=uX h.1
   subst this
   obtain⟨e,hT⟩:=zuq h.2
   have hu:=(hE.ty T _ hT).di
   have ev:a.eval (.tmp x)= .slice A n c:=hv
   simp [execOp,ho,resolve,invoke,builtin,Builtin.len_,ev,run_underlying hu.1,goInt]
  ·cases h
 ·cases h
theorem RC{o:Oper}{d x:Nat}(h:WL o d x=true):isDst o d=true/\∀(a:Act) (w:World) (n:Int),a.tmps.getD x Go.undef= .int .i64 n->(execOp a.eval o).run P w= .ok (.value (.int .i64 (IntKind.i64.wrap (n-1)))) w:=by
 unfold WL at h
 rw[Bool.and_eq_true] at h
 refine⟨h.1,fun a w n hv=> ?_⟩
 have h:=h.2
 split at h
 ·rename_i T y c T' ho
  rw[Bool.and_eq_true] at h
  have:=uX h.1
  subst this
  have hc:=of_decide_eq_true h.2
  subst hc
  have ev:a.eval (.tmp x)= .int .i64 n:=hv
  have ec:a.eval (.const (.int .i64 1))= .int .i64 1:=rfl
  obtain⟨sv,v,hl,Jk,_,hr,_⟩:=zpo (P:=P) (op:= .sub) (T:=T) (k:= .i64) (k':= .i64) (m:=n) (n:=1) w rfl
  cases hl
  have:=AA (hr ⟨w,fun _=> .all,fun _=>none⟩ (fun _=> .r 0 []))
  subst this
  simp only[execOp,ho,Sem.run_bind,ev,ec,QJ,Result.andThen_ok,Jk,Sem.run_pure]
 ·cases h
theorem Nk{o:Oper}{d x y:Nat}(h:tX o d x y=true):isDst o d=true/\∀(a:Act) (w:World) (n m:Int),a.tmps.getD x Go.undef= .int .u8 n->a.tmps.getD y Go.undef= .int .u8 m->(execOp a.eval o).run P w= .ok (.value (.int .u8 (IntKind.u8.wrap (n+m)))) w:=by
 unfold tX at h
 rw[Bool.and_eq_true] at h
 refine⟨h.1,fun a w n m hv hu=> ?_⟩
 have h:=h.2
 split at h
 ·rename_i T u v T' ho
  rw[Bool.and_eq_true] at h
  have:=uX h.1
  subst this
  have:=uX h.2
  subst this
  have ev:a.eval (.tmp x)= .int .u8 n:=hv
  have eu:a.eval (.tmp y)= .int .u8 m:=hu
  obtain⟨sv,v,hl,Jk,_,hr,_⟩:=zpo (P:=P) (op:= .add) (T:=T) (k:= .u8) (k':= .u8) (m:=n) (n:=m) w rfl
  cases hl
  have:=AA (hr ⟨w,fun _=> .all,fun _=>none⟩ (fun _=> .r 0 []))
  subst this
  simp only[execOp,ho,Sem.run_bind,ev,eu,QJ,Result.andThen_ok,Jk,Sem.run_pure]
 ·cases h
theorem WD(hE:aq P E){o:Oper}{d x i:Nat}(h:wW E o d x i=true):isDst o d=true/\∀(a:Act) (w:World) (g n c:Nat) (j:Int),a.tmps.getD x Go.undef= .slice (some ⟨g,0,none⟩) n c->a.tmps.getD i Go.undef= .int .i64 j->0<=j->j<n->(execOp a.eval o).run P w= .ok (.value (.pointer (some ⟨g,j.toNat,none⟩))) w:=by
 unfold wW at h
 rw[Bool.and_eq_true] at h
 refine⟨h.1,fun a w g n c j hv hj h0 h1=> ?_⟩
 have h:=h.2
 split at h
 ·rename_i T y z ho
  rw[Bool.and_eq_true,Bool.and_eq_true] at h
  have:=uX h.1
  subst this
  have:=uX h.2.1
  subst this
  obtain⟨e,hT⟩:=zuq h.2.2
  have hu:=(hE.ty T _ hT).di
  have ev:a.eval (.tmp x)= .slice (some ⟨g,0,none⟩) n c:=hv
  have ei:a.eval (.tmp i)= .int .i64 j:=hj
  simp only[execOp,ho,Sem.run_bind,Instr.indexAt,ei,ev,asIntOf,Sem.run_pure,Result.andThen_ok,run_underlying hu.1,Sem.run_ite,h0,h1,and_self,if_true,lp hE hu.2]
  simp [Ty.cells,iq]
 ·cases h
theorem LV(hE:aq P E){o:Oper}{d x:Nat}(h:DE E o d x=true):isDst o d=true/\∀(a:Act) (w:World) (g j:Nat) (y:Int),a.tmps.getD x Go.undef= .pointer (some ⟨g,j,none⟩)->w.cell? ⟨g,j,none⟩=some (.int .u8 y)->(execOp a.eval o).run P w= .ok (.value (.int .u8 y)) w:=by
 unfold DE at h
 rw[Bool.and_eq_true] at h
 refine⟨h.1,fun a w g j y hv hc=> ?_⟩
 have h:=h.2
 split at h
 ·rename_i T z ho
  rw[Bool.and_eq_true] at h
  have:=uX h.1
  subst this
  have hT:=M4 h.2
  have ev:a.eval (.tmp x)= .pointer (some ⟨g,j,none⟩):=hv
  have hl:=AD (P:=P) hE hT (X:=⟨w,fun _=> .all,fun _=>none⟩) (x:=y) (cs:=[.int .u8 y]) rfl (ad:=⟨g,j,none⟩) (w:=w) (fun k v hk=>by
   cases k with
   |zero=>rw[iq];have hk:Value.int .u8 y=v:=by simpa using hk
          rw[<-hk];exact hc
   |succ k=>simp at hk)
  simp only[execOp,ho,Sem.run_bind,Instr.loadAt,ev,Instr.sureAddr,Sem.run_pure,Result.andThen_ok,hl]
  rfl
 ·cases h
theorem alm(hE:aq P E){ops:Array Oper}{Q:Exit->Act->World->Prop}{o:Oper}{x y:Nat}(h:tW E o x y=true){k:Nat}{rest:List Nat}(hi:ops[k]? =some o){a:Act}{X:ax}{g j:Nat}{z:Int}{cur:Array Value}{T':TypeId}(hv:a.tmps.getD x Go.undef= .pointer (some ⟨g,j,none⟩))(hz:a.tmps.getD y Go.undef= .int .u8 z)(hg:X.w.heap[g]? =some (.cells cur T' (0,0)))(hj:j+1<=cur.size)
 (K:wpOps P ops Q rest (a.put none Go.undef) (X.row g (cur.toList.take j++ [Value.int .u8 z]++cur.toList.drop (j+1)).toArray).w):wpOps P ops Q (k::rest) a X.w:=by
 unfold tW at h
 rw[Bool.and_eq_true] at h
 have kU:o.dst=none/\o.guard=none:=by
  have h:=h.1
  split at h
  ·exact⟨by assumption,by assumption⟩
  ·cases h
 have h:=h.2
 rw[wpOps_cons]
 unfold wpOp
 simp only[hi]
 have hw:Region.wanted o (yielded ops a.tmps)=true:=by simp [Region.wanted,kU.2]
 rw[if_pos hw]
 refine .inl ?_
 unfold Oper.wp
 split at h
 ·rename_i T u v ho
  rw[Bool.and_eq_true,Bool.and_eq_true] at h
  have:=uX h.1
  subst this
  have:=uX h.2.1
  subst this
  have hT:=M4 h.2.2
  have ev:a.eval (.tmp x)= .pointer (some ⟨g,j,none⟩):=hv
  have ez:a.eval (.tmp y)= .int .u8 z:=hz
  have bS:=Fg (P:=P) hE hT (X:=X) (x:=z) (cs:=[.int .u8 z]) rfl (off:=j) (w:=X.w) (r:=g) (cur:=cur) (T':=T') hg hj
  have gH:dJ (.int .u8) [.int .u8 z]= .int .u8 z:=rfl
  rw[gH] at bS
  have aW:(execOp a.eval o).run P X.w= .ok .skip (X.row g (cur.toList.take j++ [Value.int .u8 z]++cur.toList.drop (j+1)).toArray).w:=by
   simp only[execOp,ho,Sem.run_bind,Instr.storeAt,ev,Instr.sureAddr,Sem.run_pure,Result.andThen_ok,ez,bS]
   rfl
  rw[aW,Oper.upon_skip,kU.1]
  exact K
 ·cases h
theorem KM:∀(n m:Nat) (sl:List (List SV)),(jY n m sl).length=sl.length
 |0,m,sl=>rfl
 |n+1,m,sl=>by rw[jY,KM n (m+1),List.length_set]
def dead(s:State)(d:Nat):State:=s.av (some d) [.undef]
theorem Rel.dead(hr:Rel X s a)(d:Nat)(v:Value):Rel X (Ref.dead s d) (a.put (some d) v):=hr.put (fun _ _=>trivial) (fun id t p hm=>by simp at hm)
theorem afJ(hE:aq P E){X0:ax}(hF:∀g pl n,X0.ow g≠ .row pl n)(hx:Ext X0 X)(hr:Rel X s a){q:Nat×Nat×Nat}{id:Nat}{ops:Array Oper}{s':State}(h:lm E q ops.toList s some=some s'){Q:Exit->Act->World->Prop}(hQ:∀Y a',Ext X0 Y->Rel Y s' a'->Q .normal a' Y.w):(Code.region id ops false).wp P Q a X.w:=by
 obtain⟨o,x,m⟩:=q
 unfold lm at h
 simp only at h
 cases fa:DH E o x m ops.toList with
 |false=>rw[fa] at h;cases h
 |true=>
 rw[fa,cond_true] at h
 cases hb:(Nat.ble (o+1) m&&(Nat.ble (x+1) m&&(!(Nat.beq o x)&&Nat.ble (m+13) s.sl.length))) with
 |false=>rw[hb] at h;cases h
 |true=>
 rw[hb,cond_true] at h
 simp only[Bool.and_eq_true,Bool.not_eq_true',Nat.ble_eq] at hb
 obtain⟨hom,hxm,hox,BR⟩:=hb
 split at h
 case h_2=>cases h
 rename_i et xs own y ow2 hJ Ji
 cases bR:gm own [] with
 |false=>rw[bR] at h;cases h
 |true=>
 rw[bR,cond_true] at h
 cases tv:(kS o 0 (jY 13 m s.sl)&&s.bs.all Option.isNone) with
 |false=>rw[tv] at h;cases h
 |true=>
 rw[tv,cond_true] at h
 rw[Bool.and_eq_true] at tv
 obtain⟨h0,h1,h⟩:=uR h
 cases h
 generalize hj:IntKind.i64.wrap ((List.length xs:Int)-1)=j at h0 h1
 have hi:j.toNat<xs.length:=by omega
 obtain⟨g,c,cur,hR⟩:=alj hr hJ bR hi
 have du:m+13<=a.tmps.size:=by rw[<-hr.size];exact BR
 have hy:a.tmps.getD x Go.undef= .int .u8 y:=by
  have hI:=hr.slot x
  rw[Ji] at hI
  exact AA (show aA X (.c x 0) (.ak (.int .u8) y ow2) _ from hI)
 have hgx:xs[j.toNat]? =some (xs.getD j.toNat 0):=by rw[List.getD_eq_getElem?_getD,List.getElem?_eq_getElem hi];rfl
 have wK:=hR.cell _ _ hgx
 unfold DH at fa
 split at fa
 case h_2=>cases fa
 rename_i o0 o1 o2 o3 o4 o5 o6 o7 o8 o9 YE YP Y0 Zb gJ
 simp only[Bool.and_eq_true] at fa
 obtain⟨k0,k1,k2,k3,k4,k5,k6,k7,k8,k9,k10,k11,k12,k13⟩:=fa
 have cz:∀i,ops[i]? =([o0,o1,o2,o3,o4,o5,o6,o7,o8,o9,YE,YP,Y0,Zb]:List Oper)[i]? :=fun i=>by rw[<-Array.getElem?_toList,gJ]
 have bZ:ops.size=14:=by rw[<-Array.length_toList,gJ];rfl
 refine wp_region ?_
 rw[bZ,show List.range 14=[0,1,2,3,4,5,6,7,8,9,10,11,12,13] from rfl]
 have vo:=hR.val
 generalize wV:(Value.slice (some ⟨g,0,none⟩) xs.length c)=vs at vo
 refine raw (cz 0) (uY (P:=P) k0).1 ((uY k0).2 a X.w) ?_
 rw[vo]
 have e1:=fun i=>nD (i:=i) (v:=vs) (show m<a.tmps.size by omega)
 have r1:=hr.dead m vs
 generalize I7:a.put (some m) vs=a1 at e1 r1
 have z1:a1.tmps.size=a.tmps.size:=by rw[<-I7,ri]
 refine raw (cz 1) (uY (P:=P) k1).1 ((uY k1).2 a1 X.w) ?_
 rw[e1,if_neg (by omega),vo]
 have e2:=fun i=>nD (a:=a1) (i:=i) (v:=vs) (show m+1<a1.tmps.size by omega)
 have r2:=r1.dead (m+1) vs
 generalize X2:a1.put (some (m+1)) vs=a2 at e2 r2
 have z2:a2.tmps.size=a.tmps.size:=by rw[<-X2,ri,z1]
 refine raw (cz 2) (Uv hE k2).1 ((Uv hE k2).2 a2 X.w _ _ _ (by rw[e2,if_pos rfl];exact wV.symm)) ?_
 have e3:=fun i=>nD (a:=a2) (i:=i) (v:= .int .i64 (xs.length:Nat)) (show m+2<a2.tmps.size by omega)
 have r3:=r2.dead (m+2) (.int .i64 (xs.length:Nat))
 generalize hp3:a2.put (some (m+2)) (.int .i64 (xs.length:Nat))=a3 at e3 r3⊢
 have z3:a3.tmps.size=a.tmps.size:=by rw[<-hp3,ri,z2]
 refine raw (cz 3) (RC (P:=P) k3).1 ((RC k3).2 a3 X.w _ (by rw[e3,if_pos rfl])) ?_
 rw[hj]
 have e4:=fun i=>nD (a:=a3) (i:=i) (v:= .int .i64 j) (show m+3<a3.tmps.size by omega)
 have r4:=r3.dead (m+3) (.int .i64 j)
 generalize hp4:a3.put (some (m+3)) (.int .i64 j)=a4 at e4 r4⊢
 have z4:a4.tmps.size=a.tmps.size:=by rw[<-hp4,ri,z3]
 have q4:∀i,i<m->a4.tmps.getD i Go.undef=a.tmps.getD i Go.undef:=fun i hi=>by rw[e4,if_neg (by omega),e3,if_neg (by omega),e2,if_neg (by omega),e1,if_neg (by omega)]
 have qm:a4.tmps.getD m Go.undef=vs:=by rw[e4,if_neg (by omega),e3,if_neg (by omega),e2,if_neg (by omega),e1,if_pos rfl]
 refine raw (cz 4) (uY (P:=P) k4).1 ((uY k4).2 a4 X.w) ?_
 rw[q4 o (by omega),vo]
 have e5:=fun i=>nD (a:=a4) (i:=i) (v:=vs) (show m+4<a4.tmps.size by omega)
 have r5:=r4.dead (m+4) vs
 generalize hp5:a4.put (some (m+4)) vs=a5 at e5 r5⊢
 have z5:a5.tmps.size=a.tmps.size:=by rw[<-hp5,ri,z4]
 refine raw (cz 5) (uY (P:=P) k5).1 ((uY k5).2 a5 X.w) ?_
 rw[e5,if_neg (by omega),q4 o (by omega),vo]
 have e6:=fun i=>nD (a:=a5) (i:=i) (v:=vs) (show m+5<a5.tmps.size by omega)
 have r6:=r5.dead (m+5) vs
 generalize hp6:a5.put (some (m+5)) vs=a6 at e6 r6⊢
 have z6:a6.tmps.size=a.tmps.size:=by rw[<-hp6,ri,z5]
 refine raw (cz 6) (Uv hE k6).1 ((Uv hE k6).2 a6 X.w _ _ _ (by rw[e6,if_pos rfl];exact wV.symm)) ?_
 have e7:=fun i=>nD (a:=a6) (i:=i) (v:= .int .i64 (xs.length:Nat)) (show m+6<a6.tmps.size by omega)
 have r7:=r6.dead (m+6) (.int .i64 (xs.length:Nat))
 generalize hp7:a6.put (some (m+6)) (.int .i64 (xs.length:Nat))=a7 at e7 r7⊢
 have z7:a7.tmps.size=a.tmps.size:=by rw[<-hp7,ri,z6]
 refine raw (cz 7) (RC (P:=P) k7).1 ((RC k7).2 a7 X.w _ (by rw[e7,if_pos rfl])) ?_
 rw[hj]
 have e8:=fun i=>nD (a:=a7) (i:=i) (v:= .int .i64 j) (show m+7<a7.tmps.size by omega)
 have r8:=r7.dead (m+7) (.int .i64 j)
 generalize hp8:a7.put (some (m+7)) (.int .i64 j)=a8 at e8 r8⊢
 have z8:a8.tmps.size=a.tmps.size:=by rw[<-hp8,ri,z7]
 have q8:∀i,i<=m+3->a8.tmps.getD i Go.undef=a4.tmps.getD i Go.undef:=fun i hi=>by rw[e8,if_neg (by omega),e7,if_neg (by omega),e6,if_neg (by omega),e5,if_neg (by omega)]
 refine raw (cz 8) (WD hE k8).1 ((WD hE k8).2 a8 X.w g xs.length c j (by rw[e8,if_neg (by omega),e7,if_neg (by omega),e6,if_neg (by omega),e5,if_pos rfl];exact wV.symm) (by rw[e8,if_pos rfl]) h0 h1) ?_
 have e9:=fun i=>nD (a:=a8) (i:=i) (v:= .pointer (some ⟨g,j.toNat,none⟩)) (show m+8<a8.tmps.size by omega)
 have r9:=r8.dead (m+8) (.pointer (some ⟨g,j.toNat,none⟩))
 generalize hp9:a8.put (some (m+8)) (.pointer (some ⟨g,j.toNat,none⟩))=a9 at e9 r9⊢
 have z9:a9.tmps.size=a.tmps.size:=by rw[<-hp9,ri,z8]
 refine raw (cz 9) (LV hE k9).1 ((LV hE k9).2 a9 X.w g j.toNat _ (by rw[e9,if_pos rfl]) wK) ?_
 generalize hwx:xs.getD j.toNat 0=wx
 have EV:=fun i=>nD (a:=a9) (i:=i) (v:= .int .u8 wx) (show m+9<a9.tmps.size by omega)
 have kl:=r9.dead (m+9) (.int .u8 wx)
 generalize XX:a9.put (some (m+9)) (.int .u8 wx)=Bg at EV kl⊢
 have z10:Bg.tmps.size=a.tmps.size:=by rw[<-XX,ri,z9]
 refine raw (cz 10) (uY (P:=P) k10).1 ((uY k10).2 Bg X.w) ?_
 rw[EV,if_neg (by omega),e9,if_neg (by omega),q8 x (by omega),q4 x (by omega),hy]
 have EW:=fun i=>nD (a:=Bg) (i:=i) (v:= .int .u8 y) (show m+10<Bg.tmps.size by omega)
 have kE:=kl.dead (m+10) (.int .u8 y)
 generalize XY:Bg.put (some (m+10)) (.int .u8 y)=Bh at EW kE⊢
 have z11:Bh.tmps.size=a.tmps.size:=by rw[<-XY,ri,z10]
 refine raw (cz 11) (Nk (P:=P) k11).1 ((Nk k11).2 Bh X.w wx y (by rw[EW,if_neg (by omega),EV,if_pos rfl]) (by rw[EW,if_pos rfl])) ?_
 generalize hwz:IntKind.u8.wrap (wx+y)=wz
 have Xc:=fun i=>nD (a:=Bh) (i:=i) (v:= .int .u8 wz) (show m+11<Bh.tmps.size by omega)
 have nf:=kE.dead (m+11) (.int .u8 wz)
 generalize XZ:Bh.put (some (m+11)) (.int .u8 wz)=a12 at Xc nf⊢
 have z12:a12.tmps.size=a.tmps.size:=by rw[<-XZ,ri,z11]
 have ZR:∀i,i<=m+3->a12.tmps.getD i Go.undef=a4.tmps.getD i Go.undef:=fun i hi=>by rw[Xc,if_neg (by omega),EW,if_neg (by omega),EV,if_neg (by omega),e9,if_neg (by omega),q8 i hi]
 refine raw (cz 12) (WD hE k12).1 ((WD hE k12).2 a12 X.w g xs.length c j (by rw[ZR m (by omega),qm];exact wV.symm) (by rw[ZR (m+3) (by omega),e4,if_pos rfl]) h0 h1) ?_
 have Qg:=fun i=>nD (a:=a12) (i:=i) (v:= .pointer (some ⟨g,j.toNat,none⟩)) (show m+12<a12.tmps.size by omega)
 have lX:=nf.dead (m+12) (.pointer (some ⟨g,j.toNat,none⟩))
 generalize ani:a12.put (some (m+12)) (.pointer (some ⟨g,j.toNat,none⟩))=Im at Qg lX⊢
 have Xs:nG X Im o et xs own g c cur:=⟨by rw[Qg,if_neg (by omega),ZR o (by omega),q4 o (by omega),hR.val],hR.heap,hR.cell,hR.le,hR.most,hR.size,hR.ow,hR.own⟩
 refine alm hE k13 (cz 13) (by rw[Qg,if_pos rfl]) (by rw[Qg,if_neg (by omega),Xc,if_pos rfl]) hR.heap (by rw[hR.size];have:=hR.le;omega) ?_
 have Ya:Rel X ⟨jY 13 m s.sl,s.bs⟩ Im:=lX
 obtain⟨hX,bq⟩:=aiX hF hx Ya (by rw[KM];omega) tv.1 tv.2 Xs hi wz
 have BH:=hQ _ Im hX (by
  unfold Ay
  rw[hj,hwx,hwz]
  exact bq)
 exact BH
end Go.Ref

namespace Go.Ref
open Go
variable {P:Program} {E:Env} {X:ax} {s:State} {a:Act}
structure nV(X Y:ax)(g0:Nat):Prop where
 heap:∀b,b≠g0->Y.w.heap[b]? =X.w.heap[b]?
 ow:Y.ow=X.ow
 β:Y.β=X.β
theorem nV.az{Y:ax}{g0:Nat}(h:nV X Y g0){ad:Addr}{v:Value}(bK:ad.block≠g0)(hs:X.az ad v):Y.az ad v:=by
 refine⟨hs.1,?_,?_⟩
 ·have:=hs.2.1
  simp only[World.cell?] at this⊢
  rw[h.heap _ bK];exact this
 ·rw[h.ow];exact hs.2.2
theorem MY{own:List (List Nat)}{p:List Nat}(h:gm own p=true):p∈own:=by
 unfold gm at h
 obtain⟨q,h1,h2⟩:=List.any_eq_true.1 h
 have:q=p:=by simpa using h2
 rw[<-this];exact h1
def plS(pl:List Nat->Place):List Nat->Place
 |j::p=>pl ((j+1)::p)
 | []=>pl []
theorem aiU{pl:List Nat->Place}{a b:Ty}{x:El (.pair a b)}{c1 c2:List Value}{own:List (List Nat)}(hr:bf X a x.1 c1)(h:bk X pl (.pair a b) x (c1++c2) own):bk X (fun p=>pl (0::p)) a x.1 c1 (P0 own [0]):=fun p hp=>by
 unfold P0 at hp
 obtain⟨q,hq,rfl⟩:=List.mem_map.1 hp
 obtain⟨hq,fS⟩:=List.mem_filter.1 hq
 match q,fS with
 |0::q,_=>
  obtain⟨e,t',xs,v,g0,g1,g2,g3⟩:=h (0::q) hq
  have g2:(c1++c2)[a.off q]? =some v:=g2
  refine⟨e,t',xs,v,g0,g1,?_,g3⟩
  show c1[a.off q]? =some v
  rw[<-g2,List.getElem?_append_left]
  obtain⟨_,k2,_⟩:=Pk hr (show a.eA q from g0) (show El.get a q x.1=_ from g1)
  have k2:a.off q+1<=a.cells:=k2
  have:=hr.len
  omega
 | [],fS=>simp at fS
 |(j+1)::q,fS=>simp at fS
theorem aiV{pl:List Nat->Place}{a b:Ty}{x:El (.pair a b)}{c1 c2:List Value}{own:List (List Nat)}(hl:c1.length=a.cells)(h:bk X pl (.pair a b) x (c1++c2) own):bk X (plS pl) b x.2 c2 (wF own):=fun p hp=>by
 unfold wF at hp
 obtain⟨q,hq,he⟩:=List.mem_filterMap.1 hp
 match q,he with
 |(j+1)::q,he=>
  cases he
  obtain⟨e,t',xs,v,g0,g1,g2,g3⟩:=h ((j+1)::q) hq
  refine⟨e,t',xs,v,g0,g1,?_,g3⟩
  have g2:(c1++c2)[a.cells+b.off (j::q)]? =some v:=g2
  rw[List.getElem?_append_right (by omega)] at g2
  rw[<-g2]
  congr 1
  omega
 | [],he=>cases he
 |0::q,he=>cases he
theorem bk.JK{Y:ax}{g0:Nat}(h:nV X Y g0){pl:List Nat->Place}(fD:∀p n,X.ow g0≠ .row (pl p) n){t:Ty}{x:El t}{cs:List Value}{own:List (List Nat)}(ho:bk X pl t x cs own):bk Y pl t x cs own:=fun p hp=>by
 obtain⟨e,t',xs,v,k0,k1,k2,k3⟩:=ho p hp
 refine⟨e,t',xs,v,k0,k1,k2,?_⟩
 rcases k3 with ho|⟨g,cap,cur,h1,h2,h3,h4,h5,h6⟩
 ·exact .inl ho
 ·have bK:g≠g0:=fun e=>fD p _ (e▸h6)
  exact .inr ⟨g,cap,cur,h1,(h.heap g bK).trans h2,h3,h4,h5,by rw[h.ow];exact h6⟩
theorem bf.cG{Y:ax}{g0:Nat}(h:nV X Y g0):∀{t:Ty} {x:El t} {cs:List Value} {own:List (List Nat)} {pl:List Nat->Place},(∀p n,X.ow g0≠ .row (pl p) n)->t.cG own=true->bf X t x cs->bk X pl t x cs own->bf Y t x cs
 | .bool,_,_,_,_,_,_,hr,_=>hr
 | .int _,_,_,_,_,_,_,hr,_=>hr
 | .str,_,_,_,_,_,_,hr,_=>hr
 | .unit,_,_,_,_,_,_,hr,_=>hr
 | .aG _ _ _,_,_,_,_,_,hs,_,_=>by cases hs
 | .arr n t,xs,cs,own,pl,_,hs,hr,_=>bf.flat (t:= .arr n t) (show t.flat=true from hs) hr
 | .pair a b,x,cs,own,pl,fD,hs,hr,ho=>by
   have hs:(a.cG (P0 own [0])&&b.cG (wF own))=true:=hs
   rw[Bool.and_eq_true] at hs
   obtain⟨c1,c2,h1,h2,h3⟩:=hr
   subst h1
   exact⟨c1,c2,rfl,bf.cG h (pl:=fun p=>pl (0::p)) (fun p n=>fD _ n) hs.1 h2 (aiU h2 ho),bf.cG h (pl:=plS pl) (fun p n=>by cases p<;>exact fD _ n) hs.2 h3 (aiV h2.len ho)⟩
 | .sl e t,xs,cs,own,pl,fD,hs,hr,ho=>by
   have hs:(t.flat&&gm own [])=true:=hs
   rw[Bool.and_eq_true] at hs
   obtain⟨A,c,eh,hle,fC⟩:=hr
   subst eh
   refine⟨A,c,rfl,hle,fun j x hj=> ?_⟩
   obtain⟨ad,ey,e1,e2,e3,e4⟩:=fC j x hj
   subst e1
   refine⟨ad,ey,rfl,e2,e3.flat hs.1,fun i v hi=>h.az ?_ (e4 i v hi)⟩
   obtain⟨e1,t1,xs1,v1,_,hg,hc,cc⟩:=ho [] (MY hs.2)
   simp only[El.get,Option.some.injEq] at hg
   cases hg
   have Ai:v1= .slice (some ad) xs.length c:=by
    have:([Value.slice (some ad) xs.length c]:List Value)[0]? =some v1:=hc
    simpa using this.symm
   subst Ai
   rcases cc with⟨h0,_⟩|⟨g,cap,cur,h1,h2,h3,h4,h5,h6⟩
   ·cases h0
   ·injection h1 with k1 k2 k3
    cases k1
    rw[iq]
    intro e
    have e:g=g0:=e
    exact fD [] _ (e▸h6)
theorem aA.cG{Y:ax}{g0:Nat}(h:nV X Y g0){pl:List Nat->Place}(fD:∀p n,X.ow g0≠ .row (pl p) n){bs:List (Option bC)}{sv:SV}{v:Value}(hs:sv.cG bs=true)(hr:aA X pl sv v):aA Y pl sv v:=by
 cases sv with
 |ak t x own=>
  obtain⟨cs,h1,h2,h3⟩:=hr
  exact⟨cs,h1.cG h fD hs h3,h2,h3.JK h fD⟩
 |undef=>trivial
 |skip=>exact hr
 |cD=>exact hr
 |dK=>exact hr
 |over=>exact hr
 |ptr id t p=>
  obtain⟨r,h1,h2⟩:=hr
  exact⟨r,by rw[h.β];exact h1,h2⟩
 |_=>cases hs
theorem acn{bs:List (Option bC)}{id:Nat}{B:bC}(h:(bs.map WQ)[id]? =some (some B)):bs[id]? =some (some B)/\B.cG=true:=by
 rw[List.getElem?_map] at h
 obtain⟨b0,h0,h1⟩:=Option.map_eq_some_iff.1 h
 cases b0 with
 |none=>cases h1
 |some B0=>
  unfold WQ at h1
  simp only at h1
  cases hb:B0.cG with
  |false=>rw[hb] at h1;cases h1
  |true=>rw[hb] at h1;cases h1;exact⟨h0,hb⟩
structure WT(X:ax)(o:Nat)(e:TypeId)(k n:Nat)(v:Value)(g c:Nat)(cur:Array Value):Prop where
 val:v= .slice (some ⟨g,0,none⟩) n c
 heap:X.w.heap[g]? =some (.cells cur e (0,0))
 le:n<=c
 size:cur.size=c*k
 ow:X.ow g= .row (.c o 0 []) (n*k)
theorem JD{o:Nat}{e:TypeId}{t:Ty}{xs:List (El t)}{own:List (List Nat)}(hr:Rel X s a)(hs:s.slot o=[.ak (.sl e t) xs own])(bR:gm own []=true){i:Nat}(hi:i<xs.length):∃g c cur,WT X o e t.cells xs.length (a.tmps.getD o Go.undef) g c cur:=by
 have hI:=hr.slot o
 rw[hs] at hI
 obtain⟨cs,aL,hv,hO⟩:=(show aA X (.c o 0) (.ak (.sl e t) xs own) (a.tmps.getD o Go.undef) from hI)
 obtain⟨e1,t1,xs1,v1,_,hg,hc,cc⟩:=hO [] (MY bR)
 simp only[El.get,Option.some.injEq] at hg
 cases hg
 obtain⟨A,c,eh,hle,fC⟩:=aL
 subst eh
 have hv:a.tmps.getD o Go.undef= .slice A xs.length c:=hv
 have Ai:v1= .slice A xs.length c:=by
  have:([Value.slice A xs.length c]:List Value)[0]? =some v1:=hc
  simpa using this.symm
 subst Ai
 rcases cc with⟨_,h0⟩|⟨g,cap,cur,h1,h2,h3,h4,h5,h6⟩
 ·have h0:List.length xs=0:=h0
  omega
 injection h1 with k1 k2 k3
 subst k1 k3
 exact⟨g,c,cur,hv,h2,hle,h5,h6⟩
theorem L7{g:Nat}{new:Array Value}:nV X (X.row g new) g:=⟨fun b hb=>setRow_other X.w g b _ hb,rfl,rfl⟩
theorem ai0{X0:ax}(hF:∀g pl n,X0.ow g≠ .row pl n)(hx:Ext X0 X){g m:Nat}{pl:Place}{new:Array Value}(how:X.ow g= .row pl m):Ext X0 (X.row g new):=by
 have dd:∀b,b≠g->(X.row g new).w.heap[b]? =X.w.heap[b]? :=fun b hb=>setRow_other X.w g b _ hb
 have nv:∀ad v,X0.az ad v->ad.block≠g:=fun ad v dV e0=>by
  have ar:=ax.ii dV
  have hu:=dV.2.2
  cases hw:X0.ow ad.block with
  |all=>have:=(hx.still ad.block ar (by rw[hw];trivial)).1;rw[e0,how] at this;rw[<-e0,hw] at this;cases this
  |ro n=>have:=(hx.still ad.block ar (by rw[hw];trivial)).1;rw[e0,how] at this;rw[<-e0,hw] at this;cases this
  |box id=>rw[hw] at hu;exact hu
  |row pl n=>exact hF _ _ _ hw
 refine⟨fun ad v dV=>L7.az (nv ad v dV) (hx.az ad v dV),?_,hx.os,hx.tape,hx.output,hx.β0,fun b hb bS=> ?_⟩
 ·have:=hx.size
  simpa [ax.row] using this
 ·have h7:=hx.still b hb bS
  have bK:b≠g:=fun e0=>by
   have h8:=h7.1
   rw[e0,how] at h8
   rw[e0,<-h8] at bS
   exact bS
  exact⟨h7.1,(dd b bK).trans h7.2⟩
theorem afB(hr:Rel X s a){x g m:Nat}{new:Array Value}(how:X.ow g= .row (.c x 0 []) m):Rel (X.row g new) (s.cG x) a:=by
 have hB:nV X (X.row g new) g:=L7
 refine⟨by simpa [State.cG] using hr.size,by simpa [State.cG] using hr.gn,fun j l v hl hv=> ?_,fun id B hb=> ?_,fun j l id t p hl hm=> ?_,hr.defers,fun j l id c b k hl hm=> ?_⟩
 ·simp only[State.cG,List.getElem?_map] at hl
  obtain⟨l0,h0,rfl⟩:=Option.map_eq_some_iff.1 hl
  unfold hold
  cases cO:l0.all (SV.cG s.bs) with
  |false=>trivial
  |true=>
   rw[cond_true]
   rw[List.getElem?_set] at h0
   by_cases Yk:x=j
   ·subst Yk
    rw[if_pos rfl] at h0
    split at h0
    ·cases h0;trivial
    ·cases h0
   ·rw[if_neg Yk] at h0
    exact(hr.bP j l0 v h0 hv).iC fun k sv u hk hu=>hu.cG hB (fun p n e=>by rw[how] at e;injection e with e _;injection e with e _;exact Yk e) (List.all_eq_true.1 cO sv (List.mem_of_getElem? hk))
 ·obtain⟨h1,h2⟩:=acn hb
  obtain⟨r,k1,k2⟩:=hr.boxes id B h1
  unfold bC.cG at h2
  rw[Bool.and_eq_true] at h2
  have dU:B.t.bH=false:=by simpa using h2.1
  obtain⟨cs,T,aD,aL,n4,bR⟩:=k2.cells dU
  have bK:r≠g:=fun e=>by rw[e,how] at n4;cases n4
  have fD:∀p n,X.ow g≠ .row (.b id p) n:=fun p n e=>by rw[how] at e;injection e with e _;cases e
  exact⟨r,k1,by rw[hB.ow];exact n4,dm.of dU ((hB.heap r bK).trans aD) (aL.cG hB fD h2.2 bR) (bR.JK hB fD)⟩
 ·simp only[State.cG,List.getElem?_map] at hl
  obtain⟨l0,h0,rfl⟩:=Option.map_eq_some_iff.1 hl
  unfold hold at hm
  cases cO:l0.all (SV.cG s.bs) with
  |false=>rw[cO] at hm;simp at hm
  |true=>
   rw[cO,cond_true] at hm
   have h1:=List.all_eq_true.1 cO _ hm
   unfold SV.cG at h1
   simp only at h1
   split at h1
   case h_2=>cases h1
   rename_i B hB
   have hb:=qd (s:=s) hB
   exact⟨B,by simp only[State.cG,List.getElem?_map,hb,Option.map_some,WQ,h1,cond_true]⟩
 ·exfalso
  simp only[State.cG,List.getElem?_map] at hl
  obtain⟨l0,h0,rfl⟩:=Option.map_eq_some_iff.1 hl
  unfold hold at hm
  cases cO:l0.all (SV.cG s.bs) with
  |false=>rw[cO] at hm;simp at hm
  |true=>
   rw[cO,cond_true] at hm
   have:=List.all_eq_true.1 cO _ hm
   cases this
theorem zut{α:Type}:∀{l r:List α} {x y:α},Uu l=some (r,x,y)->l=r++ [x,y]
 | [],_,_,_,h=>by cases h
 | [_],_,_,_,h=>by cases h
 | [a,b],_,_,_,h=>by cases h;rfl
 |a::b::c::r,_,_,_,h=>by
  simp only[Uu] at h
  split at h
  case h_2=>cases h
  rename_i l x y hl
  cases h
  have:=zut (l:=b::c::r) hl
  rw[this];rfl
theorem zq8(hE:aq P E){C:ah}(hC:C.Nat)(hf:∀f,cT P C f){ops:Array Oper}{s':State}{Q:Exit->Act->World->Prop}{rest:List Nat}:∀(l:List Nat) (X:ax) (s:State) (a:Act),Rel X s a->(∀i∈l,i<ops.size)->
 steps E (C State) ops.toList (l.map fun i=>ops.getD i default) s some=some s'->(∀Y a',Ext X Y->Rel Y s' a'->wpOps P ops Q rest a' Y.w)->wpOps P ops Q (l++rest) a X.w
 | [],X,s,a,hr,_,h,hQ=>by
   cases h
   exact hQ X a (Ext.refl X) hr
 |i::r,X,s,a,hr,hl,h,hQ=>by
  simp only[List.map_cons,steps] at h
  obtain⟨s1,h1,h2⟩:=jx (zq7 hC (F:=fun s=>steps E (C State) ops.toList (r.map fun i=>ops.getD i default) s some) (G:=some) (K:=fun s=>steps E (C State) ops.toList (r.map fun i=>ops.getD i default) s some) (fun _=>rfl)) h
  have hi:ops[i]? =some (ops.getD i default):=by
   have:=hl i (by simp)
   simp [this]
  rw[List.cons_append,wpOps_cons]
  refine UA hE hr hC hf hi h1 fun Y a' aZ bq=> ?_
  exact zq8 hE hC hf r Y s1 a' bq (fun j hj=>hl j (List.mem_cons_of_mem _ hj)) h2 fun Z a2 b7 cX=>hQ Z a2 (aZ.trans b7) cX
theorem aiW(hE:aq P E){X0:ax}(hF:∀g pl n,X0.ow g≠ .row pl n)(hx:Ext X0 X)(hr:Rel X s a){ops:Array Oper}{k l:Nat}{oA oS:Oper}(hA:ops[k]? =some oA)(hS:ops[l]? =some oS){s':State}(h:iW E oA oS s some=some s'){Q:Exit->Act->World->Prop}(hQ:∀Y a',Ext X0 Y->Rel Y s' a'->Q .normal a' Y.w):wpOps P ops Q [k,l] a X.w:=by
 unfold iW at h
 split at h
 case h_2=>cases h
 rename_i T x i T' d vo XW hoS
 cases fa:(isDst oA d&&(!(Nat.beq x d)&&lg oS)) with
 |false=>rw[fa] at h;cases h
 |true=>
 rw[fa,cond_true] at h
 rw[Bool.and_eq_true,Bool.and_eq_true] at fa
 obtain⟨hd,Yj,kU⟩:=fa
 have kU:oS.dst=none/\oS.guard=none:=by
  unfold lg at kU
  split at kU
  ·exact⟨by assumption,by assumption⟩
  ·cases kU
 have Yj:x≠d:=fun e=>by rw[e] at Yj;simp at Yj
 unfold uc at h
 split at h
 case h_2=>cases h
 rename_i e t xs own Ji
 cases hb:gm own [] with
 |false=>rw[hb] at h;cases h
 |true=>
 rw[hb,cond_true] at h
 split at h
 case h_2=>cases h
 rename_i u w hT uM
 cases hu:(u.cj (.sl e t)&&(w.cj t&&Nat.ble (d+1) s.sl.length)) with
 |false=>rw[hu] at h;cases h
 |true=>
 rw[hu,cond_true] at h
 rw[Bool.and_eq_true,Bool.and_eq_true] at hu
 have:=Ty.aJ hu.1
 subst this
 have:=Ty.aJ hu.2.1
 subst this
 have hds:d<a.tmps.size:=by rw[<-hr.size];exact Nat.le_of_ble_eq_true hu.2.2
 obtain⟨n,kk,h,hn⟩:=zpz h
 obtain⟨y,h,hy⟩:=zy h
 obtain⟨h0,h1,h⟩:=uR h
 cases h
 have hi:n.toNat<xs.length:=by omega
 obtain⟨g,c,cur,hR⟩:=JD hr Ji hb hi
 have dg:=hn X _ _ (hr.aH i)
 have hU:=hE.ty T _ hT
 have ev:a.eval (.tmp x)= .slice (some ⟨g,0,none⟩) xs.length c:=hR.val
 have tO:(execOp a.eval oA).run P X.w= .ok (.value (.pointer (some ⟨g,n.toNat*w.cells,none⟩))) X.w:=by
  have ar:n<(xs.length:Int):=h1
  simp only[execOp,XW,Sem.run_bind,Instr.indexAt,dg,ev,asIntOf,Sem.run_pure,Result.andThen_ok,run_underlying hU.di.1,Sem.run_ite,h0,ar,and_self,if_true,lp hE hU.di.2]
  simp [iq]
 refine raw hA hd tO ?_
 have eH:Rel X (s.av (some d) [.undef]) (a.put (some d) (.pointer (some ⟨g,n.toNat*w.cells,none⟩))):=hr.put (fun _ _=>trivial) (fun id t p hm=>by simp at hm)
 have evd:(a.put (some d) (.pointer (some ⟨g,n.toNat*w.cells,none⟩))).eval (.tmp d)= .pointer (some ⟨g,n.toNat*w.cells,none⟩):=by
  show(a.put (some d) _).tmps.getD d Go.undef=_
  rw[nD hds,if_pos rfl]
 generalize a.put (some d) (.pointer (some ⟨g,n.toNat*w.cells,none⟩))=a1 at eH evd⊢
 obtain⟨cs,lk,Xg⟩:=hy X _ _ (eH.aH vo)
 have hle:(n.toNat+1)*w.cells<=c*w.cells:=Nat.mul_le_mul_right _ (by have:=hR.le;omega)
 rw[Nat.add_mul,Nat.one_mul] at hle
 have bS:=Fg (P:=P) hE uM lk (r:=g) (off:=n.toNat*w.cells) (w:=X.w) hR.heap (by rw[hR.size];exact hle)
 rw[wpOps_cons]
 unfold wpOp
 simp only[hS]
 have hw:Region.wanted oS (yielded ops a1.tmps)=true:=by simp [Region.wanted,kU.2]
 rw[if_pos hw]
 refine .inl ?_
 unfold Oper.wp
 generalize gI:(cur.toList.take (n.toNat*w.cells)++cs++cur.toList.drop (n.toNat*w.cells+cs.length)).toArray=new at bS
 have aW:(execOp a1.eval oS).run P X.w= .ok .skip (X.row g new).w:=by
  simp only[execOp,hoS,Sem.run_bind,Instr.storeAt,evd,Instr.sureAddr,Sem.run_pure,Result.andThen_ok,Xg,bS]
  rfl
 rw[aW,Oper.upon_skip,kU.1]
 exact hQ _ a1 (ai0 hF hx hR.ow) (afB eH hR.ow)
theorem afn(hE:aq P E){C:ah}(hC:C.Nat)(hf:∀f,cT P C f){X0:ax}(hF:∀g pl n,X0.ow g≠ .row pl n)(hx:Ext X0 X)(hr:Rel X s a){id:Nat}{ops:Array Oper}{s':State}(h:lj E (C State) ops.toList s some=some s'){Q:Exit->Act->World->Prop}(hQ:∀Y a',Ext X0 Y->Rel Y s' a'->Q .normal a' Y.w):(Code.region id ops false).wp P Q a X.w:=by
 unfold lj at h
 split at h
 case h_2=>cases h
 rename_i l oA oS hl
 obtain⟨s1,h1,h2⟩:=jx (DV hC (F:=fun s=>iW E oA oS s some) (G:=some) (K:=fun s=>iW E oA oS s some) (fun _=>rfl) l s) h
 have gJ:=zut hl
 have bZ:ops.size=l.length+2:=by rw[<-Array.length_toList,gJ];simp
 refine wp_region ?_
 have jU:List.range ops.size=List.range l.length++ [l.length,l.length+1]:=by
  rw[bZ,List.range_succ,List.range_succ,List.append_assoc];rfl
 rw[jU]
 have hA:ops[l.length]? =some oA:=by rw[<-Array.getElem?_toList,gJ,List.getElem?_append_right (Nat.le_refl _),Nat.sub_self];rfl
 have hS:ops[l.length+1]? =some oS:=by rw[<-Array.getElem?_toList,gJ,List.getElem?_append_right (by omega),Nat.add_sub_cancel_left];rfl
 have kz:(List.range l.length).map (fun i=>ops.getD i default)=l:=by
  apply List.ext_getElem?
  intro i
  rw[List.getElem?_map]
  by_cases hi:i<l.length
  ·have h3:ops[i]? =l[i]? :=by rw[<-Array.getElem?_toList,gJ,List.getElem?_append_left hi]
   have h4:i<ops.size:=by omega
   rw[List.getElem?_range hi,<-h3]
   simp [h4]
  ·rw[List.getElem?_eq_none (by simpa using hi),List.getElem?_eq_none (by omega)];rfl
 refine zq8 hE hC hf (List.range l.length) X s a hr (fun i hi=>by have:=List.mem_range.1 hi;omega) (by rw[kz];exact h1) fun Y a' aZ bq=> ?_
 exact aiW hE hF (hx.trans aZ) bq hA hS h2 hQ
end Go.Ref

namespace Go.Ref
open Go
variable {P:Program} {E:Env} {X:ax} {s:State} {a:Act}
theorem ZW{ops:Array Oper}{Q:Exit->Act->World->Prop}{i d:Nat}{rest:List Nat}{a:Act}{w w':World}{o:Oper}{v:Value}(hi:ops[i]? =some o)(hd:isDst o d=true)(aW:(execOp a.eval o).run P w= .ok (.value v) w')(K:wpOps P ops Q rest (a.put (some d) v) w'):wpOps P ops Q (i::rest) a w:=by
 have kU:o.dst=some d/\o.guard=none:=by
  unfold isDst at hd
  split at hd
  ·rename_i d' h1 h2
   exact⟨by rw[h1,Nat.eq_of_beq_eq_true hd],h2⟩
  ·cases hd
 rw[wpOps_cons]
 unfold wpOp
 simp only[hi]
 have hw:Region.wanted o (yielded ops a.tmps)=true:=by simp [Region.wanted,kU.2]
 rw[if_pos hw]
 refine .inl ?_
 unfold Oper.wp
 rw[aW,Oper.upon_value,kU.1]
 exact K
theorem zht{α:Type}:∀{l r:List α} {x y z:α},Ri l=some (r,x,y,z)->l=r++ [x,y,z]
 | [],_,_,_,_,h=>by cases h
 | [_],_,_,_,_,h=>by cases h
 | [_,_],_,_,_,_,h=>by cases h
 | [a,b,c],_,_,_,_,h=>by cases h;rfl
 |a::b::c::d::r,_,_,_,_,h=>by
  simp only[Ri] at h
  split at h
  case h_2=>cases h
  rename_i l x y z hl
  cases h
  have:=zht (l:=b::c::d::r) hl
  rw[this];rfl
theorem Rel.kill(hr:Rel X s a)(d:Nat):Rel X (s.av (some d) [.undef]) a:=by
 have dX:∀(i:Nat) (l:List SV),(s.av (some d) [.undef]).sl[i]? =some l->l=[.undef]\/s.sl[i]? =some l:=fun i l hi=>by
  simp only[State.av,List.getElem?_set] at hi
  split at hi
  ·split at hi
   ·cases hi;exact .inl rfl
   ·cases hi
  ·exact .inr hi
 refine⟨by simpa [State.av] using hr.size,by simpa [State.av] using hr.gn,fun i l v hi hv=> ?_,hr.boxes,fun i l id t p hi hm=> ?_,hr.defers,hr.bA.less (fun i l id c b j hi hm=> ?_) (fun id c b x own _ hb ho=>⟨x,own,hb,ho⟩)⟩
 ·rcases dX i l hi with rfl|hi
  ·trivial
  ·exact hr.bP i l v hi hv
 ·rcases dX i l hi with rfl|hi
  ·simp at hm
  ·exact hr.live i l id t p hi hm
 ·rcases dX i l hi with rfl|hi
  ·simp at hm
  ·exact⟨l,hi,hm,fun h=>h⟩
theorem Yw{P:Program}{fs:Array Field}(h:∀f∈fs.toList,∃i,P.info? f.type=some i):∃places,fs.toList.mapM (fun(f:Field)=>(P.info? f.type).map fun i=>(f.offset,i.size))=some places/\∀(j:Nat) (f:Field) i,fs.toList[j]? =some f->P.info? f.type=some i->places[j]? =some (f.offset,i.size):=by
 generalize fs.toList=l at h
 induction l with
 |nil=>exact⟨[],rfl,fun j f i hj=>by simp at hj⟩
 |cons f r ih=>
  obtain⟨i,hi⟩:=h f (by simp)
  obtain⟨places,h1,h2⟩:=ih fun f hf=>h f (List.mem_cons_of_mem _ hf)
  refine⟨(f.offset,i.size)::places,by simp [List.mapM_cons,hi,h1],fun j g k hj hg=> ?_⟩
  cases j with
  |zero=>
   simp only[List.getElem?_cons_zero,Option.some.injEq] at hj
   subst hj
   rw[hi] at hg
   cases hg
   rfl
  |succ j=>exact h2 j g k (by simpa using hj) hg
theorem aev(hE:aq P E){T:TypeId}{ta tb:Ty}(hT:E.gr T=some (ta,tb)){y:El ta}{cs:List Value}(hr:bf X ta y cs)(w:World):(Instr.build T #[(0,dJ ta cs)]).run P w= .ok (.agg (cs++ [Value.pointer none,Value.pointer none,Value.int .i64 0]).toArray) w:=by
 obtain⟨fs,f0,hu,XE,wS,ht0,cO⟩:=hE.g3 T ta tb hT
 obtain⟨i,hi,hz⟩:=hE.gz T ta tb hT
 obtain⟨places,I7,X2⟩:=Yw (P:=P) (fs:=fs) cO
 obtain⟨i0,BN,eS,_⟩:=(hE.ty _ _ ht0).info
 have fD:places[0]? =some (f0.offset,i0.size):=X2 0 f0 i0 (by rw[Array.getElem?_toList];exact XE) BN
 have hmc:=uV hr
 have eZ:=hr.len
 have Jp:=uy ta
 refine run_build w T _ _ ?_
 unfold Program.built
 simp only[hi,hu,hz,I7]
 have Jo:(Value.agg (zp ta++ [Value.pointer none,Value.pointer none,Value.int .i64 0]).toArray).cells=(zp ta++ [Value.pointer none,Value.pointer none,Value.int .i64 0]).toArray:=rfl
 simp only[Jo,Instr.fill,List.getElem?_toArray,fD,wS,eS,hmc]
 rw[if_neg (by simp;omega)]
 have kV:=zpv 0 cs (zp ta++ [Value.pointer none,Value.pointer none,Value.int .i64 0]).toArray (by simp;omega)
 congr 1
 apply Array.toList_inj.1
 rw[kV]
 simp only[List.take_zero,List.nil_append,Nat.zero_add]
 rw[eZ,<-Jp,List.drop_left]
theorem ale(hE:aq P E){X0:ax}(hx:Ext X0 X)(hr:Rel X s a){ops:Array Oper}{k:Nat}{oB oX oA:Oper}(hB:ops[k]? =some oB)(hX:ops[k+1]? =some oX)(hA:ops[k+2]? =some oA){s':State}(h:qU E oB oX oA s some=some s'){Q:Exit->Act->World->Prop}(hQ:∀Y a',Ext X0 Y->Rel Y s' a'->Q .normal a' Y.w):wpOps P ops Q [k,k+1,k+2] a X.w:=by
 unfold qU at h
 split at h
 case h_2=>cases h
 rename_i T parts T' e1 e2 hoB hoX XW
 split at h
 case h_2=>cases h
 rename_i d1 d2 d3 BF rH hd3
 cases fa:(Nat.beq T T'&&(Nat.beq d1 e1&&(Nat.beq d2 e2&&(isDst oB d1&&(isDst oX d2&&(isDst oA d3&&(Nat.ble (d1+1) s.sl.length&&Nat.ble (d2+1) s.sl.length))))))) with
 |false=>rw[fa] at h;cases h
 |true=>
 rw[fa,cond_true] at h
 simp only[Bool.and_eq_true] at fa
 obtain⟨Xu,wL,wM,hB1,hX1,hA1,BX,Jg⟩:=fa
 have Xu:=Nat.eq_of_beq_eq_true Xu
 have wL:=Nat.eq_of_beq_eq_true wL
 have wM:=Nat.eq_of_beq_eq_true wM
 subst Xu wL wM
 split at h
 case h_2=>cases h
 rename_i x ta tb n6 BK
 obtain⟨y,h,hy⟩:=zy h
 split at h
 case h_2=>cases h
 rename_i iM
 cases h
 have n6:parts= #[(0,x)]:=by rw[<-Array.toArray_toList (xs:=parts),n6]
 subst n6
 obtain⟨cs,lk,Xf⟩:=hy X _ _ (hr.aH x)
 have Yc:d1<a.tmps.size:=by rw[<-hr.size];exact Nat.le_of_ble_eq_true BX
 have Yd:d2<a.tmps.size:=by rw[<-hr.size];exact Nat.le_of_ble_eq_true Jg
 have Jd:(execOp a.eval oB).run P X.w= .ok (.value (.agg (cs++ [Value.pointer none,Value.pointer none,Value.int .i64 0]).toArray)) X.w:=by
  have:=aev (X:=X) hE BK lk X.w
  simp only[execOp,hoB,Sem.run_bind]
  have e:(#[((0:Nat),x)].map fun(i,x)=>(i,a.eval x))= #[(0,dJ ta cs)]:=by simp [Xf]
  rw[e,this]
  rfl
 refine raw hB hB1 Jd ?_
 have eH:Rel X (s.av (some d1) [.undef]) (a.put (some d1) (.agg (cs++ [Value.pointer none,Value.pointer none,Value.int .i64 0]).toArray)):=hr.put (fun _ _=>trivial) (fun id t p hm=>by simp at hm)
 have Qh:(a.put (some d1) (.agg (cs++ [Value.pointer none,Value.pointer none,Value.int .i64 0]).toArray)).eval (.tmp d1)= .agg (cs++ [Value.pointer none,Value.pointer none,Value.int .i64 0]).toArray:=by
  show(a.put (some d1) _).tmps.getD d1 Go.undef=_
  rw[nD Yc,if_pos rfl]
 have Qx:(a.put (some d1) (.agg (cs++ [Value.pointer none,Value.pointer none,Value.int .i64 0]).toArray)).tmps.size=a.tmps.size:=ri
 generalize a.put (some d1) (.agg (cs++ [Value.pointer none,Value.pointer none,Value.int .i64 0]).toArray)=a1 at eH Qh Qx⊢
 let β:Nat->Option Nat:=fun id=>if id=d2+1 then some X.w.heap.size else X.β id
 have IA:(s.av (some d1) [.undef]).bs[d2+1]? =some none:=iM
 have ar:d2+1<s.bs.length:=(List.getElem?_eq_some_iff.1 iM).1
 have hk:eF (s.av (some d1) [.undef]) X (X.new (cs++ [Value.pointer none,Value.pointer none,Value.int .i64 0]).toArray T (.box (d2+1)) β):=Ot X _ _ _ _ _ (by show(if _ then _ else _)=_;rw[if_neg (by omega)]) (fun id B hB=>by
  show(if id=d2+1 then _ else _)=_
  rw[if_neg (fun e=>by rw[e,IA] at hB;cases hB)])
 obtain⟨n1,n2⟩:=Oj X (cs++ [Value.pointer none,Value.pointer none,Value.int .i64 0]).toArray T (.box (d2+1)) β
 have Jf:(execOp a1.eval oX).run P X.w= .ok (.value (.pointer (some ⟨X.w.heap.size,0,none⟩))) (X.new (cs++ [Value.pointer none,Value.pointer none,Value.int .i64 0]).toArray T (.box (d2+1)) β).w:=by
  simp only[execOp,hoX,Sem.run_bind,Instr.box,Qh,N9,Result.andThen_ok,Sem.run_pure]
  rfl
 refine ZW hX hX1 Jf ?_
 have bI:bD (X.new (cs++ [Value.pointer none,Value.pointer none,Value.int .i64 0]).toArray T (.box (d2+1)) β) (d2+1) X.w.heap.size ⟨.aG .bz ta tb,(y,(none,none),(0:Int)),[]::z21⟩:=
  ⟨n2,⟨_,n1⟩,fun _=>⟨cs,.pointer none,.pointer none,T,n1,lk.aj (fun _ _=>hk.az),rfl,rfl⟩⟩
 have hβd:β (d2+1)=some X.w.heap.size:=by show(if d2+1=d2+1 then _ else _)=_;rw[if_pos rfl]
 have eR:=((eH.dj hk).fc (d:=d2+1) ar IA hβd bI).dead d2 (.pointer (some ⟨X.w.heap.size,0,none⟩))
 have ev2:(a1.put (some d2) (.pointer (some ⟨X.w.heap.size,0,none⟩))).eval (.tmp d2)= .pointer (some ⟨X.w.heap.size,0,none⟩):=by
  show(a1.put (some d2) _).tmps.getD d2 Go.undef=_
  rw[nD (show d2<a1.tmps.size by rw[Qx];exact Yd),if_pos rfl]
 generalize a1.put (some d2) (.pointer (some ⟨X.w.heap.size,0,none⟩))=a2 at eR ev2⊢
 have tO:(execOp a2.eval oA).run P (X.new (cs++ [Value.pointer none,Value.pointer none,Value.int .i64 0]).toArray T (.box (d2+1)) β).w= .ok (.value (.pointer (some ⟨X.w.heap.size,0,none⟩))) (X.new (cs++ [Value.pointer none,Value.pointer none,Value.int .i64 0]).toArray T (.box (d2+1)) β).w:=by
  simp only[execOp,XW,Sem.run_bind,ev2,Sem.run_pure,Result.andThen_ok]
 refine raw hA hA1 tO ?_
 refine hQ (X.new _ T (.box (d2+1)) β) _ (hx.trans hk.ext) (eR.put (fun d' e=> ?_) fun id t p hm=> ?_)
 ·exact⟨X.w.heap.size,hβd,rfl,trivial⟩
 ·have:id=d2+1:=by have:=hm;simp at this;exact this.1
  subst this
  exact⟨⟨.aG .bz ta tb,(y,(none,none),(0:Int)),[]::z21⟩,by simp [State.aC,State.av,Ref.dead,List.getElem?_set,ar]⟩
theorem aiN(hE:aq P E){C:ah}(hC:C.Nat)(hf:∀f,cT P C f){X0:ax}(hx:Ext X0 X)(hr:Rel X s a){id:Nat}{ops:Array Oper}{s':State}(h:Fb E (C State) ops.toList s some=some s'){Q:Exit->Act->World->Prop}(hQ:∀Y a',Ext X0 Y->Rel Y s' a'->Q .normal a' Y.w):(Code.region id ops false).wp P Q a X.w:=by
 unfold Fb at h
 split at h
 case h_2=>cases h
 rename_i l oB oX oA hl
 obtain⟨s1,h1,h2⟩:=jx (DV hC (F:=fun s=>qU E oB oX oA s some) (G:=some) (K:=fun s=>qU E oB oX oA s some) (fun _=>rfl) l s) h
 have gJ:=zht hl
 have bZ:ops.size=l.length+3:=by rw[<-Array.length_toList,gJ];simp
 refine wp_region ?_
 have jU:List.range ops.size=List.range l.length++ [l.length,l.length+1,l.length+2]:=by
  rw[bZ,List.range_succ,List.range_succ,List.range_succ,List.append_assoc,List.append_assoc];rfl
 rw[jU]
 have cz:∀j,ops[l.length+j]? =[oB,oX,oA][j]? :=fun j=>by rw[<-Array.getElem?_toList,gJ,List.getElem?_append_right (by omega),Nat.add_sub_cancel_left]
 have kz:(List.range l.length).map (fun i=>ops.getD i default)=l:=by
  apply List.ext_getElem?
  intro i
  rw[List.getElem?_map]
  by_cases hi:i<l.length
  ·have h3:ops[i]? =l[i]? :=by rw[<-Array.getElem?_toList,gJ,List.getElem?_append_left hi]
   have h4:i<ops.size:=by omega
   rw[List.getElem?_range hi,<-h3]
   simp [h4]
  ·rw[List.getElem?_eq_none (by simpa using hi),List.getElem?_eq_none (by omega)];rfl
 refine zq8 hE hC hf (List.range l.length) X s a hr (fun i hi=>by have:=List.mem_range.1 hi;omega) (by rw[kz];exact h1) fun Y a' aZ bq=> ?_
 exact ale hE (hx.trans aZ) bq (cz 0) (cz 1) (cz 2) h2 hQ
theorem LA{Y:ax}{id:Nat}{pl:Nat->List Nat->Place}{l:List SV}{v:Value}(hr:cI Y pl l v):cI Y pl (lL id l) v:=by
 have key:∀(sv:SV) (q:List Nat->Place) (w:Value),aA Y q sv w->aA Y q (match sv with
  | .ptr j _ _=>bif Nat.beq j id then .undef else sv
  |v=>v) w:=by
  intro sv q w h
  cases sv with
  |ptr j t p=>
   simp only
   cases Nat.beq j id with
   |true=>trivial
   |false=>exact h
  |_=>exact h
 match l,hr with
 | [sv],hr=>exact key sv _ _ hr
 | [],hr=>exact hr
 |x::y::r,⟨vs,h1,h2,h3⟩=>
  refine⟨vs,h1,by simpa [lL] using h2,fun j s u hs hu=> ?_⟩
  have hs:(lL id (x::y::r))[j]? =some s:=hs
  unfold lL at hs
  rw[List.getElem?_map] at hs
  obtain⟨s0,eS,rfl⟩:=Option.map_eq_some_iff.1 hs
  exact key s0 _ _ (h3 j s0 u eS hu)
theorem MR{id:Nat}{l:List SV}{j:Nat}{t:Ty}{p:List Nat}(h:SV.ptr j t p∈lL id l):SV.ptr j t p∈l/\j≠id:=by
 unfold lL at h
 obtain⟨s0,eS,he⟩:=List.mem_map.1 h
 cases s0 with
 |ptr j' t' p'=>
  simp only at he
  cases hb:Nat.beq j' id with
  |true=>rw[hb] at he;cases he
  |false=>
   rw[hb] at he
   cases he
   exact⟨eS,fun e=>Nat.ne_of_beq_eq_false hb e⟩
 |_=>simp only at he;cases he
theorem zzx{id:Nat}{l:List SV}{i j:Nat}{a b:Ty}(h:SV.bA i a b j∈lL id l):SV.bA i a b j∈l/\(l=[.bA i a b j]->lL id l=[.bA i a b j]):=by
 refine⟨?_,fun e=>by rw[e];rfl⟩
 unfold lL at h
 obtain⟨s0,eS,he⟩:=List.mem_map.1 h
 cases s0 with
 |ptr j' t' p'=>
  simp only at he
  cases hb:Nat.beq j' id<;>rw[hb] at he<;>cases he
 |_=>simp only at he;first|(cases he;done)|(rw[<-he];exact eS)
def xS(id m j g:Nat)(X:ax)(q:Nat):Ow:=
 if q=g then .row (.b id [j]) 0 else match X.ow q with
  | .row (.b m' p) n=>if m'=m then .row (.b id (j::p)) n else .row (.b m' p) n
  |w=>w
theorem abh{id m j g q i:Nat}(hg:∃b,X.ow g= .box b):(xS id m j g X q).used i↔(X.ow q).used i:=by
 unfold xS
 split
 ·rename_i e
  obtain⟨b,hb⟩:=hg
  rw[e,hb]
  simp [Ow.used]
 ·cases hq:X.ow q with
  |row pl n=>
   cases pl with
   |b m' p=>simp only;split<;>rfl
   |_=>rfl
  |_=>rfl
theorem abg{id m j g q:Nat}(bK:q≠g)(h:∀p n,X.ow q≠ .row (.b m p) n):xS id m j g X q=X.ow q:=by
 unfold xS
 rw[if_neg bK]
 cases hq:X.ow q with
 |row pl n=>
  cases pl with
  |b m' p=>
   simp only
   rw[if_neg (fun e=>h p n (by rw[hq,e]))]
  |_=>rfl
 |_=>rfl
theorem acp{T:TypeId}(hE:aq P E)(kW:E.pt T=true){r off:Nat}{cur:Array Value}{T':TypeId}{w:World}{v:Value}(hv:v.cells= #[v])(ho:v.oneCell'=true)(hg:w.heap[r]? =some (.cells cur T' (0,0)))(hf:off+1<=cur.size):
 (storeVar T ⟨r,off,none⟩ v).run P w= .ok () (w.setRow r (cur.toList.take off++ [v]++cur.toList.drop (off+1)).toArray):=by
 obtain⟨i,hi,hs⟩:=hE.p1 T kW
 have bS:=run_storeCells_at P r off T' [v] 0 cur w hg (by simpa using hf) (fun u hu=>by
  have:u=v:=by simpa using hu
  rw[this];exact ho)
 simp only[Nat.add_zero] at bS
 have hJ:(sizeOf T).run P w= .ok 1 w:=by simp [sizeOf,typeInfo,hi,hs]
 unfold storeVar
 simp only[Sem.run_bind,hJ,Result.andThen_ok,hv]
 rw[if_neg (by simp)]
 exact bS
theorem ai3{c:List Value}{p0 p1 n v:Value}{k j:Nat}(hk:c.length=k)(hj:j<2):(c++ [p0,p1,n]).take (k+j)++ [v]++(c++ [p0,p1,n]).drop (k+j+1)=c++ [if j=0 then v else p0,if j=1 then v else p1,n]:=by
 subst hk
 match j,hj with
 |0,_=>simp
 |1,_=>
  rw[List.take_append,List.drop_append]
  simp [List.take_of_length_le]
  rw[List.drop_eq_nil_of_le (by omega),show c.length+1+1-c.length=2 by omega]
  rfl
theorem aiI(hE:aq P E)(hr:Rel X s a){oS:Oper}{s':State}(h:j4 E oS s some=some s'):(oS.dst=none/\oS.guard=none)/\(∀i,s.slot i=[.undef]->s'.slot i=[.undef])/\∃Z,(execOp a.eval oS).run P X.w= .ok .skip Z.w/\Ext X Z/\Rel Z s' a:=by
 unfold j4 at h
 split at h
 case h_2=>cases h
 rename_i T tx ty ho
 cases nu:lg oS with
 |false=>rw[nu] at h;cases h
 |true=>
 rw[nu,cond_true] at h
 have kU:oS.dst=none/\oS.guard=none:=by
  unfold lg at nu
  split at nu
  ·exact⟨by assumption,by assumption⟩
  ·cases nu
 refine⟨kU,?_⟩
 split at h
 case isFalse=>cases h
 rename_i kW
 split at h
 case h_2=>cases h
 rename_i id ta tb j Ji
 have hx:=hr.slot tx
 rw[Ji] at hx
 obtain⟨rr,hβ,hv,hj⟩:aA X (.c tx 0) (.ptr id (.aG .bz ta tb) [1,j]) (a.tmps.getD tx Go.undef):=hx
 have hv:a.tmps.getD tx Go.undef= .pointer (some ⟨rr,ta.cells+j,none⟩):=hv
 have hj:j<2:=hj
 have Xf:a.eval (.tmp tx)= .pointer (some ⟨rr,ta.cells+j,none⟩):=hv
 obtain⟨z,own,r1,hb,h,bR,h1,how,c,p0,p1,T',aD,aL,rJ,rK⟩:=Ek hr h
 rw[hβ] at h1
 cases h1
 cases gH:gm own [] with
 |false=>rw[gH] at h;cases h
 |true=>
 rw[gH,cond_true] at h
 have gH:=AE gH
 have eZ:=aL.len
 have dc:ta.cells+j+1<=(c++ [p0,p1,Value.int .i64 z.2.2]).toArray.size:=by simp;omega
 have aW:∀v,v.cells= #[v]->v.oneCell'=true->a.eval (.tmp ty)=v->(execOp a.eval oS).run P X.w= .ok .skip (X.row rr (c++ [if j=0 then v else p0,if j=1 then v else p1,Value.int .i64 z.2.2]).toArray).w:=fun v h1 h2 h3=>by
  have bS:=acp (P:=P) hE kW h1 h2 aD dc
  rw[ai3 eZ hj] at bS
  simp only[execOp,ho,Sem.run_bind,Instr.storeAt,Xf,Instr.sureAddr,Sem.run_pure,Result.andThen_ok,h3,bS]
  rfl
 split at h
 case h_3=>cases h
 case h_2=>
  rename_i E9
  cases h
  have hy:=hr.slot ty
  rw[E9] at hy
  have hy:a.tmps.getD ty Go.undef= .pointer none:=hy
  have aW:=aW (.pointer none) rfl rfl hy
  generalize gI:(c++ [if j=0 then Value.pointer none else p0,if j=1 then Value.pointer none else p1,Value.int .i64 z.2.2]).toArray=new at aW
  refine⟨fun i hi=>hi,X.row rr new,aW,Ep how,hr.row hb hβ how ⟨how,⟨_,setRow_heap X.w rr _ _ T' (0,0) aD⟩,fun _=> ?_⟩ (.inr gH)⟩
  have hg:∀k,∀{m:Option (El tb)} {v:Value},dn X (fun p=> .b id (k::p)) tb m v->dn (X.row rr new) (fun p=> .b id (k::p)) tb m v:=fun k m v hm=>hm.move (fun _ _=>mh how) fun p _ q o n hq hw=>by
   have bK:q≠rr:=fun e=>by rw[e,how] at hw;cases hw
   exact⟨(setRow_other X.w rr q _ bK).trans hq,hw⟩
  refine⟨c,if j=0 then Value.pointer none else p0,if j=1 then Value.pointer none else p1,T',?_,aL.aj (fun _ _=>mh how),?_,?_⟩
  ·rw[gI];exact setRow_heap X.w rr _ _ T' (0,0) aD
  ·match j,hj with
   |0,_=>rfl
   |1,_=>exact hg 0 rJ
  ·match j,hj with
   |0,_=>exact hg 1 rK
   |1,_=>rfl
 rename_i m Z4 E9
 split at h
 case h_2=>cases h
 rename_i B hB
 split at h
 case isFalse=>cases h
 rename_i df
 cases fa:(Z4.cj tb&&(!tb.bH&&(gm B.own [2]&& !(Nat.beq id m)))) with
 |false=>rw[fa] at h;cases h
 |true=>
 rw[fa,cond_true] at h
 cases h
 simp only[Bool.and_eq_true,Bool.not_eq_true'] at fa
 obtain⟨ht,dU,I1,E4⟩:=fa
 have:=Ty.aJ ht
 subst this
 have E4:id≠m:=fun e=>by rw[e] at E4;simp at E4
 have hbm:=qd hB
 obtain⟨g,hβm,tk⟩:=hr.boxes m B hbm
 obtain⟨bt,bx,bo⟩:=B
 have e:=Ty.aJ df
 simp only at e
 subst e
 obtain⟨csg,Tg,XF,X7,l9,Yi⟩:=tk.cells dU
 have hy:=hr.slot ty
 rw[E9] at hy
 obtain⟨g',hβ',Yh⟩:aA X (.c ty 0) (.ptr m bt []) (a.tmps.getD ty Go.undef):=hy
 rw[hβm] at hβ'
 cases hβ'
 have Yh:a.tmps.getD ty Go.undef= .pointer (some ⟨g,0,none⟩):=by
  have:=((qc dU).1 Yh).1
  rw[this];simp [Ty.off]
 have BK:g≠rr:=fun e=>by rw[e,how] at l9;injection l9 with l9;exact E4 l9
 generalize gI:(c++ [if j=0 then Value.pointer (some ⟨g,0,none⟩) else p0,if j=1 then Value.pointer (some ⟨g,0,none⟩) else p1,Value.int .i64 z.2.2]).toArray=new at*
 have aW:=aW (.pointer (some ⟨g,0,none⟩)) rfl rfl Yh
 rw[gI] at aW
 let Z:ax:=⟨(X.row rr new).w,xS id m j g X,X.β⟩
 have dd:∀q,q≠rr->Z.w.heap[q]? =X.w.heap[q]? :=fun q hq=>setRow_other X.w rr q _ hq
 have dW:∀ad v,X.az ad v->Z.az ad v:=fun ad v hs=>by
  have bK:ad.block≠rr:=fun e=>by
   have:=hs.2.2
   rw[e,how] at this
   exact this
  refine⟨hs.1,?_,(abh ⟨m,l9⟩).2 hs.2.2⟩
  have:=hs.2.1
  simp only[World.cell?] at this⊢
  rw[dd _ bK];exact this
 have iP:∀q,q≠g->(∀p n,X.ow q≠ .row (.b m p) n)->Z.ow q=X.ow q:=fun q h1 h2=>abg h1 h2
 have bI:∀q b,b≠m->X.ow q= .box b->Z.ow q= .box b:=fun q b hb hq=>by
  rw[iP q (fun e=>by rw[e,l9] at hq;injection hq with hq;exact hb hq.symm) (fun p n e=>by rw[hq] at e;cases e)]
  exact hq
 have BW:∀q pl n,X.ow q= .row pl n->(∀p,pl≠ .b m p)->Z.ow q= .row pl n:=fun q pl n hq hp=>by
  rw[iP q (fun e=>by rw[e,l9] at hq;cases hq) (fun p n' e=>by rw[hq] at e;injection e with e _;exact hp p e)]
  exact hq
 have Ix:∀{pl:Place} {e:TypeId} {k n:Nat} {v:Value},(∀p,pl≠ .b m p)->bn X pl e k n v->bn Z pl e k n v:=fun hp ho=>by
  rcases ho with ho|⟨q,cap,cur,k1,k2,k3,k4,k5,k6⟩
  ·exact .inl ho
  ·exact .inr ⟨q,cap,cur,k1,(dd q (fun e=>by rw[e,how] at k6;cases k6)).trans k2,k3,k4,k5,BW q _ _ k6 hp⟩
 have Ab:∀k,∀{x:Option (El bt)} {v:Value},dn X (fun p=> .b id (k::p)) bt x v->dn Z (fun p=> .b id (k::p)) bt x v:=fun k x v hm=>hm.move dW fun p _ q o n hq hw=>⟨(dd q (fun e=>by rw[e,how] at hw;cases hw)).trans hq,BW q _ _ hw (fun p' e=>by injection e with e _;exact E4 e)⟩
 have cC:dn Z (fun p=> .b id (j::p)) bt (some bx) (.pointer (some ⟨g,0,none⟩)):=by
  refine⟨g,csg,Tg,rfl,(dd g BK).trans XF,by show xS id m j g X g=_;simp [xS],X7.aj dW,fun p hp=> ?_⟩
  have:p=[2]:=by simpa [AZ] using hp
  subst this
  obtain⟨e,t',xs,v,g0,g1,g2,g3⟩:=Yi [2] (AE I1)
  refine⟨e,t',xs,v,g0,g1,g2,?_⟩
  rcases g3 with g3|⟨q,cap,cur,k1,k2,k3,k4,k5,k6⟩
  ·exact .inl g3
  ·refine .inr ⟨q,cap,cur,k1,(dd q (fun e=>by rw[e,how] at k6;cases k6)).trans k2,k3,k4,k5,?_⟩
   show xS id m j g X q=_
   unfold xS
   rw[if_neg (fun e=>by rw[e,l9] at k6;cases k6),k6]
   simp
 have BL:gR Z rr (.b id) ta bt (z.1,fB j (some bx) z.2.1,z.2.2):=by
  refine⟨c,if j=0 then Value.pointer (some ⟨g,0,none⟩) else p0,if j=1 then Value.pointer (some ⟨g,0,none⟩) else p1,T',?_,aL.aj dW,?_,?_⟩
  ·rw[gI];exact setRow_heap X.w rr _ _ T' (0,0) aD
  ·match j,hj,cC with
   |0,_,cC=>exact cC
   |1,_,_=>exact Ab 0 rJ
  ·match j,hj,cC with
   |0,_,_=>exact Ab 1 rK
   |1,_,cC=>exact cC
 have I5:=hr.od hb (.inr gH)
 have I6:=hr.od hbm (.inl (Po dU))
 have aZ:Ext X Z:=⟨dW,by show X.w.heap.size<=(X.row rr new).w.heap.size;simp [ax.row],rfl,rfl,rfl,rfl,fun q hq bS=>⟨iP q (fun e=>by rw[e,l9] at bS;exact bS) (fun p n e=>by rw[e] at bS;exact bS),dd q (fun e=>by rw[e,how] at bS;exact bS)⟩⟩
 have IL:id<s.bs.length:=(List.getElem?_eq_some_iff.1 hb).1
 refine⟨fun i hi=> ?_,Z,aW,aZ,by simpa [m4] using hr.size,by simpa [m4] using hr.gn,fun i l v hl hx=> ?_,fun bc B' eb=> ?_,fun i l bc t p hl hm=> ?_,hr.defers,hr.bA.less (fun i l qR c2 d2 k hl hm=> ?_) (fun qR c2 d2 x2 ka hex lN XV=> ?_)⟩
 ·by_cases ar:i<s.sl.length
  ·have:=qh ar
   rw[hi] at this
   simp [m4,State.slot,this,lL]
  ·simp [m4,State.slot,List.getElem?_eq_none (Nat.le_of_not_lt ar)]
 ·replace hl:(s.sl.map (lL m))[i]? =some l:=hl
  rw[List.getElem?_map] at hl
  obtain⟨l0,h0,rfl⟩:=Option.map_eq_some_iff.1 hl
  refine LA ((hr.bP i l0 v h0 hx).iC fun k sv u hk hu=> ?_)
  cases sv with
  |undef=>trivial
  |skip=>exact hu
  |cD=>exact hu
  |dK=>exact hu
  |over=>exact hu
  |ak t x own=>
   obtain⟨cs,q1,q2,q3⟩:=hu
   refine⟨cs,q1.aj dW,q2,fun p hp=> ?_⟩
   obtain⟨e,t',xs,v,g0,g1,g2,g3⟩:=q3 p hp
   exact⟨e,t',xs,v,g0,g1,g2,Ix (fun p' e=>by cases e) g3⟩
  |ptr bc t p=>exact hu
  |view t x=>
   obtain⟨ad,cs,q1,q2,q3,q4⟩:=hu
   exact⟨ad,cs,q1,q2,q3.aj dW,fun i u hi=>dW _ _ (q4 i u hi)⟩
  |cap f t x u y=>exact rh dW hu
  |bA bc c' d' n=>
   obtain⟨r',q1,q2,q3⟩:=hu
   have bK:bc≠id:=fun e=>I5 i l0 c' d' n h0 (e▸List.mem_of_getElem? hk)
   have hnm:bc≠m:=fun e=>I6 i l0 c' d' n h0 (e▸List.mem_of_getElem? hk)
   refine⟨r',q1,bI r' bc hnm q2,?_⟩
   simp only[World.cell?] at q3⊢
   rw[dd r' (fun e=>by rw[e,how] at q2;injection q2 with q2;exact bK q2.symm)]
   exact q3
 ·replace eb:((s.bs.set m none).set id (some ⟨.aG .bz ta bt,(z.1,fB j (some bx) z.2.1,z.2.2),own⟩))[bc]? =some (some B'):=eb
  rw[List.getElem?_set] at eb
  by_cases e1:id=bc
  ·subst e1
   rw[if_pos rfl,if_pos (by simpa using IL)] at eb
   cases eb
   exact⟨rr,hβ,bI rr id E4 how,⟨_,setRow_heap X.w rr _ _ T' (0,0) aD⟩,fun _=>BL⟩
  ·rw[if_neg e1,List.getElem?_set] at eb
   by_cases e2:m=bc
   ·rw[if_pos e2] at eb
    split at eb<;>cases eb
   ·rw[if_neg e2] at eb
    obtain⟨r',q1,q2,q3⟩:=hr.boxes bc B' eb
    have bK:r'≠rr:=fun e=>by rw[e,how] at q2;injection q2 with q2;exact e1 q2
    exact⟨r',q1,bI r' bc (fun e=>e2 e.symm) q2,q3.move dW (dd r' bK) (fun cs ho p hp=>by
     obtain⟨e,t',xs,v,g0,g1,g2,g3⟩:=ho p hp
     exact⟨e,t',xs,v,g0,g1,g2,Ix (fun p' e=>by injection e with e _;exact e2 e.symm) g3⟩) fun p _ q o n hq hw=>⟨(dd q (fun e=>by rw[e,how] at hw;cases hw)).trans hq,BW q _ _ hw (fun p' e=>by injection e with e _;exact e2 e.symm)⟩⟩
 ·replace hl:(s.sl.map (lL m))[i]? =some l:=hl
  rw[List.getElem?_map] at hl
  obtain⟨l0,h0,rfl⟩:=Option.map_eq_some_iff.1 hl
  obtain⟨hm,bK⟩:=MR hm
  obtain⟨B2,cR⟩:=hr.live i l0 bc t p h0 hm
  show∃B,((s.bs.set m none).set id (some ⟨.aG .bz ta bt,(z.1,fB j (some bx) z.2.1,z.2.2),own⟩))[bc]? =some (some B)
  rw[List.getElem?_set]
  by_cases e1:id=bc
  ·rw[if_pos e1,if_pos (by simpa using IL)];exact⟨_,rfl⟩
  ·rw[if_neg e1,List.getElem?_set,if_neg (fun e=>bK e.symm)];exact⟨B2,cR⟩
 ·replace hl:(s.sl.map (lL m))[i]? =some l:=hl
  rw[List.getElem?_map] at hl
  obtain⟨l0,h0,rfl⟩:=Option.map_eq_some_iff.1 hl
  obtain⟨g1,g2⟩:=zzx hm
  exact⟨l0,h0,g1,g2⟩
 ·obtain⟨i,l,k,hl,hm⟩:=hex
  replace hl:(s.sl.map (lL m))[i]? =some l:=hl
  rw[List.getElem?_map] at hl
  obtain⟨l0,h0,rfl⟩:=Option.map_eq_some_iff.1 hl
  obtain⟨g1,_⟩:=zzx hm
  refine⟨x2,ka,?_,XV⟩
  show((s.bs.set m none).set id (some ⟨.aG .bz ta bt,(z.1,fB j (some bx) z.2.1,z.2.2),own⟩))[qR]? =_
  rw[List.getElem?_set,if_neg (show¬id=qR from fun e=>I5 i l0 c2 d2 k h0 (by rw[e];exact g1)),List.getElem?_set,if_neg (show¬m=qR from fun e=>I6 i l0 c2 d2 k h0 (by rw[e];exact g1))]
  exact lN
theorem zus{α:Type}:∀{l r:List α} {x:α},Ut l=some (r,x)->l=r++ [x]
 | [],_,_,h=>by cases h
 | [a],_,_,h=>by cases h;rfl
 |a::b::r,_,_,h=>by
  simp only[Ut] at h
  split at h
  case h_2=>cases h
  rename_i l x hl
  cases h
  have:=zus (l:=b::r) hl
  rw[this];rfl
theorem K2{n:Nat}{listed:Array Bool}(hs:n<=listed.size){i:Nat}{p q:List Nat}(h:rest n listed=p++i::q):rest n (listed.setIfInBounds i true)=p++q:=by
 have nu:(rest n listed).Nodup:=List.nodup_range.filter _
 rw[h] at nu
 rw[<-zua nu,<-h]
 simp only[rest,List.filter_filter]
 refine List.filter_congr fun j hj=> ?_
 have XJ:=List.mem_range.1 hj
 by_cases e:j=i
 ·subst e
  have:(listed.setIfInBounds j true).getD j true=true:=by
   have:j<listed.size:=by omega
   simp [Array.getD_eq_getD_getElem?,this]
  rw[this];simp
 ·have h1:(listed.setIfInBounds i true).getD j true=listed.getD j true:=by
   simp only[Array.getD_eq_getD_getElem?]
   rw[Array.getElem?_setIfInBounds_ne (fun h=>e h.symm)]
  have h2:Nat.beq j i=false:=by
   cases hh:Nat.beq j i with
   |false=>rfl
   |true=>exact absurd (Nat.eq_of_beq_eq_true hh) e
  rw[h1,h2];simp
theorem acd{n:Nat}{listed:Array Bool}{i:Nat}(h:n<=i):rest n (listed.setIfInBounds i true)=rest n listed:=by
 simp only[rest]
 refine List.filter_congr fun j hj=> ?_
 have XJ:=List.mem_range.1 hj
 simp only[Array.getD_eq_getD_getElem?]
 rw[Array.getElem?_setIfInBounds_ne (by omega)]
theorem K3{n:Nat}{listed:Array Bool}(hs:listed.size=n+1):rest (n+1) listed=rest n listed++(if listed.getD n true=true then [] else [n]):=by
 simp only[rest,List.range_succ,List.filter_append]
 congr 1
 cases h:listed.getD n true with
 |false=>
  rw[if_neg (by simp)]
  simp only[List.filter_cons,h,Bool.not_false,if_true,List.filter_nil]
 |true=>
  rw[if_pos rfl]
  simp only[List.filter_cons,h,Bool.not_true,Bool.false_eq_true,if_false,List.filter_nil]
theorem zuy{ops:Array Oper}(lP:∀k,k<ops.size->Nat.ble (uI ops k+1) (bit k)=true){listed:Array Bool}(hs:listed.size=ops.size)(hr:Region.ready .any ops listed=[]):rest ops.size listed=[]:=by
 rcases hl:rest ops.size listed with _|⟨i,r⟩
 ·rfl
 have cC:i∈rest ops.size listed:=by rw[hl];simp
 have dg:=List.mem_range.1 (List.mem_filter.1 cC).1
 have jV:i∈Region.ready .any ops listed:=by
  refine L6 cC fun e he hb=> ?_
  have ar:e.on<i:=J6 (lP i dg) (zgq _ e he hb)
  cases hx:listed.getD e.on false with
  |true=>rfl
  |false=>
   exfalso
   have fR:e.on<listed.size:=by omega
   have Ak:listed.getD e.on true=false:=by
    simp only[Array.getD_eq_getD_getElem?,Array.getElem?_eq_getElem fR,Option.getD_some] at hx⊢
    exact hx
   have hm:e.on∈rest ops.size listed:=List.mem_filter.2 ⟨List.mem_range.2 (by omega),by rw[Ak];rfl⟩
   have hM:(rest ops.size listed).Pairwise (· < ·):=List.pairwise_lt_range.filter _
   rw[hl] at hM hm
   rcases List.mem_cons.1 hm with e1|hm
   ·omega
   ·have:=(List.pairwise_cons.1 hM).1 _ hm
    omega
 rw[hr] at jV
 cases jV
theorem aa8{o:Oper}{t j:Nat}(ho:o.op= .extract (.tmp t) j){vs:Array Value}(hv:a.tmps.getD t Go.undef= .tuple vs){v:Value}(hj:vs[j]? =some v)(w:World):(execOp a.eval o).run P w= .ok (.value v) w:=by
 have ev:a.eval (.tmp t)= .tuple vs:=hv
 simp [execOp,ho,ev,Instr.extract,hj]
structure F8(E:Env)(C:ah)(ops:Array Oper)(n k t j d:Nat)(oS oD:Oper)(s1 s':State):Prop where
 size:ops.size=n+1
 last:ops[n]? =some oS
 Ir:ops[k]? =some oD
 kn:k<n
 ext:oD.op= .extract (.tmp t) j
 dst:isDst oD d=true
 Yu:Nat.ble (zx oS.after.toList+1) (bit n)=true
 mask:iX ops.toList n (zx oS.after.toList)|||bit k=bit n-1
 low:∀i,i<n->Nat.ble (uI ops i+1) (bit i)=true
 len:j<(s1.slot t).length
 tup:(s1.slot t).length≠1
 link:j4 E oS (s1.av (some d) [.undef]) some=some s'
theorem afu{m n k i:Nat}(h:m|||bit k=bit n-1)(hi:i<n)(hk:i≠k):m.testBit i=true:=by
 have h1:(m|||bit k).testBit i=true:=by
  rw[h]
  simp only[bit,Nat.shiftLeft_eq,Nat.one_mul]
  rw[Nat.testBit_two_pow_sub_one]
  simpa using hi
 rw[Nat.testBit_or] at h1
 have h2:(bit k).testBit i=false:=by
  simp only[bit,Nat.shiftLeft_eq,Nat.one_mul]
  rw[Nat.testBit_two_pow]
  simp
  omega
 rw[h2,Bool.or_false] at h1
 exact h1
theorem ack(c:List (Nat×Nat)):∀(s:State) (t:Nat),((s.close c).slot t).length=(s.slot t).length:=by
 induction c with
 |nil=>intro s t;rfl
 |cons x r ih=>
  intro s t
  obtain⟨i,j⟩:=x
  rw[DM,ih]
  simp only[State.b9,State.slot,List.getD_eq_getElem?_getD,List.getElem?_set]
  by_cases e:i=t
  ·subst e
   by_cases ar:i<s.sl.length
   ·rw[if_pos rfl,if_pos ar,List.getElem?_eq_getElem ar]
    simp [z7i]
   ·rw[if_pos rfl,if_neg ar,List.getElem?_eq_none (by omega)]
  ·rw[if_neg e]
theorem aeH{s:State}{d:Nat}(h:s.slot d=[.undef]):s.av (some d) [.undef]=s:=by
 simp only[State.av]
 have:s.sl.set d [.undef]=s.sl:=by
  apply List.ext_getElem?
  intro i
  rw[List.getElem?_set]
  by_cases e:d=i
  ·subst e
   by_cases ar:d<s.sl.length
   ·rw[if_pos rfl,if_pos ar,qh ar,h]
   ·rw[if_pos rfl,if_neg ar,List.getElem?_eq_none (by omega)]
  ·rw[if_neg e]
 rw[this]
theorem acm(s:State)(d:Nat):(s.av (some d) [.undef]).slot d=[.undef]:=by
 simp only[State.slot,State.av,List.getD_eq_getElem?_getD,List.getElem?_set]
 by_cases ar:d<s.sl.length
 ·simp [ar]
 ·simp [ar]
theorem aa7{C:ah}{ops:List Oper}{o:Oper}{t j:Nat}(ho:o.op= .extract (.tmp t) j){u:Out}(h:act E (C Out) ops o s some=some u):u.bx=none/\u.v.length=1:=by
 unfold act at h
 simp only[ho] at h
 split at h
 ·split at h
  ·cases h;exact⟨rfl,rfl⟩
  ·cases h
 ·split at h<;>cases h<;>exact⟨rfl,rfl⟩
theorem alc(hE:aq P E){C:ah}(hC:C.Nat)(hf:∀f,cT P C f){ops:Array Oper}{n k t j d:Nat}{oS oD:Oper}{s1 s':State}(H:F8 E C ops n k t j d oS oD s1 s'){Q:Exit->Act->World->Prop}:
 ∀(cm:Nat) (listed:Array Bool) (X:ax) (s:State) (a:Act) (tr:List dN),Rel X s a->s4 ops listed->listed.size=n+1->listed.getD n true=false->cm=(rest n listed).length+1->nU E C ops (rest n listed) s tr s1->tr.Pairwise (vh ops)->
  (∀Y a',Ext X Y->Rel Y s' a'->Q .normal a' Y.w)->wpAny P .any ops Q cm listed a X.w:=by
 have hgS:ops.getD n default=oS:=by
  have:=H.last
  simp only[Array.getD_eq_getD_getElem?,this,Option.getD_some]
 have hgD:ops.getD k default=oD:=by
  have:=H.Ir
  simp only[Array.getD_eq_getD_getElem?,this,Option.getD_some]
 have lP:∀i,i<ops.size->Nat.ble (uI ops i+1) (bit i)=true:=fun i hi=>by
  rcases Nat.lt_or_ge i n with h|h
  ·exact H.low i h
  ·have:i=n:=by have:=H.size;omega
   subst this
   unfold uI
   rw[hgS]
   exact H.Yu
 intro cm
 induction cm with
 |zero=>intro listed X s a tr hr eZ hs hn ns;omega
 |succ cm ih=>
  intro listed X s a tr hr eZ hs hn ns dH uO hQ
  have hrs:rest ops.size listed=rest n listed++ [n]:=by rw[H.size,K3 hs,if_neg (by rw[hn];simp)]
  refine⟨fun hG=> ?_,fun i hi=> ?_⟩
  ·have:=zuy lP (by rw[hs,H.size]) hG
   rw[hrs] at this
   simp at this
  ·obtain⟨I0,qN⟩:=Fp hi
   have cC:=I0
   rw[hrs] at cC
   rcases List.mem_append.1 cC with cC|cC
   ·obtain⟨p,q,wT⟩:=Mb cC
    have dg:=List.mem_range.1 (List.mem_filter.1 cC).1
    rw[wT] at dH
    have lR:=DG dH
    obtain⟨tp,f,tq,u,e1,e2,k1,k2,k3⟩:=zqb p s tr dH (fun tp f tq e hl a' zP=>by
     have tu:f.i=i:=by
      rw[e,List.map_append,List.map_cons] at lR
      have:=List.append_inj lR (by simp [hl])
      injection this.2
     have Xw:a'.i∈p:=by
      rw[e,List.map_append,List.map_cons] at lR
      have:=List.append_inj lR (by simp [hl])
      rw[<-this.1]
      exact List.mem_map.2 ⟨a',zP,rfl⟩
     rw[e] at uO
     have tw:=(List.pairwise_append.1 uO).2.2 a' zP f (by simp)
     rcases tw with hb|hb
     ·exfalso
      rw[tu] at hb
      obtain fo:=QN eZ _ _ (fun q hq=>by
       obtain⟨ed,wL,wM,IG⟩:=DL _ _ hq
       have:=qN ed wL wM
       rw[IG] at this
       exact this) a'.i hb
      have bG:a'.i∈rest n listed:=by rw[wT];exact List.mem_append_left _ Xw
      have dM:=(List.mem_filter.1 bG).2
      have ar:=List.mem_range.1 (List.mem_filter.1 bG).1
      have fR:a'.i<listed.size:=by omega
      simp only[Array.getD_eq_getD_getElem?,Array.getElem?_eq_getElem fR,Option.getD_some] at fo dM
      rw[fo] at dM
      cases dM
     ·exact hb)
    have bG:=K2 (n:=n) (by omega) wT
    have XI:ops[i]? =some (ops.getD i default):=by
     have:i<ops.size:=by rw[H.size];omega
     simp [this]
    refine UA hE hr hC hf XI (zo4 hC k1) fun Y a' aZ bq=> ?_
    refine ih (listed.setIfInBounds i true) Y _ a' (tp++tq) bq (L9 eZ fun q hq=>by
     obtain⟨ed,g1,g2,g3⟩:=DL _ _ hq
     have:=qN ed g1 g2
     rw[g3] at this
     exact this) (by simp [hs]) ?_ ?_ (by rw[bG];exact k3) ?_ (fun Z a2 b7 cX=>hQ Z a2 (aZ.trans b7) cX)
    ·simp only[Array.getD_eq_getD_getElem?] at hn⊢
     rw[Array.getElem?_setIfInBounds_ne (by omega)]
     exact hn
    ·rw[bG]
     rw[wT] at ns
     simp only[List.length_append,List.length_cons] at ns⊢
     omega
    ·rw[e1] at uO
     obtain⟨a1,a2,a3⟩:=List.pairwise_append.1 uO
     exact List.pairwise_append.2 ⟨a1,(List.pairwise_cons.1 a2).2,fun x hx y hy=>a3 x hx y (List.mem_cons_of_mem _ hy)⟩
   ·have dg:i=n:=by simpa using cC
    subst dg
    have cO:∀q∈rest i listed,q=k:=fun q hq=>by
     obtain⟨h1,h2⟩:=List.mem_filter.1 hq
     have hqn:=List.mem_range.1 h1
     by_cases e:q=k
     ·exact e
     ·exfalso
      have fo:=QN eZ _ _ (fun q hq=>by
       obtain⟨ed,wL,wM,IG⟩:=DL _ _ hq
       have:=qN ed (by rw[hgS];exact wL) wM
       rw[IG] at this
       exact this) q (afu H.mask hqn e)
      have fR:q<listed.size:=by omega
      simp only[Array.getD_eq_getD_getElem?,Array.getElem?_eq_getElem fR,Option.getD_some] at fo h2
      rw[fo] at h2
      cases h2
    have nu:(rest i listed).Nodup:=List.nodup_range.filter _
    have bG:rest i listed=[]\/rest i listed=[k]:=by
     match hl:rest i listed,cO,nu with
     | [],_,_=>exact .inl rfl
     | [q],cO,_=>exact .inr (by rw[cO q (by simp)])
     |q::q'::r,cO,nu=>
      have h1:=cO q (by simp)
      have h2:=cO q' (by simp)
      have:=(List.nodup_cons.1 nu).1
      rw[h1,h2] at this
      simp at this
    have I8:Rel X (s1.av (some d) [.undef]) a/\(rest i listed=[k]->d≠t/\(s1.slot t).length=(s.slot t).length):=by
     rcases bG with bG|bG
     ·rw[bG] at dH
      obtain⟨rfl,_⟩:=dH
      exact⟨hr.kill d,fun e=>by rw[bG] at e;cases e⟩
     ·rw[bG] at dH
      match tr,dH with
      | [],dH=>exact dH.elim
      |f::tr,⟨u,h1,_,h3,_⟩=>
       rw[hgD] at h1 h3
       have IE:oD.dst=some d/\oD.guard=none:=by
        have:=H.dst
        unfold isDst at this
        split at this
        ·rename_i d' h1 h2
         exact⟨by rw[h1,Nat.eq_of_beq_eq_true this],h2⟩
        ·cases this
       unfold eD at h1
       rw[IE.2] at h1
       obtain⟨hbx,hvl⟩:=aa7 H.ext h1
       rw[IE.1] at h3
       have e:s1=(s.close u.cl).av (some d) u.v:=by
        rw[<-h3]
        unfold State.apply
        rw[hbx]
        rfl
       have IF:d≠t:=fun e2=>by
        have h5:=H.tup
        have h6:=H.len
        rw[e,e2] at h5 h6
        simp only[State.slot,State.av,List.getD_eq_getElem?_getD,List.getElem?_set] at h5 h6
        by_cases ar:t<(s.close u.cl).sl.length
        ·simp [ar] at h5
         omega
        ·simp [ar] at h5
       refine⟨?_,fun _=>⟨IF,?_⟩⟩
       ·have e3:s1.av (some d) [.undef]=(s.close u.cl).av (some d) [.undef]:=by
         rw[e]
         simp only[State.av,List.set_set]
        rw[e3]
        exact(hr.close u.cl).kill d
       ·rw[e,<-ack u.cl s t]
        simp only[State.slot,State.av,List.getD_eq_getElem?_getD,List.getElem?_set]
        rw[if_neg IF]
    obtain⟨cX,IU⟩:=I8
    obtain⟨kU,Yg,Z,aW,aZ,Af⟩:=aiI hE cX H.link
    have hud:=Yg d (acm s1 d)
    unfold wpOp
    simp only[H.last]
    have hw:Region.wanted oS (yielded ops a.tmps)=true:=by simp [Region.wanted,kU.2]
    rw[if_pos hw]
    refine .inl ?_
    unfold Oper.wp
    rw[aW,Oper.upon_skip,kU.1]
    show wpAny P .any ops Q cm (listed.setIfInBounds i true) a Z.w
    have BZ:(listed.setIfInBounds i true).size=i+1:=by simpa using hs
    have fb:(listed.setIfInBounds i true).getD i true=true:=by
     have:i<listed.size:=by omega
     simp [Array.getD_eq_getD_getElem?,this]
    have wU:rest ops.size (listed.setIfInBounds i true)=rest i listed:=by
     rw[H.size,K3 BZ,if_pos fb,List.append_nil,acd (Nat.le_refl _)]
    rcases bG with bG|bG
    ·have:cm=0:=by rw[bG] at ns;simpa using ns
     subst this
     refine⟨?_,hQ Z a aZ Af⟩
     rcases I9:Region.ready .any ops (listed.setIfInBounds i true) with _|⟨q,r⟩
     ·rfl
     ·have:=(Fp (i:=q) (by rw[I9];simp)).1
      rw[wU,bG] at this
      cases this
    ·have:cm=1:=by rw[bG] at ns;simpa using ns
     subst this
     refine⟨fun hG=> ?_,fun q hq=> ?_⟩
     ·have:=zuy lP (by rw[BZ,H.size]) hG
      rw[wU,bG] at this
      cases this
     ·have Qp:=(Fp hq).1
      rw[wU,bG] at Qp
      have Qp:q=k:=by simpa using Qp
      subst Qp
      obtain⟨IF,hlen⟩:=IU bG
      have IE:oD.dst=some d/\oD.guard=none:=by
       have:=H.dst
       unfold isDst at this
       split at this
       ·rename_i d' h1 h2
        exact⟨by rw[h1,Nat.eq_of_beq_eq_true this],h2⟩
       ·cases this
      have B3:∃vs:Array Value,a.tmps.getD t Go.undef= .tuple vs/\vs.size=(s.slot t).length:=by
       have hI:=hr.slot t
       have h5:=H.tup
       rw[hlen] at h5
       match hq:s.slot t,hI,h5 with
       | [],⟨vs,g1,g2,_⟩,_=>exact⟨vs,g1,by rw[g2]⟩
       | [x],_,h5=>simp at h5
       |x::y::r,⟨vs,g1,g2,_⟩,_=>exact⟨vs,g1,by rw[g2]⟩
      obtain⟨vs,hv,wV⟩:=B3
      have tA:j<vs.size:=by rw[wV,<-hlen];exact H.len
      have Je:=aa8 (P:=P) H.ext hv (Array.getElem?_eq_getElem tA) Z.w
      unfold wpOp
      simp only[H.Ir]
      have hw:Region.wanted oD (yielded ops a.tmps)=true:=by simp [Region.wanted,IE.2]
      rw[if_pos hw]
      refine .inl ?_
      unfold Oper.wp
      rw[Je,Oper.upon_value,IE.1]
      have BH:Rel Z s' (a.put (some d) vs[j]):=by
       have:=Af.dead d vs[j]
       rw[Ref.dead,aeH hud] at this
       exact this
      refine⟨?_,hQ Z _ aZ BH⟩
      have hkn:=H.kn
      have X9:rest ops.size ((listed.setIfInBounds i true).setIfInBounds q true)=[]:=by
       have:=K2 (n:=ops.size) (listed:=listed.setIfInBounds i true) (i:=q) (p:=[]) (q:=[]) (by rw[BZ,H.size];exact Nat.le_refl _) (by rw[wU,bG];rfl)
       simpa using this
      rcases I9:Region.ready .any ops ((listed.setIfInBounds i true).setIfInBounds q true) with _|⟨z,r⟩
      ·rfl
      ·have:=(Fp (i:=z) (by rw[I9];simp)).1
       rw[X9] at this
       cases this
theorem ae5(hE:aq P E)(hm:P.follows .mixedOrders=true){C:ah}(hC:C.Nat)(hf:∀f,cT P C f){X0:ax}(hx:Ext X0 X)(hr:Rel X s a){id k:Nat}{ops:Array Oper}{s':State}(h:qT E (C State) k ops.toList s some=some s'){Q:Exit->Act->World->Prop}(hQ:∀Y a',Ext X0 Y->Rel Y s' a'->Q .normal a' Y.w):(Code.region id ops true).wp P Q a X.w:=by
 unfold qT at h
 split at h
 case h_2=>cases h
 rename_i l oS hl
 split at h
 case h_2=>cases h
 rename_i oD hoD
 split at h
 case h_2=>cases h
 rename_i t j d aZ ang
 cases fa:(isDst oD d&&(Nat.ble (k+1) l.length&&(Nat.ble (zx oS.after.toList+1) (bit l.length)&&Nat.beq (iX ops.toList l.length (zx oS.after.toList)|||bit k) (bit l.length-1)))) with
 |false=>rw[fa] at h;cases h
 |true=>
 rw[fa,cond_true] at h
 simp only[Bool.and_eq_true] at fa
 obtain⟨hd,XK,IZ,tF⟩:=fa
 have XK:k<l.length:=Nat.le_of_ble_eq_true XK
 have tF:=Nat.eq_of_beq_eq_true tF
 obtain⟨s1,h1,h2⟩:=jx (Ob hC (F:=fun s=>bif Nat.ble (j+1) (s.slot t).length&& !(Nat.beq (s.slot t).length 1) then j4 E oS (s.av (some d) [.undef]) some else none) (G:=some) (K:=fun s=>bif Nat.ble (j+1) (s.slot t).length&& !(Nat.beq (s.slot t).length 1) then j4 E oS (s.av (some d) [.undef]) some else none) (fun _=>rfl) l 0 s []) h
 cases hlen:(Nat.ble (j+1) (s1.slot t).length&& !(Nat.beq (s1.slot t).length 1)) with
 |false=>simp only[hlen] at h2;cases h2
 |true=>
 simp only[hlen,cond_true] at h2
 rw[Bool.and_eq_true] at hlen
 have gJ:=zus hl
 have bZ:ops.size=l.length+1:=by rw[<-Array.length_toList,gJ];simp
 have mS:ops[l.length]? =some oS:=by rw[<-Array.getElem?_toList,gJ,List.getElem?_append_right (Nat.le_refl _),Nat.sub_self];rfl
 have kz:(List.range l.length).map (fun i=>ops.getD i default)=l:=by
  apply List.ext_getElem?
  intro i
  rw[List.getElem?_map]
  by_cases hi:i<l.length
  ·have h3:ops[i]? =l[i]? :=by rw[<-Array.getElem?_toList,gJ,List.getElem?_append_left hi]
   have h4:i<ops.size:=by omega
   rw[List.getElem?_range hi,<-h3]
   simp [h4]
  ·rw[List.getElem?_eq_none (by simpa using hi),List.getElem?_eq_none (by omega)];rfl
 obtain⟨xn,r1,_,r3,r4⟩:=zak hC (List.range l.length) 0 s [] (fun j k hj=>by
  obtain⟨g1,g2⟩:=List.getElem?_eq_some_iff.1 hj
  simp at g2
  omega) (by rw[kz];exact h1)
 have H:F8 E C ops l.length k t j d oS oD s1 s':=⟨bZ,mS,by rw[<-Array.getElem?_toList];exact hoD,XK,aZ,hd,IZ,tF,fun i hi=>r4 i (List.mem_range.2 hi),Nat.le_of_ble_eq_true hlen.1,fun e=>by rw[e] at hlen;simp at hlen,h2⟩
 have hk:eF s X {X with w:={X.w with drawn:=X.w.drawn+1}}:=⟨Nat.le_refl _,rfl,rfl,rfl,fun g _=>⟨rfl,rfl⟩,rfl,fun _ _ _=>rfl⟩
 have bG:rest l.length (Array.replicate ops.size false)=List.range l.length:=by
  refine List.filter_eq_self.2 fun i hi=> ?_
  have:=List.mem_range.1 hi
  have h2:i<ops.size:=by omega
  simp [h2]
 refine wp_region_any hm ?_
 have ns:ops.size=(rest l.length (Array.replicate ops.size false)).length+1:=by rw[bG,bZ];simp
 exact alc hE hC hf H ops.size (Array.replicate ops.size false) _ s a xn (hr.dj hk) (fun i hi=>by
  by_cases h:i<ops.size<;>simp [h] at hi) (by simp [bZ]) (by simp [bZ]) ns (by rw[bG];exact r1) r3 (fun Y a' aZ bq=>hQ Y a' (hx.trans (hk.ext.trans aZ)) bq)
end Go.Ref

namespace Go.Ref
open Go
variable {P:Program} {E:Env} {X:ax} {s:State} {a:Act}
def Ex.exit':Ex->Exit
 | .normal=> .normal
 | .exit id=> .exit id
 | .ret=> .ret
theorem af0{Q:Exit->Act->World->Prop}{c:Code}(I:Nat->Act->World->Prop)(round:∀n a w,I n a w->∃m,n=m+1/\c.wp P (Exit.then (I m) Q) a w){n:Nat}{a:Act}{w:World}(h₀:I n a w):(Code.loop c).wp P Q a w:=by
 intro b k cs
 have key:∀n a w,I n a w->∃e a' w',Q e a' w'/\Arrives P (lone (b.at a (.code c:: .inLoop c::k)) cs w) b k cs e a' w':=by
  intro n
  induction n with
  |zero=>intro a w h;obtain⟨m,hm,_⟩:=round 0 a w h;cases hm
  |succ n ih=>
   intro a w h
   obtain⟨m,hm,hr⟩:=round (n+1) a w h
   cases hm
   obtain⟨e,a₁,w₁,hq,mO⟩:=hr b (.inLoop c::k) cs
   cases e with
   |normal=>
    obtain⟨e₂,a₂,w₂,hq₂,harr₂⟩:=ih a₁ w₁ hq
    exact⟨e₂,a₂,w₂,hq₂,.of_steps (Steps.trans mO (.one step_inLoop)) harr₂⟩
   |exit id=>exact⟨_,a₁,w₁,hq,.pass (x:= .inLoop c) rfl (fun _ _=> .inl (by simp)) mO⟩
   |goto l=>exact⟨_,a₁,w₁,hq,.pass (x:= .inLoop c) rfl (fun _ _=> .inl (by simp)) mO⟩
   |ret=>exact⟨_,a₁,w₁,hq,.pass (x:= .inLoop c) rfl (fun _ _=> .inl (by simp)) mO⟩
   |panic ch=>exact⟨_,a₁,w₁,hq,.pass (x:= .inLoop c) rfl (fun _ _=> .inl (by simp)) mO⟩
   |outgrown=>exact⟨_,a₁,w₁,hq,.pass (x:= .inLoop c) rfl (fun _ _=> .inl (by simp)) mO⟩
 obtain⟨e,a',w',hq,mO⟩:=key n a w h₀
 exact⟨e,a',w',hq,.of_steps (.one step_loop) mO⟩
theorem DR{α:Type}(z:α)(l:List Nat):∀(xs:List α) (i j:Nat),(fT z l i xs)[j]? =(xs[j]?).map fun x=>bif l.any (Nat.beq (i+j)) then x else z
 | [],i,j=>by simp [fT]
 |x::r,i,0=>by simp [fT]
 |x::r,i,j+1=>by
  simp only[fT,List.getElem?_cons_succ]
  rw[DR z l r (i+1) j,show i+1+j=i+(j+1) by omega]
theorem zhs{α:Type}(z:α)(l:List Nat):∀(xs:List α) (i:Nat),(fT z l i xs).length=xs.length
 | [],i=>rfl
 |x::r,i=>by simp [fT,zhs z l r]
theorem LW{p q:List Nat}:∀{l:List (List Nat)},q∈tV p l->q=p\/q∈l
 | [],h=>by simp [tV] at h;exact .inl h
 |r::l,h=>by
  simp only[tV] at h
  cases hl:Yv r p with
  |false=>rw[hl] at h;simpa using h
  |true=>
   rw[hl] at h
   rcases List.mem_cons.1 h with h|h
   ·exact .inr (by simp [h])
   ·rcases LW h with h|h
    ·exact .inl h
    ·exact .inr (List.mem_cons_of_mem _ h)
theorem Rj{q:List Nat}:∀{l:List (List Nat)},q∈na l->q∈l
 | [],h=>h
 |p::l,h=>by
  rcases LW h with h|h
  ·simp [h]
  ·exact List.mem_cons_of_mem _ (Rj h)
theorem aiS{v:SV}{id:Nat}{t:Ty}{p:List Nat}(h:v.norm= .ptr id t p):v= .ptr id t p:=by
 cases v<;>simp [SV.norm] at h
 obtain⟨h1,h2,h3⟩:=h
 rw[h1,h2,h3]
theorem aA.norm{pl:List Nat->Place}{sv:SV}{v:Value}(hr:aA X pl sv v):aA X pl sv.norm v:=by
 cases sv with
 |ak t x own=>
  obtain⟨cs,h1,h2,h3⟩:=hr
  exact⟨cs,h1,h2,fun p hp=>h3 p (Rj hp)⟩
 |_=>exact hr
theorem cI.norm{pl:Nat->List Nat->Place}{l:List SV}{v:Value}(hr:cI X pl l v):cI X pl (l.map SV.norm) v:=by
 match l,hr with
 | [s],hr=>exact aA.norm hr
 | [],hr=>exact hr
 |x::y::r,⟨vs,h1,h2,h3⟩=>
  refine⟨vs,h1,by simpa using h2,fun j s u hs hu=> ?_⟩
  have hs:((x::y::r).map SV.norm)[j]? =some s:=hs
  rw[List.getElem?_map] at hs
  obtain⟨s0,eS,rfl⟩:=Option.map_eq_some_iff.1 hs
  exact aA.norm (h3 j s0 u eS hu)
theorem dm.less{r:Nat}{pl:List Nat->Place}{t:Ty}{x:El t}{own jn:List (List Nat)}(ho:∀p∈jn,p∈own)(h:dm X r pl t x own):dm X r pl t x jn:=by
 unfold dm at h⊢
 split at h
 ·exact h
 ·exact h
 ·exact h
 ·exact⟨h.1,fun hm=>h.2 (ho [] hm)⟩
 ·exact⟨h.1,fun hp=>h.2 fun p hm=>ho p (hp p hm)⟩
 ·exact h.elim
 ·obtain⟨cs,T,h1,h2,h3⟩:=h
  exact⟨cs,T,h1,h2,fun p hp=>h3 p (ho p hp)⟩
theorem Rel.norm(hr:Rel X s a):Rel X s.norm a where
 size:=by simpa [State.norm] using hr.size
 gn:=by simpa [State.norm] using hr.gn
 bP:=fun i l v hl hv=>by
  simp only[State.norm,List.getElem?_map] at hl
  obtain⟨l0,h0,rfl⟩:=Option.map_eq_some_iff.1 hl
  exact cI.norm (hr.bP i l0 v h0 hv)
 boxes:=fun id B hB=>by
  simp only[State.norm,List.getElem?_map] at hB
  obtain⟨b0,h0,h1⟩:=Option.map_eq_some_iff.1 hB
  obtain⟨B0,rfl,rfl⟩:=Option.map_eq_some_iff.1 h1
  obtain⟨r,g1,g2,g3⟩:=hr.boxes id B0 h0
  exact⟨r,g1,g2,g3.less fun p hp=>Rj hp⟩
 live:=fun i l id t p hl hm=>by
  simp only[State.norm,List.getElem?_map] at hl
  obtain⟨l0,h0,rfl⟩:=Option.map_eq_some_iff.1 hl
  obtain⟨v0,Qt,he⟩:=List.mem_map.1 hm
  rw[aiS he] at Qt
  obtain⟨B,hB⟩:=hr.live i l0 id t p h0 Qt
  exact⟨B.norm,by simp [State.norm,hB]⟩
 defers:=hr.defers
 bA:=hr.bA.less (fun i l id b c j hl hm=>by
  simp only[State.norm,List.getElem?_map] at hl
  obtain⟨l0,h0,rfl⟩:=Option.map_eq_some_iff.1 hl
  obtain⟨v0,Qt,he⟩:=List.mem_map.1 hm
  have:v0= .bA id b c j:=by cases v0<;>simp [SV.norm] at he;rw[he.1,he.2.1,he.2.2.1,he.2.2.2]
  subst this
  exact⟨l0,h0,Qt,fun e=>by rw[e];rfl⟩) (fun id b c x own _ hb ho=>⟨x,na own,by simp [State.norm,hb,bC.norm],fun hm=>ho (Rj hm)⟩)
theorem N7(hr:Rel X s a){l:List Nat}{R:Type}{K:State->Option R}{z:R}(h:ru l s K=some z):∃s',K s'=some z/\Rel X s' a:=by
 unfold ru at h
 simp only at h
 cases hb:(fT [.undef] l 0 s.sl).all (fun v=>v.all (SV.roots l)) with
 |false=>rw[hb] at h;cases h
 |true=>
  rw[hb] at h
  refine⟨_,h,Rel.norm ?_⟩
  have iM:s.bs=s.bs.headD none::s.bs.tail:=by
   have:=hr.gn
   cases hs:s.bs with
   |nil=>rw[hs] at this;simp at this
   |cons b r=>rfl
  have cz:∀(id:Nat) B,(s.bs.headD none::fT none l 0 s.bs.tail)[id]? =some (some B)->s.bs[id]? =some (some B):=by
   intro id B hB
   rw[iM]
   cases id with
   |zero=>exact hB
   |succ id=>
    simp only[List.getElem?_cons_succ] at hB⊢
    rw[DR] at hB
    obtain⟨x,hx,he⟩:=Option.map_eq_some_iff.1 hB
    rw[hx]
    cases hl:l.any (Nat.beq (0+id))<;>rw[hl] at he
    ·cases he
    ·rw[<-he];rfl
  refine⟨by rw[zhs];exact hr.size,?_,fun i v x hv hx=> ?_,fun id B hB=>hr.boxes id B (cz id B hB),fun i v id t p hv hm=> ?_,hr.defers,hr.bA.less (fun i v id c d j hv hm=> ?_) (fun id c d x own hex nq ho=> ?_)⟩
  ·simp only[List.length_cons,zhs,List.length_tail]
   have:=hr.gn
   omega
  ·rw[DR] at hv
   obtain⟨y,hy,rfl⟩:=Option.map_eq_some_iff.1 hv
   cases hl:l.any (Nat.beq (0+i)) with
   |false=>trivial
   |true=>exact hr.bP i y x hy hx
  ·have tN:SV.roots l (.ptr id t p)=true:=by
    have:=List.all_eq_true.1 hb v (List.mem_of_getElem? hv)
    exact List.all_eq_true.1 this _ hm
   rw[DR] at hv
   obtain⟨y,hy,he⟩:=Option.map_eq_some_iff.1 hv
   have rI:SV.ptr id t p∈y:=by
    cases hl:l.any (Nat.beq (0+i)) with
    |false=>rw[hl] at he;subst he;simp at hm
    |true=>rw[hl] at he;subst he;exact hm
   obtain⟨B,hB⟩:=hr.live i y id t p hy rI
   refine⟨B,?_⟩
   rw[iM] at hB
   cases id with
   |zero=>exact hB
   |succ id=>
    simp only[List.getElem?_cons_succ] at hB⊢
    rw[DR,hB]
    have:l.any (Nat.beq id)=true:=tN
    have h2:l.any (Nat.beq (0+id))=true:=by rw[Nat.zero_add];exact this
    simp [this]
  ·rw[DR] at hv
   obtain⟨y,hy,he⟩:=Option.map_eq_some_iff.1 hv
   cases hl:l.any (Nat.beq (0+i)) with
   |false=>rw[hl] at he;subst he;simp at hm
   |true=>rw[hl] at he;subst he;exact⟨y,hy,hm,fun h=>h⟩
  ·obtain⟨i,v,j,hv,hm⟩:=hex
   have tN:SV.roots l (.bA id c d j)=true:=by
    have:=List.all_eq_true.1 hb v (List.mem_of_getElem? hv)
    exact List.all_eq_true.1 this _ hm
   refine⟨x,own,?_,ho⟩
   rw[iM] at nq
   cases id with
   |zero=>exact nq
   |succ id=>
    simp only[List.getElem?_cons_succ] at nq⊢
    rw[DR,nq]
    have:l.any (Nat.beq id)=true:=tN
    have h2:l.any (Nat.beq (0+id))=true:=by rw[Nat.zero_add];exact this
    simp [this]
def ax.still(X:ax)(r n:Nat):ax:={X with ow:=fun g=>if g=r then .ro n else X.ow g}
theorem xw{r n id:Nat}(h:X.ow r= .box id){ad:Addr}{v:Value}(hs:X.az ad v):(X.still r n).az ad v:=by
 have bK:ad.block≠r:=fun e=>by
  have:=hs.2.2
  rw[e,h] at this
  exact this
 refine⟨hs.1,hs.2.1,?_⟩
 simp only[ax.still]
 rw[if_neg bK]
 exact hs.2.2
theorem K9{r n id:Nat}(h:X.ow r= .box id):Ext X (X.still r n) where
 az:=fun _ _=>xw h
 size:=Nat.le_refl _
 os:=rfl
 tape:=rfl
 output:=rfl
 β0:=rfl
 still:=fun g _ bS=>by
  have bK:g≠r:=fun e=>by rw[e,h] at bS;exact bS
  exact⟨by simp only[ax.still];rw[if_neg bK],rfl⟩
theorem bn.eE{r n id:Nat}(h:X.ow r= .box id){pl:Place}{e:TypeId}{k m:Nat}{v:Value}(ho:bn X pl e k m v):bn (X.still r n) pl e k m v:=by
 rcases ho with ho|⟨g,cap,cur,h1,h2,h3,h4,h5,h6⟩
 ·exact .inl ho
 ·have bK:g≠r:=fun e=>by rw[e,h] at h6;cases h6
  exact .inr ⟨g,cap,cur,h1,h2,h3,h4,h5,by simp only[ax.still];rw[if_neg bK];exact h6⟩
theorem bk.eE{r n id:Nat}(h:X.ow r= .box id){pl:List Nat->Place}{t:Ty}{x:El t}{c:List Value}{own:List (List Nat)}(ho:bk X pl t x c own):bk (X.still r n) pl t x c own:=fun p hp=>by
 obtain⟨e,t',xs,v,g0,g1,g2,g3⟩:=ho p hp
 exact⟨e,t',xs,v,g0,g1,g2,g3.eE h⟩
theorem aA.eE{r n id:Nat}(h:X.ow r= .box id){pl:List Nat->Place}{sv:SV}{v:Value}(hk:∀bc c d j,sv= .bA bc c d j->bc≠id)(hr:aA X pl sv v):aA (X.still r n) pl sv v:=by
 cases sv with
 |ak t x own=>
  obtain⟨c,h1,h2,h3⟩:=hr
  exact⟨c,h1.aj (fun _ _=>xw h),h2,h3.eE h⟩
 |view t x=>
  obtain⟨ad,c,h1,h2,h3,h4⟩:=hr
  exact⟨ad,c,h1,h2,h3.aj (fun _ _=>xw h),fun i u hi=>xw h (h4 i u hi)⟩
 |cap f t x u y=>exact rh (fun _ _=>xw h) hr
 |bA bc c d j=>
  obtain⟨r',h1,h2,h3⟩:=hr
  have bK:r'≠r:=fun e=>by rw[e,h] at h2;injection h2 with h2;exact hk bc c d j rfl h2.symm
  exact⟨r',h1,by simp only[ax.still];rw[if_neg bK];exact h2,h3⟩
 |_=>exact hr
theorem Re(l:List Nat):∀(xs:List (Option bC)) (i j:Nat),(iL l i xs)[j]? =(xs[j]?).map fun b=>bif l.any (Nat.beq (i+j)) then b.map (fun B=>{B with own:=[]}) else b
 | [],i,j=>by simp [iL]
 |x::r,i,0=>by simp [iL]
 |x::r,i,j+1=>by
  simp only[iL,List.getElem?_cons_succ]
  rw[Re l r (i+1) j,show i+1+j=i+(j+1) by omega]
theorem z116(l:List Nat):∀(xs:List (Option bC)) (i:Nat),(iL l i xs).length=xs.length
 | [],i=>rfl
 |x::r,i=>by simp [iL,z116 l r]
theorem Rel.drop(hr:Rel X s a)(l:List Nat):Rel X (s.drop l) a where
 size:=hr.size
 gn:=by simp only[State.drop,z116];exact hr.gn
 bP:=hr.bP
 boxes:=fun id B hB=>by
  simp only[State.drop,Re] at hB
  obtain⟨b0,h0,h1⟩:=Option.map_eq_some_iff.1 hB
  cases hl:l.any (Nat.beq (0+id)) with
  |false=>rw[hl] at h1;simp only[cond_false] at h1;subst h1;exact hr.boxes id B h0
  |true=>
   rw[hl] at h1
   simp only[cond_true] at h1
   obtain⟨B0,rfl,rfl⟩:=Option.map_eq_some_iff.1 h1
   obtain⟨r,g1,g2,g3⟩:=hr.boxes id B0 h0
   exact⟨r,g1,g2,g3.less fun p hp=>by cases hp⟩
 live:=fun i v id t p hv hm=>by
  obtain⟨B,hB⟩:=hr.live i v id t p hv hm
  simp only[State.drop,Re,hB,Option.map_some]
  cases l.any (Nat.beq (0+id))<;>exact⟨_,rfl⟩
 defers:=hr.defers
 bA:=hr.bA.less (fun i l id c d j hl hm=>⟨l,hl,hm,fun h=>h⟩) (fun id c d x own _ hb ho=>by
  simp only[State.drop,Re,hb,Option.map_some]
  cases l.any (Nat.beq (0+id)) with
  |false=>exact⟨x,own,rfl,ho⟩
  |true=>exact⟨x,[],rfl,by simp⟩)
theorem ai9(hr:Rel X s a){r:Nat}{R:Type}{K:State->Option R}{z:R}(h:qX E r s K=some z):∃Y s',Y.w=X.w/\Ext X Y/\K s'=some z/\Rel Y s' a:=by
 unfold qX at h
 split at h
 ·exact⟨X,s,rfl,Ext.refl X,h,hr⟩
 rename_i d T hfz
 split at h
 case h_2=>cases h
 rename_i id n ta tb e t hI hT
 split at h
 case isFalse=>cases h
 rename_i heq
 have:=Ty.aJ heq
 subst this
 split at h
 case h_2=>cases h
 rename_i B hB
 split at h
 case isFalse=>cases h
 rename_i df
 obtain⟨hb,rr,h1,how,cs,T',aD,du,fC⟩:=Eo hr hB df
 generalize(Ty.cast df B.x:List (El ta))=xs at*
 cases hn:Nat.beq n (List.length xs) with
 |false=>rw[hn] at h;cases h
 |true=>
  rw[hn] at h
  have hn:=Nat.eq_of_beq_eq_true hn
  have hd:d<s.sl.length:=by
   rcases Nat.lt_or_ge d s.sl.length with h1|h1
   ·exact h1
   ·simp [State.slot,List.getElem?_eq_none h1] at hI
  have dX:=hr.slot d
  rw[hI] at dX
  obtain⟨r0,hβ,cap,hv,mR⟩:=(show aA X (.c d 0) (.ptr id (.aG (.iz n) ta tb) []) _ from dX)
  rw[h1] at hβ
  cases hβ
  have ar:id<s.bs.length:=(List.getElem?_eq_some_iff.1 hb).1
  have nv:=hr.od hb (.inl (by rw[Ty.aJ df];rfl))
  refine⟨X.still rr (xs.length*ta.cells),_,rfl,K9 how,h,?_,?_,fun i l v hl hx=> ?_,fun bc B' eb=> ?_,fun i l j t p hl hm=> ?_,hr.defers,hr.bA.less (fun i l qR c2 d2 j hl hm=> ?_) (fun qR c2 d2 x2 ka hex lN ho=> ?_)⟩
  ·simpa using hr.size
  ·simpa using hr.gn
  ·replace hl:((s.sl.map (lL id)).set d [.ak (.sl e ta) xs []])[i]? =some l:=hl
   rw[List.getElem?_set] at hl
   split at hl
   ·rename_i tm
    subst tm
    rw[if_pos (by simpa using hd)] at hl
    cases hl
    have Jl:a.tmps.getD d Go.undef=v:=by
     rw[Array.getD_eq_getD_getElem?,hx];rfl
    rw[Jl] at hv
    refine⟨[v],?_,rfl,mg⟩
    rw[hv,hn]
    refine bf.xj rfl (by omega) (fun j y hj=>⟨⟨rr,0,none⟩,_,rfl,rfl,(fC j y hj).aj (fun _ _=>xw how),fun i u hi=> ?_⟩)
    have tA:=(List.getElem?_eq_some_iff.1 hj).1
    have hle:(j+1)*ta.cells<=xs.length*ta.cells:=Nat.mul_le_mul_right _ tA
    rw[Nat.add_mul,Nat.one_mul] at hle
    rw[List.getElem?_take] at hi
    split at hi
    case isFalse=>cases hi
    rename_i Ql
    rw[List.getElem?_drop] at hi
    refine⟨AK rfl _,?_,?_⟩
    ·rw[iq,Nat.zero_add]
     show X.w.cell? _=_
     simp only[World.cell?,aD]
     simpa using hi
    ·rw[iq,Nat.zero_add]
     show Ow.used (if rr=rr then .ro (xs.length*ta.cells) else X.ow rr) _
     rw[if_pos rfl]
     show j*ta.cells+i<_
     omega
   ·rw[List.getElem?_map] at hl
    obtain⟨l0,h0,rfl⟩:=Option.map_eq_some_iff.1 hl
    exact LA ((hr.bP i l0 v h0 hx).iC fun j sv u hm jt=>jt.eE how (fun bc c d k e e2=>nv i l0 c d k h0 (e2▸e▸List.mem_of_getElem? hm)))
  ·replace eb:(s.bs.set id none)[bc]? =some (some B'):=eb
   rw[List.getElem?_set] at eb
   split at eb
   ·rename_i IM
    cases eb
   ·rename_i IM
    obtain⟨r',g1,g2,g3⟩:=hr.boxes bc B' eb
    have bK:r'≠rr:=fun e2=>by rw[e2,how] at g2;cases g2;exact IM rfl
    exact⟨r',g1,by simp only[ax.still];rw[if_neg bK];exact g2,g3.move (fun _ _=>xw how) rfl (fun cs h5=>h5.eE how) fun _ _ g o _ ho hw=>⟨ho,by simp only[ax.still];rw[if_neg (fun e3=>by rw[e3,how] at hw;cases hw)];exact hw⟩⟩
  ·replace hl:((s.sl.map (lL id)).set d [.ak (.sl e ta) xs []])[i]? =some l:=hl
   rw[List.getElem?_set] at hl
   split at hl
   ·rw[if_pos (by simpa using hd)] at hl
    cases hl
    simp at hm
   ·rw[List.getElem?_map] at hl
    obtain⟨l0,h0,rfl⟩:=Option.map_eq_some_iff.1 hl
    obtain⟨hm,bK⟩:=MR hm
    obtain⟨B2,cR⟩:=hr.live i l0 j t p h0 hm
    exact⟨B2,by show(s.bs.set id none)[j]? =_;rw[List.getElem?_set,if_neg (fun e=>bK e.symm)];exact cR⟩
  ·replace hl:((s.sl.map (lL id)).set d [.ak (.sl e ta) xs []])[i]? =some l:=hl
   rw[List.getElem?_set] at hl
   split at hl
   ·rw[if_pos (by simpa using hd)] at hl
    cases hl
    simp at hm
   ·rw[List.getElem?_map] at hl
    obtain⟨l0,h0,rfl⟩:=Option.map_eq_some_iff.1 hl
    obtain⟨g1,g2⟩:=zzx hm
    exact⟨l0,h0,g1,g2⟩
  ·refine⟨x2,ka,?_,ho⟩
   show(s.bs.set id none)[qR]? =_
   rw[List.getElem?_set,if_neg (fun e=> ?_)]
   ·exact lN
   ·subst e
    rw[hb] at lN
    cases lN
    cases(Ty.aJ df)
theorem Lg(hr:Rel X s a){id rr:Nat}{B:bC}(hb:s.bs[id]? =some (some B))(hs:B.t.bH=false)(h1:X.β id=some rr)(how:X.ow rr= .box id){cs:Array Value}{T:TypeId}(aD:X.w.heap[rr]? =some (.cells cs T (0,0)))(aL:bf X B.t B.x cs.toList){pl:List Nat->Place}{sv:SV}{v:Value}(hk:∀bc c d j,sv= .bA bc c d j->bc≠id)(h:aA X pl sv v):aA (X.still rr cs.size) pl (rC id B sv) v:=by
 have dj:=h.eE (n:=cs.size) how hk
 cases sv with
 |ptr j t p=>
  unfold rC
  simp only
  cases hj:Nat.beq j id with
  |false=>exact dj
  |true=>
   have:=Nat.eq_of_beq_eq_true hj
   subst this
   simp only[cond_true]
   split
   case isFalse=>trivial
   rename_i heq
   have:=Ty.aJ heq
   subst this
   split
   case h_2=>trivial
   rename_i u y cz
   obtain⟨r0,hβ,hv⟩:=h
   rw[h1] at hβ
   cases hβ
   obtain⟨hv,dg⟩:=(qc hs).1 hv
   obtain⟨k1,k2,k3⟩:=Pk aL dg cz
   refine⟨_,_,hv,rfl,k3.aj (fun _ _=>xw how),fun i w hi=>⟨AK rfl _,?_,?_⟩⟩
   ·exact Rx aD hi
   ·rw[iq]
    show Ow.used (if rr=rr then .ro cs.size else X.ow rr) _
    rw[if_pos rfl]
    rw[List.getElem?_take] at hi
    split at hi
    case isFalse=>cases hi
    rw[List.getElem?_drop] at hi
    have:=(List.getElem?_eq_some_iff.1 hi).1
    show _<cs.size
    simpa using this
 |_=>exact dj
theorem afW(hr:Rel X s a){id rr:Nat}{B:bC}(hb:s.bs[id]? =some (some B))(hs:B.t.bH=false)(h1:X.β id=some rr)(how:X.ow rr= .box id){cs:Array Value}{T:TypeId}(aD:X.w.heap[rr]? =some (.cells cs T (0,0)))(aL:bf X B.t B.x cs.toList){pl:Nat->List Nat->Place}{l:List SV}{v:Value}(hk:∀bc c d j,SV.bA bc c d j∈l->bc≠id)(h:cI X pl l v):cI (X.still rr cs.size) pl (l.map (rC id B)) v:=by
 match l,h with
 | [sv],h=>exact Lg hr hb hs h1 how aD aL (fun bc c d j e=>hk bc c d j (by simp [e])) h
 | [],⟨vs,g1,g2,g3⟩=>exact⟨vs,g1,g2,fun j sv u lQ=>by simp at lQ⟩
 |x::y::r,⟨vs,g1,g2,g3⟩=>
  refine⟨vs,g1,by simpa using g2,fun j sv u lQ hu=> ?_⟩
  have lQ:((x::y::r).map (rC id B))[j]? =some sv:=lQ
  rw[List.getElem?_map] at lQ
  obtain⟨s0,eS,rfl⟩:=Option.map_eq_some_iff.1 lQ
  exact Lg hr hb hs h1 how aD aL (fun bc c d j e=>hk bc c d j (e▸List.mem_of_getElem? eS)) (g3 j s0 u eS hu)
theorem aje{id:Nat}{B:bC}{l:List SV}{j:Nat}{t:Ty}{p:List Nat}(h:SV.ptr j t p∈l.map (rC id B)):SV.ptr j t p∈l/\j≠id:=by
 obtain⟨s0,eS,he⟩:=List.mem_map.1 h
 unfold rC at he
 cases s0 with
 |ptr j' t' p'=>
  simp only at he
  cases hb:Nat.beq j' id with
  |true=>
   rw[hb] at he
   simp only[cond_true] at he
   split at he
   ·split at he<;>cases he
   ·cases he
  |false=>
   rw[hb] at he
   cases he
   exact⟨eS,fun e=>Nat.ne_of_beq_eq_false hb e⟩
 |_=>simp only at he;cases he
theorem ajd{id:Nat}{B:bC}{l:List SV}{i j:Nat}{a b:Ty}(h:SV.bA i a b j∈l.map (rC id B)):SV.bA i a b j∈l/\(l=[.bA i a b j]->l.map (rC id B)=[.bA i a b j]):=by
 refine⟨?_,fun e=>by rw[e];rfl⟩
 obtain⟨s0,eS,he⟩:=List.mem_map.1 h
 unfold rC at he
 cases s0 with
 |ptr j' t' p'=>
  simp only at he
  cases hb:Nat.beq j' id with
  |true=>
   rw[hb] at he
   simp only[cond_true] at he
   split at he
   ·split at he<;>cases he
   ·cases he
  |false=>rw[hb] at he;cases he
 |_=>simp only at he;first|(cases he;done)|(rw[<-he];exact eS)
theorem abb(hr:Rel X s a){id:Nat}{R:Type}{K:State->Option R}{z:R}(h:Ur id s K=some z):∃Y s',Y.w=X.w/\Ext X Y/\K s'=some z/\Rel Y s' a:=by
 unfold Ur at h
 split at h
 case h_2=>cases h
 rename_i B hB
 split at h
 case isTrue=>cases h
 rename_i hs
 have hs:B.t.bH=false:=by simpa using hs
 have hb:=qd hB
 obtain⟨rr,h1,tk⟩:=hr.boxes id B hb
 obtain⟨cs,T,aD,aL,how,_⟩:=tk.cells hs
 refine⟨X.still rr cs.size,_,rfl,K9 how,h,by simpa using hr.size,by simpa using hr.gn,fun i l v hl hx=> ?_,fun bc B' eb=> ?_,fun i l j t p hl hm=> ?_,hr.defers,hr.bA.less (fun i l qR c2 d2 j hl hm=> ?_) (fun qR c2 d2 x2 ka hex lN ho=> ?_)⟩
 ·replace hl:(s.sl.map fun l=>l.map (rC id B))[i]? =some l:=hl
  rw[List.getElem?_map] at hl
  obtain⟨l0,h0,rfl⟩:=Option.map_eq_some_iff.1 hl
  exact afW hr hb hs h1 how aD aL (fun bc c d j hm e=>hr.od hb (.inl (Po hs)) i l0 c d j h0 (e▸hm)) (hr.bP i l0 v h0 hx)
 ·replace eb:(s.bs.set id none)[bc]? =some (some B'):=eb
  rw[List.getElem?_set] at eb
  split at eb
  ·split at eb<;>cases eb
  ·rename_i IM
   obtain⟨r',g1,g2,g3⟩:=hr.boxes bc B' eb
   have bK:r'≠rr:=fun e2=>by rw[e2,how] at g2;cases g2;exact IM rfl
   exact⟨r',g1,by simp only[ax.still];rw[if_neg bK];exact g2,g3.move (fun _ _=>xw how) rfl (fun cs h5=>h5.eE how) fun _ _ g o _ ho hw=>⟨ho,by simp only[ax.still];rw[if_neg (fun e3=>by rw[e3,how] at hw;cases hw)];exact hw⟩⟩
 ·replace hl:(s.sl.map fun l=>l.map (rC id B))[i]? =some l:=hl
  rw[List.getElem?_map] at hl
  obtain⟨l0,h0,rfl⟩:=Option.map_eq_some_iff.1 hl
  obtain⟨hm,bK⟩:=aje hm
  obtain⟨B2,cR⟩:=hr.live i l0 j t p h0 hm
  exact⟨B2,by show(s.bs.set id none)[j]? =_;rw[List.getElem?_set,if_neg (fun e=>bK e.symm)];exact cR⟩
 ·replace hl:(s.sl.map fun l=>l.map (rC id B))[i]? =some l:=hl
  rw[List.getElem?_map] at hl
  obtain⟨l0,h0,rfl⟩:=Option.map_eq_some_iff.1 hl
  obtain⟨g1,g2⟩:=ajd hm
  exact⟨l0,h0,g1,g2⟩
 ·refine⟨x2,ka,?_,ho⟩
  show(s.bs.set id none)[qR]? =_
  rw[List.getElem?_set,if_neg (fun e=> ?_)]
  ·exact lN
  ·subst e
   rw[hb] at lN
   cases lN
   cases hs
theorem znl{R:Type}{K:State->Option R}{z:R}:∀(l:List Nat) (X:ax) (s:State),Rel X s a->FM l s K=some z->∃Y s',Y.w=X.w/\Ext X Y/\K s'=some z/\Rel Y s' a
 | [],X,s,hr,h=>⟨X,s,rfl,Ext.refl X,h,hr⟩
 |id::r,X,s,hr,h=>by
  obtain⟨Y,s1,h1,h2,h3,h4⟩:=abb hr h
  obtain⟨Z,s2,k1,k2,k3,k4⟩:=znl r Y s1 h4 h3
  exact⟨Z,s2,k1.trans h1,h2.trans k2,k3,k4⟩
def Fr(E:Env)(X0:ax):Prop:=E.sp≠none->∀g pl n,X0.ow g≠ .row pl n
def z139(P:Program)(E:Env)(C:ah)(k:Nat)(c:Code):Prop:=
 ∀(X0 X:ax) (s:State) (a:Act) (e:Ex) (s':State),Fr E X0->Ext X0 X->Rel X s a->ev E (C (Ex×State)) k c s (fun e s=>some (e,s))=some (e,s')->
  ∀(Q:Exit->Act->World->Prop),(∀Y a',Ext X0 Y->Rel Y s' a'->Q e.exit' a' Y.w)->c.wp P Q a X.w
theorem aiL(hr:Rel X s a){k r:Nat}{R:Type}{K:State->Option R}{z:R}(h:m7 E k r s K=some z):∃s',K s'=some z/\Rel X s' a:=by
 unfold m7 at h
 split at h
 ·exact⟨s,h,hr⟩
 ·obtain⟨s',h1,h2⟩:=N7 hr h
  refine⟨s',?_,h2⟩
  unfold cF at h1
  split at h1
  ·cases h1
  ·exact h1
theorem ae8{C:ah}(hC:C.Nat){k:Nat}{b:Code}(hb:z139 P E C k b){l lx:List Nat}{Q:Exit->Act->World->Prop}{e':Ex}{s':State}{X0:ax}(hF:Fr E X0)(hQ:∀Y a',Ext X0 Y->Rel Y s' a'->Q e'.exit' a' Y.w):
 ∀(n:Nat) (a:Act) (w:World),(∃X s,X.w=w/\Ext X0 X/\Rel X s a/\aB (ev E (C (Ex×State)) k b) l lx n s (fun e s=>some (e,s))=some (e',s'))->
  ∃m,n=m+1/\b.wp P (Exit.then (fun a w=>∃X s,X.w=w/\Ext X0 X/\Rel X s a/\aB (ev E (C (Ex×State)) k b) l lx m s (fun e s=>some (e,s))=some (e',s')) Q) a w:=by
 rintro n a w ⟨X,s,rfl,aZ,hr,h⟩
 cases n with
 |zero=>cases h
 |succ m=>
  refine⟨m,rfl,?_⟩
  simp only[aB] at h
  obtain⟨⟨e1,s2⟩,h1,h2⟩:=jx (ve hC b _ (fun e s=>some (e,s)) (K:=fun z=>match z.1 with
   | .normal=>ru l z.2 fun s=>aB (ev E (C (Ex×State)) k b) l lx m s (fun e s=>some (e,s))
   |e=>ru lx z.2 fun s=>some (e,s)) (fun e s=>by cases e<;>rfl) s) h
  refine hb X0 X s a e1 s2 hF aZ hr h1 _ fun Y a' b7 bq=> ?_
  cases e1 with
  |normal=>
   obtain⟨s3,h3,BU⟩:=N7 bq h2
   exact⟨Y,s3,rfl,b7,BU,h3⟩
  |exit id=>
   obtain⟨s3,h3,BU⟩:=N7 bq h2
   cases h3
   exact hQ Y a' b7 BU
  |ret=>
   obtain⟨s3,h3,BU⟩:=N7 bq h2
   cases h3
   exact hQ Y a' b7 BU
theorem z9e(hE:aq P E)(hm:P.follows .mixedOrders=true){C:ah}(hC:C.Nat)(hf:∀f,cT P C f){id:Nat}{ops:Array Oper}{d:Bool}{X00 X0:ax}{s0:State}{a:Act}{e:Ex}{s':State}(hx:Ext X00 X0)(hr0:Rel X0 s0 a)(h0:En E (C (Ex×State)) id ops d s0 ((fun e s=>some (e,s)) Ex.normal)=some (e,s')){Q:Exit->Act->World->Prop}(hQ0:∀Y a',Ext X00 Y->Rel Y s' a'->Q e.exit' a' Y.w):(Code.region id ops d).wp P Q a X0.w:=by
 unfold En at h0
 obtain⟨X1,s1,Qv,zX,h01,eH⟩:=ai9 hr0 h0
 obtain⟨X,s,uP,b7,h,hr⟩:=znl _ X1 s1 eH h01
 have hw:X.w=X0.w:=uP.trans Qv
 have zV:Ext X0 X:=zX.trans b7
 clear h01 eH Qv uP zX b7
 have hQ:∀Y a',Ext X Y->Rel Y s' a'->Q e.exit' a' Y.w:=fun Y a' aZ bq=>hQ0 Y a' (hx.trans (zV.trans aZ)) bq
 rw[<-hw]
 clear h0 hr0 hQ0 zV hw
 cases d with
 |true=>
  simp only[cond_true] at h
  obtain⟨s1,h1,h2⟩:=jx (Ob hC (F:=fun s=>some (Ex.normal,s)) (G:=some) (K:=fun s=>some (Ex.normal,s)) (fun _=>rfl) ops.toList 0 s []) h
  cases h2
  exact aeQ hE hm hC hf hr h1 hQ
 |false=>
  simp only[cond_false] at h
  obtain⟨s1,h1,h2⟩:=jx (DV hC (F:=fun s=>some (Ex.normal,s)) (G:=some) (K:=fun s=>some (Ex.normal,s)) (fun _=>rfl) ops.toList s) h
  cases h2
  refine wp_region (Mc hE hC hf (List.range ops.size) X s a hr (fun i hi=>List.mem_range.1 hi) ?_ hQ)
  have:(List.range ops.size).map (fun i=>ops.getD i default)=ops.toList:=by
   apply List.ext_getElem?
   intro i
   rw[List.getElem?_map]
   by_cases hi:i<ops.size
   ·simp [hi]
   ·simp [hi]
  rw[this];exact h1
theorem DQ(hE:aq P E)(hm:P.follows .mixedOrders=true){C:ah}(hC:C.Nat)(hf:∀f,cT P C f)(k:Nat):∀c:Code,z139 P E C k c
 | .skip=>fun X0 X s a e s' hF hx hr h Q hQ=>by
   simp only[ev,Option.some.injEq,Prod.mk.injEq] at h
   obtain⟨rfl,rfl⟩:=h
   exact wp_skip (hQ X a hx hr)
 | .region id ops d=>fun X0 X s a e s' hF hx hr h Q hQ=>by
   simp only[ev] at h
   split at h
   ·rename_i j q mc
    cases hj:Nat.beq id j with
    |true=>
     rw[hj,cond_true] at h
     cases d with
     |true=>cases h
     |false=>
      cases hq:Nat.beq q.2.2 0 with
      |true=>
       simp only[hq,cond_true] at h
       obtain⟨s1,h1,h2⟩:=jx (L3 hC (F:=fun s=>some (Ex.normal,s)) (G:=some) (K:=fun s=>some (Ex.normal,s)) (fun _=>rfl)) h
       cases h2
       exact afn hE hC hf (hF (by rw[mc];exact fun e=>by cases e)) hx hr h1 hQ
      |false=>
      simp only[hq,cond_false] at h
      obtain⟨s1,h1,h2⟩:=jx (Me (F:=fun s=>some (Ex.normal,s)) (G:=some) (K:=fun s=>some (Ex.normal,s)) (fun _=>rfl)) h
      cases h2
      exact afJ hE (hF (by rw[mc];exact fun e=>by cases e)) hx hr h1 hQ
    |false=>
     rw[hj,cond_false] at h
     exact z9e hE hm hC hf hx hr h hQ
   ·split at h
    ·exact z9e hE hm hC hf hx hr h hQ
    ·rename_i m l k hsg
     cases hi:Nat.beq id m with
     |true=>
      rw[hi,cond_true] at h
      cases d with
      |true=>cases h
      |false=>
       obtain⟨s1,h1,h2⟩:=jx (M6 hC (F:=fun s=>some (Ex.normal,s)) (G:=some) (K:=fun s=>some (Ex.normal,s)) (fun _=>rfl)) h
       cases h2
       exact aiN hE hC hf hx hr h1 hQ
     |false=>
     rw[hi,cond_false] at h
     cases tz:Nat.beq id l with
     |true=>
      rw[tz,cond_true] at h
      cases d with
      |false=>cases h
      |true=>
       obtain⟨s1,h1,h2⟩:=jx (z173 hC (F:=fun s=>some (Ex.normal,s)) (G:=some) (K:=fun s=>some (Ex.normal,s)) (fun _=>rfl)) h
       cases h2
       exact ae5 hE hm hC hf hx hr h1 hQ
     |false=>
      rw[tz,cond_false] at h
      exact z9e hE hm hC hf hx hr h hQ
 | .seq x y=>fun X0 X s a e s' hF hx hr h Q hQ=>by
   simp only[ev] at h
   obtain⟨⟨e1,s1⟩,h1,h2⟩:=jx (ve hC x _ (fun e s=>some (e,s)) (K:=fun z=>match z.1 with
    | .normal=>m7 E k (ux y) z.2 fun s=>ev E (C (Ex×State)) k y s (fun e s=>some (e,s))
    |e=>some (e,z.2)) (fun e s=>by cases e<;>rfl) s) h
   refine wp_seq (DQ hE hm hC hf k x X0 X s a e1 s1 hF hx hr h1 _ fun Y a' aZ bq=> ?_)
   cases e1 with
   |normal=>
    obtain⟨s2,h2,bq⟩:=aiL bq h2
    exact DQ hE hm hC hf k y X0 Y s2 a' e s' hF aZ bq h2 Q hQ
   |exit id=>cases h2;exact hQ Y a' aZ bq
   |ret=>cases h2;exact hQ Y a' aZ bq
 | .cond c x y=>fun X0 X s a e s' hF hx hr h Q hQ=>by
   simp only[ev] at h
   have hc:=hr.aH c
   split at h
   case h_2=>cases h
   rename_i p w hs
   rw[hs] at hc
   have hv:=NZ hc
   have eH:Rel X (s.av (um c) (bl p)) a:=by
    cases c with
    |tmp i=>
     have hI:s.slot i=[.ak .bool p w]:=by
      have hh:one (s.slot i)= .ak .bool p w:=hs
      match hm:s.slot i,hh with
      | [sv],hh=>have BM:sv= .ak .bool p w:=hh;rw[BM]
      | [],hh=>cases hh
      |_::_::_,hh=>cases hh
     exact(hr.know hI).1
    |_=>exact hr
   refine wp_cond_split hv (fun hp=> ?_) (fun hp=> ?_)
   ·subst hp
    exact DQ hE hm hC hf k x X0 X _ a e s' hF hx eH h Q hQ
   ·subst hp
    exact DQ hE hm hC hf k y X0 X _ a e s' hF hx eH h Q hQ
 | .block id b=>fun X0 X s a e s' hF hx hr h Q hQ=>by
   simp only[ev] at h
   obtain⟨⟨e1,s1⟩,h1,h2⟩:=jx (ve hC b _ (fun e s=>some (e,s)) (K:=fun z=>match z.1 with
    | .exit j=>bif Nat.beq j id then some (.normal,z.2) else some (.exit j,z.2)
    |e=>some (e,z.2)) (fun e s=>by cases e<;>rfl) s) h
   refine wp_block (DQ hE hm hC hf k b X0 X s a e1 s1 hF hx hr h1 _ fun Y a' aZ bq=> ?_)
   cases e1 with
   |normal=>cases h2;exact hQ Y a' aZ bq
   |ret=>cases h2;exact hQ Y a' aZ bq
   |exit j=>
    simp only at h2
    show(if j=id then Q .normal a' Y.w else Q (.exit j) a' Y.w)
    cases hj:Nat.beq j id with
    |true=>
     rw[hj] at h2;cases h2
     rw[if_pos (Nat.eq_of_beq_eq_true hj)]
     exact hQ Y a' aZ bq
    |false=>
     rw[hj] at h2;cases h2
     rw[if_neg (Nat.ne_of_beq_eq_false hj)]
     exact hQ Y a' aZ bq
 | .loop b=>fun X0 X s a e s' hF hx hr h Q hQ=>by
   simp only[ev] at h
   obtain⟨s1,h,eH⟩:=N7 (hr.drop _) h
   exact af0 _ (ae8 hC (DQ hE hm hC hf k b) hF (Q:=Q) hQ) ⟨X,s1,rfl,hx,eH,h⟩
 | .exit id=>fun X0 X s a e s' hF hx hr h Q hQ=>by
   simp only[ev,Option.some.injEq,Prod.mk.injEq] at h
   obtain⟨rfl,rfl⟩:=h
   exact wp_exit (hQ X a hx hr)
 | .ret=>fun X0 X s a e s' hF hx hr h Q hQ=>by
   simp only[ev,Option.some.injEq,Prod.mk.injEq] at h
   obtain⟨rfl,rfl⟩:=h
   exact wp_ret (hQ X a hx hr)
 | .rangeFunc .. =>fun X0 X s a e s' hF hx hr h Q hQ=>by simp only[ev] at h;cases h
 | .scope _=>fun X0 X s a e s' hF hx hr h Q hQ=>by simp only[ev] at h;cases h
 | .label _=>fun X0 X s a e s' hF hx hr h Q hQ=>by simp only[ev] at h;cases h
 | .goto _=>fun X0 X s a e s' hF hx hr h Q hQ=>by simp only[ev] at h;cases h
 | .refuse _=>fun X0 X s a e s' hF hx hr h Q hQ=>by simp only[ev] at h;cases h
end Go.Ref

