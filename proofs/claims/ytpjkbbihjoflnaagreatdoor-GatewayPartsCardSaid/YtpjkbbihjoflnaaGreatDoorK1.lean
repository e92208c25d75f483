/- No condition. -/
import Derived.Test.YtpjkbbihjoflnaaGreatDoorK0
import Derived.WideKeyRuns
import Derived.MapKept
import Derived.Laws.CopyRow
set_option linter.unusedVariables false
set_option linter.unusedSimpArgs false
set_option maxRecDepth 100000
namespace Go.Ref
open Go
variable {P:Program} {E:Env} {X:ax} {s:State} {a:Act} {o:Oper} {u:Out}
inductive Grown(w w':World)(e:TypeId)(k:Nat)(vb v':Value)(cx cy:List Value)(n:Nat):Prop where
 |same (h:w'=w) (hv:v'=vb) (hy:cy=[])
 |room (g cap:Nat) (cur fR:Array Value) (hb:∃m,vb= .slice (some ⟨g,0,none⟩) m cap) (hg:w.heap[g]? =some (.cells cur e (0,0))) (hv:v'= .slice (some ⟨g,0,none⟩) n cap) (hn:n<=cap) (hm:cap<=maxLen)
   (hw:w'=w.setRow g fR) (hs:fR.size=cap*k) (ht:fR.toList.take (n*k)=cx++cy)
 |new (cap:Nat) (fR:Array Value) (hv:v'= .slice (some ⟨w.heap.size,0,none⟩) n cap) (hn:n<=cap) (hm:cap<=maxLen) (hw:w'=w.drew.alloc (.cells fR e)) (hs:fR.size=cap*k) (ht:fR.toList.take (n*k)=cx++cy)
theorem acE(hE:ap P E){T ty e:TypeId}{t:Ty}(hT:E.ty T=some (.sl e t))(hk:0<t.cells)(nA:E.bytes e≠0){xs ys:List (El t)}{vb vx:Value}{pl:Place}
 (bR:bp X pl e t.cells xs.length vb) {cx cy:List Value} (rx:bg X (.arr xs.length t) xs cx) (sx:∀g m c,vb= .slice (some ⟨g,0,none⟩) m c->∀(i:Nat) v,cx[i]? =some v->X.az ((⟨g,0,none⟩:Addr).add i) v)
 (ry:bg X (.arr ys.length t) ys cy) (hvx:∃A c,vx= .slice A ys.length c/\(A=none->ys=[])/\∀ad,A=some ad->∀(i:Nat) v,cy[i]? =some v->X.az (ad.add i) v)
 (hbound:(xs.length+ys.length)*E.bytes e<=140737488355328):
 ∃v' w',(Builtin.append_ #[T,T] ty #[vb,vx]).run P X.w= .ok v' w'/\Grown X.w w' e t.cells vb v' cx cy (xs.length+ys.length)/\(v'= .slice none 0 0->xs.length+ys.length=0):=by
 obtain⟨hu,he⟩:=(hE.ty T _ hT).dj
 obtain⟨i,hi,b6,fV,hz⟩:=(hE.ty e t he).info
 have hzs:(dL t (zp t)).cells.size=t.cells:=by rw[vm (rZ X t)];simp [uP]
 have xf:cx.length=xs.length*t.cells:=rx.2.1
 have tT:cy.length=ys.length*t.cells:=ry.2.1
 have h1:∀u∈cy,u.oneCell'=true:=ry.one
 have hle:xs.length+ys.length<=140737488355328:=Nat.le_trans (Nat.le_mul_of_pos_right _ (Nat.pos_of_ne_zero nA)) hbound
 have Ab:xs.length+ys.length<=maxLen:=by simp only[maxLen];omega
 obtain⟨A,c,rfl,hA,FF⟩:=hvx
 cases A with
 |none=>
  have uh:=hA rfl
  subst uh
  have YD:cy=[]:=List.eq_nil_of_length_eq_zero (by simpa using tT)
  subst YD
  rcases bR with⟨rfl,hn⟩|⟨g,cap,cur,rfl,hg,JB,rN,ey,how⟩
  ·refine⟨.slice none 0 0,X.w,?_,.same rfl rfl rfl,fun _=>by simp [hn]⟩
   simp [Builtin.append_,run_underlying hu,sizeOf,typeInfo,hi,Builtin.lenOf,Builtin.firstCells]
  ·refine⟨_,X.w,?_,.same rfl rfl rfl,fun e=>by cases e⟩
   simp [Builtin.append_,run_underlying hu,sizeOf,typeInfo,hi,Builtin.lenOf,Builtin.firstCells,JB,storeCells]
 |some ad=>
  have YV:∀j u,cy[j]? =some u->X.w.cell? (ad.add j)=some u:=fun j u hj=>(FF ad rfl j u hj).2.1
  have lU:∀(old:Nat),(cx.toArray++cy.toArray++Builtin.zeroCells (dL t (zp t)).cells (grownCap X.w (xs.length+ys.length) old e-(xs.length+ys.length))).size=grownCap X.w (xs.length+ys.length) old e*t.cells/\
   (cx.toArray++cy.toArray++Builtin.zeroCells (dL t (zp t)).cells (grownCap X.w (xs.length+ys.length) old e-(xs.length+ys.length))).toList.take ((xs.length+ys.length)*t.cells)=cx++cy:=by
   intro old
   have Rg:=grownCap_ge X.w (xs.length+ys.length) old e
   refine⟨?_,?_⟩
   ·simp only[Array.size_append,List.size_toArray,size_zeroCells,hzs,xf,tT,<-Nat.add_mul]
    congr 1
    omega
   ·have hl:(cx++cy).length=(xs.length+ys.length)*t.cells:=by rw[List.length_append,xf,tT,Nat.add_mul]
    rw[<-hl]
    simp only[Array.toList_append]
    exact List.take_left
  rcases bR with⟨rfl,hn⟩|⟨g,cap,cur,rfl,hg,JB,rN,ey,how⟩
  ·have wZ:cx=[]:=List.eq_nil_of_length_eq_zero (by rw[xf,hn,Nat.zero_mul])
   subst wZ
   by_cases hm:ys.length=0
   ·have YD:cy=[]:=List.eq_nil_of_length_eq_zero (by rw[tT,hm,Nat.zero_mul])
    subst YD
    refine⟨.slice none 0 0,X.w,?_,.same rfl rfl rfl,fun _=>by omega⟩
    simp [Builtin.append_,run_underlying hu,sizeOf,typeInfo,hi,Builtin.lenOf,Builtin.firstCells,hm,loadCells,loadCellsFrom]
   ·have Av:xs.length=0:=hn
    rw[Av,Nat.zero_add] at hbound hle Ab
    have hr:=run_append_nil (P:=P) X.w T ty e i (dL t (zp t)) hu hi hz ad ys.length c cy (by rw[b6];exact tT) YV (by omega) (by omega) (by rw[fV];omega)
    obtain⟨c1,c2⟩:=lU 0
    have Rg:=grownCap_ge X.w (xs.length+ys.length) 0 e
    have rN:=grownCap_le_maxLen X.w (xs.length+ys.length) 0 e (by rw[Av,Nat.zero_add];exact Ab)
    refine⟨_,_,hr,.new (grownCap X.w (xs.length+ys.length) 0 e) _ (by rw[Av,Nat.zero_add]) Rg rN ?_ c1 c2,fun e=>by cases e⟩
    rw[Av,Nat.zero_add]
    simp
  ·by_cases m8:xs.length+ys.length<=cap
   ·have dd:xs.length*i.size+cy.length<=cur.size:=by rw[b6,tT,ey,<-Nat.add_mul];exact Nat.mul_le_mul_right _ m8
    have hr:=run_append_room (P:=P) X.w T ty e i hu hi g xs.length cap cur hg ad ys.length c cy (by rw[b6];exact tT) YV h1 m8 dd
    refine⟨_,_,hr,.room g cap cur _ ⟨_,rfl⟩ hg rfl m8 rN rfl ?_ ?_,fun e=>by cases e⟩
    ·simp only[List.size_toArray,List.length_append,List.length_take,List.length_drop,Array.length_toList]
     omega
    ·have m9:cur.toList.take (xs.length*i.size)=cx:=by
      rw[b6]
      apply List.ext_getElem?
      intro q
      by_cases hq:q<xs.length*t.cells
      ·rw[List.getElem?_take,if_pos hq]
       have JV:=List.getElem?_eq_getElem (l:=cx) (i:=q) (by rw[xf];exact hq)
       have:=(sx g _ _ rfl q _ JV).2.1
       rw[iC,Nat.zero_add] at this
       simp only[World.cell?,hg] at this
       rw[JV]
       simpa using this
      ·rw[List.getElem?_eq_none (by rw[List.length_take];omega),List.getElem?_eq_none (by omega)]
     have hl:(cx++cy).length=(xs.length+ys.length)*t.cells:=by rw[List.length_append,xf,tT,Nat.add_mul]
     rw[m9,<-hl]
     simp only[List.take_left]
   ·have holds:∀j u,cx[j]? =some u->X.w.cell? ((⟨g,0,none⟩:Addr).add j)=some u:=fun j u hj=>(sx g _ _ rfl j u hj).2.1
    have hr:=run_append_grow (P:=P) X.w T ty e i (dL t (zp t)) hu hi hz ⟨g,0,none⟩ xs.length cap cx (by rw[b6];exact xf) holds ad ys.length c cy (by rw[b6];exact tT) YV (by omega) (by omega) (growslice_fits (by omega) (by rw[fV];exact hbound))
    obtain⟨c1,c2⟩:=lU cap
    exact⟨_,_,hr,.new _ _ rfl (grownCap_ge _ _ _ _) (grownCap_le_maxLen _ _ _ _ Ab) rfl c1 c2,fun e=>by cases e⟩
theorem bp.Yp{X:ax}{s:State}{pl:Place}{e:TypeId}{k n:Nat}{v:Value}(h:bp X pl e k n v)(hf:¬cU s pl)(q:Place):∃Y,dS s X Y/\bp Y q e k n v:=by
 rcases h with h|⟨g,cap,cur,h1,h2,h3,h4,h5,h6⟩
 ·exact⟨X,dS.refl s X,.inl h⟩
 ·refine⟨{X with ow:=fun g'=>if g'=g then .row q (n*k) else X.ow g'},⟨rfl,rfl,fun g'=> ?_⟩,.inr ⟨g,cap,cur,h1,h2,h3,h4,h5,by simp⟩⟩
  by_cases e:g'=g
  ·subst e;exact .inr ⟨pl,_,q,h6,hf,by simp⟩
  ·exact .inl (by simp [e])
theorem an1{R:Type}{t t':Ty}{x:El t'}{w:List (List Nat)}{K:El t->Option R}{z:R}(h:(SV.aj t' x w).el t K=some z):∃he:t'.cp t=true,K (Ty.cast he x)=some z:=by
 simp only[SV.el] at h
 split at h
 ·rename_i he;exact⟨he,h⟩
 ·cases h
theorem ab0(hE:ap P E)(hr:Rel X s a){ops:List Oper}{dH:Array Operand}{ts:Array TypeId}(ho:o.op= .call ⟨.builtin .append,dH,ts⟩){C:FuncId->bU Out}(h:act E C ops o s some=some u):aH P X s a o u:=by
 unfold act at h
 simp only[ho] at h
 split at h
 case h_2=>cases h
 rename_i b x T U rS BK
 have has:dH= #[b,x]:=by rw[<-Array.toArray_toList (xs:=dH),rS]
 have kq:ts= #[T,U]:=by rw[<-Array.toArray_toList (xs:=ts),BK]
 subst has kq
 have hb:=hr.aG b
 have hx:=hr.aG x
 unfold P3 at h
 split at h
 case isTrue=>cases h
 rename_i hTU
 have hTU:T=U:=by
  have:T.beq U=true:=by cases tH:Nat.beq T U<;>simp_all
  exact Nat.eq_of_beq_eq_true this
 subst hTU
 split at h
 case h_2=>cases h
 rename_i e t hT
 split at h
 case isTrue=>cases h
 rename_i h0
 have h0:Nat.beq (E.bytes e) 0=false/\Nat.beq t.cells 0=false:=by
  cases h1:Nat.beq (E.bytes e) 0<;>cases h2:Nat.beq t.cells 0<;>simp_all
 have nA:E.bytes e≠0:=fun e0=>by rw[e0] at h0;simp at h0
 have hk:0<t.cells:=by
  rcases Nat.eq_zero_or_pos t.cells with e0|e0
  ·rw[e0] at h0;simp at h0
  ·exact e0
 have key:∀(xs ys:List (El t)) (cl:List (Nat×Nat)) (pl:Place),¬cU (s.close cl) pl->bp X pl e t.cells xs.length (a.eval b)->bg X (.sl e t) xs [a.eval b]->bg X (.sl e t) ys [a.eval x]->
  (xs.length+ys.length)*E.bytes e<=140737488355328->aH P X s a o {v:=[.aj (.sl e t) (xs++ys:List (El t)) [[]]],cl:=cl}:=by
  intro xs ys cl pl FD bR Cv lu hbound
  obtain⟨A1,c1,As,AG⟩:=Cv
  have e1:a.eval b= .slice A1 xs.length c1:=by simpa using As
  obtain⟨A2,c2,JT,Kj⟩:=lu
  have e2:a.eval x= .slice A2 ys.length c2:=by simpa using JT
  obtain⟨_,_,cx,rx,_,sx⟩:=zaq (X:=X) (e:=e) (show bg X (.sl e t) xs [.slice A1 xs.length c1] from⟨A1,c1,rfl,AG⟩)
  obtain⟨_,_,cy,ry,ny,sy⟩:=zaq (X:=X) (e:=e) (show bg X (.sl e t) ys [.slice A2 ys.length c2] from⟨A2,c2,rfl,Kj⟩)
  have sx':∀g m c,a.eval b= .slice (some ⟨g,0,none⟩) m c->∀(i:Nat) v,cx[i]? =some v->X.az ((⟨g,0,none⟩:Addr).add i) v:=by
   intro g m c hv
   rw[e1] at hv
   injection hv with hA
   exact sx _ hA
  obtain⟨v',w',aV,BU,tX⟩:=acE (ty:=o.type) hE hT hk nA bR rx sx' ry ⟨A2,c2,e2,ny,sy⟩ hbound
  have xf:cx.length=xs.length*t.cells:=rx.2.1
  have tT:cy.length=ys.length*t.cells:=ry.2.1
  have JL:(execOp a.eval o).run P X.w= .ok (.value v') w':=by
   simp only[execOp,ho,resolve,invoke,builtin,Sem.run_bind,Sem.run_pure,Result.andThen_ok,List.map_toArray,List.map_cons,List.map_nil,aV]
  have fin:∀(Y:ax),Y.w=w'->Mod (s.close cl) X Y->bg Y (.arr (xs.length+ys.length) t) (xs++ys:List (El t)) (cx++cy)->bp Y (.c (o.dst.getD 0) 0 []) e t.cells (xs.length+ys.length) v'->
   bg Y (.sl e t) (xs++ys:List (El t)) [v']->aH P X s a o {v:=[.aj (.sl e t) (xs++ys:List (El t)) [[]]],cl:=cl}:=by
   intro Y hY hm eW YX B8
   refine⟨Y,v',.inl (by rw[hY];exact JL),hm.ext,((hr.close cl).mod hm).fin ⟨[v'],B8,rfl,NQ ?_⟩ (fun id t p FC=>by simp at FC)⟩
   rw[List.length_append]
   exact YX
  cases BU with
  |same h1 h2 h3=>
   subst h2
   have hy0:ys=[]:=by
    have:ys.length=0:=by
     rcases Nat.mul_eq_zero.1 (show ys.length*t.cells=0 by rw[<-tT,h3];rfl) with h|h
     ·exact h
     ·omega
    exact List.eq_nil_of_length_eq_zero this
   subst hy0
   obtain⟨Y,mj,hO2⟩:=bp.Yp (s:=s.close cl) bR FD (.c (o.dst.getD 0) 0 [])
   refine fin Y (by rw[mj.w,h1]) mj.mod ?_ (by simpa using hO2) ?_
   ·have:=(FT rx ry)
    exact this.ai (fun _ _=>mj.az.1)
   ·rw[List.append_nil]
    exact bg.ai (fun _ _=>mj.az.1) (show bg X (.sl e t) xs [a.eval b] from⟨A1,c1,As,AG⟩)
  |new cap fR hv hn hm hw hs ht=>
   let Y:ax:=⟨w',fun g=>if g=X.w.heap.size then .row (.c (o.dst.getD 0) 0 []) ((xs.length+ys.length)*t.cells) else X.ow g,X.β⟩
   have xd:eJ (s.close cl) X Y:=⟨by simp [Y,hw],by simp only[Y,hw];rfl,by simp only[Y,hw];rfl,by simp only[Y,hw];rfl,fun g hg=>⟨by simp only[Y];rw[if_neg (by omega)],by simp only[Y,hw];exact RowKit.Below.heap_alloc _ _ _ hg⟩,rfl,fun _ _ _=>rfl⟩
   have aD:Y.w.heap[X.w.heap.size]? =some (.cells fR e (0,0)):=by simp only[Y,hw];exact heap_alloc_new X.w.drew _
   have how:Y.ow X.w.heap.size= .row (.c (o.dst.getD 0) 0 []) ((xs.length+ys.length)*t.cells):=by simp [Y]
   have aL:=(FT rx ry).ai (fun _ _=>xd.az)
   refine fin Y rfl xd.mod aL (.inr ⟨_,cap,fR,hv,aD,hn,hm,hs,how⟩) ?_
   rw[hv,<-List.length_append]
   exact zih (cs:=cx++cy) aD (by rw[List.length_append];exact how) (by rw[List.length_append];exact ht) (by rw[List.length_append];exact aL) (by rw[List.length_append];exact hn)
  |room g cap cur fR lT hg hv hn hm hw hs ht=>
   obtain⟨m,BL⟩:=lT
   rcases bR with⟨hz,_⟩|⟨g',wS,I6,iX,Fy,JB,rN,ey,how⟩
   ·rw[hz] at BL;cases BL
   have BT:g'=g:=by rw[BL] at iX;injection iX with h1;injection h1 with h1;injection h1 with h1;exact h1.symm
   subst BT
   have YC:I6=cur:=by rw[hg] at Fy;cases Fy;rfl
   subst YC
   have aq:=vv hg
   let Y:ax:=⟨w',fun k=>if k=g' then .row (.c (o.dst.getD 0) 0 []) ((xs.length+ys.length)*t.cells) else X.ow k,X.β⟩
   have aD:Y.w.heap[g']? =some (.cells fR e (0,0)):=by simp only[Y,hw];exact setRow_heap X.w g' I6 fR e (0,0) hg
   have oe:Y.ow g'= .row (.c (o.dst.getD 0) 0 []) ((xs.length+ys.length)*t.cells):=by simp [Y]
   have ea:∀ad v,X.az ad v->Y.az ad v:=by
    intro ad v jz
    by_cases heq:ad.block=g'
    ·obtain⟨k1,k2,k3⟩:=jz
     rw[heq,how] at k3
     have k3:ad.off<xs.length*t.cells:=k3
     have had:ad=(⟨g',0,none⟩:Addr).add ad.off:=by rw[iC,Nat.zero_add];cases ad;simp_all
     have JV:=List.getElem?_eq_getElem (l:=cx) (i:=ad.off) (by rw[xf];exact k3)
     have wZ:=(sx' g' _ _ BL ad.off _ JV).2.1
     rw[<-had,k2] at wZ
     refine⟨k1,?_,?_⟩
     ·have hq:fR.toList[ad.off]? =some v:=by
       have:=congrArg (fun l=>l[ad.off]?) ht
       simp only[List.getElem?_take] at this
       have hle:xs.length*t.cells<=(xs.length+ys.length)*t.cells:=Nat.mul_le_mul_right _ (Nat.le_add_right _ _)
       rw[if_pos (by omega),List.getElem?_append_left (by rw[xf];exact k3),JV] at this
       rw[this];exact wZ.symm
      simp only[World.cell?,heq,aD,k1]
      simpa using hq
     ·rw[heq,oe]
      have hle:xs.length*t.cells<=(xs.length+ys.length)*t.cells:=Nat.mul_le_mul_right _ (Nat.le_add_right _ _)
      show ad.off<_
      omega
    ·refine⟨jz.1,?_,?_⟩
     ·have:=jz.2.1
      simp only[World.cell?,Y,hw] at this⊢
      rw[setRow_other X.w g' ad.block fR heq]
      exact this
     ·simp only[Y]
      rw[if_neg heq]
      exact jz.2.2
   have B6:Mod (s.close cl) X Y:=⟨ea,by simp [Y,hw],by simp only[Y,hw];rfl,by simp only[Y,hw];rfl,by simp only[Y,hw];rfl,rfl,fun _ _ _=>rfl,fun k hk=>by
    by_cases heq:k=g'
    ·subst heq;exact .inr ⟨pl,_,how,FD⟩
    ·refine .inl ⟨by simp only[Y];rw[if_neg heq],?_⟩
     simp only[Y,hw]
     exact setRow_other X.w g' k fR heq⟩
   have aL:=(FT rx ry).ai ea
   refine fin Y rfl B6 aL (.inr ⟨_,cap,fR,hv,aD,hn,hm,hs,oe⟩) ?_
   rw[hv,<-List.length_append]
   exact zih (cs:=cx++cy) aD (by rw[List.length_append];exact oe) (by rw[List.length_append];exact ht) (by rw[List.length_append];exact aL) (by rw[List.length_append];exact hn)
 split at h
 ·rename_i iT
  rw[iT] at hb
  obtain⟨ys,h,uh⟩:=zy h
  cases hd:decide (List.length ys*E.bytes e<=140737488355328) with
  |false=>rw[hd] at h;cases h
  |true=>
   rw[hd] at h
   cases h
   obtain⟨cs,lu,ev⟩:=uh X _ _ hx
   have BL:a.eval b= .slice none 0 0:=hb
   have tZ:cs=[a.eval x]:=by
    obtain⟨A,c,ey,_⟩:=lu
    rw[ev,ey];rfl
   have:=key [] ys [] (.r 0 []) (fun hf=>hf) (.inl ⟨BL,rfl⟩) (by rw[BL];exact⟨none,0,rfl,Nat.le_refl _,fun j x hj=>by simp at hj⟩) (by rw[<-tZ];exact lu) (by simpa using of_decide_eq_true hd)
   simpa using this
 ·rename_i t' xs0 xu iT
  rw[iT] at hb
  split at h
  case isTrue=>cases h
  rename_i Jm
  have Jm:gA xu []=true:=by cases tH:gA xu []<;>simp_all
  obtain⟨heq,h⟩:=an1 h
  have:=Ty.aI heq
  subst this
  obtain⟨ys,h,uh⟩:=zy h
  cases hd:decide ((List.length (Ty.cast heq xs0)+List.length ys)*E.bytes e<=140737488355328) with
  |false=>rw[hd] at h;cases h
  |true=>
   rw[hd] at h
   cases h
   obtain⟨cs,lu,ev⟩:=uh X _ _ hx
   have cE:=AR Jm
   obtain⟨i,rfl⟩:=amr iT (fun e=>by rw[e] at cE;cases cE)
   obtain⟨cs1,r1,Rd,hO⟩:=hb
   have tZ:cs=[a.eval x]:=by
    obtain⟨A,c,ey,_⟩:=lu
    rw[ev,ey];rfl
   have An:cs1=[a.eval (.tmp i)]:=by
    obtain⟨A,c,ey,_⟩:=r1
    rw[Rd,ey];rfl
   obtain⟨e',t'',xs',v',_,g1,g2,g3⟩:=hO [] cE
   simp only[El.get,Option.some.injEq,Sigma.mk.injEq,Ty.sl.injEq] at g1
   obtain⟨⟨rfl,rfl⟩,g1⟩:=g1
   cases g1
   have iX:v'=a.eval (.tmp i):=by
    rw[An] at g2
    simpa [Ty.off] using g2.symm
   rw[iX] at g3
   exact key xs0 ys [(i,0)] (.c i 0 []) cU.close g3 (by rw[<-An];exact r1) (by rw[<-tZ];exact lu) (of_decide_eq_true hd)
 ·cases h
end Go.Ref

namespace Go.Ref
open Go
variable {P:Program} {E:Env} {X:ax} {s:State} {a:Act} {o:Oper} {u:Out}
def ax.obj(X:ax)(r:Nat)(b:Obj):ax:={X with w:={X.w with heap:=X.w.heap.setIfInBounds r b}}
theorem FY{r g:Nat}{b:Obj}(h:g≠r):(X.obj r b).w.heap[g]? =X.w.heap[g]? :=by
 simp [ax.obj,Ne.symm h]
theorem MF{r:Nat}{b b':Obj}(h:X.w.heap[r]? =some b'):(X.obj r b).w.heap[r]? =some b:=(MapKept.heap_set h).1
theorem Es{r id:Nat}{b:Obj}(h:X.ow r= .box id){ad:Addr}{v:Value}(hs:X.az ad v):(X.obj r b).az ad v:=by
 have bI:ad.block≠r:=fun e=>by
  have:=hs.2.2
  rw[e,h] at this
  exact this
 refine⟨hs.1,?_,hs.2.2⟩
 have:=hs.2.1
 simp only[World.cell?] at this⊢
 rw[FY bI]
 exact this
theorem NO{r id:Nat}{b:Obj}(h:X.ow r= .box id):Ext X (X.obj r b) where
 az:=fun _ _=>Es h
 size:=by simp [ax.obj]
 os:=rfl
 tape:=rfl
 output:=rfl
 β0:=rfl
 still:=fun g _ bS=>by
  have bI:g≠r:=fun e=>by rw[e,h] at bS;exact bS
  exact⟨rfl,FY bI⟩
theorem bp.obj{r id:Nat}{b:Obj}(h:X.ow r= .box id){pl:Place}{e:TypeId}{k n:Nat}{v:Value}(ho:bp X pl e k n v):bp (X.obj r b) pl e k n v:=by
 rcases ho with ho|⟨g,cap,cur,h1,h2,h3,h4,h5,h6⟩
 ·exact .inl ho
 ·have bI:g≠r:=fun e=>by rw[e,h] at h6;cases h6
  exact .inr ⟨g,cap,cur,h1,(FY bI).trans h2,h3,h4,h5,h6⟩
theorem bk.obj{r id:Nat}{b:Obj}(h:X.ow r= .box id){pl:List Nat->Place}{t:Ty}{x:El t}{c:List Value}{own:List (List Nat)}(ho:bk X pl t x c own):bk (X.obj r b) pl t x c own:=fun p hp=>by
 obtain⟨e,t',xs,v,g0,g1,g2,g3⟩:=ho p hp
 exact⟨e,t',xs,v,g0,g1,g2,g3.obj h⟩
theorem aA.obj{r id:Nat}{b:Obj}(h:X.ow r= .box id){pl:List Nat->Place}{sv:SV}{v:Value}(hk:∀bc c d j,sv= .bz bc c d j->bc≠id)(hr:aA X pl sv v):aA (X.obj r b) pl sv v:=by
 cases sv with
 |aj t x own=>
  obtain⟨c,h1,h2,h3⟩:=hr
  exact⟨c,h1.ai (fun _ _=>Es h),h2,h3.obj h⟩
 |view t x=>
  obtain⟨ad,c,h1,h2,h3,h4⟩:=hr
  exact⟨ad,c,h1,h2,h3.ai (fun _ _=>Es h),fun i u hi=>Es h (h4 i u hi)⟩
 |cap f t x u y=>exact rC (fun _ _=>Es h) hr
 |bz bc c d j=>
  obtain⟨r',h1,h2,h3⟩:=hr
  have bI:r'≠r:=fun e=>by rw[e,h] at h2;injection h2 with h2;exact hk bc c d j rfl h2.symm
  refine⟨r',h1,h2,?_⟩
  simp only[World.cell?] at h3⊢
  rw[show(X.obj r b).w.heap[r']? =X.w.heap[r']? from FY bI];exact h3
 |_=>exact hr
theorem Rel.obj{r id:Nat}{B B':bB}{b:Obj}(hr:Rel X s a)(hb:s.bs[id]? =some (some B))(hβ:X.β id=some r)(h:X.ow r= .box id)(hB:bC (X.obj r b) id r B')(hg:B.t.eF=false\/ []∈B.own):Rel (X.obj r b) (s.aC (some (id,B'))) a where
 size:=hr.size
 gB:=by simpa [State.aC] using hr.gB
 bP:=fun i l v hl hv=>(hr.bP i l v hl hv).iJ fun j sv u hm jz=>jz.obj h (fun bc c d k e e2=>hr.om hb hg i l c d k hl (e2▸e▸List.mem_of_getElem? hm))
 boxes:=fun bc B2 cT=>by
  have aq:id<s.bs.length:=(List.getElem?_eq_some_iff.1 hb).1
  simp only[State.aC,List.getElem?_set] at cT
  by_cases e:id=bc
  ·subst e
   rw[if_pos rfl,if_pos aq] at cT
   cases cT;exact⟨r,hβ,hB⟩
  ·rw[if_neg e] at cT
   obtain⟨r',h1,h4,h2⟩:=hr.boxes bc B2 cT
   have bI:r'≠r:=fun e2=>by rw[e2,h] at h4;cases h4;exact e rfl
   exact⟨r',h1,h4,h2.move (fun _ _=>Es h) (FY bI) (fun cs h5=>h5.obj h) fun _ _ g o _ ho hw=>⟨(FY (fun e3=>by rw[e3,h] at hw;cases hw)).trans ho,hw⟩⟩
 live:=fun i l bc t p hi hm=>by
  have aq:id<s.bs.length:=(List.getElem?_eq_some_iff.1 hb).1
  obtain⟨B2,cT⟩:=hr.live i l bc t p hi hm
  simp only[State.aC,List.getElem?_set]
  by_cases e:id=bc
  ·subst e;exact⟨B',by rw[if_pos rfl,if_pos aq]⟩
  ·rw[if_neg e];exact⟨B2,cT⟩
 defers:=hr.defers
 bz:=hr.bz.aC (hr.om hb hg)
def ax.kF(X:ax)(b:Obj)(w:Ow)(β:Nat->Option Nat):ax:={w:=X.w.alloc b,ow:=fun g=>if g=X.w.heap.size then w else X.ow g,β}
theorem Lr(X:ax)(s:State)(b:Obj)(w:Ow)(β:Nat->Option Nat)(hβ0:β 0=X.β 0)(hβ:∀(id:Nat) B,s.bs[id]? =some (some B)->β id=X.β id):eJ s X (X.kF b w β) where
 size:=by simp [ax.kF]
 os:=rfl
 tape:=rfl
 output:=rfl
 mQ:=fun g hg=>⟨by simp only[ax.kF];rw[if_neg (by omega)],RowKit.Below.heap_alloc _ _ _ hg⟩
 β0:=hβ0
 β:=hβ
theorem zho(hr:Rel X s a){t p:Ty}{x:El t}{b:Obj}{v:Value}(aV:(execOp a.eval o).run P X.w= .ok (.value v) (X.w.alloc b))
 (Jn:∀Y:ax,(∀ad v,X.az ad v->Y.az ad v)->Y.w.heap[X.w.heap.size]? =some b->∀pl,dp Y X.w.heap.size pl t x []) (oi:np p [] X.w.heap.size v) (h:kd s o.dst t x p some=some u):aH P X s a o u:=by
 unfold kd at h
 split at h
 case h_2=>cases h
 rename_i d hd
 split at h
 case h_2=>cases h
 rename_i hb
 cases h
 let β:Nat->Option Nat:=fun id=>if id=d+1 then some X.w.heap.size else X.β id
 have aq:d+1<s.bs.length:=(List.getElem?_eq_some_iff.1 hb).1
 have hk:eJ s X (X.kF b (.box (d+1)) β):=Lr X _ _ _ _ (by show(if _ then _ else _)=_;rw[if_neg (by omega)]) (fun id B hB=>by
  show(if id=d+1 then _ else _)=_
  rw[if_neg (fun e=>by rw[e,hb] at hB;cases hB)])
 have bG:bC (X.kF b (.box (d+1)) β) (d+1) X.w.heap.size ⟨t,x,[]⟩:=⟨by simp [ax.kF],Jn _ (fun _ _=>hk.az) (heap_alloc_new X.w _) _⟩
 have hβd:β (d+1)=some X.w.heap.size:=by show(if d+1=d+1 then _ else _)=_;rw[if_pos rfl]
 have eW:=(hr.dm hk).fj aq hb hβd bG
 refine⟨X.kF b (.box (d+1)) β,v,.inl aV,hk.ext,?_⟩
 rw[hd]
 refine eW.put (fun d' e=> ?_) (fun id t' q hm=> ?_)
 ·cases e
  exact⟨X.w.heap.size,hβd,oi⟩
 ·have:id=d+1:=by have:=hm;simp at this;exact this.1
  subst this
  exact⟨⟨t,x,[]⟩,by simp [State.aC,List.getElem?_set,aq]⟩
def j7:(t:Ty)->El t->Value
 | .bool,b=> .bool b
 | .int k,n=> .int k n
 | .str,x=> .string x
 |_,_=>Go.undef
def Ty.iq:Ty->Bool
 | .bool| .int _| .str=>true
 |_=>false
theorem zql{t:Ty}(hk:t.iq=true){x:El t}{v:Value}(h:ew X t x v):v=j7 t x:=by
 obtain⟨cs,h1,h2⟩:=h
 cases t<;>simp [Ty.iq] at hk
 ·rw[h2,vr h1];rfl
 ·rw[h2,lB h1];rfl
 ·rw[h2,nw h1];rfl
theorem Oz{T:TypeId}{t:Ty}(hE:ap P E)(hT:E.ty T=some t)(hk:t.iq=true)(x:El t):∃d,P.underlying T=some d/\MapKept.IsKey d (j7 t x)/\∀y,Instr.sameNow d (j7 t x) (j7 t y)=some (fT t x y):=by
 have hu:=(hE.ty T t hT).dj
 cases t<;>simp [Ty.iq] at hk
 ·have hu:P.underlying T=some .bool:=hu
  exact⟨_,hu,trivial,fun y=>by cases x<;>cases y<;>rfl⟩
 ·have hu:P.underlying T=some (.int _):=hu
  refine⟨_,hu,by simp [MapKept.IsKey,j7],fun y=> ?_⟩
  simp only[Instr.sameNow,j7,if_true,fT]
  congr 1
 ·have hu:P.underlying T=some .string:=hu
  refine⟨_,hu,trivial,fun y=> ?_⟩
  simp only[Instr.sameNow,j7,fT]
  congr 1
  by_cases e:x=y
  ·rw[decide_eq_true e];exact(MapKept.bytes_beq _ _).2 e
  ·rw[decide_eq_false e]
   cases hb:(x==y) with
   |false=>rfl
   |true=>exact absurd ((MapKept.bytes_beq _ _).1 hb) e
theorem Mj{kt vt:Ty}{d:TypeDesc}{k:El kt}(hk:kt.iq=true)(hs:∀y,Instr.sameNow d (j7 kt k) (j7 kt y)=some (fT kt k y)):∀(es:List MapEntry) (xs:List (El kt×El vt)) (i:Nat),es.length=xs.length->
 (∀(i:Nat) q e,xs[i]? =some q->es[i]? =some e->ew X kt q.1 e.key/\ew X vt q.2 e.val)->
 (fa (fT kt) xs k=false/\eZ (fT kt) (El.bT vt) xs k=El.bT vt/\Instr.findNow d (j7 kt k) es i=some none)\/(fa (fT kt) xs k=true/\∃j v,Instr.findNow d (j7 kt k) es i=some (some (j,v))/\ew X vt (eZ (fT kt) (El.bT vt) xs k) v)
 | [],[],i,_,_=> .inl ⟨rfl,rfl,rfl⟩
 |e::es,q::xs,i,hl,hp=>by
  obtain⟨h1,h2⟩:=hp 0 q e rfl rfl
  have hke:=zql hk h1
  have iW:=hs q.1
  rw[<-hke] at iW
  simp only[Instr.findNow,iW,fa,eZ]
  cases heq:fT kt k q.1 with
  |true=>exact .inr ⟨rfl,i,e.val,rfl,h2⟩
  |false=>exact Mj hk hs es xs (i+1) (by simpa using hl) (fun i q e hq he=>hp (i+1) q e (by simpa using hq) (by simpa using he))
 | [],_::_,_,hl,_=>by simp at hl
 |_::_,[],_,hl,_=>by simp at hl
theorem zv8:∀{t:Ty},t.gR=true->t.depth<=2
 | .unit,_=>by decide
 | .pair (.int _) b,h=>by
   have:=zv8 (t:=b) h
   simp only[Ty.depth];omega
theorem NH:∀{t:Ty},t.gR=true->∀x y:El t,dC t x y=some (va t x y)
 | .unit,_,_,_=>rfl
 | .pair (.int _) b,h,x,y=>by
   have:=NH (t:=b) h x.2 y.2
   simp only[dC,this,va]
theorem gL(hE:ap P E){xs:Array Value}(w:World)(em:Bool)(n:Nat):
 ∀(fl:List Field) (t:Ty) (off:Nat),jh E fl t off->t.gR=true->∀(x:El t) (c1:List Value),bg X t x c1->(xs.toList.drop off).take t.cells=c1->
  (forIn fl () fun(f:Field) (_:Unit)=>(if f.name≠ "_" then do
    let __do_lift<-part f.type xs f.offset
    Instr.checkKey em (n+1) f.type __do_lift
    pure (ForInStep.yield ()) else pure (ForInStep.yield ()):Sem (ForInStep Unit))).run P w= .ok () w:=by
 intro fl
 induction fl with
 |nil=>intro t off hf hi x c1 h1 h3;simp [List.forIn_nil]
 |cons f fl Zs=>
  intro t off hf hi x c1 h1 h3
  cases t<;>simp only[jh] at hf<;>try exact hf.elim
  rename_i ta tb
  obtain⟨ho,FG,hn,bE⟩:=hf
  obtain⟨ca,cb,e1,ra,rb⟩:=h1
  have la:=ra.len
  have t1:(xs.toList.drop off).take ta.cells=ca:=by
   have:=congrArg (fun l=>l.take ta.cells) (h3.trans e1)
   simp only[List.take_take,Ty.cells] at this
   rw[Nat.min_eq_left (Nat.le_add_right _ _),<-la,List.take_left] at this
   rw[<-la];exact this
  have u1:(xs.toList.drop (off+ta.cells)).take tb.cells=cb:=by
   have:=congrArg (fun l=>l.drop ta.cells) (h3.trans e1)
   simp only[Ty.cells] at this
   rw[List.drop_take,Nat.add_sub_cancel_left,List.drop_drop,<-la,List.drop_left] at this
   rw[<-la];exact this
  have og:=Et hE FG ra (all:=xs) (off:=f.offset) (by rw[ho];exact t1) w
  cases ta<;>simp [Ty.gR] at hi
  rename_i k
  have hu:P.underlying f.type=some (.int k):=(hE.ty f.type _ FG).dj
  have Fv:(Instr.checkKey em (n+1) f.type (dL (.int k) ca)).run P w= .ok () w:=by
   rw[lB ra]
   exact MapKept.run_checkKey hu (by simp [MapKept.IsKey]) em n
  rw[List.forIn_cons]
  simp only[hn,ne_eq,not_false_eq_true,if_true,Sem.run_bind,og,Fv,Result.andThen_ok,Sem.run_pure]
  exact Zs tb _ bE hi x.2 cb rb u1
theorem Ls{T:TypeId}{t:Ty}(hE:ap P E)(hT:E.ty T=some t)(hk:t.isKey=true){x:El t}{v:Value}(h:ew X t x v)(em:Bool)(w:World):(Instr.checkKey em 10000 T v).run P w= .ok () w:=by
 cases h1:t.iq with
 |true=>
  obtain⟨d,hd,Rh,_⟩:=Oz hE hT h1 x
  rw[zql h1 h]
  exact MapKept.run_checkKey hd Rh em 9999
 |false=>
  have hu:=(hE.ty T t hT).dj
  cases t<;>simp [Ty.isKey,Ty.iq] at hk h1
  rename_i ta tb
  obtain⟨fs,im,iI,Ro,_⟩:=hu
  obtain⟨cs,hr,rfl⟩:=h
  rw[jx rfl]
  unfold Instr.checkKey
  simp only[Sem.run_bind,run_underlying im,Result.andThen_ok]
  rw[<-Array.forIn_toList]
  have:=gL (X:=X) hE (xs:=cs.toArray) w em 9998 fs.toList (.pair ta tb) 0 iI hk x cs hr (by have:=hr.len;simp only[List.drop_zero];rw[<-this];exact List.take_length)
  exact(congrArg (fun r=>Result.andThen r (fun a w'=>Sem.run P (pure ()) w')) this).trans (by simp)
theorem znz(hE:ap P E){T:TypeId}{kt vt:Ty}(hT:E.ty T=some kt)(hk:kt.gR=true){k:El kt}{v:Value}(h:ew X kt k v)(w:World):∀(es:List MapEntry) (xs:List (El kt×El vt)) (i:Nat),es.length=xs.length->
 (∀(i:Nat) q e,xs[i]? =some q->es[i]? =some e->ew X kt q.1 e.key/\ew X vt q.2 e.val)->
 (fa (va kt) xs k=false/\eZ (va kt) (El.bT vt) xs k=El.bT vt/\(Instr.findAsking T v es i).run P w= .ok none w)\/(fa (va kt) xs k=true/\∃j u,(Instr.findAsking T v es i).run P w= .ok (some (j,u)) w/\ew X vt (eZ (va kt) (El.bT vt) xs k) u)
 | [],[],i,_,_=> .inl ⟨rfl,rfl,by simp [Instr.findAsking]⟩
 |e::es,q::xs,i,hl,hp=>by
  obtain⟨h1,h2⟩:=hp 0 q e rfl rfl
  obtain⟨c1,r1,rfl⟩:=h
  obtain⟨c2,r2,e2⟩:=h1
  have heq:(Op.equal T (dL kt c1) e.key).run P w= .ok (va kt k q.1) w:=by
   rw[e2]
   exact K6 (X:=X) hE w 10000 kt T hT (Nat.le_trans (zv8 hk) (by decide)) k q.1 c1 c2 _ r1 r2 (NH hk k q.1)
  unfold Instr.findAsking
  simp only[Sem.run_bind,heq,Result.andThen_ok,fa,eZ]
  cases heq:va kt k q.1 with
  |true=>exact .inr ⟨rfl,i,e.val,by simp,h2⟩
  |false=>exact znz hE hT hk ⟨c1,r1,rfl⟩ w es xs (i+1) (by simpa using hl) (fun i q e hq he=>hp (i+1) q e (by simpa using hq) (by simpa using he))
 | [],_::_,_,hl,_=>by simp at hl
 |_::_,[],_,hl,_=>by simp at hl
theorem Mw(hE:ap P E){T:TypeId}{kt vt:Ty}(hT:E.ty T=some kt)(hk:kt.isKey=true){k:El kt}{v:Value}(h:ew X kt k v)(w:World)(es:List MapEntry)(xs:List (El kt×El vt))(hl:es.length=xs.length)
 (hp:∀(i:Nat) q e,xs[i]? =some q->es[i]? =some e->ew X kt q.1 e.key/\ew X vt q.2 e.val):
 (fa (fT kt) xs k=false/\eZ (fT kt) (El.bT vt) xs k=El.bT vt/\(Instr.findKey T v es).run P w= .ok none w)\/(fa (fT kt) xs k=true/\∃j u,(Instr.findKey T v es).run P w= .ok (some (j,u)) w/\ew X vt (eZ (fT kt) (El.bT vt) xs k) u):=by
 cases h1:kt.iq with
 |true=>
  obtain⟨d,hd,Rh,iW⟩:=Oz hE hT h1 k
  rw[zql h1 h]
  rcases Mj (X:=X) h1 iW es xs 0 hl hp with⟨g1,g2,g3⟩|⟨g1,j,u,g3,g4⟩
  ·exact .inl ⟨g1,g2,MapKept.run_findKey hd g3⟩
  ·exact .inr ⟨g1,j,u,MapKept.run_findKey hd g3,g4⟩
 |false=>
  have hu:=(hE.ty T kt hT).dj
  cases kt<;>simp [Ty.isKey,Ty.iq] at hk h1
  rename_i ta tb
  obtain⟨fs,im,_⟩:=hu
  have e:=run_findKey_eq (P:=P) w (k:=T) (by rw[im]) v es
  have:=znz (X:=X) hE hT hk h w es xs 0 hl hp
  rw[e]
  exact this
theorem zvf{T:TypeId}{kt vt:Ty}(hE:ap P E)(h:nh E T=some (kt,vt)):∃k e,P.underlying T=some (.map k e)/\E.ty k=some kt/\E.ty e=some vt/\kt.isKey=true:=by
 unfold nh at h
 split at h
 case h_2=>cases h
 rename_i k e hm
 split at h
 case h_2=>cases h
 rename_i Zt vt' h1 h2
 split at h
 case isFalse=>cases h
 rename_i hk
 cases h
 exact⟨k,e,hE.mp T k e hm,h1,h2,hk⟩
theorem zoa{m:Operand}{kt vt:Ty}{R:Type}{K:Nat->List (El kt×El vt)->Option R}{z:R}(hr:Rel X s a)(h:vB s (s.aG m) kt vt K=some z):
 ∃id B r xs,K id xs=some z/\s.bs[id]? =some (some B)/\X.β id=some r/\X.ow r= .box id/\a.eval m= .map (some r)/\B.t.eF=false/\∃es clock,X.w.heap[r]? =some (.map es clock)/\es.size=xs.length/\
  ∀(i:Nat) (q:El kt×El vt) (e:MapEntry),xs[i]? =some q->es[i]? =some e->ew X kt q.1 e.key/\ew X vt q.2 e.val:=by
 have hx:=hr.aG m
 unfold vB at h
 split at h
 case h_2=>cases h
 rename_i id Zt vt' hm
 rw[hm] at hx
 obtain⟨r,hβ,hv⟩:=hx
 split at h
 case isFalse=>cases h
 split at h
 case h_2=>cases h
 rename_i B hB
 split at h
 case isFalse=>cases h
 rename_i dg
 have hb:=z28 hB
 obtain⟨r',h1,h2,h3⟩:=hr.boxes id B hb
 rw[hβ] at h1
 cases h1
 refine⟨id,B,r,_,h,hb,hβ,h2,hv,by rw[Ty.aI dg];rfl,?_⟩
 obtain⟨bt,bx,bo⟩:=B
 have e:=Ty.aI dg
 simp only at e
 subst e
 exact h3
theorem abE(hE:ap P E)(hr:Rel X s a){ops:List Oper}{T:TypeId}{rs:Option Operand}(ho:o.op= .makeMap T rs){C:FuncId->bU Out}(h:act E C ops o s some=some u):aH P X s a o u:=by
 unfold act at h
 cases rs with
 |some r=>simp only[ho] at h;cases h
 |none=>
  simp only[ho] at h
  split at h
  case h_2=>cases h
  rename_i kt vt hm
  refine zho hr (t:= .aJ .mp kt vt) (p:= .aJ .mp kt vt) (x:=([]:List (El kt×El vt))) (b:= .map #[] 0) (v:= .map (some X.w.heap.size)) ?_ (fun Y _ hY pl=>⟨#[],0,hY,rfl,fun i q e hq=>by simp at hq⟩) rfl h
  simp [execOp,ho,Instr.makeMap]
theorem ab2(hE:ap P E)(hr:Rel X s a){ops:List Oper}{T:TypeId}{x i:Operand}{ok:Bool}(ho:o.op= .lookup T x i ok){C:FuncId->bU Out}(h:act E C ops o s some=some u):aH P X s a o u:=by
 unfold act at h
 cases ok with
 |true=>simp only[ho] at h;cases h
 |false=>
  simp only[ho] at h
  unfold lk at h
  split at h
  case h_2=>cases h
  rename_i kt vt hm
  obtain⟨k,e,hu,hk,he,tQ⟩:=zvf hE hm
  obtain⟨id,B,r,xs,h,hb,hβ,how,hv,hBg,es,clock,aD,dx,fH⟩:=zoa hr h
  obtain⟨key,h,YO⟩:=zy h
  cases h
  obtain⟨ck,rk,evk⟩:=YO X _ _ (hr.aG i)
  have Fv:=Ls hE hk tQ (X:=X) (x:=key) ⟨ck,rk,evk⟩ es.isEmpty X.w
  rcases Mw (X:=X) hE hk tQ (k:=key) ⟨ck,rk,evk⟩ X.w es.toList xs (by simpa using dx) (fun i q e hq he=>fH i q e hq (by simpa using he)) with⟨g1,g2,hf⟩|⟨g1,j,v,hf,g4⟩
  ·rw[g2]
   have hz:=SA (P:=P) hE he X.w
   refine aH.plain hr (v:=dL vt (zp vt)) ?_ (A8 (rZ X vt)) (fun _ _ _ e'=>by cases e')
   simp only[execOp,ho,Sem.run_bind,Instr.lookup,run_underlying hu,Result.andThen_ok,hv,MapKept.run_getObj_map aD,Sem.run_pure,Fv,hf,hz,Bool.false_eq_true,if_false]
  ·obtain⟨cv,rv,ev⟩:=g4
   refine aH.plain hr (v:=v) ?_ ⟨cv,rv,ev,mu⟩ (fun _ _ _ e'=>by cases e')
   simp only[execOp,ho,Sem.run_bind,Instr.lookup,run_underlying hu,Result.andThen_ok,hv,MapKept.run_getObj_map aD,Sem.run_pure,Fv,hf,Bool.false_eq_true,if_false]
theorem Mh(hE:ap P E)(hr:Rel X s a){T:TypeId}{m k x:Operand}(ho:(execOp a.eval o).run P X.w=((Instr.mapUpdate T (a.eval m) (a.eval k) (a.eval x)).run P X.w).andThen fun _ w=> .ok .skip w)(h:mc E T s (s.aG m) (s.aG k) (s.aG x) some=some u):aH P X s a o u:=by
 unfold mc at h
 split at h
 case h_2=>cases h
 rename_i kt vt hm
 obtain⟨kT,eT,hu,hk,he,tQ⟩:=zvf hE hm
 obtain⟨id,B,r,xs,h,hb,hβ,how,hv,hBg,es,clock,aD,dx,fH⟩:=zoa hr h
 obtain⟨key,h,YO⟩:=zy h
 obtain⟨y,h,hyv⟩:=zy h
 obtain⟨ck,rk,BG⟩:=YO X _ _ (hr.aG k)
 obtain⟨cy,ry,Yk⟩:=hyv X _ _ (hr.aG x)
 have Fv:=Ls hE hk tQ (X:=X) (x:=key) ⟨ck,rk,BG⟩ false X.w
 rcases Mw (X:=X) hE hk tQ (k:=key) ⟨ck,rk,BG⟩ X.w es.toList xs (by simpa using dx) (fun i q e hq he=>fH i q e hq (by simpa using he)) with⟨g1,g2,hf⟩|⟨g1,j,v,hf,g4⟩
 ·rw[g1] at h
  cases h
  let new:Obj:= .map (es.push {key:=a.eval k,val:=a.eval x,born:=clock}) (clock+1)
  have aV:(execOp a.eval o).run P X.w= .ok .skip (X.obj r new).w:=by
   rw[ho]
   simp only[Instr.mapUpdate,Sem.run_bind,run_underlying hu,Result.andThen_ok,hv,MapKept.run_getObj_map aD,Fv,hf,MapKept.run_setObj_map _ aD]
   simp only[new]
   rfl
  have bG:bC (X.obj r new) id r ⟨.aJ .mp kt vt,(xs++ [(key,y)]:List (El kt×El vt)),[]⟩:=by
   refine⟨how,es.push {key:=a.eval k,val:=a.eval x,born:=clock},clock+1,MF aD,by simp [dx],fun i q e hq he=> ?_⟩
   have hs:∀ad v,X.az ad v->(X.obj r new).az ad v:=fun _ _=>Es how
   have hq:(xs++ [(key,y)])[i]? =some q:=hq
   rw[List.getElem?_append] at hq
   rw[Array.getElem?_push] at he
   split at hq
   ·rename_i aq
    rw[if_neg (by omega)] at he
    obtain⟨j1,j2⟩:=fH i q e hq he
    exact⟨j1.mono hs,j2.mono hs⟩
   ·rename_i aq
    have hi:i-xs.length=0:=by
     have:=(List.getElem?_eq_some_iff.1 hq).1
     simp at this
     omega
    rw[hi] at hq
    cases hq
    rw[if_pos (by omega)] at he
    cases he
    exact⟨ew.mono hs ⟨ck,rk,BG⟩,ew.mono hs ⟨cy,ry,Yk⟩⟩
  exact⟨X.obj r new,Go.undef,.inr ⟨aV,rfl⟩,NO how,(hr.obj hb hβ how bG (.inl hBg)).skip o.dst⟩
 ·rw[g1] at h
  cases h
theorem zcg(hE:ap P E)(hr:Rel X s a){ops:List Oper}{T:TypeId}{m k x:Operand}(ho:o.op= .mapUpdate T m k x\/o.op= .insert T m k x){C:FuncId->bU Out}(h:act E C ops o s some=some u):aH P X s a o u:=by
 unfold act at h
 rcases ho with ho|ho
 ·simp only[ho] at h
  exact Mh hE hr (by simp [execOp,ho]) h
 ·simp only[ho] at h
  exact Mh hE hr (by simp [execOp,ho]) h
theorem acV(hE:ap P E)(hr:Rel X s a){ops:List Oper}{T:TypeId}{x:Operand}(ho:o.op= .range T x){C:FuncId->bU Out}(h:act E C ops o s some=some u):aH P X s a o u:=by
 unfold act at h
 simp only[ho] at h
 split at h
 case h_2=>cases h
 rename_i hT
 obtain⟨y,h,hy⟩:=zy h
 obtain⟨cs,ry,ev⟩:=hy X _ _ (hr.aG x)
 rw[nw ry] at ev
 have hu:=(hE.ty T _ hT).dj
 refine zho hr (t:=j6) (p:=j6) (x:=((y,0):ByteArray×Nat)) (b:= .stringIter y 0) (v:= .pointer (some ⟨X.w.heap.size,0,none⟩)) ?_ (fun Y _ hY pl=>hY) ⟨rfl,trivial⟩ h
 simp [execOp,ho,Instr.range,run_underlying hu,ev]
theorem afR(hr:Rel X s a){ops:List Oper}{x:Operand}{str:Bool}(ho:o.op= .next x str){C:FuncId->bU Out}(h:act E C ops o s some=some u):aH P X s a o u:=by
 unfold act at h
 cases str with
 |false=>simp only[ho] at h;cases h
 |true=>
  simp only[ho] at h
  unfold lm at h
  have hx:=hr.aG x
  split at h
  case h_2=>cases h
  rename_i id hm
  rw[hm] at hx
  obtain⟨r,hβ,hv,_⟩:=hx
  split at h
  case h_2=>cases h
  rename_i B hB
  split at h
  case isFalse=>cases h
  rename_i dg
  have hb:=z28 hB
  obtain⟨r',h1,how,h3⟩:=hr.boxes id B hb
  rw[hβ] at h1
  cases h1
  have aD:X.w.heap[r]? =some (.stringIter (Ty.cast dg B.x:ByteArray×Nat).1 (Ty.cast dg B.x:ByteArray×Nat).2):=by
   obtain⟨bt,bx,bo⟩:=B
   have e:=Ty.aI dg
   simp only at e
   subst e
   exact h3
  generalize(Ty.cast dg B.x:ByteArray×Nat)=q at*
  obtain⟨st,pos⟩:=q
  simp only at h aD
  have hv:a.eval x= .pointer (some ⟨r,0,none⟩):=by simpa [Ty.off] using hv
  have cB:(getObj r).run P X.w= .ok (.stringIter st pos) X.w:=by simp [getObj,Sem.run,aD]
  cases aq:decide (pos<st.size) with
  |false=>
   rw[aq] at h
   cases h
   have aq:=of_decide_eq_false aq
   refine aH.plain hr (sv:= .over) (v:= .tuple #[.bool false]) ?_ rfl (fun _ _ _ e'=>by cases e')
   simp only[execOp,ho,Sem.run_bind,Instr.next,hv,cB,Result.andThen_ok,if_neg aq,Sem.run_pure]
  |true=>
   rw[aq] at h
   cases h
   have aq:=of_decide_eq_true aq
   let new:Obj:= .stringIter st (pos+(Utf8.decode st pos).2)
   have fg:(setObj r new).run P X.w= .ok () (X.obj r new).w:=by simp [setObj,Sem.run,aD,ax.obj]
   have bG:bC (X.obj r new) id r ⟨j6,((st,pos+(Utf8.decode st pos).2):ByteArray×Nat),[]⟩:=⟨how,MF aD⟩
   have eW:=hr.obj hb hβ how bG (.inl (by rw[Ty.aI dg];rfl))
   refine⟨X.obj r new,.tuple #[.bool true,.int .i64 pos,.int .i32 (Utf8.decode st pos).1],.inl ?_,NO how,?_⟩
   ·simp only[execOp,ho,Sem.run_bind,Instr.next,hv,cB,Result.andThen_ok,if_pos aq,Sem.run_pure]
    simp only[new] at fg
    rw[fg]
    rfl
   ·refine eW.put (fun d' e=>⟨_,rfl,rfl,fun j sv v hj hv=> ?_⟩) (fun id t' q hm=>by simp at hm)
    match j with
    |0=>cases hj;cases hv;exact nv
    |1=>cases hj;cases hv;exact jg
    |2=>cases hj;cases hv;exact jg
    |j+3=>simp at hj
theorem akm{t:Ty}{k:Nat}(hk:(zp t).length=k)(n:Nat):((Array.range (n*k)).map fun i=>(zp t).toArray[i % (zp t).toArray.size]!).size=n*k/\
 ∀j,j<n->((((Array.range (n*k)).map fun i=>(zp t).toArray[i % (zp t).toArray.size]!).toList.drop (j*k)).take k)=zp t:=by
 refine⟨by simp,fun j hj=> ?_⟩
 apply List.ext_getElem?
 intro i
 rw[List.getElem?_take]
 split
 ·rename_i hi
  have aq:j*k+i<n*k:=by
   have:(j+1)*k<=n*k:=Nat.mul_le_mul_right _ hj
   rw[Nat.add_mul,Nat.one_mul] at this
   omega
  have B6:(j*k+i)% k=i:=by rw[Nat.mul_comm,Nat.mul_add_mod,Nat.mod_eq_of_lt hi]
  rw[List.getElem?_drop,Array.getElem?_toList,Array.getElem?_map,Array.getElem?_range,if_pos aq]
  simp only[Option.map_some,List.size_toArray,hk,B6]
  rw[List.getElem?_eq_getElem (by omega)]
  simp [getElem!_def,List.getElem?_eq_getElem (show i<(zp t).length by omega)]
 ·rename_i hi
  rw[List.getElem?_eq_none (by omega)]
theorem Mz(hE:ap P E){T e:TypeId}{t:Ty}(hT:E.ty T=some (.sl e t))(hk:t.cells≠0)(nA:E.bytes e≠0){n m:Int}(hn:0<=n)(hnm:n<=m)(hb:m*E.bytes e<=140737488355328)(w:World):
 m.toNat<=maxLen/\∃cur,cur.size=m.toNat*t.cells/\(∀j,j<m.toNat->(cur.toList.drop (j*t.cells)).take t.cells=zp t)/\
  (Instr.makeSlice T (.int .i64 n) (.int .i64 m)).run P w= .ok (.slice (some ⟨w.heap.size,0,none⟩) n.toNat m.toNat) (w.alloc (.cells cur e)):=by
 obtain⟨hu,he⟩:=(hE.ty T _ hT).dj
 obtain⟨i,hi,b6,fV,hz⟩:=(hE.ty e t he).info
 have hle:m<=m*E.bytes e:=by
  have h1:(1:Int)<=E.bytes e:=by omega
  have:=Int.mul_le_mul_of_nonneg_left h1 (show 0<=m by omega)
  simpa using this
 have B5:m.toNat<=maxLen:=by simp only[maxLen];omega
 have lU:(dL t (zp t)).cells=(zp t).toArray:=vm (X:=⟨w,fun _=> .all,fun _=>none⟩) (rZ _ t)
 obtain⟨z1,z2⟩:=akm (uP t) m.toNat
 refine⟨B5,(Array.range (m.toNat*t.cells)).map (fun i=>(zp t).toArray[i % (zp t).toArray.size]!),z1,z2,?_⟩
 have Rr:IntKind.i64.wrap n=n:=by simp [IntKind.wrap,IntKind.signed,IntKind.bits];omega
 have vh:IntKind.i64.wrap m=m:=by simp [IntKind.wrap,IntKind.signed,IntKind.bits];omega
 have hmul:(i.bytes:Int)*m<=2^48:=by rw[fV,Int.mul_comm];omega
 have c1:¬m<0:=by omega
 have c2:¬(281474976710656:Int)<(i.bytes:Int)*m:=by omega
 have c3:¬n<0:=by omega
 have c4:¬m<n:=by omega
 have hai:∀(n:Int) (w:World),(asInt (.int .i64 n)).run P w= .ok n w:=fun n w=>by simp [asInt,asIntOf]
 have Ze:∀w:World,(typeInfo e).run P w= .ok i w:=fun w=>by simp [typeInfo,hi]
 have ij:∀w:World,(sizeOf e).run P w= .ok t.cells w:=fun w=>lA hE he w
 have hzv:∀w:World,(zeroValue e).run P w= .ok (dL t (zp t)) w:=fun w=>SA hE he w
 simp only[Instr.makeSlice,Sem.run_bind,run_underlying hu,Result.andThen_ok,hai,Ze,Rr,vh]
 by_cases h0:m.toNat*t.cells=0
 ·simp [c1,c2,c3,c4,ij,h0,newRow]
  rw[show Array.range 0= #[] from rfl]
  simp
 ·simp [c1,c2,c3,c4,ij,h0,hzv,lU,newRow]
theorem aa7(hE:ap P E)(hr:Rel X s a){ops:List Oper}{T:TypeId}{l c:Operand}(ho:o.op= .makeSlice T l c){C:FuncId->bU Out}(h:act E C ops o s some=some u):aH P X s a o u:=by
 unfold act at h
 simp only[ho] at h
 unfold ll at h
 split at h
 case h_2=>cases h
 rename_i e t hT
 split at h
 ·cases h
 rename_i bI
 have nA:E.bytes e≠0:=fun e0=>bI (by rw[e0];rfl)
 have hk:t.cells≠0:=fun e0=>bI (by rw[e0];simp)
 obtain⟨n,h,hn⟩:=zy h
 obtain⟨m,h,hm⟩:=zy h
 obtain⟨_,rn,en⟩:=hn X _ _ (hr.aG l)
 rw[lB rn] at en
 obtain⟨_,rm,em⟩:=hm X _ _ (hr.aG c)
 rw[lB rm] at em
 cases hc:NI l with
 |true=>
  rw[hc] at h
  simp only[cond_true] at h
  cases d1:decide (n=0)<;>rw[d1] at h<;>simp only[cond_true,cond_false] at h
  ·cases h
  cases d2:decide (0<=m)<;>rw[d2] at h<;>simp only[cond_true,cond_false] at h
  ·cases h
  cases d3:decide (m*E.bytes e<=140737488355328)<;>rw[d3] at h<;>simp only[cond_true,cond_false] at h
  ·cases h
  cases h
  have d1:=of_decide_eq_true d1
  have d2:=of_decide_eq_true d2
  have d3:=of_decide_eq_true d3
  subst d1
  obtain⟨B5,cur,g1,g2,aV⟩:=Mz (P:=P) hE hT hk nA (n:=0) (m:=m) (by omega) d2 d3 X.w
  have xd:eJ s X (X.kF (.cells cur e) (.row (.c (o.dst.getD 0) 0 []) 0) X.β):=Lr X _ _ _ _ rfl (fun _ _ _=>rfl)
  refine⟨X.kF (.cells cur e) (.row (.c (o.dst.getD 0) 0 []) 0) X.β,.slice (some ⟨X.w.heap.size,0,none⟩) 0 m.toNat,.inl ?_,xd.ext,(hr.dm xd).fin ⟨[.slice (some ⟨X.w.heap.size,0,none⟩) 0 m.toNat],⟨_,_,rfl,Nat.zero_le _,fun j x hj=>by simp at hj⟩,rfl,fun p hp=> ?_⟩ (fun id t p hm=>by simp at hm)⟩
  ·simp only[execOp,ho,Sem.run_bind,en,em,aV,Result.andThen_ok,Sem.run_pure]
   rfl
  ·have hp:p=[]:=by simpa using hp
   subst hp
   refine⟨e,t,[],_,by simp [Ty.eE],rfl,rfl,.inr ⟨X.w.heap.size,m.toNat,cur,rfl,heap_alloc_new X.w _,Nat.zero_le _,B5,g1,?_⟩⟩
   simp [ax.kF]
 |false=>
  rw[hc] at h
  simp only[cond_false] at h
  cases d1:decide (n=m)<;>rw[d1] at h<;>simp only[cond_true,cond_false] at h
  ·cases h
  cases d2:decide (0<=n)<;>rw[d2] at h<;>simp only[cond_true,cond_false] at h
  ·cases h
  cases d3:decide (n*E.bytes e<=140737488355328)<;>rw[d3] at h<;>simp only[cond_true,cond_false] at h
  ·cases h
  have d1:=of_decide_eq_true d1
  have d2:=of_decide_eq_true d2
  have d3:=of_decide_eq_true d3
  have d1:m=n:=d1.symm
  subst d1
  obtain⟨B5,cur,g1,g2,aV⟩:=Mz (P:=P) hE hT hk nA (n:=m) (m:=m) d2 (Int.le_refl _) d3 X.w
  refine zho hr (t:= .aJ .row t .unit) (p:= .aJ (.iG m.toNat) t .unit) (x:=(List.replicate m.toNat (El.bT t):List (El t))) (b:= .cells cur e) (v:= .slice (some ⟨X.w.heap.size,0,none⟩) m.toNat m.toNat) ?_ (fun Y _ hY pl=>⟨cur,e,hY,?_,fun j x hj=> ?_⟩) ⟨_,rfl,Nat.le_refl _⟩ h
  ·simp only[execOp,ho,Sem.run_bind,en,em,aV,Result.andThen_ok,Sem.run_pure]
  ·rw[g1];show _=List.length (List.replicate _ _)*_;rw[List.length_replicate]
  ·have hj:(List.replicate m.toNat (El.bT t))[j]? =some x:=hj
   rw[List.getElem?_replicate] at hj
   split at hj
   ·rename_i aq
    cases hj
    rw[g2 j aq]
    exact rZ Y t
   ·cases hj
end Go.Ref

namespace Go.Ref
open Go
variable {P:Program} {E:Env} {X:ax} {s:State} {a:Act} {o:Oper} {u:Out}
theorem ajn(hE:ap P E)(hr:Rel X s a){ops:List Oper}{T:TypeId}{x:Operand}{lo hi:Option Operand}(ho:o.op= .slice T x lo hi none){C:FuncId->bU Out}(h:act E C ops o s some=some u):aH P X s a o u:=by
 unfold act at h
 simp only[ho] at h
 split at h
 ·rename_i id n ta tb dy
  split at h
  case h_2=>cases h
  rename_i e t hT
  split at h
  case isFalse=>cases h
  rename_i heq
  have:=Ty.aI heq
  subst this
  unfold tz at h
  split at h
  ·cases h
  rename_i Jo
  have BX:hi=none:=by
   cases hi with
   |none=>rfl
   |some _=>cases Jo
  subst BX
  obtain⟨l,h,h1,hl⟩:=zaj h
  cases h
  have hx:=hr.aG x
  rw[dy] at hx
  obtain⟨r0,hβ,cap,hv,mZ⟩:=hx
  have hu:=(hE.ty T _ hT).dj
  have hbd:=zdb (P:=P) (isS:=true) hr hl (hi:=none) (m:=n) (n:=n) (c:=cap) rfl h1 (Nat.le_refl _) mZ X.w
  rw[Option.map_none] at hbd
  refine aH.plain hr (v:= .slice (if cap=l then some ⟨r0,0,none⟩ else(some (⟨r0,0,none⟩:Addr)).map (·.add (l*ta.cells))) (n-l) (cap-l)) ?_ ⟨r0,hβ,?_⟩ (fun _ _ _ e=>by cases e;exact sd hr dy)
  ·simp only[execOp,ho,Sem.run_bind,Instr.sliceAt,run_underlying hu.1,Result.andThen_ok,Instr.slice,hv,Option.map_none,hbd,Sem.run_pure,lA hE hu.2]
  ·show∃wS off,_=Value.slice (some ⟨r0,off,none⟩) (n-l) wS/\_
   by_cases e':cap=l
   ·rw[if_pos e']
    exact⟨_,_,rfl,by omega,h1,.inl ⟨by omega,rfl⟩⟩
   ·rw[if_neg e']
    refine⟨cap-l,l*ta.cells,?_,by omega,h1,.inr rfl⟩
    rw[Option.map_some,iC,Nat.zero_add]
 ·rename_i id n t dy
  have hx:=hr.aG x
  rw[dy] at hx
  obtain⟨r0,hβ,hv⟩:=hx
  unfold qR at h
  split at h
  case h_2=>cases h
  rename_i u' hT B4 Jo
  have lo0:lo=none:=by
   cases lo with
   |none=>rfl
   |some _=>cases B4
  have BX:hi=none:=by
   cases hi with
   |none=>rfl
   |some _=>cases Jo
  subst lo0 BX
  split at h
  case isFalse=>cases h
  rename_i heq
  have:=Ty.aI heq
  subst this
  split at h
  case h_2=>cases h
  rename_i B hB
  split at h
  case isFalse=>cases h
  rename_i dg
  cases h
  have hb:=z28 hB
  obtain⟨r,h1,tG⟩:=hr.boxes id B hb
  rw[hβ] at h1
  cases h1
  obtain⟨bt,bx,bo⟩:=B
  have e:=Ty.aI dg
  simp only at e
  subst e
  obtain⟨cs,T',aD,aL,how,_⟩:=tG.cells rfl
  have hv:a.eval x= .pointer (some ⟨r0,0,none⟩):=by rw[((qq rfl).1 hv).1];rfl
  obtain⟨e,im,iI,_⟩:=(hE.ty T _ hT).dj
  have hlen:List.length (bx:List (El t))=n:=aL.1
  have bG:bC X id r0 ⟨.aJ .row t .unit,(bx:List (El t)),[]⟩:=⟨how,cs,T',aD,by have:=aL.2.1;rw[hlen];simpa using this,aL.2.2⟩
  have Ji:(Ty.cast dg bx:El (.arr n t))=bx:=rfl
  rw[Ji]
  refine⟨X,.slice (some ⟨r0,0,none⟩) n n,.inl ?_,Ext.refl X,(hr.l8 hb hβ bG (.inl rfl)).fin ⟨r0,hβ,n,rfl,Nat.le_refl _⟩ (fun bc t' p' hm=> ?_)⟩
  ·simp only[execOp,ho,Sem.run_bind,Instr.sliceAt,run_underlying im,Result.andThen_ok,Option.map_none,hv,Instr.sureAddr,Sem.run_pure,lA hE iI]
   simp [Instr.sliceBounds]
   intro _
   rw[iC]
  ·have rP:SV.ptr bc t' p'= .ptr id (.aJ (.iG n) t .unit) []:=by simpa using hm
   cases rP
   exact⟨_,RY hb⟩
 ·exact afO hE hr ho h
theorem abd(hr:Rel X s a){ops:List Oper}{fn:Fn}{fi ca:Array Operand}(ho:o.op= .makeFunc fn fi ca){C:FuncId->bU Out}(h:act E C ops o s some=some u):aH P X s a o u:=by
 unfold act at h
 cases fn with
 |func f=>
  simp only[ho] at h
  split at h
  case h_3=>cases h
  case h_2=>
   rename_i x y tL BM
   have tL:fi= #[]:=by rw[<-Array.toArray_toList (xs:=fi),tL]
   have BM:ca= #[x,y]:=by rw[<-Array.toArray_toList (xs:=ca),BM]
   subst tL BM
   unfold tv at h
   split at h
   case h_2=>cases h
   rename_i t x1 u' y1 dy JW
   cases h
   have hx:=hr.aG x
   have hy:=hr.aG y
   rw[dy] at hx
   rw[JW] at hy
   obtain⟨ad,cs,h1,h2,h3,h4⟩:=hx
   obtain⟨qb,eD,k1,k2,k3,k4⟩:=hy
   refine aH.plain hr (v:= .func (.func f) #[] #[.pointer (some ad),.pointer (some qb)]) ?_ ⟨ad,qb,cs,eD,rfl,⟨h2,h3,h4⟩,k2,k3,k4⟩ (fun _ _ _ e=>by cases e)
   simp [execOp,ho,Instr.makeFunc,h1,k1]
  rename_i x tL BM
  have tL:fi= #[]:=by rw[<-Array.toArray_toList (xs:=fi),tL]
  have BM:ca= #[x]:=by rw[<-Array.toArray_toList (xs:=ca),BM]
  subst tL BM
  unfold mR at h
  split at h
  case h_2=>cases h
  rename_i id u' dy
  split at h
  case isTrue=>cases h
  rename_i hs
  cases h
  have hx:=hr.aG x
  rw[dy] at hx
  obtain⟨r0,hβ,hv⟩:=hx
  have hv:=((Pe (by simpa using hs)).1 hv).1
  refine aH.plain hr (v:= .func (.func f) #[] #[.pointer (some ⟨r0,0,none⟩)]) ?_ ⟨r0,hβ,rfl⟩ (fun _ _ _ e=>by cases e;exact sd hr dy)
  have hv:a.eval x= .pointer (some ⟨r0,0,none⟩):=by rw[hv];simp [Ty.off]
  simp [execOp,ho,Instr.makeFunc,hv]
 |_=>simp only[ho] at h;cases h
theorem L6{t:Ty}{xs:List (El t)}{n l:Nat}{cs:List Value}(h:bg X (.arr n t) xs cs)(hl:l<=n):bg X (.arr l t) (xs.take l:List (El t)) (cs.take (l*t.cells)):=by
 obtain⟨h1,h2,h3⟩:=h
 have hm:=Nat.mul_le_mul_right t.cells hl
 refine⟨by rw[List.length_take];omega,by rw[List.length_take];omega,fun j y hj=> ?_⟩
 have hj:(xs.take l)[j]? =some y:=hj
 rw[List.getElem?_take] at hj
 split at hj
 case isFalse=>cases hj
 rename_i tP
 have hk:(j+1)*t.cells<=l*t.cells:=Nat.mul_le_mul_right _ tP
 rw[Nat.add_mul,Nat.one_mul] at hk
 have e:((cs.take (l*t.cells)).drop (j*t.cells)).take t.cells=(cs.drop (j*t.cells)).take t.cells:=by
  rw[List.drop_take,List.take_take,Nat.min_eq_left (by omega)]
 rw[e]
 exact h3 j y hj
theorem L5{t:Ty}{xs:List (El t)}{n l:Nat}{cs:List Value}(h:bg X (.arr n t) xs cs)(hl:l<=n):bg X (.arr (n-l) t) (xs.drop l:List (El t)) (cs.drop (l*t.cells)):=by
 obtain⟨h1,h2,h3⟩:=h
 refine⟨by rw[List.length_drop];omega,by rw[List.length_drop,Nat.sub_mul];omega,fun j y hj=> ?_⟩
 have hj:(xs.drop l)[j]? =some y:=hj
 rw[List.getElem?_drop] at hj
 rw[List.drop_drop,<-Nat.add_mul]
 exact h3 (l+j) y hj
theorem z182{α:Type}(xs ys:List α)(lo:Nat)(h:lo+ys.length<=xs.length):(bX xs ys lo).length=xs.length:=by
 unfold bX;simp;omega
theorem zup(hE:ap P E)(hr:Rel X s a){d x:Operand}{T e:TypeId}{t:Ty}{ts:Array TypeId}(ho:o.op= .call ⟨.builtin .copy,#[d,x],ts⟩)(kq:ts[0]? =some T)(hT:E.ty T=some (.sl e t)){id n lo:Nat}{ta tb:Ty}{p:List Nat}
 (dy:s.aG d= .ptr id (.aJ (.iG n) ta tb) p) (na:∀r,np (.aJ (.iG n) ta tb) p r (a.eval d)->∃cap off,a.eval d= .slice (some ⟨r,off,none⟩) (n-lo) cap/\lo<=n/\((n=lo/\off=0)\/off=lo*ta.cells))
 (h:ib t s id n lo ta tb (s.aG x) e some=some u):aH P X s a o u:=by
 have hx:=hr.aG d
 rw[dy] at hx
 obtain⟨r0,hβ,hv⟩:=hx
 unfold ib at h
 split at h
 case isFalse=>cases h
 rename_i heq
 have:=Ty.aI heq
 subst this
 obtain⟨ys,h,uh⟩:=zy h
 split at h
 case h_2=>cases h
 rename_i B hB
 split at h
 case isFalse=>cases h
 rename_i dg
 obtain⟨hb,r,h1,how,cs,T',aD,dx,fH⟩:=EU hr hB dg
 rw[hβ] at h1
 cases h1
 generalize(Ty.cast dg B.x:List (El ta))=xs at*
 cases hn:Nat.beq n (List.length xs)<;>rw[hn] at h
 ·cases h
 cases B4:Nat.ble lo n<;>rw[B4] at h
 ·cases h
 cases h
 have hn:=Nat.eq_of_beq_eq_true hn
 have B4:=Nat.le_of_ble_eq_true B4
 obtain⟨cap,off,hd,_,xh⟩:=na r0 hv
 obtain⟨cx,lu,ev⟩:=uh X _ _ (hr.aG x)
 have aa0:=lu
 obtain⟨A,c,wZ,_⟩:=aa0
 have ev:a.eval x= .slice A ys.length c:=by rw[ev,wZ];rfl
 rw[wZ] at lu
 obtain⟨_,hc,cy,ry,ny,sy⟩:=zaq (X:=X) lu
 have hu:=(hE.ty T _ hT).dj
 have hm:(ys.take (n-lo)).length=min ys.length (n-lo):=by rw[List.length_take,Nat.min_comm]
 generalize FC:min ys.length (n-lo)=m at hm
 have hmy:m<=ys.length:=by omega
 have hmn:m<=n-lo:=by omega
 have htk:ys.take (n-lo)=ys.take m:=by
  rw[<-FC]
  rcases Nat.le_total ys.length (n-lo) with g|g
  ·rw[Nat.min_eq_left g,List.take_of_length_le g,List.take_of_length_le (Nat.le_refl _)]
  ·rw[Nat.min_eq_right g]
 have rz:=L6 ry hmy
 have JY:(cy.take (m*ta.cells)).length=m*ta.cells:=rz.2.1
 have ey:bg X (.arr xs.length ta) xs cs.toList:=⟨rfl,by simpa using dx,fH⟩
 have jY:(Builtin.firstCells ta.cells m (a.eval x)).run P X.w= .ok (cy.take (m*ta.cells)).toArray X.w:=by
  rw[ev]
  cases A with
  |none=>
   have:=ny rfl
   subst this
   have:m=0:=by simpa using hmy
   subst this
   simp [Builtin.firstCells]
  |some ad=>
   have:=run_loadCells_list (P:=P) X.w ad (cy.take (m*ta.cells)) (fun j v hj=>by
    rw[List.getElem?_take] at hj
    split at hj
    ·exact(sy ad rfl j v hj).2.1
    ·cases hj)
   rw[JY] at this
   simpa [Builtin.firstCells] using this
 have dd:off+0+(cy.take (m*ta.cells)).length<=cs.size:=by
  rw[JY,dx,<-hn]
  rcases xh with⟨g1,g2⟩|g
  ·have:m=0:=by omega
   subst this
   omega
  ·rw[g,Nat.add_zero,<-Nat.add_mul]
   exact Nat.mul_le_mul_right _ (by omega)
 let new:=(cs.toList.take off++cy.take (m*ta.cells)++cs.toList.drop (off+(cy.take (m*ta.cells)).length)).toArray
 have bS:=run_storeCells_at P r0 off T' (cy.take (m*ta.cells)) 0 cs X.w aD dd rz.one
 simp only[Nat.add_zero] at bS dd
 have aV:(execOp a.eval o).run P X.w= .ok (.value (.int .i64 m)) (X.row r0 new).w:=by
  have YP:Nat.min ys.length (n-lo)=m:=FC
  simp only[execOp,ho,resolve,invoke,builtin,Sem.run_bind,Sem.run_pure,Result.andThen_ok,List.map_toArray,List.map_cons,List.map_nil,Builtin.copy_,kq,hd]
  have e1:(Builtin.lenOf (a.eval x)).run P X.w= .ok ys.length X.w:=by rw[ev];simp [Builtin.lenOf]
  simp [run_underlying hu.1,e1,YP,jY,bS,goInt,lA hE hu.2]
  show _=X.w.setRow r0 new
  congr 1
  simp [new]
 have dP:new.toList=cs.toList.take off++cy.take (m*ta.cells)++cs.toList.drop (off+(cy.take (m*ta.cells)).length):=rfl
 have aL:bg X (.arr xs.length ta) (bX xs (ys.take m) lo:List (El ta)) new.toList:=by
  rw[dP,JY]
  by_cases m0:m=0
  ·subst m0
   have e1:bX xs (ys.take 0) lo=xs:=by unfold bX;simp
   rw[e1]
   simpa using ey
  ·have g:off=lo*ta.cells:=by rcases xh with⟨g1,_⟩|g<;>omega
   have h1:=L6 ey (show lo<=xs.length by omega)
   have h3:=L5 ey (show lo+m<=xs.length by omega)
   have:=FT h1 (FT rz h3)
   rw[show lo+(m+(xs.length-(lo+m)))=xs.length by omega] at this
   unfold bX
   rw[show(ys.take m).length=m by rw[List.length_take];omega,g,<-Nat.add_mul,List.append_assoc]
   exact this
 have b6:new.size=cs.size:=by
  have h1:new.toList.length=xs.length*ta.cells:=aL.2.1
  rw[dx,<-h1];simp
 have bG:bC (X.row r0 new) id r0 ⟨.aJ .row ta tb,(bX xs (ys.take (n-lo)) lo:List (El ta)),[]⟩:=by
  rw[htk]
  refine⟨how,new,T',setRow_heap X.w r0 cs new T' (0,0) aD,?_,fun j z hj=> ?_⟩
  ·rw[b6,dx]
   show _=List.length (bX xs (ys.take m) lo)*_
   rw[z182 _ _ _ (by rw[List.length_take];omega)]
  ·exact bg.ai (fun _ _=>mw (cs:=new) how) (aL.2.2 j z hj)
 refine⟨X.row r0 new,.int .i64 m,.inl aV,EV how,?_⟩
 rw[hm]
 exact(hr.row hb hβ how bG (.inl (by rw[Ty.aI dg];rfl))).fin jg (fun id t p hm=>by simp [i64] at hm)
theorem afA{X:ax}(l:List UInt8):bg X (.arr l.length (.int .u8)) (l.map fun c=>(c.toNat:Int):List Int) (l.map fun c=>Value.int .u8 c.toNat):=by
 refine⟨by show(l.map _).length=_;simp,by simp [Ty.cells],fun j y hj=> ?_⟩
 have hj:(l.map fun c=>(c.toNat:Int))[j]? =some y:=hj
 rw[List.getElem?_map] at hj
 obtain⟨c,hc,rfl⟩:=Option.map_eq_some_iff.1 hj
 have:((l.map fun c=>Value.int .u8 c.toNat).drop (j*(Ty.int IntKind.u8).cells)).take (Ty.int IntKind.u8).cells=[Value.int .u8 c.toNat]:=by
  rw[show(Ty.int IntKind.u8).cells=1 from rfl,Nat.mul_one]
  apply List.ext_getElem?
  intro i
  rw[List.getElem?_take]
  cases i with
  |zero=>simp [hc]
  |succ i=>simp
 rw[this]
 rfl
theorem acR(hE:ap P E)(hr:Rel X s a){d x:Operand}{T e:TypeId}{t:Ty}{ts:Array TypeId}(ho:o.op= .call ⟨.builtin .copy,#[d,x],ts⟩)(kq:ts[0]? =some T)(hT:E.ty T=some (.sl e t)){id n:Nat}{ta tb:Ty}
 (dy:s.aG d= .ptr id (.aJ (.iG n) ta tb) []) {y:ByteArray} {w:List (List Nat)} (JW:s.aG x= .aj .str y w) (h:jW t s id n ta tb y some=some u):aH P X s a o u:=by
 have hx:=hr.aG d
 rw[dy] at hx
 obtain⟨r0,hβ,cap,hd,mZ⟩:=hx
 unfold jW at h
 split at h
 case isFalse=>cases h
 rename_i YF
 have:=Ty.aI YF
 subst this
 split at h
 case isFalse=>cases h
 rename_i heq
 have:=Ty.aI heq
 subst this
 split at h
 case h_2=>cases h
 rename_i B hB
 split at h
 case isFalse=>cases h
 rename_i dg
 obtain⟨hb,r,h1,how,cs,T',aD,dx,fH⟩:=EU hr hB dg
 rw[hβ] at h1
 cases h1
 generalize(Ty.cast dg B.x:List Int)=xs at*
 cases hn:Nat.beq n (List.length xs)<;>rw[hn] at h
 ·cases h
 cases h
 have hn:=Nat.eq_of_beq_eq_true hn
 have hy:=hr.aG x
 rw[JW] at hy
 obtain⟨cy,ry,ev,_⟩:=hy
 have ev:a.eval x= .string y:=by rw[ev,nw ry]
 have hu:=(hE.ty T _ hT).dj
 have vf:(Ty.int IntKind.u8).cells=1:=rfl
 rw[vf,Nat.mul_one] at dx
 let l:=y.data.toList.take n
 have Rj:l.length=min n y.size:=by simp [l]
 have Re:List.take n (nH y)=l.map fun c=>(c.toNat:Int):=by simp [nH,l]
 have jY:(Builtin.firstCells 1 (Nat.min y.size n) (.string y)).run P X.w= .ok (l.map fun c=>Value.int .u8 c.toNat).toArray X.w:=by
  have e1:((y.extract 0 (Nat.min y.size n)).data.map fun b=>Value.int .u8 b.toNat)=(l.map fun c=>Value.int .u8 c.toNat).toArray:=by
   apply Array.ext'
   have e0:(y.extract 0 (Nat.min y.size n)).data.toList=l:=by
    rw[ByteArray.data_extract,Array.toList_extract,List.extract_eq_take_drop]
    show List.take (Nat.min y.size n-0) (y.data.toList.drop 0)=y.data.toList.take n
    rw[Nat.sub_zero,List.drop_zero]
    show List.take (min y.data.toList.length n) y.data.toList=y.data.toList.take n
    rw[Nat.min_comm,<-List.take_eq_take_min]
   rw[Array.toList_map,e0]
  simp only[Builtin.firstCells,Sem.run_pure,e1]
 have dd:0+(l.map fun c=>Value.int .u8 c.toNat).length<=cs.size:=by
  rw[List.length_map,dx,<-hn,Rj];omega
 let new:=((l.map fun c=>Value.int .u8 c.toNat)++cs.toList.drop l.length).toArray
 have rz:=afA (X:=X) l
 have bS:=run_storeCells_at P r0 0 T' (l.map fun c=>Value.int .u8 c.toNat) 0 cs X.w aD (by simpa using dd) rz.one
 have aV:(execOp a.eval o).run P X.w= .ok (.value (.int .i64 (l.length:Nat))) (X.row r0 new).w:=by
  have e1:(Builtin.lenOf (a.eval x)).run P X.w= .ok y.size X.w:=by rw[ev];simp [Builtin.lenOf]
  have e2:Nat.min y.size n=l.length:=by rw[Rj];exact Nat.min_comm _ _
  have e3:=jY
  rw[e2] at e3
  simp only[execOp,ho,resolve,invoke,builtin,Sem.run_bind,Sem.run_pure,Result.andThen_ok,List.map_toArray,List.map_cons,List.map_nil,Builtin.copy_,kq,hd]
  rw[ev] at e1⊢
  simp [run_underlying hu.1,e1,e2,e3,bS,goInt,lA hE hu.2,vf]
  rfl
 have ey:bg X (.arr xs.length (.int .u8)) xs cs.toList:=⟨rfl,by simpa [vf] using dx,fH⟩
 have aL:bg X (.arr xs.length (.int .u8)) (bX xs (l.map fun c=>(c.toNat:Int)) 0:List Int) new.toList:=by
  have hle:l.length<=xs.length:=by rw[Rj];omega
  have h3:=L5 ey hle
  have:=FT rz h3
  rw[show l.length+(xs.length-l.length)=xs.length by omega] at this
  unfold bX
  simp only[List.take_zero,List.nil_append,Nat.zero_add,List.length_map]
  rw[vf,Nat.mul_one] at this
  exact this
 have b6:new.size=cs.size:=by
  have h1:new.toList.length=xs.length*1:=aL.2.1
  rw[dx];simpa using h1
 have bG:bC (X.row r0 new) id r0 ⟨.aJ .row (.int .u8) tb,(bX xs (List.take n (nH y)) 0:List Int),[]⟩:=by
  rw[Re]
  refine⟨how,new,T',setRow_heap X.w r0 cs new T' (0,0) aD,?_,fun j z hj=> ?_⟩
  ·rw[b6,dx]
   show _=List.length (bX xs (l.map fun c=>(c.toNat:Int)) 0)*_
   rw[z182 _ _ _ (by rw[List.length_map,Rj];omega)]
   simp [vf]
  ·exact bg.ai (fun _ _=>mw (cs:=new) how) (aL.2.2 j z hj)
 refine⟨X.row r0 new,.int .i64 (l.length:Nat),.inl aV,EV how,?_⟩
 have Jw:(List.take n (nH y)).length=l.length:=by rw[Re,List.length_map]
 rw[Jw]
 exact(hr.row hb hβ how bG (.inl (by rw[Ty.aI dg];rfl))).fin jg (fun id t p hm=>by simp [i64] at hm)
theorem afN(hE:ap P E)(hr:Rel X s a){ops:List Oper}{dH:Array Operand}{ts:Array TypeId}(ho:o.op= .call ⟨.builtin .copy,dH,ts⟩){C:FuncId->bU Out}(h:act E C ops o s some=some u):aH P X s a o u:=by
 unfold act at h
 simp only[ho] at h
 split at h
 case h_2=>cases h
 rename_i d x T r rS BK
 have has:dH= #[d,x]:=by rw[<-Array.toArray_toList (xs:=dH),rS]
 have kq:ts[0]? =some T:=by rw[<-Array.getElem?_toList,BK];rfl
 subst has
 unfold copyV at h
 split at h
 ·rename_i e t id n ta tb hT dy
  split at h
  ·rename_i y w JW
   exact acR hE hr ho kq hT dy JW h
  ·exact zup hE hr ho kq hT dy (fun r hv=>by
    obtain⟨cap,h1,h2⟩:=hv
    exact⟨cap,0,h1,Nat.zero_le _,.inr (by simp)⟩) h
 ·rename_i e t id n ta tb l hT dy
  exact zup hE hr ho kq hT dy (fun r hv=>by
   obtain⟨cap,off,h1,h2,h3,h4⟩:=hv
   exact⟨cap,off,h1,h3,h4⟩) h
 ·cases h
end Go.Ref

namespace Go.Ref
open Go
variable {P:Program} {E:Env} {X:ax} {s:State} {a:Act} {o:Oper} {u:Out}
structure jG(X:ax)(l:List SV)(b:Option bB)(args:Array Value):Prop where
 size:args.size=l.length
 rep:∀(i:Nat) sv v,l[i]? =some sv->args[i]? =some v->aA X (.c i 0) sv v
 ptr:∀id t p,SV.ptr id t p∈l->id=0/\b.isSome=true
 box:∀B,b=some B->∃r,X.β 0=some r/\bC X 0 r B
 rows:b=none->∀g pl n,X.ow g≠ .row pl n
 om:l.any SV.bK=false
def yd(X Y:ax)(b:Option bB)(r:List SV)(b':Option bB)(v:Value):Prop:=
 ∃r0,cL {Y with β:=fun _=>some r0} .r r v/\
  (∀B',b'=some B'->bC Y 0 r0 B'/\(b.isSome=true->X.β 0=some r0))/\
  ((b'=none\/b.isSome=true)->∀id t p,SV.ptr id t p∉r)/\r.any SV.bK=false
def rK(P:Program)(f:FuncId):Prop:=∃fn c,P.funcs[f]? =some fn/\(fn.name== "runtime.NumGoroutine")=false/\fn.body=some c
def cV(P:Program)(C:ah)(f:FuncId):Prop:=
 ∀(l:List SV) (b:Option bB) (r:List SV) (b':Option bB),C (List SV×Option bB) f l b (fun r b=>some (r,b))=some (r,b')->rK P f/\
  ∀(X:ax) (args:Array Value),jG X l b args->Calls P f args X.w fun e w'=>match e with
   | .returned v=>∃Y,Y.w=w'/\Ext X Y/\yd X Y b r b' v
   |_=>False
def iK(k:Option Nat):Ow->Bool
 | .box id=>decide (k=some id)
 | .row (.b id _) _=>decide (k=some id)
 |_=>false
def io(k:Option Nat):Ow->Ow
 | .all=> .all
 | .ro n=> .ro n
 | .box id=>if k=some id then .box 0 else .ro 0
 | .row (.b id p) n=>if k=some id then .row (.b 0 p) n else .ro n
 | .row _ n=> .ro n
def jb(k:Option Nat)(d:Nat):Ow->Ow
 | .all=> .all
 | .ro n=> .ro n
 | .box 0=>match k with
   |some id=> .box id
   |none=> .ro 0
 | .box _=> .ro 0
 | .row (.r j p) n=> .row (.c d j p) n
 | .row (.b 0 p) n=>match k with
   |some id=> .row (.b id p) n
   |none=> .ro n
 | .row _ n=> .ro n
theorem Ln{k:Option Nat}{w:Ow}{i:Nat}:(io k w).used i↔w.used i:=by
 cases w with
 |all=>rfl
 |ro n=>rfl
 |box id=>simp only[io];split<;>simp [Ow.used]
 |row pl n=>
  cases pl with
  |b id p=>simp only[io];split<;>simp [Ow.used]
  |_=>rfl
theorem adb{k:Option Nat}{d:Nat}{w:Ow}{i:Nat}(h:w.used i):(jb k d w).used i:=by
 cases w with
 |all=>exact h
 |ro n=>exact h
 |box id=>exact h.elim
 |row pl n=>
  cases pl with
  |b id p=>
   cases id with
   |zero=>simp only[jb];split<;>exact h
   |succ id=>exact h
  |c i j p=>exact h
  |r j p=>exact h
theorem zv6{k:Option Nat}{w:Ow}(h:iK k w=false):(io k w).still:=by
 cases w with
 |all=>trivial
 |ro n=>trivial
 |box id=>simp only[iK,decide_eq_false_iff_not] at h;simp only[io];rw[if_neg h];trivial
 |row pl n=>
  cases pl with
  |b id p=>simp only[iK,decide_eq_false_iff_not] at h;simp only[io];rw[if_neg h];trivial
  |_=>trivial
def ax.cR(X:ax)(k:Option Nat):ax:=⟨X.w,fun g=>io k (X.ow g),match k with
 |some id=>fun _=>X.β id
 |none=>X.β⟩
theorem uR{k:Option Nat}{ad:Addr}{v:Value}:(X.cR k).az ad v↔X.az ad v:=by
 simp only[ax.az,ax.cR,Ln]
def ax.back(X Y:ax)(k k':Option Nat)(d:Nat)(β:Nat->Option Nat):ax:=
 ⟨Y.w,fun g=>if g<X.w.heap.size/\iK k (X.ow g)=false then X.ow g else jb k' d (Y.ow g),β⟩
section
variable {k k':Option Nat} {d:Nat} {β:Nat->Option Nat} {Y:ax}
theorem Ep(h:Ext (X.cR k) Y){g:Nat}(hg:g<X.w.heap.size)(hm:iK k (X.ow g)=false):(X.back Y k k' d β).ow g=X.ow g/\(X.back Y k k' d β).w.heap[g]? =X.w.heap[g]? /\(Y.ow g).still/\Y.ow g=io k (X.ow g):=by
 obtain⟨h1,h2⟩:=h.still g hg (zv6 hm)
 refine⟨by simp only[ax.back];rw[if_pos ⟨hg,hm⟩],h2,?_,h1⟩
 rw[h1];exact zv6 hm
theorem zd9(h:Ext (X.cR k) Y){g:Nat}(hs:¬(Y.ow g).still):(X.back Y k k' d β).ow g=jb k' d (Y.ow g):=by
 simp only[ax.back]
 rw[if_neg]
 rintro⟨hg,hm⟩
 exact hs (Ep (k':=k') (d:=d) (β:=β) h hg hm).2.2.1
theorem uQ(h:Ext (X.cR k) Y){ad:Addr}{v:Value}(hs:Y.az ad v):(X.back Y k k' d β).az ad v:=by
 refine⟨hs.1,hs.2.1,?_⟩
 simp only[ax.back]
 split
 ·rename_i hc
  have:=(Ep (k':=k') (d:=d) (β:=β) h hc.1 hc.2).2.2.2
  have hu:=hs.2.2
  rw[this,Ln] at hu
  exact hu
 ·exact adb hs.2.2
theorem zpx(h:Ext (X.cR k) Y)(hβ:β 0=X.β 0):Ext X (X.back Y k k' d β) where
 az:=fun ad v hs=>uQ h (h.az ad v (uR.2 hs))
 size:=h.size
 os:=h.os
 tape:=h.tape
 output:=h.output
 β0:=hβ
 still:=fun g hg bS=>by
  have hm:iK k (X.ow g)=false:=by cases hx:X.ow g<;>rw[hx] at bS<;>first|rfl|exact bS.elim
  obtain⟨h1,h2,_⟩:=Ep (k':=k') (d:=d) (β:=β) h hg hm
  exact⟨h1,h2⟩
theorem bp.back(h:Ext (X.cR k) Y){pl:Place}(fI:∀n,iK k (.row pl n)=false){e:TypeId}{m n:Nat}{v:Value}(ho:bp X pl e m n v):bp (X.back Y k k' d β) pl e m n v:=by
 rcases ho with ho|⟨g,cap,cur,h1,h2,h3,h4,h5,h6⟩
 ·exact .inl ho
 ·obtain⟨k1,k2,_⟩:=Ep (k':=k') (d:=d) (β:=β) h (vv h2) (by rw[h6];exact fI _)
  exact .inr ⟨g,cap,cur,h1,k2.trans h2,h3,h4,h5,k1.trans h6⟩
theorem bk.back(h:Ext (X.cR k) Y){pl:List Nat->Place}(fI:∀p n,iK k (.row (pl p) n)=false){t:Ty}{x:El t}{cs:List Value}{own:List (List Nat)}(ho:bk X pl t x cs own):bk (X.back Y k k' d β) pl t x cs own:=fun p hp=>by
 obtain⟨e,t',xs,v,g0,g1,g2,g3⟩:=ho p hp
 exact⟨e,t',xs,v,g0,g1,g2,g3.back h (fI p)⟩
theorem bk.out(h:Ext (X.cR k) Y){pl gd:List Nat->Place}(fI:∀p n,jb k' d (.row (pl p) n)= .row (gd p) n){t:Ty}{x:El t}{cs:List Value}{own:List (List Nat)}(ho:bk Y pl t x cs own):bk (X.back Y k k' d β) gd t x cs own:=fun p hp=>by
 obtain⟨e,t',xs,v,g0,g1,g2,g3⟩:=ho p hp
 refine⟨e,t',xs,v,g0,g1,g2,?_⟩
 rcases g3 with ho|⟨g,cap,cur,h1,h2,h3,h4,h5,h6⟩
 ·exact .inl ho
 ·refine .inr ⟨g,cap,cur,h1,h2,h3,h4,h5,?_⟩
  rw[zd9 h (by rw[h6];exact fun e=>e),h6,fI]
theorem aA.back(h:Ext (X.cR k) Y){i j:Nat}{sv:SV}{v:Value}(hβ:∀id t p,sv= .ptr id t p->β id=X.β id)(hl:∀id a b n,sv= .bz id a b n->k≠some id/\β id=X.β id)(hr:aA X (.c i j) sv v):aA (X.back Y k k' d β) (.c i j) sv v:=by
 cases sv with
 |undef=>trivial
 |skip=>exact hr
 |cF=>exact hr
 |dN=>exact hr
 |over=>exact hr
 |aj t x own=>
  obtain⟨cs,h1,h2,h3⟩:=hr
  exact⟨cs,h1.ai (fun _ _ hs=>uQ h (h.az _ _ (uR.2 hs))),h2,h3.back h (fun _ _=>rfl)⟩
 |ptr id t p=>
  obtain⟨r,h1,h2⟩:=hr
  exact⟨r,(hβ id t p rfl).trans h1,h2⟩
 |view t x=>
  obtain⟨ad,cs,h1,h2,h3,h4⟩:=hr
  exact⟨ad,cs,h1,h2,h3.ai (fun _ _ hs=>uQ h (h.az _ _ (uR.2 hs))),fun i u hi=>uQ h (h.az _ _ (uR.2 (h4 i u hi)))⟩
 |cap f t x u y=>exact rC (fun _ _ hs=>uQ h (h.az _ _ (uR.2 hs))) hr
 |bz id a b n=>
  obtain⟨r,h1,h2,h3⟩:=hr
  obtain⟨hk,hb⟩:=hl id a b n rfl
  obtain⟨e1,e2,_⟩:=Ep (k':=k') (d:=d) (β:=β) h (World.block_lt_of_cell? X.w _ h3) (by rw[h2];simp [iK,hk])
  refine⟨r,hb.trans h1,e1.trans h2,?_⟩
  simp only[World.cell?] at h3⊢
  rw[e2];exact h3
theorem bC.back(h:Ext (X.cR k) Y){id r:Nat}{B:bB}(hk:k≠some id)(hb:bC X id r B):bC (X.back Y k k' d β) id r B:=by
 obtain⟨h3,h1⟩:=hb
 have hm:iK k (X.ow r)=false:=by rw[h3];simp [iK,hk]
 obtain⟨k1,k2,_⟩:=Ep (k':=k') (d:=d) (β:=β) h h1.lt hm
 exact⟨k1.trans h3,h1.move (fun _ _ hs=>uQ h (h.az _ _ (uR.2 hs))) k2 (fun cs h4=>h4.back h (fun _ _=>by simp [iK,hk])) fun _ _ g o _ ho hw=>by
  obtain⟨e1,e2,_⟩:=Ep (k':=k') (d:=d) (β:=β) h (vv ho) (by rw[hw];simp [iK,hk])
  exact⟨e2.trans ho,e1.trans hw⟩⟩
theorem bC.out(h:Ext (X.cR k) Y){id r:Nat}{B:bB}(hk:k'=some id)(hb:bC Y 0 r B):bC (X.back Y k k' d β) id r B:=by
 obtain⟨h3,h1⟩:=hb
 refine⟨?_,h1.move (fun _ _ hs=>uQ h hs) rfl (fun cs h4=>h4.out h (fun p n=>by simp [jb,hk])) fun _ _ g o _ ho hw=>⟨ho,by rw[zd9 h (by rw[hw];exact fun hh=>hh),hw];simp [jb,hk]⟩⟩
 rw[zd9 h (by rw[h3];exact fun e=>e),h3]
 simp [jb,hk]
theorem aA.out(h:Ext (X.cR k) Y){r0 id j:Nat}{sv:SV}{v:Value}(hβ:∀bc t p,sv= .ptr bc t p->β id=some r0)(hn:sv.bK=false)(hr:aA {Y with β:=fun _=>some r0} (.r j) sv v):aA (X.back Y k k' d β) (.c d j) (sv.gh id) v:=by
 cases sv with
 |undef=>trivial
 |skip=>exact hr
 |cF=>exact hr
 |dN=>exact hr
 |over=>exact hr
 |aj t x own=>
  obtain⟨cs,h1,h2,h3⟩:=hr
  have h3:bk Y (.r j) t x cs own:=h3
  exact⟨cs,bg.ai (fun ad v (hs:({Y with β:=fun _=>some r0}:ax).az ad v)=>uQ (Y:=Y) h hs) h1,h2,h3.out h (fun _ _=>rfl)⟩
 |ptr bc t p=>
  obtain⟨r,h1,h2⟩:=hr
  have h1:some r0=some r:=h1
  cases h1
  exact⟨r0,hβ bc t p rfl,h2⟩
 |view t x=>
  obtain⟨ad,cs,h1,h2,h3,h4⟩:=hr
  exact⟨ad,cs,h1,h2,bg.ai (fun ad v (hs:({Y with β:=fun _=>some r0}:ax).az ad v)=>uQ (Y:=Y) h hs) h3,fun i u hi=>uQ h (show Y.az _ _ from h4 i u hi)⟩
 |cap f t x u y=>exact rC (X:={Y with β:=fun _=>some r0}) (fun ad v (hs:({Y with β:=fun _=>some r0}:ax).az ad v)=>uQ (Y:=Y) h hs) hr
 |bz bc a b n=>cases hn
theorem Rel.back(h:Ext (X.cR k) Y)(hr:Rel X s a)(hβ:∀(id:Nat) B,s.bs[id]? =some (some B)->β id=X.β id)(hk:∀(id:Nat) B,s.bs[id]? =some (some B)->k≠some id):Rel (X.back Y k k' d β) s a where
 size:=hr.size
 gB:=hr.gB
 bP:=fun i l v hl hv=>(hr.bP i l v hl hv).iJ fun j sv u hm jz=>jz.back h (fun id t p e=>by
  obtain⟨B,hB⟩:=hr.live i l id t p hl (e▸List.mem_of_getElem? hm)
  exact hβ id B hB) (fun id c d n e=>by
  obtain⟨_,⟨x,own,hb,_⟩,_⟩:=hr.bz i l id c d n hl (e▸List.mem_of_getElem? hm)
  exact⟨hk id _ hb,hβ id _ hb⟩)
 boxes:=fun id B hB=>by
  obtain⟨r,h1,h2⟩:=hr.boxes id B hB
  exact⟨r,(hβ id B hB).trans h1,h2.back h (hk id B hB)⟩
 live:=hr.live
 defers:=hr.defers
 bz:=hr.bz
theorem Rel.wR(h:Ext (X.cR k) Y)(hr:Rel X s a){id r:Nat}{B B':bB}(hb:s.bs[id]? =some (some B))(hk:k=some id)(Js:k'=some id)(hβ:X.β id=some r)(hB:bC Y 0 r B')(hg:B.t.eF=false\/ []∈B.own):Rel (X.back Y k k' d X.β) (s.aC (some (id,B'))) a where
 size:=hr.size
 gB:=by simpa [State.aC] using hr.gB
 bP:=fun i l v hl hv=>(hr.bP i l v hl hv).iJ fun j sv u hm jz=>jz.back h (fun _ _ _ _=>rfl) (fun bc c d n e=>⟨fun e2=>by
  rw[hk] at e2
  cases e2
  exact hr.om hb hg i l c d n hl (e▸List.mem_of_getElem? hm),rfl⟩)
 boxes:=fun bc B2 cT=>by
  have aq:id<s.bs.length:=(List.getElem?_eq_some_iff.1 hb).1
  simp only[State.aC,List.getElem?_set] at cT
  by_cases e:id=bc
  ·subst e
   rw[if_pos rfl,if_pos aq] at cT
   cases cT;exact⟨r,hβ,hB.out h Js⟩
  ·rw[if_neg e] at cT
   obtain⟨r',h1,h2⟩:=hr.boxes bc B2 cT
   exact⟨r',h1,h2.back h (by rw[hk];intro e2;cases e2;exact e rfl)⟩
 live:=fun i l bc t p hi hm=>by
  have aq:id<s.bs.length:=(List.getElem?_eq_some_iff.1 hb).1
  obtain⟨B2,cT⟩:=hr.live i l bc t p hi hm
  simp only[State.aC,List.getElem?_set]
  by_cases e:id=bc
  ·subst e;exact⟨B',by rw[if_pos rfl,if_pos aq]⟩
  ·rw[if_neg e];exact⟨B2,cT⟩
 defers:=hr.defers
 bz:=hr.bz.aC (hr.om hb hg)
end
theorem aA.cR{k:Option Nat}{pl gd:List Nat->Place}{t:Ty}{x:El t}{w:List (List Nat)}{v:Value}(hr:aA X pl (.aj t x w) v):aA (X.cR k) gd (.aj t x []) v:=by
 obtain⟨cs,h1,h2,_⟩:=hr
 exact⟨cs,h1.ai (fun _ _=>uR.2),h2,mu⟩
theorem bC.cR{id r:Nat}{B:bB}(hb:bC X id r B):bC (X.cR (some id)) 0 r B:=by
 obtain⟨h3,h1⟩:=hb
 refine⟨by simp [ax.cR,h3,io],h1.move (fun _ _=>uR.2) rfl (fun cs h4 p hp=> ?_) fun _ _ g o _ ho hw=>⟨ho,by simp [ax.cR,hw,io]⟩⟩
 obtain⟨e,t',xs,v,g0,g1,g2,g3⟩:=h4 p hp
 refine⟨e,t',xs,v,g0,g1,g2,?_⟩
 rcases g3 with ho|⟨g,cap,cur,k1,k2,k3,k4,k5,k6⟩
 ·exact .inl ho
 ·exact .inr ⟨g,cap,cur,k1,k2,k3,k4,k5,by simp [ax.cR,k6,io]⟩
theorem zpv:∀(vs l:List SV) (b:Option (Nat×bB)),ji s vs=some (l,b)->l.any SV.bK=false
 | [],l,b,h=>by
   simp only[ji,Option.some.injEq,Prod.mk.injEq] at h
   rw[<-h.1];rfl
 |v::r,l,b,h=>by
  simp only[ji] at h
  split at h
  ·cases h
  rename_i l1 b1 h1
  have ih:=zpv r l1 b1 h1
  split at h
  ·cases h;simpa [SV.bK] using ih
  ·cases h;simpa [SV.bK] using ih
  ·cases h;simpa [SV.bK] using ih
  ·split at h
   case h_2=>cases h
   split at h
   case isFalse=>cases h
   cases h;simpa [SV.bK] using ih
  ·cases h
theorem zpw(hr:Rel X s a):∀(vs:List (SV×Value)) (l:List SV) (b:Option (Nat×bB)),(∀x∈vs,∃q,aA X q x.1 x.2)->ji s (vs.map (·.1))=some (l,b)->l.length=vs.length/\
 (∀id B,b=some (id,B)->s.bs[id]? =some (some B))/\
 (∀id t p,SV.ptr id t p∈l->id=0/\b.isSome=true)/\
 ∀k,(∀id B,b=some (id,B)->k=some id)->∀(i:Nat) sv x,l[i]? =some sv->vs[i]? =some x->∀q,aA (X.cR k) q sv x.2:=by
 intro vs
 induction vs with
 |nil=>
  intro l b _ h
  simp only[List.map_nil,ji,Option.some.injEq,Prod.mk.injEq] at h
  obtain⟨rfl,rfl⟩:=h
  refine⟨rfl,(fun id B e=>by cases e),(fun id t p hm=>by cases hm),fun k _ i sv x hl=>by simp at hl⟩
 |cons x r ih=>
  intro l b iV h
  simp only[List.map_cons,ji] at h
  split at h
  ·cases h
  rename_i l1 b1 h1
  obtain⟨i1,i2,i3,i4⟩:=ih l1 b1 (fun y hy=>iV y (List.mem_cons_of_mem _ hy)) h1
  obtain⟨q0,hx⟩:=iV x List.mem_cons_self
  have fin:∀(sv:SV),l=sv::l1->(∀id B,b1=some (id,B)->b=b1)->(∀id B,b=some (id,B)->s.bs[id]? =some (some B))->(∀id t p,sv= .ptr id t p->id=0/\b.isSome=true)->
   (∀k,(∀id B,b=some (id,B)->k=some id)->∀q,aA (X.cR k) q sv x.2)->l.length=(x::r).length/\
   (∀id B,b=some (id,B)->s.bs[id]? =some (some B))/\
   (∀id t p,SV.ptr id t p∈l->id=0/\b.isSome=true)/\
   ∀k,(∀id B,b=some (id,B)->k=some id)->∀(i:Nat) sv y,l[i]? =some sv->(x::r)[i]? =some y->∀q,aA (X.cR k) q sv y.2:=by
   intro sv hl hb bG bI aL
   subst hl
   refine⟨by simp [i1],bG,fun id t p hm=> ?_,fun k hk i sv' y hl hv=> ?_⟩
   ·rcases List.mem_cons.1 hm with e|hm
    ·exact bI id t p e.symm
    ·obtain⟨j1,j2⟩:=i3 id t p hm
     cases nz:b1 with
     |none=>rw[nz] at j2;cases j2
     |some bb=>rw[hb bb.1 bb.2 nz];exact⟨j1,j2⟩
   ·cases i with
    |zero=>
     simp only[List.getElem?_cons_zero,Option.some.injEq] at hl hv
     subst hl hv
     exact aL k hk
    |succ i=>
     simp only[List.getElem?_cons_succ] at hl hv
     exact i4 k (fun id B e=>hk id B (by rw[hb id B e];exact e)) i sv' y hl hv
  obtain⟨x1,x2⟩:=x
  simp only at h hx fin
  split at h
  ·cases h
   exact fin _ rfl (fun _ _ _=>rfl) i2 (fun _ _ _ e=>by cases e) (fun k _ q=>hx.cR)
  ·cases h
   exact fin _ rfl (fun _ _ _=>rfl) i2 (fun _ _ _ e=>by cases e) (fun k _ q=>hx)
  ·cases h
   refine fin _ rfl (fun _ _ _=>rfl) i2 (fun _ _ _ e=>by cases e) (fun k _ q=> ?_)
   obtain⟨ad,cs,g1,g2,g3,g4⟩:=hx
   exact⟨ad,cs,g1,g2,g3.ai (fun _ _=>uR.2),fun i w hi=>uR.2 (g4 i w hi)⟩
  ·rename_i id t
   split at h
   case h_2=>cases h
   rename_i B hB
   split at h
   case isFalse=>cases h
   cases h
   obtain⟨rr,g1,g2⟩:=hx
   refine fin _ rfl (fun _ _ e=>by cases e) (fun id B e=>by cases e;exact z28 hB) (fun _ _ _ e=>by cases e;exact⟨rfl,rfl⟩) (fun k hk q=> ?_)
   have:=hk id B rfl
   subst this
   exact⟨rr,g1,g2⟩
  ·cases h
def kv(P:Program)(X:ax)(s:State)(a:Act)(o:Oper)(u:Out):Prop:=
 ∀(next:Act->World->Prop) (Q:Exit->Act->World->Prop),(∀Y v,Ext X Y->Rel Y (s.apply o.dst u) (a.put o.dst v)->next (a.put o.dst v) Y.w)->o.wp P a X.w next Q
theorem aH.does(h:aH P X s a o u):kv P X s a o u:=fun next Q hn=>by
 obtain⟨Y,v,h1,h2,h3⟩:=h
 unfold Oper.wp
 rcases h1 with h1|⟨h1,rfl⟩
 ·rw[h1,Oper.upon_value];exact hn Y v h2 h3
 ·rw[h1,Oper.upon_skip];exact hn Y _ h2 h3
theorem K4{f:FuncId}(h:rK P f){dH:Array Operand}{ts:Array TypeId}(ho:o.op= .call ⟨.value (.func f),dH,ts⟩)(w:World):(execOp a.eval o).run P w= .ok (.enter f (dH.map a.eval)) w:=by
 obtain⟨fn,c,h1,h2,h3⟩:=h
 simp [execOp,ho,resolve,Deferred.ofValue,Act.eval,invoke,callFunc,h1,h3]
 simpa using h2
theorem zvm{l:List SV}{id:Nat}(h:∀id t p,SV.ptr id t p∉l):l.map (SV.gh id)=l:=by
 induction l with
 |nil=>rfl
 |cons v r ih=>
  rw[List.map_cons,ih (fun id t p hm=>h id t p (List.mem_cons_of_mem _ hm))]
  congr 1
  cases v<;>first|rfl|skip
  exact absurd (List.mem_cons_self) (h _ _ _)
theorem zqm{k k':Option Nat}{d:Nat}{β:Nat->Option Nat}{Y:ax}(h:Ext (X.cR k) Y){r0 id:Nat}{r:List SV}{v:Value}(hβ:∀bc t p,SV.ptr bc t p∈r->β id=some r0)(hn:r.any SV.bK=false)(hr:cL {Y with β:=fun _=>some r0} .r r v):cL (X.back Y k k' d β) (.c d) (r.map (SV.gh id)) v:=by
 match r,hr with
 | [sv],hr=>exact aA.out h (fun bc t p e=>hβ bc t p (by simp [e])) (by simpa using hn) hr
 | [],⟨vs,h1,h2,h3⟩=>exact⟨vs,h1,h2,fun j s u hs=>by simp at hs⟩
 |x::y::r,⟨vs,h1,h2,h3⟩=>
  refine⟨vs,h1,by simpa using h2,fun j sv u hs hu=> ?_⟩
  have hs:((x::y::r).map (SV.gh id))[j]? =some sv:=hs
  rw[List.getElem?_map] at hs
  obtain⟨s0,eX,rfl⟩:=Option.map_eq_some_iff.1 hs
  exact aA.out h (fun bc t p e=>hβ bc t p (e▸List.mem_of_getElem? eX)) (by simpa using List.any_eq_false.1 hn s0 (List.mem_of_getElem? eX)) (h3 j s0 u eX hu)
theorem LI{l:List SV}{id:Nat}(h:l.any SV.bK=false):(l.map (SV.gh id)).any SV.bK=false:=List.any_eq_false.2 fun v hv=>by
 obtain⟨w,hw,rfl⟩:=List.mem_map.1 hv
 have:=List.any_eq_false.1 h w hw
 cases w<;>first|exact this|simp [SV.gh,SV.bK]
theorem ac6:∀g pl n,(X.cR none).ow g≠ .row pl n:=fun g pl n=>by
 show io none (X.ow g)≠_
 cases X.ow g with
 |row q m=>cases q<;>simp [io]
 |_=>simp [io]
theorem zdi(hr:Rel X s a){C:ah}(hC:C.Nat){f:FuncId}(hf:cV P C f){vs:List (SV×Value)}(xk:∀x∈vs,∃q,aA X q x.1 x.2)(eA:rK P f->(execOp a.eval o).run P X.w= .ok (.enter f (vs.map (·.2)).toArray) X.w)(h:fP (C Out) s o.dst f (vs.map (·.1)) some=some u):kv P X s a o u:=by
 have aV:=eA
 clear eA
 unfold fP at h
 have enter:∀(l:List SV) (b:Option (Nat×bB)) (k:Option Nat),ji s (vs.map (·.1))=some (l,b)->(∀id B,b=some (id,B)->k=some id)->(b=none->k=none)->jG (X.cR k) l (b.map (·.2)) (vs.map (·.2)).toArray:=by
  intro l b k bV hk Aj
  obtain⟨i1,i2,i3,i4⟩:=zpw hr vs l b xk bV
  refine⟨by simpa using i1.symm,fun i sv v hl hv=> ?_,fun id t p hm=> ?_,fun B hB=> ?_,fun hb=> ?_,zpv _ _ _ bV⟩
  ·rw[List.getElem?_toArray,List.getElem?_map] at hv
   obtain⟨x,hx,rfl⟩:=Option.map_eq_some_iff.1 hv
   exact i4 k hk i sv x hl hx _
  ·obtain⟨j1,j2⟩:=i3 id t p hm
   exact⟨j1,by simpa using j2⟩
  ·obtain⟨bb,hbb,rfl⟩:=Option.map_eq_some_iff.1 hB
   obtain⟨id,B⟩:=bb
   obtain⟨r,h1,h2⟩:=hr.boxes id B (i2 id B hbb)
   have:=hk id B hbb
   subst this
   exact⟨r,h1,h2.cR⟩
  ·have hb:b=none:=by cases b<;>simp at hb⊢
   rw[Aj hb]
   exact ac6
 split at h
 ·rename_i l bV
  obtain⟨⟨r,b'⟩,mY,h⟩:=jD (hC Out _ f l none _ (fun r b=>some (r,b)) (fun z=>match z.2 with
   |none=>some {v:=z.1}
   |some B=>match o.dst with
    |some d=>match s.bs[d+1]? with
     |some none=>some {v:=z.1.map (SV.gh (d+1)),bx:=some (d+1,B)}
     |_=>none
    |none=>none) (fun r b=>rfl)) h
  obtain⟨eA,m4⟩:=hf l none r b' mY
  have gV:=enter l none none bV (fun id B e=>by cases e) (fun _=>rfl)
  intro next Q hn
  unfold Oper.wp
  rw[aV eA,Oper.upon_enter]
  refine(m4 (X.cR none) _ gV).mono fun e w' he=> ?_
  cases e with
  |returned v=>
   obtain⟨Y,rfl,aZ,r0,aL,bG,oi,dP⟩:=he
   simp only at h
   cases b' with
   |none=>
    cases h
    have hp:=oi (.inl rfl)
    have cf:=zpx (k':=none) (d:=o.dst.getD 0) (β:=X.β) aZ rfl
    refine hn (X.back Y none none (o.dst.getD 0) X.β) v cf ?_
    refine(Rel.back (k':=none) aZ hr (fun _ _ _=>rfl) (fun _ _ _=>by simp)).fin ?_ (fun id t p hm=>absurd hm (hp id t p)) dP
    have:=zqm (k':=none) (d:=o.dst.getD 0) (β:=X.β) (id:=0) aZ (fun bc t p hm=>absurd hm (hp bc t p)) dP aL
    rw[zvm hp] at this
    exact this
   |some B=>
    simp only at h
    split at h
    case h_2=>cases h
    rename_i d hd
    split at h
    case h_2=>cases h
    rename_i iT
    cases h
    have aq:d+1<s.bs.length:=(List.getElem?_eq_some_iff.1 iT).1
    obtain⟨hB,_⟩:=bG B rfl
    let β:Nat->Option Nat:=fun id=>if id=d+1 then some r0 else X.β id
    have hβd:β (d+1)=some r0:=by simp [β]
    have cf:=zpx (k':=some (d+1)) (d:=d) (β:=β) aZ (by simp [β])
    refine hn (X.back Y none (some (d+1)) d β) v cf ?_
    have bu:=(Rel.back (k':=some (d+1)) (d:=d) (β:=β) aZ hr (fun id B2 cT=>by
     show(if _ then _ else _)=_
     rw[if_neg (fun e=>by rw[e,iT] at cT;cases cT)]) (fun _ _ _=>by simp)).fj aq iT hβd (hB.out aZ rfl)
    rw[hd]
    refine bu.put (fun d' e=> ?_) (fun id t p hm=> ?_) (LI dP)
    ·cases e
     exact zqm aZ (fun _ _ _ _=>hβd) dP aL
    ·obtain⟨s0,_,he0⟩:=List.mem_map.1 hm
     have:id=d+1:=by
      cases s0<;>simp [SV.gh] at he0
      exact he0.1.symm
     subst this
     exact⟨B,by simp [State.close,State.aC,List.getElem?_set,aq]⟩
  |panicked c=>exact he.elim
  |outgrown=>exact he.elim
 ·rename_i l id B bV
  split at h
  case isTrue=>cases h
  rename_i qW
  have hg:B.t.eF=false\/ []∈B.own:=by
   rw[Bool.not_eq_true,Bool.and_eq_false_iff,Bool.not_eq_false'] at qW
   exact qW.imp (fun h=>h) AR
  obtain⟨⟨r,b'⟩,mY,h⟩:=jD (hC Out _ f l (some B) _ (fun r b=>some (r,b)) (fun z=>match z.2 with
   |some B'=>if B'.t.cp B.t=true then some {v:=z.1,bx:=some (id,B')} else none
   |none=>none) (fun r b=>rfl)) h
  obtain⟨eA,m4⟩:=hf l (some B) r b' mY
  have gV:=enter l (some (id,B)) (some id) bV (fun id B e=>by cases e;rfl) (fun e=>by cases e)
  obtain⟨_,i2,_,_⟩:=zpw hr vs l _ xk bV
  have hb:=i2 id B rfl
  intro next Q hn
  unfold Oper.wp
  rw[aV eA,Oper.upon_enter]
  refine(m4 (X.cR (some id)) _ gV).mono fun e w' he=> ?_
  cases e with
  |returned v=>
   obtain⟨Y,rfl,aZ,r0,aL,bG,oi,dP⟩:=he
   simp only at h
   cases b' with
   |none=>cases h
   |some B'=>
    simp only at h
    split at h
    case isFalse=>cases h
    cases h
    have hp:=oi (.inr rfl)
    obtain⟨hB,hβ⟩:=bG B' rfl
    have hβ:=hβ rfl
    have cf:=zpx (k':=some id) (d:=o.dst.getD 0) (β:=X.β) aZ rfl
    refine hn (X.back Y (some id) (some id) (o.dst.getD 0) X.β) v cf ?_
    refine(Rel.wR (k:=some id) (k':=some id) aZ hr hb rfl rfl hβ hB hg).fin ?_ (fun id t p hm=>absurd hm (hp id t p)) dP
    have:=zqm (k':=some id) (d:=o.dst.getD 0) (β:=X.β) (id:=0) aZ (fun bc t p hm=>absurd hm (hp bc t p)) dP aL
    rw[zvm hp] at this
    exact this
  |panicked c=>exact he.elim
  |outgrown=>exact he.elim
 ·cases h
theorem zd8(hr:Rel X s a)(dH:Array Operand):∀x∈dH.toList.map (fun x=>(s.aG x,a.eval x)),∃q,aA X q x.1 x.2:=fun x hx=>by
 obtain⟨y,_,rfl⟩:=List.mem_map.1 hx
 exact⟨_,hr.aG y⟩
theorem LM{X:ax}{pl:List Nat->Place}{sv:SV}{v:Value}(h:aA X pl sv v):aA X pl sv.shut v:=by
 cases sv with
 |aj t x own=>
  obtain⟨cs,h1,h2,_⟩:=h
  exact⟨cs,h1,h2,mu⟩
 |bz id a b j=>trivial
 |_=>exact h
theorem agF{X:ax}{pl:Nat->List Nat->Place}{l:List SV}{v:Value}(h:cL X pl l v):cL X pl (l.map SV.shut) v:=by
 match l,h with
 | [sv],h=>exact LM (sv:=sv) h
 | [],h=>exact h
 |x::y::r,⟨vs,g1,g2,g3⟩=>
  refine⟨vs,g1,by simpa using g2,fun j sv u lW hu=> ?_⟩
  have lW:((x::y::r).map SV.shut)[j]? =some sv:=lW
  rw[List.getElem?_map] at lW
  obtain⟨s0,eX,rfl⟩:=Option.map_eq_some_iff.1 lW
  exact LM (g3 j s0 u eX hu)
theorem agE{l:List SV}{j:Nat}{t:Ty}{p:List Nat}(h:SV.ptr j t p∈l.map SV.shut):SV.ptr j t p∈l:=by
 obtain⟨s0,eX,he⟩:=List.mem_map.1 h
 cases s0<;>first|(cases he;done)|(rw[<-he];exact eX)|skip
theorem Rel.bO(hr:Rel X s a){d:Nat}{l:List SV}:Rel X {s with sl:=s.sl.set d l} a->Rel X {s with sl:=s.sl.set d (l.map SV.shut)} a:=fun h=>{
 size:=by simpa using hr.size
 gB:=by simpa using hr.gB
 bP:=fun i l' v hl hv=>by
  replace hl:(s.sl.set d (l.map SV.shut))[i]? =some l':=hl
  rw[List.getElem?_set] at hl
  split at hl
  ·rename_i tJ
   split at hl
   ·cases hl
    rename_i aq
    exact agF (h.bP i l v (by show(s.sl.set d l)[i]? =_;rw[List.getElem?_set,if_pos tJ,if_pos aq]) hv)
   ·cases hl
  ·rename_i tJ
   exact h.bP i l' v (by show(s.sl.set d l)[i]? =_;rw[List.getElem?_set,if_neg tJ];exact hl) hv
 boxes:=h.boxes
 live:=fun i l' id t p hl hm=>by
  replace hl:(s.sl.set d (l.map SV.shut))[i]? =some l':=hl
  rw[List.getElem?_set] at hl
  split at hl
  ·rename_i tJ
   split at hl
   ·cases hl
    rename_i aq
    exact h.live i l id t p (by show(s.sl.set d l)[i]? =_;rw[List.getElem?_set,if_pos tJ,if_pos aq]) (agE hm)
   ·cases hl
  ·rename_i tJ
   exact h.live i l' id t p (by show(s.sl.set d l)[i]? =_;rw[List.getElem?_set,if_neg tJ];exact hl) hm
 defers:=h.defers
 bz:=h.bz.less (fun i l' id c b j hl hm=>by
  replace hl:(s.sl.set d (l.map SV.shut))[i]? =some l':=hl
  rw[List.getElem?_set] at hl
  split at hl
  ·split at hl
   ·cases hl
    exact(XR (zif l) hm).elim
   ·cases hl
  ·rename_i tJ
   exact⟨l',by show(s.sl.set d l)[i]? =_;rw[List.getElem?_set,if_neg tJ];exact hl,hm,fun h=>h⟩) (fun id c b x own _ hb ho=>⟨x,own,hb,ho⟩)}
theorem kv.shut(h:kv P X s a o u):kv P X s a o u.shut:=fun next Q hn=>h next Q fun Y v aZ bu=>hn Y v aZ (by
 unfold State.apply at bu⊢
 show Rel Y (((s.close u.cl).aC u.bx).au o.dst (u.v.map SV.shut)) _
 generalize(s.close u.cl).aC u.bx=s1 at*
 cases hd:o.dst with
 |none=>rw[hd] at bu;exact bu
 |some d=>
  rw[hd] at bu
  have e:=Rel.bO (X:=Y) (s:={s1 with sl:=s1.sl.set d u.v}) (a:=a.put (some d) v) (d:=d) (l:=u.v) bu (by
   show Rel Y {s1 with sl:=(s1.sl.set d u.v).set d u.v} _
   rw[List.set_set];exact bu)
  show Rel Y {s1 with sl:=s1.sl.set d (u.v.map SV.shut)} _
  have e2:Rel Y {s1 with sl:=(s1.sl.set d u.v).set d (u.v.map SV.shut)} (a.put (some d) v):=e
  rw[List.set_set] at e2
  exact e2)
def fb(id j:Nat):Ow->Bool
 | .row (.b bc (j'::_)) _=>Nat.beq bc id&&Nat.beq j' j
 |_=>false
def x9(id j:Nat):Ow->Ow
 | .all=> .all
 | .ro n=> .ro n
 | .box _=> .ro 0
 | .row (.b bc (j'::p)) n=>if Nat.beq bc id&&Nat.beq j' j then .row (.b 0 p) n else .ro n
 | .row _ n=> .ro n
def XJ(id j d:Nat):Ow->Ow
 | .all=> .all
 | .ro n=> .ro n
 | .box _=> .ro 0
 | .row (.r i p) n=> .row (.c d i p) n
 | .row (.b 0 p) n=> .row (.b id (j::p)) n
 | .row _ n=> .ro n
theorem zo7{id j:Nat}{w:Ow}{i:Nat}:(x9 id j w).used i↔w.used i:=by
 cases w with
 |all=>rfl
 |ro n=>rfl
 |box id=>simp [x9,Ow.used]
 |row pl n=>
  cases pl with
  |b bc p=>
   cases p with
   |nil=>rfl
   |cons j' p=>simp only[x9];split<;>rfl
  |_=>rfl
theorem z193{id j d:Nat}{w:Ow}{i:Nat}(h:w.used i):(XJ id j d w).used i:=by
 cases w with
 |all=>exact h
 |ro n=>exact h
 |box id=>exact h.elim
 |row pl n=>
  cases pl with
  |b bc p=>cases bc<;>exact h
  |c i j p=>exact h
  |r j p=>exact h
theorem zi7{id j:Nat}{w:Ow}(h:fb id j w=false):(x9 id j w).still:=by
 cases w with
 |all=>trivial
 |ro n=>trivial
 |box id=>trivial
 |row pl n=>
  cases pl with
  |b bc p=>
   cases p with
   |nil=>trivial
   |cons j' p=>simp only[fb] at h;simp only[x9,h];trivial
  |_=>trivial
def ax.eh(X:ax)(id j g:Nat):ax:=⟨X.w,fun q=>if q=g then .box 0 else x9 id j (X.ow q),fun _=>some g⟩
def ax.bf(X Y:ax)(id j g d:Nat):ax:=⟨Y.w,fun q=>if q=g then .row (.b id [j]) 0 else if q<X.w.heap.size/\fb id j (X.ow q)=false then X.ow q else XJ id j d (Y.ow q),X.β⟩
section
variable {Y:ax} {id j g d:Nat}
theorem Lu(hg:X.ow g= .row (.b id [j]) 0){ad:Addr}{v:Value}:(X.eh id j g).az ad v↔X.az ad v:=by
 simp only[ax.az,ax.eh]
 split
 ·rename_i e
  rw[e,hg]
  simp [Ow.used]
 ·rw[zo7]
theorem xN(h:Ext (X.eh id j g) Y){q:Nat}(hq:q<X.w.heap.size)(hm:fb id j (X.ow q)=false)(bI:q≠g):(X.bf Y id j g d).ow q=X.ow q/\(X.bf Y id j g d).w.heap[q]? =X.w.heap[q]? /\(Y.ow q).still/\Y.ow q=x9 id j (X.ow q):=by
 have e:(X.eh id j g).ow q=x9 id j (X.ow q):=by simp only[ax.eh];rw[if_neg bI]
 obtain⟨h1,h2⟩:=h.still q hq (by rw[e];exact zi7 hm)
 refine⟨by simp only[ax.bf];rw[if_neg bI,if_pos ⟨hq,hm⟩],h2,?_,h1.trans e⟩
 rw[h1,e];exact zi7 hm
theorem adx(h:Ext (X.eh id j g) Y){q:Nat}(bI:q≠g)(hs:¬(Y.ow q).still):(X.bf Y id j g d).ow q=XJ id j d (Y.ow q):=by
 simp only[ax.bf]
 rw[if_neg bI,if_neg]
 rintro⟨hq,hm⟩
 exact hs (xN (d:=d) h hq hm bI).2.2.1
theorem zas(h:Ext (X.eh id j g) Y)(hY:Y.ow g= .box 0){ad:Addr}{v:Value}(hs:Y.az ad v):(X.bf Y id j g d).az ad v:=by
 have bI:ad.block≠g:=fun e=>by
  have:=hs.2.2
  rw[e,hY] at this
  exact this
 refine⟨hs.1,hs.2.1,?_⟩
 simp only[ax.bf]
 rw[if_neg bI]
 split
 ·rename_i hc
  have:=(xN (d:=d) h hc.1 hc.2 bI).2.2.2
  have hu:=hs.2.2
  rw[this,zo7] at hu
  exact hu
 ·exact z193 hs.2.2
theorem R3(h:Ext (X.eh id j g) Y)(hg:X.ow g= .row (.b id [j]) 0)(hY:Y.ow g= .box 0):Ext X (X.bf Y id j g d) where
 az:=fun ad v hs=>zas h hY (h.az ad v ((Lu hg).2 hs))
 size:=h.size
 os:=h.os
 tape:=h.tape
 output:=h.output
 β0:=rfl
 still:=fun q hq bS=>by
  have hm:fb id j (X.ow q)=false:=by cases hx:X.ow q<;>rw[hx] at bS<;>first|rfl|exact bS.elim
  obtain⟨h1,h2,_⟩:=xN (d:=d) h hq hm (fun e=>by rw[e,hg] at bS;exact bS)
  exact⟨h1,h2⟩
theorem bp.bf(h:Ext (X.eh id j g) Y)(hg:X.ow g= .row (.b id [j]) 0){pl:Place}(fI:∀n,fb id j (.row pl n)=false){e:TypeId}{m n:Nat}{v:Value}(ho:bp X pl e m n v):bp (X.bf Y id j g d) pl e m n v:=by
 rcases ho with ho|⟨q,cap,cur,h1,h2,h3,h4,h5,h6⟩
 ·exact .inl ho
 ·obtain⟨k1,k2,_⟩:=xN (d:=d) h (vv h2) (by rw[h6];exact fI _) (fun e=>by
   rw[e,hg] at h6
   injection h6 with h6 _
   have:=fI 0
   rw[<-h6] at this
   simp [fb] at this)
  exact .inr ⟨q,cap,cur,h1,k2.trans h2,h3,h4,h5,k1.trans h6⟩
theorem bk.bf(h:Ext (X.eh id j g) Y)(hg:X.ow g= .row (.b id [j]) 0){pl:List Nat->Place}(fI:∀p n,fb id j (.row (pl p) n)=false){t:Ty}{x:El t}{cs:List Value}{own:List (List Nat)}(ho:bk X pl t x cs own):bk (X.bf Y id j g d) pl t x cs own:=fun p hp=>by
 obtain⟨e,t',xs,v,g0,g1,g2,g3⟩:=ho p hp
 exact⟨e,t',xs,v,g0,g1,g2,g3.bf h hg (fI p)⟩
theorem bk.qY(h:Ext (X.eh id j g) Y)(hY:Y.ow g= .box 0){pl gd:List Nat->Place}(fI:∀p n,XJ id j d (.row (pl p) n)= .row (gd p) n){t:Ty}{x:El t}{cs:List Value}{own:List (List Nat)}(ho:bk Y pl t x cs own):bk (X.bf Y id j g d) gd t x cs own:=fun p hp=>by
 obtain⟨e,t',xs,v,g0,g1,g2,g3⟩:=ho p hp
 refine⟨e,t',xs,v,g0,g1,g2,?_⟩
 rcases g3 with ho|⟨q,cap,cur,h1,h2,h3,h4,h5,h6⟩
 ·exact .inl ho
 ·refine .inr ⟨q,cap,cur,h1,h2,h3,h4,h5,?_⟩
  rw[adx h (fun e=>by rw[e,hY] at h6;cases h6) (by rw[h6];exact fun e=>e),h6,fI]
theorem aA.bf(h:Ext (X.eh id j g) Y)(hg:X.ow g= .row (.b id [j]) 0)(hY:Y.ow g= .box 0){i k:Nat}{sv:SV}{v:Value}(hr:aA X (.c i k) sv v):aA (X.bf Y id j g d) (.c i k) sv v:=by
 have hs:∀a v,X.az a v->(X.bf Y id j g d).az a v:=(R3 h hg hY).az
 cases sv with
 |undef=>trivial
 |skip=>exact hr
 |cF=>exact hr
 |dN=>exact hr
 |over=>exact hr
 |aj t x own=>
  obtain⟨cs,h1,h2,h3⟩:=hr
  exact⟨cs,h1.ai hs,h2,h3.bf h hg (fun _ _=>rfl)⟩
 |ptr bc t p=>
  obtain⟨r,h1,h2⟩:=hr
  exact⟨r,h1,h2⟩
 |view t x=>
  obtain⟨ad,cs,h1,h2,h3,h4⟩:=hr
  exact⟨ad,cs,h1,h2,h3.ai hs,fun i u hi=>hs _ _ (h4 i u hi)⟩
 |cap f t x u y=>exact rC hs hr
 |bz bc a b n=>
  obtain⟨r,h1,h2,h3⟩:=hr
  obtain⟨e1,e2,_⟩:=xN (d:=d) (q:=r) h (World.block_lt_of_cell? X.w _ h3) (by rw[h2];rfl) (fun e=>by rw[e,hg] at h2;cases h2)
  refine⟨r,h1,e1.trans h2,?_⟩
  simp only[World.cell?] at h3⊢
  rw[e2];exact h3
theorem bC.bf(h:Ext (X.eh id j g) Y)(hg:X.ow g= .row (.b id [j]) 0)(hY:Y.ow g= .box 0){bc r:Nat}{B:bB}(bI:bc≠id)(hb:bC X bc r B):bC (X.bf Y id j g d) bc r B:=by
 obtain⟨h3,h1⟩:=hb
 have hm:∀p n,fb id j (.row (.b bc p) n)=false:=fun p n=>by
  cases p with
  |nil=>rfl
  |cons j' p=>simp [fb,bI]
 obtain⟨k1,k2,_⟩:=xN (d:=d) h h1.lt (by rw[h3];rfl) (fun e=>by rw[e,hg] at h3;cases h3)
 exact⟨k1.trans h3,h1.move (R3 h hg hY).az k2 (fun cs h4=>h4.bf h hg hm) fun p _ q o n ho hw=>by
  obtain⟨e1,e2,_⟩:=xN (d:=d) h (vv ho) (by rw[hw];exact hm _ _) (fun e=>by
   rw[e,hg] at hw
   injection hw with hw _
   have:=hm p n
   rw[<-hw] at this
   simp [fb] at this)
  exact⟨e2.trans ho,e1.trans hw⟩⟩
theorem aA.qY(h:Ext (X.eh id j g) Y)(hY:Y.ow g= .box 0){r0 k:Nat}{sv:SV}{v:Value}(hp:∀id t p,sv≠ .ptr id t p)(hn:sv.bK=false)(hr:aA {Y with β:=fun _=>some r0} (.r k) sv v):aA (X.bf Y id j g d) (.c d k) sv v:=by
 have hs:∀a v,({Y with β:=fun _=>some r0}:ax).az a v->(X.bf Y id j g d).az a v:=fun a v hs=>zas h hY (show Y.az a v from hs)
 cases sv with
 |undef=>trivial
 |skip=>exact hr
 |cF=>exact hr
 |dN=>exact hr
 |over=>exact hr
 |aj t x own=>
  obtain⟨cs,h1,h2,h3⟩:=hr
  have h3:bk Y (.r k) t x cs own:=h3
  exact⟨cs,bg.ai hs h1,h2,h3.qY h hY (fun _ _=>rfl)⟩
 |ptr bc t p=>exact absurd rfl (hp bc t p)
 |view t x=>
  obtain⟨ad,cs,h1,h2,h3,h4⟩:=hr
  exact⟨ad,cs,h1,h2,bg.ai hs h3,fun i u hi=>hs _ _ (h4 i u hi)⟩
 |cap f t x u y=>exact rC (X:={Y with β:=fun _=>some r0}) hs hr
 |bz bc a b n=>cases hn
theorem cL.qY(h:Ext (X.eh id j g) Y)(hY:Y.ow g= .box 0){r0:Nat}{r:List SV}{v:Value}(hp:∀id t p,SV.ptr id t p∉r)(hn:r.any SV.bK=false)(hr:cL {Y with β:=fun _=>some r0} .r r v):cL (X.bf Y id j g d) (.c d) r v:=
 hr.iJ fun k sv u hk hu=>hu.qY h hY (fun id t p e=>hp id t p (e▸List.mem_of_getElem? hk)) (by simpa using List.any_eq_false.1 hn sv (List.mem_of_getElem? hk))
theorem dq.bf(h:Ext (X.eh id j g) Y)(hg:X.ow g= .row (.b id [j]) 0)(hY:Y.ow g= .box 0){k:Nat}(hk:k≠j){b:Ty}{m:Option (El b)}{v:Value}(hm:dq X (fun p=> .b id (k::p)) b m v):dq (X.bf Y id j g d) (fun p=> .b id (k::p)) b m v:=
 hm.move (R3 h hg hY).az fun p _ q o n ho hw=>by
  have hf:fb id j (.row (.b id (k::p)) n)=false:=by
   simp only[fb]
   rw[show Nat.beq k j=false from by
    cases h:Nat.beq k j with
    |false=>rfl
    |true=>exact absurd (Nat.eq_of_beq_eq_true h) hk,Bool.and_false]
  obtain⟨e1,e2,_⟩:=xN (d:=d) h (vv ho) (by rw[hw];exact hf) (fun e=>by
   rw[e,hg] at hw
   injection hw with hw _
   injection hw with _ hw
   injection hw with hw _
   exact hk hw.symm)
  exact⟨e2.trans ho,e1.trans hw⟩
end
theorem OZ:∀(vs l:List SV),ji s vs=some (l,none)->∀sv∈l,(∃t x,sv= .aj t x [])\/sv= .cF\/∃t x,sv= .view t x
 | [],l,h,sv,hm=>by
   simp only[ji,Option.some.injEq,Prod.mk.injEq] at h
   rw[<-h.1] at hm
   cases hm
 |v::r,l,h,sv,hm=>by
  simp only[ji] at h
  split at h
  ·cases h
  rename_i l1 b1 h1
  split at h
  ·cases h
   rcases List.mem_cons.1 hm with rfl|hm
   ·exact .inl ⟨_,_,rfl⟩
   ·exact OZ r l1 h1 sv hm
  ·cases h
   rcases List.mem_cons.1 hm with rfl|hm
   ·exact .inr (.inl rfl)
   ·exact OZ r l1 h1 sv hm
  ·cases h
   rcases List.mem_cons.1 hm with rfl|hm
   ·exact .inr (.inr ⟨_,_,rfl⟩)
   ·exact OZ r l1 h1 sv hm
  ·split at h
   case h_2=>cases h
   split at h
   case isFalse=>cases h
   cases h
  ·cases h
theorem zo8{dH:List Operand}{t id j:Nat}{ta tb:Ty}{r:List Operand}(h:Fe s dH=some (t,id,ta,tb,j,r)):dH= .tmp t::r/\s.slot t=[.bz id ta tb j]:=by
 unfold Fe at h
 split at h
 case h_2=>cases h
 split at h
 case h_2=>cases h
 rename_i hs
 cases h
 exact⟨rfl,hs⟩
theorem ajz{X:ax}{id j:Nat}{b:Ty}{m:Option (El b)×Option (El b)}{p0 p1:Value}{y:El b}(hj:j<2)(h0:dq X (fun p=> .b id (0::p)) b m.1 p0)(h1:dq X (fun p=> .b id (1::p)) b m.2 p1)(hy:getM j m=some y):dq X (fun p=> .b id (j::p)) b (some y) (if j=0 then p0 else p1):=by
 match j,hj with
 |0,_=>
  have hy:m.1=some y:=hy
  rw[hy] at h0
  exact h0
 |1,_=>
  have hy:m.2=some y:=hy
  rw[hy] at h1
  exact h1
theorem acO(hr:Rel X s a){C:ah}(hC:C.Nat){f:FuncId}(hf:cV P C f){dH:Array Operand}{ts:Array TypeId}(ho:o.op= .call ⟨.value (.func f),dH,ts⟩){t id j:Nat}{ta tb:Ty}{r:List Operand}(hl:Fe s dH.toList=some (t,id,ta,tb,j,r))(h:jT (C Out) s f t id ta tb j (r.map s.aG) some=some u):kv P X s a o u:=by
 obtain⟨has,bS⟩:=zo8 hl
 have ii:=hr.slot t
 rw[bS] at ii
 obtain⟨rr,hβ,how,dI⟩:aA X (.c t 0) (.bz id ta tb j) (a.tmps.getD t Go.undef):=ii
 have Ze:t<s.sl.length:=by
  rcases Nat.lt_or_ge t s.sl.length with h|h
  ·exact h
  ·simp [State.slot,List.getElem?_eq_none h] at bS
 have hsi:s.sl[t]? =some [.bz id ta tb j]:=by rw[qt Ze,bS]
 obtain⟨_,⟨x1,J7,nz,aon⟩,JS⟩:=hr.bz t _ id ta tb j hsi (by simp)
 unfold jT at h
 split at h
 case isTrue=>cases h
 rename_i dY
 have dY:tb.bF=false:=by simpa using dY
 split at h
 case h_2=>cases h
 rename_i l bV
 obtain⟨x,own,r1,hb,h,bR,h1,_,c,p0,p1,T,aD,aL,rQ,rR⟩:=ER hr h
 rw[hβ] at h1
 cases h1
 split at h
 case h_2=>cases h
 rename_i y hy
 have hv:(c++ [p0,p1,Value.int .i64 x.2.2])[ta.cells+j]? =some (a.tmps.getD t Go.undef):=by
  simp only[World.cell?,aD] at dI
  simpa using dI
 rw[List.getElem?_append_right (by rw[aL.len];omega),aL.len,Nat.add_sub_cancel_left] at hv
 have hj:j<2:=by
  match j,hy with
  |0,_=>omega
  |1,_=>omega
  |j+2,hy=>cases hy
 obtain⟨g,csg,Tg,Ao,YI,ml,Y7,Zi⟩:=ajz hj rQ rR hy
 have hvt:a.tmps.getD t Go.undef= .pointer (some ⟨g,0,none⟩):=by
  match j,hj with
  |0,_=>
   have hv:p0=a.tmps.getD t Go.undef:=by simpa using hv
   rw[<-hv];exact Ao
  |1,_=>
   have hv:p1=a.tmps.getD t Go.undef:=by simpa using hv
   rw[<-hv];exact Ao
 obtain⟨⟨res,b'⟩,mY,h⟩:=jD (hC Out _ f (.ptr 0 tb []::l) (some ⟨tb,y,Bd⟩) _ (fun r b=>some (r,b)) (fun z=>match z.2 with
  |some B'=>if h:B'.t.cp tb=true then bif gA B'.own [2] then some {v:=z.1,bx:=some (id,⟨.aJ .bN ta tb,(x.1,fG j (some (Ty.cast h B'.x)) x.2.1,x.2.2),[]::own⟩),cl:=[(t,0)]} else none else none
  |none=>none) (fun r b=>rfl)) h
 obtain⟨eA,m4⟩:=hf _ _ res b' mY
 have gV:jG (X.eh id j g) (.ptr 0 tb []::l) (some ⟨tb,y,Bd⟩) (dH.map a.eval):=by
  have ea:∀ad v,X.az ad v->(X.eh id j g).az ad v:=fun _ _=>(Lu ml).2
  have Je:dH.toList.map a.eval=a.eval (.tmp t)::r.map a.eval:=by rw[has];rfl
  have cB:∀i,(dH.map a.eval)[i]? =(a.eval (.tmp t)::r.map a.eval)[i]? :=fun i=>by
   rw[<-Je,<-Array.toList_map,Array.getElem?_toList]
  obtain⟨i1,_,_,i4⟩:=zpw hr (r.map fun x=>(s.aG x,a.eval x)) l none (fun z hz=>by
   obtain⟨q,_,rfl⟩:=List.mem_map.1 hz
   exact⟨_,hr.aG q⟩) (by rw[List.map_map];exact bV)
  refine⟨?_,fun i sv v hs hv=> ?_,fun bc t' p hm=> ?_,fun B hB=> ?_,(fun hb=>by cases hb),(by have:=zpv _ _ _ bV;simpa [SV.bK] using this)⟩
  ·have:=congrArg List.length Je
   simp at this i1⊢
   omega
  ·rw[cB] at hv
   cases i with
   |zero=>
    simp only[List.getElem?_cons_zero,Option.some.injEq] at hs hv
    subst hs hv
    refine⟨g,rfl,(qq dY).2 ⟨?_,by simp [Ty.eE]⟩⟩
    show a.tmps.getD t Go.undef=_
    rw[hvt]
    simp [Ty.off]
   |succ i=>
    simp only[List.getElem?_cons_succ] at hs hv
    have hx:=i4 none (fun _ _ e=>by cases e) i sv
    rw[List.getElem?_map] at hv
    obtain⟨q,hq,rfl⟩:=Option.map_eq_some_iff.1 hv
    have ub:=hx (s.aG q,a.eval q) hs (by rw[List.getElem?_map,hq];rfl) (.c (i+1) 0)
    have JP:∀ad v,(X.cR none).az ad v->(X.eh id j g).az ad v:=fun ad v h=>ea ad v (uR.1 h)
    rcases OZ _ _ bV sv (List.mem_of_getElem? hs) with⟨t1,y1,rfl⟩|rfl|⟨t1,y1,rfl⟩
    ·obtain⟨cs,e1,e2,_⟩:=ub
     exact⟨cs,e1.ai JP,e2,mu⟩
    ·exact ub
    ·obtain⟨ad,cs,e1,e2,e3,e4⟩:=ub
     exact⟨ad,cs,e1,e2,e3.ai JP,fun i w hi=>JP _ _ (e4 i w hi)⟩
  ·rcases List.mem_cons.1 hm with e|hm
   ·cases e;exact⟨rfl,rfl⟩
   ·rcases OZ _ _ bV _ hm with⟨_,_,e⟩|e|⟨_,_,e⟩<;>cases e
  ·cases hB
   refine⟨g,rfl,by simp [ax.eh],dp.of dY YI (Y7.ai ea) fun p hp=> ?_⟩
   obtain⟨e,t',xs,v,g0,g1,g2,g3⟩:=Zi p hp
   refine⟨e,t',xs,v,g0,g1,g2,?_⟩
   rcases g3 with g3|⟨q,cap,cur,k1,k2,k3,k4,k5,k6⟩
   ·exact .inl g3
   ·refine .inr ⟨q,cap,cur,k1,k2,k3,k4,k5,?_⟩
    have bI:q≠g:=fun e=>by
     rw[e,ml] at k6
     injection k6 with k6 _
     injection k6 with _ k6
     injection k6 with _ k6
     have:p=[2]:=by simpa [Bd] using hp
     rw[this] at k6
     cases k6
    simp only[ax.eh]
    rw[if_neg bI,k6]
    simp [x9]
 intro next Q hn
 unfold Oper.wp
 rw[K4 eA ho,Oper.upon_enter]
 refine(m4 (X.eh id j g) _ gV).mono fun e w' he=> ?_
 cases e with
 |panicked c=>exact he.elim
 |outgrown=>exact he.elim
 |returned v=>
  obtain⟨Y,rfl,aZ,r0,JK,bG,oi,dP⟩:=he
  cases b' with
  |none=>cases h
  |some B'=>
   simp only at h
   split at h
   case isFalse=>cases h
   rename_i dg
   cases JA:gA B'.own [2] with
   |false=>rw[JA] at h;cases h
   |true=>
   rw[JA,cond_true] at h
   cases h
   have hp:=oi (.inr rfl)
   obtain⟨hB,hβ0⟩:=bG B' rfl
   have hβ0:=hβ0 rfl
   have:g=r0:=by
    have e:(X.eh id j g).β 0=some g:=rfl
    rw[e] at hβ0
    injection hβ0
   subst this
   have hY:Y.ow g= .box 0:=hB.1
   have hX:=R3 (d:=o.dst.getD 0) aZ ml hY
   refine hn (X.bf Y id j g (o.dst.getD 0)) v hX ?_
   obtain⟨er1,er2,_⟩:=xN (d:=o.dst.getD 0) (q:=rr) aZ (vv aD) (by rw[how];rfl) (fun e=>by rw[e,ml] at how;cases how)
   have cE:dq (X.bf Y id j g (o.dst.getD 0)) (fun p=> .b id (j::p)) tb (some (Ty.cast dg B'.x)) (.pointer (some ⟨g,0,none⟩)):=by
    obtain⟨bt,bx,bo⟩:=B'
    have e:=Ty.aI dg
    simp only at e
    subst e
    obtain⟨eD,T',k1,k2,k3⟩:=(dp.plain dY).1 hB.2
    refine⟨g,eD,T',rfl,k1,by simp [ax.bf],k2.ai fun _ _=>zas aZ hY,?_⟩
    have h2:bk (X.bf Y id j g (o.dst.getD 0)) (fun p=> .b id (j::p)) bt bx eD.toList bo:=bk.qY aZ hY (pl:= .b 0) (fun _ _=>rfl) k3
    intro p hp
    have:p=[2]:=by simpa [Bd] using hp
    subst this
    exact h2 [2] (AR JA)
   have BV:gZ (X.bf Y id j g (o.dst.getD 0)) rr (.b id) ta tb (x.1,fG j (some (Ty.cast dg B'.x)) x.2.1,x.2.2):=by
    refine⟨c,p0,p1,T,er2.trans aD,aL.ai hX.az,?_,?_⟩
    ·match j,hj,Ao with
     |0,_,Ao=>
      have:p0= .pointer (some ⟨g,0,none⟩):=Ao
      rw[this];exact cE
     |1,_,_=>exact rQ.bf aZ ml hY (by omega)
    ·match j,hj,Ao with
     |0,_,_=>exact rR.bf aZ ml hY (by omega)
     |1,_,Ao=>
      have:p1= .pointer (some ⟨g,0,none⟩):=Ao
      rw[this];exact cE
   have eL:=hr.cg t 0
   have ig:∀(i:Nat) (l:List SV) a b j,(s.cg t 0).sl[i]? =some l->SV.bz id a b j∈l->False:=fun i l a' b' j' kC hm=>by
    simp only[State.cg,List.getElem?_set] at kC
    split at kC
    ·first
      |(split at kC
        ·cases kC
         rw[bS] at hm
         simp [Ref.bO,SV.shut] at hm
        ·cases kC)
      |(cases kC
        rw[bS] at hm
        simp [Ref.bO,SV.shut] at hm)
    ·rename_i e
     exact e (JS i l a' b' j' kC hm).symm
   have aq:id<(s.cg t 0).bs.length:=(List.getElem?_eq_some_iff.1 hb).1
   have bu:Rel (X.bf Y id j g (o.dst.getD 0)) ((s.cg t 0).aC (some (id,⟨.aJ .bN ta tb,(x.1,fG j (some (Ty.cast dg B'.x)) x.2.1,x.2.2),[]::own⟩))) a:=by
    refine⟨eL.size,by simpa [State.aC] using eL.gB,fun i l v kC iX=>(eL.bP i l v kC iX).iJ fun k sv u hm hu=>hu.bf aZ ml hY,fun bc B2 cT=> ?_,fun i l bc t' p hi hm=> ?_,eL.defers,eL.bz.aC ig⟩
    ·simp only[State.aC,List.getElem?_set] at cT
     by_cases e:id=bc
     ·subst e
      rw[if_pos rfl,if_pos aq] at cT
      cases cT
      exact⟨rr,hβ,er1.trans how,⟨_,er2.trans aD⟩,fun _=>BV⟩
     ·rw[if_neg e] at cT
      obtain⟨r',k1,k2⟩:=eL.boxes bc B2 cT
      exact⟨r',k1,k2.bf aZ ml hY (fun e2=>e e2.symm)⟩
    ·obtain⟨B2,cT⟩:=eL.live i l bc t' p hi hm
     simp only[State.aC,List.getElem?_set]
     by_cases e:id=bc
     ·subst e;exact⟨_,by rw[if_pos rfl,if_pos aq]⟩
     ·rw[if_neg e];exact⟨B2,cT⟩
   exact bu.fin (JK.qY aZ hY hp dP) (fun id t p hm=>absurd hm (hp id t p)) dP
theorem afL(hr:Rel X s a){C:ah}(hC:C.Nat){f:FuncId}(hf:cV P C f){ops:List Oper}{dH:Array Operand}{ts:Array TypeId}(ho:o.op= .call ⟨.value (.func f),dH,ts⟩)(h:act E (C Out) ops o s some=some u):kv P X s a o u:=by
 unfold act at h
 simp only[ho] at h
 split at h
 ·rename_i t id ta tb j r hl
  exact acO hr hC hf ho hl h
 obtain⟨u0,h0,h1⟩:=jD (R8 hC (F:=fun u=>some (bif fA E o.dst then u.shut else u)) (G:=some) (K:=fun u=>some (bif fA E o.dst then u.shut else u)) (fun _=>rfl)) h
 have hd:kv P X s a o u0:=by
  refine zdi hr hC hf (zd8 hr dH) (fun eA=> ?_) (by rw[List.map_map];exact h0)
  rw[K4 eA ho]
  congr 2
  apply Array.toList_inj.1
  simp [Function.comp_def]
 cases hs:fA E o.dst with
 |false=>rw[hs] at h1;cases h1;exact hd
 |true=>rw[hs] at h1;cases h1;exact hd.shut
theorem al2{f:FuncId}(h:rK P f){x:Operand}{v:Value}{dH:Array Operand}{ts:Array TypeId}(ho:o.op= .call ⟨.value x,dH,ts⟩)(hx:a.eval x= .func (.func f) #[] #[v])(w:World):(execOp a.eval o).run P w= .ok (.enter f (dH.map a.eval++ #[v])) w:=by
 obtain⟨fn,c,h1,h2,h3⟩:=h
 simp [execOp,ho,resolve,Deferred.ofValue,hx,invoke,callFunc,h1,h3]
 simpa using h2
theorem ajd{f:FuncId}(h:rK P f){x:Operand}{v v2:Value}{dH:Array Operand}{ts:Array TypeId}(ho:o.op= .call ⟨.value x,dH,ts⟩)(hx:a.eval x= .func (.func f) #[] #[v,v2])(w:World):(execOp a.eval o).run P w= .ok (.enter f (dH.map a.eval++ #[v,v2])) w:=by
 obtain⟨fn,c,h1,h2,h3⟩:=h
 simp [execOp,ho,resolve,Deferred.ofValue,hx,invoke,callFunc,h1,h3]
 simpa using h2
theorem acN(hr:Rel X s a){C:ah}(hC:C.Nat)(hf:∀f,cV P C f){ops:List Oper}{y:Nat}{dH:Array Operand}{ts:Array TypeId}(ho:o.op= .call ⟨.value (.tmp y),dH,ts⟩)(h:act E (C Out) ops o s some=some u):kv P X s a o u:=by
 unfold act at h
 simp only[ho] at h
 split at h
 case h_3=>cases h
 case h_2=>
  rename_i f t x1 u' y1 dy
  have hx:=hr.aG (.tmp y)
  rw[dy] at hx
  obtain⟨ad,qb,cs,eD,hv,⟨g2,g3,g4⟩,k2,k3,k4⟩:=hx
  refine zdi hr hC (hf f) (vs:=dH.toList.map (fun x=>(s.aG x,a.eval x))++ [(.view t x1,.pointer (some ad)),(.view u' y1,.pointer (some qb))]) (fun x hx=> ?_) (fun eA=> ?_) (by rw[List.map_append,List.map_map];exact h)
  ·rcases List.mem_append.1 hx with hx|hx
   ·exact zd8 hr dH x hx
   ·rcases List.mem_cons.1 hx with rfl|hx
    ·exact⟨.r 0,ad,cs,rfl,g2,g3,g4⟩
    ·rw[List.mem_singleton.1 hx]
     exact⟨.r 0,qb,eD,rfl,k2,k3,k4⟩
  ·rw[ajd eA ho hv]
   congr 2
   apply Array.toList_inj.1
   simp [Function.comp_def]
 rename_i id f t b dy
 have hx:=hr.aG (.tmp y)
 rw[dy] at hx
 obtain⟨r0,hβ,hv⟩:=hx
 have hv:a.eval (.tmp y)= .func (.func f) #[] #[.pointer (some ⟨r0,0,none⟩)]:=hv
 split at h
 case isTrue=>cases h
 rename_i hs
 refine zdi hr hC (hf f) (vs:=dH.toList.map (fun x=>(s.aG x,a.eval x))++ [(.ptr id t [],.pointer (some ⟨r0,0,none⟩))]) (fun x hx=> ?_) (fun eA=> ?_) (by rw[List.map_append,List.map_map];exact h)
 ·rcases List.mem_append.1 hx with hx|hx
  ·exact zd8 hr dH x hx
  ·rw[List.mem_singleton.1 hx]
   exact⟨.r 0,r0,hβ,(Pe (by simpa using hs)).2 ⟨by simp [Ty.off],by simp [Ty.eE]⟩⟩
 ·rw[al2 eA ho hv]
  congr 2
  apply Array.toList_inj.1
  simp [Function.comp_def]
end Go.Ref

namespace Go.Ref
open Go
variable {P:Program} {E:Env} {X:ax} {s:State} {a:Act} {o:Oper} {u:Out}
theorem aiX(hE:ap P E)(hr:Rel X s a){C:ah}(hC:C.Nat)(hf:∀f,cV P C f){ops:List Oper}(h:act E (C Out) ops o s some=some u):kv P X s a o u:=by
 cases ho:o.op with
 |move x=>exact(afQ hr ho h).does
 |assign x=>exact(z198 hr ho h).does
 |pick c x y=>exact(afS hr ho h).does
 |binOp op T x y T'=>exact(ajl hE hr ho h).does
 |unOp op T x=>exact(al5 hr ho h).does
 |convert S T x=>exact(afM hE hr ho h).does
 |load T x=>exact(afP hE hr ho h).does
 |store T x y=>exact(acW hE hr ho h).does
 |nilCheck x=>exact(abe hr ho h).does
 |fieldAddr T x j=>exact(aa5 hE hr ho h).does
 |indexAddr T x i=>exact(aa6 hE hr ho h).does
 |index T x i=>exact(acT hE hr ho h).does
 |field T x j=>exact(acS hE hr ho h).does
 |slice T x lo hi mx=>
  cases mx with
  |none=>exact(ajn hE hr ho h).does
  |some m=>unfold act at h;simp only[ho] at h;cases h
 |alloc T=>exact(acL hE hr ho h).does
 |box T x=>exact(ajm hE hr ho h).does
 |build T parts=>exact(acM hE hr ho h).does
 |buildSlice T n parts=>exact(zuo hE hr ho h).does
 |extract x j=>exact(abz hr ho h).does
 |makeMap T r=>exact(abE hE hr ho h).does
 |lookup T x i ok=>exact(ab2 hE hr ho h).does
 |mapUpdate T m k x=>exact(zcg hE hr (.inl ho) h).does
 |insert T m k x=>exact(zcg hE hr (.inr ho) h).does
 |range T x=>exact(acV hE hr ho h).does
 |next x str=>exact(afR hr ho h).does
 |makeSlice T l c=>exact(aa7 hE hr ho h).does
 |makeFunc fn fi ca=>exact(abd hr ho h).does
 |call c=>
  obtain⟨callee,args,ts⟩:=c
  cases callee with
  |value x=>
   cases x with
   |func f=>exact afL hr hC (hf f) ho h
   |tmp y=>exact acN hr hC hf ho h
   |_=>unfold act at h;simp only[ho] at h;cases h
  |builtin b=>
   cases b with
   |len=>exact(ajo (x:= .const Go.undef) (T:=0) hE hr ho h).does
   |append=>exact(ab0 hE hr ho h).does
   |copy=>exact(afN hE hr ho h).does
   |max=>exact(KY (g:=true) hr ho h).does
   |min=>exact(KY (g:=false) hr ho h).does
   |_=>unfold act at h;simp only[ho] at h;cases h
  |_=>unfold act at h;simp only[ho] at h;cases h
 |_=>unfold act at h;simp only[ho] at h;cases h
theorem Rel.know(hr:Rel X s a){d:Nat}{p:Bool}{o:List (List Nat)}(h:s.slot d=[.aj .bool p o]):Rel X (s.au (some d) (bl p)) a/\a.tmps[d]? =some (.bool p):=by
 have hd:d<s.sl.length:=by
  rcases Nat.lt_or_ge d s.sl.length with h1|h1
  ·exact h1
  ·simp [State.slot,List.getElem?_eq_none h1] at h
 have rO:d<a.tmps.size:=by rw[<-hr.size];exact hd
 have hv:a.tmps[d]? =some (a.tmps.getD d Go.undef):=by simp [Array.getElem?_eq_getElem rO]
 have hs:=hr.slot d
 rw[h] at hs
 have hb:=OK (X:=X) hs
 rw[hb] at hv
 refine⟨?_,hv⟩
 have Y3:a.put (some d) (.bool p)=a:=by
  cases a with
  |mk tmps defers=>
   simp only[Act.put,Act.mk.injEq,and_true]
   apply Array.ext_getElem?
   intro i
   rw[Array.getElem?_setIfInBounds]
   split
   ·rename_i e
    subst e
    first
     |exact hv.symm
     |(rw[if_pos rO];exact hv.symm)
   ·rfl
 have:=hr.put (d:=some d) (l:=bl p) (v:= .bool p) (fun _ _=>nv) (fun id t q hm=>by simp [bl] at hm)
 rw[Y3] at this
 exact this
theorem VB(hE:ap P E)(hr:Rel X s a){C:ah}(hC:C.Nat)(hf:∀f,cV P C f){ops:Array Oper}{i:Nat}(hi:ops[i]? =some o){s':State}(h:step E (C State) ops.toList o s some=some s'){Q:Exit->Act->World->Prop}{K:Act->World->Prop}
 (hK:∀Y a',Ext X Y->Rel Y s' a'->K a' Y.w):wpOp P ops Q i K a X.w:=by
 unfold wpOp
 simp only[hi]
 have qW:∀{s1:State},Rel X s1 a->(act E (C State) ops.toList o s1 fun u=>some (s1.apply o.dst u))=some s'->o.wp P a X.w K Q:=by
  intro s1 eL h1
  obtain⟨u,hu,h2⟩:=jD (xU hC (F:=fun u=>some (s1.apply o.dst u)) (G:=some) (K:=fun u=>some (s1.apply o.dst u)) (fun _=>rfl)) h1
  cases h2
  exact aiX hE eL hC hf hu K Q (fun Y v aZ bu=>hK Y _ aZ bu)
 have jZ:∀{s1:State},Rel X s1 a->some (s1.au o.dst [.skip])=some s'->K (a.put o.dst Go.undef) X.w:=by
  intro s1 eL h1
  cases h1
  exact hK X _ (Ext.refl X) (eL.skip o.dst)
 unfold step at h
 simp only at h
 split at h
 ·rename_i hg
  have hw:Region.wanted o (yielded ops a.tmps)=true:=by simp [Region.wanted,hg]
  rw[if_pos hw]
  exact .inl (qW hr h)
 ·rename_i g want hg
  split at h
  ·cases h
  rename_i d hd
  have hd':(ops[g]?).bind (·.dst)=some d:=by simpa [P8] using hd
  split at h
  ·rename_i p hs
   obtain⟨eL,hv⟩:=hr.know hs
   have hy:yielded ops a.tmps g=some p:=by simp [yielded,hd',hv]
   have hw:Region.wanted o (yielded ops a.tmps)=(p==want):=by simp [Region.wanted,hg,hy]
   cases p<;>cases want<;>simp only[cond_true,cond_false] at h<;>rw[hw]
   ·exact .inl (qW eL h)
   ·exact jZ eL h
   ·exact jZ eL h
   ·exact .inl (qW eL h)
  ·rename_i hs
   have ii:=hr.slot d
   rw[hs] at ii
   have na:a.tmps.getD d Go.undef=Go.undef:=ii
   have hy:yielded ops a.tmps g=none:=by
    simp only[yielded,hd',Option.bind_some]
    cases ht:a.tmps[d]? with
    |none=>rfl
    |some v=>
     have:v=Go.undef:=by
      rw[<-na]
      simp [Array.getD_eq_getD_getElem?,ht]
     subst this
     rfl
   have hw:Region.wanted o (yielded ops a.tmps)=false:=by simp [Region.wanted,hg,hy]
   rw[hw]
   exact jZ hr h
  ·cases h
theorem MP(hE:ap P E){C:ah}(hC:C.Nat)(hf:∀f,cV P C f){ops:Array Oper}{s':State}{Q:Exit->Act->World->Prop}:∀(l:List Nat) (X:ax) (s:State) (a:Act),Rel X s a->(∀i∈l,i<ops.size)->
 steps E (C State) ops.toList (l.map fun i=>ops.getD i default) s some=some s'->(∀Y a',Ext X Y->Rel Y s' a'->Q .normal a' Y.w)->wpOps P ops Q l a X.w
 | [],X,s,a,hr,_,h,hQ=>by
   cases h
   exact hQ X a (Ext.refl X) hr
 |i::r,X,s,a,hr,hl,h,hQ=>by
  simp only[List.map_cons,steps] at h
  obtain⟨s1,h1,h2⟩:=jD (zqp hC (F:=fun s=>steps E (C State) ops.toList (r.map fun i=>ops.getD i default) s some) (G:=some) (K:=fun s=>steps E (C State) ops.toList (r.map fun i=>ops.getD i default) s some) (fun _=>rfl)) h
  have hi:ops[i]? =some (ops.getD i default):=by
   have:=hl i (by simp)
   simp [this]
  rw[wpOps_cons]
  refine VB hE hr hC hf hi h1 fun Y a' aZ bu=> ?_
  exact MP hE hC hf r Y s1 a' bu (fun j hj=>hl j (List.mem_cons_of_mem _ hj)) h2 fun Z a2 cf cY=>hQ Z a2 (aZ.trans cf) cY
end Go.Ref

namespace Go.Ref
open Go
variable {P:Program} {E:Env} {X:ax} {s:State} {a:Act} {o:Oper} {u:Out}
theorem zq5(i j:Nat):(bit i).testBit j=decide (i=j):=by
 simp [bit,Nat.shiftLeft_eq,Nat.testBit_two_pow]
theorem xP:∀(l:List Nat) (j:Nat),(ja l).testBit j=decide (j∈l)
 | [],j=>by simp [ja]
 |i::r,j=>by
  rw[ja,Nat.testBit_or,zq5,xP r j]
  by_cases h:i=j
  ·subst h;simp
  ·have h':¬j=i:=fun e=>h e.symm
   simp [h,h']
theorem Sr{a b:Nat}(h:Nat.beq (a&&&b) 0=true)(j:Nat):a.testBit j=true->b.testBit j=false:=by
 intro ha
 have h0:=Nat.eq_of_beq_eq_true h
 have:=congrArg (fun n=>Nat.testBit n j) h0
 simp only[Nat.testBit_and,Nat.zero_testBit,ha,Bool.true_and] at this
 exact this
theorem Ed:∀(l:List Edge) (j:Nat),(zx l).testBit j=true->∃e∈l,Region.binds .any e=true/\e.on=j
 | [],j,h=>by simp [zx] at h
 |e::r,j,h=>by
  simp only[zx] at h
  cases hb:Region.binds .any e with
  |false=>
   rw[hb] at h
   obtain⟨e',h1,h2⟩:=Ed r j h
   exact⟨e',List.mem_cons_of_mem _ h1,h2⟩
  |true=>
   rw[hb] at h
   simp only[cond_true,Nat.testBit_or,zq5,Bool.or_eq_true,decide_eq_true_eq] at h
   rcases h with h|h
   ·exact⟨e,by simp,hb,h⟩
   ·obtain⟨e',h1,h2⟩:=Ed r j h
    exact⟨e',List.mem_cons_of_mem _ h1,h2⟩
theorem zh4:∀(l:List Edge) (e:Edge),e∈l->Region.binds .any e=true->(zx l).testBit e.on=true
 |e'::r,e,h,hb=>by
  simp only[zx]
  rcases List.mem_cons.1 h with rfl|h
  ·rw[hb];simp [Nat.testBit_or,zq5]
  ·have:=zh4 r e h hb
   cases Region.binds .any e'<;>simp [Nat.testBit_or,this]
theorem KJ{m i j:Nat}(h:Nat.ble (m+1) (bit i)=true)(hj:m.testBit j=true):j<i:=by
 have h1:m<2^i:=by
  have:=Nat.le_of_ble_eq_true h
  simp only[bit,Nat.shiftLeft_eq,Nat.one_mul] at this
  omega
 rcases Nat.lt_or_ge j i with h2|h2
 ·exact h2
 ·have h3:m<2^j:=Nat.lt_of_lt_of_le h1 (Nat.pow_le_pow_right (by omega) h2)
  rw[Nat.testBit_lt_two_pow h3] at hj
  cases hj
def eH(E:Env)(C:ah)(ops:List Oper)(o:Oper)(s:State):Option Out:=
 match o.guard with
 |none=>act E (C Out) ops o s some
 |some (g,want)=>match P8 ops g with
  |none=>none
  |some d=>match s.slot d with
   | [.aj .bool p []]=>if p=want then act E (C Out) ops o s some else some {v:=[.skip]}
   | [.skip]=>some {v:=[.skip]}
   |_=>none
theorem F3{d:Nat}{l:List SV}(h:s.slot d=l):s.au (some d) l=s:=by
 cases s with
 |mk sl bs=>
  simp only[State.au,State.mk.injEq,and_true]
  simp only[State.slot] at h
  apply List.ext_getElem?
  intro i
  rw[List.getElem?_set]
  split
  ·rename_i e
   subst e
   split
   ·rename_i aq
    rw[List.getD_eq_getElem?_getD,List.getElem?_eq_getElem aq] at h
    rw[List.getElem?_eq_getElem aq]
    simpa using h.symm
   ·rename_i aq
    rw[List.getElem?_eq_none (by omega)]
  ·rfl
theorem agK{C:ah}(hC:C.Nat){R:Type}{ops:List Oper}{i:Nat}{tr:List dQ}{K:State->List dQ->Option R}{z:R}(h:lv E (C R) ops o i s tr K=some z):
 ∃u,eH E C ops o s=some u/\fits ops (zx o.after.toList) (gl ops o i s u) tr=true/\K (s.apply o.dst u) (gl ops o i s u::tr)=some z:=by
 have qW:(act E (C R) ops o s fun u=>bif fits ops (zx o.after.toList) (gl ops o i s u) tr then K (s.apply o.dst u) (gl ops o i s u::tr) else none)=some z->
  ∃u,act E (C Out) ops o s some=some u/\fits ops (zx o.after.toList) (gl ops o i s u) tr=true/\K (s.apply o.dst u) (gl ops o i s u::tr)=some z:=by
  intro h
  obtain⟨u,h1,h2⟩:=jD (xU hC (F:=fun u=>bif fits ops (zx o.after.toList) (gl ops o i s u) tr then K (s.apply o.dst u) (gl ops o i s u::tr) else none) (G:=some) (K:=fun u=>bif fits ops (zx o.after.toList) (gl ops o i s u) tr then K (s.apply o.dst u) (gl ops o i s u::tr) else none) (fun _=>rfl)) h
  cases hf:fits ops (zx o.after.toList) (gl ops o i s u) tr with
  |false=>rw[hf] at h2;cases h2
  |true=>rw[hf] at h2;exact⟨u,h1,hf,h2⟩
 have jZ:(bif fits ops (zx o.after.toList) (gl ops o i s {v:=[.skip]}) tr then K (s.apply o.dst {v:=[.skip]}) (gl ops o i s {v:=[.skip]}::tr) else none)=some z->
  fits ops (zx o.after.toList) (gl ops o i s {v:=[.skip]}) tr=true/\K (s.apply o.dst {v:=[.skip]}) (gl ops o i s {v:=[.skip]}::tr)=some z:=by
  intro h
  cases hf:fits ops (zx o.after.toList) (gl ops o i s {v:=[.skip]}) tr with
  |false=>rw[hf] at h;cases h
  |true=>rw[hf] at h;exact⟨rfl,h⟩
 unfold lv at h
 unfold eH
 simp only at h
 split at h
 ·rename_i hg
  try simp only[hg]
  exact qW h
 ·rename_i g want hg
  try simp only[hg]
  split at h
  ·cases h
  rename_i d hd
  try simp only[hd]
  split at h
  ·rename_i p hs
   have lW:s.slot d=bl p:=hs
   try simp only[hs]
   cases p<;>cases want<;>simp only[cond_true,cond_false] at h
   ·rw[F3 lW] at h;rw[if_pos rfl];exact qW h
   ·rw[F3 lW] at h;rw[if_neg (by simp)];exact⟨_,rfl,jZ h⟩
   ·rw[F3 lW] at h;rw[if_neg (by simp)];exact⟨_,rfl,jZ h⟩
   ·rw[F3 lW] at h;rw[if_pos rfl];exact qW h
  ·rename_i hs
   try simp only[hs]
   exact⟨_,rfl,jZ h⟩
  ·cases h
theorem zok{C:ah}(hC:C.Nat){ops:List Oper}(h:eH E C ops o s=some u):step E (C State) ops o s some=some (s.apply o.dst u):=by
 have qW:act E (C Out) ops o s some=some u->(act E (C State) ops o s fun u=>some (s.apply o.dst u))=some (s.apply o.dst u):=by
  intro h
  rw[xU hC (F:=fun u=>some (s.apply o.dst u)) (G:=some) (K:=fun u=>some (s.apply o.dst u)) (fun _=>rfl),h]
  rfl
 unfold eH at h
 unfold step
 simp only
 split at h
 ·rename_i hg
  try simp only[hg]
  exact qW h
 ·rename_i g want hg
  try simp only[hg]
  split at h
  ·cases h
  rename_i d hd
  try simp only[hd]
  split at h
  ·rename_i p hs
   have lW:s.slot d=bl p:=hs
   try simp only[hs]
   split at h
   ·rename_i e
    subst e
    cases p<;>simp only[cond_true,cond_false]<;>rw[F3 lW]<;>exact qW h
   ·rename_i e
    cases h
    cases p<;>cases want<;>simp only[cond_true,cond_false]<;>first|exact absurd rfl e|(rw[F3 lW];rfl)
  ·rename_i hs
   try simp only[hs]
   cases h
   rfl
  ·cases h
structure mz(ts bs:List Nat)(s s':State):Prop where
 sl:∀t∈ts,s.slot t=s'.slot t
 bs:∀id∈bs,s.bs[id]? =s'.bs[id]?
theorem MS{l:List Operand}{t:Nat}:Operand.tmp t∈l->t∈rH l:=by
 induction l with
 |nil=>intro h;cases h
 |cons x r ih=>
  intro h
  rcases List.mem_cons.1 h with e|h
  ·subst e;simp [rH]
  ·have:=ih h
   cases x<;>simp [rH,this]
theorem zi9{s s':State}{ts:List Nat}(h:∀t∈ts,s.slot t=s'.slot t){l:List Operand}(hl:∀t∈rH l,t∈ts){x:Operand}(hx:x∈l):s.aG x=s'.aG x:=by
 cases x with
 |tmp t=>simp only[State.aG,State.xr,h t (hl t (MS hx))]
 |_=>rfl
theorem ado(j:Nat):bO [SV.undef] j=[SV.undef]:=by
 cases j<;>rfl
theorem zag{s:State}{i j t:Nat}:(s.cg i j).slot t=if t=i then bO (s.slot t) j else s.slot t:=by
 simp only[State.cg,State.slot,List.getD_eq_getElem?_getD,List.getElem?_set]
 by_cases e:t=i
 ·subst e
  rw[if_pos rfl,if_pos rfl]
  by_cases aq:t<s.sl.length
  ·rw[if_pos aq];rfl
  ·rw[if_neg aq,List.getElem?_eq_none (by omega)]
   simp [ado]
 ·rw[if_neg e,if_neg (fun h=>e h.symm)]
theorem znt{t:Nat}:∀{c:List (Nat×Nat)} {s s':State},s.slot t=s'.slot t->(s.close c).slot t=(s'.close c).slot t
 | [],s,s',h=>h
 |(i,j)::r,s,s',h=>by
  rw[Ee,Ee]
  refine znt (c:=r) ?_
  rw[zag,zag,h]
theorem zod{ts:List Nat}:∀{l:List (Nat×Operand)} {s s':State},(∀t∈ts,s.slot t=s'.slot t)->(∀t∈rH (l.map (·.2)),t∈ts)->my s l=my s' l
 | [],s,s',h,hl=>rfl
 |(i,x)::r,s,s',h,hl=>by
  have hx:s.aG x=s'.aG x:=zi9 h hl (by simp)
  have hr:∀c:List (Nat×Nat),my (s.close c) r=my (s'.close c) r:=fun c=>zod (fun t ht=>znt (h t ht)) (fun t ht=>hl t (by
   cases x<;>simp [rH,ht]))
  simp only[my,hx,hr]
theorem OQ{s s':State}:∀{l:List SV},(∀id∈l.flatMap cn,s.box id=s'.box id)->ji s l=ji s' l
 | [],h=>rfl
 |v::r,h=>by
  have hr:ji s r=ji s' r:=OQ fun id fD=>h id (by simp only[List.flatMap_cons,List.mem_append];exact .inr fD)
  simp only[ji,hr]
  split
  ·rfl
  ·rename_i l b _
   cases v with
   |ptr id t p=>
    have hb:s.box id=s'.box id:=h id (by simp [cn])
    cases p with
    |nil=>cases b<;>simp only[hb]
    |cons _ _=>rfl
   |_=>rfl
theorem afg{C:FuncId->bU Out}{ops:List Oper}{s s':State}(h:mz (looks ops o) (zv s o) s s'):act E C ops o s some=act E C ops o s' some:=by
 have ii:∀t∈rH o.op.operands.toList,s.slot t=s'.slot t:=fun t ht=>h.sl t (by simp only[looks,List.mem_append];exact .inl ht)
 have cC:∀x∈o.op.operands.toList,s.aG x=s'.aG x:=fun x hx=>zi9 ii (fun _ ht=>ht) hx
 have bG:∀id∈zv s o,s.box id=s'.box id:=fun id fD=>by
  simp only[State.box,List.getD_eq_getElem?_getD,h.bs id fD]
 unfold act
 cases ho:o.op with
 |move x=>
  have ht:nq s x=nq s' x:=by
   cases x with
   |tmp t=>
    have:s.slot t=s'.slot t:=ii t (by simp [ho,Op.operands,rH])
    simp only[nq,this]
   |_=>rfl
  simp only;rw[cC x (by simp [ho,Op.operands]),ht]
 |assign x=>simp only;rw[cC x (by simp [ho,Op.operands])]
 |pick c x y=>simp only;rw[cC c (by simp [ho,Op.operands]),cC x (by simp [ho,Op.operands]),cC y (by simp [ho,Op.operands])]
 |binOp op T x y T'=>simp only;rw[cC x (by simp [ho,Op.operands]),cC y (by simp [ho,Op.operands])]
 |unOp op T x=>simp only;rw[cC x (by simp [ho,Op.operands])]
 |convert S T x=>
  have hx:=cC x (by simp [ho,Op.operands])
  simp only
  rw[<-hx]
  split
  ·rename_i id n ta tb e
   simp only[jV,bG id (by simp [zv,ho,e,cn])]
  ·rfl
 |makeMap T r=>
  cases r with
  |some r=>rfl
  |none=>
   simp only
   cases hd:o.dst with
   |none=>rfl
   |some d=>
    have:=h.bs (d+1) (by simp [zv,ho,hd])
    simp only[kd,this]
 |lookup T x i ok=>
  cases ok with
  |true=>rfl
  |false=>
   simp only
   rw[<-cC x (by simp [ho,Op.operands]),<-cC i (by simp [ho,Op.operands])]
   unfold lk vB
   split
   ·split
    ·rename_i e
     simp only[bG _ (by simp only[zv,ho,e,cn];exact List.mem_singleton.2 rfl)]
    ·rfl
   ·rfl
 |mapUpdate T m k x=>
  simp only
  rw[<-cC m (by simp [ho,Op.operands]),<-cC k (by simp [ho,Op.operands]),<-cC x (by simp [ho,Op.operands])]
  unfold mc vB
  split
  ·split
   ·rename_i e
    simp only[bG _ (by simp only[zv,ho,e,cn];exact List.mem_singleton.2 rfl)]
   ·rfl
  ·rfl
 |insert T m k x=>
  simp only
  rw[<-cC m (by simp [ho,Op.operands]),<-cC k (by simp [ho,Op.operands]),<-cC x (by simp [ho,Op.operands])]
  unfold mc vB
  split
  ·split
   ·rename_i e
    simp only[bG _ (by simp only[zv,ho,e,cn];exact List.mem_singleton.2 rfl)]
   ·rfl
  ·rfl
 |range T x=>
  simp only
  rw[<-cC x (by simp [ho,Op.operands])]
  cases hd:o.dst with
  |none=>rfl
  |some d=>
   have:=h.bs (d+1) (by simp [zv,ho,hd])
   simp only[kd,this]
 |next x str=>
  cases str with
  |false=>rfl
  |true=>
   simp only
   rw[<-cC x (by simp [ho,Op.operands])]
   unfold lm
   split
   ·rename_i e
    simp only[bG _ (by simp only[zv,ho,e,cn];exact List.mem_singleton.2 rfl)]
   ·rfl
 |makeSlice T l c=>
  simp only
  rw[<-cC l (by simp [ho,Op.operands]),<-cC c (by simp [ho,Op.operands])]
  cases hd:o.dst with
  |none=>rfl
  |some d=>
   have:=h.bs (d+1) (by simp [zv,ho,hd])
   simp only[ll,kd,this]
 |load T x=>
  have hx:=cC x (by simp [ho,Op.operands])
  simp only
  rw[<-hx]
  unfold load
  split
  ·split
   ·rfl
   ·rename_i id t p e
    simp only[ES,nI,bG id (by simp [zv,ho,e,cn])]
   ·rfl
  ·unfold kb
   split
   ·rename_i id a b j e
    simp only[nI,bG id (by simp [zv,ho,e,cn])]
   ·rfl
 |store T x y=>
  have hx:=cC x (by simp [ho,Op.operands])
  have hy:=cC y (by simp [ho,Op.operands])
  simp only
  rw[<-hx]
  unfold store
  rw[<-hy]
  split
  ·split
   ·rename_i id t p e
    simp only[Eu,nI,bG id (by simp [zv,ho,e,cn])]
   ·rfl
  ·rfl
 |nilCheck x=>simp only;rw[cC x (by simp [ho,Op.operands])]
 |fieldAddr T x j=>simp only;rw[cC x (by simp [ho,Op.operands])]
 |indexAddr T x i=>simp only;rw[cC x (by simp [ho,Op.operands]),cC i (by simp [ho,Op.operands])]
 |index T x i=>simp only;rw[cC x (by simp [ho,Op.operands]),cC i (by simp [ho,Op.operands])]
 |field T x j=>simp only;rw[cC x (by simp [ho,Op.operands])]
 |slice T x lo hi mx=>
  cases mx with
  |none=>
   simp only
   have B4:lo.map s.aG=lo.map s'.aG:=by
    cases lo with
    |none=>rfl
    |some l=>simp only[Option.map_some,cC l (by simp [ho,Op.operands])]
   have Jo:hi.map s.aG=hi.map s'.aG:=by
    cases hi with
    |none=>rfl
    |some l=>simp only[Option.map_some,cC l (by simp [ho,Op.operands])]
   rw[<-cC x (by simp [ho,Op.operands]),B4,Jo]
   split
   ·rfl
   ·rename_i id n t e
    simp only[qR,bG id (by simp [zv,ho,e,cn])]
   ·rfl
  |some m=>rfl
 |makeFunc fn fi ca=>
  cases fn with
  |func f=>
   simp only
   split
   ·rename_i x e1 e2
    have hm:x∈o.op.operands.toList:=by
     simp only[ho,Op.operands,Array.toList_append,List.mem_append,e2]
     exact .inr (by simp)
    rw[cC x hm]
   ·rename_i x y e1 e2
    have hm:∀z∈ [x,y],z∈o.op.operands.toList:=fun z hz=>by
     simp only[ho,Op.operands,Array.toList_append,List.mem_append,e2]
     exact .inr hz
    rw[cC x (hm x (by simp)),cC y (hm y (by simp))]
   ·rfl
  |_=>rfl
 |alloc T=>
  simp only
  cases hd:o.dst with
  |none=>split<;>simp_all
  |some d=>
   have:=h.bs (d+1) (by simp [zv,ho,hd])
   cases E.ty T<;>cases E.gr T<;>simp only[this]
 |box T x=>
  have hx:=cC x (by simp [ho,Op.operands])
  simp only
  cases hd:o.dst with
  |none=>split<;>simp_all
  |some d=>
   have:=h.bs (d+1) (by simp [zv,ho,hd])
   cases E.ty T<;>simp only[this,hx]
 |build T parts=>
  have hp:my s parts.toList=my s' parts.toList:=zod ii (fun t ht=>by simpa [ho,Op.operands] using ht)
  simp only[hp]
 |buildSlice T n parts=>
  have hp:(parts.toList.map fun p=>(p.1,s.aG p.2))=parts.toList.map fun p=>(p.1,s'.aG p.2):=List.map_congr_left fun p hp=>by
   rw[cC p.2 (by
    simp only[ho,Op.operands]
    exact List.mem_map.2 ⟨p,hp,rfl⟩)]
  simp only[hp]
 |extract x j=>
  cases x with
  |tmp t=>
   have:s.slot t=s'.slot t:=ii t (by simp [ho,Op.operands,rH])
   simp only[this]
  |_=>rfl
 |call c=>
  obtain⟨callee,args,ts⟩:=c
  cases callee with
  |value x=>
   cases x with
   |func f=>
    have bV:args.toList.map s.aG=args.toList.map s'.aG:=List.map_congr_left fun x hx=>cC x (by
     simp only[ho,Op.operands,Call.operands,Array.toList_append,List.mem_append]
     exact .inr hx)
    have iT:ji s (args.toList.map s'.aG)=ji s' (args.toList.map s'.aG):=OQ fun id fD=>bG id (by
     simp only[zv,ho,List.mem_append]
     refine .inl ?_
     rw[<-bV,List.flatMap_map] at fD
     exact fD)
    have hlk:Fe s args.toList=Fe s' args.toList:=by
     cases Jd:args.toList with
     |nil=>rfl
     |cons x r=>
      cases x with
      |tmp t=>
       have:s.slot t=s'.slot t:=ii t (by
        simp only[ho,Op.operands,Call.operands,Array.toList_append,Jd]
        exact MS (List.mem_append_right _ (by simp)))
       simp only[Fe,this]
      |_=>rfl
    simp only
    rw[<-hlk]
    split
    ·rename_i t id a b j r hl
     obtain⟨Jd,bS⟩:=zo8 hl
     have hr:r.map s.aG=r.map s'.aG:=by
      have:=bV
      rw[Jd] at this
      simpa using(List.cons.inj this).2
     have hbr:ji s (r.map s'.aG)=ji s' (r.map s'.aG):=OQ fun id fD=>bG id (by
      simp only[zv,ho,List.mem_append]
      refine .inl ?_
      rw[<-hr,List.flatMap_map] at fD
      rw[Jd,List.flatMap_cons,List.mem_append]
      exact .inr fD)
     have fD:s.box id=s'.box id:=bG id (by
      simp only[zv,ho,List.mem_append]
      refine .inl ?_
      rw[Jd,List.flatMap_cons,List.mem_append]
      refine .inl ?_
      have:s.aG (.tmp t)= .bz id a b j:=by show one (s.slot t)=_;rw[bS];rfl
      rw[this];simp [cn])
     simp only[jT,nI,hr,hbr,fD]
    simp only[fP,bV,iT]
    cases hd:o.dst with
    |none=>rfl
    |some d=>
     have:=h.bs (d+1) (by simp [zv,ho,hd])
     simp only[this]
   |tmp y=>
    have hy:s.aG (.tmp y)=s'.aG (.tmp y):=cC (.tmp y) (by
     simp only[ho,Op.operands,Call.operands,Array.toList_append,List.mem_append]
     exact .inl (by simp))
    have bV:args.toList.map s.aG=args.toList.map s'.aG:=List.map_congr_left fun x hx=>cC x (by
     simp only[ho,Op.operands,Call.operands,Array.toList_append,List.mem_append]
     exact .inr hx)
    simp only
    rw[<-hy]
    split
    ·rename_i id f t b e
     have iT:ji s (args.toList.map s'.aG++ [.ptr id t []])=ji s' (args.toList.map s'.aG++ [.ptr id t []]):=OQ fun bc fD=>bG bc (by
      simp only[zv,ho,List.mem_append,e]
      rw[List.flatMap_append,List.mem_append] at fD
      rcases fD with fD|fD
      ·refine .inl ?_
       rw[<-bV,List.flatMap_map] at fD
       exact fD
      ·exact .inr (.inl (by simpa [cn] using fD)))
     simp only[fP,bV,iT]
     cases hd:o.dst with
     |none=>rfl
     |some d=>
      have:=h.bs (d+1) (by simp [zv,ho,hd])
      simp only[this]
    ·rename_i f t x u y e
     have iT:ji s (args.toList.map s'.aG++ [.view t x,.view u y])=ji s' (args.toList.map s'.aG++ [.view t x,.view u y]):=OQ fun bc fD=>bG bc (by
      simp only[zv,ho,List.mem_append]
      rw[List.flatMap_append,List.mem_append] at fD
      rcases fD with fD|fD
      ·refine .inl ?_
       rw[<-bV,List.flatMap_map] at fD
       exact fD
      ·simp [cn] at fD)
     simp only[fP,bV,iT]
     cases hd:o.dst with
     |none=>rfl
     |some d=>
      have:=h.bs (d+1) (by simp [zv,ho,hd])
      simp only[this]
    ·rfl
   |_=>rfl
  |builtin b=>
   have bV:∀x∈args.toList,s.aG x=s'.aG x:=fun x hx=>cC x (by
    simp only[ho,Op.operands,Call.operands,Array.toList_append,List.mem_append]
    exact .inr hx)
   cases b with
   |copy=>
    simp only
    split
    ·rename_i d x T r e1 e2
     rw[bV x (by rw[e1];simp),<-bV d (by rw[e1];simp)]
     unfold copyV
     split
     ·rename_i e0 t0 id n ta tb hT e
      have hb:s.box id=s'.box id:=bG id (by simp only[zv,ho,e1,List.flatMap_cons,e,cn];exact List.mem_append_left _ (List.mem_singleton.2 rfl))
      simp only[ib,jW,hb]
     ·rename_i e0 t0 id n ta tb l hT e
      have hb:s.box id=s'.box id:=bG id (by simp only[zv,ho,e1,List.flatMap_cons,e,cn];exact List.mem_append_left _ (List.mem_singleton.2 rfl))
      simp only[ib,hb]
     ·rfl
    ·rfl
   |len=>
    simp only
    split
    ·rename_i x T e1 e2
     rw[bV x (by rw[e1];simp)]
    ·rfl
   |append=>
    simp only
    split
    ·rename_i x y T U e1 e2
     rw[bV x (by rw[e1];simp),bV y (by rw[e1];simp)]
    ·rfl
   |max=>
    simp only
    split
    ·rename_i x y e1
     rw[bV x (by rw[e1];simp),bV y (by rw[e1];simp)]
    ·rfl
   |min=>
    simp only
    split
    ·rename_i x y e1
     rw[bV x (by rw[e1];simp),bV y (by rw[e1];simp)]
    ·rfl
   |_=>rfl
  |_=>rfl
 |_=>rfl
end Go.Ref

namespace Go.Ref
open Go
variable {P:Program} {E:Env} {X:ax} {s:State} {a:Act} {o:Oper} {u:Out}
def QL:List (Nat×Nat)->Nat->List SV->List SV
 | [],_,l=>l
 |(i,j)::r,t,l=>QL r t (if t=i then bO l j else l)
theorem RU{t:Nat}:∀{c:List (Nat×Nat)} {s:State},(s.close c).slot t=QL c t (s.slot t)
 | [],s=>rfl
 |(i,j)::r,s=>by rw[Ee,RU (c:=r),zag];rfl
theorem rW{t:Nat}:∀{c:List (Nat×Nat)} {l:List SV},t∉c.map (·.1)->QL c t l=l
 | [],l,h=>rfl
 |(i,j)::r,l,h=>by
  simp only[List.map_cons,List.mem_cons,not_or] at h
  simp only[QL]
  rw[if_neg h.1]
  exact rW h.2
theorem FW{d:Option Nat}:(s.apply d u).sl.length=s.sl.length:=by
 cases d with
 |none=>simp only[State.apply,State.au];cases u.bx<;>simp [State.aC,O0]
 |some d=>simp only[State.apply,State.au,List.length_set];cases u.bx<;>simp [State.aC,O0]
theorem OP{d:Option Nat}{t:Nat}:(s.apply d u).slot t=if d=some t/\t<s.sl.length then u.v else QL u.cl t (s.slot t):=by
 have hb:∀(s:State) b,(s.aC b).slot t=s.slot t:=fun s b=>by cases b<;>rfl
 cases d with
 |none=>
  simp only[State.apply,State.au,hb,RU]
  rw[if_neg (by simp)]
 |some d=>
  simp only[State.apply]
  by_cases e:d=t
  ·subst e
   by_cases aq:d<s.sl.length
   ·rw[if_pos ⟨rfl,aq⟩]
    have:d<((s.close u.cl).aC u.bx).sl.length:=by
     have:((s.close u.cl).aC u.bx).sl.length=s.sl.length:=by cases u.bx<;>simp [State.aC,O0]
     omega
    simp only[State.au,State.slot,List.getD_eq_getElem?_getD,List.getElem?_set_self this,Option.getD_some]
   ·rw[if_neg (fun h=>aq h.2)]
    have:((s.close u.cl).aC u.bx).sl.length<=d:=by
     have:((s.close u.cl).aC u.bx).sl.length=s.sl.length:=by cases u.bx<;>simp [State.aC,O0]
     omega
    have h2:(((s.close u.cl).aC u.bx).au (some d) u.v).slot d=((s.close u.cl).aC u.bx).slot d:=by
     simp only[State.au,State.slot]
     rw[List.set_eq_of_length_le this]
    rw[h2,hb,RU]
  ·rw[if_neg (fun h=>e (by injection h.1))]
   have h2:(((s.close u.cl).aC u.bx).au (some d) u.v).slot t=((s.close u.cl).aC u.bx).slot t:=by
    simp only[State.au,State.slot,List.getD_eq_getElem?_getD,List.getElem?_set_ne e]
   rw[h2,hb,RU]
theorem O8{d:Option Nat}{id:Nat}:(s.apply d u).bs[id]? =match u.bx with
 |some (bc,B)=>if bc=id then(s.bs[id]?).map (fun _=>some B) else s.bs[id]?
 |none=>s.bs[id]? :=by
 have hs:∀(s:State) d l,(s.au d l).bs=s.bs:=fun s d l=>by cases d<;>rfl
 simp only[State.apply,hs]
 cases hb:u.bx with
 |none=>simp only[State.aC,xQ]
 |some b=>
  obtain⟨bc,B⟩:=b
  simp only[State.aC,xQ]
  rw[List.getElem?_set]
  by_cases e:bc=id
  ·subst e
   rw[if_pos rfl,if_pos rfl]
   by_cases aq:bc<s.bs.length
   ·rw[if_pos aq,List.getElem?_eq_getElem aq];rfl
   ·rw[if_neg aq,List.getElem?_eq_none (by omega)];rfl
  ·rw[if_neg e,if_neg e]
theorem agI{s s':State}(h1:s.sl.length=s'.sl.length)(h2:∀t,s.slot t=s'.slot t)(h3:∀id:Nat,s.bs[id]? =s'.bs[id]?):s=s':=by
 cases s with
 |mk sl bs=>
  cases s' with
  |mk sl' bs'=>
   simp only[State.mk.injEq]
   refine⟨List.ext_getElem? fun i=> ?_,List.ext_getElem? h3⟩
   have:=h2 i
   simp only[State.slot,List.getD_eq_getElem?_getD] at this h1
   by_cases aq:i<sl.length
   ·rw[List.getElem?_eq_getElem aq,List.getElem?_eq_getElem (by omega)] at this⊢
    simpa using this
   ·rw[List.getElem?_eq_none (by omega),List.getElem?_eq_none (by omega)]
structure Bg(R1 W1 b1 c1 R2 W2 b2 c2:List Nat):Prop where
 h1:∀t∈W1,t∉R2/\t∉W2
 h2:∀t∈W2,t∉R1
 h3:∀id∈c1,id∉b2/\id∉c2
 h4:∀id∈c2,id∉b1
theorem z167{o1 o2:Oper}{ops:List Oper}{i1 i2:Nat}{s1 s2:State}{u1 u2:Out}(h:(gl ops o1 i1 s1 u1).apart (gl ops o2 i2 s2 u2)=true):
 Bg (looks ops o1) (o1.dst.toList++u1.cl.map (·.1)) (zv s1 o1) (u1.bx.toList.map (·.1)) (looks ops o2) (o2.dst.toList++u2.cl.map (·.1)) (zv s2 o2) (u2.bx.toList.map (·.1)):=by
 simp only[dQ.apart,gl,Bool.and_eq_true] at h
 obtain⟨g1,g2,g3,g4⟩:=h
 refine⟨fun t ht=> ?_,fun t ht=> ?_,fun t ht=> ?_,fun t ht=> ?_⟩
 ·have:=Sr g1 t (by rw[xP];exact decide_eq_true ht)
  simp only[Nat.testBit_or,xP,Bool.or_eq_false_iff,decide_eq_false_iff_not] at this
  exact this
 ·have:=Sr g2 t (by rw[xP];exact decide_eq_true ht)
  simpa only[xP,decide_eq_false_iff_not] using this
 ·have:=Sr g3 t (by rw[xP];exact decide_eq_true ht)
  simp only[Nat.testBit_or,xP,Bool.or_eq_false_iff,decide_eq_false_iff_not] at this
  exact this
 ·have:=Sr g4 t (by rw[xP];exact decide_eq_true ht)
  simpa only[xP,decide_eq_false_iff_not] using this
theorem znq{d:Option Nat}{ts bs:List Nat}(h1:∀t∈ts,t∉d.toList++u.cl.map (·.1))(h2:∀id∈bs,id∉u.bx.toList.map (·.1)):mz ts bs (s.apply d u) s where
 sl:=fun t ht=>by
  have h:=h1 t ht
  simp only[List.mem_append,not_or] at h
  rw[OP,if_neg (fun hc=>h.1 (by rw[hc.1];simp)),rW h.2]
 bs:=fun id fD=>by
  have h:=h2 id fD
  rw[O8]
  cases hb:u.bx with
  |none=>rfl
  |some b=>
   obtain⟨bc,B⟩:=b
   rw[hb] at h
   simp only
   rw[if_neg (fun e=>h (by simp [e]))]
theorem acF{d1 d2:Option Nat}{u1 u2:Out}(h1:∀t∈d1.toList++u1.cl.map (·.1),t∉d2.toList++u2.cl.map (·.1))(h2:∀id∈u1.bx.toList.map (·.1),id∉u2.bx.toList.map (·.1)):
 (s.apply d1 u1).apply d2 u2=(s.apply d2 u2).apply d1 u1:=by
 refine agI (by rw[FW,FW,FW,FW]) (fun t=> ?_) (fun id=> ?_)
 ·rw[OP,OP,OP,OP,FW,FW]
  by_cases BP:d1=some t
  ·have hm:t∈d1.toList++u1.cl.map (·.1):=by rw[BP];simp
   have hn:=h1 t hm
   simp only[List.mem_append,not_or] at hn
   have rO:¬d2=some t:=fun e=>hn.1 (by rw[e];simp)
   by_cases aq:t<s.sl.length
   ·rw[if_neg (fun h=>rO h.1),if_pos ⟨BP,aq⟩,rW hn.2,if_pos ⟨BP,aq⟩]
   ·rw[if_neg (fun h=>rO h.1),if_neg (fun h=>aq h.2),if_neg (fun h=>aq h.2),if_neg (fun h=>aq h.2),rW hn.2,rW hn.2]
  ·by_cases rO:d2=some t
   ·have hn:t∉d1.toList++u1.cl.map (·.1):=fun hm=>h1 t hm (by rw[rO];simp)
    simp only[List.mem_append,not_or] at hn
    by_cases aq:t<s.sl.length
    ·rw[if_pos ⟨rO,aq⟩,if_neg (fun h=>BP h.1),if_pos ⟨rO,aq⟩,rW hn.2]
    ·rw[if_neg (fun h=>aq h.2),if_neg (fun h=>aq h.2),if_neg (fun h=>aq h.2),if_neg (fun h=>aq h.2),rW hn.2,rW hn.2]
   ·rw[if_neg (fun h=>rO h.1),if_neg (fun h=>BP h.1),if_neg (fun h=>BP h.1),if_neg (fun h=>rO h.1)]
    by_cases hm:t∈u1.cl.map (·.1)
    ·have hn:=h1 t (by simp only[List.mem_append];exact .inr hm)
     simp only[List.mem_append,not_or] at hn
     rw[rW hn.2,rW hn.2]
    ·rw[rW hm,rW hm]
 ·rw[O8,O8,O8,O8]
  cases nz:u1.bx with
  |none=>rfl
  |some b1=>
   obtain⟨Zq,B1⟩:=b1
   cases lT:u2.bx with
   |none=>rfl
   |some b2=>
    obtain⟨qX,B2⟩:=b2
    rw[nz,lT] at h2
    have bI:Zq≠qX:=fun e=>h2 Zq (by simp) (by simp [e])
    simp only
    by_cases e1:Zq=id
    ·subst e1
     rw[if_neg (fun e=>bI e.symm),if_pos rfl,if_pos rfl,if_neg (fun e=>bI e.symm)]
    ·by_cases e2:qX=id
     ·subst e2
      rw[if_pos rfl,if_neg e1,if_neg e1,if_pos rfl]
     ·rw[if_neg e2,if_neg e1,if_neg e1,if_neg e2]
theorem zof{ops:List Oper}{s s':State}(h:∀t∈looks ops o,s.slot t=s'.slot t):zv s o=zv s' o:=by
 have cC:∀x∈o.op.operands.toList,s.aG x=s'.aG x:=fun x hx=>zi9 (ts:=rH o.op.operands.toList) (fun t ht=>h t (by simp only[looks,List.mem_append];exact .inl ht)) (fun _ ht=>ht) hx
 unfold zv
 cases ho:o.op with
 |load T x=>simp only;rw[cC x (by simp [ho,Op.operands])]
 |store T x y=>simp only;rw[cC x (by simp [ho,Op.operands])]
 |convert S T x=>simp only;rw[cC x (by simp [ho,Op.operands])]
 |slice T x lo hi mx=>simp only;rw[cC x (by simp [ho,Op.operands])]
 |lookup T x i ok=>simp only;rw[cC x (by simp [ho,Op.operands])]
 |mapUpdate T m k x=>simp only;rw[cC m (by simp [ho,Op.operands])]
 |insert T m k x=>simp only;rw[cC m (by simp [ho,Op.operands])]
 |next x str=>simp only;rw[cC x (by simp [ho,Op.operands])]
 |call c=>
  obtain⟨callee,args,ts⟩:=c
  have:(args.toList.map fun x=>cn (s.aG x))=args.toList.map fun x=>cn (s'.aG x):=List.map_congr_left fun x hx=>by
   rw[cC x (by
    simp only[ho,Op.operands,Call.operands,Array.toList_append,List.mem_append]
    exact .inr hx)]
  cases callee with
  |value f=>
   simp only
   have hf:s.aG f=s'.aG f:=cC f (by
    simp only[ho,Op.operands,Call.operands,Array.toList_append,List.mem_append]
    exact .inl (by simp))
   rw[hf,List.flatMap_def,List.flatMap_def,this]
  |builtin b=>
   cases b with
   |copy=>simp only;rw[List.flatMap_def,List.flatMap_def,this]
   |_=>rfl
  |_=>rfl
 |_=>rfl
theorem z130{C:ah}{ops:List Oper}{s s':State}(h:mz (looks ops o) (zv s o) s s'):eH E C ops o s=eH E C ops o s':=by
 unfold eH
 rw[afg h]
 split
 ·rfl
 ·rename_i g want hg
  split
  ·rfl
  ·rename_i d hd
   rw[h.sl d (by simp [looks,hg,hd])]
theorem swap{C:ah}{ops:List Oper}{o1 o2:Oper}{i1 i2:Nat}{u1 u2:Out}(h1:eH E C ops o1 s=some u1)(h2:eH E C ops o2 (s.apply o1.dst u1)=some u2)(h:(gl ops o1 i1 s u1).apart (gl ops o2 i2 (s.apply o1.dst u1) u2)=true):
 eH E C ops o2 s=some u2/\gl ops o2 i2 s u2=gl ops o2 i2 (s.apply o1.dst u1) u2/\eH E C ops o1 (s.apply o2.dst u2)=some u1/\gl ops o1 i1 (s.apply o2.dst u2) u1=gl ops o1 i1 s u1/\
  (s.apply o2.dst u2).apply o1.dst u1=(s.apply o1.dst u1).apply o2.dst u2:=by
 have hp:=z167 h
 have ag1:mz (looks ops o2) (zv (s.apply o1.dst u1) o2) (s.apply o1.dst u1) s:=znq (fun t ht hm=>(hp.h1 t hm).1 ht) (fun id fD hm=>(hp.h3 id hm).1 fD)
 have eL:=zof (ops:=ops) (o:=o2) ag1.sl
 have Yb:mz (looks ops o1) (zv s o1) (s.apply o2.dst u2) s:=znq (fun t ht hm=>hp.h2 t hm ht) (fun id fD hm=>hp.h4 id hm fD)
 have eW:=zof (ops:=ops) (o:=o1) Yb.sl
 refine⟨by rw[<-z130 ag1];exact h2,by simp only[gl,eL],?_,by simp only[gl,eW],(acF (fun t ht=>(hp.h1 t ht).2) (fun id fD=>(hp.h3 id fD).2)).symm⟩
 rw[z130 (s:=s.apply o2.dst u2) (s':=s) ⟨Yb.sl,fun id fD=>Yb.bs id (by rw[<-eW];exact fD)⟩]
 exact h1
end Go.Ref

namespace Go.Ref
open Go
variable {P:Program} {E:Env} {X:ax} {s:State} {a:Act} {o:Oper} {u:Out}
def n3(E:Env)(C:ah)(ops:Array Oper):List Nat->State->List dQ->State->Prop
 | [],s,tr,z=>s=z/\tr=[]
 |i::r,s,f::tr,z=>∃u,eH E C ops.toList (ops.getD i default) s=some u/\f=gl ops.toList (ops.getD i default) i s u/\n3 E C ops r (s.apply (ops.getD i default).dst u) tr z
 |_::_,_,[],_=>False
def u6(ops:Array Oper)(i:Nat):Nat:=zx (ops.getD i default).after.toList
theorem LN{ops:List Oper}{q:Nat}:∀(n m:Nat),m.testBit q=true->(je ops n m).testBit q=true
 |0,m,h=>h
 |i+1,m,h=>by
  refine LN i _ ?_
  split
  ·cases m.testBit i with
   |false=>exact h
   |true=>rw[cond_true,Nat.testBit_or,h];rfl
  ·exact h
theorem zo9{listed:Array Bool}{i q:Nat}(h:listed.getD q false=true):(listed.setIfInBounds i true).getD q false=true:=by
 simp only[Array.getD_eq_getD_getElem?,Array.getElem?_setIfInBounds] at h⊢
 split
 ·split
  ·rfl
  ·rename_i h1 h2
   subst h1
   rw[Array.getElem?_eq_none (by omega)] at h
   exact h
 ·exact h
theorem af8{listed:Array Bool}{i q:Nat}(e:q≠i):(listed.setIfInBounds i true).getD q false=listed.getD q false:=by
 simp only[Array.getD_eq_getD_getElem?]
 rw[Array.getElem?_setIfInBounds_ne (by omega)]
def tj(ops:Array Oper)(listed:Array Bool):Prop:=∀i,listed.getD i false=true->∀q,(u6 ops i).testBit q=true->listed.getD q false=true
theorem RQ{ops:Array Oper}{listed:Array Bool}(ff:tj ops listed):∀(n m:Nat),(∀q,m.testBit q=true->listed.getD q false=true)->∀q,(je ops.toList n m).testBit q=true->listed.getD q false=true
 |0,m,h=>h
 |i+1,m,h=>by
  refine RQ ff i _ fun q hq=> ?_
  split at hq
  ·rename_i o ho
   cases hb:m.testBit i with
   |false=>rw[hb] at hq;exact h q hq
   |true=>
    rw[hb,cond_true,Nat.testBit_or,Bool.or_eq_true] at hq
    rcases hq with hq|hq
    ·exact h q hq
    ·refine ff i (h i hb) q ?_
     have:ops.getD i default=o:=by
      rw[Array.getElem?_toList] at ho
      simp only[Array.getD_eq_getD_getElem?,ho,Option.getD_some]
     unfold u6
     rw[this]
     exact hq
  ·exact h q hq
theorem ML{ops:Array Oper}{listed:Array Bool}(ff:tj ops listed){i:Nat}(h:∀q,(u6 ops i).testBit q=true->listed.getD q false=true):tj ops (listed.setIfInBounds i true):=fun j hj q hq=>by
 by_cases e:j=i
 ·subst e
  exact zo9 (h q hq)
 ·rw[af8 e] at hj
  exact zo9 (ff j hj q hq)
def vD(ops:Array Oper)(a b:dQ):Prop:=(je ops.toList b.i (u6 ops b.i)).testBit a.i=true\/a.apart b=true
theorem D8{C:ah}{ops:Array Oper}:∀{l:List Nat} {s z:State} {tr:List dQ},n3 E C ops l s tr z->tr.map (·.i)=l
 | [],s,z,tr,h=>by rw[h.2];rfl
 |i::r,s,z,f::tr,h=>by
  obtain⟨u,_,rfl,h3⟩:=h
  simp only[List.map_cons,D8 h3]
  rfl
 |_::_,s,z,[],h=>h.elim
theorem zar{C:ah}(hC:C.Nat){ops:Array Oper}{z:State}:∀(l:List Nat) (i:Nat) (s:State) (tr:List dQ),(∀(j:Nat) k,l[j]? =some k->k=i+j)->
 yb E (C State) ops.toList (l.map fun k=>ops.getD k default) i s tr some=some z->∃xH,n3 E C ops l s xH z/\(∀a∈tr,∀b∈xH,vD ops a b)/\xH.Pairwise (vD ops)/\∀k∈l,Nat.ble (u6 ops k+1) (bit k)=true
 | [],i,s,tr,hl,h=>by
   cases h
   exact⟨[],⟨rfl,rfl⟩,(fun a _ b hb=>by cases hb),List.Pairwise.nil,fun k hk=>by cases hk⟩
 |k::r,i,s,tr,hl,h=>by
  have hk:k=i:=by simpa using hl 0 k rfl
  subst hk
  simp only[List.map_cons,yb] at h
  obtain⟨u,h1,h2,h3⟩:=agK hC h
  obtain⟨xH,r1,r2,r3,r4⟩:=zar hC r (k+1) _ _ (fun j k' hj=>by
   have:=hl (j+1) k' hj
   omega) h3
  simp only[fits,Bool.and_eq_true] at h2
  obtain⟨h2a,Yu⟩:=h2
  have Yu:=List.all_eq_true.1 Yu
  refine⟨gl ops.toList (ops.getD k default) k s u::xH,⟨u,h1,rfl,r1⟩,fun a ha b hb=> ?_,?_,fun k' Js=> ?_⟩
  ·rcases List.mem_cons.1 hb with rfl|hb
   ·have:=Yu a ha
    simp only[Bool.or_eq_true] at this
    rcases this with this|this|this
    ·exact .inl (LN _ _ this)
    ·exact .inr this
    ·exact .inl this
   ·exact r2 a (List.mem_cons_of_mem _ ha) b hb
  ·exact List.pairwise_cons.2 ⟨fun b hb=>r2 _ (by simp) b hb,r3⟩
  ·rcases List.mem_cons.1 Js with rfl|Js
   ·exact h2a
   ·exact r4 k' Js
theorem zqt{C:ah}{ops:Array Oper}{z:State}{i:Nat}{q:List Nat}:∀(p:List Nat) (s:State) (tr:List dQ),n3 E C ops (p++i::q) s tr z->(∀(tp:List dQ) f tq,tr=tp++f::tq->tp.length=p.length->∀a∈tp,a.apart f=true)->
 ∃tp f tq u,tr=tp++f::tq/\tp.length=p.length/\eH E C ops.toList (ops.getD i default) s=some u/\f=gl ops.toList (ops.getD i default) i s u/\n3 E C ops (p++q) (s.apply (ops.getD i default).dst u) (tp++tq) z
 | [],s,[],h,Ad=>h.elim
 | [],s,f::tr,h,Ad=>by
   obtain⟨u,h1,h2,h3⟩:=h
   exact⟨[],f,tr,u,rfl,rfl,h1,h2,h3⟩
 |j::p,s,[],h,Ad=>h.elim
 |j::p,s,g::tr,h,Ad=>by
  obtain⟨uj,h1,h2,h3⟩:=h
  obtain⟨tp,f,tq,u,e1,e2,k1,k2,k3⟩:=zqt p _ tr h3 (fun tp f tq e hl a ha=>Ad (g::tp) f tq (by rw[e];rfl) (by simp [hl]) a (List.mem_cons_of_mem _ ha))
  have hg:=Ad (g::tp) f tq (by rw[e1];rfl) (by simp [e2]) g (by simp)
  rw[h2,k2] at hg
  obtain⟨w1,w2,w3,w4,w5⟩:=swap h1 k1 hg
  refine⟨g::tp,f,tq,u,by rw[e1];rfl,by simp [e2],w1,by rw[k2,w2],uj,w3,by rw[h2,w4],?_⟩
  rw[w5]
  exact k3
theorem MO{l:List Nat}{i:Nat}(h:i∈l):∃p q,l=p++i::q:=List.append_of_mem h
theorem zuv{p q:List Nat}{i:Nat}(h:(p++i::q).Nodup):(p++i::q).filter (fun j=> !(Nat.beq j i))=p++q:=by
 have h':=List.nodup_append.1 h
 have hp:∀j∈p,j≠i:=fun j hj=>h'.2.2 j hj i (by simp)
 have hq:∀j∈q,j≠i:=fun j hj e=>by
  have:=(List.nodup_cons.1 h'.2.1).1
  rw[e] at hj;exact this hj
 rw[List.filter_append,List.filter_cons]
 have hb:∀j,j≠i->(!(Nat.beq j i))=true:=fun j hj=>by
  cases hh:Nat.beq j i with
  |false=>rfl
  |true=>exact absurd (Nat.eq_of_beq_eq_true hh) hj
 rw[List.filter_eq_self.2 (fun j hj=>hb j (hp j hj)),List.filter_eq_self.2 (fun j hj=>hb j (hq j hj))]
 have:(!(Nat.beq i i))=false:=by simp
 rw[this]
 simp
def rest(n:Nat)(listed:Array Bool):List Nat:=(List.range n).filter fun i=> !listed.getD i true
theorem aj4{n:Nat}{listed:Array Bool}(hs:listed.size=n){i:Nat}{p q:List Nat}(h:rest n listed=p++i::q):rest n (listed.setIfInBounds i true)=p++q:=by
 have nC:(rest n listed).Nodup:=List.nodup_range.filter _
 rw[h] at nC
 rw[<-zuv nC,<-h]
 simp only[rest,List.filter_filter]
 refine List.filter_congr fun j hj=> ?_
 have YM:=List.mem_range.1 hj
 by_cases e:j=i
 ·subst e
  have:(listed.setIfInBounds j true).getD j true=true:=by simp [Array.getD_eq_getD_getElem?,hs,YM]
  rw[this];simp
 ·have h1:(listed.setIfInBounds i true).getD j true=listed.getD j true:=by
   simp only[Array.getD_eq_getD_getElem?]
   rw[Array.getElem?_setIfInBounds_ne (fun h=>e h.symm)]
  have h2:Nat.beq j i=false:=by
   cases hh:Nat.beq j i with
   |false=>rfl
   |true=>exact absurd (Nat.eq_of_beq_eq_true hh) e
  rw[h1,h2];simp
theorem FZ{ops:Array Oper}{listed:Array Bool}{i:Nat}(h:i∈Region.ready .any ops listed):i∈rest ops.size listed/\∀e∈(ops.getD i default).after.toList,Region.binds .any e=true->listed.getD e.on false=true:=by
 unfold Region.ready at h
 obtain⟨h1,h2⟩:=List.mem_filter.1 h
 have hi:=List.mem_range.1 h1
 rw[Bool.and_eq_true] at h2
 refine⟨List.mem_filter.2 ⟨h1,h2.1⟩,fun e he hb=> ?_⟩
 have h3:=h2.2
 rw[Array.getElem?_eq_getElem hi] at h3
 simp only[Option.map_some,Option.getD_some] at h3
 have cB:ops.getD i default=ops[i]:=by simp [hi]
 rw[cB] at he
 have h4:=Array.all_eq_true_iff_forall_mem.1 h3 e (by simpa using he)
 rw[hb] at h4
 simpa using h4
theorem MI{ops:Array Oper}{listed:Array Bool}{i:Nat}(h:i∈rest ops.size listed)(ha:∀e∈(ops.getD i default).after.toList,Region.binds .any e=true->listed.getD e.on false=true):i∈Region.ready .any ops listed:=by
 obtain⟨h1,h2⟩:=List.mem_filter.1 h
 have hi:=List.mem_range.1 h1
 refine List.mem_filter.2 ⟨h1,?_⟩
 rw[Bool.and_eq_true]
 refine⟨h2,?_⟩
 have cB:ops.getD i default=ops[i]:=by simp [hi]
 rw[Array.getElem?_eq_getElem hi]
 simp only[Option.map_some,Option.getD_some]
 refine Array.all_eq_true_iff_forall_mem.2 fun e he=> ?_
 cases hb:Region.binds .any e with
 |false=>rfl
 |true=>
  rw[ha e (by rw[cB];simpa using he) hb]
  simp
theorem ajp(hE:ap P E){C:ah}(hC:C.Nat)(hf:∀f,cV P C f){ops:Array Oper}{z:State}{Q:Exit->Act->World->Prop}(lV:∀k,k<ops.size->Nat.ble (u6 ops k+1) (bit k)=true):
 ∀(cq:Nat) (listed:Array Bool) (X:ax) (s:State) (a:Act) (tr:List dQ),Rel X s a->tj ops listed->listed.size=ops.size->cq=(rest ops.size listed).length->n3 E C ops (rest ops.size listed) s tr z->tr.Pairwise (vD ops)->
  (∀Y a',Ext X Y->Rel Y z a'->Q .normal a' Y.w)->wpAny P .any ops Q cq listed a X.w:=by
 intro cq
 have done:∀(listed:Array Bool),listed.size=ops.size->Region.ready .any ops listed=[]->rest ops.size listed=[]:=by
  intro listed hs hr
  rcases hl:rest ops.size listed with _|⟨i,r⟩
  ·rfl
  have cE:i∈rest ops.size listed:=by rw[hl];simp
  have dh:=List.mem_range.1 (List.mem_filter.1 cE).1
  have j5:i∈Region.ready .any ops listed:=by
   refine MI cE fun e he hb=> ?_
   have aq:e.on<i:=KJ (lV i dh) (zh4 _ e he hb)
   cases hx:listed.getD e.on false with
   |true=>rfl
   |false=>
    exfalso
    have fW:e.on<listed.size:=by omega
    have Au:listed.getD e.on true=false:=by
     simp only[Array.getD_eq_getD_getElem?,Array.getElem?_eq_getElem fW,Option.getD_some] at hx⊢
     exact hx
    have hm:e.on∈rest ops.size listed:=List.mem_filter.2 ⟨List.mem_range.2 (by omega),by rw[Au];rfl⟩
    have il:(rest ops.size listed).Pairwise (· < ·):=List.pairwise_lt_range.filter _
    rw[hl] at il hm
    rcases List.mem_cons.1 hm with e1|hm
    ·omega
    ·have:=(List.pairwise_cons.1 il).1 _ hm
     omega
  rw[hr] at j5
  cases j5
 induction cq with
 |zero=>
  intro listed X s a tr hr ff hs nB dJ vg hQ
  have tX:rest ops.size listed=[]:=List.eq_nil_of_length_eq_zero nB.symm
  rw[tX] at dJ
  obtain⟨rfl,_⟩:=dJ
  refine⟨?_,hQ X a (Ext.refl X) hr⟩
  rcases JI:Region.ready .any ops listed with _|⟨i,r⟩
  ·rfl
  ·have:=(FZ (i:=i) (by rw[JI];simp)).1
   rw[tX] at this
   cases this
 |succ cq ih=>
  intro listed X s a tr hr ff hs nB dJ vg hQ
  refine⟨fun ig=> ?_,fun i hi=> ?_⟩
  ·rw[done listed hs ig] at nB
   cases nB
  ·obtain⟨cE,qU⟩:=FZ hi
   obtain⟨p,q,xi⟩:=MO cE
   have dh:=List.mem_range.1 (List.mem_filter.1 cE).1
   rw[xi] at dJ
   have lX:=D8 dJ
   obtain⟨tp,f,tq,u,e1,e2,k1,k2,k3⟩:=zqt p s tr dJ (fun tp f tq e hl a' Ac=>by
    have tL:f.i=i:=by
     rw[e,List.map_append,List.map_cons] at lX
     have:=List.append_inj lX (by simp [hl])
     injection this.2
    have Yz:a'.i∈p:=by
     rw[e,List.map_append,List.map_cons] at lX
     have:=List.append_inj lX (by simp [hl])
     rw[<-this.1]
     exact List.mem_map.2 ⟨a',Ac,rfl⟩
    rw[e] at vg
    have tN:=(List.pairwise_append.1 vg).2.2 a' Ac f (by simp)
    rcases tN with hb|hb
    ·exfalso
     rw[tL] at hb
     obtain fw:=RQ ff _ _ (fun q hq=>by
      obtain⟨ed,xa,xb,Jl⟩:=Ed _ _ hq
      have:=qU ed xa xb
      rw[Jl] at this
      exact this) a'.i hb
     have bE:a'.i∈rest ops.size listed:=by rw[xi];exact List.mem_append_left _ Yz
     have dP:=(List.mem_filter.1 bE).2
     have aq:=List.mem_range.1 (List.mem_filter.1 bE).1
     have fW:a'.i<listed.size:=by omega
     simp only[Array.getD_eq_getD_getElem?,Array.getElem?_eq_getElem fW,Option.getD_some] at fw dP
     rw[fw] at dP
     cases dP
    ·exact hb)
   have bE:=aj4 hs xi
   have YL:ops[i]? =some (ops.getD i default):=by simp [dh]
   refine VB hE hr hC hf YL (zok hC k1) fun Y a' aZ bu=> ?_
   refine ih (listed.setIfInBounds i true) Y _ a' (tp++tq) bu (ML ff fun q hq=>by
    obtain⟨ed,g1,g2,g3⟩:=Ed _ _ hq
    have:=qU ed g1 g2
    rw[g3] at this
    exact this) (by simp [hs]) ?_ (by rw[bE];exact k3) ?_ (fun Z a2 cf cY=>hQ Z a2 (aZ.trans cf) cY)
   ·rw[bE]
    rw[xi] at nB
    simp only[List.length_append,List.length_cons] at nB⊢
    omega
   ·rw[e1] at vg
    obtain⟨a1,a2,a3⟩:=List.pairwise_append.1 vg
    exact List.pairwise_append.2 ⟨a1,(List.pairwise_cons.1 a2).2,fun x hx y hy=>a3 x hx y (List.mem_cons_of_mem _ hy)⟩
theorem afT(hE:ap P E)(hm:P.follows .mixedOrders=true){C:ah}(hC:C.Nat)(hf:∀f,cV P C f){id:Nat}{ops:Array Oper}{z:State}{Q:Exit->Act->World->Prop}(hr:Rel X s a)(h:yb E (C State) ops.toList ops.toList 0 s [] some=some z)
 (hQ:∀Y a',Ext X Y->Rel Y z a'->Q .normal a' Y.w):(Code.region id ops true).wp P Q a X.w:=by
 have j4:(List.range ops.size).map (fun i=>ops.getD i default)=ops.toList:=by
  apply List.ext_getElem?
  intro i
  rw[List.getElem?_map]
  by_cases hi:i<ops.size
  ·simp [hi]
  ·simp [hi]
 have bE:rest ops.size (Array.replicate ops.size false)=List.range ops.size:=by
  refine List.filter_eq_self.2 fun i hi=> ?_
  have:=List.mem_range.1 hi
  simp [this]
 obtain⟨xH,r1,_,r3,r4⟩:=zar hC (List.range ops.size) 0 s [] (fun j k hj=>by
  have:=(List.getElem?_eq_some_iff.1 hj)
  obtain⟨h1,h2⟩:=this
  simp at h2
  omega) (by rw[j4];exact h)
 have hk:eJ s X {X with w:={X.w with drawn:=X.w.drawn+1}}:=⟨Nat.le_refl _,rfl,rfl,rfl,fun g _=>⟨rfl,rfl⟩,rfl,fun _ _ _=>rfl⟩
 refine wp_region_any hm ?_
 exact ajp hE hC hf (fun k hk=>r4 k (List.mem_range.2 hk)) ops.size (Array.replicate ops.size false) _ s a xH (hr.dm hk) (fun i hi=>by
  by_cases h:i<ops.size<;>simp [h] at hi) (by simp) (by rw[bE];simp) (by rw[bE];exact r1) r3 (fun Y a' aZ bu=>hQ Y a' (hk.ext.trans aZ) bu)
end Go.Ref

namespace Go.Ref
open Go
variable {P:Program} {E:Env} {X:ax} {s:State} {a:Act}
theorem bg.flat{X Y:ax}:∀{t:Ty} {x:El t} {cs:List Value},t.flat=true->bg X t x cs->bg Y t x cs
 | .bool,_,_,_,hr=>hr
 | .int _,_,_,_,hr=>hr
 | .str,_,_,_,hr=>hr
 | .unit,_,_,_,hr=>hr
 | .sl _ _,_,_,hf,_=>by cases hf
 | .aJ _ _ _,_,_,hf,_=>by cases hf
 | .arr n t,xs,cs,hf,⟨h1,h2,h3⟩=>⟨h1,h2,fun j x hj=>bg.flat (t:=t) hf (h3 j x hj)⟩
 | .pair a b,x,cs,hf,⟨c1,c2,h1,h2,h3⟩=>by
   have hf:(a.flat&&b.flat)=true:=hf
   rw[Bool.and_eq_true] at hf
   exact⟨c1,c2,h1,bg.flat hf.1 h2,bg.flat hf.2 h3⟩
theorem aA.flat{X Y:ax}{pl:List Nat->Place}{sv:SV}{v:Value}(hf:sv.flat=true)(hr:aA X pl sv v):aA Y pl sv v:=by
 cases sv with
 |aj t x own=>
  have hf:(t.flat&&own.isEmpty)=true:=hf
  rw[Bool.and_eq_true] at hf
  obtain⟨cs,h1,h2,_⟩:=hr
  have:own=[]:=List.isEmpty_iff.1 hf.2
  subst this
  exact⟨cs,h1.flat hf.1,h2,mu⟩
 |undef=>trivial
 |skip=>exact hr
 |cF=>exact hr
 |dN=>exact hr
 |over=>exact hr
 |_=>cases hf
theorem Sb{o:Nat}:∀{sl:List (List SV)} {i:Nat},kY o i sl=true->∀(j:Nat) l,sl[j]? =some l->i+j≠o->∀sv∈l,SV.flat sv=true
 | [],i,_,j,l,h,_=>by simp at h
 |l0::r,i,h,j,l,hl,bI=>by
  rw[kY,Bool.and_eq_true,Bool.or_eq_true] at h
  cases j with
  |zero=>
   cases hl
   rcases h.1 with h1|h1
   ·exact absurd (Nat.eq_of_beq_eq_true h1) bI
   ·exact fun sv hm=>List.all_eq_true.1 h1 sv hm
  |succ j=>exact Sb h.2 j l hl (by omega)
structure nN(X:ax)(a:Act)(o:Nat)(e:TypeId)(xs:List Int)(own:List (List Nat))(g c:Nat)(cur:Array Value):Prop where
 val:a.tmps.getD o Go.undef= .slice (some ⟨g,0,none⟩) xs.length c
 heap:X.w.heap[g]? =some (.cells cur e (0,0))
 cell:∀(j:Nat) x,xs[j]? =some x->X.w.cell? ⟨g,j,none⟩=some (.int .u8 x)
 le:xs.length<=c
 most:c<=maxLen
 size:cur.size=c
 ow:X.ow g= .row (.c o 0 []) (xs.length*1)
 own:∀p∈own,p=[]
theorem amq{o:Nat}{e:TypeId}{xs:List Int}{own:List (List Nat)}(hr:Rel X s a)(hs:s.slot o=[.aj (.sl e (.int .u8)) xs own])(bR:gA own []=true){i:Nat}(hi:i<xs.length):∃g c cur,nN X a o e xs own g c cur:=by
 have ii:=hr.slot o
 rw[hs] at ii
 obtain⟨cs,aL,hv,hO⟩:=(show aA X (.c o 0) (.aj (.sl e (.int .u8)) xs own) (a.tmps.getD o Go.undef) from ii)
 have cE:([]:List Nat)∈own:=by
  unfold gA at bR
  obtain⟨q,h1,h2⟩:=List.any_eq_true.1 bR
  have:q=[]:=by simpa using h2
  rw[<-this];exact h1
 have cQ:∀p∈own,p=[]:=fun p hp=>by
  obtain⟨e2,t2,xs2,v2,g1,g2,g3,g4⟩:=hO p hp
  cases p with
  |cons q r=>simp [El.get] at g2
  |nil=>rfl
 obtain⟨e1,t1,xs1,v1,_,hg,hc,ci⟩:=hO [] cE
 simp only[El.get,Option.some.injEq] at hg
 cases hg
 obtain⟨A,c,ey,hle,fH⟩:=aL
 subst ey
 have hv:a.tmps.getD o Go.undef= .slice A xs.length c:=hv
 have As:v1= .slice A xs.length c:=by
  have:([Value.slice A xs.length c]:List Value)[0]? =some v1:=hc
  simpa using this.symm
 subst As
 rcases ci with⟨_,h0⟩|⟨g,cap,cur,h1,h2,h3,h4,h5,h6⟩
 ·have h0:List.length xs=0:=h0
  omega
 injection h1 with k1 k2 k3
 subst k1 k3
 have h5:cur.size=c*1:=h5
 have h6:X.ow g= .row (.c o 0 []) (List.length xs*1):=h6
 have dI:∀(j:Nat) x,xs[j]? =some x->X.w.cell? ⟨g,j,none⟩=some (.int .u8 x):=fun j x hj=>by
  obtain⟨ad,eD,e1,_,e2,e3⟩:=fH j x hj
  cases e1
  have e2:eD=[.int .u8 x]:=e2
  subst e2
  have:=(e3 0 (.int .u8 x) rfl).2.1
  rw[iC] at this
  simpa [Ty.cells] using this
 exact⟨g,c,cur,hv,h2,dI,hle,h4,by omega,h6,cQ⟩
theorem aj2{o:Nat}{e:TypeId}{xs:List Int}{own:List (List Nat)}{X0:ax}(hF:∀g pl n,X0.ow g≠ .row pl n)(hx:Ext X0 X)(hr:Rel X s a)(ho:o<s.sl.length)(tM:kY o 0 s.sl=true)(iT:s.bs.all Option.isNone=true)
 {g c:Nat} {cur:Array Value} (hR:nN X a o e xs own g c cur) {i:Nat} (hi:i<xs.length) (z:Int):
   Ext X0 (X.row g (cur.toList.take i++ [Value.int .u8 z]++cur.toList.drop (i+1)).toArray)/\Rel (X.row g (cur.toList.take i++ [Value.int .u8 z]++cur.toList.drop (i+1)).toArray) ⟨s.sl.set o [.aj (.sl e (.int .u8)) (xs.set i z:List Int) own],s.bs⟩ a:=by
 obtain⟨hv,h2,dI,hle,h4,h5,h6,cQ⟩:=hR
 refine⟨?_,?_⟩
 ·
  have de:∀b,b≠g->(X.row g (cur.toList.take i++ [Value.int .u8 z]++cur.toList.drop (i+1)).toArray).w.heap[b]? =X.w.heap[b]? :=fun b hb=>setRow_other X.w g b _ hb
  have nD:∀ad v,X0.az ad v->ad.block≠g:=fun ad v dZ e0=>by
   have aq:=ax.ix dZ
   have hu:=dZ.2.2
   cases hw:X0.ow ad.block with
   |all=>have:=(hx.still ad.block aq (by rw[hw];trivial)).1;rw[e0,h6] at this;rw[<-e0,hw] at this;cases this
   |ro n=>have:=(hx.still ad.block aq (by rw[hw];trivial)).1;rw[e0,h6] at this;rw[<-e0,hw] at this;cases this
   |box id=>rw[hw] at hu;exact hu
   |row pl n=>exact hF _ _ _ hw
  refine⟨fun ad v dZ=> ?_,?_,hx.os,hx.tape,hx.output,hx.β0,fun b hb bS=> ?_⟩
  ·have h7:=hx.az ad v dZ
   refine⟨h7.1,?_,h7.2.2⟩
   have:=h7.2.1
   simp only[World.cell?] at this⊢
   rw[de _ (nD ad v dZ)];exact this
  ·have:=hx.size
   simpa [ax.row] using this
  ·have h7:=hx.still b hb bS
   have bI:b≠g:=fun e0=>by
    have h8:=h7.1
    rw[e0,h6] at h8
    rw[e0,<-h8] at bS
    exact bS
   exact⟨h7.1,(de b bI).trans h7.2⟩
 ·generalize gO:(cur.toList.take i++ [Value.int .u8 z]++cur.toList.drop (i+1)).toArray=new
  have dP:new.toList=cur.toList.take i++ [Value.int .u8 z]++cur.toList.drop (i+1):=by rw[<-gO]
  have dY:new.size=cur.size:=by
   have:new.toList.length=cur.toList.length:=by rw[dP];simp;omega
   simpa using this
  have aD:(X.row g new).w.heap[g]? =some (.cells new e (0,0)):=setRow_heap X.w g cur new e (0,0) h2
  refine⟨by simpa using hr.size,by simpa using hr.gB,fun j l v hl iX=> ?_,fun id B hB=> ?_,fun j l id t p hl hm=> ?_,hr.defers,fun j l id c b k hl hm=> ?_⟩
  ·rw[List.getElem?_set] at hl
   by_cases Am:o=j
   ·subst Am
    rw[if_pos rfl,if_pos ho] at hl
    cases hl
    have hvv:a.tmps.getD o Go.undef=v:=by rw[Array.getD_eq_getD_getElem?,iX];rfl
    rw[hvv] at hv
    subst hv
    refine⟨[.slice (some ⟨g,0,none⟩) xs.length c],?_,rfl,fun p hp=> ?_⟩
    ·refine bg.xD (t:= .int .u8) (List.length_set ..) hle fun j x hj=>⟨⟨g,0,none⟩,[.int .u8 x],rfl,rfl,rfl,fun k w hk=> ?_⟩
     have tP:j<xs.length:=by have:=(List.getElem?_eq_some_iff.1 hj).1;rw[List.length_set] at this;exact this
     cases k with
     |succ k=>simp at hk
     |zero=>
      have hk:Value.int .u8 x=w:=by simpa using hk
      subst hk
      refine⟨AX rfl _,?_,?_⟩
      ·rw[iC]
       show(X.row g new).w.cell? _=_
       simp only[World.cell?,aD,Ty.cells]
       rw[show 0+(j*1+0)=j by omega,<-Array.getElem?_toList,dP]
       have hj:(xs.set i z)[j]? =some x:=hj
       rw[List.getElem?_set] at hj
       have aog:i<cur.toList.length:=by simp;omega
       by_cases hij:i=j
       ·subst hij
        rw[if_pos rfl,if_pos hi] at hj
        cases hj
        rw[List.append_assoc,List.getElem?_append_right (by simp;omega)]
        have:i-(cur.toList.take i).length=0:=by simp;omega
        rw[this];rfl
       ·rw[if_neg hij] at hj
        have vf:=dI j x hj
        simp only[World.cell?,h2] at vf
        rw[<-Array.getElem?_toList] at vf
        rcases Nat.lt_or_ge j i with aq|Rg
        ·rw[List.append_assoc,List.getElem?_append_left (by simp;omega),List.getElem?_take,if_pos aq]
         exact vf
        ·have hgt:i<j:=by omega
         rw[List.getElem?_append_right (by simp;omega),List.getElem?_drop]
         have:i+1+(j-(cur.toList.take i++ [Value.int .u8 z]).length)=j:=by simp;omega
         rw[this]
         exact vf
      ·rw[iC]
       show Ow.used (X.ow g) _
       rw[h6]
       show _<_
       simp only[Ty.cells]
       omega
    ·have:=cQ p hp
     subst this
     refine⟨e,.int .u8,(xs.set i z:List Int),_,by simp [Ty.eE],rfl,rfl,?_⟩
     have hls:List.length (xs.set i z)=xs.length:=List.length_set ..
     rw[hls]
     exact .inr ⟨g,c,new,rfl,aD,hle,h4,by rw[dY,h5];simp [Ty.cells],h6⟩
   ·rw[if_neg Am] at hl
    have:=Sb tM j l hl (by omega)
    exact(hr.bP j l v hl iX).iJ fun k sv u hk hu=>hu.flat (this sv (List.mem_of_getElem? hk))
  ·have:=List.all_eq_true.1 iT (some B) (List.mem_of_getElem? hB)
   cases this
  ·rw[List.getElem?_set] at hl
   by_cases Am:o=j
   ·subst Am
    rw[if_pos rfl,if_pos ho] at hl
    cases hl
    simp at hm
   ·rw[if_neg Am] at hl
    have:=Sb tM j l hl (by omega) _ hm
    cases this
  ·exfalso
   replace hl:(s.sl.set o [.aj (.sl e (.int .u8)) (xs.set i z:List Int) own])[j]? =some l:=hl
   rw[List.getElem?_set] at hl
   by_cases Am:o=j
   ·subst Am
    rw[if_pos rfl,if_pos ho] at hl
    cases hl
    simp at hm
   ·rw[if_neg Am] at hl
    have:=Sb tM j l hl (by omega) _ hm
    cases this
theorem nK{a:Act}{d i:Nat}{v:Value}(hd:d<a.tmps.size):(a.put (some d) v).tmps.getD i Go.undef=if d=i then v else a.tmps.getD i Go.undef:=by
 simp only[Act.put,Array.getD_eq_getD_getElem?,Array.getElem?_setIfInBounds]
 split
 ·first|rfl|(rw[if_pos hd];rfl)
 ·rfl
theorem rD{a:Act}{d:Nat}{v:Value}:(a.put (some d) v).tmps.size=a.tmps.size:=by simp [Act.put]
theorem raw{ops:Array Oper}{Q:Exit->Act->World->Prop}{i d:Nat}{rest:List Nat}{a:Act}{w:World}{o:Oper}{v:Value}(hi:ops[i]? =some o)(hd:isDst o d=true)(aV:(execOp a.eval o).run P w= .ok (.value v) w)(K:wpOps P ops Q rest (a.put (some d) v) w):wpOps P ops Q (i::rest) a w:=by
 have kZ:o.dst=some d/\o.guard=none:=by
  unfold isDst at hd
  split at hd
  ·rename_i d' h1 h2
   exact⟨by rw[h1,Nat.eq_of_beq_eq_true hd],h2⟩
  ·cases hd
 rw[wpOps_cons]
 unfold wpOp
 simp only[hi]
 have hw:Region.wanted o (yielded ops a.tmps)=true:=by simp [Region.wanted,kZ.2]
 rw[if_pos hw]
 refine .inl ?_
 unfold Oper.wp
 rw[aV,Oper.upon_value,kZ.1]
 exact K
theorem vp{x:Operand}{i:Nat}(h:fy x i=true):x= .tmp i:=by
 unfold fy at h
 split at h
 ·rw[Nat.eq_of_beq_eq_true h]
 ·cases h
theorem NJ{T:TypeId}(h:xm E T=true):E.ty T=some (.int .u8):=by
 unfold xm at h
 split at h
 ·assumption
 ·cases h
theorem zva{T:TypeId}(h:Vt E T=true):∃e,E.ty T=some (.sl e (.int .u8)):=by
 unfold Vt at h
 split at h
 ·exact⟨_,by assumption⟩
 ·cases h
theorem vq{o:Oper}{d x:Nat}(h:Fb o d x=true):isDst o d=true/\∀(a:Act) (w:World),(execOp a.eval o).run P w= .ok (.value (a.tmps.getD x Go.undef)) w:=by
 unfold Fb at h
 rw[Bool.and_eq_true] at h
 refine⟨h.1,fun a w=> ?_⟩
 have h:=h.2
 split at h
 ·rename_i y ho
  have:=vp h
  subst this
  simp only[execOp,ho]
  rfl
 ·cases h
theorem Vw(hE:ap P E){o:Oper}{d x:Nat}(h:isLen E o d x=true):isDst o d=true/\∀(a:Act) (w:World) A n c,a.tmps.getD x Go.undef= .slice A n c->(execOp a.eval o).run P w= .ok (.value (.int .i64 n)) w:=by
 unfold isLen at h
 rw[Bool.and_eq_true] at h
 refine⟨h.1,fun a w A n c hv=> ?_⟩
 have h:=h.2
 split at h
 ·rename_i dH ts ho
  split at h
  ·rename_i y T rS BK
   have has:dH= #[y]:=by rw[<-Array.toArray_toList (xs:=dH),rS]
   have kq:ts= #[T]:=by rw[<-Array.toArray_toList (xs:=ts),BK]
   subst has kq
   rw[Bool.and_eq_true] at h
   have:=vp h.1
   subst this
   obtain⟨e,hT⟩:=zva h.2
   have hu:=(hE.ty T _ hT).dj
   have ev:a.eval (.tmp x)= .slice A n c:=hv
   simp [execOp,ho,resolve,invoke,builtin,Builtin.len_,ev,run_underlying hu.1,goInt]
  ·cases h
 ·cases h
theorem Sw{o:Oper}{d x:Nat}(h:XQ o d x=true):isDst o d=true/\∀(a:Act) (w:World) (n:Int),a.tmps.getD x Go.undef= .int .i64 n->(execOp a.eval o).run P w= .ok (.value (.int .i64 (IntKind.i64.wrap (n-1)))) w:=by
 unfold XQ at h
 rw[Bool.and_eq_true] at h
 refine⟨h.1,fun a w n hv=> ?_⟩
 have h:=h.2
 split at h
 ·rename_i T y c T' ho
  rw[Bool.and_eq_true] at h
  have:=vp h.1
  subst this
  have hc:=of_decide_eq_true h.2
  subst hc
  have ev:a.eval (.tmp x)= .int .i64 n:=hv
  have ec:a.eval (.const (.int .i64 1))= .int .i64 1:=rfl
  obtain⟨sv,v,hl,JT,_,hr,_⟩:=zq3 (P:=P) (op:= .sub) (T:=T) (k:= .i64) (k':= .i64) (m:=n) (n:=1) w rfl
  cases hl
  have:=AO (hr ⟨w,fun _=> .all,fun _=>none⟩ (fun _=> .r 0 []))
  subst this
  simp only[execOp,ho,Sem.run_bind,ev,ec,RM,Result.andThen_ok,JT,Sem.run_pure]
 ·cases h
theorem N0{o:Oper}{d x y:Nat}(h:um o d x y=true):isDst o d=true/\∀(a:Act) (w:World) (n m:Int),a.tmps.getD x Go.undef= .int .u8 n->a.tmps.getD y Go.undef= .int .u8 m->(execOp a.eval o).run P w= .ok (.value (.int .u8 (IntKind.u8.wrap (n+m)))) w:=by
 unfold um at h
 rw[Bool.and_eq_true] at h
 refine⟨h.1,fun a w n m hv hu=> ?_⟩
 have h:=h.2
 split at h
 ·rename_i T u v T' ho
  rw[Bool.and_eq_true] at h
  have:=vp h.1
  subst this
  have:=vp h.2
  subst this
  have ev:a.eval (.tmp x)= .int .u8 n:=hv
  have eu:a.eval (.tmp y)= .int .u8 m:=hu
  obtain⟨sv,v,hl,JT,_,hr,_⟩:=zq3 (P:=P) (op:= .add) (T:=T) (k:= .u8) (k':= .u8) (m:=n) (n:=m) w rfl
  cases hl
  have:=AO (hr ⟨w,fun _=> .all,fun _=>none⟩ (fun _=> .r 0 []))
  subst this
  simp only[execOp,ho,Sem.run_bind,ev,eu,RM,Result.andThen_ok,JT,Sem.run_pure]
 ·cases h
theorem XI(hE:ap P E){o:Oper}{d x i:Nat}(h:xl E o d x i=true):isDst o d=true/\∀(a:Act) (w:World) (g n c:Nat) (j:Int),a.tmps.getD x Go.undef= .slice (some ⟨g,0,none⟩) n c->a.tmps.getD i Go.undef= .int .i64 j->0<=j->j<n->(execOp a.eval o).run P w= .ok (.value (.pointer (some ⟨g,j.toNat,none⟩))) w:=by
 unfold xl at h
 rw[Bool.and_eq_true] at h
 refine⟨h.1,fun a w g n c j hv hj h0 h1=> ?_⟩
 have h:=h.2
 split at h
 ·rename_i T y z ho
  rw[Bool.and_eq_true,Bool.and_eq_true] at h
  have:=vp h.1
  subst this
  have:=vp h.2.1
  subst this
  obtain⟨e,hT⟩:=zva h.2.2
  have hu:=(hE.ty T _ hT).dj
  have ev:a.eval (.tmp x)= .slice (some ⟨g,0,none⟩) n c:=hv
  have ei:a.eval (.tmp i)= .int .i64 j:=hj
  simp only[execOp,ho,Sem.run_bind,Instr.indexAt,ei,ev,asIntOf,Sem.run_pure,Result.andThen_ok,run_underlying hu.1,Sem.run_ite,h0,h1,and_self,if_true,lA hE hu.2]
  simp [Ty.cells,iC]
 ·cases h
theorem My(hE:ap P E){o:Oper}{d x:Nat}(h:D6 E o d x=true):isDst o d=true/\∀(a:Act) (w:World) (g j:Nat) (y:Int),a.tmps.getD x Go.undef= .pointer (some ⟨g,j,none⟩)->w.cell? ⟨g,j,none⟩=some (.int .u8 y)->(execOp a.eval o).run P w= .ok (.value (.int .u8 y)) w:=by
 unfold D6 at h
 rw[Bool.and_eq_true] at h
 refine⟨h.1,fun a w g j y hv hc=> ?_⟩
 have h:=h.2
 split at h
 ·rename_i T z ho
  rw[Bool.and_eq_true] at h
  have:=vp h.1
  subst this
  have hT:=NJ h.2
  have ev:a.eval (.tmp x)= .pointer (some ⟨g,j,none⟩):=hv
  have hl:=AQ (P:=P) hE hT (X:=⟨w,fun _=> .all,fun _=>none⟩) (x:=y) (cs:=[.int .u8 y]) rfl (ad:=⟨g,j,none⟩) (w:=w) (fun k v hk=>by
   cases k with
   |zero=>rw[iC];have hk:Value.int .u8 y=v:=by simpa using hk
          rw[<-hk];exact hc
   |succ k=>simp at hk)
  simp only[execOp,ho,Sem.run_bind,Instr.loadAt,ev,Instr.sureAddr,Sem.run_pure,Result.andThen_ok,hl]
  rfl
 ·cases h
theorem ams(hE:ap P E){ops:Array Oper}{Q:Exit->Act->World->Prop}{o:Oper}{x y:Nat}(h:uk E o x y=true){k:Nat}{rest:List Nat}(hi:ops[k]? =some o){a:Act}{X:ax}{g j:Nat}{z:Int}{cur:Array Value}{T':TypeId}(hv:a.tmps.getD x Go.undef= .pointer (some ⟨g,j,none⟩))(hz:a.tmps.getD y Go.undef= .int .u8 z)(hg:X.w.heap[g]? =some (.cells cur T' (0,0)))(hj:j+1<=cur.size)
 (K:wpOps P ops Q rest (a.put none Go.undef) (X.row g (cur.toList.take j++ [Value.int .u8 z]++cur.toList.drop (j+1)).toArray).w):wpOps P ops Q (k::rest) a X.w:=by
 unfold uk at h
 rw[Bool.and_eq_true] at h
 have kZ:o.dst=none/\o.guard=none:=by
  have h:=h.1
  split at h
  ·exact⟨by assumption,by assumption⟩
  ·cases h
 have h:=h.2
 rw[wpOps_cons]
 unfold wpOp
 simp only[hi]
 have hw:Region.wanted o (yielded ops a.tmps)=true:=by simp [Region.wanted,kZ.2]
 rw[if_pos hw]
 refine .inl ?_
 unfold Oper.wp
 split at h
 ·rename_i T u v ho
  rw[Bool.and_eq_true,Bool.and_eq_true] at h
  have:=vp h.1
  subst this
  have:=vp h.2.1
  subst this
  have hT:=NJ h.2.2
  have ev:a.eval (.tmp x)= .pointer (some ⟨g,j,none⟩):=hv
  have ez:a.eval (.tmp y)= .int .u8 z:=hz
  have bS:=FQ (P:=P) hE hT (X:=X) (x:=z) (cs:=[.int .u8 z]) rfl (off:=j) (w:=X.w) (r:=g) (cur:=cur) (T':=T') hg hj
  have gN:dL (.int .u8) [.int .u8 z]= .int .u8 z:=rfl
  rw[gN] at bS
  have aV:(execOp a.eval o).run P X.w= .ok .skip (X.row g (cur.toList.take j++ [Value.int .u8 z]++cur.toList.drop (j+1)).toArray).w:=by
   simp only[execOp,ho,Sem.run_bind,Instr.storeAt,ev,Instr.sureAddr,Sem.run_pure,Result.andThen_ok,ez,bS]
   rfl
  rw[aV,Oper.upon_skip,kZ.1]
  exact K
 ·cases h
theorem Lt:∀(n m:Nat) (sl:List (List SV)),(j8 n m sl).length=sl.length
 |0,m,sl=>rfl
 |n+1,m,sl=>by rw[j8,Lt n (m+1),List.length_set]
def dead(s:State)(d:Nat):State:=s.au (some d) [.undef]
theorem Rel.dead(hr:Rel X s a)(d:Nat)(v:Value):Rel X (Ref.dead s d) (a.put (some d) v):=hr.put (fun _ _=>trivial) (fun id t p hm=>by simp at hm)
theorem agP(hE:ap P E){X0:ax}(hF:∀g pl n,X0.ow g≠ .row pl n)(hx:Ext X0 X)(hr:Rel X s a){q:Nat×Nat×Nat}{id:Nat}{ops:Array Oper}{s':State}(h:ly E q ops.toList s some=some s'){Q:Exit->Act->World->Prop}(hQ:∀Y a',Ext X0 Y->Rel Y s' a'->Q .normal a' Y.w):(Code.region id ops false).wp P Q a X.w:=by
 obtain⟨o,x,m⟩:=q
 unfold ly at h
 simp only at h
 cases fx:D9 E o x m ops.toList with
 |false=>rw[fx] at h;cases h
 |true=>
 rw[fx,cond_true] at h
 cases hb:(Nat.ble (o+1) m&&(Nat.ble (x+1) m&&(!(Nat.beq o x)&&Nat.ble (m+13) s.sl.length))) with
 |false=>rw[hb] at h;cases h
 |true=>
 rw[hb,cond_true] at h
 simp only[Bool.and_eq_true,Bool.not_eq_true',Nat.ble_eq] at hb
 obtain⟨hom,hxm,hox,B5⟩:=hb
 split at h
 case h_2=>cases h
 rename_i et xs own y ow2 ij JR
 cases bR:gA own [] with
 |false=>rw[bR] at h;cases h
 |true=>
 rw[bR,cond_true] at h
 cases tM:(kY o 0 (j8 13 m s.sl)&&s.bs.all Option.isNone) with
 |false=>rw[tM] at h;cases h
 |true=>
 rw[tM,cond_true] at h
 rw[Bool.and_eq_true] at tM
 obtain⟨h0,h1,h⟩:=vj h
 cases h
 generalize hj:IntKind.i64.wrap ((List.length xs:Int)-1)=j at h0 h1
 have hi:j.toNat<xs.length:=by omega
 obtain⟨g,c,cur,hR⟩:=amq hr ij bR hi
 have dx:m+13<=a.tmps.size:=by rw[<-hr.size];exact B5
 have hy:a.tmps.getD x Go.undef= .int .u8 y:=by
  have ii:=hr.slot x
  rw[JR] at ii
  exact AO (show aA X (.c x 0) (.aj (.int .u8) y ow2) _ from ii)
 have hgx:xs[j.toNat]? =some (xs.getD j.toNat 0):=by rw[List.getD_eq_getElem?_getD,List.getElem?_eq_getElem hi];rfl
 have wZ:=hR.cell _ _ hgx
 unfold D9 at fx
 split at fx
 case h_2=>cases fx
 rename_i o0 o1 o2 o3 o4 o5 o6 o7 o8 o9 ZE ZN ZY Z9 gP
 simp only[Bool.and_eq_true] at fx
 obtain⟨k0,k1,k2,k3,k4,k5,k6,k7,k8,k9,k10,k11,k12,k13⟩:=fx
 have cB:∀i,ops[i]? =([o0,o1,o2,o3,o4,o5,o6,o7,o8,o9,ZE,ZN,ZY,Z9]:List Oper)[i]? :=fun i=>by rw[<-Array.getElem?_toList,gP]
 have b6:ops.size=14:=by rw[<-Array.length_toList,gP];rfl
 refine wp_region ?_
 rw[b6,show List.range 14=[0,1,2,3,4,5,6,7,8,9,10,11,12,13] from rfl]
 have vo:=hR.val
 generalize xk:(Value.slice (some ⟨g,0,none⟩) xs.length c)=vs at vo
 refine raw (cB 0) (vq (P:=P) k0).1 ((vq k0).2 a X.w) ?_
 rw[vo]
 have e1:=fun i=>nK (i:=i) (v:=vs) (show m<a.tmps.size by omega)
 have r1:=hr.dead m vs
 generalize JG:a.put (some m) vs=a1 at e1 r1
 have z1:a1.tmps.size=a.tmps.size:=by rw[<-JG,rD]
 refine raw (cB 1) (vq (P:=P) k1).1 ((vq k1).2 a1 X.w) ?_
 rw[e1,if_neg (by omega),vo]
 have e2:=fun i=>nK (a:=a1) (i:=i) (v:=vs) (show m+1<a1.tmps.size by omega)
 have r2:=r1.dead (m+1) vs
 generalize Y2:a1.put (some (m+1)) vs=a2 at e2 r2
 have z2:a2.tmps.size=a.tmps.size:=by rw[<-Y2,rD,z1]
 refine raw (cB 2) (Vw hE k2).1 ((Vw hE k2).2 a2 X.w _ _ _ (by rw[e2,if_pos rfl];exact xk.symm)) ?_
 have e3:=fun i=>nK (a:=a2) (i:=i) (v:= .int .i64 (xs.length:Nat)) (show m+2<a2.tmps.size by omega)
 have r3:=r2.dead (m+2) (.int .i64 (xs.length:Nat))
 generalize hp3:a2.put (some (m+2)) (.int .i64 (xs.length:Nat))=a3 at e3 r3⊢
 have z3:a3.tmps.size=a.tmps.size:=by rw[<-hp3,rD,z2]
 refine raw (cB 3) (Sw (P:=P) k3).1 ((Sw k3).2 a3 X.w _ (by rw[e3,if_pos rfl])) ?_
 rw[hj]
 have e4:=fun i=>nK (a:=a3) (i:=i) (v:= .int .i64 j) (show m+3<a3.tmps.size by omega)
 have r4:=r3.dead (m+3) (.int .i64 j)
 generalize hp4:a3.put (some (m+3)) (.int .i64 j)=a4 at e4 r4⊢
 have z4:a4.tmps.size=a.tmps.size:=by rw[<-hp4,rD,z3]
 have q4:∀i,i<m->a4.tmps.getD i Go.undef=a.tmps.getD i Go.undef:=fun i hi=>by rw[e4,if_neg (by omega),e3,if_neg (by omega),e2,if_neg (by omega),e1,if_neg (by omega)]
 have qm:a4.tmps.getD m Go.undef=vs:=by rw[e4,if_neg (by omega),e3,if_neg (by omega),e2,if_neg (by omega),e1,if_pos rfl]
 refine raw (cB 4) (vq (P:=P) k4).1 ((vq k4).2 a4 X.w) ?_
 rw[q4 o (by omega),vo]
 have e5:=fun i=>nK (a:=a4) (i:=i) (v:=vs) (show m+4<a4.tmps.size by omega)
 have r5:=r4.dead (m+4) vs
 generalize hp5:a4.put (some (m+4)) vs=a5 at e5 r5⊢
 have z5:a5.tmps.size=a.tmps.size:=by rw[<-hp5,rD,z4]
 refine raw (cB 5) (vq (P:=P) k5).1 ((vq k5).2 a5 X.w) ?_
 rw[e5,if_neg (by omega),q4 o (by omega),vo]
 have e6:=fun i=>nK (a:=a5) (i:=i) (v:=vs) (show m+5<a5.tmps.size by omega)
 have r6:=r5.dead (m+5) vs
 generalize hp6:a5.put (some (m+5)) vs=a6 at e6 r6⊢
 have z6:a6.tmps.size=a.tmps.size:=by rw[<-hp6,rD,z5]
 refine raw (cB 6) (Vw hE k6).1 ((Vw hE k6).2 a6 X.w _ _ _ (by rw[e6,if_pos rfl];exact xk.symm)) ?_
 have e7:=fun i=>nK (a:=a6) (i:=i) (v:= .int .i64 (xs.length:Nat)) (show m+6<a6.tmps.size by omega)
 have r7:=r6.dead (m+6) (.int .i64 (xs.length:Nat))
 generalize hp7:a6.put (some (m+6)) (.int .i64 (xs.length:Nat))=a7 at e7 r7⊢
 have z7:a7.tmps.size=a.tmps.size:=by rw[<-hp7,rD,z6]
 refine raw (cB 7) (Sw (P:=P) k7).1 ((Sw k7).2 a7 X.w _ (by rw[e7,if_pos rfl])) ?_
 rw[hj]
 have e8:=fun i=>nK (a:=a7) (i:=i) (v:= .int .i64 j) (show m+7<a7.tmps.size by omega)
 have r8:=r7.dead (m+7) (.int .i64 j)
 generalize hp8:a7.put (some (m+7)) (.int .i64 j)=a8 at e8 r8⊢
 have z8:a8.tmps.size=a.tmps.size:=by rw[<-hp8,rD,z7]
 have q8:∀i,i<=m+3->a8.tmps.getD i Go.undef=a4.tmps.getD i Go.undef:=fun i hi=>by rw[e8,if_neg (by omega),e7,if_neg (by omega),e6,if_neg (by omega),e5,if_neg (by omega)]
 refine raw (cB 8) (XI hE k8).1 ((XI hE k8).2 a8 X.w g xs.length c j (by rw[e8,if_neg (by omega),e7,if_neg (by omega),e6,if_neg (by omega),e5,if_pos rfl];exact xk.symm) (by rw[e8,if_pos rfl]) h0 h1) ?_
 have e9:=fun i=>nK (a:=a8) (i:=i) (v:= .pointer (some ⟨g,j.toNat,none⟩)) (show m+8<a8.tmps.size by omega)
 have r9:=r8.dead (m+8) (.pointer (some ⟨g,j.toNat,none⟩))
 generalize hp9:a8.put (some (m+8)) (.pointer (some ⟨g,j.toNat,none⟩))=a9 at e9 r9⊢
 have z9:a9.tmps.size=a.tmps.size:=by rw[<-hp9,rD,z8]
 refine raw (cB 9) (My hE k9).1 ((My hE k9).2 a9 X.w g j.toNat _ (by rw[e9,if_pos rfl]) wZ) ?_
 generalize hwx:xs.getD j.toNat 0=wx
 have Fq:=fun i=>nK (a:=a9) (i:=i) (v:= .int .u8 wx) (show m+9<a9.tmps.size by omega)
 have kI:=r9.dead (m+9) (.int .u8 wx)
 generalize YZ:a9.put (some (m+9)) (.int .u8 wx)=tn at Fq kI⊢
 have z10:tn.tmps.size=a.tmps.size:=by rw[<-YZ,rD,z9]
 refine raw (cB 10) (vq (P:=P) k10).1 ((vq k10).2 tn X.w) ?_
 rw[Fq,if_neg (by omega),e9,if_neg (by omega),q8 x (by omega),q4 x (by omega),hy]
 have Fs:=fun i=>nK (a:=tn) (i:=i) (v:= .int .u8 y) (show m+10<tn.tmps.size by omega)
 have lr:=kI.dead (m+10) (.int .u8 y)
 generalize Y0:tn.put (some (m+10)) (.int .u8 y)=Bs at Fs lr⊢
 have z11:Bs.tmps.size=a.tmps.size:=by rw[<-Y0,rD,z10]
 refine raw (cB 11) (N0 (P:=P) k11).1 ((N0 k11).2 Bs X.w wx y (by rw[Fs,if_neg (by omega),Fq,if_pos rfl]) (by rw[Fs,if_pos rfl])) ?_
 generalize hwz:IntKind.u8.wrap (wx+y)=wz
 have Yg:=fun i=>nK (a:=Bs) (i:=i) (v:= .int .u8 wz) (show m+11<Bs.tmps.size by omega)
 have nE:=lr.dead (m+11) (.int .u8 wz)
 generalize Y1:Bs.put (some (m+11)) (.int .u8 wz)=a12 at Yg nE⊢
 have z12:a12.tmps.size=a.tmps.size:=by rw[<-Y1,rD,z11]
 have q12:∀i,i<=m+3->a12.tmps.getD i Go.undef=a4.tmps.getD i Go.undef:=fun i hi=>by rw[Yg,if_neg (by omega),Fs,if_neg (by omega),Fq,if_neg (by omega),e9,if_neg (by omega),q8 i hi]
 refine raw (cB 12) (XI hE k12).1 ((XI hE k12).2 a12 X.w g xs.length c j (by rw[q12 m (by omega),qm];exact xk.symm) (by rw[q12 (m+3) (by omega),e4,if_pos rfl]) h0 h1) ?_
 have Rc:=fun i=>nK (a:=a12) (i:=i) (v:= .pointer (some ⟨g,j.toNat,none⟩)) (show m+12<a12.tmps.size by omega)
 have l7:=nE.dead (m+12) (.pointer (some ⟨g,j.toNat,none⟩))
 generalize aoo:a12.put (some (m+12)) (.pointer (some ⟨g,j.toNat,none⟩))=I3 at Rc l7⊢
 have Yv:nN X I3 o et xs own g c cur:=⟨by rw[Rc,if_neg (by omega),q12 o (by omega),q4 o (by omega),hR.val],hR.heap,hR.cell,hR.le,hR.most,hR.size,hR.ow,hR.own⟩
 refine ams hE k13 (cB 13) (by rw[Rc,if_pos rfl]) (by rw[Rc,if_neg (by omega),Yg,if_pos rfl]) hR.heap (by rw[hR.size];have:=hR.le;omega) ?_
 have Za:Rel X ⟨j8 13 m s.sl,s.bs⟩ I3:=l7
 obtain⟨hX,bu⟩:=aj2 hF hx Za (by rw[Lt];omega) tM.1 tM.2 Yv hi wz
 have BR:=hQ _ I3 hX (by
  unfold AK
  rw[hj,hwx,hwz]
  exact bu)
 exact BR
end Go.Ref

namespace Go.Ref
open Go
variable {P:Program} {E:Env} {X:ax} {s:State} {a:Act}
structure n4(X Y:ax)(g0:Nat):Prop where
 heap:∀b,b≠g0->Y.w.heap[b]? =X.w.heap[b]?
 ow:Y.ow=X.ow
 β:Y.β=X.β
theorem n4.az{Y:ax}{g0:Nat}(h:n4 X Y g0){ad:Addr}{v:Value}(bI:ad.block≠g0)(hs:X.az ad v):Y.az ad v:=by
 refine⟨hs.1,?_,?_⟩
 ·have:=hs.2.1
  simp only[World.cell?] at this⊢
  rw[h.heap _ bI];exact this
 ·rw[h.ow];exact hs.2.2
theorem NF{own:List (List Nat)}{p:List Nat}(h:gA own p=true):p∈own:=by
 unfold gA at h
 obtain⟨q,h1,h2⟩:=List.any_eq_true.1 h
 have:q=p:=by simpa using h2
 rw[<-this];exact h1
def plS(pl:List Nat->Place):List Nat->Place
 |j::p=>pl ((j+1)::p)
 | []=>pl []
theorem ajY{pl:List Nat->Place}{a b:Ty}{x:El (.pair a b)}{c1 c2:List Value}{own:List (List Nat)}(hr:bg X a x.1 c1)(h:bk X pl (.pair a b) x (c1++c2) own):bk X (fun p=>pl (0::p)) a x.1 c1 (QM own [0]):=fun p hp=>by
 unfold QM at hp
 obtain⟨q,hq,rfl⟩:=List.mem_map.1 hp
 obtain⟨hq,fX⟩:=List.mem_filter.1 hq
 match q,fX with
 |0::q,_=>
  obtain⟨e,t',xs,v,g0,g1,g2,g3⟩:=h (0::q) hq
  have g2:(c1++c2)[a.off q]? =some v:=g2
  refine⟨e,t',xs,v,g0,g1,?_,g3⟩
  show c1[a.off q]? =some v
  rw[<-g2,List.getElem?_append_left]
  obtain⟨_,k2,_⟩:=P7 hr (show a.eE q from g0) (show El.get a q x.1=_ from g1)
  have k2:a.off q+1<=a.cells:=k2
  have:=hr.len
  omega
 | [],fX=>simp at fX
 |(j+1)::q,fX=>simp at fX
theorem ajZ{pl:List Nat->Place}{a b:Ty}{x:El (.pair a b)}{c1 c2:List Value}{own:List (List Nat)}(hl:c1.length=a.cells)(h:bk X pl (.pair a b) x (c1++c2) own):bk X (plS pl) b x.2 c2 (wU own):=fun p hp=>by
 unfold wU at hp
 obtain⟨q,hq,he⟩:=List.mem_filterMap.1 hp
 match q,he with
 |(j+1)::q,he=>
  cases he
  obtain⟨e,t',xs,v,g0,g1,g2,g3⟩:=h ((j+1)::q) hq
  refine⟨e,t',xs,v,g0,g1,?_,g3⟩
  have g2:(c1++c2)[a.cells+b.off (j::q)]? =some v:=g2
  rw[List.getElem?_append_right (by omega)] at g2
  rw[<-g2]
  congr 1
  omega
 | [],he=>cases he
 |0::q,he=>cases he
theorem bk.Km{Y:ax}{g0:Nat}(h:n4 X Y g0){pl:List Nat->Place}(fI:∀p n,X.ow g0≠ .row (pl p) n){t:Ty}{x:El t}{cs:List Value}{own:List (List Nat)}(ho:bk X pl t x cs own):bk Y pl t x cs own:=fun p hp=>by
 obtain⟨e,t',xs,v,k0,k1,k2,k3⟩:=ho p hp
 refine⟨e,t',xs,v,k0,k1,k2,?_⟩
 rcases k3 with ho|⟨g,cap,cur,h1,h2,h3,h4,h5,h6⟩
 ·exact .inl ho
 ·have bI:g≠g0:=fun e=>fI p _ (e▸h6)
  exact .inr ⟨g,cap,cur,h1,(h.heap g bI).trans h2,h3,h4,h5,by rw[h.ow];exact h6⟩
theorem bg.cI{Y:ax}{g0:Nat}(h:n4 X Y g0):∀{t:Ty} {x:El t} {cs:List Value} {own:List (List Nat)} {pl:List Nat->Place},(∀p n,X.ow g0≠ .row (pl p) n)->t.cI own=true->bg X t x cs->bk X pl t x cs own->bg Y t x cs
 | .bool,_,_,_,_,_,_,hr,_=>hr
 | .int _,_,_,_,_,_,_,hr,_=>hr
 | .str,_,_,_,_,_,_,hr,_=>hr
 | .unit,_,_,_,_,_,_,hr,_=>hr
 | .aJ _ _ _,_,_,_,_,_,hs,_,_=>by cases hs
 | .arr n t,xs,cs,own,pl,_,hs,hr,_=>bg.flat (t:= .arr n t) (show t.flat=true from hs) hr
 | .pair a b,x,cs,own,pl,fI,hs,hr,ho=>by
   have hs:(a.cI (QM own [0])&&b.cI (wU own))=true:=hs
   rw[Bool.and_eq_true] at hs
   obtain⟨c1,c2,h1,h2,h3⟩:=hr
   subst h1
   exact⟨c1,c2,rfl,bg.cI h (pl:=fun p=>pl (0::p)) (fun p n=>fI _ n) hs.1 h2 (ajY h2 ho),bg.cI h (pl:=plS pl) (fun p n=>by cases p<;>exact fI _ n) hs.2 h3 (ajZ h2.len ho)⟩
 | .sl e t,xs,cs,own,pl,fI,hs,hr,ho=>by
   have hs:(t.flat&&gA own [])=true:=hs
   rw[Bool.and_eq_true] at hs
   obtain⟨A,c,ey,hle,fH⟩:=hr
   subst ey
   refine⟨A,c,rfl,hle,fun j x hj=> ?_⟩
   obtain⟨ad,eD,e1,e2,e3,e4⟩:=fH j x hj
   subst e1
   refine⟨ad,eD,rfl,e2,e3.flat hs.1,fun i v hi=>h.az ?_ (e4 i v hi)⟩
   obtain⟨e1,t1,xs1,v1,_,hg,hc,ci⟩:=ho [] (NF hs.2)
   simp only[El.get,Option.some.injEq] at hg
   cases hg
   have As:v1= .slice (some ad) xs.length c:=by
    have:([Value.slice (some ad) xs.length c]:List Value)[0]? =some v1:=hc
    simpa using this.symm
   subst As
   rcases ci with⟨h0,_⟩|⟨g,cap,cur,h1,h2,h3,h4,h5,h6⟩
   ·cases h0
   ·injection h1 with k1 k2 k3
    cases k1
    rw[iC]
    intro e
    have e:g=g0:=e
    exact fI [] _ (e▸h6)
theorem aA.cI{Y:ax}{g0:Nat}(h:n4 X Y g0){pl:List Nat->Place}(fI:∀p n,X.ow g0≠ .row (pl p) n){bs:List (Option bB)}{sv:SV}{v:Value}(hs:sv.cI bs=true)(hr:aA X pl sv v):aA Y pl sv v:=by
 cases sv with
 |aj t x own=>
  obtain⟨cs,h1,h2,h3⟩:=hr
  exact⟨cs,h1.cI h fI hs h3,h2,h3.Km h fI⟩
 |undef=>trivial
 |skip=>exact hr
 |cF=>exact hr
 |dN=>exact hr
 |over=>exact hr
 |ptr id t p=>
  obtain⟨r,h1,h2⟩:=hr
  exact⟨r,by rw[h.β];exact h1,h2⟩
 |_=>cases hs
theorem adr{bs:List (Option bB)}{id:Nat}{B:bB}(h:(bs.map XU)[id]? =some (some B)):bs[id]? =some (some B)/\B.cI=true:=by
 rw[List.getElem?_map] at h
 obtain⟨b0,h0,h1⟩:=Option.map_eq_some_iff.1 h
 cases b0 with
 |none=>cases h1
 |some B0=>
  unfold XU at h1
  simp only at h1
  cases hb:B0.cI with
  |false=>rw[hb] at h1;cases h1
  |true=>rw[hb] at h1;cases h1;exact⟨h0,hb⟩
structure XX(X:ax)(o:Nat)(e:TypeId)(k n:Nat)(v:Value)(g c:Nat)(cur:Array Value):Prop where
 val:v= .slice (some ⟨g,0,none⟩) n c
 heap:X.w.heap[g]? =some (.cells cur e (0,0))
 le:n<=c
 size:cur.size=c*k
 ow:X.ow g= .row (.c o 0 []) (n*k)
theorem Kd{o:Nat}{e:TypeId}{t:Ty}{xs:List (El t)}{own:List (List Nat)}(hr:Rel X s a)(hs:s.slot o=[.aj (.sl e t) xs own])(bR:gA own []=true){i:Nat}(hi:i<xs.length):∃g c cur,XX X o e t.cells xs.length (a.tmps.getD o Go.undef) g c cur:=by
 have ii:=hr.slot o
 rw[hs] at ii
 obtain⟨cs,aL,hv,hO⟩:=(show aA X (.c o 0) (.aj (.sl e t) xs own) (a.tmps.getD o Go.undef) from ii)
 obtain⟨e1,t1,xs1,v1,_,hg,hc,ci⟩:=hO [] (NF bR)
 simp only[El.get,Option.some.injEq] at hg
 cases hg
 obtain⟨A,c,ey,hle,fH⟩:=aL
 subst ey
 have hv:a.tmps.getD o Go.undef= .slice A xs.length c:=hv
 have As:v1= .slice A xs.length c:=by
  have:([Value.slice A xs.length c]:List Value)[0]? =some v1:=hc
  simpa using this.symm
 subst As
 rcases ci with⟨_,h0⟩|⟨g,cap,cur,h1,h2,h3,h4,h5,h6⟩
 ·have h0:List.length xs=0:=h0
  omega
 injection h1 with k1 k2 k3
 subst k1 k3
 exact⟨g,c,cur,hv,h2,hle,h5,h6⟩
theorem MJ{g:Nat}{new:Array Value}:n4 X (X.row g new) g:=⟨fun b hb=>setRow_other X.w g b _ hb,rfl,rfl⟩
theorem aj5{X0:ax}(hF:∀g pl n,X0.ow g≠ .row pl n)(hx:Ext X0 X){g m:Nat}{pl:Place}{new:Array Value}(how:X.ow g= .row pl m):Ext X0 (X.row g new):=by
 have de:∀b,b≠g->(X.row g new).w.heap[b]? =X.w.heap[b]? :=fun b hb=>setRow_other X.w g b _ hb
 have nD:∀ad v,X0.az ad v->ad.block≠g:=fun ad v dZ e0=>by
  have aq:=ax.ix dZ
  have hu:=dZ.2.2
  cases hw:X0.ow ad.block with
  |all=>have:=(hx.still ad.block aq (by rw[hw];trivial)).1;rw[e0,how] at this;rw[<-e0,hw] at this;cases this
  |ro n=>have:=(hx.still ad.block aq (by rw[hw];trivial)).1;rw[e0,how] at this;rw[<-e0,hw] at this;cases this
  |box id=>rw[hw] at hu;exact hu
  |row pl n=>exact hF _ _ _ hw
 refine⟨fun ad v dZ=>MJ.az (nD ad v dZ) (hx.az ad v dZ),?_,hx.os,hx.tape,hx.output,hx.β0,fun b hb bS=> ?_⟩
 ·have:=hx.size
  simpa [ax.row] using this
 ·have h7:=hx.still b hb bS
  have bI:b≠g:=fun e0=>by
   have h8:=h7.1
   rw[e0,how] at h8
   rw[e0,<-h8] at bS
   exact bS
  exact⟨h7.1,(de b bI).trans h7.2⟩
theorem agG(hr:Rel X s a){x g m:Nat}{new:Array Value}(how:X.ow g= .row (.c x 0 []) m):Rel (X.row g new) (s.cI x) a:=by
 have hB:n4 X (X.row g new) g:=MJ
 refine⟨by simpa [State.cI] using hr.size,by simpa [State.cI] using hr.gB,fun j l v hl hv=> ?_,fun id B hb=> ?_,fun j l id t p hl hm=> ?_,hr.defers,fun j l id c b k hl hm=> ?_⟩
 ·simp only[State.cI,List.getElem?_map] at hl
  obtain⟨l0,h0,rfl⟩:=Option.map_eq_some_iff.1 hl
  unfold hold
  cases cQ:l0.all (SV.cI s.bs) with
  |false=>trivial
  |true=>
   rw[cond_true]
   rw[List.getElem?_set] at h0
   by_cases Zk:x=j
   ·subst Zk
    rw[if_pos rfl] at h0
    split at h0
    ·cases h0;trivial
    ·cases h0
   ·rw[if_neg Zk] at h0
    exact(hr.bP j l0 v h0 hv).iJ fun k sv u hk hu=>hu.cI hB (fun p n e=>by rw[how] at e;injection e with e _;injection e with e _;exact Zk e) (List.all_eq_true.1 cQ sv (List.mem_of_getElem? hk))
 ·obtain⟨h1,h2⟩:=adr hb
  obtain⟨r,k1,k2⟩:=hr.boxes id B h1
  unfold bB.cI at h2
  rw[Bool.and_eq_true] at h2
  have dY:B.t.bF=false:=by simpa using h2.1
  obtain⟨cs,T,aD,aL,oe,bR⟩:=k2.cells dY
  have bI:r≠g:=fun e=>by rw[e,how] at oe;cases oe
  have fI:∀p n,X.ow g≠ .row (.b id p) n:=fun p n e=>by rw[how] at e;injection e with e _;cases e
  exact⟨r,k1,by rw[hB.ow];exact oe,dp.of dY ((hB.heap r bI).trans aD) (aL.cI hB fI h2.2 bR) (bR.Km hB fI)⟩
 ·simp only[State.cI,List.getElem?_map] at hl
  obtain⟨l0,h0,rfl⟩:=Option.map_eq_some_iff.1 hl
  unfold hold at hm
  cases cQ:l0.all (SV.cI s.bs) with
  |false=>rw[cQ] at hm;simp at hm
  |true=>
   rw[cQ,cond_true] at hm
   have h1:=List.all_eq_true.1 cQ _ hm
   unfold SV.cI at h1
   simp only at h1
   split at h1
   case h_2=>cases h1
   rename_i B hB
   have hb:=z28 (s:=s) hB
   exact⟨B,by simp only[State.cI,List.getElem?_map,hb,Option.map_some,XU,h1,cond_true]⟩
 ·exfalso
  simp only[State.cI,List.getElem?_map] at hl
  obtain⟨l0,h0,rfl⟩:=Option.map_eq_some_iff.1 hl
  unfold hold at hm
  cases cQ:l0.all (SV.cI s.bs) with
  |false=>rw[cQ] at hm;simp at hm
  |true=>
   rw[cQ,cond_true] at hm
   have:=List.all_eq_true.1 cQ _ hm
   cases this
theorem zvd{α:Type}:∀{l r:List α} {x y:α},Vv l=some (r,x,y)->l=r++ [x,y]
 | [],_,_,_,h=>by cases h
 | [_],_,_,_,h=>by cases h
 | [a,b],_,_,_,h=>by cases h;rfl
 |a::b::c::r,_,_,_,h=>by
  simp only[Vv] at h
  split at h
  case h_2=>cases h
  rename_i l x y hl
  cases h
  have:=zvd (l:=b::c::r) hl
  rw[this];rfl
theorem zqq(hE:ap P E){C:ah}(hC:C.Nat)(hf:∀f,cV P C f){ops:Array Oper}{s':State}{Q:Exit->Act->World->Prop}{rest:List Nat}:∀(l:List Nat) (X:ax) (s:State) (a:Act),Rel X s a->(∀i∈l,i<ops.size)->
 steps E (C State) ops.toList (l.map fun i=>ops.getD i default) s some=some s'->(∀Y a',Ext X Y->Rel Y s' a'->wpOps P ops Q rest a' Y.w)->wpOps P ops Q (l++rest) a X.w
 | [],X,s,a,hr,_,h,hQ=>by
   cases h
   exact hQ X a (Ext.refl X) hr
 |i::r,X,s,a,hr,hl,h,hQ=>by
  simp only[List.map_cons,steps] at h
  obtain⟨s1,h1,h2⟩:=jD (zqp hC (F:=fun s=>steps E (C State) ops.toList (r.map fun i=>ops.getD i default) s some) (G:=some) (K:=fun s=>steps E (C State) ops.toList (r.map fun i=>ops.getD i default) s some) (fun _=>rfl)) h
  have hi:ops[i]? =some (ops.getD i default):=by
   have:=hl i (by simp)
   simp [this]
  rw[List.cons_append,wpOps_cons]
  refine VB hE hr hC hf hi h1 fun Y a' aZ bu=> ?_
  exact zqq hE hC hf r Y s1 a' bu (fun j hj=>hl j (List.mem_cons_of_mem _ hj)) h2 fun Z a2 cf cY=>hQ Z a2 (aZ.trans cf) cY
theorem aj1(hE:ap P E){X0:ax}(hF:∀g pl n,X0.ow g≠ .row pl n)(hx:Ext X0 X)(hr:Rel X s a){ops:Array Oper}{k l:Nat}{oA oS:Oper}(hA:ops[k]? =some oA)(hS:ops[l]? =some oS){s':State}(h:jd E oA oS s some=some s'){Q:Exit->Act->World->Prop}(hQ:∀Y a',Ext X0 Y->Rel Y s' a'->Q .normal a' Y.w):wpOps P ops Q [k,l] a X.w:=by
 unfold jd at h
 split at h
 case h_2=>cases h
 rename_i T x i T' d vo YY hoS
 cases fx:(isDst oA d&&(!(Nat.beq x d)&&ln oS)) with
 |false=>rw[fx] at h;cases h
 |true=>
 rw[fx,cond_true] at h
 rw[Bool.and_eq_true,Bool.and_eq_true] at fx
 obtain⟨hd,Zj,kZ⟩:=fx
 have kZ:oS.dst=none/\oS.guard=none:=by
  unfold ln at kZ
  split at kZ
  ·exact⟨by assumption,by assumption⟩
  ·cases kZ
 have Zj:x≠d:=fun e=>by rw[e] at Zj;simp at Zj
 unfold uv at h
 split at h
 case h_2=>cases h
 rename_i e t xs own JR
 cases hb:gA own [] with
 |false=>rw[hb] at h;cases h
 |true=>
 rw[hb,cond_true] at h
 split at h
 case h_2=>cases h
 rename_i u w hT ve
 cases hu:(u.cp (.sl e t)&&(w.cp t&&Nat.ble (d+1) s.sl.length)) with
 |false=>rw[hu] at h;cases h
 |true=>
 rw[hu,cond_true] at h
 rw[Bool.and_eq_true,Bool.and_eq_true] at hu
 have:=Ty.aI hu.1
 subst this
 have:=Ty.aI hu.2.1
 subst this
 have hds:d<a.tmps.size:=by rw[<-hr.size];exact Nat.le_of_ble_eq_true hu.2.2
 obtain⟨n,kk,h,hn⟩:=zqh h
 obtain⟨y,h,hy⟩:=zy h
 obtain⟨h0,h1,h⟩:=vj h
 cases h
 have hi:n.toNat<xs.length:=by omega
 obtain⟨g,c,cur,hR⟩:=Kd hr JR hb hi
 have dh:=hn X _ _ (hr.aG i)
 have hU:=hE.ty T _ hT
 have ev:a.eval (.tmp x)= .slice (some ⟨g,0,none⟩) xs.length c:=hR.val
 have ud:(execOp a.eval oA).run P X.w= .ok (.value (.pointer (some ⟨g,n.toNat*w.cells,none⟩))) X.w:=by
  have aq:n<(xs.length:Int):=h1
  simp only[execOp,YY,Sem.run_bind,Instr.indexAt,dh,ev,asIntOf,Sem.run_pure,Result.andThen_ok,run_underlying hU.dj.1,Sem.run_ite,h0,aq,and_self,if_true,lA hE hU.dj.2]
  simp [iC]
 refine raw hA hd ud ?_
 have eL:Rel X (s.au (some d) [.undef]) (a.put (some d) (.pointer (some ⟨g,n.toNat*w.cells,none⟩))):=hr.put (fun _ _=>trivial) (fun id t p hm=>by simp at hm)
 have evd:(a.put (some d) (.pointer (some ⟨g,n.toNat*w.cells,none⟩))).eval (.tmp d)= .pointer (some ⟨g,n.toNat*w.cells,none⟩):=by
  show(a.put (some d) _).tmps.getD d Go.undef=_
  rw[nK hds,if_pos rfl]
 generalize a.put (some d) (.pointer (some ⟨g,n.toNat*w.cells,none⟩))=a1 at eL evd⊢
 obtain⟨cs,lu,Yk⟩:=hy X _ _ (eL.aG vo)
 have hle:(n.toNat+1)*w.cells<=c*w.cells:=Nat.mul_le_mul_right _ (by have:=hR.le;omega)
 rw[Nat.add_mul,Nat.one_mul] at hle
 have bS:=FQ (P:=P) hE ve lu (r:=g) (off:=n.toNat*w.cells) (w:=X.w) hR.heap (by rw[hR.size];exact hle)
 rw[wpOps_cons]
 unfold wpOp
 simp only[hS]
 have hw:Region.wanted oS (yielded ops a1.tmps)=true:=by simp [Region.wanted,kZ.2]
 rw[if_pos hw]
 refine .inl ?_
 unfold Oper.wp
 generalize gO:(cur.toList.take (n.toNat*w.cells)++cs++cur.toList.drop (n.toNat*w.cells+cs.length)).toArray=new at bS
 have aV:(execOp a1.eval oS).run P X.w= .ok .skip (X.row g new).w:=by
  simp only[execOp,hoS,Sem.run_bind,Instr.storeAt,evd,Instr.sureAddr,Sem.run_pure,Result.andThen_ok,Yk,bS]
  rfl
 rw[aV,Oper.upon_skip,kZ.1]
 exact hQ _ a1 (aj5 hF hx hR.ow) (agG eL hR.ow)
theorem ags(hE:ap P E){C:ah}(hC:C.Nat)(hf:∀f,cV P C f){X0:ax}(hF:∀g pl n,X0.ow g≠ .row pl n)(hx:Ext X0 X)(hr:Rel X s a){id:Nat}{ops:Array Oper}{s':State}(h:lq E (C State) ops.toList s some=some s'){Q:Exit->Act->World->Prop}(hQ:∀Y a',Ext X0 Y->Rel Y s' a'->Q .normal a' Y.w):(Code.region id ops false).wp P Q a X.w:=by
 unfold lq at h
 split at h
 case h_2=>cases h
 rename_i l oA oS hl
 obtain⟨s1,h1,h2⟩:=jD (Eo hC (F:=fun s=>jd E oA oS s some) (G:=some) (K:=fun s=>jd E oA oS s some) (fun _=>rfl) l s) h
 have gP:=zvd hl
 have b6:ops.size=l.length+2:=by rw[<-Array.length_toList,gP];simp
 refine wp_region ?_
 have j4:List.range ops.size=List.range l.length++ [l.length,l.length+1]:=by
  rw[b6,List.range_succ,List.range_succ,List.append_assoc];rfl
 rw[j4]
 have hA:ops[l.length]? =some oA:=by rw[<-Array.getElem?_toList,gP,List.getElem?_append_right (Nat.le_refl _),Nat.sub_self];rfl
 have hS:ops[l.length+1]? =some oS:=by rw[<-Array.getElem?_toList,gP,List.getElem?_append_right (by omega),Nat.add_sub_cancel_left];rfl
 have kD:(List.range l.length).map (fun i=>ops.getD i default)=l:=by
  apply List.ext_getElem?
  intro i
  rw[List.getElem?_map]
  by_cases hi:i<l.length
  ·have h3:ops[i]? =l[i]? :=by rw[<-Array.getElem?_toList,gP,List.getElem?_append_left hi]
   have h4:i<ops.size:=by omega
   rw[List.getElem?_range hi,<-h3]
   simp [h4]
  ·rw[List.getElem?_eq_none (by simpa using hi),List.getElem?_eq_none (by omega)];rfl
 refine zqq hE hC hf (List.range l.length) X s a hr (fun i hi=>by have:=List.mem_range.1 hi;omega) (by rw[kD];exact h1) fun Y a' aZ bu=> ?_
 exact aj1 hE hF (hx.trans aZ) bu hA hS h2 hQ
end Go.Ref

namespace Go.Ref
open Go
variable {P:Program} {E:Env} {X:ax} {s:State} {a:Act}
theorem aaW{ops:Array Oper}{Q:Exit->Act->World->Prop}{i d:Nat}{rest:List Nat}{a:Act}{w w':World}{o:Oper}{v:Value}(hi:ops[i]? =some o)(hd:isDst o d=true)(aV:(execOp a.eval o).run P w= .ok (.value v) w')(K:wpOps P ops Q rest (a.put (some d) v) w'):wpOps P ops Q (i::rest) a w:=by
 have kZ:o.dst=some d/\o.guard=none:=by
  unfold isDst at hd
  split at hd
  ·rename_i d' h1 h2
   exact⟨by rw[h1,Nat.eq_of_beq_eq_true hd],h2⟩
  ·cases hd
 rw[wpOps_cons]
 unfold wpOp
 simp only[hi]
 have hw:Region.wanted o (yielded ops a.tmps)=true:=by simp [Region.wanted,kZ.2]
 rw[if_pos hw]
 refine .inl ?_
 unfold Oper.wp
 rw[aV,Oper.upon_value,kZ.1]
 exact K
theorem zi6{α:Type}:∀{l r:List α} {x y z:α},Sd l=some (r,x,y,z)->l=r++ [x,y,z]
 | [],_,_,_,_,h=>by cases h
 | [_],_,_,_,_,h=>by cases h
 | [_,_],_,_,_,_,h=>by cases h
 | [a,b,c],_,_,_,_,h=>by cases h;rfl
 |a::b::c::d::r,_,_,_,_,h=>by
  simp only[Sd] at h
  split at h
  case h_2=>cases h
  rename_i l x y z hl
  cases h
  have:=zi6 (l:=b::c::d::r) hl
  rw[this];rfl
theorem Rel.kill(hr:Rel X s a)(d:Nat):Rel X (s.au (some d) [.undef]) a:=by
 have eb:∀(i:Nat) (l:List SV),(s.au (some d) [.undef]).sl[i]? =some l->l=[.undef]\/s.sl[i]? =some l:=fun i l hi=>by
  simp only[State.au,List.getElem?_set] at hi
  split at hi
  ·split at hi
   ·cases hi;exact .inl rfl
   ·cases hi
  ·exact .inr hi
 refine⟨by simpa [State.au] using hr.size,by simpa [State.au] using hr.gB,fun i l v hi hv=> ?_,hr.boxes,fun i l id t p hi hm=> ?_,hr.defers,hr.bz.less (fun i l id c b j hi hm=> ?_) (fun id c b x own _ hb ho=>⟨x,own,hb,ho⟩)⟩
 ·rcases eb i l hi with rfl|hi
  ·trivial
  ·exact hr.bP i l v hi hv
 ·rcases eb i l hi with rfl|hi
  ·simp at hm
  ·exact hr.live i l id t p hi hm
 ·rcases eb i l hi with rfl|hi
  ·simp at hm
  ·exact⟨l,hi,hm,fun h=>h⟩
theorem Zw{P:Program}{fs:Array Field}(h:∀f∈fs.toList,∃i,P.info? f.type=some i):∃places,fs.toList.mapM (fun(f:Field)=>(P.info? f.type).map fun i=>(f.offset,i.size))=some places/\∀(j:Nat) (f:Field) i,fs.toList[j]? =some f->P.info? f.type=some i->places[j]? =some (f.offset,i.size):=by
 generalize fs.toList=l at h
 induction l with
 |nil=>exact⟨[],rfl,fun j f i hj=>by simp at hj⟩
 |cons f r ih=>
  obtain⟨i,hi⟩:=h f (by simp)
  obtain⟨places,h1,h2⟩:=ih fun f hf=>h f (List.mem_cons_of_mem _ hf)
  refine⟨(f.offset,i.size)::places,by simp [List.mapM_cons,hi,h1],fun j g k hj hg=> ?_⟩
  cases j with
  |zero=>
   simp only[List.getElem?_cons_zero,Option.some.injEq] at hj
   subst hj
   rw[hi] at hg
   cases hg
   rfl
  |succ j=>exact h2 j g k (by simpa using hj) hg
theorem afy(hE:ap P E){T:TypeId}{ta tb:Ty}(hT:E.gr T=some (ta,tb)){y:El ta}{cs:List Value}(hr:bg X ta y cs)(w:World):(Instr.build T #[(0,dL ta cs)]).run P w= .ok (.agg (cs++ [Value.pointer none,Value.pointer none,Value.int .i64 0]).toArray) w:=by
 obtain⟨fs,f0,hu,YH,xh,ht0,cQ⟩:=hE.g3 T ta tb hT
 obtain⟨i,hi,hz⟩:=hE.gz T ta tb hT
 obtain⟨places,JG,Y2⟩:=Zw (P:=P) (fs:=fs) cQ
 obtain⟨i0,BX,eX,_⟩:=(hE.ty _ _ ht0).info
 have fI:places[0]? =some (f0.offset,i0.size):=Y2 0 f0 i0 (by rw[Array.getElem?_toList];exact YH) BX
 have hmc:=vm hr
 have ff:=hr.len
 have JY:=uP ta
 refine run_build w T _ _ ?_
 unfold Program.built
 simp only[hi,hu,hz,JG]
 have JX:(Value.agg (zp ta++ [Value.pointer none,Value.pointer none,Value.int .i64 0]).toArray).cells=(zp ta++ [Value.pointer none,Value.pointer none,Value.int .i64 0]).toArray:=rfl
 simp only[JX,Instr.fill,List.getElem?_toArray,fI,xh,eX,hmc]
 rw[if_neg (by simp;omega)]
 have ld:=zqc 0 cs (zp ta++ [Value.pointer none,Value.pointer none,Value.int .i64 0]).toArray (by simp;omega)
 congr 1
 apply Array.toList_inj.1
 rw[ld]
 simp only[List.take_zero,List.nil_append,Nat.zero_add]
 rw[ff,<-JY,List.drop_left]
theorem aml(hE:ap P E){X0:ax}(hx:Ext X0 X)(hr:Rel X s a){ops:Array Oper}{k:Nat}{oB oX oA:Oper}(hB:ops[k]? =some oB)(hX:ops[k+1]? =some oX)(hA:ops[k+2]? =some oA){s':State}(h:q7 E oB oX oA s some=some s'){Q:Exit->Act->World->Prop}(hQ:∀Y a',Ext X0 Y->Rel Y s' a'->Q .normal a' Y.w):wpOps P ops Q [k,k+1,k+2] a X.w:=by
 unfold q7 at h
 split at h
 case h_2=>cases h
 rename_i T parts T' e1 e2 hoB hoX YY
 split at h
 case h_2=>cases h
 rename_i d1 d2 d3 BP rO hd3
 cases fx:(Nat.beq T T'&&(Nat.beq d1 e1&&(Nat.beq d2 e2&&(isDst oB d1&&(isDst oX d2&&(isDst oA d3&&(Nat.ble (d1+1) s.sl.length&&Nat.ble (d2+1) s.sl.length))))))) with
 |false=>rw[fx] at h;cases h
 |true=>
 rw[fx,cond_true] at h
 simp only[Bool.and_eq_true] at fx
 obtain⟨Yx,xa,xb,hB1,hX1,hA1,Cb,JP⟩:=fx
 have Yx:=Nat.eq_of_beq_eq_true Yx
 have xa:=Nat.eq_of_beq_eq_true xa
 have xb:=Nat.eq_of_beq_eq_true xb
 subst Yx xa xb
 split at h
 case h_2=>cases h
 rename_i x ta tb oh BU
 obtain⟨y,h,hy⟩:=zy h
 split at h
 case h_2=>cases h
 rename_i iT
 cases h
 have oh:parts= #[(0,x)]:=by rw[<-Array.toArray_toList (xs:=parts),oh]
 subst oh
 obtain⟨cs,lu,Yj⟩:=hy X _ _ (hr.aG x)
 have Zc:d1<a.tmps.size:=by rw[<-hr.size];exact Nat.le_of_ble_eq_true Cb
 have Zd:d2<a.tmps.size:=by rw[<-hr.size];exact Nat.le_of_ble_eq_true JP
 have JM:(execOp a.eval oB).run P X.w= .ok (.value (.agg (cs++ [Value.pointer none,Value.pointer none,Value.int .i64 0]).toArray)) X.w:=by
  have:=afy (X:=X) hE BU lu X.w
  simp only[execOp,hoB,Sem.run_bind]
  have e:(#[((0:Nat),x)].map fun(i,x)=>(i,a.eval x))= #[(0,dL ta cs)]:=by simp [Yj]
  rw[e,this]
  rfl
 refine raw hB hB1 JM ?_
 have eL:Rel X (s.au (some d1) [.undef]) (a.put (some d1) (.agg (cs++ [Value.pointer none,Value.pointer none,Value.int .i64 0]).toArray)):=hr.put (fun _ _=>trivial) (fun id t p hm=>by simp at hm)
 have Rd:(a.put (some d1) (.agg (cs++ [Value.pointer none,Value.pointer none,Value.int .i64 0]).toArray)).eval (.tmp d1)= .agg (cs++ [Value.pointer none,Value.pointer none,Value.int .i64 0]).toArray:=by
  show(a.put (some d1) _).tmps.getD d1 Go.undef=_
  rw[nK Zc,if_pos rfl]
 have Rt:(a.put (some d1) (.agg (cs++ [Value.pointer none,Value.pointer none,Value.int .i64 0]).toArray)).tmps.size=a.tmps.size:=rD
 generalize a.put (some d1) (.agg (cs++ [Value.pointer none,Value.pointer none,Value.int .i64 0]).toArray)=a1 at eL Rd Rt⊢
 let β:Nat->Option Nat:=fun id=>if id=d2+1 then some X.w.heap.size else X.β id
 have Jf:(s.au (some d1) [.undef]).bs[d2+1]? =some none:=iT
 have aq:d2+1<s.bs.length:=(List.getElem?_eq_some_iff.1 iT).1
 have hk:eJ (s.au (some d1) [.undef]) X (X.new (cs++ [Value.pointer none,Value.pointer none,Value.int .i64 0]).toArray T (.box (d2+1)) β):=Pc X _ _ _ _ _ (by show(if _ then _ else _)=_;rw[if_neg (by omega)]) (fun id B hB=>by
  show(if id=d2+1 then _ else _)=_
  rw[if_neg (fun e=>by rw[e,Jf] at hB;cases hB)])
 obtain⟨n1,n2⟩:=O4 X (cs++ [Value.pointer none,Value.pointer none,Value.int .i64 0]).toArray T (.box (d2+1)) β
 have JO:(execOp a1.eval oX).run P X.w= .ok (.value (.pointer (some ⟨X.w.heap.size,0,none⟩))) (X.new (cs++ [Value.pointer none,Value.pointer none,Value.int .i64 0]).toArray T (.box (d2+1)) β).w:=by
  simp only[execOp,hoX,Sem.run_bind,Instr.box,Rd,OV,Result.andThen_ok,Sem.run_pure]
  rfl
 refine aaW hX hX1 JO ?_
 have bG:bC (X.new (cs++ [Value.pointer none,Value.pointer none,Value.int .i64 0]).toArray T (.box (d2+1)) β) (d2+1) X.w.heap.size ⟨.aJ .bN ta tb,(y,(none,none),(0:Int)),[]::z21⟩:=
  ⟨n2,⟨_,n1⟩,fun _=>⟨cs,.pointer none,.pointer none,T,n1,lu.ai (fun _ _=>hk.az),rfl,rfl⟩⟩
 have hβd:β (d2+1)=some X.w.heap.size:=by show(if d2+1=d2+1 then _ else _)=_;rw[if_pos rfl]
 have eW:=((eL.dm hk).fj (d:=d2+1) aq Jf hβd bG).dead d2 (.pointer (some ⟨X.w.heap.size,0,none⟩))
 have ev2:(a1.put (some d2) (.pointer (some ⟨X.w.heap.size,0,none⟩))).eval (.tmp d2)= .pointer (some ⟨X.w.heap.size,0,none⟩):=by
  show(a1.put (some d2) _).tmps.getD d2 Go.undef=_
  rw[nK (show d2<a1.tmps.size by rw[Rt];exact Zd),if_pos rfl]
 generalize a1.put (some d2) (.pointer (some ⟨X.w.heap.size,0,none⟩))=a2 at eW ev2⊢
 have ud:(execOp a2.eval oA).run P (X.new (cs++ [Value.pointer none,Value.pointer none,Value.int .i64 0]).toArray T (.box (d2+1)) β).w= .ok (.value (.pointer (some ⟨X.w.heap.size,0,none⟩))) (X.new (cs++ [Value.pointer none,Value.pointer none,Value.int .i64 0]).toArray T (.box (d2+1)) β).w:=by
  simp only[execOp,YY,Sem.run_bind,ev2,Sem.run_pure,Result.andThen_ok]
 refine raw hA hA1 ud ?_
 refine hQ (X.new _ T (.box (d2+1)) β) _ (hx.trans hk.ext) (eW.put (fun d' e=> ?_) fun id t p hm=> ?_)
 ·exact⟨X.w.heap.size,hβd,rfl,trivial⟩
 ·have:id=d2+1:=by have:=hm;simp at this;exact this.1
  subst this
  exact⟨⟨.aJ .bN ta tb,(y,(none,none),(0:Int)),[]::z21⟩,by simp [State.aC,State.au,Ref.dead,List.getElem?_set,aq]⟩
theorem ajQ(hE:ap P E){C:ah}(hC:C.Nat)(hf:∀f,cV P C f){X0:ax}(hx:Ext X0 X)(hr:Rel X s a){id:Nat}{ops:Array Oper}{s':State}(h:FH E (C State) ops.toList s some=some s'){Q:Exit->Act->World->Prop}(hQ:∀Y a',Ext X0 Y->Rel Y s' a'->Q .normal a' Y.w):(Code.region id ops false).wp P Q a X.w:=by
 unfold FH at h
 split at h
 case h_2=>cases h
 rename_i l oB oX oA hl
 obtain⟨s1,h1,h2⟩:=jD (Eo hC (F:=fun s=>q7 E oB oX oA s some) (G:=some) (K:=fun s=>q7 E oB oX oA s some) (fun _=>rfl) l s) h
 have gP:=zi6 hl
 have b6:ops.size=l.length+3:=by rw[<-Array.length_toList,gP];simp
 refine wp_region ?_
 have j4:List.range ops.size=List.range l.length++ [l.length,l.length+1,l.length+2]:=by
  rw[b6,List.range_succ,List.range_succ,List.range_succ,List.append_assoc,List.append_assoc];rfl
 rw[j4]
 have cB:∀j,ops[l.length+j]? =[oB,oX,oA][j]? :=fun j=>by rw[<-Array.getElem?_toList,gP,List.getElem?_append_right (by omega),Nat.add_sub_cancel_left]
 have kD:(List.range l.length).map (fun i=>ops.getD i default)=l:=by
  apply List.ext_getElem?
  intro i
  rw[List.getElem?_map]
  by_cases hi:i<l.length
  ·have h3:ops[i]? =l[i]? :=by rw[<-Array.getElem?_toList,gP,List.getElem?_append_left hi]
   have h4:i<ops.size:=by omega
   rw[List.getElem?_range hi,<-h3]
   simp [h4]
  ·rw[List.getElem?_eq_none (by simpa using hi),List.getElem?_eq_none (by omega)];rfl
 refine zqq hE hC hf (List.range l.length) X s a hr (fun i hi=>by have:=List.mem_range.1 hi;omega) (by rw[kD];exact h1) fun Y a' aZ bu=> ?_
 exact aml hE (hx.trans aZ) bu (cB 0) (cB 1) (cB 2) h2 hQ
theorem Me{Y:ax}{id:Nat}{pl:Nat->List Nat->Place}{l:List SV}{v:Value}(hr:cL Y pl l v):cL Y pl (lR id l) v:=by
 have key:∀(sv:SV) (q:List Nat->Place) (w:Value),aA Y q sv w->aA Y q (match sv with
  | .ptr j _ _=>bif Nat.beq j id then .undef else sv
  |v=>v) w:=by
  intro sv q w h
  cases sv with
  |ptr j t p=>
   simp only
   cases Nat.beq j id with
   |true=>trivial
   |false=>exact h
  |_=>exact h
 match l,hr with
 | [sv],hr=>exact key sv _ _ hr
 | [],hr=>exact hr
 |x::y::r,⟨vs,h1,h2,h3⟩=>
  refine⟨vs,h1,by simpa [lR] using h2,fun j s u hs hu=> ?_⟩
  have hs:(lR id (x::y::r))[j]? =some s:=hs
  unfold lR at hs
  rw[List.getElem?_map] at hs
  obtain⟨s0,eX,rfl⟩:=Option.map_eq_some_iff.1 hs
  exact key s0 _ _ (h3 j s0 u eX hu)
theorem Ny{id:Nat}{l:List SV}{j:Nat}{t:Ty}{p:List Nat}(h:SV.ptr j t p∈lR id l):SV.ptr j t p∈l/\j≠id:=by
 unfold lR at h
 obtain⟨s0,eX,he⟩:=List.mem_map.1 h
 cases s0 with
 |ptr j' t' p'=>
  simp only at he
  cases hb:Nat.beq j' id with
  |true=>rw[hb] at he;cases he
  |false=>
   rw[hb] at he
   cases he
   exact⟨eX,fun e=>Nat.ne_of_beq_eq_false hb e⟩
 |_=>simp only at he;cases he
theorem CP{id:Nat}{l:List SV}{i j:Nat}{a b:Ty}(h:SV.bz i a b j∈lR id l):SV.bz i a b j∈l/\(l=[.bz i a b j]->lR id l=[.bz i a b j]):=by
 refine⟨?_,fun e=>by rw[e];rfl⟩
 unfold lR at h
 obtain⟨s0,eX,he⟩:=List.mem_map.1 h
 cases s0 with
 |ptr j' t' p'=>
  simp only at he
  cases hb:Nat.beq j' id<;>rw[hb] at he<;>cases he
 |_=>simp only at he;first|(cases he;done)|(rw[<-he];exact eX)
def ya(id m j g:Nat)(X:ax)(q:Nat):Ow:=
 if q=g then .row (.b id [j]) 0 else match X.ow q with
  | .row (.b m' p) n=>if m'=m then .row (.b id (j::p)) n else .row (.b m' p) n
  |w=>w
theorem ace{id m j g q i:Nat}(hg:∃b,X.ow g= .box b):(ya id m j g X q).used i↔(X.ow q).used i:=by
 unfold ya
 split
 ·rename_i e
  obtain⟨b,hb⟩:=hg
  rw[e,hb]
  simp [Ow.used]
 ·cases hq:X.ow q with
  |row pl n=>
   cases pl with
   |b m' p=>simp only;split<;>rfl
   |_=>rfl
  |_=>rfl
theorem acd{id m j g q:Nat}(bI:q≠g)(h:∀p n,X.ow q≠ .row (.b m p) n):ya id m j g X q=X.ow q:=by
 unfold ya
 rw[if_neg bI]
 cases hq:X.ow q with
 |row pl n=>
  cases pl with
  |b m' p=>
   simp only
   rw[if_neg (fun e=>h p n (by rw[hq,e]))]
  |_=>rfl
 |_=>rfl
theorem adt{T:TypeId}(hE:ap P E)(lf:E.pt T=true){r off:Nat}{cur:Array Value}{T':TypeId}{w:World}{v:Value}(hv:v.cells= #[v])(ho:v.oneCell'=true)(hg:w.heap[r]? =some (.cells cur T' (0,0)))(hf:off+1<=cur.size):
 (storeVar T ⟨r,off,none⟩ v).run P w= .ok () (w.setRow r (cur.toList.take off++ [v]++cur.toList.drop (off+1)).toArray):=by
 obtain⟨i,hi,hs⟩:=hE.p1 T lf
 have bS:=run_storeCells_at P r off T' [v] 0 cur w hg (by simpa using hf) (fun u hu=>by
  have:u=v:=by simpa using hu
  rw[this];exact ho)
 simp only[Nat.add_zero] at bS
 have ij:(sizeOf T).run P w= .ok 1 w:=by simp [sizeOf,typeInfo,hi,hs]
 unfold storeVar
 simp only[Sem.run_bind,ij,Result.andThen_ok,hv]
 rw[if_neg (by simp)]
 exact bS
theorem aj7{c:List Value}{p0 p1 n v:Value}{k j:Nat}(hk:c.length=k)(hj:j<2):(c++ [p0,p1,n]).take (k+j)++ [v]++(c++ [p0,p1,n]).drop (k+j+1)=c++ [if j=0 then v else p0,if j=1 then v else p1,n]:=by
 subst hk
 match j,hj with
 |0,_=>simp
 |1,_=>
  rw[List.take_append,List.drop_append]
  simp [List.take_of_length_le]
  rw[List.drop_eq_nil_of_le (by omega),show c.length+1+1-c.length=2 by omega]
  rfl
theorem ajL(hE:ap P E)(hr:Rel X s a){oS:Oper}{s':State}(h:ka E oS s some=some s'):(oS.dst=none/\oS.guard=none)/\(∀i,s.slot i=[.undef]->s'.slot i=[.undef])/\∃Z,(execOp a.eval oS).run P X.w= .ok .skip Z.w/\Ext X Z/\Rel Z s' a:=by
 unfold ka at h
 split at h
 case h_2=>cases h
 rename_i T tx ty ho
 cases nC:ln oS with
 |false=>rw[nC] at h;cases h
 |true=>
 rw[nC,cond_true] at h
 have kZ:oS.dst=none/\oS.guard=none:=by
  unfold ln at nC
  split at nC
  ·exact⟨by assumption,by assumption⟩
  ·cases nC
 refine⟨kZ,?_⟩
 split at h
 case isFalse=>cases h
 rename_i lf
 split at h
 case h_2=>cases h
 rename_i id ta tb j JR
 have hx:=hr.slot tx
 rw[JR] at hx
 obtain⟨rr,hβ,hv,hj⟩:aA X (.c tx 0) (.ptr id (.aJ .bN ta tb) [1,j]) (a.tmps.getD tx Go.undef):=hx
 have hv:a.tmps.getD tx Go.undef= .pointer (some ⟨rr,ta.cells+j,none⟩):=hv
 have hj:j<2:=hj
 have Yj:a.eval (.tmp tx)= .pointer (some ⟨rr,ta.cells+j,none⟩):=hv
 obtain⟨z,own,r1,hb,h,bR,h1,how,c,p0,p1,T',aD,aL,rQ,rR⟩:=ER hr h
 rw[hβ] at h1
 cases h1
 cases gN:gA own [] with
 |false=>rw[gN] at h;cases h
 |true=>
 rw[gN,cond_true] at h
 have gN:=AR gN
 have ff:=aL.len
 have dd:ta.cells+j+1<=(c++ [p0,p1,Value.int .i64 z.2.2]).toArray.size:=by simp;omega
 have aV:∀v,v.cells= #[v]->v.oneCell'=true->a.eval (.tmp ty)=v->(execOp a.eval oS).run P X.w= .ok .skip (X.row rr (c++ [if j=0 then v else p0,if j=1 then v else p1,Value.int .i64 z.2.2]).toArray).w:=fun v h1 h2 h3=>by
  have bS:=adt (P:=P) hE lf h1 h2 aD dd
  rw[aj7 ff hj] at bS
  simp only[execOp,ho,Sem.run_bind,Instr.storeAt,Yj,Instr.sureAddr,Sem.run_pure,Result.andThen_ok,h3,bS]
  rfl
 split at h
 case h_3=>cases h
 case h_2=>
  rename_i FF
  cases h
  have hy:=hr.slot ty
  rw[FF] at hy
  have hy:a.tmps.getD ty Go.undef= .pointer none:=hy
  have aV:=aV (.pointer none) rfl rfl hy
  generalize gO:(c++ [if j=0 then Value.pointer none else p0,if j=1 then Value.pointer none else p1,Value.int .i64 z.2.2]).toArray=new at aV
  refine⟨fun i hi=>hi,X.row rr new,aV,EV how,hr.row hb hβ how ⟨how,⟨_,setRow_heap X.w rr _ _ T' (0,0) aD⟩,fun _=> ?_⟩ (.inr gN)⟩
  have hg:∀k,∀{m:Option (El tb)} {v:Value},dq X (fun p=> .b id (k::p)) tb m v->dq (X.row rr new) (fun p=> .b id (k::p)) tb m v:=fun k m v hm=>hm.move (fun _ _=>mw how) fun p _ q o n hq hw=>by
   have bI:q≠rr:=fun e=>by rw[e,how] at hw;cases hw
   exact⟨(setRow_other X.w rr q _ bI).trans hq,hw⟩
  refine⟨c,if j=0 then Value.pointer none else p0,if j=1 then Value.pointer none else p1,T',?_,aL.ai (fun _ _=>mw how),?_,?_⟩
  ·rw[gO];exact setRow_heap X.w rr _ _ T' (0,0) aD
  ·match j,hj with
   |0,_=>rfl
   |1,_=>exact hg 0 rQ
  ·match j,hj with
   |0,_=>exact hg 1 rR
   |1,_=>rfl
 rename_i m tb' FF
 split at h
 case h_2=>cases h
 rename_i B hB
 split at h
 case isFalse=>cases h
 rename_i dg
 cases fx:(tb'.cp tb&&(!tb.bF&&(gA B.own [2]&& !(Nat.beq id m)))) with
 |false=>rw[fx] at h;cases h
 |true=>
 rw[fx,cond_true] at h
 cases h
 simp only[Bool.and_eq_true,Bool.not_eq_true'] at fx
 obtain⟨ht,dY,JA,FA⟩:=fx
 have:=Ty.aI ht
 subst this
 have FA:id≠m:=fun e=>by rw[e] at FA;simp at FA
 have hbm:=z28 hB
 obtain⟨g,hβm,tG⟩:=hr.boxes m B hbm
 obtain⟨bt,bx,bo⟩:=B
 have e:=Ty.aI dg
 simp only at e
 subst e
 obtain⟨csg,Tg,YI,Y7,ml,Zi⟩:=tG.cells dY
 have hy:=hr.slot ty
 rw[FF] at hy
 obtain⟨g',hβ',Zh⟩:aA X (.c ty 0) (.ptr m bt []) (a.tmps.getD ty Go.undef):=hy
 rw[hβm] at hβ'
 cases hβ'
 have Zh:a.tmps.getD ty Go.undef= .pointer (some ⟨g,0,none⟩):=by
  have:=((qq dY).1 Zh).1
  rw[this];simp [Ty.off]
 have BU:g≠rr:=fun e=>by rw[e,how] at ml;injection ml with ml;exact FA ml
 generalize gO:(c++ [if j=0 then Value.pointer (some ⟨g,0,none⟩) else p0,if j=1 then Value.pointer (some ⟨g,0,none⟩) else p1,Value.int .i64 z.2.2]).toArray=new at*
 have aV:=aV (.pointer (some ⟨g,0,none⟩)) rfl rfl Zh
 rw[gO] at aV
 let Z:ax:=⟨(X.row rr new).w,ya id m j g X,X.β⟩
 have de:∀q,q≠rr->Z.w.heap[q]? =X.w.heap[q]? :=fun q hq=>setRow_other X.w rr q _ hq
 have ea:∀ad v,X.az ad v->Z.az ad v:=fun ad v hs=>by
  have bI:ad.block≠rr:=fun e=>by
   have:=hs.2.2
   rw[e,how] at this
   exact this
  refine⟨hs.1,?_,(ace ⟨m,ml⟩).2 hs.2.2⟩
  have:=hs.2.1
  simp only[World.cell?] at this⊢
  rw[de _ bI];exact this
 have iW:∀q,q≠g->(∀p n,X.ow q≠ .row (.b m p) n)->Z.ow q=X.ow q:=fun q h1 h2=>acd h1 h2
 have bG:∀q b,b≠m->X.ow q= .box b->Z.ow q= .box b:=fun q b hb hq=>by
  rw[iW q (fun e=>by rw[e,ml] at hq;injection hq with hq;exact hb hq.symm) (fun p n e=>by rw[hq] at e;cases e)]
  exact hq
 have Ca:∀q pl n,X.ow q= .row pl n->(∀p,pl≠ .b m p)->Z.ow q= .row pl n:=fun q pl n hq hp=>by
  rw[iW q (fun e=>by rw[e,ml] at hq;cases hq) (fun p n' e=>by rw[hq] at e;injection e with e _;exact hp p e)]
  exact hq
 have Jc:∀{pl:Place} {e:TypeId} {k n:Nat} {v:Value},(∀p,pl≠ .b m p)->bp X pl e k n v->bp Z pl e k n v:=fun hp ho=>by
  rcases ho with ho|⟨q,cap,cur,k1,k2,k3,k4,k5,k6⟩
  ·exact .inl ho
  ·exact .inr ⟨q,cap,cur,k1,(de q (fun e=>by rw[e,how] at k6;cases k6)).trans k2,k3,k4,k5,Ca q _ _ k6 hp⟩
 have Al:∀k,∀{x:Option (El bt)} {v:Value},dq X (fun p=> .b id (k::p)) bt x v->dq Z (fun p=> .b id (k::p)) bt x v:=fun k x v hm=>hm.move ea fun p _ q o n hq hw=>⟨(de q (fun e=>by rw[e,how] at hw;cases hw)).trans hq,Ca q _ _ hw (fun p' e=>by injection e with e _;exact FA e)⟩
 have cE:dq Z (fun p=> .b id (j::p)) bt (some bx) (.pointer (some ⟨g,0,none⟩)):=by
  refine⟨g,csg,Tg,rfl,(de g BU).trans YI,by show ya id m j g X g=_;simp [ya],Y7.ai ea,fun p hp=> ?_⟩
  have:p=[2]:=by simpa [Bd] using hp
  subst this
  obtain⟨e,t',xs,v,g0,g1,g2,g3⟩:=Zi [2] (AR JA)
  refine⟨e,t',xs,v,g0,g1,g2,?_⟩
  rcases g3 with g3|⟨q,cap,cur,k1,k2,k3,k4,k5,k6⟩
  ·exact .inl g3
  ·refine .inr ⟨q,cap,cur,k1,(de q (fun e=>by rw[e,how] at k6;cases k6)).trans k2,k3,k4,k5,?_⟩
   show ya id m j g X q=_
   unfold ya
   rw[if_neg (fun e=>by rw[e,ml] at k6;cases k6),k6]
   simp
 have BV:gZ Z rr (.b id) ta bt (z.1,fG j (some bx) z.2.1,z.2.2):=by
  refine⟨c,if j=0 then Value.pointer (some ⟨g,0,none⟩) else p0,if j=1 then Value.pointer (some ⟨g,0,none⟩) else p1,T',?_,aL.ai ea,?_,?_⟩
  ·rw[gO];exact setRow_heap X.w rr _ _ T' (0,0) aD
  ·match j,hj,cE with
   |0,_,cE=>exact cE
   |1,_,_=>exact Al 0 rQ
  ·match j,hj,cE with
   |0,_,_=>exact Al 1 rR
   |1,_,cE=>exact cE
 have JE:=hr.om hb (.inr gN)
 have JF:=hr.om hbm (.inl (Qb dY))
 have aZ:Ext X Z:=⟨ea,by show X.w.heap.size<=(X.row rr new).w.heap.size;simp [ax.row],rfl,rfl,rfl,rfl,fun q hq bS=>⟨iW q (fun e=>by rw[e,ml] at bS;exact bS) (fun p n e=>by rw[e] at bS;exact bS),de q (fun e=>by rw[e,how] at bS;exact bS)⟩⟩
 have Jp:id<s.bs.length:=(List.getElem?_eq_some_iff.1 hb).1
 refine⟨fun i hi=> ?_,Z,aV,aZ,by simpa [nf] using hr.size,by simpa [nf] using hr.gB,fun i l v hl hx=> ?_,fun bc B' er=> ?_,fun i l bc t p hl hm=> ?_,hr.defers,hr.bz.less (fun i l qX c2 d2 k hl hm=> ?_) (fun qX c2 d2 x2 kg hex lT YX=> ?_)⟩
 ·by_cases aq:i<s.sl.length
  ·have:=qt aq
   rw[hi] at this
   simp [nf,State.slot,this,lR]
  ·simp [nf,State.slot,List.getElem?_eq_none (Nat.le_of_not_lt aq)]
 ·replace hl:(s.sl.map (lR m))[i]? =some l:=hl
  rw[List.getElem?_map] at hl
  obtain⟨l0,h0,rfl⟩:=Option.map_eq_some_iff.1 hl
  refine Me ((hr.bP i l0 v h0 hx).iJ fun k sv u hk hu=> ?_)
  cases sv with
  |undef=>trivial
  |skip=>exact hu
  |cF=>exact hu
  |dN=>exact hu
  |over=>exact hu
  |aj t x own=>
   obtain⟨cs,q1,q2,q3⟩:=hu
   refine⟨cs,q1.ai ea,q2,fun p hp=> ?_⟩
   obtain⟨e,t',xs,v,g0,g1,g2,g3⟩:=q3 p hp
   exact⟨e,t',xs,v,g0,g1,g2,Jc (fun p' e=>by cases e) g3⟩
  |ptr bc t p=>exact hu
  |view t x=>
   obtain⟨ad,cs,q1,q2,q3,q4⟩:=hu
   exact⟨ad,cs,q1,q2,q3.ai ea,fun i u hi=>ea _ _ (q4 i u hi)⟩
  |cap f t x u y=>exact rC ea hu
  |bz bc c' d' n=>
   obtain⟨r',q1,q2,q3⟩:=hu
   have bI:bc≠id:=fun e=>JE i l0 c' d' n h0 (e▸List.mem_of_getElem? hk)
   have hnm:bc≠m:=fun e=>JF i l0 c' d' n h0 (e▸List.mem_of_getElem? hk)
   refine⟨r',q1,bG r' bc hnm q2,?_⟩
   simp only[World.cell?] at q3⊢
   rw[de r' (fun e=>by rw[e,how] at q2;injection q2 with q2;exact bI q2.symm)]
   exact q3
 ·replace er:((s.bs.set m none).set id (some ⟨.aJ .bN ta bt,(z.1,fG j (some bx) z.2.1,z.2.2),own⟩))[bc]? =some (some B'):=er
  rw[List.getElem?_set] at er
  by_cases e1:id=bc
  ·subst e1
   rw[if_pos rfl,if_pos (by simpa using Jp)] at er
   cases er
   exact⟨rr,hβ,bG rr id FA how,⟨_,setRow_heap X.w rr _ _ T' (0,0) aD⟩,fun _=>BV⟩
  ·rw[if_neg e1,List.getElem?_set] at er
   by_cases e2:m=bc
   ·rw[if_pos e2] at er
    split at er<;>cases er
   ·rw[if_neg e2] at er
    obtain⟨r',q1,q2,q3⟩:=hr.boxes bc B' er
    have bI:r'≠rr:=fun e=>by rw[e,how] at q2;injection q2 with q2;exact e1 q2
    exact⟨r',q1,bG r' bc (fun e=>e2 e.symm) q2,q3.move ea (de r' bI) (fun cs ho p hp=>by
     obtain⟨e,t',xs,v,g0,g1,g2,g3⟩:=ho p hp
     exact⟨e,t',xs,v,g0,g1,g2,Jc (fun p' e=>by injection e with e _;exact e2 e.symm) g3⟩) fun p _ q o n hq hw=>⟨(de q (fun e=>by rw[e,how] at hw;cases hw)).trans hq,Ca q _ _ hw (fun p' e=>by injection e with e _;exact e2 e.symm)⟩⟩
 ·replace hl:(s.sl.map (lR m))[i]? =some l:=hl
  rw[List.getElem?_map] at hl
  obtain⟨l0,h0,rfl⟩:=Option.map_eq_some_iff.1 hl
  obtain⟨hm,bI⟩:=Ny hm
  obtain⟨B2,cT⟩:=hr.live i l0 bc t p h0 hm
  show∃B,((s.bs.set m none).set id (some ⟨.aJ .bN ta bt,(z.1,fG j (some bx) z.2.1,z.2.2),own⟩))[bc]? =some (some B)
  rw[List.getElem?_set]
  by_cases e1:id=bc
  ·rw[if_pos e1,if_pos (by simpa using Jp)];exact⟨_,rfl⟩
  ·rw[if_neg e1,List.getElem?_set,if_neg (fun e=>bI e.symm)];exact⟨B2,cT⟩
 ·replace hl:(s.sl.map (lR m))[i]? =some l:=hl
  rw[List.getElem?_map] at hl
  obtain⟨l0,h0,rfl⟩:=Option.map_eq_some_iff.1 hl
  obtain⟨g1,g2⟩:=CP hm
  exact⟨l0,h0,g1,g2⟩
 ·obtain⟨i,l,k,hl,hm⟩:=hex
  replace hl:(s.sl.map (lR m))[i]? =some l:=hl
  rw[List.getElem?_map] at hl
  obtain⟨l0,h0,rfl⟩:=Option.map_eq_some_iff.1 hl
  obtain⟨g1,_⟩:=CP hm
  refine⟨x2,kg,?_,YX⟩
  show((s.bs.set m none).set id (some ⟨.aJ .bN ta bt,(z.1,fG j (some bx) z.2.1,z.2.2),own⟩))[qX]? =_
  rw[List.getElem?_set,if_neg (show¬id=qX from fun e=>JE i l0 c2 d2 k h0 (by rw[e];exact g1)),List.getElem?_set,if_neg (show¬m=qX from fun e=>JF i l0 c2 d2 k h0 (by rw[e];exact g1))]
  exact lT
theorem zvc{α:Type}:∀{l r:List α} {x:α},Vu l=some (r,x)->l=r++ [x]
 | [],_,_,h=>by cases h
 | [a],_,_,h=>by cases h;rfl
 |a::b::r,_,_,h=>by
  simp only[Vu] at h
  split at h
  case h_2=>cases h
  rename_i l x hl
  cases h
  have:=zvc (l:=b::r) hl
  rw[this];rfl
theorem LJ{n:Nat}{listed:Array Bool}(hs:n<=listed.size){i:Nat}{p q:List Nat}(h:rest n listed=p++i::q):rest n (listed.setIfInBounds i true)=p++q:=by
 have nC:(rest n listed).Nodup:=List.nodup_range.filter _
 rw[h] at nC
 rw[<-zuv nC,<-h]
 simp only[rest,List.filter_filter]
 refine List.filter_congr fun j hj=> ?_
 have YM:=List.mem_range.1 hj
 by_cases e:j=i
 ·subst e
  have:(listed.setIfInBounds j true).getD j true=true:=by
   have:j<listed.size:=by omega
   simp [Array.getD_eq_getD_getElem?,this]
  rw[this];simp
 ·have h1:(listed.setIfInBounds i true).getD j true=listed.getD j true:=by
   simp only[Array.getD_eq_getD_getElem?]
   rw[Array.getElem?_setIfInBounds_ne (fun h=>e h.symm)]
  have h2:Nat.beq j i=false:=by
   cases hh:Nat.beq j i with
   |false=>rfl
   |true=>exact absurd (Nat.eq_of_beq_eq_true hh) e
  rw[h1,h2];simp
theorem adh{n:Nat}{listed:Array Bool}{i:Nat}(h:n<=i):rest n (listed.setIfInBounds i true)=rest n listed:=by
 simp only[rest]
 refine List.filter_congr fun j hj=> ?_
 have YM:=List.mem_range.1 hj
 simp only[Array.getD_eq_getD_getElem?]
 rw[Array.getElem?_setIfInBounds_ne (by omega)]
theorem LK{n:Nat}{listed:Array Bool}(hs:listed.size=n+1):rest (n+1) listed=rest n listed++(if listed.getD n true=true then [] else [n]):=by
 simp only[rest,List.range_succ,List.filter_append]
 congr 1
 cases h:listed.getD n true with
 |false=>
  rw[if_neg (by simp)]
  simp only[List.filter_cons,h,Bool.not_false,if_true,List.filter_nil]
 |true=>
  rw[if_pos rfl]
  simp only[List.filter_cons,h,Bool.not_true,Bool.false_eq_true,if_false,List.filter_nil]
theorem zvi{ops:Array Oper}(lV:∀k,k<ops.size->Nat.ble (u6 ops k+1) (bit k)=true){listed:Array Bool}(hs:listed.size=ops.size)(hr:Region.ready .any ops listed=[]):rest ops.size listed=[]:=by
 rcases hl:rest ops.size listed with _|⟨i,r⟩
 ·rfl
 have cE:i∈rest ops.size listed:=by rw[hl];simp
 have dh:=List.mem_range.1 (List.mem_filter.1 cE).1
 have j5:i∈Region.ready .any ops listed:=by
  refine MI cE fun e he hb=> ?_
  have aq:e.on<i:=KJ (lV i dh) (zh4 _ e he hb)
  cases hx:listed.getD e.on false with
  |true=>rfl
  |false=>
   exfalso
   have fW:e.on<listed.size:=by omega
   have Au:listed.getD e.on true=false:=by
    simp only[Array.getD_eq_getD_getElem?,Array.getElem?_eq_getElem fW,Option.getD_some] at hx⊢
    exact hx
   have hm:e.on∈rest ops.size listed:=List.mem_filter.2 ⟨List.mem_range.2 (by omega),by rw[Au];rfl⟩
   have il:(rest ops.size listed).Pairwise (· < ·):=List.pairwise_lt_range.filter _
   rw[hl] at il hm
   rcases List.mem_cons.1 hm with e1|hm
   ·omega
   ·have:=(List.pairwise_cons.1 il).1 _ hm
    omega
 rw[hr] at j5
 cases j5
theorem ab5{o:Oper}{t j:Nat}(ho:o.op= .extract (.tmp t) j){vs:Array Value}(hv:a.tmps.getD t Go.undef= .tuple vs){v:Value}(hj:vs[j]? =some v)(w:World):(execOp a.eval o).run P w= .ok (.value v) w:=by
 have ev:a.eval (.tmp t)= .tuple vs:=hv
 simp [execOp,ho,ev,Instr.extract,hj]
structure GL(E:Env)(C:ah)(ops:Array Oper)(n k t j d:Nat)(oS oD:Oper)(s1 s':State):Prop where
 size:ops.size=n+1
 last:ops[n]? =some oS
 I7:ops[k]? =some oD
 kn:k<n
 ext:oD.op= .extract (.tmp t) j
 dst:isDst oD d=true
 Zu:Nat.ble (zx oS.after.toList+1) (bit n)=true
 mask:je ops.toList n (zx oS.after.toList)|||bit k=bit n-1
 low:∀i,i<n->Nat.ble (u6 ops i+1) (bit i)=true
 len:j<(s1.slot t).length
 tup:(s1.slot t).length≠1
 link:ka E oS (s1.au (some d) [.undef]) some=some s'
theorem agy{m n k i:Nat}(h:m|||bit k=bit n-1)(hi:i<n)(hk:i≠k):m.testBit i=true:=by
 have h1:(m|||bit k).testBit i=true:=by
  rw[h]
  simp only[bit,Nat.shiftLeft_eq,Nat.one_mul]
  rw[Nat.testBit_two_pow_sub_one]
  simpa using hi
 rw[Nat.testBit_or] at h1
 have h2:(bit k).testBit i=false:=by
  simp only[bit,Nat.shiftLeft_eq,Nat.one_mul]
  rw[Nat.testBit_two_pow]
  simp
  omega
 rw[h2,Bool.or_false] at h1
 exact h1
theorem adp(c:List (Nat×Nat)):∀(s:State) (t:Nat),((s.close c).slot t).length=(s.slot t).length:=by
 induction c with
 |nil=>intro s t;rfl
 |cons x r ih=>
  intro s t
  obtain⟨i,j⟩:=x
  rw[Ee,ih]
  simp only[State.cg,State.slot,List.getD_eq_getElem?_getD,List.getElem?_set]
  by_cases e:i=t
  ·subst e
   by_cases aq:i<s.sl.length
   ·rw[if_pos rfl,if_pos aq,List.getElem?_eq_getElem aq]
    simp [z7m]
   ·rw[if_pos rfl,if_neg aq,List.getElem?_eq_none (by omega)]
  ·rw[if_neg e]
theorem afK{s:State}{d:Nat}(h:s.slot d=[.undef]):s.au (some d) [.undef]=s:=by
 simp only[State.au]
 have:s.sl.set d [.undef]=s.sl:=by
  apply List.ext_getElem?
  intro i
  rw[List.getElem?_set]
  by_cases e:d=i
  ·subst e
   by_cases aq:d<s.sl.length
   ·rw[if_pos rfl,if_pos aq,qt aq,h]
   ·rw[if_pos rfl,if_neg aq,List.getElem?_eq_none (by omega)]
  ·rw[if_neg e]
 rw[this]
theorem adq(s:State)(d:Nat):(s.au (some d) [.undef]).slot d=[.undef]:=by
 simp only[State.slot,State.au,List.getD_eq_getElem?_getD,List.getElem?_set]
 by_cases aq:d<s.sl.length
 ·simp [aq]
 ·simp [aq]
theorem ab4{C:ah}{ops:List Oper}{o:Oper}{t j:Nat}(ho:o.op= .extract (.tmp t) j){u:Out}(h:act E (C Out) ops o s some=some u):u.bx=none/\u.v.length=1:=by
 unfold act at h
 simp only[ho] at h
 split at h
 ·split at h
  ·cases h;exact⟨rfl,rfl⟩
  ·cases h
 ·split at h<;>cases h<;>exact⟨rfl,rfl⟩
theorem amk(hE:ap P E){C:ah}(hC:C.Nat)(hf:∀f,cV P C f){ops:Array Oper}{n k t j d:Nat}{oS oD:Oper}{s1 s':State}(H:GL E C ops n k t j d oS oD s1 s'){Q:Exit->Act->World->Prop}:
 ∀(cq:Nat) (listed:Array Bool) (X:ax) (s:State) (a:Act) (tr:List dQ),Rel X s a->tj ops listed->listed.size=n+1->listed.getD n true=false->cq=(rest n listed).length+1->n3 E C ops (rest n listed) s tr s1->tr.Pairwise (vD ops)->
  (∀Y a',Ext X Y->Rel Y s' a'->Q .normal a' Y.w)->wpAny P .any ops Q cq listed a X.w:=by
 have hgS:ops.getD n default=oS:=by
  have:=H.last
  simp only[Array.getD_eq_getD_getElem?,this,Option.getD_some]
 have hgD:ops.getD k default=oD:=by
  have:=H.I7
  simp only[Array.getD_eq_getD_getElem?,this,Option.getD_some]
 have lV:∀i,i<ops.size->Nat.ble (u6 ops i+1) (bit i)=true:=fun i hi=>by
  rcases Nat.lt_or_ge i n with h|h
  ·exact H.low i h
  ·have:i=n:=by have:=H.size;omega
   subst this
   unfold u6
   rw[hgS]
   exact H.Zu
 intro cq
 induction cq with
 |zero=>intro listed X s a tr hr ff hs hn nB;omega
 |succ cq ih=>
  intro listed X s a tr hr ff hs hn nB dJ vg hQ
  have hrs:rest ops.size listed=rest n listed++ [n]:=by rw[H.size,LK hs,if_neg (by rw[hn];simp)]
  refine⟨fun ig=> ?_,fun i hi=> ?_⟩
  ·have:=zvi lV (by rw[hs,H.size]) ig
   rw[hrs] at this
   simp at this
  ·obtain⟨Jz,qU⟩:=FZ hi
   have cE:=Jz
   rw[hrs] at cE
   rcases List.mem_append.1 cE with cE|cE
   ·obtain⟨p,q,xi⟩:=MO cE
    have dh:=List.mem_range.1 (List.mem_filter.1 cE).1
    rw[xi] at dJ
    have lX:=D8 dJ
    obtain⟨tp,f,tq,u,e1,e2,k1,k2,k3⟩:=zqt p s tr dJ (fun tp f tq e hl a' Ac=>by
     have tL:f.i=i:=by
      rw[e,List.map_append,List.map_cons] at lX
      have:=List.append_inj lX (by simp [hl])
      injection this.2
     have Yz:a'.i∈p:=by
      rw[e,List.map_append,List.map_cons] at lX
      have:=List.append_inj lX (by simp [hl])
      rw[<-this.1]
      exact List.mem_map.2 ⟨a',Ac,rfl⟩
     rw[e] at vg
     have tN:=(List.pairwise_append.1 vg).2.2 a' Ac f (by simp)
     rcases tN with hb|hb
     ·exfalso
      rw[tL] at hb
      obtain fw:=RQ ff _ _ (fun q hq=>by
       obtain⟨ed,xa,xb,Jl⟩:=Ed _ _ hq
       have:=qU ed xa xb
       rw[Jl] at this
       exact this) a'.i hb
      have bE:a'.i∈rest n listed:=by rw[xi];exact List.mem_append_left _ Yz
      have dP:=(List.mem_filter.1 bE).2
      have aq:=List.mem_range.1 (List.mem_filter.1 bE).1
      have fW:a'.i<listed.size:=by omega
      simp only[Array.getD_eq_getD_getElem?,Array.getElem?_eq_getElem fW,Option.getD_some] at fw dP
      rw[fw] at dP
      cases dP
     ·exact hb)
    have bE:=LJ (n:=n) (by omega) xi
    have YL:ops[i]? =some (ops.getD i default):=by
     have:i<ops.size:=by rw[H.size];omega
     simp [this]
    refine VB hE hr hC hf YL (zok hC k1) fun Y a' aZ bu=> ?_
    refine ih (listed.setIfInBounds i true) Y _ a' (tp++tq) bu (ML ff fun q hq=>by
     obtain⟨ed,g1,g2,g3⟩:=Ed _ _ hq
     have:=qU ed g1 g2
     rw[g3] at this
     exact this) (by simp [hs]) ?_ ?_ (by rw[bE];exact k3) ?_ (fun Z a2 cf cY=>hQ Z a2 (aZ.trans cf) cY)
    ·simp only[Array.getD_eq_getD_getElem?] at hn⊢
     rw[Array.getElem?_setIfInBounds_ne (by omega)]
     exact hn
    ·rw[bE]
     rw[xi] at nB
     simp only[List.length_append,List.length_cons] at nB⊢
     omega
    ·rw[e1] at vg
     obtain⟨a1,a2,a3⟩:=List.pairwise_append.1 vg
     exact List.pairwise_append.2 ⟨a1,(List.pairwise_cons.1 a2).2,fun x hx y hy=>a3 x hx y (List.mem_cons_of_mem _ hy)⟩
   ·have dh:i=n:=by simpa using cE
    subst dh
    have cQ:∀q∈rest i listed,q=k:=fun q hq=>by
     obtain⟨h1,h2⟩:=List.mem_filter.1 hq
     have hqn:=List.mem_range.1 h1
     by_cases e:q=k
     ·exact e
     ·exfalso
      have fw:=RQ ff _ _ (fun q hq=>by
       obtain⟨ed,xa,xb,Jl⟩:=Ed _ _ hq
       have:=qU ed (by rw[hgS];exact xa) xb
       rw[Jl] at this
       exact this) q (agy H.mask hqn e)
      have fW:q<listed.size:=by omega
      simp only[Array.getD_eq_getD_getElem?,Array.getElem?_eq_getElem fW,Option.getD_some] at fw h2
      rw[fw] at h2
      cases h2
    have nC:(rest i listed).Nodup:=List.nodup_range.filter _
    have bE:rest i listed=[]\/rest i listed=[k]:=by
     match hl:rest i listed,cQ,nC with
     | [],_,_=>exact .inl rfl
     | [q],cQ,_=>exact .inr (by rw[cQ q (by simp)])
     |q::q'::r,cQ,nC=>
      have h1:=cQ q (by simp)
      have h2:=cQ q' (by simp)
      have:=(List.nodup_cons.1 nC).1
      rw[h1,h2] at this
      simp at this
    have JH:Rel X (s1.au (some d) [.undef]) a/\(rest i listed=[k]->d≠t/\(s1.slot t).length=(s.slot t).length):=by
     rcases bE with bE|bE
     ·rw[bE] at dJ
      obtain⟨rfl,_⟩:=dJ
      exact⟨hr.kill d,fun e=>by rw[bE] at e;cases e⟩
     ·rw[bE] at dJ
      match tr,dJ with
      | [],dJ=>exact dJ.elim
      |f::tr,⟨u,h1,_,h3,_⟩=>
       rw[hgD] at h1 h3
       have Jj:oD.dst=some d/\oD.guard=none:=by
        have:=H.dst
        unfold isDst at this
        split at this
        ·rename_i d' h1 h2
         exact⟨by rw[h1,Nat.eq_of_beq_eq_true this],h2⟩
        ·cases this
       unfold eH at h1
       rw[Jj.2] at h1
       obtain⟨hbx,hvl⟩:=ab4 H.ext h1
       rw[Jj.1] at h3
       have e:s1=(s.close u.cl).au (some d) u.v:=by
        rw[<-h3]
        unfold State.apply
        rw[hbx]
        rfl
       have Jk:d≠t:=fun e2=>by
        have h5:=H.tup
        have h6:=H.len
        rw[e,e2] at h5 h6
        simp only[State.slot,State.au,List.getD_eq_getElem?_getD,List.getElem?_set] at h5 h6
        by_cases aq:t<(s.close u.cl).sl.length
        ·simp [aq] at h5
         omega
        ·simp [aq] at h5
       refine⟨?_,fun _=>⟨Jk,?_⟩⟩
       ·have e3:s1.au (some d) [.undef]=(s.close u.cl).au (some d) [.undef]:=by
         rw[e]
         simp only[State.au,List.set_set]
        rw[e3]
        exact(hr.close u.cl).kill d
       ·rw[e,<-adp u.cl s t]
        simp only[State.slot,State.au,List.getD_eq_getElem?_getD,List.getElem?_set]
        rw[if_neg Jk]
    obtain⟨cY,Jt⟩:=JH
    obtain⟨kZ,Zg,Z,aV,aZ,Ap⟩:=ajL hE cY H.link
    have hud:=Zg d (adq s1 d)
    unfold wpOp
    simp only[H.last]
    have hw:Region.wanted oS (yielded ops a.tmps)=true:=by simp [Region.wanted,kZ.2]
    rw[if_pos hw]
    refine .inl ?_
    unfold Oper.wp
    rw[aV,Oper.upon_skip,kZ.1]
    show wpAny P .any ops Q cq (listed.setIfInBounds i true) a Z.w
    have Cc:(listed.setIfInBounds i true).size=i+1:=by simpa using hs
    have fg:(listed.setIfInBounds i true).getD i true=true:=by
     have:i<listed.size:=by omega
     simp [Array.getD_eq_getD_getElem?,this]
    have xj:rest ops.size (listed.setIfInBounds i true)=rest i listed:=by
     rw[H.size,LK Cc,if_pos fg,List.append_nil,adh (Nat.le_refl _)]
    rcases bE with bE|bE
    ·have:cq=0:=by rw[bE] at nB;simpa using nB
     subst this
     refine⟨?_,hQ Z a aZ Ap⟩
     rcases JI:Region.ready .any ops (listed.setIfInBounds i true) with _|⟨q,r⟩
     ·rfl
     ·have:=(FZ (i:=q) (by rw[JI];simp)).1
      rw[xj,bE] at this
      cases this
    ·have:cq=1:=by rw[bE] at nB;simpa using nB
     subst this
     refine⟨fun ig=> ?_,fun q hq=> ?_⟩
     ·have:=zvi lV (by rw[Cc,H.size]) ig
      rw[xj,bE] at this
      cases this
     ·have Rl:=(FZ hq).1
      rw[xj,bE] at Rl
      have Rl:q=k:=by simpa using Rl
      subst Rl
      obtain⟨Jk,hlen⟩:=Jt bE
      have Jj:oD.dst=some d/\oD.guard=none:=by
       have:=H.dst
       unfold isDst at this
       split at this
       ·rename_i d' h1 h2
        exact⟨by rw[h1,Nat.eq_of_beq_eq_true this],h2⟩
       ·cases this
      have Cd:∃vs:Array Value,a.tmps.getD t Go.undef= .tuple vs/\vs.size=(s.slot t).length:=by
       have ii:=hr.slot t
       have h5:=H.tup
       rw[hlen] at h5
       match hq:s.slot t,ii,h5 with
       | [],⟨vs,g1,g2,_⟩,_=>exact⟨vs,g1,by rw[g2]⟩
       | [x],_,h5=>simp at h5
       |x::y::r,⟨vs,g1,g2,_⟩,_=>exact⟨vs,g1,by rw[g2]⟩
      obtain⟨vs,hv,xk⟩:=Cd
      have tP:j<vs.size:=by rw[xk,<-hlen];exact H.len
      have JN:=ab5 (P:=P) H.ext hv (Array.getElem?_eq_getElem tP) Z.w
      unfold wpOp
      simp only[H.I7]
      have hw:Region.wanted oD (yielded ops a.tmps)=true:=by simp [Region.wanted,Jj.2]
      rw[if_pos hw]
      refine .inl ?_
      unfold Oper.wp
      rw[JN,Oper.upon_value,Jj.1]
      have BR:Rel Z s' (a.put (some d) vs[j]):=by
       have:=Ap.dead d vs[j]
       rw[Ref.dead,afK hud] at this
       exact this
      refine⟨?_,hQ Z _ aZ BR⟩
      have hkn:=H.kn
      have Y9:rest ops.size ((listed.setIfInBounds i true).setIfInBounds q true)=[]:=by
       have:=LJ (n:=ops.size) (listed:=listed.setIfInBounds i true) (i:=q) (p:=[]) (q:=[]) (by rw[Cc,H.size];exact Nat.le_refl _) (by rw[xj,bE];rfl)
       simpa using this
      rcases JI:Region.ready .any ops ((listed.setIfInBounds i true).setIfInBounds q true) with _|⟨z,r⟩
      ·rfl
      ·have:=(FZ (i:=z) (by rw[JI];simp)).1
       rw[Y9] at this
       cases this
theorem af9(hE:ap P E)(hm:P.follows .mixedOrders=true){C:ah}(hC:C.Nat)(hf:∀f,cV P C f){X0:ax}(hx:Ext X0 X)(hr:Rel X s a){id k:Nat}{ops:Array Oper}{s':State}(h:qZ E (C State) k ops.toList s some=some s'){Q:Exit->Act->World->Prop}(hQ:∀Y a',Ext X0 Y->Rel Y s' a'->Q .normal a' Y.w):(Code.region id ops true).wp P Q a X.w:=by
 unfold qZ at h
 split at h
 case h_2=>cases h
 rename_i l oS hl
 split at h
 case h_2=>cases h
 rename_i oD hoD
 split at h
 case h_2=>cases h
 rename_i t j d aZ aom
 cases fx:(isDst oD d&&(Nat.ble (k+1) l.length&&(Nat.ble (zx oS.after.toList+1) (bit l.length)&&Nat.beq (je ops.toList l.length (zx oS.after.toList)|||bit k) (bit l.length-1)))) with
 |false=>rw[fx] at h;cases h
 |true=>
 rw[fx,cond_true] at h
 simp only[Bool.and_eq_true] at fx
 obtain⟨hd,YN,Jy,tV⟩:=fx
 have YN:k<l.length:=Nat.le_of_ble_eq_true YN
 have tV:=Nat.eq_of_beq_eq_true tV
 obtain⟨s1,h1,h2⟩:=jD (OX hC (F:=fun s=>bif Nat.ble (j+1) (s.slot t).length&& !(Nat.beq (s.slot t).length 1) then ka E oS (s.au (some d) [.undef]) some else none) (G:=some) (K:=fun s=>bif Nat.ble (j+1) (s.slot t).length&& !(Nat.beq (s.slot t).length 1) then ka E oS (s.au (some d) [.undef]) some else none) (fun _=>rfl) l 0 s []) h
 cases hlen:(Nat.ble (j+1) (s1.slot t).length&& !(Nat.beq (s1.slot t).length 1)) with
 |false=>simp only[hlen] at h2;cases h2
 |true=>
 simp only[hlen,cond_true] at h2
 rw[Bool.and_eq_true] at hlen
 have gP:=zvc hl
 have b6:ops.size=l.length+1:=by rw[<-Array.length_toList,gP];simp
 have m3:ops[l.length]? =some oS:=by rw[<-Array.getElem?_toList,gP,List.getElem?_append_right (Nat.le_refl _),Nat.sub_self];rfl
 have kD:(List.range l.length).map (fun i=>ops.getD i default)=l:=by
  apply List.ext_getElem?
  intro i
  rw[List.getElem?_map]
  by_cases hi:i<l.length
  ·have h3:ops[i]? =l[i]? :=by rw[<-Array.getElem?_toList,gP,List.getElem?_append_left hi]
   have h4:i<ops.size:=by omega
   rw[List.getElem?_range hi,<-h3]
   simp [h4]
  ·rw[List.getElem?_eq_none (by simpa using hi),List.getElem?_eq_none (by omega)];rfl
 obtain⟨xH,r1,_,r3,r4⟩:=zar hC (List.range l.length) 0 s [] (fun j k hj=>by
  obtain⟨g1,g2⟩:=List.getElem?_eq_some_iff.1 hj
  simp at g2
  omega) (by rw[kD];exact h1)
 have H:GL E C ops l.length k t j d oS oD s1 s':=⟨b6,m3,by rw[<-Array.getElem?_toList];exact hoD,YN,aZ,hd,Jy,tV,fun i hi=>r4 i (List.mem_range.2 hi),Nat.le_of_ble_eq_true hlen.1,fun e=>by rw[e] at hlen;simp at hlen,h2⟩
 have hk:eJ s X {X with w:={X.w with drawn:=X.w.drawn+1}}:=⟨Nat.le_refl _,rfl,rfl,rfl,fun g _=>⟨rfl,rfl⟩,rfl,fun _ _ _=>rfl⟩
 have bE:rest l.length (Array.replicate ops.size false)=List.range l.length:=by
  refine List.filter_eq_self.2 fun i hi=> ?_
  have:=List.mem_range.1 hi
  have h2:i<ops.size:=by omega
  simp [h2]
 refine wp_region_any hm ?_
 have nB:ops.size=(rest l.length (Array.replicate ops.size false)).length+1:=by rw[bE,b6];simp
 exact amk hE hC hf H ops.size (Array.replicate ops.size false) _ s a xH (hr.dm hk) (fun i hi=>by
  by_cases h:i<ops.size<;>simp [h] at hi) (by simp [b6]) (by simp [b6]) nB (by rw[bE];exact r1) r3 (fun Y a' aZ bu=>hQ Y a' (hx.trans (hk.ext.trans aZ)) bu)
end Go.Ref

namespace Go.Ref
open Go
variable {P:Program} {E:Env} {X:ax} {s:State} {a:Act}
def Ex.exit':Ex->Exit
 | .normal=> .normal
 | .exit id=> .exit id
 | .ret=> .ret
theorem ag8{Q:Exit->Act->World->Prop}{c:Code}(I:Nat->Act->World->Prop)(round:∀n a w,I n a w->∃m,n=m+1/\c.wp P (Exit.then (I m) Q) a w){n:Nat}{a:Act}{w:World}(h₀:I n a w):(Code.loop c).wp P Q a w:=by
 intro b k cs
 have key:∀n a w,I n a w->∃e a' w',Q e a' w'/\Arrives P (lone (b.at a (.code c:: .inLoop c::k)) cs w) b k cs e a' w':=by
  intro n
  induction n with
  |zero=>intro a w h;obtain⟨m,hm,_⟩:=round 0 a w h;cases hm
  |succ n ih=>
   intro a w h
   obtain⟨m,hm,hr⟩:=round (n+1) a w h
   cases hm
   obtain⟨e,a₁,w₁,hq,mW⟩:=hr b (.inLoop c::k) cs
   cases e with
   |normal=>
    obtain⟨e₂,a₂,w₂,hq₂,harr₂⟩:=ih a₁ w₁ hq
    exact⟨e₂,a₂,w₂,hq₂,.of_steps (Steps.trans mW (.one step_inLoop)) harr₂⟩
   |exit id=>exact⟨_,a₁,w₁,hq,.pass (x:= .inLoop c) rfl (fun _ _=> .inl (by simp)) mW⟩
   |goto l=>exact⟨_,a₁,w₁,hq,.pass (x:= .inLoop c) rfl (fun _ _=> .inl (by simp)) mW⟩
   |ret=>exact⟨_,a₁,w₁,hq,.pass (x:= .inLoop c) rfl (fun _ _=> .inl (by simp)) mW⟩
   |panic ch=>exact⟨_,a₁,w₁,hq,.pass (x:= .inLoop c) rfl (fun _ _=> .inl (by simp)) mW⟩
   |outgrown=>exact⟨_,a₁,w₁,hq,.pass (x:= .inLoop c) rfl (fun _ _=> .inl (by simp)) mW⟩
 obtain⟨e,a',w',hq,mW⟩:=key n a w h₀
 exact⟨e,a',w',hq,.of_steps (.one step_loop) mW⟩
theorem Ej{α:Type}(z:α)(l:List Nat):∀(xs:List α) (i j:Nat),(fY z l i xs)[j]? =(xs[j]?).map fun x=>bif l.any (Nat.beq (i+j)) then x else z
 | [],i,j=>by simp [fY]
 |x::r,i,0=>by simp [fY]
 |x::r,i,j+1=>by
  simp only[fY,List.getElem?_cons_succ]
  rw[Ej z l r (i+1) j,show i+1+j=i+(j+1) by omega]
theorem zi5{α:Type}(z:α)(l:List Nat):∀(xs:List α) (i:Nat),(fY z l i xs).length=xs.length
 | [],i=>rfl
 |x::r,i=>by simp [fY,zi5 z l r]
theorem MA{p q:List Nat}:∀{l:List (List Nat)},q∈ui p l->q=p\/q∈l
 | [],h=>by simp [ui] at h;exact .inl h
 |r::l,h=>by
  simp only[ui] at h
  cases hl:Zv r p with
  |false=>rw[hl] at h;simpa using h
  |true=>
   rw[hl] at h
   rcases List.mem_cons.1 h with h|h
   ·exact .inr (by simp [h])
   ·rcases MA h with h|h
    ·exact .inl h
    ·exact .inr (List.mem_cons_of_mem _ h)
theorem Se{q:List Nat}:∀{l:List (List Nat)},q∈nm l->q∈l
 | [],h=>h
 |p::l,h=>by
  rcases MA h with h|h
  ·simp [h]
  ·exact List.mem_cons_of_mem _ (Se h)
theorem ajW{v:SV}{id:Nat}{t:Ty}{p:List Nat}(h:v.norm= .ptr id t p):v= .ptr id t p:=by
 cases v<;>simp [SV.norm] at h
 obtain⟨h1,h2,h3⟩:=h
 rw[h1,h2,h3]
theorem aA.norm{pl:List Nat->Place}{sv:SV}{v:Value}(hr:aA X pl sv v):aA X pl sv.norm v:=by
 cases sv with
 |aj t x own=>
  obtain⟨cs,h1,h2,h3⟩:=hr
  exact⟨cs,h1,h2,fun p hp=>h3 p (Se hp)⟩
 |_=>exact hr
theorem cL.norm{pl:Nat->List Nat->Place}{l:List SV}{v:Value}(hr:cL X pl l v):cL X pl (l.map SV.norm) v:=by
 match l,hr with
 | [s],hr=>exact aA.norm hr
 | [],hr=>exact hr
 |x::y::r,⟨vs,h1,h2,h3⟩=>
  refine⟨vs,h1,by simpa using h2,fun j s u hs hu=> ?_⟩
  have hs:((x::y::r).map SV.norm)[j]? =some s:=hs
  rw[List.getElem?_map] at hs
  obtain⟨s0,eX,rfl⟩:=Option.map_eq_some_iff.1 hs
  exact aA.norm (h3 j s0 u eX hu)
theorem dp.less{r:Nat}{pl:List Nat->Place}{t:Ty}{x:El t}{own ju:List (List Nat)}(ho:∀p∈ju,p∈own)(h:dp X r pl t x own):dp X r pl t x ju:=by
 unfold dp at h⊢
 split at h
 ·exact h
 ·exact h
 ·exact h
 ·exact⟨h.1,fun hm=>h.2 (ho [] hm)⟩
 ·exact⟨h.1,fun hp=>h.2 fun p hm=>ho p (hp p hm)⟩
 ·exact h.elim
 ·obtain⟨cs,T,h1,h2,h3⟩:=h
  exact⟨cs,T,h1,h2,fun p hp=>h3 p (ho p hp)⟩
theorem Rel.norm(hr:Rel X s a):Rel X s.norm a where
 size:=by simpa [State.norm] using hr.size
 gB:=by simpa [State.norm] using hr.gB
 bP:=fun i l v hl hv=>by
  simp only[State.norm,List.getElem?_map] at hl
  obtain⟨l0,h0,rfl⟩:=Option.map_eq_some_iff.1 hl
  exact cL.norm (hr.bP i l0 v h0 hv)
 boxes:=fun id B hB=>by
  simp only[State.norm,List.getElem?_map] at hB
  obtain⟨b0,h0,h1⟩:=Option.map_eq_some_iff.1 hB
  obtain⟨B0,rfl,rfl⟩:=Option.map_eq_some_iff.1 h1
  obtain⟨r,g1,g2,g3⟩:=hr.boxes id B0 h0
  exact⟨r,g1,g2,g3.less fun p hp=>Se hp⟩
 live:=fun i l id t p hl hm=>by
  simp only[State.norm,List.getElem?_map] at hl
  obtain⟨l0,h0,rfl⟩:=Option.map_eq_some_iff.1 hl
  obtain⟨v0,Rp,he⟩:=List.mem_map.1 hm
  rw[ajW he] at Rp
  obtain⟨B,hB⟩:=hr.live i l0 id t p h0 Rp
  exact⟨B.norm,by simp [State.norm,hB]⟩
 defers:=hr.defers
 bz:=hr.bz.less (fun i l id b c j hl hm=>by
  simp only[State.norm,List.getElem?_map] at hl
  obtain⟨l0,h0,rfl⟩:=Option.map_eq_some_iff.1 hl
  obtain⟨v0,Rp,he⟩:=List.mem_map.1 hm
  have:v0= .bz id b c j:=by cases v0<;>simp [SV.norm] at he;rw[he.1,he.2.1,he.2.2.1,he.2.2.2]
  subst this
  exact⟨l0,h0,Rp,fun e=>by rw[e];rfl⟩) (fun id b c x own _ hb ho=>⟨x,nm own,by simp [State.norm,hb,bB.norm],fun hm=>ho (Se hm)⟩)
theorem OT(hr:Rel X s a){l:List Nat}{R:Type}{K:State->Option R}{z:R}(h:rG l s K=some z):∃s',K s'=some z/\Rel X s' a:=by
 unfold rG at h
 simp only at h
 cases hb:(fY [.undef] l 0 s.sl).all (fun v=>v.all (SV.roots l)) with
 |false=>rw[hb] at h;cases h
 |true=>
  rw[hb] at h
  refine⟨_,h,Rel.norm ?_⟩
  have iT:s.bs=s.bs.headD none::s.bs.tail:=by
   have:=hr.gB
   cases hs:s.bs with
   |nil=>rw[hs] at this;simp at this
   |cons b r=>rfl
  have cB:∀(id:Nat) B,(s.bs.headD none::fY none l 0 s.bs.tail)[id]? =some (some B)->s.bs[id]? =some (some B):=by
   intro id B hB
   rw[iT]
   cases id with
   |zero=>exact hB
   |succ id=>
    simp only[List.getElem?_cons_succ] at hB⊢
    rw[Ej] at hB
    obtain⟨x,hx,he⟩:=Option.map_eq_some_iff.1 hB
    rw[hx]
    cases hl:l.any (Nat.beq (0+id))<;>rw[hl] at he
    ·cases he
    ·rw[<-he];rfl
  refine⟨by rw[zi5];exact hr.size,?_,fun i v x hv hx=> ?_,fun id B hB=>hr.boxes id B (cB id B hB),fun i v id t p hv hm=> ?_,hr.defers,hr.bz.less (fun i v id c d j hv hm=> ?_) (fun id c d x own hex nz ho=> ?_)⟩
  ·simp only[List.length_cons,zi5,List.length_tail]
   have:=hr.gB
   omega
  ·rw[Ej] at hv
   obtain⟨y,hy,rfl⟩:=Option.map_eq_some_iff.1 hv
   cases hl:l.any (Nat.beq (0+i)) with
   |false=>trivial
   |true=>exact hr.bP i y x hy hx
  ·have uc:SV.roots l (.ptr id t p)=true:=by
    have:=List.all_eq_true.1 hb v (List.mem_of_getElem? hv)
    exact List.all_eq_true.1 this _ hm
   rw[Ej] at hv
   obtain⟨y,hy,he⟩:=Option.map_eq_some_iff.1 hv
   have rP:SV.ptr id t p∈y:=by
    cases hl:l.any (Nat.beq (0+i)) with
    |false=>rw[hl] at he;subst he;simp at hm
    |true=>rw[hl] at he;subst he;exact hm
   obtain⟨B,hB⟩:=hr.live i y id t p hy rP
   refine⟨B,?_⟩
   rw[iT] at hB
   cases id with
   |zero=>exact hB
   |succ id=>
    simp only[List.getElem?_cons_succ] at hB⊢
    rw[Ej,hB]
    have:l.any (Nat.beq id)=true:=uc
    have h2:l.any (Nat.beq (0+id))=true:=by rw[Nat.zero_add];exact this
    simp [this]
  ·rw[Ej] at hv
   obtain⟨y,hy,he⟩:=Option.map_eq_some_iff.1 hv
   cases hl:l.any (Nat.beq (0+i)) with
   |false=>rw[hl] at he;subst he;simp at hm
   |true=>rw[hl] at he;subst he;exact⟨y,hy,hm,fun h=>h⟩
  ·obtain⟨i,v,j,hv,hm⟩:=hex
   have uc:SV.roots l (.bz id c d j)=true:=by
    have:=List.all_eq_true.1 hb v (List.mem_of_getElem? hv)
    exact List.all_eq_true.1 this _ hm
   refine⟨x,own,?_,ho⟩
   rw[iT] at nz
   cases id with
   |zero=>exact nz
   |succ id=>
    simp only[List.getElem?_cons_succ] at nz⊢
    rw[Ej,nz]
    have:l.any (Nat.beq id)=true:=uc
    have h2:l.any (Nat.beq (0+id))=true:=by rw[Nat.zero_add];exact this
    simp [this]
def ax.still(X:ax)(r n:Nat):ax:={X with ow:=fun g=>if g=r then .ro n else X.ow g}
theorem xM{r n id:Nat}(h:X.ow r= .box id){ad:Addr}{v:Value}(hs:X.az ad v):(X.still r n).az ad v:=by
 have bI:ad.block≠r:=fun e=>by
  have:=hs.2.2
  rw[e,h] at this
  exact this
 refine⟨hs.1,hs.2.1,?_⟩
 simp only[ax.still]
 rw[if_neg bI]
 exact hs.2.2
theorem LO{r n id:Nat}(h:X.ow r= .box id):Ext X (X.still r n) where
 az:=fun _ _=>xM h
 size:=Nat.le_refl _
 os:=rfl
 tape:=rfl
 output:=rfl
 β0:=rfl
 still:=fun g _ bS=>by
  have bI:g≠r:=fun e=>by rw[e,h] at bS;exact bS
  exact⟨by simp only[ax.still];rw[if_neg bI],rfl⟩
theorem bp.eI{r n id:Nat}(h:X.ow r= .box id){pl:Place}{e:TypeId}{k m:Nat}{v:Value}(ho:bp X pl e k m v):bp (X.still r n) pl e k m v:=by
 rcases ho with ho|⟨g,cap,cur,h1,h2,h3,h4,h5,h6⟩
 ·exact .inl ho
 ·have bI:g≠r:=fun e=>by rw[e,h] at h6;cases h6
  exact .inr ⟨g,cap,cur,h1,h2,h3,h4,h5,by simp only[ax.still];rw[if_neg bI];exact h6⟩
theorem bk.eI{r n id:Nat}(h:X.ow r= .box id){pl:List Nat->Place}{t:Ty}{x:El t}{c:List Value}{own:List (List Nat)}(ho:bk X pl t x c own):bk (X.still r n) pl t x c own:=fun p hp=>by
 obtain⟨e,t',xs,v,g0,g1,g2,g3⟩:=ho p hp
 exact⟨e,t',xs,v,g0,g1,g2,g3.eI h⟩
theorem aA.eI{r n id:Nat}(h:X.ow r= .box id){pl:List Nat->Place}{sv:SV}{v:Value}(hk:∀bc c d j,sv= .bz bc c d j->bc≠id)(hr:aA X pl sv v):aA (X.still r n) pl sv v:=by
 cases sv with
 |aj t x own=>
  obtain⟨c,h1,h2,h3⟩:=hr
  exact⟨c,h1.ai (fun _ _=>xM h),h2,h3.eI h⟩
 |view t x=>
  obtain⟨ad,c,h1,h2,h3,h4⟩:=hr
  exact⟨ad,c,h1,h2,h3.ai (fun _ _=>xM h),fun i u hi=>xM h (h4 i u hi)⟩
 |cap f t x u y=>exact rC (fun _ _=>xM h) hr
 |bz bc c d j=>
  obtain⟨r',h1,h2,h3⟩:=hr
  have bI:r'≠r:=fun e=>by rw[e,h] at h2;injection h2 with h2;exact hk bc c d j rfl h2.symm
  exact⟨r',h1,by simp only[ax.still];rw[if_neg bI];exact h2,h3⟩
 |_=>exact hr
theorem R9(l:List Nat):∀(xs:List (Option bB)) (i j:Nat),(iS l i xs)[j]? =(xs[j]?).map fun b=>bif l.any (Nat.beq (i+j)) then b.map (fun B=>{B with own:=[]}) else b
 | [],i,j=>by simp [iS]
 |x::r,i,0=>by simp [iS]
 |x::r,i,j+1=>by
  simp only[iS,List.getElem?_cons_succ]
  rw[R9 l r (i+1) j,show i+1+j=i+(j+1) by omega]
theorem KZ(l:List Nat):∀(xs:List (Option bB)) (i:Nat),(iS l i xs).length=xs.length
 | [],i=>rfl
 |x::r,i=>by simp [iS,KZ l r]
theorem Rel.drop(hr:Rel X s a)(l:List Nat):Rel X (s.drop l) a where
 size:=hr.size
 gB:=by simp only[State.drop,KZ];exact hr.gB
 bP:=hr.bP
 boxes:=fun id B hB=>by
  simp only[State.drop,R9] at hB
  obtain⟨b0,h0,h1⟩:=Option.map_eq_some_iff.1 hB
  cases hl:l.any (Nat.beq (0+id)) with
  |false=>rw[hl] at h1;simp only[cond_false] at h1;subst h1;exact hr.boxes id B h0
  |true=>
   rw[hl] at h1
   simp only[cond_true] at h1
   obtain⟨B0,rfl,rfl⟩:=Option.map_eq_some_iff.1 h1
   obtain⟨r,g1,g2,g3⟩:=hr.boxes id B0 h0
   exact⟨r,g1,g2,g3.less fun p hp=>by cases hp⟩
 live:=fun i v id t p hv hm=>by
  obtain⟨B,hB⟩:=hr.live i v id t p hv hm
  simp only[State.drop,R9,hB,Option.map_some]
  cases l.any (Nat.beq (0+id))<;>exact⟨_,rfl⟩
 defers:=hr.defers
 bz:=hr.bz.less (fun i l id c d j hl hm=>⟨l,hl,hm,fun h=>h⟩) (fun id c d x own _ hb ho=>by
  simp only[State.drop,R9,hb,Option.map_some]
  cases l.any (Nat.beq (0+id)) with
  |false=>exact⟨x,own,rfl,ho⟩
  |true=>exact⟨x,[],rfl,by simp⟩)
theorem akd(hr:Rel X s a){r:Nat}{R:Type}{K:State->Option R}{z:R}(h:rj E r s K=some z):∃Y s',Y.w=X.w/\Ext X Y/\K s'=some z/\Rel Y s' a:=by
 unfold rj at h
 split at h
 ·exact⟨X,s,rfl,Ext.refl X,h,hr⟩
 rename_i d T hfz
 split at h
 case h_2=>cases h
 rename_i id n ta tb e t ii hT
 split at h
 case isFalse=>cases h
 rename_i heq
 have:=Ty.aI heq
 subst this
 split at h
 case h_2=>cases h
 rename_i B hB
 split at h
 case isFalse=>cases h
 rename_i dg
 obtain⟨hb,rr,h1,how,cs,T',aD,dx,fH⟩:=EU hr hB dg
 generalize(Ty.cast dg B.x:List (El ta))=xs at*
 cases hn:Nat.beq n (List.length xs) with
 |false=>rw[hn] at h;cases h
 |true=>
  rw[hn] at h
  have hn:=Nat.eq_of_beq_eq_true hn
  have hd:d<s.sl.length:=by
   rcases Nat.lt_or_ge d s.sl.length with h1|h1
   ·exact h1
   ·simp [State.slot,List.getElem?_eq_none h1] at ii
  have eb:=hr.slot d
  rw[ii] at eb
  obtain⟨r0,hβ,cap,hv,mZ⟩:=(show aA X (.c d 0) (.ptr id (.aJ (.iG n) ta tb) []) _ from eb)
  rw[h1] at hβ
  cases hβ
  have aq:id<s.bs.length:=(List.getElem?_eq_some_iff.1 hb).1
  have nD:=hr.om hb (.inl (by rw[Ty.aI dg];rfl))
  refine⟨X.still rr (xs.length*ta.cells),_,rfl,LO how,h,?_,?_,fun i l v hl hx=> ?_,fun bc B' er=> ?_,fun i l j t p hl hm=> ?_,hr.defers,hr.bz.less (fun i l qX c2 d2 j hl hm=> ?_) (fun qX c2 d2 x2 kg hex lT ho=> ?_)⟩
  ·simpa using hr.size
  ·simpa using hr.gB
  ·replace hl:((s.sl.map (lR id)).set d [.aj (.sl e ta) xs []])[i]? =some l:=hl
   rw[List.getElem?_set] at hl
   split at hl
   ·rename_i tJ
    subst tJ
    rw[if_pos (by simpa using hd)] at hl
    cases hl
    have JU:a.tmps.getD d Go.undef=v:=by
     rw[Array.getD_eq_getD_getElem?,hx];rfl
    rw[JU] at hv
    refine⟨[v],?_,rfl,mu⟩
    rw[hv,hn]
    refine bg.xD rfl (by omega) (fun j y hj=>⟨⟨rr,0,none⟩,_,rfl,rfl,(fH j y hj).ai (fun _ _=>xM how),fun i u hi=> ?_⟩)
    have tP:=(List.getElem?_eq_some_iff.1 hj).1
    have hle:(j+1)*ta.cells<=xs.length*ta.cells:=Nat.mul_le_mul_right _ tP
    rw[Nat.add_mul,Nat.one_mul] at hle
    rw[List.getElem?_take] at hi
    split at hi
    case isFalse=>cases hi
    rename_i Rh
    rw[List.getElem?_drop] at hi
    refine⟨AX rfl _,?_,?_⟩
    ·rw[iC,Nat.zero_add]
     show X.w.cell? _=_
     simp only[World.cell?,aD]
     simpa using hi
    ·rw[iC,Nat.zero_add]
     show Ow.used (if rr=rr then .ro (xs.length*ta.cells) else X.ow rr) _
     rw[if_pos rfl]
     show j*ta.cells+i<_
     omega
   ·rw[List.getElem?_map] at hl
    obtain⟨l0,h0,rfl⟩:=Option.map_eq_some_iff.1 hl
    exact Me ((hr.bP i l0 v h0 hx).iJ fun j sv u hm jz=>jz.eI how (fun bc c d k e e2=>nD i l0 c d k h0 (e2▸e▸List.mem_of_getElem? hm)))
  ·replace er:(s.bs.set id none)[bc]? =some (some B'):=er
   rw[List.getElem?_set] at er
   split at er
   ·rename_i Jq
    cases er
   ·rename_i Jq
    obtain⟨r',g1,g2,g3⟩:=hr.boxes bc B' er
    have bI:r'≠rr:=fun e2=>by rw[e2,how] at g2;cases g2;exact Jq rfl
    exact⟨r',g1,by simp only[ax.still];rw[if_neg bI];exact g2,g3.move (fun _ _=>xM how) rfl (fun cs h5=>h5.eI how) fun _ _ g o _ ho hw=>⟨ho,by simp only[ax.still];rw[if_neg (fun e3=>by rw[e3,how] at hw;cases hw)];exact hw⟩⟩
  ·replace hl:((s.sl.map (lR id)).set d [.aj (.sl e ta) xs []])[i]? =some l:=hl
   rw[List.getElem?_set] at hl
   split at hl
   ·rw[if_pos (by simpa using hd)] at hl
    cases hl
    simp at hm
   ·rw[List.getElem?_map] at hl
    obtain⟨l0,h0,rfl⟩:=Option.map_eq_some_iff.1 hl
    obtain⟨hm,bI⟩:=Ny hm
    obtain⟨B2,cT⟩:=hr.live i l0 j t p h0 hm
    exact⟨B2,by show(s.bs.set id none)[j]? =_;rw[List.getElem?_set,if_neg (fun e=>bI e.symm)];exact cT⟩
  ·replace hl:((s.sl.map (lR id)).set d [.aj (.sl e ta) xs []])[i]? =some l:=hl
   rw[List.getElem?_set] at hl
   split at hl
   ·rw[if_pos (by simpa using hd)] at hl
    cases hl
    simp at hm
   ·rw[List.getElem?_map] at hl
    obtain⟨l0,h0,rfl⟩:=Option.map_eq_some_iff.1 hl
    obtain⟨g1,g2⟩:=CP hm
    exact⟨l0,h0,g1,g2⟩
  ·refine⟨x2,kg,?_,ho⟩
   show(s.bs.set id none)[qX]? =_
   rw[List.getElem?_set,if_neg (fun e=> ?_)]
   ·exact lT
   ·subst e
    rw[hb] at lT
    cases lT
    cases(Ty.aI dg)
theorem LV(hr:Rel X s a){id rr:Nat}{B:bB}(hb:s.bs[id]? =some (some B))(hs:B.t.bF=false)(h1:X.β id=some rr)(how:X.ow rr= .box id){cs:Array Value}{T:TypeId}(aD:X.w.heap[rr]? =some (.cells cs T (0,0)))(aL:bg X B.t B.x cs.toList){pl:List Nat->Place}{sv:SV}{v:Value}(hk:∀bc c d j,sv= .bz bc c d j->bc≠id)(h:aA X pl sv v):aA (X.still rr cs.size) pl (rJ id B sv) v:=by
 have dm:=h.eI (n:=cs.size) how hk
 cases sv with
 |ptr j t p=>
  unfold rJ
  simp only
  cases hj:Nat.beq j id with
  |false=>exact dm
  |true=>
   have:=Nat.eq_of_beq_eq_true hj
   subst this
   simp only[cond_true]
   split
   case isFalse=>trivial
   rename_i heq
   have:=Ty.aI heq
   subst this
   split
   case h_2=>trivial
   rename_i u y cB
   obtain⟨r0,hβ,hv⟩:=h
   rw[h1] at hβ
   cases hβ
   obtain⟨hv,dh⟩:=(qq hs).1 hv
   obtain⟨k1,k2,k3⟩:=P7 aL dh cB
   refine⟨_,_,hv,rfl,k3.ai (fun _ _=>xM how),fun i w hi=>⟨AX rfl _,?_,?_⟩⟩
   ·exact Ss aD hi
   ·rw[iC]
    show Ow.used (if rr=rr then .ro cs.size else X.ow rr) _
    rw[if_pos rfl]
    rw[List.getElem?_take] at hi
    split at hi
    case isFalse=>cases hi
    rw[List.getElem?_drop] at hi
    have:=(List.getElem?_eq_some_iff.1 hi).1
    show _<cs.size
    simpa using this
 |_=>exact dm
theorem ag4(hr:Rel X s a){id rr:Nat}{B:bB}(hb:s.bs[id]? =some (some B))(hs:B.t.bF=false)(h1:X.β id=some rr)(how:X.ow rr= .box id){cs:Array Value}{T:TypeId}(aD:X.w.heap[rr]? =some (.cells cs T (0,0)))(aL:bg X B.t B.x cs.toList){pl:Nat->List Nat->Place}{l:List SV}{v:Value}(hk:∀bc c d j,SV.bz bc c d j∈l->bc≠id)(h:cL X pl l v):cL (X.still rr cs.size) pl (l.map (rJ id B)) v:=by
 match l,h with
 | [sv],h=>exact LV hr hb hs h1 how aD aL (fun bc c d j e=>hk bc c d j (by simp [e])) h
 | [],⟨vs,g1,g2,g3⟩=>exact⟨vs,g1,g2,fun j sv u lW=>by simp at lW⟩
 |x::y::r,⟨vs,g1,g2,g3⟩=>
  refine⟨vs,g1,by simpa using g2,fun j sv u lW hu=> ?_⟩
  have lW:((x::y::r).map (rJ id B))[j]? =some sv:=lW
  rw[List.getElem?_map] at lW
  obtain⟨s0,eX,rfl⟩:=Option.map_eq_some_iff.1 lW
  exact LV hr hb hs h1 how aD aL (fun bc c d j e=>hk bc c d j (e▸List.mem_of_getElem? eX)) (g3 j s0 u eX hu)
theorem aki{id:Nat}{B:bB}{l:List SV}{j:Nat}{t:Ty}{p:List Nat}(h:SV.ptr j t p∈l.map (rJ id B)):SV.ptr j t p∈l/\j≠id:=by
 obtain⟨s0,eX,he⟩:=List.mem_map.1 h
 unfold rJ at he
 cases s0 with
 |ptr j' t' p'=>
  simp only at he
  cases hb:Nat.beq j' id with
  |true=>
   rw[hb] at he
   simp only[cond_true] at he
   split at he
   ·split at he<;>cases he
   ·cases he
  |false=>
   rw[hb] at he
   cases he
   exact⟨eX,fun e=>Nat.ne_of_beq_eq_false hb e⟩
 |_=>simp only at he;cases he
theorem akh{id:Nat}{B:bB}{l:List SV}{i j:Nat}{a b:Ty}(h:SV.bz i a b j∈l.map (rJ id B)):SV.bz i a b j∈l/\(l=[.bz i a b j]->l.map (rJ id B)=[.bz i a b j]):=by
 refine⟨?_,fun e=>by rw[e];rfl⟩
 obtain⟨s0,eX,he⟩:=List.mem_map.1 h
 unfold rJ at he
 cases s0 with
 |ptr j' t' p'=>
  simp only at he
  cases hb:Nat.beq j' id with
  |true=>
   rw[hb] at he
   simp only[cond_true] at he
   split at he
   ·split at he<;>cases he
   ·cases he
  |false=>rw[hb] at he;cases he
 |_=>simp only at he;first|(cases he;done)|(rw[<-he];exact eX)
theorem ab7(hr:Rel X s a){id:Nat}{R:Type}{K:State->Option R}{z:R}(h:Vs id s K=some z):∃Y s',Y.w=X.w/\Ext X Y/\K s'=some z/\Rel Y s' a:=by
 unfold Vs at h
 split at h
 case h_2=>cases h
 rename_i B hB
 split at h
 case isTrue=>cases h
 rename_i hs
 have hs:B.t.bF=false:=by simpa using hs
 have hb:=z28 hB
 obtain⟨rr,h1,tG⟩:=hr.boxes id B hb
 obtain⟨cs,T,aD,aL,how,_⟩:=tG.cells hs
 refine⟨X.still rr cs.size,_,rfl,LO how,h,by simpa using hr.size,by simpa using hr.gB,fun i l v hl hx=> ?_,fun bc B' er=> ?_,fun i l j t p hl hm=> ?_,hr.defers,hr.bz.less (fun i l qX c2 d2 j hl hm=> ?_) (fun qX c2 d2 x2 kg hex lT ho=> ?_)⟩
 ·replace hl:(s.sl.map fun l=>l.map (rJ id B))[i]? =some l:=hl
  rw[List.getElem?_map] at hl
  obtain⟨l0,h0,rfl⟩:=Option.map_eq_some_iff.1 hl
  exact ag4 hr hb hs h1 how aD aL (fun bc c d j hm e=>hr.om hb (.inl (Qb hs)) i l0 c d j h0 (e▸hm)) (hr.bP i l0 v h0 hx)
 ·replace er:(s.bs.set id none)[bc]? =some (some B'):=er
  rw[List.getElem?_set] at er
  split at er
  ·split at er<;>cases er
  ·rename_i Jq
   obtain⟨r',g1,g2,g3⟩:=hr.boxes bc B' er
   have bI:r'≠rr:=fun e2=>by rw[e2,how] at g2;cases g2;exact Jq rfl
   exact⟨r',g1,by simp only[ax.still];rw[if_neg bI];exact g2,g3.move (fun _ _=>xM how) rfl (fun cs h5=>h5.eI how) fun _ _ g o _ ho hw=>⟨ho,by simp only[ax.still];rw[if_neg (fun e3=>by rw[e3,how] at hw;cases hw)];exact hw⟩⟩
 ·replace hl:(s.sl.map fun l=>l.map (rJ id B))[i]? =some l:=hl
  rw[List.getElem?_map] at hl
  obtain⟨l0,h0,rfl⟩:=Option.map_eq_some_iff.1 hl
  obtain⟨hm,bI⟩:=aki hm
  obtain⟨B2,cT⟩:=hr.live i l0 j t p h0 hm
  exact⟨B2,by show(s.bs.set id none)[j]? =_;rw[List.getElem?_set,if_neg (fun e=>bI e.symm)];exact cT⟩
 ·replace hl:(s.sl.map fun l=>l.map (rJ id B))[i]? =some l:=hl
  rw[List.getElem?_map] at hl
  obtain⟨l0,h0,rfl⟩:=Option.map_eq_some_iff.1 hl
  obtain⟨g1,g2⟩:=akh hm
  exact⟨l0,h0,g1,g2⟩
 ·refine⟨x2,kg,?_,ho⟩
  show(s.bs.set id none)[qX]? =_
  rw[List.getElem?_set,if_neg (fun e=> ?_)]
  ·exact lT
  ·subst e
   rw[hb] at lT
   cases lT
   cases hs
theorem zo2{R:Type}{K:State->Option R}{z:R}:∀(l:List Nat) (X:ax) (s:State),Rel X s a->Gm l s K=some z->∃Y s',Y.w=X.w/\Ext X Y/\K s'=some z/\Rel Y s' a
 | [],X,s,hr,h=>⟨X,s,rfl,Ext.refl X,h,hr⟩
 |id::r,X,s,hr,h=>by
  obtain⟨Y,s1,h1,h2,h3,h4⟩:=ab7 hr h
  obtain⟨Z,s2,k1,k2,k3,k4⟩:=zo2 r Y s1 h4 h3
  exact⟨Z,s2,k1.trans h1,h2.trans k2,k3,k4⟩
def Fr(E:Env)(X0:ax):Prop:=E.sp≠none->∀g pl n,X0.ow g≠ .row pl n
def LZ(P:Program)(E:Env)(C:ah)(k:Nat)(c:Code):Prop:=
 ∀(X0 X:ax) (s:State) (a:Act) (e:Ex) (s':State),Fr E X0->Ext X0 X->Rel X s a->ev E (C (Ex×State)) k c s (fun e s=>some (e,s))=some (e,s')->
  ∀(Q:Exit->Act->World->Prop),(∀Y a',Ext X0 Y->Rel Y s' a'->Q e.exit' a' Y.w)->c.wp P Q a X.w
theorem ajO(hr:Rel X s a){k r:Nat}{R:Type}{K:State->Option R}{z:R}(h:ni E k r s K=some z):∃s',K s'=some z/\Rel X s' a:=by
 unfold ni at h
 split at h
 ·exact⟨s,h,hr⟩
 ·obtain⟨s',h1,h2⟩:=OT hr h
  refine⟨s',?_,h2⟩
  unfold cH at h1
  split at h1
  ·cases h1
  ·exact h1
theorem agc{C:ah}(hC:C.Nat){k:Nat}{b:Code}(hb:LZ P E C k b){l lx:List Nat}{Q:Exit->Act->World->Prop}{e':Ex}{s':State}{X0:ax}(hF:Fr E X0)(hQ:∀Y a',Ext X0 Y->Rel Y s' a'->Q e'.exit' a' Y.w):
 ∀(n:Nat) (a:Act) (w:World),(∃X s,X.w=w/\Ext X0 X/\Rel X s a/\aB (ev E (C (Ex×State)) k b) l lx n s (fun e s=>some (e,s))=some (e',s'))->
  ∃m,n=m+1/\b.wp P (Exit.then (fun a w=>∃X s,X.w=w/\Ext X0 X/\Rel X s a/\aB (ev E (C (Ex×State)) k b) l lx m s (fun e s=>some (e,s))=some (e',s')) Q) a w:=by
 rintro n a w ⟨X,s,rfl,aZ,hr,h⟩
 cases n with
 |zero=>cases h
 |succ m=>
  refine⟨m,rfl,?_⟩
  simp only[aB] at h
  obtain⟨⟨e1,s2⟩,h1,h2⟩:=jD (vA hC b _ (fun e s=>some (e,s)) (K:=fun z=>match z.1 with
   | .normal=>rG l z.2 fun s=>aB (ev E (C (Ex×State)) k b) l lx m s (fun e s=>some (e,s))
   |e=>rG lx z.2 fun s=>some (e,s)) (fun e s=>by cases e<;>rfl) s) h
  refine hb X0 X s a e1 s2 hF aZ hr h1 _ fun Y a' cf bu=> ?_
  cases e1 with
  |normal=>
   obtain⟨s3,h3,B8⟩:=OT bu h2
   exact⟨Y,s3,rfl,cf,B8,h3⟩
  |exit id=>
   obtain⟨s3,h3,B8⟩:=OT bu h2
   cases h3
   exact hQ Y a' cf B8
  |ret=>
   obtain⟨s3,h3,B8⟩:=OT bu h2
   cases h3
   exact hQ Y a' cf B8
theorem z9m(hE:ap P E)(hm:P.follows .mixedOrders=true){C:ah}(hC:C.Nat)(hf:∀f,cV P C f){id:Nat}{ops:Array Oper}{d:Bool}{X00 X0:ax}{s0:State}{a:Act}{e:Ex}{s':State}(hx:Ext X00 X0)(hr0:Rel X0 s0 a)(h0:ET E (C (Ex×State)) id ops d s0 ((fun e s=>some (e,s)) Ex.normal)=some (e,s')){Q:Exit->Act->World->Prop}(hQ0:∀Y a',Ext X00 Y->Rel Y s' a'->Q e.exit' a' Y.w):(Code.region id ops d).wp P Q a X0.w:=by
 unfold ET at h0
 obtain⟨X1,s1,Rr,Ah,h01,eL⟩:=akd hr0 h0
 obtain⟨X,s,vh,cf,h,hr⟩:=zo2 _ X1 s1 eL h01
 have hw:X.w=X0.w:=vh.trans Rr
 have Ag:Ext X0 X:=Ah.trans cf
 clear h01 eL Rr vh Ah cf
 have hQ:∀Y a',Ext X Y->Rel Y s' a'->Q e.exit' a' Y.w:=fun Y a' aZ bu=>hQ0 Y a' (hx.trans (Ag.trans aZ)) bu
 rw[<-hw]
 clear h0 hr0 hQ0 Ag hw
 cases d with
 |true=>
  simp only[cond_true] at h
  obtain⟨s1,h1,h2⟩:=jD (OX hC (F:=fun s=>some (Ex.normal,s)) (G:=some) (K:=fun s=>some (Ex.normal,s)) (fun _=>rfl) ops.toList 0 s []) h
  cases h2
  exact afT hE hm hC hf hr h1 hQ
 |false=>
  simp only[cond_false] at h
  obtain⟨s1,h1,h2⟩:=jD (Eo hC (F:=fun s=>some (Ex.normal,s)) (G:=some) (K:=fun s=>some (Ex.normal,s)) (fun _=>rfl) ops.toList s) h
  cases h2
  refine wp_region (MP hE hC hf (List.range ops.size) X s a hr (fun i hi=>List.mem_range.1 hi) ?_ hQ)
  have:(List.range ops.size).map (fun i=>ops.getD i default)=ops.toList:=by
   apply List.ext_getElem?
   intro i
   rw[List.getElem?_map]
   by_cases hi:i<ops.size
   ·simp [hi]
   ·simp [hi]
  rw[this];exact h1
theorem Ei(hE:ap P E)(hm:P.follows .mixedOrders=true){C:ah}(hC:C.Nat)(hf:∀f,cV P C f)(k:Nat):∀c:Code,LZ P E C k c
 | .skip=>fun X0 X s a e s' hF hx hr h Q hQ=>by
   simp only[ev,Option.some.injEq,Prod.mk.injEq] at h
   obtain⟨rfl,rfl⟩:=h
   exact wp_skip (hQ X a hx hr)
 | .region id ops d=>fun X0 X s a e s' hF hx hr h Q hQ=>by
   simp only[ev] at h
   split at h
   ·rename_i j q mm
    cases hj:Nat.beq id j with
    |true=>
     rw[hj,cond_true] at h
     cases d with
     |true=>cases h
     |false=>
      cases hq:Nat.beq q.2.2 0 with
      |true=>
       simp only[hq,cond_true] at h
       obtain⟨s1,h1,h2⟩:=jD (MH hC (F:=fun s=>some (Ex.normal,s)) (G:=some) (K:=fun s=>some (Ex.normal,s)) (fun _=>rfl)) h
       cases h2
       exact ags hE hC hf (hF (by rw[mm];exact fun e=>by cases e)) hx hr h1 hQ
      |false=>
      simp only[hq,cond_false] at h
      obtain⟨s1,h1,h2⟩:=jD (MQ (F:=fun s=>some (Ex.normal,s)) (G:=some) (K:=fun s=>some (Ex.normal,s)) (fun _=>rfl)) h
      cases h2
      exact agP hE (hF (by rw[mm];exact fun e=>by cases e)) hx hr h1 hQ
    |false=>
     rw[hj,cond_false] at h
     exact z9m hE hm hC hf hx hr h hQ
   ·split at h
    ·exact z9m hE hm hC hf hx hr h hQ
    ·rename_i m l k hsg
     cases hi:Nat.beq id m with
     |true=>
      rw[hi,cond_true] at h
      cases d with
      |true=>cases h
      |false=>
       obtain⟨s1,h1,h2⟩:=jD (NM hC (F:=fun s=>some (Ex.normal,s)) (G:=some) (K:=fun s=>some (Ex.normal,s)) (fun _=>rfl)) h
       cases h2
       exact ajQ hE hC hf hx hr h1 hQ
     |false=>
     rw[hi,cond_false] at h
     cases tO:Nat.beq id l with
     |true=>
      rw[tO,cond_true] at h
      cases d with
      |false=>cases h
      |true=>
       obtain⟨s1,h1,h2⟩:=jD (Mx hC (F:=fun s=>some (Ex.normal,s)) (G:=some) (K:=fun s=>some (Ex.normal,s)) (fun _=>rfl)) h
       cases h2
       exact af9 hE hm hC hf hx hr h1 hQ
     |false=>
      rw[tO,cond_false] at h
      exact z9m hE hm hC hf hx hr h hQ
 | .seq x y=>fun X0 X s a e s' hF hx hr h Q hQ=>by
   simp only[ev] at h
   obtain⟨⟨e1,s1⟩,h1,h2⟩:=jD (vA hC x _ (fun e s=>some (e,s)) (K:=fun z=>match z.1 with
    | .normal=>ni E k (uN y) z.2 fun s=>ev E (C (Ex×State)) k y s (fun e s=>some (e,s))
    |e=>some (e,z.2)) (fun e s=>by cases e<;>rfl) s) h
   refine wp_seq (Ei hE hm hC hf k x X0 X s a e1 s1 hF hx hr h1 _ fun Y a' aZ bu=> ?_)
   cases e1 with
   |normal=>
    obtain⟨s2,h2,bu⟩:=ajO bu h2
    exact Ei hE hm hC hf k y X0 Y s2 a' e s' hF aZ bu h2 Q hQ
   |exit id=>cases h2;exact hQ Y a' aZ bu
   |ret=>cases h2;exact hQ Y a' aZ bu
 | .cond c x y=>fun X0 X s a e s' hF hx hr h Q hQ=>by
   simp only[ev] at h
   have hc:=hr.aG c
   split at h
   case h_2=>cases h
   rename_i p w hs
   rw[hs] at hc
   have hv:=OK hc
   have eL:Rel X (s.au (uE c) (bl p)) a:=by
    cases c with
    |tmp i=>
     have ii:s.slot i=[.aj .bool p w]:=by
      have hh:one (s.slot i)= .aj .bool p w:=hs
      match hm:s.slot i,hh with
      | [sv],hh=>have BW:sv= .aj .bool p w:=hh;rw[BW]
      | [],hh=>cases hh
      |_::_::_,hh=>cases hh
     exact(hr.know ii).1
    |_=>exact hr
   refine wp_cond_split hv (fun hp=> ?_) (fun hp=> ?_)
   ·subst hp
    exact Ei hE hm hC hf k x X0 X _ a e s' hF hx eL h Q hQ
   ·subst hp
    exact Ei hE hm hC hf k y X0 X _ a e s' hF hx eL h Q hQ
 | .block id b=>fun X0 X s a e s' hF hx hr h Q hQ=>by
   simp only[ev] at h
   obtain⟨⟨e1,s1⟩,h1,h2⟩:=jD (vA hC b _ (fun e s=>some (e,s)) (K:=fun z=>match z.1 with
    | .exit j=>bif Nat.beq j id then some (.normal,z.2) else some (.exit j,z.2)
    |e=>some (e,z.2)) (fun e s=>by cases e<;>rfl) s) h
   refine wp_block (Ei hE hm hC hf k b X0 X s a e1 s1 hF hx hr h1 _ fun Y a' aZ bu=> ?_)
   cases e1 with
   |normal=>cases h2;exact hQ Y a' aZ bu
   |ret=>cases h2;exact hQ Y a' aZ bu
   |exit j=>
    simp only at h2
    show(if j=id then Q .normal a' Y.w else Q (.exit j) a' Y.w)
    cases hj:Nat.beq j id with
    |true=>
     rw[hj] at h2;cases h2
     rw[if_pos (Nat.eq_of_beq_eq_true hj)]
     exact hQ Y a' aZ bu
    |false=>
     rw[hj] at h2;cases h2
     rw[if_neg (Nat.ne_of_beq_eq_false hj)]
     exact hQ Y a' aZ bu
 | .loop b=>fun X0 X s a e s' hF hx hr h Q hQ=>by
   simp only[ev] at h
   obtain⟨s1,h,eL⟩:=OT (hr.drop _) h
   exact ag8 _ (agc hC (Ei hE hm hC hf k b) hF (Q:=Q) hQ) ⟨X,s1,rfl,hx,eL,h⟩
 | .exit id=>fun X0 X s a e s' hF hx hr h Q hQ=>by
   simp only[ev,Option.some.injEq,Prod.mk.injEq] at h
   obtain⟨rfl,rfl⟩:=h
   exact wp_exit (hQ X a hx hr)
 | .ret=>fun X0 X s a e s' hF hx hr h Q hQ=>by
   simp only[ev,Option.some.injEq,Prod.mk.injEq] at h
   obtain⟨rfl,rfl⟩:=h
   exact wp_ret (hQ X a hx hr)
 | .rangeFunc .. =>fun X0 X s a e s' hF hx hr h Q hQ=>by simp only[ev] at h;cases h
 | .scope _=>fun X0 X s a e s' hF hx hr h Q hQ=>by simp only[ev] at h;cases h
 | .label _=>fun X0 X s a e s' hF hx hr h Q hQ=>by simp only[ev] at h;cases h
 | .goto _=>fun X0 X s a e s' hF hx hr h Q hQ=>by simp only[ev] at h;cases h
 | .refuse _=>fun X0 X s a e s' hF hx hr h Q hQ=>by simp only[ev] at h;cases h
end Go.Ref

