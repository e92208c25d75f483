/- No condition. -/
import Derived.Test.YtpjkbbihjoflnaaGreatDoorK0
import Derived.WideKeyRuns
import Derived.MapKept
import Derived.Laws.CopyRow
set_option linter.unusedVariables false
set_option linter.unusedSimpArgs false
set_option maxRecDepth 100000
namespace Go.Ref
open Go
variable {P:Program} {E:Env} {X:ar} {s:State} {a:Act} {o:Oper} {u:Out}
inductive Grown(w w':World)(e:TypeId)(k:Nat)(vb v':Value)(cx cy:List Value)(n:Nat):Prop where
 |same (h:w'=w) (hv:v'=vb) (hy:cy=[])
 |room (g cap:Nat) (cur eO:Array Value) (hb:∃m,vb= .slice (some ⟨g,0,none⟩) m cap) (hg:w.heap[g]? =some (.cells cur e (0,0))) (hv:v'= .slice (some ⟨g,0,none⟩) n cap) (hn:n<=cap) (hm:cap<=maxLen)
   (hw:w'=w.setRow g eO) (hs:eO.size=cap*k) (ht:eO.toList.take (n*k)=cx++cy)
 |new (cap:Nat) (eO:Array Value) (hv:v'= .slice (some ⟨w.heap.size,0,none⟩) n cap) (hn:n<=cap) (hm:cap<=maxLen) (hw:w'=w.drew.alloc (.cells eO e)) (hs:eO.size=cap*k) (ht:eO.toList.take (n*k)=cx++cy)
theorem SO(hE:aj P E){T ty e:TypeId}{t:Ty}(hT:E.ty T=some (.sl e t))(hk:0<t.cells)(n6:E.bytes e≠0){xs ys:List (El t)}{vb vx:Value}{pl:Place}
 (bG:bf X pl e t.cells xs.length vb) {cx cy:List Value} (rx:aY X (.arr xs.length t) xs cx) (sx:∀g m c,vb= .slice (some ⟨g,0,none⟩) m c->∀(i:Nat) v,cx[i]? =some v->X.ax ((⟨g,0,none⟩:Addr).add i) v)
 (ry:aY X (.arr ys.length t) ys cy) (hvx:∃A c,vx= .slice A ys.length c/\(A=none->ys=[])/\∀ad,A=some ad->∀(i:Nat) v,cy[i]? =some v->X.ax (ad.add i) v)
 (hbound:(xs.length+ys.length)*E.bytes e<=140737488355328):
 ∃v' w',(Builtin.append_ #[T,T] ty #[vb,vx]).run P X.w= .ok v' w'/\Grown X.w w' e t.cells vb v' cx cy (xs.length+ys.length)/\(v'= .slice none 0 0->xs.length+ys.length=0):=by
 obtain⟨hu,he⟩:=(hE.ty T _ hT).cQ
 obtain⟨i,hi,bN,eR,hz⟩:=(hE.ty e t he).info
 have hzs:(dk t (zl t)).cells.size=t.cells:=by rw[rM (oQ X t)];simp [ri]
 have tz:cx.length=xs.length*t.cells:=rx.2.1
 have qv:cy.length=ys.length*t.cells:=ry.2.1
 have h1:∀u∈cy,u.oneCell'=true:=ry.one
 have hle:xs.length+ys.length<=140737488355328:=Nat.le_trans (Nat.le_mul_of_pos_right _ (Nat.pos_of_ne_zero n6)) hbound
 have vD:xs.length+ys.length<=maxLen:=by simp only[maxLen];omega
 obtain⟨A,c,rfl,hA,Ew⟩:=hvx
 cases A with
 |none=>
  have qJ:=hA rfl
  subst qJ
  have Pk:cy=[]:=List.eq_nil_of_length_eq_zero (by simpa using qv)
  subst Pk
  rcases bG with⟨rfl,hn⟩|⟨g,cap,cur,rfl,hg,Ef,vG,eH,how⟩
  ·refine⟨.slice none 0 0,X.w,?_,.same rfl rfl rfl,fun _=>by simp [hn]⟩
   simp [Builtin.append_,run_underlying hu,sizeOf,typeInfo,hi,Builtin.lenOf,Builtin.firstCells]
  ·refine⟨_,X.w,?_,.same rfl rfl rfl,fun e=>by cases e⟩
   simp [Builtin.append_,run_underlying hu,sizeOf,typeInfo,hi,Builtin.lenOf,Builtin.firstCells,Ef,storeCells]
 |some ad=>
  have PE:∀j u,cy[j]? =some u->X.w.cell? (ad.add j)=some u:=fun j u hj=>(Ew ad rfl j u hj).2.1
  have jX:∀(old:Nat),(cx.toArray++cy.toArray++Builtin.zeroCells (dk t (zl t)).cells (grownCap X.w (xs.length+ys.length) old e-(xs.length+ys.length))).size=grownCap X.w (xs.length+ys.length) old e*t.cells/\
   (cx.toArray++cy.toArray++Builtin.zeroCells (dk t (zl t)).cells (grownCap X.w (xs.length+ys.length) old e-(xs.length+ys.length))).toList.take ((xs.length+ys.length)*t.cells)=cx++cy:=by
   intro old
   have Pq:=grownCap_ge X.w (xs.length+ys.length) old e
   refine⟨?_,?_⟩
   ·simp only[Array.size_append,List.size_toArray,size_zeroCells,hzs,tz,qv,<-Nat.add_mul]
    congr 1
    omega
   ·have hl:(cx++cy).length=(xs.length+ys.length)*t.cells:=by rw[List.length_append,tz,qv,Nat.add_mul]
    rw[<-hl]
    simp only[Array.toList_append]
    exact List.take_left
  rcases bG with⟨rfl,hn⟩|⟨g,cap,cur,rfl,hg,Ef,vG,eH,how⟩
  ·have tm:cx=[]:=List.eq_nil_of_length_eq_zero (by rw[tz,hn,Nat.zero_mul])
   subst tm
   by_cases hm:ys.length=0
   ·have Pk:cy=[]:=List.eq_nil_of_length_eq_zero (by rw[qv,hm,Nat.zero_mul])
    subst Pk
    refine⟨.slice none 0 0,X.w,?_,.same rfl rfl rfl,fun _=>by omega⟩
    simp [Builtin.append_,run_underlying hu,sizeOf,typeInfo,hi,Builtin.lenOf,Builtin.firstCells,hm,loadCells,loadCellsFrom]
   ·have vU:xs.length=0:=hn
    rw[vU,Nat.zero_add] at hbound hle vD
    have hr:=run_append_nil (P:=P) X.w T ty e i (dk t (zl t)) hu hi hz ad ys.length c cy (by rw[bN];exact qv) PE (by omega) (by omega) (by rw[eR];omega)
    obtain⟨c1,c2⟩:=jX 0
    have Pq:=grownCap_ge X.w (xs.length+ys.length) 0 e
    have vG:=grownCap_le_maxLen X.w (xs.length+ys.length) 0 e (by rw[vU,Nat.zero_add];exact vD)
    refine⟨_,_,hr,.new (grownCap X.w (xs.length+ys.length) 0 e) _ (by rw[vU,Nat.zero_add]) Pq vG ?_ c1 c2,fun e=>by cases e⟩
    rw[vU,Nat.zero_add]
    simp
  ·by_cases kV:xs.length+ys.length<=cap
   ·have cM:xs.length*i.size+cy.length<=cur.size:=by rw[bN,qv,eH,<-Nat.add_mul];exact Nat.mul_le_mul_right _ kV
    have hr:=run_append_room (P:=P) X.w T ty e i hu hi g xs.length cap cur hg ad ys.length c cy (by rw[bN];exact qv) PE h1 kV cM
    refine⟨_,_,hr,.room g cap cur _ ⟨_,rfl⟩ hg rfl kV vG rfl ?_ ?_,fun e=>by cases e⟩
    ·simp only[List.size_toArray,List.length_append,List.length_take,List.length_drop,Array.length_toList]
     omega
    ·have kW:cur.toList.take (xs.length*i.size)=cx:=by
      rw[bN]
      apply List.ext_getElem?
      intro q
      by_cases hq:q<xs.length*t.cells
      ·rw[List.getElem?_take,if_pos hq]
       have EB:=List.getElem?_eq_getElem (l:=cx) (i:=q) (by rw[tz];exact hq)
       have:=(sx g _ _ rfl q _ EB).2.1
       rw[zy,Nat.zero_add] at this
       simp only[World.cell?,hg] at this
       rw[EB]
       simpa using this
      ·rw[List.getElem?_eq_none (by rw[List.length_take];omega),List.getElem?_eq_none (by omega)]
     have hl:(cx++cy).length=(xs.length+ys.length)*t.cells:=by rw[List.length_append,tz,qv,Nat.add_mul]
     rw[kW,<-hl]
     simp only[List.take_left]
   ·have holds:∀j u,cx[j]? =some u->X.w.cell? ((⟨g,0,none⟩:Addr).add j)=some u:=fun j u hj=>(sx g _ _ rfl j u hj).2.1
    have hr:=run_append_grow (P:=P) X.w T ty e i (dk t (zl t)) hu hi hz ⟨g,0,none⟩ xs.length cap cx (by rw[bN];exact tz) holds ad ys.length c cy (by rw[bN];exact qv) PE (by omega) (by omega) (growslice_fits (by omega) (by rw[eR];exact hbound))
    obtain⟨c1,c2⟩:=jX cap
    exact⟨_,_,hr,.new _ _ rfl (grownCap_ge _ _ _ _) (grownCap_le_maxLen _ _ _ _ vD) rfl c1 c2,fun e=>by cases e⟩
theorem bf.O5{X:ar}{s:State}{pl:Place}{e:TypeId}{k n:Nat}{v:Value}(h:bf X pl e k n v)(hf:¬cF s pl)(q:Place):∃Y,dt s X Y/\bf Y q e k n v:=by
 rcases h with h|⟨g,cap,cur,h1,h2,h3,h4,h5,h6⟩
 ·exact⟨X,dt.refl s X,.inl h⟩
 ·refine⟨{X with ow:=fun g'=>if g'=g then .row q (n*k) else X.ow g'},⟨rfl,rfl,fun g'=> ?_⟩,.inr ⟨g,cap,cur,h1,h2,h3,h4,h5,by simp⟩⟩
  by_cases e:g'=g
  ·subst e;exact .inr ⟨pl,_,q,h6,hf,by simp⟩
  ·exact .inl (by simp [e])
theorem acD{R:Type}{t t':Ty}{x:El t'}{w:List (List Nat)}{K:El t->Option R}{z:R}(h:(SV.ai t' x w).el t K=some z):∃he:t'.bV t=true,K (Ty.cast he x)=some z:=by
 simp only[SV.el] at h
 split at h
 ·rename_i he;exact⟨he,h⟩
 ·cases h
theorem Sr(hE:aj P E)(hr:Rel X s a){ops:List Oper}{dd:Array Operand}{ts:Array TypeId}(ho:o.op= .call ⟨.builtin .append,dd,ts⟩){C:FuncId->bI Out}(h:act E C ops o s some=some u):aG P X s a o u:=by
 unfold act at h
 simp only[ho] at h
 split at h
 case h_2=>cases h
 rename_i b x T U qI xU
 have has:dd= #[b,x]:=by rw[<-Array.toArray_toList (xs:=dd),qI]
 have n9:ts= #[T,U]:=by rw[<-Array.toArray_toList (xs:=ts),xU]
 subst has n9
 have hb:=hr.aF b
 have hx:=hr.aF x
 unfold H6 at h
 split at h
 case isTrue=>cases h
 rename_i hTU
 have hTU:T=U:=by
  have:T.beq U=true:=by cases xV:Nat.beq T U<;>simp_all
  exact Nat.eq_of_beq_eq_true this
 subst hTU
 split at h
 case h_2=>cases h
 rename_i e t hT
 split at h
 case isTrue=>cases h
 rename_i h0
 have h0:Nat.beq (E.bytes e) 0=false/\Nat.beq t.cells 0=false:=by
  cases h1:Nat.beq (E.bytes e) 0<;>cases h2:Nat.beq t.cells 0<;>simp_all
 have n6:E.bytes e≠0:=fun e0=>by rw[e0] at h0;simp at h0
 have hk:0<t.cells:=by
  rcases Nat.eq_zero_or_pos t.cells with e0|e0
  ·rw[e0] at h0;simp at h0
  ·exact e0
 have key:∀(xs ys:List (El t)) (cl:List (Nat×Nat)) (pl:Place),¬cF (s.close cl) pl->bf X pl e t.cells xs.length (a.eval b)->aY X (.sl e t) xs [a.eval b]->aY X (.sl e t) ys [a.eval x]->
  (xs.length+ys.length)*E.bytes e<=140737488355328->aG P X s a o {v:=[.ai (.sl e t) (xs++ys:List (El t)) [[]]],cl:=cl}:=by
  intro xs ys cl pl AW bG yB jz hbound
  obtain⟨A1,c1,vS,wl⟩:=yB
  have e1:a.eval b= .slice A1 xs.length c1:=by simpa using vS
  obtain⟨A2,c2,Ez,EX⟩:=jz
  have e2:a.eval x= .slice A2 ys.length c2:=by simpa using Ez
  obtain⟨_,_,cx,rx,_,sx⟩:=z8j (X:=X) (e:=e) (show aY X (.sl e t) xs [.slice A1 xs.length c1] from⟨A1,c1,rfl,wl⟩)
  obtain⟨_,_,cy,ry,ny,sy⟩:=z8j (X:=X) (e:=e) (show aY X (.sl e t) ys [.slice A2 ys.length c2] from⟨A2,c2,rfl,EX⟩)
  have sx':∀g m c,a.eval b= .slice (some ⟨g,0,none⟩) m c->∀(i:Nat) v,cx[i]? =some v->X.ax ((⟨g,0,none⟩:Addr).add i) v:=by
   intro g m c hv
   rw[e1] at hv
   injection hv with hA
   exact sx _ hA
  obtain⟨v',w',aR,x9,qy⟩:=SO (ty:=o.type) hE hT hk n6 bG rx sx' ry ⟨A2,c2,e2,ny,sy⟩ hbound
  have tz:cx.length=xs.length*t.cells:=rx.2.1
  have qv:cy.length=ys.length*t.cells:=ry.2.1
  have Eo:(execOp a.eval o).run P X.w= .ok (.value v') w':=by
   simp only[execOp,ho,resolve,invoke,builtin,Sem.run_bind,Sem.run_pure,Result.andThen_ok,List.map_toArray,List.map_cons,List.map_nil,aR]
  have fin:∀(Y:ar),Y.w=w'->Mod (s.close cl) X Y->aY Y (.arr (xs.length+ys.length) t) (xs++ys:List (El t)) (cx++cy)->bf Y (.c (o.dst.getD 0) 0 []) e t.cells (xs.length+ys.length) v'->
   aY Y (.sl e t) (xs++ys:List (El t)) [v']->aG P X s a o {v:=[.ai (.sl e t) (xs++ys:List (El t)) [[]]],cl:=cl}:=by
   intro Y hY hm eG PG yh
   refine⟨Y,v',.inl (by rw[hY];exact Eo),hm.ext,((hr.close cl).mod hm).fin ⟨[v'],yh,rfl,Gy ?_⟩ (fun id t p AV=>by simp at AV)⟩
   rw[List.length_append]
   exact PG
  cases x9 with
  |same h1 h2 h3=>
   subst h2
   have hy0:ys=[]:=by
    have:ys.length=0:=by
     rcases Nat.mul_eq_zero.1 (show ys.length*t.cells=0 by rw[<-qv,h3];rfl) with h|h
     ·exact h
     ·omega
    exact List.eq_nil_of_length_eq_zero this
   subst hy0
   obtain⟨Y,kh,hO2⟩:=bf.O5 (s:=s.close cl) bG AW (.c (o.dst.getD 0) 0 [])
   refine fin Y (by rw[kh.w,h1]) kh.mod ?_ (by simpa using hO2) ?_
   ·have:=(Bb rx ry)
    exact this.ag (fun _ _=>kh.ax.1)
   ·rw[List.append_nil]
    exact aY.ag (fun _ _=>kh.ax.1) (show aY X (.sl e t) xs [a.eval b] from⟨A1,c1,vS,wl⟩)
  |new cap eO hv hn hm hw hs ht=>
   let Y:ar:=⟨w',fun g=>if g=X.w.heap.size then .row (.c (o.dst.getD 0) 0 []) ((xs.length+ys.length)*t.cells) else X.ow g,X.β⟩
   have tw:dO (s.close cl) X Y:=⟨by simp [Y,hw],by simp only[Y,hw];rfl,by simp only[Y,hw];rfl,by simp only[Y,hw];rfl,fun g hg=>⟨by simp only[Y];rw[if_neg (by omega)],by simp only[Y,hw];exact RowKit.Below.heap_alloc _ _ _ hg⟩,rfl,fun _ _ _=>rfl⟩
   have aC:Y.w.heap[X.w.heap.size]? =some (.cells eO e (0,0)):=by simp only[Y,hw];exact heap_alloc_new X.w.drew _
   have how:Y.ow X.w.heap.size= .row (.c (o.dst.getD 0) 0 []) ((xs.length+ys.length)*t.cells):=by simp [Y]
   have aK:=(Bb rx ry).ag (fun _ _=>tw.ax)
   refine fin Y rfl tw.mod aK (.inr ⟨_,cap,eO,hv,aC,hn,hm,hs,how⟩) ?_
   rw[hv,<-List.length_append]
   exact zel (cs:=cx++cy) aC (by rw[List.length_append];exact how) (by rw[List.length_append];exact ht) (by rw[List.length_append];exact aK) (by rw[List.length_append];exact hn)
  |room g cap cur eO ki hg hv hn hm hw hs ht=>
   obtain⟨m,xW⟩:=ki
   rcases bG with⟨hz,_⟩|⟨g',tf,DN,gX,AP,Ef,vG,eH,how⟩
   ·rw[hz] at xW;cases xW
   have x8:g'=g:=by rw[xW] at gX;injection gX with h1;injection h1 with h1;injection h1 with h1;exact h1.symm
   subst x8
   have Pj:DN=cur:=by rw[hg] at AP;cases AP;rfl
   subst Pj
   have aw:=rR hg
   let Y:ar:=⟨w',fun k=>if k=g' then .row (.c (o.dst.getD 0) 0 []) ((xs.length+ys.length)*t.cells) else X.ow k,X.β⟩
   have aC:Y.w.heap[g']? =some (.cells eO e (0,0)):=by simp only[Y,hw];exact setRow_heap X.w g' DN eO e (0,0) hg
   have lY:Y.ow g'= .row (.c (o.dst.getD 0) 0 []) ((xs.length+ys.length)*t.cells):=by simp [Y]
   have dy:∀ad v,X.ax ad v->Y.ax ad v:=by
    intro ad v hH
    by_cases heq:ad.block=g'
    ·obtain⟨k1,k2,k3⟩:=hH
     rw[heq,how] at k3
     have k3:ad.off<xs.length*t.cells:=k3
     have had:ad=(⟨g',0,none⟩:Addr).add ad.off:=by rw[zy,Nat.zero_add];cases ad;simp_all
     have EB:=List.getElem?_eq_getElem (l:=cx) (i:=ad.off) (by rw[tz];exact k3)
     have tm:=(sx' g' _ _ xW ad.off _ EB).2.1
     rw[<-had,k2] at tm
     refine⟨k1,?_,?_⟩
     ·have hq:eO.toList[ad.off]? =some v:=by
       have:=congrArg (fun l=>l[ad.off]?) ht
       simp only[List.getElem?_take] at this
       have hle:xs.length*t.cells<=(xs.length+ys.length)*t.cells:=Nat.mul_le_mul_right _ (Nat.le_add_right _ _)
       rw[if_pos (by omega),List.getElem?_append_left (by rw[tz];exact k3),EB] at this
       rw[this];exact tm.symm
      simp only[World.cell?,heq,aC,k1]
      simpa using hq
     ·rw[heq,lY]
      have hle:xs.length*t.cells<=(xs.length+ys.length)*t.cells:=Nat.mul_le_mul_right _ (Nat.le_add_right _ _)
      show ad.off<_
      omega
    ·refine⟨hH.1,?_,?_⟩
     ·have:=hH.2.1
      simp only[World.cell?,Y,hw] at this⊢
      rw[setRow_other X.w g' ad.block eO heq]
      exact this
     ·simp only[Y]
      rw[if_neg heq]
      exact hH.2.2
   have yf:Mod (s.close cl) X Y:=⟨dy,by simp [Y,hw],by simp only[Y,hw];rfl,by simp only[Y,hw];rfl,by simp only[Y,hw];rfl,rfl,fun _ _ _=>rfl,fun k hk=>by
    by_cases heq:k=g'
    ·subst heq;exact .inr ⟨pl,_,how,AW⟩
    ·refine .inl ⟨by simp only[Y];rw[if_neg heq],?_⟩
     simp only[Y,hw]
     exact setRow_other X.w g' k eO heq⟩
   have aK:=(Bb rx ry).ag dy
   refine fin Y rfl yf aK (.inr ⟨_,cap,eO,hv,aC,hn,hm,hs,lY⟩) ?_
   rw[hv,<-List.length_append]
   exact zel (cs:=cx++cy) aC (by rw[List.length_append];exact lY) (by rw[List.length_append];exact ht) (by rw[List.length_append];exact aK) (by rw[List.length_append];exact hn)
 split at h
 ·rename_i gD
  rw[gD] at hb
  obtain⟨ys,h,qJ⟩:=zt h
  cases hd:decide (List.length ys*E.bytes e<=140737488355328) with
  |false=>rw[hd] at h;cases h
  |true=>
   rw[hd] at h
   cases h
   obtain⟨cs,jz,ev⟩:=qJ X _ _ hx
   have xW:a.eval b= .slice none 0 0:=hb
   have qA:cs=[a.eval x]:=by
    obtain⟨A,c,eH,_⟩:=jz
    rw[ev,eH];rfl
   have:=key [] ys [] (.r 0 []) (fun hf=>hf) (.inl ⟨xW,rfl⟩) (by rw[xW];exact⟨none,0,rfl,Nat.le_refl _,fun j x hj=>by simp at hj⟩) (by rw[<-qA];exact jz) (by simpa using of_decide_eq_true hd)
   simpa using this
 ·rename_i t' xs0 tM gD
  rw[gD] at hb
  split at h
  case isTrue=>cases h
  rename_i D1
  have D1:zx tM []=true:=by cases xV:zx tM []<;>simp_all
  obtain⟨heq,h⟩:=acD h
  have:=Ty.aH heq
  subst this
  obtain⟨ys,h,qJ⟩:=zt h
  cases hd:decide ((List.length (Ty.cast heq xs0)+List.length ys)*E.bytes e<=140737488355328) with
  |false=>rw[hd] at h;cases h
  |true=>
   rw[hd] at h
   cases h
   obtain⟨cs,jz,ev⟩:=qJ X _ _ hx
   have cD:=wE D1
   obtain⟨i,rfl⟩:=aa1 gD (fun e=>by rw[e] at cD;cases cD)
   obtain⟨cs1,r1,IM,hO⟩:=hb
   have qA:cs=[a.eval x]:=by
    obtain⟨A,c,eH,_⟩:=jz
    rw[ev,eH];rfl
   have vN:cs1=[a.eval (.tmp i)]:=by
    obtain⟨A,c,eH,_⟩:=r1
    rw[IM,eH];rfl
   obtain⟨e',t'',xs',v',_,g1,g2,g3⟩:=hO [] cD
   simp only[El.get,Option.some.injEq,Sigma.mk.injEq,Ty.sl.injEq] at g1
   obtain⟨⟨rfl,rfl⟩,g1⟩:=g1
   cases g1
   have gX:v'=a.eval (.tmp i):=by
    rw[vN] at g2
    simpa [Ty.off] using g2.symm
   rw[gX] at g3
   exact key xs0 ys [(i,0)] (.c i 0 []) cF.close g3 (by rw[<-vN];exact r1) (by rw[<-qA];exact jz) (of_decide_eq_true hd)
 ·cases h
end Go.Ref

namespace Go.Ref
open Go
variable {P:Program} {E:Env} {X:ar} {s:State} {a:Act} {o:Oper} {u:Out}
def ar.obj(X:ar)(r:Nat)(b:Obj):ar:={X with w:={X.w with heap:=X.w.heap.setIfInBounds r b}}
theorem Bh{r g:Nat}{b:Obj}(h:g≠r):(X.obj r b).w.heap[g]? =X.w.heap[g]? :=by
 simp [ar.obj,Ne.symm h]
theorem FD{r:Nat}{b b':Obj}(h:X.w.heap[r]? =some b'):(X.obj r b).w.heap[r]? =some b:=(MapKept.heap_set h).1
theorem z49{r id:Nat}{b:Obj}(h:X.ow r= .box id){ad:Addr}{v:Value}(hs:X.ax ad v):(X.obj r b).ax ad v:=by
 have bB:ad.block≠r:=fun e=>by
  have:=hs.2.2
  rw[e,h] at this
  exact this
 refine⟨hs.1,?_,hs.2.2⟩
 have:=hs.2.1
 simp only[World.cell?] at this⊢
 rw[Bh bB]
 exact this
theorem Gv{r id:Nat}{b:Obj}(h:X.ow r= .box id):Ext X (X.obj r b) where
 ax:=fun _ _=>z49 h
 size:=by simp [ar.obj]
 os:=rfl
 tape:=rfl
 output:=rfl
 β0:=rfl
 still:=fun g _ bL=>by
  have bB:g≠r:=fun e=>by rw[e,h] at bL;exact bL
  exact⟨rfl,Bh bB⟩
theorem bf.obj{r id:Nat}{b:Obj}(h:X.ow r= .box id){pl:Place}{e:TypeId}{k n:Nat}{v:Value}(ho:bf X pl e k n v):bf (X.obj r b) pl e k n v:=by
 rcases ho with ho|⟨g,cap,cur,h1,h2,h3,h4,h5,h6⟩
 ·exact .inl ho
 ·have bB:g≠r:=fun e=>by rw[e,h] at h6;cases h6
  exact .inr ⟨g,cap,cur,h1,(Bh bB).trans h2,h3,h4,h5,h6⟩
theorem bc.obj{r id:Nat}{b:Obj}(h:X.ow r= .box id){pl:List Nat->Place}{t:Ty}{x:El t}{c:List Value}{own:List (List Nat)}(ho:bc X pl t x c own):bc (X.obj r b) pl t x c own:=fun p hp=>by
 obtain⟨e,t',xs,v,g0,g1,g2,g3⟩:=ho p hp
 exact⟨e,t',xs,v,g0,g1,g2,g3.obj h⟩
theorem ay.obj{r id:Nat}{b:Obj}(h:X.ow r= .box id){pl:List Nat->Place}{sv:SV}{v:Value}(hk:∀aV c d j,sv= .bh aV c d j->aV≠id)(hr:ay X pl sv v):ay (X.obj r b) pl sv v:=by
 cases sv with
 |ai t x own=>
  obtain⟨c,h1,h2,h3⟩:=hr
  exact⟨c,h1.ag (fun _ _=>z49 h),h2,h3.obj h⟩
 |view t x=>
  obtain⟨ad,c,h1,h2,h3,h4⟩:=hr
  exact⟨ad,c,h1,h2,h3.ag (fun _ _=>z49 h),fun i u hi=>z49 h (h4 i u hi)⟩
 |cap f t x u y=>exact z21 (fun _ _=>z49 h) hr
 |bh aV c d j=>
  obtain⟨r',h1,h2,h3⟩:=hr
  have bB:r'≠r:=fun e=>by rw[e,h] at h2;injection h2 with h2;exact hk aV c d j rfl h2.symm
  refine⟨r',h1,h2,?_⟩
  simp only[World.cell?] at h3⊢
  rw[show(X.obj r b).w.heap[r']? =X.w.heap[r']? from Bh bB];exact h3
 |_=>exact hr
theorem Rel.obj{r id:Nat}{B B':bj}{b:Obj}(hr:Rel X s a)(hb:s.bs[id]? =some (some B))(hβ:X.β id=some r)(h:X.ow r= .box id)(hB:bk (X.obj r b) id r B')(hg:B.t.dK=false\/ []∈B.own):Rel (X.obj r b) (s.az (some (id,B'))) a where
 size:=hr.size
 fh:=by simpa [State.az] using hr.fh
 bC:=fun i l v hl hv=>(hr.bC i l v hl hv).gg fun j sv u hm hH=>hH.obj h (fun aV c d k e e2=>hr.l8 hb hg i l c d k hl (e2▸e▸List.mem_of_getElem? hm))
 boxes:=fun aV B2 cE=>by
  have aw:id<s.bs.length:=(List.getElem?_eq_some_iff.1 hb).1
  simp only[State.az,List.getElem?_set] at cE
  by_cases e:id=aV
  ·subst e
   rw[if_pos rfl,if_pos aw] at cE
   cases cE;exact⟨r,hβ,hB⟩
  ·rw[if_neg e] at cE
   obtain⟨r',h1,h4,h2⟩:=hr.boxes aV B2 cE
   have bB:r'≠r:=fun e2=>by rw[e2,h] at h4;cases h4;exact e rfl
   exact⟨r',h1,h4,h2.move (fun _ _=>z49 h) (Bh bB) (fun cs h5=>h5.obj h) fun _ _ g o _ ho hw=>⟨(Bh (fun e3=>by rw[e3,h] at hw;cases hw)).trans ho,hw⟩⟩
 live:=fun i l aV t p hi hm=>by
  have aw:id<s.bs.length:=(List.getElem?_eq_some_iff.1 hb).1
  obtain⟨B2,cE⟩:=hr.live i l aV t p hi hm
  simp only[State.az,List.getElem?_set]
  by_cases e:id=aV
  ·subst e;exact⟨B',by rw[if_pos rfl,if_pos aw]⟩
  ·rw[if_neg e];exact⟨B2,cE⟩
 defers:=hr.defers
 bh:=hr.bh.az (hr.l8 hb hg)
def ar.iV(X:ar)(b:Obj)(w:Ow)(β:Nat->Option Nat):ar:={w:=X.w.alloc b,ow:=fun g=>if g=X.w.heap.size then w else X.ow g,β}
theorem zxe(X:ar)(s:State)(b:Obj)(w:Ow)(β:Nat->Option Nat)(hβ0:β 0=X.β 0)(hβ:∀(id:Nat) B,s.bs[id]? =some (some B)->β id=X.β id):dO s X (X.iV b w β) where
 size:=by simp [ar.iV]
 os:=rfl
 tape:=rfl
 output:=rfl
 kG:=fun g hg=>⟨by simp only[ar.iV];rw[if_neg (by omega)],RowKit.Below.heap_alloc _ _ _ hg⟩
 β0:=hβ0
 β:=hβ
theorem ze1(hr:Rel X s a){t p:Ty}{x:El t}{b:Obj}{v:Value}(aR:(execOp a.eval o).run P X.w= .ok (.value v) (X.w.alloc b))
 (D2:∀Y:ar,(∀ad v,X.ax ad v->Y.ax ad v)->Y.w.heap[X.w.heap.size]? =some b->∀pl,cT Y X.w.heap.size pl t x []) (l5:lk p [] X.w.heap.size v) (h:iG s o.dst t x p some=some u):aG P X s a o u:=by
 unfold iG at h
 split at h
 case h_2=>cases h
 rename_i d hd
 split at h
 case h_2=>cases h
 rename_i hb
 cases h
 let β:Nat->Option Nat:=fun id=>if id=d+1 then some X.w.heap.size else X.β id
 have aw:d+1<s.bs.length:=(List.getElem?_eq_some_iff.1 hb).1
 have hk:dO s X (X.iV b (.box (d+1)) β):=zxe X _ _ _ _ (by show(if _ then _ else _)=_;rw[if_neg (by omega)]) (fun id B hB=>by
  show(if id=d+1 then _ else _)=_
  rw[if_neg (fun e=>by rw[e,hb] at hB;cases hB)])
 have bp:bk (X.iV b (.box (d+1)) β) (d+1) X.w.heap.size ⟨t,x,[]⟩:=⟨by simp [ar.iV],D2 _ (fun _ _=>hk.ax) (heap_alloc_new X.w _) _⟩
 have hβd:β (d+1)=some X.w.heap.size:=by show(if d+1=d+1 then _ else _)=_;rw[if_pos rfl]
 have eG:=(hr.cS hk).ej aw hb hβd bp
 refine⟨X.iV b (.box (d+1)) β,v,.inl aR,hk.ext,?_⟩
 rw[hd]
 refine eG.put (fun d' e=> ?_) (fun id t' q hm=> ?_)
 ·cases e
  exact⟨X.w.heap.size,hβd,l5⟩
 ·have:id=d+1:=by have:=hm;simp at this;exact this.1
  subst this
  exact⟨⟨t,x,[]⟩,by simp [State.az,List.getElem?_set,aw]⟩
def iA:(t:Ty)->El t->Value
 | .bool,b=> .bool b
 | .int k,n=> .int k n
 | .str,x=> .string x
 |_,_=>Go.undef
def Ty.fV:Ty->Bool
 | .bool| .int _| .str=>true
 |_=>false
theorem zlh{t:Ty}(hk:t.fV=true){x:El t}{v:Value}(h:dD X t x v):v=iA t x:=by
 obtain⟨cs,h1,h2⟩:=h
 cases t<;>simp [Ty.fV] at hk
 ·rw[h2,rP h1];rfl
 ·rw[h2,jG h1];rfl
 ·rw[h2,lv h1];rfl
theorem G6{T:TypeId}{t:Ty}(hE:aj P E)(hT:E.ty T=some t)(hk:t.fV=true)(x:El t):∃d,P.underlying T=some d/\MapKept.IsKey d (iA t x)/\∀y,Instr.sameNow d (iA t x) (iA t y)=some (eP t x y):=by
 have hu:=(hE.ty T t hT).cQ
 cases t<;>simp [Ty.fV] at hk
 ·have hu:P.underlying T=some .bool:=hu
  exact⟨_,hu,trivial,fun y=>by cases x<;>cases y<;>rfl⟩
 ·have hu:P.underlying T=some (.int _):=hu
  refine⟨_,hu,by simp [MapKept.IsKey,iA],fun y=> ?_⟩
  simp only[Instr.sameNow,iA,if_true,eP]
  congr 1
 ·have hu:P.underlying T=some .string:=hu
  refine⟨_,hu,trivial,fun y=> ?_⟩
  simp only[Instr.sameNow,iA,eP]
  congr 1
  by_cases e:x=y
  ·rw[decide_eq_true e];exact(MapKept.bytes_beq _ _).2 e
  ·rw[decide_eq_false e]
   cases hb:(x==y) with
   |false=>rfl
   |true=>exact absurd ((MapKept.bytes_beq _ _).1 hb) e
theorem Fl{kt vt:Ty}{d:TypeDesc}{k:El kt}(hk:kt.fV=true)(hs:∀y,Instr.sameNow d (iA kt k) (iA kt y)=some (eP kt k y)):∀(es:List MapEntry) (xs:List (El kt×El vt)) (i:Nat),es.length=xs.length->
 (∀(i:Nat) q e,xs[i]? =some q->es[i]? =some e->dD X kt q.1 e.key/\dD X vt q.2 e.val)->
 (dZ (eP kt) xs k=false/\dY (eP kt) (El.bH vt) xs k=El.bH vt/\Instr.findNow d (iA kt k) es i=some none)\/(dZ (eP kt) xs k=true/\∃j v,Instr.findNow d (iA kt k) es i=some (some (j,v))/\dD X vt (dY (eP kt) (El.bH vt) xs k) v)
 | [],[],i,_,_=> .inl ⟨rfl,rfl,rfl⟩
 |e::es,q::xs,i,hl,hp=>by
  obtain⟨h1,h2⟩:=hp 0 q e rfl rfl
  have hke:=zlh hk h1
  have gF:=hs q.1
  rw[<-hke] at gF
  simp only[Instr.findNow,gF,dZ,dY]
  cases heq:eP kt k q.1 with
  |true=>exact .inr ⟨rfl,i,e.val,rfl,h2⟩
  |false=>exact Fl hk hs es xs (i+1) (by simpa using hl) (fun i q e hq he=>hp (i+1) q e (by simpa using hq) (by simpa using he))
 | [],_::_,_,hl,_=>by simp at hl
 |_::_,[],_,hl,_=>by simp at hl
theorem zp1:∀{t:Ty},t.fD=true->t.depth<=2
 | .unit,_=>by decide
 | .pair (.int _) b,h=>by
   have:=zp1 (t:=b) h
   simp only[Ty.depth];omega
theorem z145:∀{t:Ty},t.fD=true->∀x y:El t,c9 t x y=some (rC t x y)
 | .unit,_,_,_=>rfl
 | .pair (.int _) b,h,x,y=>by
   have:=z145 (t:=b) h x.2 y.2
   simp only[c9,this,rC]
theorem fq(hE:aj P E){xs:Array Value}(w:World)(em:Bool)(n:Nat):
 ∀(fl:List Field) (t:Ty) (off:Nat),gO E fl t off->t.fD=true->∀(x:El t) (c1:List Value),aY X t x c1->(xs.toList.drop off).take t.cells=c1->
  (forIn fl () fun(f:Field) (_:Unit)=>(if f.name≠ "_" then do
    let __do_lift<-part f.type xs f.offset
    Instr.checkKey em (n+1) f.type __do_lift
    pure (ForInStep.yield ()) else pure (ForInStep.yield ()):Sem (ForInStep Unit))).run P w= .ok () w:=by
 intro fl
 induction fl with
 |nil=>intro t off hf hi x c1 h1 h3;simp [List.forIn_nil]
 |cons f fl Qa=>
  intro t off hf hi x c1 h1 h3
  cases t<;>simp only[gO] at hf<;>try exact hf.elim
  rename_i ta tb
  obtain⟨ho,AX,hn,bm⟩:=hf
  obtain⟨ca,cb,e1,ra,rb⟩:=h1
  have la:=ra.len
  have t1:(xs.toList.drop off).take ta.cells=ca:=by
   have:=congrArg (fun l=>l.take ta.cells) (h3.trans e1)
   simp only[List.take_take,Ty.cells] at this
   rw[Nat.min_eq_left (Nat.le_add_right _ _),<-la,List.take_left] at this
   rw[<-la];exact this
  have u1:(xs.toList.drop (off+ta.cells)).take tb.cells=cb:=by
   have:=congrArg (fun l=>l.drop ta.cells) (h3.trans e1)
   simp only[Ty.cells] at this
   rw[List.drop_take,Nat.add_sub_cancel_left,List.drop_drop,<-la,List.drop_left] at this
   rw[<-la];exact this
  have lZ:=zV hE AX ra (all:=xs) (off:=f.offset) (by rw[ho];exact t1) w
  cases ta<;>simp [Ty.fD] at hi
  rename_i k
  have hu:P.underlying f.type=some (.int k):=(hE.ty f.type _ AX).cQ
  have AN:(Instr.checkKey em (n+1) f.type (dk (.int k) ca)).run P w= .ok () w:=by
   rw[jG ra]
   exact MapKept.run_checkKey hu (by simp [MapKept.IsKey]) em n
  rw[List.forIn_cons]
  simp only[hn,ne_eq,not_false_eq_true,if_true,Sem.run_bind,lZ,AN,Result.andThen_ok,Sem.run_pure]
  exact Qa tb _ bm hi x.2 cb rb u1
theorem zxf{T:TypeId}{t:Ty}(hE:aj P E)(hT:E.ty T=some t)(hk:t.isKey=true){x:El t}{v:Value}(h:dD X t x v)(em:Bool)(w:World):(Instr.checkKey em 10000 T v).run P w= .ok () w:=by
 cases h1:t.fV with
 |true=>
  obtain⟨d,hd,IV,_⟩:=G6 hE hT h1 x
  rw[zlh h1 h]
  exact MapKept.run_checkKey hd IV em 9999
 |false=>
  have hu:=(hE.ty T t hT).cQ
  cases t<;>simp [Ty.isKey,Ty.fV] at hk h1
  rename_i ta tb
  obtain⟨fs,fT,gf,I3,_⟩:=hu
  obtain⟨cs,hr,rfl⟩:=h
  rw[hG rfl]
  unfold Instr.checkKey
  simp only[Sem.run_bind,run_underlying fT,Result.andThen_ok]
  rw[<-Array.forIn_toList]
  have:=fq (X:=X) hE (xs:=cs.toArray) w em 9998 fs.toList (.pair ta tb) 0 gf hk x cs hr (by have:=hr.len;simp only[List.drop_zero];rw[<-this];exact List.take_length)
  exact(congrArg (fun r=>Result.andThen r (fun a w'=>Sem.run P (pure ()) w')) this).trans (by simp)
theorem zjo(hE:aj P E){T:TypeId}{kt vt:Ty}(hT:E.ty T=some kt)(hk:kt.fD=true){k:El kt}{v:Value}(h:dD X kt k v)(w:World):∀(es:List MapEntry) (xs:List (El kt×El vt)) (i:Nat),es.length=xs.length->
 (∀(i:Nat) q e,xs[i]? =some q->es[i]? =some e->dD X kt q.1 e.key/\dD X vt q.2 e.val)->
 (dZ (rC kt) xs k=false/\dY (rC kt) (El.bH vt) xs k=El.bH vt/\(Instr.findAsking T v es i).run P w= .ok none w)\/(dZ (rC kt) xs k=true/\∃j u,(Instr.findAsking T v es i).run P w= .ok (some (j,u)) w/\dD X vt (dY (rC kt) (El.bH vt) xs k) u)
 | [],[],i,_,_=> .inl ⟨rfl,rfl,by simp [Instr.findAsking]⟩
 |e::es,q::xs,i,hl,hp=>by
  obtain⟨h1,h2⟩:=hp 0 q e rfl rfl
  obtain⟨c1,r1,rfl⟩:=h
  obtain⟨c2,r2,e2⟩:=h1
  have heq:(Op.equal T (dk kt c1) e.key).run P w= .ok (rC kt k q.1) w:=by
   rw[e2]
   exact zx1 (X:=X) hE w 10000 kt T hT (Nat.le_trans (zp1 hk) (by decide)) k q.1 c1 c2 _ r1 r2 (z145 hk k q.1)
  unfold Instr.findAsking
  simp only[Sem.run_bind,heq,Result.andThen_ok,dZ,dY]
  cases heq:rC kt k q.1 with
  |true=>exact .inr ⟨rfl,i,e.val,by simp,h2⟩
  |false=>exact zjo hE hT hk ⟨c1,r1,rfl⟩ w es xs (i+1) (by simpa using hl) (fun i q e hq he=>hp (i+1) q e (by simpa using hq) (by simpa using he))
 | [],_::_,_,hl,_=>by simp at hl
 |_::_,[],_,hl,_=>by simp at hl
theorem Ft(hE:aj P E){T:TypeId}{kt vt:Ty}(hT:E.ty T=some kt)(hk:kt.isKey=true){k:El kt}{v:Value}(h:dD X kt k v)(w:World)(es:List MapEntry)(xs:List (El kt×El vt))(hl:es.length=xs.length)
 (hp:∀(i:Nat) q e,xs[i]? =some q->es[i]? =some e->dD X kt q.1 e.key/\dD X vt q.2 e.val):
 (dZ (eP kt) xs k=false/\dY (eP kt) (El.bH vt) xs k=El.bH vt/\(Instr.findKey T v es).run P w= .ok none w)\/(dZ (eP kt) xs k=true/\∃j u,(Instr.findKey T v es).run P w= .ok (some (j,u)) w/\dD X vt (dY (eP kt) (El.bH vt) xs k) u):=by
 cases h1:kt.fV with
 |true=>
  obtain⟨d,hd,IV,gF⟩:=G6 hE hT h1 k
  rw[zlh h1 h]
  rcases Fl (X:=X) h1 gF es xs 0 hl hp with⟨g1,g2,g3⟩|⟨g1,j,u,g3,g4⟩
  ·exact .inl ⟨g1,g2,MapKept.run_findKey hd g3⟩
  ·exact .inr ⟨g1,j,u,MapKept.run_findKey hd g3,g4⟩
 |false=>
  have hu:=(hE.ty T kt hT).cQ
  cases kt<;>simp [Ty.isKey,Ty.fV] at hk h1
  rename_i ta tb
  obtain⟨fs,fT,_⟩:=hu
  have e:=run_findKey_eq (P:=P) w (k:=T) (by rw[fT]) v es
  have:=zjo (X:=X) hE hT hk h w es xs 0 hl hp
  rw[e]
  exact this
theorem zp8{T:TypeId}{kt vt:Ty}(hE:aj P E)(h:ld E T=some (kt,vt)):∃k e,P.underlying T=some (.map k e)/\E.ty k=some kt/\E.ty e=some vt/\kt.isKey=true:=by
 unfold ld at h
 split at h
 case h_2=>cases h
 rename_i k e hm
 split at h
 case h_2=>cases h
 rename_i Qb RW h1 h2
 split at h
 case isFalse=>cases h
 rename_i hk
 cases h
 exact⟨k,e,hE.mp T k e hm,h1,h2,hk⟩
theorem zjy{m:Operand}{kt vt:Ty}{R:Type}{K:Nat->List (El kt×El vt)->Option R}{z:R}(hr:Rel X s a)(h:rV s (s.aF m) kt vt K=some z):
 ∃id B r xs,K id xs=some z/\s.bs[id]? =some (some B)/\X.β id=some r/\X.ow r= .box id/\a.eval m= .map (some r)/\B.t.dK=false/\∃es clock,X.w.heap[r]? =some (.map es clock)/\es.size=xs.length/\
  ∀(i:Nat) (q:El kt×El vt) (e:MapEntry),xs[i]? =some q->es[i]? =some e->dD X kt q.1 e.key/\dD X vt q.2 e.val:=by
 have hx:=hr.aF m
 unfold rV at h
 split at h
 case h_2=>cases h
 rename_i id Qb RW hm
 rw[hm] at hx
 obtain⟨r,hβ,hv⟩:=hx
 split at h
 case isFalse=>cases h
 split at h
 case h_2=>cases h
 rename_i B hB
 split at h
 case isFalse=>cases h
 rename_i de
 have hb:=nw hB
 obtain⟨r',h1,h2,h3⟩:=hr.boxes id B hb
 rw[hβ] at h1
 cases h1
 refine⟨id,B,r,_,h,hb,hβ,h2,hv,by rw[Ty.aH de];rfl,?_⟩
 obtain⟨bt,bx,bo⟩:=B
 have e:=Ty.aH de
 simp only at e
 subst e
 exact h3
theorem Sc(hE:aj P E)(hr:Rel X s a){ops:List Oper}{T:TypeId}{rs:Option Operand}(ho:o.op= .makeMap T rs){C:FuncId->bI Out}(h:act E C ops o s some=some u):aG P X s a o u:=by
 unfold act at h
 cases rs with
 |some r=>simp only[ho] at h;cases h
 |none=>
  simp only[ho] at h
  split at h
  case h_2=>cases h
  rename_i kt vt hm
  refine ze1 hr (t:= .aI .mp kt vt) (p:= .aI .mp kt vt) (x:=([]:List (El kt×El vt))) (b:= .map #[] 0) (v:= .map (some X.w.heap.size)) ?_ (fun Y _ hY pl=>⟨#[],0,hY,rfl,fun i q e hq=>by simp at hq⟩) rfl h
  simp [execOp,ho,Instr.makeMap]
theorem Su(hE:aj P E)(hr:Rel X s a){ops:List Oper}{T:TypeId}{x i:Operand}{ok:Bool}(ho:o.op= .lookup T x i ok){C:FuncId->bI Out}(h:act E C ops o s some=some u):aG P X s a o u:=by
 unfold act at h
 cases ok with
 |true=>simp only[ho] at h;cases h
 |false=>
  simp only[ho] at h
  unfold js at h
  split at h
  case h_2=>cases h
  rename_i kt vt hm
  obtain⟨k,e,hu,hk,he,qt⟩:=zp8 hE hm
  obtain⟨id,B,r,xs,h,hb,hβ,how,hv,hBg,es,clock,aC,fa,eI⟩:=zjy hr h
  obtain⟨key,h,Px⟩:=zt h
  cases h
  obtain⟨ck,rk,evk⟩:=Px X _ _ (hr.aF i)
  have AN:=zxf hE hk qt (X:=X) (x:=key) ⟨ck,rk,evk⟩ es.isEmpty X.w
  rcases Ft (X:=X) hE hk qt (k:=key) ⟨ck,rk,evk⟩ X.w es.toList xs (by simpa using fa) (fun i q e hq he=>eI i q e hq (by simpa using he)) with⟨g1,g2,hf⟩|⟨g1,j,v,hf,g4⟩
  ·rw[g2]
   have hz:=JZ (P:=P) hE he X.w
   refine aG.plain hr (v:=dk vt (zl vt)) ?_ (wM (oQ X vt)) (fun _ _ _ e'=>by cases e')
   simp only[execOp,ho,Sem.run_bind,Instr.lookup,run_underlying hu,Result.andThen_ok,hv,MapKept.run_getObj_map aC,Sem.run_pure,AN,hf,hz,Bool.false_eq_true,if_false]
  ·obtain⟨cv,rv,ev⟩:=g4
   refine aG.plain hr (v:=v) ?_ ⟨cv,rv,ev,km⟩ (fun _ _ _ e'=>by cases e')
   simp only[execOp,ho,Sem.run_bind,Instr.lookup,run_underlying hu,Result.andThen_ok,hv,MapKept.run_getObj_map aC,Sem.run_pure,AN,hf,Bool.false_eq_true,if_false]
theorem Fj(hE:aj P E)(hr:Rel X s a){T:TypeId}{m k x:Operand}(ho:(execOp a.eval o).run P X.w=((Instr.mapUpdate T (a.eval m) (a.eval k) (a.eval x)).run P X.w).andThen fun _ w=> .ok .skip w)(h:kd E T s (s.aF m) (s.aF k) (s.aF x) some=some u):aG P X s a o u:=by
 unfold kd at h
 split at h
 case h_2=>cases h
 rename_i kt vt hm
 obtain⟨kT,eT,hu,hk,he,qt⟩:=zp8 hE hm
 obtain⟨id,B,r,xs,h,hb,hβ,how,hv,hBg,es,clock,aC,fa,eI⟩:=zjy hr h
 obtain⟨key,h,Px⟩:=zt h
 obtain⟨y,h,hyv⟩:=zt h
 obtain⟨ck,rk,xQ⟩:=Px X _ _ (hr.aF k)
 obtain⟨cy,ry,O1⟩:=hyv X _ _ (hr.aF x)
 have AN:=zxf hE hk qt (X:=X) (x:=key) ⟨ck,rk,xQ⟩ false X.w
 rcases Ft (X:=X) hE hk qt (k:=key) ⟨ck,rk,xQ⟩ X.w es.toList xs (by simpa using fa) (fun i q e hq he=>eI i q e hq (by simpa using he)) with⟨g1,g2,hf⟩|⟨g1,j,v,hf,g4⟩
 ·rw[g1] at h
  cases h
  let new:Obj:= .map (es.push {key:=a.eval k,val:=a.eval x,born:=clock}) (clock+1)
  have aR:(execOp a.eval o).run P X.w= .ok .skip (X.obj r new).w:=by
   rw[ho]
   simp only[Instr.mapUpdate,Sem.run_bind,run_underlying hu,Result.andThen_ok,hv,MapKept.run_getObj_map aC,AN,hf,MapKept.run_setObj_map _ aC]
   simp only[new]
   rfl
  have bp:bk (X.obj r new) id r ⟨.aI .mp kt vt,(xs++ [(key,y)]:List (El kt×El vt)),[]⟩:=by
   refine⟨how,es.push {key:=a.eval k,val:=a.eval x,born:=clock},clock+1,FD aC,by simp [fa],fun i q e hq he=> ?_⟩
   have hs:∀ad v,X.ax ad v->(X.obj r new).ax ad v:=fun _ _=>z49 how
   have hq:(xs++ [(key,y)])[i]? =some q:=hq
   rw[List.getElem?_append] at hq
   rw[Array.getElem?_push] at he
   split at hq
   ·rename_i aw
    rw[if_neg (by omega)] at he
    obtain⟨j1,j2⟩:=eI i q e hq he
    exact⟨j1.mono hs,j2.mono hs⟩
   ·rename_i aw
    have hi:i-xs.length=0:=by
     have:=(List.getElem?_eq_some_iff.1 hq).1
     simp at this
     omega
    rw[hi] at hq
    cases hq
    rw[if_pos (by omega)] at he
    cases he
    exact⟨dD.mono hs ⟨ck,rk,xQ⟩,dD.mono hs ⟨cy,ry,O1⟩⟩
  exact⟨X.obj r new,Go.undef,.inr ⟨aR,rfl⟩,Gv how,(hr.obj hb hβ how bp (.inl hBg)).skip o.dst⟩
 ·rw[g1] at h
  cases h
theorem z9p(hE:aj P E)(hr:Rel X s a){ops:List Oper}{T:TypeId}{m k x:Operand}(ho:o.op= .mapUpdate T m k x\/o.op= .insert T m k x){C:FuncId->bI Out}(h:act E C ops o s some=some u):aG P X s a o u:=by
 unfold act at h
 rcases ho with ho|ho
 ·simp only[ho] at h
  exact Fj hE hr (by simp [execOp,ho]) h
 ·simp only[ho] at h
  exact Fj hE hr (by simp [execOp,ho]) h
theorem SY(hE:aj P E)(hr:Rel X s a){ops:List Oper}{T:TypeId}{x:Operand}(ho:o.op= .range T x){C:FuncId->bI Out}(h:act E C ops o s some=some u):aG P X s a o u:=by
 unfold act at h
 simp only[ho] at h
 split at h
 case h_2=>cases h
 rename_i hT
 obtain⟨y,h,hy⟩:=zt h
 obtain⟨cs,ry,ev⟩:=hy X _ _ (hr.aF x)
 rw[lv ry] at ev
 have hu:=(hE.ty T _ hT).cQ
 refine ze1 hr (t:=iz) (p:=iz) (x:=((y,0):ByteArray×Nat)) (b:= .stringIter y 0) (v:= .pointer (some ⟨X.w.heap.size,0,none⟩)) ?_ (fun Y _ hY pl=>hY) ⟨rfl,trivial⟩ h
 simp [execOp,ho,Instr.range,run_underlying hu,ev]
theorem VH(hr:Rel X s a){ops:List Oper}{x:Operand}{str:Bool}(ho:o.op= .next x str){C:FuncId->bI Out}(h:act E C ops o s some=some u):aG P X s a o u:=by
 unfold act at h
 cases str with
 |false=>simp only[ho] at h;cases h
 |true=>
  simp only[ho] at h
  unfold ju at h
  have hx:=hr.aF x
  split at h
  case h_2=>cases h
  rename_i id hm
  rw[hm] at hx
  obtain⟨r,hβ,hv,_⟩:=hx
  split at h
  case h_2=>cases h
  rename_i B hB
  split at h
  case isFalse=>cases h
  rename_i de
  have hb:=nw hB
  obtain⟨r',h1,how,h3⟩:=hr.boxes id B hb
  rw[hβ] at h1
  cases h1
  have aC:X.w.heap[r]? =some (.stringIter (Ty.cast de B.x:ByteArray×Nat).1 (Ty.cast de B.x:ByteArray×Nat).2):=by
   obtain⟨bt,bx,bo⟩:=B
   have e:=Ty.aH de
   simp only at e
   subst e
   exact h3
  generalize(Ty.cast de B.x:ByteArray×Nat)=q at*
  obtain⟨st,pos⟩:=q
  simp only at h aC
  have hv:a.eval x= .pointer (some ⟨r,0,none⟩):=by simpa [Ty.off] using hv
  have cc:(getObj r).run P X.w= .ok (.stringIter st pos) X.w:=by simp [getObj,Sem.run,aC]
  cases aw:decide (pos<st.size) with
  |false=>
   rw[aw] at h
   cases h
   have aw:=of_decide_eq_false aw
   refine aG.plain hr (sv:= .over) (v:= .tuple #[.bool false]) ?_ rfl (fun _ _ _ e'=>by cases e')
   simp only[execOp,ho,Sem.run_bind,Instr.next,hv,cc,Result.andThen_ok,if_neg aw,Sem.run_pure]
  |true=>
   rw[aw] at h
   cases h
   have aw:=of_decide_eq_true aw
   let new:Obj:= .stringIter st (pos+(Utf8.decode st pos).2)
   have eh:(setObj r new).run P X.w= .ok () (X.obj r new).w:=by simp [setObj,Sem.run,aC,ar.obj]
   have bp:bk (X.obj r new) id r ⟨iz,((st,pos+(Utf8.decode st pos).2):ByteArray×Nat),[]⟩:=⟨how,FD aC⟩
   have eG:=hr.obj hb hβ how bp (.inl (by rw[Ty.aH de];rfl))
   refine⟨X.obj r new,.tuple #[.bool true,.int .i64 pos,.int .i32 (Utf8.decode st pos).1],.inl ?_,Gv how,?_⟩
   ·simp only[execOp,ho,Sem.run_bind,Instr.next,hv,cc,Result.andThen_ok,if_pos aw,Sem.run_pure]
    simp only[new] at eh
    rw[eh]
    rfl
   ·refine eG.put (fun d' e=>⟨_,rfl,rfl,fun j sv v hj hv=> ?_⟩) (fun id t' q hm=>by simp at hm)
    match j with
    |0=>cases hj;cases hv;exact lu
    |1=>cases hj;cases hv;exact zu
    |2=>cases hj;cases hv;exact zu
    |j+3=>simp at hj
theorem Zg{t:Ty}{k:Nat}(hk:(zl t).length=k)(n:Nat):((Array.range (n*k)).map fun i=>(zl t).toArray[i % (zl t).toArray.size]!).size=n*k/\
 ∀j,j<n->((((Array.range (n*k)).map fun i=>(zl t).toArray[i % (zl t).toArray.size]!).toList.drop (j*k)).take k)=zl t:=by
 refine⟨by simp,fun j hj=> ?_⟩
 apply List.ext_getElem?
 intro i
 rw[List.getElem?_take]
 split
 ·rename_i hi
  have aw:j*k+i<n*k:=by
   have:(j+1)*k<=n*k:=Nat.mul_le_mul_right _ hj
   rw[Nat.add_mul,Nat.one_mul] at this
   omega
  have yf:(j*k+i)% k=i:=by rw[Nat.mul_comm,Nat.mul_add_mod,Nat.mod_eq_of_lt hi]
  rw[List.getElem?_drop,Array.getElem?_toList,Array.getElem?_map,Array.getElem?_range,if_pos aw]
  simp only[Option.map_some,List.size_toArray,hk,yf]
  rw[List.getElem?_eq_getElem (by omega)]
  simp [getElem!_def,List.getElem?_eq_getElem (show i<(zl t).length by omega)]
 ·rename_i hi
  rw[List.getElem?_eq_none (by omega)]
theorem Fw(hE:aj P E){T e:TypeId}{t:Ty}(hT:E.ty T=some (.sl e t))(hk:t.cells≠0)(n6:E.bytes e≠0){n m:Int}(hn:0<=n)(hnm:n<=m)(hb:m*E.bytes e<=140737488355328)(w:World):
 m.toNat<=maxLen/\∃cur,cur.size=m.toNat*t.cells/\(∀j,j<m.toNat->(cur.toList.drop (j*t.cells)).take t.cells=zl t)/\
  (Instr.makeSlice T (.int .i64 n) (.int .i64 m)).run P w= .ok (.slice (some ⟨w.heap.size,0,none⟩) n.toNat m.toNat) (w.alloc (.cells cur e)):=by
 obtain⟨hu,he⟩:=(hE.ty T _ hT).cQ
 obtain⟨i,hi,bN,eR,hz⟩:=(hE.ty e t he).info
 have hle:m<=m*E.bytes e:=by
  have h1:(1:Int)<=E.bytes e:=by omega
  have:=Int.mul_le_mul_of_nonneg_left h1 (show 0<=m by omega)
  simpa using this
 have AU:m.toNat<=maxLen:=by simp only[maxLen];omega
 have jX:(dk t (zl t)).cells=(zl t).toArray:=rM (X:=⟨w,fun _=> .all,fun _=>none⟩) (oQ _ t)
 obtain⟨z1,z2⟩:=Zg (ri t) m.toNat
 refine⟨AU,(Array.range (m.toNat*t.cells)).map (fun i=>(zl t).toArray[i % (zl t).toArray.size]!),z1,z2,?_⟩
 have I6:IntKind.i64.wrap n=n:=by simp [IntKind.wrap,IntKind.signed,IntKind.bits];omega
 have rH:IntKind.i64.wrap m=m:=by simp [IntKind.wrap,IntKind.signed,IntKind.bits];omega
 have hmul:(i.bytes:Int)*m<=2^48:=by rw[eR,Int.mul_comm];omega
 have c1:¬m<0:=by omega
 have c2:¬(281474976710656:Int)<(i.bytes:Int)*m:=by omega
 have c3:¬n<0:=by omega
 have c4:¬m<n:=by omega
 have hai:∀(n:Int) (w:World),(asInt (.int .i64 n)).run P w= .ok n w:=fun n w=>by simp [asInt,asIntOf]
 have PX:∀w:World,(typeInfo e).run P w= .ok i w:=fun w=>by simp [typeInfo,hi]
 have fR:∀w:World,(sizeOf e).run P w= .ok t.cells w:=fun w=>zw hE he w
 have hzv:∀w:World,(zeroValue e).run P w= .ok (dk t (zl t)) w:=fun w=>JZ hE he w
 simp only[Instr.makeSlice,Sem.run_bind,run_underlying hu,Result.andThen_ok,hai,PX,I6,rH]
 by_cases h0:m.toNat*t.cells=0
 ·simp [c1,c2,c3,c4,fR,h0,newRow]
  rw[show Array.range 0= #[] from rfl]
  simp
 ·simp [c1,c2,c3,c4,fR,h0,hzv,jX,newRow]
theorem zw4(hE:aj P E)(hr:Rel X s a){ops:List Oper}{T:TypeId}{l c:Operand}(ho:o.op= .makeSlice T l c){C:FuncId->bI Out}(h:act E C ops o s some=some u):aG P X s a o u:=by
 unfold act at h
 simp only[ho] at h
 unfold jt at h
 split at h
 case h_2=>cases h
 rename_i e t hT
 split at h
 ·cases h
 rename_i bB
 have n6:E.bytes e≠0:=fun e0=>bB (by rw[e0];rfl)
 have hk:t.cells≠0:=fun e0=>bB (by rw[e0];simp)
 obtain⟨n,h,hn⟩:=zt h
 obtain⟨m,h,hm⟩:=zt h
 obtain⟨_,rn,en⟩:=hn X _ _ (hr.aF l)
 rw[jG rn] at en
 obtain⟨_,rm,em⟩:=hm X _ _ (hr.aF c)
 rw[jG rm] at em
 cases hc:Gr l with
 |true=>
  rw[hc] at h
  simp only[cond_true] at h
  cases d1:decide (n=0)<;>rw[d1] at h<;>simp only[cond_true,cond_false] at h
  ·cases h
  cases d2:decide (0<=m)<;>rw[d2] at h<;>simp only[cond_true,cond_false] at h
  ·cases h
  cases d3:decide (m*E.bytes e<=140737488355328)<;>rw[d3] at h<;>simp only[cond_true,cond_false] at h
  ·cases h
  cases h
  have d1:=of_decide_eq_true d1
  have d2:=of_decide_eq_true d2
  have d3:=of_decide_eq_true d3
  subst d1
  obtain⟨AU,cur,g1,g2,aR⟩:=Fw (P:=P) hE hT hk n6 (n:=0) (m:=m) (by omega) d2 d3 X.w
  have tw:dO s X (X.iV (.cells cur e) (.row (.c (o.dst.getD 0) 0 []) 0) X.β):=zxe X _ _ _ _ rfl (fun _ _ _=>rfl)
  refine⟨X.iV (.cells cur e) (.row (.c (o.dst.getD 0) 0 []) 0) X.β,.slice (some ⟨X.w.heap.size,0,none⟩) 0 m.toNat,.inl ?_,tw.ext,(hr.cS tw).fin ⟨[.slice (some ⟨X.w.heap.size,0,none⟩) 0 m.toNat],⟨_,_,rfl,Nat.zero_le _,fun j x hj=>by simp at hj⟩,rfl,fun p hp=> ?_⟩ (fun id t p hm=>by simp at hm)⟩
  ·simp only[execOp,ho,Sem.run_bind,en,em,aR,Result.andThen_ok,Sem.run_pure]
   rfl
  ·have hp:p=[]:=by simpa using hp
   subst hp
   refine⟨e,t,[],_,by simp [Ty.dJ],rfl,rfl,.inr ⟨X.w.heap.size,m.toNat,cur,rfl,heap_alloc_new X.w _,Nat.zero_le _,AU,g1,?_⟩⟩
   simp [ar.iV]
 |false=>
  rw[hc] at h
  simp only[cond_false] at h
  cases d1:decide (n=m)<;>rw[d1] at h<;>simp only[cond_true,cond_false] at h
  ·cases h
  cases d2:decide (0<=n)<;>rw[d2] at h<;>simp only[cond_true,cond_false] at h
  ·cases h
  cases d3:decide (n*E.bytes e<=140737488355328)<;>rw[d3] at h<;>simp only[cond_true,cond_false] at h
  ·cases h
  have d1:=of_decide_eq_true d1
  have d2:=of_decide_eq_true d2
  have d3:=of_decide_eq_true d3
  have d1:m=n:=d1.symm
  subst d1
  obtain⟨AU,cur,g1,g2,aR⟩:=Fw (P:=P) hE hT hk n6 (n:=m) (m:=m) d2 (Int.le_refl _) d3 X.w
  refine ze1 hr (t:= .aI .row t .unit) (p:= .aI (.gW m.toNat) t .unit) (x:=(List.replicate m.toNat (El.bH t):List (El t))) (b:= .cells cur e) (v:= .slice (some ⟨X.w.heap.size,0,none⟩) m.toNat m.toNat) ?_ (fun Y _ hY pl=>⟨cur,e,hY,?_,fun j x hj=> ?_⟩) ⟨_,rfl,Nat.le_refl _⟩ h
  ·simp only[execOp,ho,Sem.run_bind,en,em,aR,Result.andThen_ok,Sem.run_pure]
  ·rw[g1];show _=List.length (List.replicate _ _)*_;rw[List.length_replicate]
  ·have hj:(List.replicate m.toNat (El.bH t))[j]? =some x:=hj
   rw[List.getElem?_replicate] at hj
   split at hj
   ·rename_i aw
    cases hj
    rw[g2 j aw]
    exact oQ Y t
   ·cases hj
end Go.Ref

namespace Go.Ref
open Go
variable {P:Program} {E:Env} {X:ar} {s:State} {a:Act} {o:Oper} {u:Out}
theorem Yw(hE:aj P E)(hr:Rel X s a){ops:List Oper}{T:TypeId}{x:Operand}{lo hi:Option Operand}(ho:o.op= .slice T x lo hi none){C:FuncId->bI Out}(h:act E C ops o s some=some u):aG P X s a o u:=by
 unfold act at h
 simp only[ho] at h
 split at h
 ·rename_i id n ta tb cX
  split at h
  case h_2=>cases h
  rename_i e t hT
  split at h
  case isFalse=>cases h
  rename_i heq
  have:=Ty.aH heq
  subst this
  unfold qg at h
  split at h
  ·cases h
  rename_i D3
  have yc:hi=none:=by
   cases hi with
   |none=>rfl
   |some _=>cases D3
  subst yc
  obtain⟨l,h,h1,hl⟩:=z8g h
  cases h
  have hx:=hr.aF x
  rw[cX] at hx
  obtain⟨r0,hβ,cap,hv,kO⟩:=hx
  have hu:=(hE.ty T _ hT).cQ
  have hbd:=zad (P:=P) (isS:=true) hr hl (hi:=none) (m:=n) (n:=n) (c:=cap) rfl h1 (Nat.le_refl _) kO X.w
  rw[Option.map_none] at hbd
  refine aG.plain hr (v:= .slice (if cap=l then some ⟨r0,0,none⟩ else(some (⟨r0,0,none⟩:Addr)).map (·.add (l*ta.cells))) (n-l) (cap-l)) ?_ ⟨r0,hβ,?_⟩ (fun _ _ _ e=>by cases e;exact oR hr cX)
  ·simp only[execOp,ho,Sem.run_bind,Instr.sliceAt,run_underlying hu.1,Result.andThen_ok,Instr.slice,hv,Option.map_none,hbd,Sem.run_pure,zw hE hu.2]
  ·show∃tf off,_=Value.slice (some ⟨r0,off,none⟩) (n-l) tf/\_
   by_cases e':cap=l
   ·rw[if_pos e']
    exact⟨_,_,rfl,by omega,h1,.inl ⟨by omega,rfl⟩⟩
   ·rw[if_neg e']
    refine⟨cap-l,l*ta.cells,?_,by omega,h1,.inr rfl⟩
    rw[Option.map_some,zy,Nat.zero_add]
 ·rename_i id n t cX
  have hx:=hr.aF x
  rw[cX] at hx
  obtain⟨r0,hβ,hv⟩:=hx
  unfold nZ at h
  split at h
  case h_2=>cases h
  rename_i u' hT ye D3
  have lo0:lo=none:=by
   cases lo with
   |none=>rfl
   |some _=>cases ye
  have yc:hi=none:=by
   cases hi with
   |none=>rfl
   |some _=>cases D3
  subst lo0 yc
  split at h
  case isFalse=>cases h
  rename_i heq
  have:=Ty.aH heq
  subst this
  split at h
  case h_2=>cases h
  rename_i B hB
  split at h
  case isFalse=>cases h
  rename_i de
  cases h
  have hb:=nw hB
  obtain⟨r,h1,ql⟩:=hr.boxes id B hb
  rw[hβ] at h1
  cases h1
  obtain⟨bt,bx,bo⟩:=B
  have e:=Ty.aH de
  simp only at e
  subst e
  obtain⟨cs,T',aC,aK,how,_⟩:=ql.cells rfl
  have hv:a.eval x= .pointer (some ⟨r0,0,none⟩):=by rw[((nv rfl).1 hv).1];rfl
  obtain⟨e,fT,gf,_⟩:=(hE.ty T _ hT).cQ
  have hlen:List.length (bx:List (El t))=n:=aK.1
  have bp:bk X id r0 ⟨.aI .row t .unit,(bx:List (El t)),[]⟩:=⟨how,cs,T',aC,by have:=aK.2.1;rw[hlen];simpa using this,aK.2.2⟩
  have DY:(Ty.cast de bx:El (.arr n t))=bx:=rfl
  rw[DY]
  refine⟨X,.slice (some ⟨r0,0,none⟩) n n,.inl ?_,Ext.refl X,(hr.kb hb hβ bp (.inl rfl)).fin ⟨r0,hβ,n,rfl,Nat.le_refl _⟩ (fun aV t' p' hm=> ?_)⟩
  ·simp only[execOp,ho,Sem.run_bind,Instr.sliceAt,run_underlying fT,Result.andThen_ok,Option.map_none,hv,Instr.sureAddr,Sem.run_pure,zw hE gf]
   simp [Instr.sliceBounds]
   intro _
   rw[zy]
  ·have oK:SV.ptr aV t' p'= .ptr id (.aI (.gW n) t .unit) []:=by simpa using hm
   cases oK
   exact⟨_,Jy hb⟩
 ·exact VE hE hr ho h
theorem zy9(hr:Rel X s a){ops:List Oper}{fn:Fn}{fi ca:Array Operand}(ho:o.op= .makeFunc fn fi ca){C:FuncId->bI Out}(h:act E C ops o s some=some u):aG P X s a o u:=by
 unfold act at h
 cases fn with
 |func f=>
  simp only[ho] at h
  split at h
  case h_3=>cases h
  case h_2=>
   rename_i x y qo xX
   have qo:fi= #[]:=by rw[<-Array.toArray_toList (xs:=fi),qo]
   have xX:ca= #[x,y]:=by rw[<-Array.toArray_toList (xs:=ca),xX]
   subst qo xX
   unfold qc at h
   split at h
   case h_2=>cases h
   rename_i t x1 u' y1 cX EC
   cases h
   have hx:=hr.aF x
   have hy:=hr.aF y
   rw[cX] at hx
   rw[EC] at hy
   obtain⟨ad,cs,h1,h2,h3,h4⟩:=hx
   obtain⟨nk,dI,k1,k2,k3,k4⟩:=hy
   refine aG.plain hr (v:= .func (.func f) #[] #[.pointer (some ad),.pointer (some nk)]) ?_ ⟨ad,nk,cs,dI,rfl,⟨h2,h3,h4⟩,k2,k3,k4⟩ (fun _ _ _ e=>by cases e)
   simp [execOp,ho,Instr.makeFunc,h1,k1]
  rename_i x qo xX
  have qo:fi= #[]:=by rw[<-Array.toArray_toList (xs:=fi),qo]
  have xX:ca= #[x]:=by rw[<-Array.toArray_toList (xs:=ca),xX]
  subst qo xX
  unfold kH at h
  split at h
  case h_2=>cases h
  rename_i id u' cX
  split at h
  case isTrue=>cases h
  rename_i hs
  cases h
  have hx:=hr.aF x
  rw[cX] at hx
  obtain⟨r0,hβ,hv⟩:=hx
  have hv:=((HA (by simpa using hs)).1 hv).1
  refine aG.plain hr (v:= .func (.func f) #[] #[.pointer (some ⟨r0,0,none⟩)]) ?_ ⟨r0,hβ,rfl⟩ (fun _ _ _ e=>by cases e;exact oR hr cX)
  have hv:a.eval x= .pointer (some ⟨r0,0,none⟩):=by rw[hv];simp [Ty.off]
  simp [execOp,ho,Instr.makeFunc,hv]
 |_=>simp only[ho] at h;cases h
theorem Fe{t:Ty}{xs:List (El t)}{n l:Nat}{cs:List Value}(h:aY X (.arr n t) xs cs)(hl:l<=n):aY X (.arr l t) (xs.take l:List (El t)) (cs.take (l*t.cells)):=by
 obtain⟨h1,h2,h3⟩:=h
 have hm:=Nat.mul_le_mul_right t.cells hl
 refine⟨by rw[List.length_take];omega,by rw[List.length_take];omega,fun j y hj=> ?_⟩
 have hj:(xs.take l)[j]? =some y:=hj
 rw[List.getElem?_take] at hj
 split at hj
 case isFalse=>cases hj
 rename_i qs
 have hk:(j+1)*t.cells<=l*t.cells:=Nat.mul_le_mul_right _ qs
 rw[Nat.add_mul,Nat.one_mul] at hk
 have e:((cs.take (l*t.cells)).drop (j*t.cells)).take t.cells=(cs.drop (j*t.cells)).take t.cells:=by
  rw[List.drop_take,List.take_take,Nat.min_eq_left (by omega)]
 rw[e]
 exact h3 j y hj
theorem Fc{t:Ty}{xs:List (El t)}{n l:Nat}{cs:List Value}(h:aY X (.arr n t) xs cs)(hl:l<=n):aY X (.arr (n-l) t) (xs.drop l:List (El t)) (cs.drop (l*t.cells)):=by
 obtain⟨h1,h2,h3⟩:=h
 refine⟨by rw[List.length_drop];omega,by rw[List.length_drop,Nat.sub_mul];omega,fun j y hj=> ?_⟩
 have hj:(xs.drop l)[j]? =some y:=hj
 rw[List.getElem?_drop] at hj
 rw[List.drop_drop,<-Nat.add_mul]
 exact h3 (l+j) y hj
theorem FH{α:Type}(xs ys:List α)(lo:Nat)(h:lo+ys.length<=xs.length):(cu xs ys lo).length=xs.length:=by
 unfold cu;simp;omega
theorem zon(hE:aj P E)(hr:Rel X s a){d x:Operand}{T e:TypeId}{t:Ty}{ts:Array TypeId}(ho:o.op= .call ⟨.builtin .copy,#[d,x],ts⟩)(n9:ts[0]? =some T)(hT:E.ty T=some (.sl e t)){id n lo:Nat}{ta tb:Ty}{p:List Nat}
 (cX:s.aF d= .ptr id (.aI (.gW n) ta tb) p) (oc:∀r,lk (.aI (.gW n) ta tb) p r (a.eval d)->∃cap off,a.eval d= .slice (some ⟨r,off,none⟩) (n-lo) cap/\lo<=n/\((n=lo/\off=0)\/off=lo*ta.cells))
 (h:fN t s id n lo ta tb (s.aF x) e some=some u):aG P X s a o u:=by
 have hx:=hr.aF d
 rw[cX] at hx
 obtain⟨r0,hβ,hv⟩:=hx
 unfold fN at h
 split at h
 case isFalse=>cases h
 rename_i heq
 have:=Ty.aH heq
 subst this
 obtain⟨ys,h,qJ⟩:=zt h
 split at h
 case h_2=>cases h
 rename_i B hB
 split at h
 case isFalse=>cases h
 rename_i de
 obtain⟨hb,r,h1,how,cs,T',aC,fa,eI⟩:=Aq hr hB de
 rw[hβ] at h1
 cases h1
 generalize(Ty.cast de B.x:List (El ta))=xs at*
 cases hn:Nat.beq n (List.length xs)<;>rw[hn] at h
 ·cases h
 cases ye:Nat.ble lo n<;>rw[ye] at h
 ·cases h
 cases h
 have hn:=Nat.eq_of_beq_eq_true hn
 have ye:=Nat.le_of_ble_eq_true ye
 obtain⟨cap,off,hd,_,tA⟩:=oc r0 hv
 obtain⟨cx,jz,ev⟩:=qJ X _ _ (hr.aF x)
 have RP:=jz
 obtain⟨A,c,tm,_⟩:=RP
 have ev:a.eval x= .slice A ys.length c:=by rw[ev,tm];rfl
 rw[tm] at jz
 obtain⟨_,hc,cy,ry,ny,sy⟩:=z8j (X:=X) jz
 have hu:=(hE.ty T _ hT).cQ
 have hm:(ys.take (n-lo)).length=min ys.length (n-lo):=by rw[List.length_take,Nat.min_comm]
 generalize AV:min ys.length (n-lo)=m at hm
 have hmy:m<=ys.length:=by omega
 have hmn:m<=n-lo:=by omega
 have htk:ys.take (n-lo)=ys.take m:=by
  rw[<-AV]
  rcases Nat.le_total ys.length (n-lo) with g|g
  ·rw[Nat.min_eq_left g,List.take_of_length_le g,List.take_of_length_le (Nat.le_refl _)]
  ·rw[Nat.min_eq_right g]
 have rz:=Fe ry hmy
 have EE:(cy.take (m*ta.cells)).length=m*ta.cells:=rz.2.1
 have eH:aY X (.arr xs.length ta) xs cs.toList:=⟨rfl,by simpa using fa,eI⟩
 have iu:(Builtin.firstCells ta.cells m (a.eval x)).run P X.w= .ok (cy.take (m*ta.cells)).toArray X.w:=by
  rw[ev]
  cases A with
  |none=>
   have:=ny rfl
   subst this
   have:m=0:=by simpa using hmy
   subst this
   simp [Builtin.firstCells]
  |some ad=>
   have:=run_loadCells_list (P:=P) X.w ad (cy.take (m*ta.cells)) (fun j v hj=>by
    rw[List.getElem?_take] at hj
    split at hj
    ·exact(sy ad rfl j v hj).2.1
    ·cases hj)
   rw[EE] at this
   simpa [Builtin.firstCells] using this
 have cM:off+0+(cy.take (m*ta.cells)).length<=cs.size:=by
  rw[EE,fa,<-hn]
  rcases tA with⟨g1,g2⟩|g
  ·have:m=0:=by omega
   subst this
   omega
  ·rw[g,Nat.add_zero,<-Nat.add_mul]
   exact Nat.mul_le_mul_right _ (by omega)
 let new:=(cs.toList.take off++cy.take (m*ta.cells)++cs.toList.drop (off+(cy.take (m*ta.cells)).length)).toArray
 have bL:=run_storeCells_at P r0 off T' (cy.take (m*ta.cells)) 0 cs X.w aC cM rz.one
 simp only[Nat.add_zero] at bL cM
 have aR:(execOp a.eval o).run P X.w= .ok (.value (.int .i64 m)) (X.row r0 new).w:=by
  have Pz:Nat.min ys.length (n-lo)=m:=AV
  simp only[execOp,ho,resolve,invoke,builtin,Sem.run_bind,Sem.run_pure,Result.andThen_ok,List.map_toArray,List.map_cons,List.map_nil,Builtin.copy_,n9,hd]
  have e1:(Builtin.lenOf (a.eval x)).run P X.w= .ok ys.length X.w:=by rw[ev];simp [Builtin.lenOf]
  simp [run_underlying hu.1,e1,Pz,iu,bL,goInt,zw hE hu.2]
  show _=X.w.setRow r0 new
  congr 1
  simp [new]
 have dn:new.toList=cs.toList.take off++cy.take (m*ta.cells)++cs.toList.drop (off+(cy.take (m*ta.cells)).length):=rfl
 have aK:aY X (.arr xs.length ta) (cu xs (ys.take m) lo:List (El ta)) new.toList:=by
  rw[dn,EE]
  by_cases m0:m=0
  ·subst m0
   have e1:cu xs (ys.take 0) lo=xs:=by unfold cu;simp
   rw[e1]
   simpa using eH
  ·have g:off=lo*ta.cells:=by rcases tA with⟨g1,_⟩|g<;>omega
   have h1:=Fe eH (show lo<=xs.length by omega)
   have h3:=Fc eH (show lo+m<=xs.length by omega)
   have:=Bb h1 (Bb rz h3)
   rw[show lo+(m+(xs.length-(lo+m)))=xs.length by omega] at this
   unfold cu
   rw[show(ys.take m).length=m by rw[List.length_take];omega,g,<-Nat.add_mul,List.append_assoc]
   exact this
 have bN:new.size=cs.size:=by
  have h1:new.toList.length=xs.length*ta.cells:=aK.2.1
  rw[fa,<-h1];simp
 have bp:bk (X.row r0 new) id r0 ⟨.aI .row ta tb,(cu xs (ys.take (n-lo)) lo:List (El ta)),[]⟩:=by
  rw[htk]
  refine⟨how,new,T',setRow_heap X.w r0 cs new T' (0,0) aC,?_,fun j z hj=> ?_⟩
  ·rw[bN,fa]
   show _=List.length (cu xs (ys.take m) lo)*_
   rw[FH _ _ _ (by rw[List.length_take];omega)]
  ·exact aY.ag (fun _ _=>ko (cs:=new) how) (aK.2.2 j z hj)
 refine⟨X.row r0 new,.int .i64 m,.inl aR,Ar how,?_⟩
 rw[hm]
 exact(hr.row hb hβ how bp (.inl (by rw[Ty.aH de];rfl))).fin zu (fun id t p hm=>by simp [i64] at hm)
theorem Vs{X:ar}(l:List UInt8):aY X (.arr l.length (.int .u8)) (l.map fun c=>(c.toNat:Int):List Int) (l.map fun c=>Value.int .u8 c.toNat):=by
 refine⟨by show(l.map _).length=_;simp,by simp [Ty.cells],fun j y hj=> ?_⟩
 have hj:(l.map fun c=>(c.toNat:Int))[j]? =some y:=hj
 rw[List.getElem?_map] at hj
 obtain⟨c,hc,rfl⟩:=Option.map_eq_some_iff.1 hj
 have:((l.map fun c=>Value.int .u8 c.toNat).drop (j*(Ty.int IntKind.u8).cells)).take (Ty.int IntKind.u8).cells=[Value.int .u8 c.toNat]:=by
  rw[show(Ty.int IntKind.u8).cells=1 from rfl,Nat.mul_one]
  apply List.ext_getElem?
  intro i
  rw[List.getElem?_take]
  cases i with
  |zero=>simp [hc]
  |succ i=>simp
 rw[this]
 rfl
theorem z157(hE:aj P E)(hr:Rel X s a){d x:Operand}{T e:TypeId}{t:Ty}{ts:Array TypeId}(ho:o.op= .call ⟨.builtin .copy,#[d,x],ts⟩)(n9:ts[0]? =some T)(hT:E.ty T=some (.sl e t)){id n:Nat}{ta tb:Ty}
 (cX:s.aF d= .ptr id (.aI (.gW n) ta tb) []) {y:ByteArray} {w:List (List Nat)} (EC:s.aF x= .ai .str y w) (h:iq t s id n ta tb y some=some u):aG P X s a o u:=by
 have hx:=hr.aF d
 rw[cX] at hx
 obtain⟨r0,hβ,cap,hd,kO⟩:=hx
 unfold iq at h
 split at h
 case isFalse=>cases h
 rename_i Po
 have:=Ty.aH Po
 subst this
 split at h
 case isFalse=>cases h
 rename_i heq
 have:=Ty.aH heq
 subst this
 split at h
 case h_2=>cases h
 rename_i B hB
 split at h
 case isFalse=>cases h
 rename_i de
 obtain⟨hb,r,h1,how,cs,T',aC,fa,eI⟩:=Aq hr hB de
 rw[hβ] at h1
 cases h1
 generalize(Ty.cast de B.x:List Int)=xs at*
 cases hn:Nat.beq n (List.length xs)<;>rw[hn] at h
 ·cases h
 cases h
 have hn:=Nat.eq_of_beq_eq_true hn
 have hy:=hr.aF x
 rw[EC] at hy
 obtain⟨cy,ry,ev,_⟩:=hy
 have ev:a.eval x= .string y:=by rw[ev,lv ry]
 have hu:=(hE.ty T _ hT).cQ
 have rF:(Ty.int IntKind.u8).cells=1:=rfl
 rw[rF,Nat.mul_one] at fa
 let l:=y.data.toList.take n
 have IX:l.length=min n y.size:=by simp [l]
 have IU:List.take n (nA y)=l.map fun c=>(c.toNat:Int):=by simp [nA,l]
 have iu:(Builtin.firstCells 1 (Nat.min y.size n) (.string y)).run P X.w= .ok (l.map fun c=>Value.int .u8 c.toNat).toArray X.w:=by
  have e1:((y.extract 0 (Nat.min y.size n)).data.map fun b=>Value.int .u8 b.toNat)=(l.map fun c=>Value.int .u8 c.toNat).toArray:=by
   apply Array.ext'
   have e0:(y.extract 0 (Nat.min y.size n)).data.toList=l:=by
    rw[ByteArray.data_extract,Array.toList_extract,List.extract_eq_take_drop]
    show List.take (Nat.min y.size n-0) (y.data.toList.drop 0)=y.data.toList.take n
    rw[Nat.sub_zero,List.drop_zero]
    show List.take (min y.data.toList.length n) y.data.toList=y.data.toList.take n
    rw[Nat.min_comm,<-List.take_eq_take_min]
   rw[Array.toList_map,e0]
  simp only[Builtin.firstCells,Sem.run_pure,e1]
 have cM:0+(l.map fun c=>Value.int .u8 c.toNat).length<=cs.size:=by
  rw[List.length_map,fa,<-hn,IX];omega
 let new:=((l.map fun c=>Value.int .u8 c.toNat)++cs.toList.drop l.length).toArray
 have rz:=Vs (X:=X) l
 have bL:=run_storeCells_at P r0 0 T' (l.map fun c=>Value.int .u8 c.toNat) 0 cs X.w aC (by simpa using cM) rz.one
 have aR:(execOp a.eval o).run P X.w= .ok (.value (.int .i64 (l.length:Nat))) (X.row r0 new).w:=by
  have e1:(Builtin.lenOf (a.eval x)).run P X.w= .ok y.size X.w:=by rw[ev];simp [Builtin.lenOf]
  have e2:Nat.min y.size n=l.length:=by rw[IX];exact Nat.min_comm _ _
  have e3:=iu
  rw[e2] at e3
  simp only[execOp,ho,resolve,invoke,builtin,Sem.run_bind,Sem.run_pure,Result.andThen_ok,List.map_toArray,List.map_cons,List.map_nil,Builtin.copy_,n9,hd]
  rw[ev] at e1⊢
  simp [run_underlying hu.1,e1,e2,e3,bL,goInt,zw hE hu.2,rF]
  rfl
 have eH:aY X (.arr xs.length (.int .u8)) xs cs.toList:=⟨rfl,by simpa [rF] using fa,eI⟩
 have aK:aY X (.arr xs.length (.int .u8)) (cu xs (l.map fun c=>(c.toNat:Int)) 0:List Int) new.toList:=by
  have hle:l.length<=xs.length:=by rw[IX];omega
  have h3:=Fc eH hle
  have:=Bb rz h3
  rw[show l.length+(xs.length-l.length)=xs.length by omega] at this
  unfold cu
  simp only[List.take_zero,List.nil_append,Nat.zero_add,List.length_map]
  rw[rF,Nat.mul_one] at this
  exact this
 have bN:new.size=cs.size:=by
  have h1:new.toList.length=xs.length*1:=aK.2.1
  rw[fa];simpa using h1
 have bp:bk (X.row r0 new) id r0 ⟨.aI .row (.int .u8) tb,(cu xs (List.take n (nA y)) 0:List Int),[]⟩:=by
  rw[IU]
  refine⟨how,new,T',setRow_heap X.w r0 cs new T' (0,0) aC,?_,fun j z hj=> ?_⟩
  ·rw[bN,fa]
   show _=List.length (cu xs (l.map fun c=>(c.toNat:Int)) 0)*_
   rw[FH _ _ _ (by rw[List.length_map,IX];omega)]
   simp [rF]
  ·exact aY.ag (fun _ _=>ko (cs:=new) how) (aK.2.2 j z hj)
 refine⟨X.row r0 new,.int .i64 (l.length:Nat),.inl aR,Ar how,?_⟩
 have Ea:(List.take n (nA y)).length=l.length:=by rw[IU,List.length_map]
 rw[Ea]
 exact(hr.row hb hβ how bp (.inl (by rw[Ty.aH de];rfl))).fin zu (fun id t p hm=>by simp [i64] at hm)
theorem VD(hE:aj P E)(hr:Rel X s a){ops:List Oper}{dd:Array Operand}{ts:Array TypeId}(ho:o.op= .call ⟨.builtin .copy,dd,ts⟩){C:FuncId->bI Out}(h:act E C ops o s some=some u):aG P X s a o u:=by
 unfold act at h
 simp only[ho] at h
 split at h
 case h_2=>cases h
 rename_i d x T r qI xU
 have has:dd= #[d,x]:=by rw[<-Array.toArray_toList (xs:=dd),qI]
 have n9:ts[0]? =some T:=by rw[<-Array.getElem?_toList,xU];rfl
 subst has
 unfold copyV at h
 split at h
 ·rename_i e t id n ta tb hT cX
  split at h
  ·rename_i y w EC
   exact z157 hE hr ho n9 hT cX EC h
  ·exact zon hE hr ho n9 hT cX (fun r hv=>by
    obtain⟨cap,h1,h2⟩:=hv
    exact⟨cap,0,h1,Nat.zero_le _,.inr (by simp)⟩) h
 ·rename_i e t id n ta tb l hT cX
  exact zon hE hr ho n9 hT cX (fun r hv=>by
   obtain⟨cap,off,h1,h2,h3,h4⟩:=hv
   exact⟨cap,off,h1,h3,h4⟩) h
 ·cases h
end Go.Ref

namespace Go.Ref
open Go
variable {P:Program} {E:Env} {X:ar} {s:State} {a:Act} {o:Oper} {u:Out}
structure hP(X:ar)(l:List SV)(b:Option bj)(args:Array Value):Prop where
 size:args.size=l.length
 rep:∀(i:Nat) sv v,l[i]? =some sv->args[i]? =some v->ay X (.c i 0) sv v
 ptr:∀id t p,SV.ptr id t p∈l->id=0/\b.isSome=true
 box:∀B,b=some B->∃r,X.β 0=some r/\bk X 0 r B
 rows:b=none->∀g pl n,X.ow g≠ .row pl n
 l8:l.any SV.bu=false
def uy(X Y:ar)(b:Option bj)(r:List SV)(b':Option bj)(v:Value):Prop:=
 ∃r0,ct {Y with β:=fun _=>some r0} .r r v/\
  (∀B',b'=some B'->bk Y 0 r0 B'/\(b.isSome=true->X.β 0=some r0))/\
  ((b'=none\/b.isSome=true)->∀id t p,SV.ptr id t p∉r)/\r.any SV.bu=false
def oF(P:Program)(f:FuncId):Prop:=∃fn c,P.funcs[f]? =some fn/\(fn.name== "runtime.NumGoroutine")=false/\fn.body=some c
def cG(P:Program)(C:af)(f:FuncId):Prop:=
 ∀(l:List SV) (b:Option bj) (r:List SV) (b':Option bj),C (List SV×Option bj) f l b (fun r b=>some (r,b))=some (r,b')->oF P f/\
  ∀(X:ar) (args:Array Value),hP X l b args->Calls P f args X.w fun e w'=>match e with
   | .returned v=>∃Y,Y.w=w'/\Ext X Y/\uy X Y b r b' v
   |_=>False
def gi(k:Option Nat):Ow->Bool
 | .box id=>decide (k=some id)
 | .row (.b id _) _=>decide (k=some id)
 |_=>false
def fU(k:Option Nat):Ow->Ow
 | .all=> .all
 | .ro n=> .ro n
 | .box id=>if k=some id then .box 0 else .ro 0
 | .row (.b id p) n=>if k=some id then .row (.b 0 p) n else .ro n
 | .row _ n=> .ro n
def gJ(k:Option Nat)(d:Nat):Ow->Ow
 | .all=> .all
 | .ro n=> .ro n
 | .box 0=>match k with
   |some id=> .box id
   |none=> .ro 0
 | .box _=> .ro 0
 | .row (.r j p) n=> .row (.c d j p) n
 | .row (.b 0 p) n=>match k with
   |some id=> .row (.b id p) n
   |none=> .ro n
 | .row _ n=> .ro n
theorem zxc{k:Option Nat}{w:Ow}{i:Nat}:(fU k w).used i↔w.used i:=by
 cases w with
 |all=>rfl
 |ro n=>rfl
 |box id=>simp only[fU];split<;>simp [Ow.used]
 |row pl n=>
  cases pl with
  |b id p=>simp only[fU];split<;>simp [Ow.used]
  |_=>rfl
theorem Ta{k:Option Nat}{d:Nat}{w:Ow}{i:Nat}(h:w.used i):(gJ k d w).used i:=by
 cases w with
 |all=>exact h
 |ro n=>exact h
 |box id=>exact h.elim
 |row pl n=>
  cases pl with
  |b id p=>
   cases id with
   |zero=>simp only[gJ];split<;>exact h
   |succ id=>exact h
  |c i j p=>exact h
  |r j p=>exact h
theorem zoz{k:Option Nat}{w:Ow}(h:gi k w=false):(fU k w).still:=by
 cases w with
 |all=>trivial
 |ro n=>trivial
 |box id=>simp only[gi,decide_eq_false_iff_not] at h;simp only[fU];rw[if_neg h];trivial
 |row pl n=>
  cases pl with
  |b id p=>simp only[gi,decide_eq_false_iff_not] at h;simp only[fU];rw[if_neg h];trivial
  |_=>trivial
def ar.cC(X:ar)(k:Option Nat):ar:=⟨X.w,fun g=>fU k (X.ow g),match k with
 |some id=>fun _=>X.β id
 |none=>X.β⟩
theorem z24{k:Option Nat}{ad:Addr}{v:Value}:(X.cC k).ax ad v↔X.ax ad v:=by
 simp only[ar.ax,ar.cC,zxc]
def ar.back(X Y:ar)(k k':Option Nat)(d:Nat)(β:Nat->Option Nat):ar:=
 ⟨Y.w,fun g=>if g<X.w.heap.size/\gi k (X.ow g)=false then X.ow g else gJ k' d (Y.ow g),β⟩
section
variable {k k':Option Nat} {d:Nat} {β:Nat->Option Nat} {Y:ar}
theorem zS(h:Ext (X.cC k) Y){g:Nat}(hg:g<X.w.heap.size)(hm:gi k (X.ow g)=false):(X.back Y k k' d β).ow g=X.ow g/\(X.back Y k k' d β).w.heap[g]? =X.w.heap[g]? /\(Y.ow g).still/\Y.ow g=fU k (X.ow g):=by
 obtain⟨h1,h2⟩:=h.still g hg (zoz hm)
 refine⟨by simp only[ar.back];rw[if_pos ⟨hg,hm⟩],h2,?_,h1⟩
 rw[h1];exact zoz hm
theorem zac(h:Ext (X.cC k) Y){g:Nat}(hs:¬(Y.ow g).still):(X.back Y k k' d β).ow g=gJ k' d (Y.ow g):=by
 simp only[ar.back]
 rw[if_neg]
 rintro⟨hg,hm⟩
 exact hs (zS (k':=k') (d:=d) (β:=β) h hg hm).2.2.1
theorem rj(h:Ext (X.cC k) Y){ad:Addr}{v:Value}(hs:Y.ax ad v):(X.back Y k k' d β).ax ad v:=by
 refine⟨hs.1,hs.2.1,?_⟩
 simp only[ar.back]
 split
 ·rename_i hc
  have:=(zS (k':=k') (d:=d) (β:=β) h hc.1 hc.2).2.2.2
  have hu:=hs.2.2
  rw[this,zxc] at hu
  exact hu
 ·exact Ta hs.2.2
theorem zl4(h:Ext (X.cC k) Y)(hβ:β 0=X.β 0):Ext X (X.back Y k k' d β) where
 ax:=fun ad v hs=>rj h (h.ax ad v (z24.2 hs))
 size:=h.size
 os:=h.os
 tape:=h.tape
 output:=h.output
 β0:=hβ
 still:=fun g hg bL=>by
  have hm:gi k (X.ow g)=false:=by cases hx:X.ow g<;>rw[hx] at bL<;>first|rfl|exact bL.elim
  obtain⟨h1,h2,_⟩:=zS (k':=k') (d:=d) (β:=β) h hg hm
  exact⟨h1,h2⟩
theorem bf.back(h:Ext (X.cC k) Y){pl:Place}(eJ:∀n,gi k (.row pl n)=false){e:TypeId}{m n:Nat}{v:Value}(ho:bf X pl e m n v):bf (X.back Y k k' d β) pl e m n v:=by
 rcases ho with ho|⟨g,cap,cur,h1,h2,h3,h4,h5,h6⟩
 ·exact .inl ho
 ·obtain⟨k1,k2,_⟩:=zS (k':=k') (d:=d) (β:=β) h (rR h2) (by rw[h6];exact eJ _)
  exact .inr ⟨g,cap,cur,h1,k2.trans h2,h3,h4,h5,k1.trans h6⟩
theorem bc.back(h:Ext (X.cC k) Y){pl:List Nat->Place}(eJ:∀p n,gi k (.row (pl p) n)=false){t:Ty}{x:El t}{cs:List Value}{own:List (List Nat)}(ho:bc X pl t x cs own):bc (X.back Y k k' d β) pl t x cs own:=fun p hp=>by
 obtain⟨e,t',xs,v,g0,g1,g2,g3⟩:=ho p hp
 exact⟨e,t',xs,v,g0,g1,g2,g3.back h (eJ p)⟩
theorem bc.out(h:Ext (X.cC k) Y){pl eX:List Nat->Place}(eJ:∀p n,gJ k' d (.row (pl p) n)= .row (eX p) n){t:Ty}{x:El t}{cs:List Value}{own:List (List Nat)}(ho:bc Y pl t x cs own):bc (X.back Y k k' d β) eX t x cs own:=fun p hp=>by
 obtain⟨e,t',xs,v,g0,g1,g2,g3⟩:=ho p hp
 refine⟨e,t',xs,v,g0,g1,g2,?_⟩
 rcases g3 with ho|⟨g,cap,cur,h1,h2,h3,h4,h5,h6⟩
 ·exact .inl ho
 ·refine .inr ⟨g,cap,cur,h1,h2,h3,h4,h5,?_⟩
  rw[zac h (by rw[h6];exact fun e=>e),h6,eJ]
theorem ay.back(h:Ext (X.cC k) Y){i j:Nat}{sv:SV}{v:Value}(hβ:∀id t p,sv= .ptr id t p->β id=X.β id)(hl:∀id a b n,sv= .bh id a b n->k≠some id/\β id=X.β id)(hr:ay X (.c i j) sv v):ay (X.back Y k k' d β) (.c i j) sv v:=by
 cases sv with
 |undef=>trivial
 |skip=>exact hr
 |cj=>exact hr
 |dF=>exact hr
 |over=>exact hr
 |ai t x own=>
  obtain⟨cs,h1,h2,h3⟩:=hr
  exact⟨cs,h1.ag (fun _ _ hs=>rj h (h.ax _ _ (z24.2 hs))),h2,h3.back h (fun _ _=>rfl)⟩
 |ptr id t p=>
  obtain⟨r,h1,h2⟩:=hr
  exact⟨r,(hβ id t p rfl).trans h1,h2⟩
 |view t x=>
  obtain⟨ad,cs,h1,h2,h3,h4⟩:=hr
  exact⟨ad,cs,h1,h2,h3.ag (fun _ _ hs=>rj h (h.ax _ _ (z24.2 hs))),fun i u hi=>rj h (h.ax _ _ (z24.2 (h4 i u hi)))⟩
 |cap f t x u y=>exact z21 (fun _ _ hs=>rj h (h.ax _ _ (z24.2 hs))) hr
 |bh id a b n=>
  obtain⟨r,h1,h2,h3⟩:=hr
  obtain⟨hk,hb⟩:=hl id a b n rfl
  obtain⟨e1,e2,_⟩:=zS (k':=k') (d:=d) (β:=β) h (World.block_lt_of_cell? X.w _ h3) (by rw[h2];simp [gi,hk])
  refine⟨r,hb.trans h1,e1.trans h2,?_⟩
  simp only[World.cell?] at h3⊢
  rw[e2];exact h3
theorem bk.back(h:Ext (X.cC k) Y){id r:Nat}{B:bj}(hk:k≠some id)(hb:bk X id r B):bk (X.back Y k k' d β) id r B:=by
 obtain⟨h3,h1⟩:=hb
 have hm:gi k (X.ow r)=false:=by rw[h3];simp [gi,hk]
 obtain⟨k1,k2,_⟩:=zS (k':=k') (d:=d) (β:=β) h h1.lt hm
 exact⟨k1.trans h3,h1.move (fun _ _ hs=>rj h (h.ax _ _ (z24.2 hs))) k2 (fun cs h4=>h4.back h (fun _ _=>by simp [gi,hk])) fun _ _ g o _ ho hw=>by
  obtain⟨e1,e2,_⟩:=zS (k':=k') (d:=d) (β:=β) h (rR ho) (by rw[hw];simp [gi,hk])
  exact⟨e2.trans ho,e1.trans hw⟩⟩
theorem bk.out(h:Ext (X.cC k) Y){id r:Nat}{B:bj}(hk:k'=some id)(hb:bk Y 0 r B):bk (X.back Y k k' d β) id r B:=by
 obtain⟨h3,h1⟩:=hb
 refine⟨?_,h1.move (fun _ _ hs=>rj h hs) rfl (fun cs h4=>h4.out h (fun p n=>by simp [gJ,hk])) fun _ _ g o _ ho hw=>⟨ho,by rw[zac h (by rw[hw];exact fun hh=>hh),hw];simp [gJ,hk]⟩⟩
 rw[zac h (by rw[h3];exact fun e=>e),h3]
 simp [gJ,hk]
theorem ay.out(h:Ext (X.cC k) Y){r0 id j:Nat}{sv:SV}{v:Value}(hβ:∀aV t p,sv= .ptr aV t p->β id=some r0)(hn:sv.bu=false)(hr:ay {Y with β:=fun _=>some r0} (.r j) sv v):ay (X.back Y k k' d β) (.c d j) (sv.eY id) v:=by
 cases sv with
 |undef=>trivial
 |skip=>exact hr
 |cj=>exact hr
 |dF=>exact hr
 |over=>exact hr
 |ai t x own=>
  obtain⟨cs,h1,h2,h3⟩:=hr
  have h3:bc Y (.r j) t x cs own:=h3
  exact⟨cs,aY.ag (fun ad v (hs:({Y with β:=fun _=>some r0}:ar).ax ad v)=>rj (Y:=Y) h hs) h1,h2,h3.out h (fun _ _=>rfl)⟩
 |ptr aV t p=>
  obtain⟨r,h1,h2⟩:=hr
  have h1:some r0=some r:=h1
  cases h1
  exact⟨r0,hβ aV t p rfl,h2⟩
 |view t x=>
  obtain⟨ad,cs,h1,h2,h3,h4⟩:=hr
  exact⟨ad,cs,h1,h2,aY.ag (fun ad v (hs:({Y with β:=fun _=>some r0}:ar).ax ad v)=>rj (Y:=Y) h hs) h3,fun i u hi=>rj h (show Y.ax _ _ from h4 i u hi)⟩
 |cap f t x u y=>exact z21 (X:={Y with β:=fun _=>some r0}) (fun ad v (hs:({Y with β:=fun _=>some r0}:ar).ax ad v)=>rj (Y:=Y) h hs) hr
 |bh aV a b n=>cases hn
theorem Rel.back(h:Ext (X.cC k) Y)(hr:Rel X s a)(hβ:∀(id:Nat) B,s.bs[id]? =some (some B)->β id=X.β id)(hk:∀(id:Nat) B,s.bs[id]? =some (some B)->k≠some id):Rel (X.back Y k k' d β) s a where
 size:=hr.size
 fh:=hr.fh
 bC:=fun i l v hl hv=>(hr.bC i l v hl hv).gg fun j sv u hm hH=>hH.back h (fun id t p e=>by
  obtain⟨B,hB⟩:=hr.live i l id t p hl (e▸List.mem_of_getElem? hm)
  exact hβ id B hB) (fun id c d n e=>by
  obtain⟨_,⟨x,own,hb,_⟩,_⟩:=hr.bh i l id c d n hl (e▸List.mem_of_getElem? hm)
  exact⟨hk id _ hb,hβ id _ hb⟩)
 boxes:=fun id B hB=>by
  obtain⟨r,h1,h2⟩:=hr.boxes id B hB
  exact⟨r,(hβ id B hB).trans h1,h2.back h (hk id B hB)⟩
 live:=hr.live
 defers:=hr.defers
 bh:=hr.bh
theorem Rel.te(h:Ext (X.cC k) Y)(hr:Rel X s a){id r:Nat}{B B':bj}(hb:s.bs[id]? =some (some B))(hk:k=some id)(D6:k'=some id)(hβ:X.β id=some r)(hB:bk Y 0 r B')(hg:B.t.dK=false\/ []∈B.own):Rel (X.back Y k k' d X.β) (s.az (some (id,B'))) a where
 size:=hr.size
 fh:=by simpa [State.az] using hr.fh
 bC:=fun i l v hl hv=>(hr.bC i l v hl hv).gg fun j sv u hm hH=>hH.back h (fun _ _ _ _=>rfl) (fun aV c d n e=>⟨fun e2=>by
  rw[hk] at e2
  cases e2
  exact hr.l8 hb hg i l c d n hl (e▸List.mem_of_getElem? hm),rfl⟩)
 boxes:=fun aV B2 cE=>by
  have aw:id<s.bs.length:=(List.getElem?_eq_some_iff.1 hb).1
  simp only[State.az,List.getElem?_set] at cE
  by_cases e:id=aV
  ·subst e
   rw[if_pos rfl,if_pos aw] at cE
   cases cE;exact⟨r,hβ,hB.out h D6⟩
  ·rw[if_neg e] at cE
   obtain⟨r',h1,h2⟩:=hr.boxes aV B2 cE
   exact⟨r',h1,h2.back h (by rw[hk];intro e2;cases e2;exact e rfl)⟩
 live:=fun i l aV t p hi hm=>by
  have aw:id<s.bs.length:=(List.getElem?_eq_some_iff.1 hb).1
  obtain⟨B2,cE⟩:=hr.live i l aV t p hi hm
  simp only[State.az,List.getElem?_set]
  by_cases e:id=aV
  ·subst e;exact⟨B',by rw[if_pos rfl,if_pos aw]⟩
  ·rw[if_neg e];exact⟨B2,cE⟩
 defers:=hr.defers
 bh:=hr.bh.az (hr.l8 hb hg)
end
theorem ay.cC{k:Option Nat}{pl eX:List Nat->Place}{t:Ty}{x:El t}{w:List (List Nat)}{v:Value}(hr:ay X pl (.ai t x w) v):ay (X.cC k) eX (.ai t x []) v:=by
 obtain⟨cs,h1,h2,_⟩:=hr
 exact⟨cs,h1.ag (fun _ _=>z24.2),h2,km⟩
theorem bk.cC{id r:Nat}{B:bj}(hb:bk X id r B):bk (X.cC (some id)) 0 r B:=by
 obtain⟨h3,h1⟩:=hb
 refine⟨by simp [ar.cC,h3,fU],h1.move (fun _ _=>z24.2) rfl (fun cs h4 p hp=> ?_) fun _ _ g o _ ho hw=>⟨ho,by simp [ar.cC,hw,fU]⟩⟩
 obtain⟨e,t',xs,v,g0,g1,g2,g3⟩:=h4 p hp
 refine⟨e,t',xs,v,g0,g1,g2,?_⟩
 rcases g3 with ho|⟨g,cap,cur,k1,k2,k3,k4,k5,k6⟩
 ·exact .inl ho
 ·exact .inr ⟨g,cap,cur,k1,k2,k3,k4,k5,by simp [ar.cC,k6,fU]⟩
theorem zl2:∀(vs l:List SV) (b:Option (Nat×bj)),gP s vs=some (l,b)->l.any SV.bu=false
 | [],l,b,h=>by
   simp only[gP,Option.some.injEq,Prod.mk.injEq] at h
   rw[<-h.1];rfl
 |v::r,l,b,h=>by
  simp only[gP] at h
  split at h
  ·cases h
  rename_i l1 b1 h1
  have ih:=zl2 r l1 b1 h1
  split at h
  ·cases h;simpa [SV.bu] using ih
  ·cases h;simpa [SV.bu] using ih
  ·cases h;simpa [SV.bu] using ih
  ·split at h
   case h_2=>cases h
   split at h
   case isFalse=>cases h
   cases h;simpa [SV.bu] using ih
  ·cases h
theorem zl3(hr:Rel X s a):∀(vs:List (SV×Value)) (l:List SV) (b:Option (Nat×bj)),(∀x∈vs,∃q,ay X q x.1 x.2)->gP s (vs.map (·.1))=some (l,b)->l.length=vs.length/\
 (∀id B,b=some (id,B)->s.bs[id]? =some (some B))/\
 (∀id t p,SV.ptr id t p∈l->id=0/\b.isSome=true)/\
 ∀k,(∀id B,b=some (id,B)->k=some id)->∀(i:Nat) sv x,l[i]? =some sv->vs[i]? =some x->∀q,ay (X.cC k) q sv x.2:=by
 intro vs
 induction vs with
 |nil=>
  intro l b _ h
  simp only[List.map_nil,gP,Option.some.injEq,Prod.mk.injEq] at h
  obtain⟨rfl,rfl⟩:=h
  refine⟨rfl,(fun id B e=>by cases e),(fun id t p hm=>by cases hm),fun k _ i sv x hl=>by simp at hl⟩
 |cons x r ih=>
  intro l b iw h
  simp only[List.map_cons,gP] at h
  split at h
  ·cases h
  rename_i l1 b1 h1
  obtain⟨i1,i2,i3,i4⟩:=ih l1 b1 (fun y hy=>iw y (List.mem_cons_of_mem _ hy)) h1
  obtain⟨q0,hx⟩:=iw x List.mem_cons_self
  have fin:∀(sv:SV),l=sv::l1->(∀id B,b1=some (id,B)->b=b1)->(∀id B,b=some (id,B)->s.bs[id]? =some (some B))->(∀id t p,sv= .ptr id t p->id=0/\b.isSome=true)->
   (∀k,(∀id B,b=some (id,B)->k=some id)->∀q,ay (X.cC k) q sv x.2)->l.length=(x::r).length/\
   (∀id B,b=some (id,B)->s.bs[id]? =some (some B))/\
   (∀id t p,SV.ptr id t p∈l->id=0/\b.isSome=true)/\
   ∀k,(∀id B,b=some (id,B)->k=some id)->∀(i:Nat) sv y,l[i]? =some sv->(x::r)[i]? =some y->∀q,ay (X.cC k) q sv y.2:=by
   intro sv hl hb bp bB aK
   subst hl
   refine⟨by simp [i1],bp,fun id t p hm=> ?_,fun k hk i sv' y hl hv=> ?_⟩
   ·rcases List.mem_cons.1 hm with e|hm
    ·exact bB id t p e.symm
    ·obtain⟨j1,j2⟩:=i3 id t p hm
     cases ly:b1 with
     |none=>rw[ly] at j2;cases j2
     |some bb=>rw[hb bb.1 bb.2 ly];exact⟨j1,j2⟩
   ·cases i with
    |zero=>
     simp only[List.getElem?_cons_zero,Option.some.injEq] at hl hv
     subst hl hv
     exact aK k hk
    |succ i=>
     simp only[List.getElem?_cons_succ] at hl hv
     exact i4 k (fun id B e=>hk id B (by rw[hb id B e];exact e)) i sv' y hl hv
  obtain⟨x1,x2⟩:=x
  simp only at h hx fin
  split at h
  ·cases h
   exact fin _ rfl (fun _ _ _=>rfl) i2 (fun _ _ _ e=>by cases e) (fun k _ q=>hx.cC)
  ·cases h
   exact fin _ rfl (fun _ _ _=>rfl) i2 (fun _ _ _ e=>by cases e) (fun k _ q=>hx)
  ·cases h
   refine fin _ rfl (fun _ _ _=>rfl) i2 (fun _ _ _ e=>by cases e) (fun k _ q=> ?_)
   obtain⟨ad,cs,g1,g2,g3,g4⟩:=hx
   exact⟨ad,cs,g1,g2,g3.ag (fun _ _=>z24.2),fun i w hi=>z24.2 (g4 i w hi)⟩
  ·rename_i id t
   split at h
   case h_2=>cases h
   rename_i B hB
   split at h
   case isFalse=>cases h
   cases h
   obtain⟨rr,g1,g2⟩:=hx
   refine fin _ rfl (fun _ _ e=>by cases e) (fun id B e=>by cases e;exact nw hB) (fun _ _ _ e=>by cases e;exact⟨rfl,rfl⟩) (fun k hk q=> ?_)
   have:=hk id B rfl
   subst this
   exact⟨rr,g1,g2⟩
  ·cases h
def iN(P:Program)(X:ar)(s:State)(a:Act)(o:Oper)(u:Out):Prop:=
 ∀(next:Act->World->Prop) (Q:Exit->Act->World->Prop),(∀Y v,Ext X Y->Rel Y (s.apply o.dst u) (a.put o.dst v)->next (a.put o.dst v) Y.w)->o.wp P a X.w next Q
theorem aG.does(h:aG P X s a o u):iN P X s a o u:=fun next Q hn=>by
 obtain⟨Y,v,h1,h2,h3⟩:=h
 unfold Oper.wp
 rcases h1 with h1|⟨h1,rfl⟩
 ·rw[h1,Oper.upon_value];exact hn Y v h2 h3
 ·rw[h1,Oper.upon_skip];exact hn Y _ h2 h3
theorem zwz{f:FuncId}(h:oF P f){dd:Array Operand}{ts:Array TypeId}(ho:o.op= .call ⟨.value (.func f),dd,ts⟩)(w:World):(execOp a.eval o).run P w= .ok (.enter f (dd.map a.eval)) w:=by
 obtain⟨fn,c,h1,h2,h3⟩:=h
 simp [execOp,ho,resolve,Deferred.ofValue,Act.eval,invoke,callFunc,h1,h3]
 simpa using h2
theorem zpf{l:List SV}{id:Nat}(h:∀id t p,SV.ptr id t p∉l):l.map (SV.eY id)=l:=by
 induction l with
 |nil=>rfl
 |cons v r ih=>
  rw[List.map_cons,ih (fun id t p hm=>h id t p (List.mem_cons_of_mem _ hm))]
  congr 1
  cases v<;>first|rfl|skip
  exact absurd (List.mem_cons_self) (h _ _ _)
theorem zli{k k':Option Nat}{d:Nat}{β:Nat->Option Nat}{Y:ar}(h:Ext (X.cC k) Y){r0 id:Nat}{r:List SV}{v:Value}(hβ:∀aV t p,SV.ptr aV t p∈r->β id=some r0)(hn:r.any SV.bu=false)(hr:ct {Y with β:=fun _=>some r0} .r r v):ct (X.back Y k k' d β) (.c d) (r.map (SV.eY id)) v:=by
 match r,hr with
 | [sv],hr=>exact ay.out h (fun aV t p e=>hβ aV t p (by simp [e])) (by simpa using hn) hr
 | [],⟨vs,h1,h2,h3⟩=>exact⟨vs,h1,h2,fun j s u hs=>by simp at hs⟩
 |x::y::r,⟨vs,h1,h2,h3⟩=>
  refine⟨vs,h1,by simpa using h2,fun j sv u hs hu=> ?_⟩
  have hs:((x::y::r).map (SV.eY id))[j]? =some sv:=hs
  rw[List.getElem?_map] at hs
  obtain⟨s0,dW,rfl⟩:=Option.map_eq_some_iff.1 hs
  exact ay.out h (fun aV t p e=>hβ aV t p (e▸List.mem_of_getElem? dW)) (by simpa using List.any_eq_false.1 hn s0 (List.mem_of_getElem? dW)) (h3 j s0 u dW hu)
theorem zxt{l:List SV}{id:Nat}(h:l.any SV.bu=false):(l.map (SV.eY id)).any SV.bu=false:=List.any_eq_false.2 fun v hv=>by
 obtain⟨w,hw,rfl⟩:=List.mem_map.1 hv
 have:=List.any_eq_false.1 h w hw
 cases w<;>first|exact this|simp [SV.eY,SV.bu]
theorem S8:∀g pl n,(X.cC none).ow g≠ .row pl n:=fun g pl n=>by
 show fU none (X.ow g)≠_
 cases X.ow g with
 |row q m=>cases q<;>simp [fU]
 |_=>simp [fU]
theorem zah(hr:Rel X s a){C:af}(hC:C.Nat){f:FuncId}(hf:cG P C f){vs:List (SV×Value)}(tE:∀x∈vs,∃q,ay X q x.1 x.2)(dE:oF P f->(execOp a.eval o).run P X.w= .ok (.enter f (vs.map (·.2)).toArray) X.w)(h:eN (C Out) s o.dst f (vs.map (·.1)) some=some u):iN P X s a o u:=by
 have aR:=dE
 clear dE
 unfold eN at h
 have enter:∀(l:List SV) (b:Option (Nat×bj)) (k:Option Nat),gP s (vs.map (·.1))=some (l,b)->(∀id B,b=some (id,B)->k=some id)->(b=none->k=none)->hP (X.cC k) l (b.map (·.2)) (vs.map (·.2)).toArray:=by
  intro l b k bJ hk vK
  obtain⟨i1,i2,i3,i4⟩:=zl3 hr vs l b tE bJ
  refine⟨by simpa using i1.symm,fun i sv v hl hv=> ?_,fun id t p hm=> ?_,fun B hB=> ?_,fun hb=> ?_,zl2 _ _ _ bJ⟩
  ·rw[List.getElem?_toArray,List.getElem?_map] at hv
   obtain⟨x,hx,rfl⟩:=Option.map_eq_some_iff.1 hv
   exact i4 k hk i sv x hl hx _
  ·obtain⟨j1,j2⟩:=i3 id t p hm
   exact⟨j1,by simpa using j2⟩
  ·obtain⟨bb,hbb,rfl⟩:=Option.map_eq_some_iff.1 hB
   obtain⟨id,B⟩:=bb
   obtain⟨r,h1,h2⟩:=hr.boxes id B (i2 id B hbb)
   have:=hk id B hbb
   subst this
   exact⟨r,h1,h2.cC⟩
  ·have hb:b=none:=by cases b<;>simp at hb⊢
   rw[vK hb]
   exact S8
 split at h
 ·rename_i l bJ
  obtain⟨⟨r,b'⟩,kN,h⟩:=zz (hC Out _ f l none _ (fun r b=>some (r,b)) (fun z=>match z.2 with
   |none=>some {v:=z.1}
   |some B=>match o.dst with
    |some d=>match s.bs[d+1]? with
     |some none=>some {v:=z.1.map (SV.eY (d+1)),bx:=some (d+1,B)}
     |_=>none
    |none=>none) (fun r b=>rfl)) h
  obtain⟨dE,kQ⟩:=hf l none r b' kN
  have fG:=enter l none none bJ (fun id B e=>by cases e) (fun _=>rfl)
  intro next Q hn
  unfold Oper.wp
  rw[aR dE,Oper.upon_enter]
  refine(kQ (X.cC none) _ fG).mono fun e w' he=> ?_
  cases e with
  |returned v=>
   obtain⟨Y,rfl,aT,r0,aK,bp,l5,dn⟩:=he
   simp only at h
   cases b' with
   |none=>
    cases h
    have hp:=l5 (.inl rfl)
    have bR:=zl4 (k':=none) (d:=o.dst.getD 0) (β:=X.β) aT rfl
    refine hn (X.back Y none none (o.dst.getD 0) X.β) v bR ?_
    refine(Rel.back (k':=none) aT hr (fun _ _ _=>rfl) (fun _ _ _=>by simp)).fin ?_ (fun id t p hm=>absurd hm (hp id t p)) dn
    have:=zli (k':=none) (d:=o.dst.getD 0) (β:=X.β) (id:=0) aT (fun aV t p hm=>absurd hm (hp aV t p)) dn aK
    rw[zpf hp] at this
    exact this
   |some B=>
    simp only at h
    split at h
    case h_2=>cases h
    rename_i d hd
    split at h
    case h_2=>cases h
    rename_i gD
    cases h
    have aw:d+1<s.bs.length:=(List.getElem?_eq_some_iff.1 gD).1
    obtain⟨hB,_⟩:=bp B rfl
    let β:Nat->Option Nat:=fun id=>if id=d+1 then some r0 else X.β id
    have hβd:β (d+1)=some r0:=by simp [β]
    have bR:=zl4 (k':=some (d+1)) (d:=d) (β:=β) aT (by simp [β])
    refine hn (X.back Y none (some (d+1)) d β) v bR ?_
    have bg:=(Rel.back (k':=some (d+1)) (d:=d) (β:=β) aT hr (fun id B2 cE=>by
     show(if _ then _ else _)=_
     rw[if_neg (fun e=>by rw[e,gD] at cE;cases cE)]) (fun _ _ _=>by simp)).ej aw gD hβd (hB.out aT rfl)
    rw[hd]
    refine bg.put (fun d' e=> ?_) (fun id t p hm=> ?_) (zxt dn)
    ·cases e
     exact zli aT (fun _ _ _ _=>hβd) dn aK
    ·obtain⟨s0,_,he0⟩:=List.mem_map.1 hm
     have:id=d+1:=by
      cases s0<;>simp [SV.eY] at he0
      exact he0.1.symm
     subst this
     exact⟨B,by simp [State.close,State.az,List.getElem?_set,aw]⟩
  |panicked c=>exact he.elim
  |outgrown=>exact he.elim
 ·rename_i l id B bJ
  split at h
  case isTrue=>cases h
  rename_i n7
  have hg:B.t.dK=false\/ []∈B.own:=by
   rw[Bool.not_eq_true,Bool.and_eq_false_iff,Bool.not_eq_false'] at n7
   exact n7.imp (fun h=>h) wE
  obtain⟨⟨r,b'⟩,kN,h⟩:=zz (hC Out _ f l (some B) _ (fun r b=>some (r,b)) (fun z=>match z.2 with
   |some B'=>if B'.t.bV B.t=true then some {v:=z.1,bx:=some (id,B')} else none
   |none=>none) (fun r b=>rfl)) h
  obtain⟨dE,kQ⟩:=hf l (some B) r b' kN
  have fG:=enter l (some (id,B)) (some id) bJ (fun id B e=>by cases e;rfl) (fun e=>by cases e)
  obtain⟨_,i2,_,_⟩:=zl3 hr vs l _ tE bJ
  have hb:=i2 id B rfl
  intro next Q hn
  unfold Oper.wp
  rw[aR dE,Oper.upon_enter]
  refine(kQ (X.cC (some id)) _ fG).mono fun e w' he=> ?_
  cases e with
  |returned v=>
   obtain⟨Y,rfl,aT,r0,aK,bp,l5,dn⟩:=he
   simp only at h
   cases b' with
   |none=>cases h
   |some B'=>
    simp only at h
    split at h
    case isFalse=>cases h
    cases h
    have hp:=l5 (.inr rfl)
    obtain⟨hB,hβ⟩:=bp B' rfl
    have hβ:=hβ rfl
    have bR:=zl4 (k':=some id) (d:=o.dst.getD 0) (β:=X.β) aT rfl
    refine hn (X.back Y (some id) (some id) (o.dst.getD 0) X.β) v bR ?_
    refine(Rel.te (k:=some id) (k':=some id) aT hr hb rfl rfl hβ hB hg).fin ?_ (fun id t p hm=>absurd hm (hp id t p)) dn
    have:=zli (k':=some id) (d:=o.dst.getD 0) (β:=X.β) (id:=0) aT (fun aV t p hm=>absurd hm (hp aV t p)) dn aK
    rw[zpf hp] at this
    exact this
  |panicked c=>exact he.elim
  |outgrown=>exact he.elim
 ·cases h
theorem zab(hr:Rel X s a)(dd:Array Operand):∀x∈dd.toList.map (fun x=>(s.aF x,a.eval x)),∃q,ay X q x.1 x.2:=fun x hx=>by
 obtain⟨y,_,rfl⟩:=List.mem_map.1 hx
 exact⟨_,hr.aF y⟩
theorem zxz{X:ar}{pl:List Nat->Place}{sv:SV}{v:Value}(h:ay X pl sv v):ay X pl sv.shut v:=by
 cases sv with
 |ai t x own=>
  obtain⟨cs,h1,h2,_⟩:=h
  exact⟨cs,h1,h2,km⟩
 |bh id a b j=>trivial
 |_=>exact h
theorem Wd{X:ar}{pl:Nat->List Nat->Place}{l:List SV}{v:Value}(h:ct X pl l v):ct X pl (l.map SV.shut) v:=by
 match l,h with
 | [sv],h=>exact zxz (sv:=sv) h
 | [],h=>exact h
 |x::y::r,⟨vs,g1,g2,g3⟩=>
  refine⟨vs,g1,by simpa using g2,fun j sv u jY hu=> ?_⟩
  have jY:((x::y::r).map SV.shut)[j]? =some sv:=jY
  rw[List.getElem?_map] at jY
  obtain⟨s0,dW,rfl⟩:=Option.map_eq_some_iff.1 jY
  exact zxz (g3 j s0 u dW hu)
theorem Wc{l:List SV}{j:Nat}{t:Ty}{p:List Nat}(h:SV.ptr j t p∈l.map SV.shut):SV.ptr j t p∈l:=by
 obtain⟨s0,dW,he⟩:=List.mem_map.1 h
 cases s0<;>first|(cases he;done)|(rw[<-he];exact dW)|skip
theorem Rel.bz(hr:Rel X s a){d:Nat}{l:List SV}:Rel X {s with sl:=s.sl.set d l} a->Rel X {s with sl:=s.sl.set d (l.map SV.shut)} a:=fun h=>{
 size:=by simpa using hr.size
 fh:=by simpa using hr.fh
 bC:=fun i l' v hl hv=>by
  replace hl:(s.sl.set d (l.map SV.shut))[i]? =some l':=hl
  rw[List.getElem?_set] at hl
  split at hl
  ·rename_i qn
   split at hl
   ·cases hl
    rename_i aw
    exact Wd (h.bC i l v (by show(s.sl.set d l)[i]? =_;rw[List.getElem?_set,if_pos qn,if_pos aw]) hv)
   ·cases hl
  ·rename_i qn
   exact h.bC i l' v (by show(s.sl.set d l)[i]? =_;rw[List.getElem?_set,if_neg qn];exact hl) hv
 boxes:=h.boxes
 live:=fun i l' id t p hl hm=>by
  replace hl:(s.sl.set d (l.map SV.shut))[i]? =some l':=hl
  rw[List.getElem?_set] at hl
  split at hl
  ·rename_i qn
   split at hl
   ·cases hl
    rename_i aw
    exact h.live i l id t p (by show(s.sl.set d l)[i]? =_;rw[List.getElem?_set,if_pos qn,if_pos aw]) (Wc hm)
   ·cases hl
  ·rename_i qn
   exact h.live i l' id t p (by show(s.sl.set d l)[i]? =_;rw[List.getElem?_set,if_neg qn];exact hl) hm
 defers:=h.defers
 bh:=h.bh.less (fun i l' id c b j hl hm=>by
  replace hl:(s.sl.set d (l.map SV.shut))[i]? =some l':=hl
  rw[List.getElem?_set] at hl
  split at hl
  ·split at hl
   ·cases hl
    exact(Oq (zej l) hm).elim
   ·cases hl
  ·rename_i qn
   exact⟨l',by show(s.sl.set d l)[i]? =_;rw[List.getElem?_set,if_neg qn];exact hl,hm,fun h=>h⟩) (fun id c b x own _ hb ho=>⟨x,own,hb,ho⟩)}
theorem iN.shut(h:iN P X s a o u):iN P X s a o u.shut:=fun next Q hn=>h next Q fun Y v aT bg=>hn Y v aT (by
 unfold State.apply at bg⊢
 show Rel Y (((s.close u.cl).az u.bx).ap o.dst (u.v.map SV.shut)) _
 generalize(s.close u.cl).az u.bx=s1 at*
 cases hd:o.dst with
 |none=>rw[hd] at bg;exact bg
 |some d=>
  rw[hd] at bg
  have e:=Rel.bz (X:=Y) (s:={s1 with sl:=s1.sl.set d u.v}) (a:=a.put (some d) v) (d:=d) (l:=u.v) bg (by
   show Rel Y {s1 with sl:=(s1.sl.set d u.v).set d u.v} _
   rw[List.set_set];exact bg)
  show Rel Y {s1 with sl:=s1.sl.set d (u.v.map SV.shut)} _
  have e2:Rel Y {s1 with sl:=(s1.sl.set d u.v).set d (u.v.map SV.shut)} (a.put (some d) v):=e
  rw[List.set_set] at e2
  exact e2)
def ea(id j:Nat):Ow->Bool
 | .row (.b aV (j'::_)) _=>Nat.beq aV id&&Nat.beq j' j
 |_=>false
def uu(id j:Nat):Ow->Ow
 | .all=> .all
 | .ro n=> .ro n
 | .box _=> .ro 0
 | .row (.b aV (j'::p)) n=>if Nat.beq aV id&&Nat.beq j' j then .row (.b 0 p) n else .ro n
 | .row _ n=> .ro n
def Oj(id j d:Nat):Ow->Ow
 | .all=> .all
 | .ro n=> .ro n
 | .box _=> .ro 0
 | .row (.r i p) n=> .row (.c d i p) n
 | .row (.b 0 p) n=> .row (.b id (j::p)) n
 | .row _ n=> .ro n
theorem zjv{id j:Nat}{w:Ow}{i:Nat}:(uu id j w).used i↔w.used i:=by
 cases w with
 |all=>rfl
 |ro n=>rfl
 |box id=>simp [uu,Ow.used]
 |row pl n=>
  cases pl with
  |b aV p=>
   cases p with
   |nil=>rfl
   |cons j' p=>simp only[uu];split<;>rfl
  |_=>rfl
theorem Sn{id j d:Nat}{w:Ow}{i:Nat}(h:w.used i):(Oj id j d w).used i:=by
 cases w with
 |all=>exact h
 |ro n=>exact h
 |box id=>exact h.elim
 |row pl n=>
  cases pl with
  |b aV p=>cases aV<;>exact h
  |c i j p=>exact h
  |r j p=>exact h
theorem zed{id j:Nat}{w:Ow}(h:ea id j w=false):(uu id j w).still:=by
 cases w with
 |all=>trivial
 |ro n=>trivial
 |box id=>trivial
 |row pl n=>
  cases pl with
  |b aV p=>
   cases p with
   |nil=>trivial
   |cons j' p=>simp only[ea] at h;simp only[uu,h];trivial
  |_=>trivial
def ar.dB(X:ar)(id j g:Nat):ar:=⟨X.w,fun q=>if q=g then .box 0 else uu id j (X.ow q),fun _=>some g⟩
def ar.aX(X Y:ar)(id j g d:Nat):ar:=⟨Y.w,fun q=>if q=g then .row (.b id [j]) 0 else if q<X.w.heap.size/\ea id j (X.ow q)=false then X.ow q else Oj id j d (Y.ow q),X.β⟩
section
variable {Y:ar} {id j g d:Nat}
theorem zxh(hg:X.ow g= .row (.b id [j]) 0){ad:Addr}{v:Value}:(X.dB id j g).ax ad v↔X.ax ad v:=by
 simp only[ar.ax,ar.dB]
 split
 ·rename_i e
  rw[e,hg]
  simp [Ow.used]
 ·rw[zjv]
theorem tY(h:Ext (X.dB id j g) Y){q:Nat}(hq:q<X.w.heap.size)(hm:ea id j (X.ow q)=false)(bB:q≠g):(X.aX Y id j g d).ow q=X.ow q/\(X.aX Y id j g d).w.heap[q]? =X.w.heap[q]? /\(Y.ow q).still/\Y.ow q=uu id j (X.ow q):=by
 have e:(X.dB id j g).ow q=uu id j (X.ow q):=by simp only[ar.dB];rw[if_neg bB]
 obtain⟨h1,h2⟩:=h.still q hq (by rw[e];exact zed hm)
 refine⟨by simp only[ar.aX];rw[if_neg bB,if_pos ⟨hq,hm⟩],h2,?_,h1.trans e⟩
 rw[h1,e];exact zed hm
theorem Tr(h:Ext (X.dB id j g) Y){q:Nat}(bB:q≠g)(hs:¬(Y.ow q).still):(X.aX Y id j g d).ow q=Oj id j d (Y.ow q):=by
 simp only[ar.aX]
 rw[if_neg bB,if_neg]
 rintro⟨hq,hm⟩
 exact hs (tY (d:=d) h hq hm bB).2.2.1
theorem z8l(h:Ext (X.dB id j g) Y)(hY:Y.ow g= .box 0){ad:Addr}{v:Value}(hs:Y.ax ad v):(X.aX Y id j g d).ax ad v:=by
 have bB:ad.block≠g:=fun e=>by
  have:=hs.2.2
  rw[e,hY] at this
  exact this
 refine⟨hs.1,hs.2.1,?_⟩
 simp only[ar.aX]
 rw[if_neg bB]
 split
 ·rename_i hc
  have:=(tY (d:=d) h hc.1 hc.2 bB).2.2.2
  have hu:=hs.2.2
  rw[this,zjv] at hu
  exact hu
 ·exact Sn hs.2.2
theorem JC(h:Ext (X.dB id j g) Y)(hg:X.ow g= .row (.b id [j]) 0)(hY:Y.ow g= .box 0):Ext X (X.aX Y id j g d) where
 ax:=fun ad v hs=>z8l h hY (h.ax ad v ((zxh hg).2 hs))
 size:=h.size
 os:=h.os
 tape:=h.tape
 output:=h.output
 β0:=rfl
 still:=fun q hq bL=>by
  have hm:ea id j (X.ow q)=false:=by cases hx:X.ow q<;>rw[hx] at bL<;>first|rfl|exact bL.elim
  obtain⟨h1,h2,_⟩:=tY (d:=d) h hq hm (fun e=>by rw[e,hg] at bL;exact bL)
  exact⟨h1,h2⟩
theorem bf.aX(h:Ext (X.dB id j g) Y)(hg:X.ow g= .row (.b id [j]) 0){pl:Place}(eJ:∀n,ea id j (.row pl n)=false){e:TypeId}{m n:Nat}{v:Value}(ho:bf X pl e m n v):bf (X.aX Y id j g d) pl e m n v:=by
 rcases ho with ho|⟨q,cap,cur,h1,h2,h3,h4,h5,h6⟩
 ·exact .inl ho
 ·obtain⟨k1,k2,_⟩:=tY (d:=d) h (rR h2) (by rw[h6];exact eJ _) (fun e=>by
   rw[e,hg] at h6
   injection h6 with h6 _
   have:=eJ 0
   rw[<-h6] at this
   simp [ea] at this)
  exact .inr ⟨q,cap,cur,h1,k2.trans h2,h3,h4,h5,k1.trans h6⟩
theorem bc.aX(h:Ext (X.dB id j g) Y)(hg:X.ow g= .row (.b id [j]) 0){pl:List Nat->Place}(eJ:∀p n,ea id j (.row (pl p) n)=false){t:Ty}{x:El t}{cs:List Value}{own:List (List Nat)}(ho:bc X pl t x cs own):bc (X.aX Y id j g d) pl t x cs own:=fun p hp=>by
 obtain⟨e,t',xs,v,g0,g1,g2,g3⟩:=ho p hp
 exact⟨e,t',xs,v,g0,g1,g2,g3.aX h hg (eJ p)⟩
theorem bc.oe(h:Ext (X.dB id j g) Y)(hY:Y.ow g= .box 0){pl eX:List Nat->Place}(eJ:∀p n,Oj id j d (.row (pl p) n)= .row (eX p) n){t:Ty}{x:El t}{cs:List Value}{own:List (List Nat)}(ho:bc Y pl t x cs own):bc (X.aX Y id j g d) eX t x cs own:=fun p hp=>by
 obtain⟨e,t',xs,v,g0,g1,g2,g3⟩:=ho p hp
 refine⟨e,t',xs,v,g0,g1,g2,?_⟩
 rcases g3 with ho|⟨q,cap,cur,h1,h2,h3,h4,h5,h6⟩
 ·exact .inl ho
 ·refine .inr ⟨q,cap,cur,h1,h2,h3,h4,h5,?_⟩
  rw[Tr h (fun e=>by rw[e,hY] at h6;cases h6) (by rw[h6];exact fun e=>e),h6,eJ]
theorem ay.aX(h:Ext (X.dB id j g) Y)(hg:X.ow g= .row (.b id [j]) 0)(hY:Y.ow g= .box 0){i k:Nat}{sv:SV}{v:Value}(hr:ay X (.c i k) sv v):ay (X.aX Y id j g d) (.c i k) sv v:=by
 have hs:∀a v,X.ax a v->(X.aX Y id j g d).ax a v:=(JC h hg hY).ax
 cases sv with
 |undef=>trivial
 |skip=>exact hr
 |cj=>exact hr
 |dF=>exact hr
 |over=>exact hr
 |ai t x own=>
  obtain⟨cs,h1,h2,h3⟩:=hr
  exact⟨cs,h1.ag hs,h2,h3.aX h hg (fun _ _=>rfl)⟩
 |ptr aV t p=>
  obtain⟨r,h1,h2⟩:=hr
  exact⟨r,h1,h2⟩
 |view t x=>
  obtain⟨ad,cs,h1,h2,h3,h4⟩:=hr
  exact⟨ad,cs,h1,h2,h3.ag hs,fun i u hi=>hs _ _ (h4 i u hi)⟩
 |cap f t x u y=>exact z21 hs hr
 |bh aV a b n=>
  obtain⟨r,h1,h2,h3⟩:=hr
  obtain⟨e1,e2,_⟩:=tY (d:=d) (q:=r) h (World.block_lt_of_cell? X.w _ h3) (by rw[h2];rfl) (fun e=>by rw[e,hg] at h2;cases h2)
  refine⟨r,h1,e1.trans h2,?_⟩
  simp only[World.cell?] at h3⊢
  rw[e2];exact h3
theorem bk.aX(h:Ext (X.dB id j g) Y)(hg:X.ow g= .row (.b id [j]) 0)(hY:Y.ow g= .box 0){aV r:Nat}{B:bj}(bB:aV≠id)(hb:bk X aV r B):bk (X.aX Y id j g d) aV r B:=by
 obtain⟨h3,h1⟩:=hb
 have hm:∀p n,ea id j (.row (.b aV p) n)=false:=fun p n=>by
  cases p with
  |nil=>rfl
  |cons j' p=>simp [ea,bB]
 obtain⟨k1,k2,_⟩:=tY (d:=d) h h1.lt (by rw[h3];rfl) (fun e=>by rw[e,hg] at h3;cases h3)
 exact⟨k1.trans h3,h1.move (JC h hg hY).ax k2 (fun cs h4=>h4.aX h hg hm) fun p _ q o n ho hw=>by
  obtain⟨e1,e2,_⟩:=tY (d:=d) h (rR ho) (by rw[hw];exact hm _ _) (fun e=>by
   rw[e,hg] at hw
   injection hw with hw _
   have:=hm p n
   rw[<-hw] at this
   simp [ea] at this)
  exact⟨e2.trans ho,e1.trans hw⟩⟩
theorem ay.oe(h:Ext (X.dB id j g) Y)(hY:Y.ow g= .box 0){r0 k:Nat}{sv:SV}{v:Value}(hp:∀id t p,sv≠ .ptr id t p)(hn:sv.bu=false)(hr:ay {Y with β:=fun _=>some r0} (.r k) sv v):ay (X.aX Y id j g d) (.c d k) sv v:=by
 have hs:∀a v,({Y with β:=fun _=>some r0}:ar).ax a v->(X.aX Y id j g d).ax a v:=fun a v hs=>z8l h hY (show Y.ax a v from hs)
 cases sv with
 |undef=>trivial
 |skip=>exact hr
 |cj=>exact hr
 |dF=>exact hr
 |over=>exact hr
 |ai t x own=>
  obtain⟨cs,h1,h2,h3⟩:=hr
  have h3:bc Y (.r k) t x cs own:=h3
  exact⟨cs,aY.ag hs h1,h2,h3.oe h hY (fun _ _=>rfl)⟩
 |ptr aV t p=>exact absurd rfl (hp aV t p)
 |view t x=>
  obtain⟨ad,cs,h1,h2,h3,h4⟩:=hr
  exact⟨ad,cs,h1,h2,aY.ag hs h3,fun i u hi=>hs _ _ (h4 i u hi)⟩
 |cap f t x u y=>exact z21 (X:={Y with β:=fun _=>some r0}) hs hr
 |bh aV a b n=>cases hn
theorem ct.oe(h:Ext (X.dB id j g) Y)(hY:Y.ow g= .box 0){r0:Nat}{r:List SV}{v:Value}(hp:∀id t p,SV.ptr id t p∉r)(hn:r.any SV.bu=false)(hr:ct {Y with β:=fun _=>some r0} .r r v):ct (X.aX Y id j g d) (.c d) r v:=
 hr.gg fun k sv u hk hu=>hu.oe h hY (fun id t p e=>hp id t p (e▸List.mem_of_getElem? hk)) (by simpa using List.any_eq_false.1 hn sv (List.mem_of_getElem? hk))
theorem cU.aX(h:Ext (X.dB id j g) Y)(hg:X.ow g= .row (.b id [j]) 0)(hY:Y.ow g= .box 0){k:Nat}(hk:k≠j){b:Ty}{m:Option (El b)}{v:Value}(hm:cU X (fun p=> .b id (k::p)) b m v):cU (X.aX Y id j g d) (fun p=> .b id (k::p)) b m v:=
 hm.move (JC h hg hY).ax fun p _ q o n ho hw=>by
  have hf:ea id j (.row (.b id (k::p)) n)=false:=by
   simp only[ea]
   rw[show Nat.beq k j=false from by
    cases h:Nat.beq k j with
    |false=>rfl
    |true=>exact absurd (Nat.eq_of_beq_eq_true h) hk,Bool.and_false]
  obtain⟨e1,e2,_⟩:=tY (d:=d) h (rR ho) (by rw[hw];exact hf) (fun e=>by
   rw[e,hg] at hw
   injection hw with hw _
   injection hw with _ hw
   injection hw with hw _
   exact hk hw.symm)
  exact⟨e2.trans ho,e1.trans hw⟩
end
theorem Hq:∀(vs l:List SV),gP s vs=some (l,none)->∀sv∈l,(∃t x,sv= .ai t x [])\/sv= .cj\/∃t x,sv= .view t x
 | [],l,h,sv,hm=>by
   simp only[gP,Option.some.injEq,Prod.mk.injEq] at h
   rw[<-h.1] at hm
   cases hm
 |v::r,l,h,sv,hm=>by
  simp only[gP] at h
  split at h
  ·cases h
  rename_i l1 b1 h1
  split at h
  ·cases h
   rcases List.mem_cons.1 hm with rfl|hm
   ·exact .inl ⟨_,_,rfl⟩
   ·exact Hq r l1 h1 sv hm
  ·cases h
   rcases List.mem_cons.1 hm with rfl|hm
   ·exact .inr (.inl rfl)
   ·exact Hq r l1 h1 sv hm
  ·cases h
   rcases List.mem_cons.1 hm with rfl|hm
   ·exact .inr (.inr ⟨_,_,rfl⟩)
   ·exact Hq r l1 h1 sv hm
  ·split at h
   case h_2=>cases h
   split at h
   case isFalse=>cases h
   cases h
  ·cases h
theorem zjw{dd:List Operand}{t id j:Nat}{ta tb:Ty}{r:List Operand}(h:AD s dd=some (t,id,ta,tb,j,r)):dd= .tmp t::r/\s.slot t=[.bh id ta tb j]:=by
 unfold AD at h
 split at h
 case h_2=>cases h
 split at h
 case h_2=>cases h
 rename_i hs
 cases h
 exact⟨rfl,hs⟩
theorem YG{X:ar}{id j:Nat}{b:Ty}{m:Option (El b)×Option (El b)}{p0 p1:Value}{y:El b}(hj:j<2)(h0:cU X (fun p=> .b id (0::p)) b m.1 p0)(h1:cU X (fun p=> .b id (1::p)) b m.2 p1)(hy:getM j m=some y):cU X (fun p=> .b id (j::p)) b (some y) (if j=0 then p0 else p1):=by
 match j,hj with
 |0,_=>
  have hy:m.1=some y:=hy
  rw[hy] at h0
  exact h0
 |1,_=>
  have hy:m.2=some y:=hy
  rw[hy] at h1
  exact h1
theorem z154(hr:Rel X s a){C:af}(hC:C.Nat){f:FuncId}(hf:cG P C f){dd:Array Operand}{ts:Array TypeId}(ho:o.op= .call ⟨.value (.func f),dd,ts⟩){t id j:Nat}{ta tb:Ty}{r:List Operand}(hl:AD s dd.toList=some (t,id,ta,tb,j,r))(h:im (C Out) s f t id ta tb j (r.map s.aF) some=some u):iN P X s a o u:=by
 obtain⟨has,bL⟩:=zjw hl
 have fQ:=hr.slot t
 rw[bL] at fQ
 obtain⟨rr,hβ,how,df⟩:ay X (.c t 0) (.bh id ta tb j) (a.tmps.getD t Go.undef):=fQ
 have PX:t<s.sl.length:=by
  rcases Nat.lt_or_ge t s.sl.length with h|h
  ·exact h
  ·simp [State.slot,List.getElem?_eq_none h] at bL
 have hsi:s.sl[t]? =some [.bh id ta tb j]:=by rw[nz PX,bL]
 obtain⟨_,⟨x1,EM,ly,acX⟩,Ey⟩:=hr.bh t _ id ta tb j hsi (by simp)
 unfold im at h
 split at h
 case isTrue=>cases h
 rename_i dw
 have dw:tb.bn=false:=by simpa using dw
 split at h
 case h_2=>cases h
 rename_i l bJ
 obtain⟨x,own,r1,hb,h,bG,h1,_,c,p0,p1,T,aC,aK,oL,oM⟩:=An hr h
 rw[hβ] at h1
 cases h1
 split at h
 case h_2=>cases h
 rename_i y hy
 have hv:(c++ [p0,p1,Value.int .i64 x.2.2])[ta.cells+j]? =some (a.tmps.getD t Go.undef):=by
  simp only[World.cell?,aC] at df
  simpa using df
 rw[List.getElem?_append_right (by rw[aK.len];omega),aK.len,Nat.add_sub_cancel_left] at hv
 have hj:j<2:=by
  match j,hy with
  |0,_=>omega
  |1,_=>omega
  |j+2,hy=>cases hy
 obtain⟨g,csg,Tg,vO,Pr,kj,PR,P0⟩:=YG hj oL oM hy
 have hvt:a.tmps.getD t Go.undef= .pointer (some ⟨g,0,none⟩):=by
  match j,hj with
  |0,_=>
   have hv:p0=a.tmps.getD t Go.undef:=by simpa using hv
   rw[<-hv];exact vO
  |1,_=>
   have hv:p1=a.tmps.getD t Go.undef:=by simpa using hv
   rw[<-hv];exact vO
 obtain⟨⟨res,b'⟩,kN,h⟩:=zz (hC Out _ f (.ptr 0 tb []::l) (some ⟨tb,y,wQ⟩) _ (fun r b=>some (r,b)) (fun z=>match z.2 with
  |some B'=>if h:B'.t.bV tb=true then bif zx B'.own [2] then some {v:=z.1,bx:=some (id,⟨.aI .bE ta tb,(x.1,fE j (some (Ty.cast h B'.x)) x.2.1,x.2.2),[]::own⟩),cl:=[(t,0)]} else none else none
  |none=>none) (fun r b=>rfl)) h
 obtain⟨dE,kQ⟩:=hf _ _ res b' kN
 have fG:hP (X.dB id j g) (.ptr 0 tb []::l) (some ⟨tb,y,wQ⟩) (dd.map a.eval):=by
  have dy:∀ad v,X.ax ad v->(X.dB id j g).ax ad v:=fun _ _=>(zxh kj).2
  have DU:dd.toList.map a.eval=a.eval (.tmp t)::r.map a.eval:=by rw[has];rfl
  have cc:∀i,(dd.map a.eval)[i]? =(a.eval (.tmp t)::r.map a.eval)[i]? :=fun i=>by
   rw[<-DU,<-Array.toList_map,Array.getElem?_toList]
  obtain⟨i1,_,_,i4⟩:=zl3 hr (r.map fun x=>(s.aF x,a.eval x)) l none (fun z hz=>by
   obtain⟨q,_,rfl⟩:=List.mem_map.1 hz
   exact⟨_,hr.aF q⟩) (by rw[List.map_map];exact bJ)
  refine⟨?_,fun i sv v hs hv=> ?_,fun aV t' p hm=> ?_,fun B hB=> ?_,(fun hb=>by cases hb),(by have:=zl2 _ _ _ bJ;simpa [SV.bu] using this)⟩
  ·have:=congrArg List.length DU
   simp at this i1⊢
   omega
  ·rw[cc] at hv
   cases i with
   |zero=>
    simp only[List.getElem?_cons_zero,Option.some.injEq] at hs hv
    subst hs hv
    refine⟨g,rfl,(nv dw).2 ⟨?_,by simp [Ty.dJ]⟩⟩
    show a.tmps.getD t Go.undef=_
    rw[hvt]
    simp [Ty.off]
   |succ i=>
    simp only[List.getElem?_cons_succ] at hs hv
    have hx:=i4 none (fun _ _ e=>by cases e) i sv
    rw[List.getElem?_map] at hv
    obtain⟨q,hq,rfl⟩:=Option.map_eq_some_iff.1 hv
    have qC:=hx (s.aF q,a.eval q) hs (by rw[List.getElem?_map,hq];rfl) (.c (i+1) 0)
    have Et:∀ad v,(X.cC none).ax ad v->(X.dB id j g).ax ad v:=fun ad v h=>dy ad v (z24.1 h)
    rcases Hq _ _ bJ sv (List.mem_of_getElem? hs) with⟨t1,y1,rfl⟩|rfl|⟨t1,y1,rfl⟩
    ·obtain⟨cs,e1,e2,_⟩:=qC
     exact⟨cs,e1.ag Et,e2,km⟩
    ·exact qC
    ·obtain⟨ad,cs,e1,e2,e3,e4⟩:=qC
     exact⟨ad,cs,e1,e2,e3.ag Et,fun i w hi=>Et _ _ (e4 i w hi)⟩
  ·rcases List.mem_cons.1 hm with e|hm
   ·cases e;exact⟨rfl,rfl⟩
   ·rcases Hq _ _ bJ _ hm with⟨_,_,e⟩|e|⟨_,_,e⟩<;>cases e
  ·cases hB
   refine⟨g,rfl,by simp [ar.dB],cT.of dw Pr (PR.ag dy) fun p hp=> ?_⟩
   obtain⟨e,t',xs,v,g0,g1,g2,g3⟩:=P0 p hp
   refine⟨e,t',xs,v,g0,g1,g2,?_⟩
   rcases g3 with g3|⟨q,cap,cur,k1,k2,k3,k4,k5,k6⟩
   ·exact .inl g3
   ·refine .inr ⟨q,cap,cur,k1,k2,k3,k4,k5,?_⟩
    have bB:q≠g:=fun e=>by
     rw[e,kj] at k6
     injection k6 with k6 _
     injection k6 with _ k6
     injection k6 with _ k6
     have:p=[2]:=by simpa [wQ] using hp
     rw[this] at k6
     cases k6
    simp only[ar.dB]
    rw[if_neg bB,k6]
    simp [uu]
 intro next Q hn
 unfold Oper.wp
 rw[zwz dE ho,Oper.upon_enter]
 refine(kQ (X.dB id j g) _ fG).mono fun e w' he=> ?_
 cases e with
 |panicked c=>exact he.elim
 |outgrown=>exact he.elim
 |returned v=>
  obtain⟨Y,rfl,aT,r0,En,bp,l5,dn⟩:=he
  cases b' with
  |none=>cases h
  |some B'=>
   simp only at h
   split at h
   case isFalse=>cases h
   rename_i de
   cases Ee:zx B'.own [2] with
   |false=>rw[Ee] at h;cases h
   |true=>
   rw[Ee,cond_true] at h
   cases h
   have hp:=l5 (.inr rfl)
   obtain⟨hB,hβ0⟩:=bp B' rfl
   have hβ0:=hβ0 rfl
   have:g=r0:=by
    have e:(X.dB id j g).β 0=some g:=rfl
    rw[e] at hβ0
    injection hβ0
   subst this
   have hY:Y.ow g= .box 0:=hB.1
   have hX:=JC (d:=o.dst.getD 0) aT kj hY
   refine hn (X.aX Y id j g (o.dst.getD 0)) v hX ?_
   obtain⟨er1,er2,_⟩:=tY (d:=o.dst.getD 0) (q:=rr) aT (rR aC) (by rw[how];rfl) (fun e=>by rw[e,kj] at how;cases how)
   have cD:cU (X.aX Y id j g (o.dst.getD 0)) (fun p=> .b id (j::p)) tb (some (Ty.cast de B'.x)) (.pointer (some ⟨g,0,none⟩)):=by
    obtain⟨bt,bx,bo⟩:=B'
    have e:=Ty.aH de
    simp only at e
    subst e
    obtain⟨dI,T',k1,k2,k3⟩:=(cT.plain dw).1 hB.2
    refine⟨g,dI,T',rfl,k1,by simp [ar.aX],k2.ag fun _ _=>z8l aT hY,?_⟩
    have h2:bc (X.aX Y id j g (o.dst.getD 0)) (fun p=> .b id (j::p)) bt bx dI.toList bo:=bc.oe aT hY (pl:= .b 0) (fun _ _=>rfl) k3
    intro p hp
    have:p=[2]:=by simpa [wQ] using hp
    subst this
    exact h2 [2] (wE Ee)
   have ya:fJ (X.aX Y id j g (o.dst.getD 0)) rr (.b id) ta tb (x.1,fE j (some (Ty.cast de B'.x)) x.2.1,x.2.2):=by
    refine⟨c,p0,p1,T,er2.trans aC,aK.ag hX.ax,?_,?_⟩
    ·match j,hj,vO with
     |0,_,vO=>
      have:p0= .pointer (some ⟨g,0,none⟩):=vO
      rw[this];exact cD
     |1,_,_=>exact oL.aX aT kj hY (by omega)
    ·match j,hj,vO with
     |0,_,_=>exact oM.aX aT kj hY (by omega)
     |1,_,vO=>
      have:p1= .pointer (some ⟨g,0,none⟩):=vO
      rw[this];exact cD
   have dV:=hr.bS t 0
   have fP:∀(i:Nat) (l:List SV) a b j,(s.bS t 0).sl[i]? =some l->SV.bh id a b j∈l->False:=fun i l a' b' j' iS hm=>by
    simp only[State.bS,List.getElem?_set] at iS
    split at iS
    ·first
      |(split at iS
        ·cases iS
         rw[bL] at hm
         simp [Ref.bz,SV.shut] at hm
        ·cases iS)
      |(cases iS
        rw[bL] at hm
        simp [Ref.bz,SV.shut] at hm)
    ·rename_i e
     exact e (Ey i l a' b' j' iS hm).symm
   have aw:id<(s.bS t 0).bs.length:=(List.getElem?_eq_some_iff.1 hb).1
   have bg:Rel (X.aX Y id j g (o.dst.getD 0)) ((s.bS t 0).az (some (id,⟨.aI .bE ta tb,(x.1,fE j (some (Ty.cast de B'.x)) x.2.1,x.2.2),[]::own⟩))) a:=by
    refine⟨dV.size,by simpa [State.az] using dV.fh,fun i l v iS gX=>(dV.bC i l v iS gX).gg fun k sv u hm hu=>hu.aX aT kj hY,fun aV B2 cE=> ?_,fun i l aV t' p hi hm=> ?_,dV.defers,dV.bh.az fP⟩
    ·simp only[State.az,List.getElem?_set] at cE
     by_cases e:id=aV
     ·subst e
      rw[if_pos rfl,if_pos aw] at cE
      cases cE
      exact⟨rr,hβ,er1.trans how,⟨_,er2.trans aC⟩,fun _=>ya⟩
     ·rw[if_neg e] at cE
      obtain⟨r',k1,k2⟩:=dV.boxes aV B2 cE
      exact⟨r',k1,k2.aX aT kj hY (fun e2=>e e2.symm)⟩
    ·obtain⟨B2,cE⟩:=dV.live i l aV t' p hi hm
     simp only[State.az,List.getElem?_set]
     by_cases e:id=aV
     ·subst e;exact⟨_,by rw[if_pos rfl,if_pos aw]⟩
     ·rw[if_neg e];exact⟨B2,cE⟩
   exact bg.fin (En.oe aT hY hp dn) (fun id t p hm=>absurd hm (hp id t p)) dn
theorem VB(hr:Rel X s a){C:af}(hC:C.Nat){f:FuncId}(hf:cG P C f){ops:List Oper}{dd:Array Operand}{ts:Array TypeId}(ho:o.op= .call ⟨.value (.func f),dd,ts⟩)(h:act E (C Out) ops o s some=some u):iN P X s a o u:=by
 unfold act at h
 simp only[ho] at h
 split at h
 ·rename_i t id ta tb j r hl
  exact z154 hr hC hf ho hl h
 obtain⟨u0,h0,h1⟩:=zz (JH hC (F:=fun u=>some (bif eD E o.dst then u.shut else u)) (G:=some) (K:=fun u=>some (bif eD E o.dst then u.shut else u)) (fun _=>rfl)) h
 have hd:iN P X s a o u0:=by
  refine zah hr hC hf (zab hr dd) (fun dE=> ?_) (by rw[List.map_map];exact h0)
  rw[zwz dE ho]
  congr 2
  apply Array.toList_inj.1
  simp [Function.comp_def]
 cases hs:eD E o.dst with
 |false=>rw[hs] at h1;cases h1;exact hd
 |true=>rw[hs] at h1;cases h1;exact hd.shut
theorem aaL{f:FuncId}(h:oF P f){x:Operand}{v:Value}{dd:Array Operand}{ts:Array TypeId}(ho:o.op= .call ⟨.value x,dd,ts⟩)(hx:a.eval x= .func (.func f) #[] #[v])(w:World):(execOp a.eval o).run P w= .ok (.enter f (dd.map a.eval++ #[v])) w:=by
 obtain⟨fn,c,h1,h2,h3⟩:=h
 simp [execOp,ho,resolve,Deferred.ofValue,hx,invoke,callFunc,h1,h3]
 simpa using h2
theorem Yq{f:FuncId}(h:oF P f){x:Operand}{v v2:Value}{dd:Array Operand}{ts:Array TypeId}(ho:o.op= .call ⟨.value x,dd,ts⟩)(hx:a.eval x= .func (.func f) #[] #[v,v2])(w:World):(execOp a.eval o).run P w= .ok (.enter f (dd.map a.eval++ #[v,v2])) w:=by
 obtain⟨fn,c,h1,h2,h3⟩:=h
 simp [execOp,ho,resolve,Deferred.ofValue,hx,invoke,callFunc,h1,h3]
 simpa using h2
theorem SS(hr:Rel X s a){C:af}(hC:C.Nat)(hf:∀f,cG P C f){ops:List Oper}{y:Nat}{dd:Array Operand}{ts:Array TypeId}(ho:o.op= .call ⟨.value (.tmp y),dd,ts⟩)(h:act E (C Out) ops o s some=some u):iN P X s a o u:=by
 unfold act at h
 simp only[ho] at h
 split at h
 case h_3=>cases h
 case h_2=>
  rename_i f t x1 u' y1 cX
  have hx:=hr.aF (.tmp y)
  rw[cX] at hx
  obtain⟨ad,nk,cs,dI,hv,⟨g2,g3,g4⟩,k2,k3,k4⟩:=hx
  refine zah hr hC (hf f) (vs:=dd.toList.map (fun x=>(s.aF x,a.eval x))++ [(.view t x1,.pointer (some ad)),(.view u' y1,.pointer (some nk))]) (fun x hx=> ?_) (fun dE=> ?_) (by rw[List.map_append,List.map_map];exact h)
  ·rcases List.mem_append.1 hx with hx|hx
   ·exact zab hr dd x hx
   ·rcases List.mem_cons.1 hx with rfl|hx
    ·exact⟨.r 0,ad,cs,rfl,g2,g3,g4⟩
    ·rw[List.mem_singleton.1 hx]
     exact⟨.r 0,nk,dI,rfl,k2,k3,k4⟩
  ·rw[Yq dE ho hv]
   congr 2
   apply Array.toList_inj.1
   simp [Function.comp_def]
 rename_i id f t b cX
 have hx:=hr.aF (.tmp y)
 rw[cX] at hx
 obtain⟨r0,hβ,hv⟩:=hx
 have hv:a.eval (.tmp y)= .func (.func f) #[] #[.pointer (some ⟨r0,0,none⟩)]:=hv
 split at h
 case isTrue=>cases h
 rename_i hs
 refine zah hr hC (hf f) (vs:=dd.toList.map (fun x=>(s.aF x,a.eval x))++ [(.ptr id t [],.pointer (some ⟨r0,0,none⟩))]) (fun x hx=> ?_) (fun dE=> ?_) (by rw[List.map_append,List.map_map];exact h)
 ·rcases List.mem_append.1 hx with hx|hx
  ·exact zab hr dd x hx
  ·rw[List.mem_singleton.1 hx]
   exact⟨.r 0,r0,hβ,(HA (by simpa using hs)).2 ⟨by simp [Ty.off],by simp [Ty.dJ]⟩⟩
 ·rw[aaL dE ho hv]
  congr 2
  apply Array.toList_inj.1
  simp [Function.comp_def]
end Go.Ref

namespace Go.Ref
open Go
variable {P:Program} {E:Env} {X:ar} {s:State} {a:Act} {o:Oper} {u:Out}
theorem Yh(hE:aj P E)(hr:Rel X s a){C:af}(hC:C.Nat)(hf:∀f,cG P C f){ops:List Oper}(h:act E (C Out) ops o s some=some u):iN P X s a o u:=by
 cases ho:o.op with
 |move x=>exact(VG hr ho h).does
 |assign x=>exact(Ss hr ho h).does
 |pick c x y=>exact(VI hr ho h).does
 |binOp op T x y T'=>exact(Yu hE hr ho h).does
 |unOp op T x=>exact(aaN hr ho h).does
 |convert S T x=>exact(VC hE hr ho h).does
 |load T x=>exact(VF hE hr ho h).does
 |store T x y=>exact(SZ hE hr ho h).does
 |nilCheck x=>exact(zya hr ho h).does
 |fieldAddr T x j=>exact(zw2 hE hr ho h).does
 |indexAddr T x i=>exact(zw3 hE hr ho h).does
 |index T x i=>exact(z159 hE hr ho h).does
 |field T x j=>exact(SW hE hr ho h).does
 |slice T x lo hi mx=>
  cases mx with
  |none=>exact(Yw hE hr ho h).does
  |some m=>unfold act at h;simp only[ho] at h;cases h
 |alloc T=>exact(SR hE hr ho h).does
 |box T x=>exact(Yv hE hr ho h).does
 |build T parts=>exact(z152 hE hr ho h).does
 |buildSlice T n parts=>exact(zom hE hr ho h).does
 |extract x j=>exact(R7 hr ho h).does
 |makeMap T r=>exact(Sc hE hr ho h).does
 |lookup T x i ok=>exact(Su hE hr ho h).does
 |mapUpdate T m k x=>exact(z9p hE hr (.inl ho) h).does
 |insert T m k x=>exact(z9p hE hr (.inr ho) h).does
 |range T x=>exact(SY hE hr ho h).does
 |next x str=>exact(VH hr ho h).does
 |makeSlice T l c=>exact(zw4 hE hr ho h).does
 |makeFunc fn fi ca=>exact(zy9 hr ho h).does
 |call c=>
  obtain⟨callee,args,ts⟩:=c
  cases callee with
  |value x=>
   cases x with
   |func f=>exact VB hr hC (hf f) ho h
   |tmp y=>exact SS hr hC hf ho h
   |_=>unfold act at h;simp only[ho] at h;cases h
  |builtin b=>
   cases b with
   |len=>exact(Yx (x:= .const Go.undef) (T:=0) hE hr ho h).does
   |append=>exact(Sr hE hr ho h).does
   |copy=>exact(VD hE hr ho h).does
   |max=>exact(zwv (g:=true) hr ho h).does
   |min=>exact(zwv (g:=false) hr ho h).does
   |_=>unfold act at h;simp only[ho] at h;cases h
  |_=>unfold act at h;simp only[ho] at h;cases h
 |_=>unfold act at h;simp only[ho] at h;cases h
theorem Rel.know(hr:Rel X s a){d:Nat}{p:Bool}{o:List (List Nat)}(h:s.slot d=[.ai .bool p o]):Rel X (s.ap (some d) (bl p)) a/\a.tmps[d]? =some (.bool p):=by
 have hd:d<s.sl.length:=by
  rcases Nat.lt_or_ge d s.sl.length with h1|h1
  ·exact h1
  ·simp [State.slot,List.getElem?_eq_none h1] at h
 have oJ:d<a.tmps.size:=by rw[<-hr.size];exact hd
 have hv:a.tmps[d]? =some (a.tmps.getD d Go.undef):=by simp [Array.getElem?_eq_getElem oJ]
 have hs:=hr.slot d
 rw[h] at hs
 have hb:=He (X:=X) hs
 rw[hb] at hv
 refine⟨?_,hv⟩
 have PM:a.put (some d) (.bool p)=a:=by
  cases a with
  |mk tmps defers=>
   simp only[Act.put,Act.mk.injEq,and_true]
   apply Array.ext_getElem?
   intro i
   rw[Array.getElem?_setIfInBounds]
   split
   ·rename_i e
    subst e
    first
     |exact hv.symm
     |(rw[if_pos oJ];exact hv.symm)
   ·rfl
 have:=hr.put (d:=some d) (l:=bl p) (v:= .bool p) (fun _ _=>lu) (fun id t q hm=>by simp [bl] at hm)
 rw[PM] at this
 exact this
theorem MG(hE:aj P E)(hr:Rel X s a){C:af}(hC:C.Nat)(hf:∀f,cG P C f){ops:Array Oper}{i:Nat}(hi:ops[i]? =some o){s':State}(h:step E (C State) ops.toList o s some=some s'){Q:Exit->Act->World->Prop}{K:Act->World->Prop}
 (hK:∀Y a',Ext X Y->Rel Y s' a'->K a' Y.w):wpOp P ops Q i K a X.w:=by
 unfold wpOp
 simp only[hi]
 have n7:∀{s1:State},Rel X s1 a->(act E (C State) ops.toList o s1 fun u=>some (s1.apply o.dst u))=some s'->o.wp P a X.w K Q:=by
  intro s1 dV h1
  obtain⟨u,hu,h2⟩:=zz (ug hC (F:=fun u=>some (s1.apply o.dst u)) (G:=some) (K:=fun u=>some (s1.apply o.dst u)) (fun _=>rfl)) h1
  cases h2
  exact Yh hE dV hC hf hu K Q (fun Y v aT bg=>hK Y _ aT bg)
 have iv:∀{s1:State},Rel X s1 a->some (s1.ap o.dst [.skip])=some s'->K (a.put o.dst Go.undef) X.w:=by
  intro s1 dV h1
  cases h1
  exact hK X _ (Ext.refl X) (dV.skip o.dst)
 unfold step at h
 simp only at h
 split at h
 ·rename_i hg
  have hw:Region.wanted o (yielded ops a.tmps)=true:=by simp [Region.wanted,hg]
  rw[if_pos hw]
  exact .inl (n7 hr h)
 ·rename_i g want hg
  split at h
  ·cases h
  rename_i d hd
  have hd':(ops[g]?).bind (·.dst)=some d:=by simpa [Ia] using hd
  split at h
  ·rename_i p hs
   obtain⟨dV,hv⟩:=hr.know hs
   have hy:yielded ops a.tmps g=some p:=by simp [yielded,hd',hv]
   have hw:Region.wanted o (yielded ops a.tmps)=(p==want):=by simp [Region.wanted,hg,hy]
   cases p<;>cases want<;>simp only[cond_true,cond_false] at h<;>rw[hw]
   ·exact .inl (n7 dV h)
   ·exact iv dV h
   ·exact iv dV h
   ·exact .inl (n7 dV h)
  ·rename_i hs
   have fQ:=hr.slot d
   rw[hs] at fQ
   have oc:a.tmps.getD d Go.undef=Go.undef:=fQ
   have hy:yielded ops a.tmps g=none:=by
    simp only[yielded,hd',Option.bind_some]
    cases ht:a.tmps[d]? with
    |none=>rfl
    |some v=>
     have:v=Go.undef:=by
      rw[<-oc]
      simp [Array.getD_eq_getD_getElem?,ht]
     subst this
     rfl
   have hw:Region.wanted o (yielded ops a.tmps)=false:=by simp [Region.wanted,hg,hy]
   rw[hw]
   exact iv hr h
  ·cases h
theorem FO(hE:aj P E){C:af}(hC:C.Nat)(hf:∀f,cG P C f){ops:Array Oper}{s':State}{Q:Exit->Act->World->Prop}:∀(l:List Nat) (X:ar) (s:State) (a:Act),Rel X s a->(∀i∈l,i<ops.size)->
 steps E (C State) ops.toList (l.map fun i=>ops.getD i default) s some=some s'->(∀Y a',Ext X Y->Rel Y s' a'->Q .normal a' Y.w)->wpOps P ops Q l a X.w
 | [],X,s,a,hr,_,h,hQ=>by
   cases h
   exact hQ X a (Ext.refl X) hr
 |i::r,X,s,a,hr,hl,h,hQ=>by
  simp only[List.map_cons,steps] at h
  obtain⟨s1,h1,h2⟩:=zz (zll hC (F:=fun s=>steps E (C State) ops.toList (r.map fun i=>ops.getD i default) s some) (G:=some) (K:=fun s=>steps E (C State) ops.toList (r.map fun i=>ops.getD i default) s some) (fun _=>rfl)) h
  have hi:ops[i]? =some (ops.getD i default):=by
   have:=hl i (by simp)
   simp [this]
  rw[wpOps_cons]
  refine MG hE hr hC hf hi h1 fun Y a' aT bg=> ?_
  exact FO hE hC hf r Y s1 a' bg (fun j hj=>hl j (List.mem_cons_of_mem _ hj)) h2 fun Z a2 bR cJ=>hQ Z a2 (aT.trans bR) cJ
end Go.Ref

namespace Go.Ref
open Go
variable {P:Program} {E:Env} {X:ar} {s:State} {a:Act} {o:Oper} {u:Out}
theorem zl9(i j:Nat):(bit i).testBit j=decide (i=j):=by
 simp [bit,Nat.shiftLeft_eq,Nat.testBit_two_pow]
theorem ua:∀(l:List Nat) (j:Nat),(gI l).testBit j=decide (j∈l)
 | [],j=>by simp [gI]
 |i::r,j=>by
  rw[gI,Nat.testBit_or,zl9,ua r j]
  by_cases h:i=j
  ·subst h;simp
  ·have h':¬j=i:=fun e=>h e.symm
   simp [h,h']
theorem JU{a b:Nat}(h:Nat.beq (a&&&b) 0=true)(j:Nat):a.testBit j=true->b.testBit j=false:=by
 intro ha
 have h0:=Nat.eq_of_beq_eq_true h
 have:=congrArg (fun n=>Nat.testBit n j) h0
 simp only[Nat.testBit_and,Nat.zero_testBit,ha,Bool.true_and] at this
 exact this
theorem zH:∀(l:List Edge) (j:Nat),(zr l).testBit j=true->∃e∈l,Region.binds .any e=true/\e.on=j
 | [],j,h=>by simp [zr] at h
 |e::r,j,h=>by
  simp only[zr] at h
  cases hb:Region.binds .any e with
  |false=>
   rw[hb] at h
   obtain⟨e',h1,h2⟩:=zH r j h
   exact⟨e',List.mem_cons_of_mem _ h1,h2⟩
  |true=>
   rw[hb] at h
   simp only[cond_true,Nat.testBit_or,zl9,Bool.or_eq_true,decide_eq_true_eq] at h
   rcases h with h|h
   ·exact⟨e,by simp,hb,h⟩
   ·obtain⟨e',h1,h2⟩:=zH r j h
    exact⟨e',List.mem_cons_of_mem _ h1,h2⟩
theorem zdp:∀(l:List Edge) (e:Edge),e∈l->Region.binds .any e=true->(zr l).testBit e.on=true
 |e'::r,e,h,hb=>by
  simp only[zr]
  rcases List.mem_cons.1 h with rfl|h
  ·rw[hb];simp [Nat.testBit_or,zl9]
  ·have:=zdp r e h hb
   cases Region.binds .any e'<;>simp [Nat.testBit_or,this]
theorem zwo{m i j:Nat}(h:Nat.ble (m+1) (bit i)=true)(hj:m.testBit j=true):j<i:=by
 have h1:m<2^i:=by
  have:=Nat.le_of_ble_eq_true h
  simp only[bit,Nat.shiftLeft_eq,Nat.one_mul] at this
  omega
 rcases Nat.lt_or_ge j i with h2|h2
 ·exact h2
 ·have h3:m<2^j:=Nat.lt_of_lt_of_le h1 (Nat.pow_le_pow_right (by omega) h2)
  rw[Nat.testBit_lt_two_pow h3] at hj
  cases hj
def dM(E:Env)(C:af)(ops:List Oper)(o:Oper)(s:State):Option Out:=
 match o.guard with
 |none=>act E (C Out) ops o s some
 |some (g,want)=>match Ia ops g with
  |none=>none
  |some d=>match s.slot d with
   | [.ai .bool p []]=>if p=want then act E (C Out) ops o s some else some {v:=[.skip]}
   | [.skip]=>some {v:=[.skip]}
   |_=>none
theorem Bl{d:Nat}{l:List SV}(h:s.slot d=l):s.ap (some d) l=s:=by
 cases s with
 |mk sl bs=>
  simp only[State.ap,State.mk.injEq,and_true]
  simp only[State.slot] at h
  apply List.ext_getElem?
  intro i
  rw[List.getElem?_set]
  split
  ·rename_i e
   subst e
   split
   ·rename_i aw
    rw[List.getD_eq_getElem?_getD,List.getElem?_eq_getElem aw] at h
    rw[List.getElem?_eq_getElem aw]
    simpa using h.symm
   ·rename_i aw
    rw[List.getElem?_eq_none (by omega)]
  ·rfl
theorem Wj{C:af}(hC:C.Nat){R:Type}{ops:List Oper}{i:Nat}{tr:List dp}{K:State->List dp->Option R}{z:R}(h:jB E (C R) ops o i s tr K=some z):
 ∃u,dM E C ops o s=some u/\fits ops (zr o.after.toList) (zv ops o i s u) tr=true/\K (s.apply o.dst u) (zv ops o i s u::tr)=some z:=by
 have n7:(act E (C R) ops o s fun u=>bif fits ops (zr o.after.toList) (zv ops o i s u) tr then K (s.apply o.dst u) (zv ops o i s u::tr) else none)=some z->
  ∃u,act E (C Out) ops o s some=some u/\fits ops (zr o.after.toList) (zv ops o i s u) tr=true/\K (s.apply o.dst u) (zv ops o i s u::tr)=some z:=by
  intro h
  obtain⟨u,h1,h2⟩:=zz (ug hC (F:=fun u=>bif fits ops (zr o.after.toList) (zv ops o i s u) tr then K (s.apply o.dst u) (zv ops o i s u::tr) else none) (G:=some) (K:=fun u=>bif fits ops (zr o.after.toList) (zv ops o i s u) tr then K (s.apply o.dst u) (zv ops o i s u::tr) else none) (fun _=>rfl)) h
  cases hf:fits ops (zr o.after.toList) (zv ops o i s u) tr with
  |false=>rw[hf] at h2;cases h2
  |true=>rw[hf] at h2;exact⟨u,h1,hf,h2⟩
 have iv:(bif fits ops (zr o.after.toList) (zv ops o i s {v:=[.skip]}) tr then K (s.apply o.dst {v:=[.skip]}) (zv ops o i s {v:=[.skip]}::tr) else none)=some z->
  fits ops (zr o.after.toList) (zv ops o i s {v:=[.skip]}) tr=true/\K (s.apply o.dst {v:=[.skip]}) (zv ops o i s {v:=[.skip]}::tr)=some z:=by
  intro h
  cases hf:fits ops (zr o.after.toList) (zv ops o i s {v:=[.skip]}) tr with
  |false=>rw[hf] at h;cases h
  |true=>rw[hf] at h;exact⟨rfl,h⟩
 unfold jB at h
 unfold dM
 simp only at h
 split at h
 ·rename_i hg
  try simp only[hg]
  exact n7 h
 ·rename_i g want hg
  try simp only[hg]
  split at h
  ·cases h
  rename_i d hd
  try simp only[hd]
  split at h
  ·rename_i p hs
   have jY:s.slot d=bl p:=hs
   try simp only[hs]
   cases p<;>cases want<;>simp only[cond_true,cond_false] at h
   ·rw[Bl jY] at h;rw[if_pos rfl];exact n7 h
   ·rw[Bl jY] at h;rw[if_neg (by simp)];exact⟨_,rfl,iv h⟩
   ·rw[Bl jY] at h;rw[if_neg (by simp)];exact⟨_,rfl,iv h⟩
   ·rw[Bl jY] at h;rw[if_pos rfl];exact n7 h
  ·rename_i hs
   try simp only[hs]
   exact⟨_,rfl,iv h⟩
  ·cases h
theorem zk7{C:af}(hC:C.Nat){ops:List Oper}(h:dM E C ops o s=some u):step E (C State) ops o s some=some (s.apply o.dst u):=by
 have n7:act E (C Out) ops o s some=some u->(act E (C State) ops o s fun u=>some (s.apply o.dst u))=some (s.apply o.dst u):=by
  intro h
  rw[ug hC (F:=fun u=>some (s.apply o.dst u)) (G:=some) (K:=fun u=>some (s.apply o.dst u)) (fun _=>rfl),h]
  rfl
 unfold dM at h
 unfold step
 simp only
 split at h
 ·rename_i hg
  try simp only[hg]
  exact n7 h
 ·rename_i g want hg
  try simp only[hg]
  split at h
  ·cases h
  rename_i d hd
  try simp only[hd]
  split at h
  ·rename_i p hs
   have jY:s.slot d=bl p:=hs
   try simp only[hs]
   split at h
   ·rename_i e
    subst e
    cases p<;>simp only[cond_true,cond_false]<;>rw[Bl jY]<;>exact n7 h
   ·rename_i e
    cases h
    cases p<;>cases want<;>simp only[cond_true,cond_false]<;>first|exact absurd rfl e|(rw[Bl jY];rfl)
  ·rename_i hs
   try simp only[hs]
   cases h
   rfl
  ·cases h
structure kq(ts bs:List Nat)(s s':State):Prop where
 sl:∀t∈ts,s.slot t=s'.slot t
 bs:∀id∈bs,s.bs[id]? =s'.bs[id]?
theorem FR{l:List Operand}{t:Nat}:Operand.tmp t∈l->t∈oC l:=by
 induction l with
 |nil=>intro h;cases h
 |cons x r ih=>
  intro h
  rcases List.mem_cons.1 h with e|h
  ·subst e;simp [oC]
  ·have:=ih h
   cases x<;>simp [oC,this]
theorem zef{s s':State}{ts:List Nat}(h:∀t∈ts,s.slot t=s'.slot t){l:List Operand}(hl:∀t∈oC l,t∈ts){x:Operand}(hx:x∈l):s.aF x=s'.aF x:=by
 cases x with
 |tmp t=>simp only[State.aF,State.tL,h t (hl t (FR hx))]
 |_=>rfl
theorem Ti(j:Nat):bz [SV.undef] j=[SV.undef]:=by
 cases j<;>rfl
theorem z8e{s:State}{i j t:Nat}:(s.bS i j).slot t=if t=i then bz (s.slot t) j else s.slot t:=by
 simp only[State.bS,State.slot,List.getD_eq_getElem?_getD,List.getElem?_set]
 by_cases e:t=i
 ·subst e
  rw[if_pos rfl,if_pos rfl]
  by_cases aw:t<s.sl.length
  ·rw[if_pos aw];rfl
  ·rw[if_neg aw,List.getElem?_eq_none (by omega)]
   simp [Ti]
 ·rw[if_neg e,if_neg (fun h=>e h.symm)]
theorem zji{t:Nat}:∀{c:List (Nat×Nat)} {s s':State},s.slot t=s'.slot t->(s.close c).slot t=(s'.close c).slot t
 | [],s,s',h=>h
 |(i,j)::r,s,s',h=>by
  rw[z31,z31]
  refine zji (c:=r) ?_
  rw[z8e,z8e,h]
theorem zk1{ts:List Nat}:∀{l:List (Nat×Operand)} {s s':State},(∀t∈ts,s.slot t=s'.slot t)->(∀t∈oC (l.map (·.2)),t∈ts)->kp s l=kp s' l
 | [],s,s',h,hl=>rfl
 |(i,x)::r,s,s',h,hl=>by
  have hx:s.aF x=s'.aF x:=zef h hl (by simp)
  have hr:∀c:List (Nat×Nat),kp (s.close c) r=kp (s'.close c) r:=fun c=>zk1 (fun t ht=>zji (h t ht)) (fun t ht=>hl t (by
   cases x<;>simp [oC,ht]))
  simp only[kp,hx,hr]
theorem Hi{s s':State}:∀{l:List SV},(∀id∈l.flatMap bU,s.box id=s'.box id)->gP s l=gP s' l
 | [],h=>rfl
 |v::r,h=>by
  have hr:gP s r=gP s' r:=Hi fun id eF=>h id (by simp only[List.flatMap_cons,List.mem_append];exact .inr eF)
  simp only[gP,hr]
  split
  ·rfl
  ·rename_i l b _
   cases v with
   |ptr id t p=>
    have hb:s.box id=s'.box id:=h id (by simp [bU])
    cases p with
    |nil=>cases b<;>simp only[hb]
    |cons _ _=>rfl
   |_=>rfl
theorem Vb{C:FuncId->bI Out}{ops:List Oper}{s s':State}(h:kq (looks ops o) (zq s o) s s'):act E C ops o s some=act E C ops o s' some:=by
 have fQ:∀t∈oC o.op.operands.toList,s.slot t=s'.slot t:=fun t ht=>h.sl t (by simp only[looks,List.mem_append];exact .inl ht)
 have cf:∀x∈o.op.operands.toList,s.aF x=s'.aF x:=fun x hx=>zef fQ (fun _ ht=>ht) hx
 have bp:∀id∈zq s o,s.box id=s'.box id:=fun id eF=>by
  simp only[State.box,List.getD_eq_getElem?_getD,h.bs id eF]
 unfold act
 cases ho:o.op with
 |move x=>
  have ht:ln s x=ln s' x:=by
   cases x with
   |tmp t=>
    have:s.slot t=s'.slot t:=fQ t (by simp [ho,Op.operands,oC])
    simp only[ln,this]
   |_=>rfl
  simp only;rw[cf x (by simp [ho,Op.operands]),ht]
 |assign x=>simp only;rw[cf x (by simp [ho,Op.operands])]
 |pick c x y=>simp only;rw[cf c (by simp [ho,Op.operands]),cf x (by simp [ho,Op.operands]),cf y (by simp [ho,Op.operands])]
 |binOp op T x y T'=>simp only;rw[cf x (by simp [ho,Op.operands]),cf y (by simp [ho,Op.operands])]
 |unOp op T x=>simp only;rw[cf x (by simp [ho,Op.operands])]
 |convert S T x=>
  have hx:=cf x (by simp [ho,Op.operands])
  simp only
  rw[<-hx]
  split
  ·rename_i id n ta tb e
   simp only[io,bp id (by simp [zq,ho,e,bU])]
  ·rfl
 |makeMap T r=>
  cases r with
  |some r=>rfl
  |none=>
   simp only
   cases hd:o.dst with
   |none=>rfl
   |some d=>
    have:=h.bs (d+1) (by simp [zq,ho,hd])
    simp only[iG,this]
 |lookup T x i ok=>
  cases ok with
  |true=>rfl
  |false=>
   simp only
   rw[<-cf x (by simp [ho,Op.operands]),<-cf i (by simp [ho,Op.operands])]
   unfold js rV
   split
   ·split
    ·rename_i e
     simp only[bp _ (by simp only[zq,ho,e,bU];exact List.mem_singleton.2 rfl)]
    ·rfl
   ·rfl
 |mapUpdate T m k x=>
  simp only
  rw[<-cf m (by simp [ho,Op.operands]),<-cf k (by simp [ho,Op.operands]),<-cf x (by simp [ho,Op.operands])]
  unfold kd rV
  split
  ·split
   ·rename_i e
    simp only[bp _ (by simp only[zq,ho,e,bU];exact List.mem_singleton.2 rfl)]
   ·rfl
  ·rfl
 |insert T m k x=>
  simp only
  rw[<-cf m (by simp [ho,Op.operands]),<-cf k (by simp [ho,Op.operands]),<-cf x (by simp [ho,Op.operands])]
  unfold kd rV
  split
  ·split
   ·rename_i e
    simp only[bp _ (by simp only[zq,ho,e,bU];exact List.mem_singleton.2 rfl)]
   ·rfl
  ·rfl
 |range T x=>
  simp only
  rw[<-cf x (by simp [ho,Op.operands])]
  cases hd:o.dst with
  |none=>rfl
  |some d=>
   have:=h.bs (d+1) (by simp [zq,ho,hd])
   simp only[iG,this]
 |next x str=>
  cases str with
  |false=>rfl
  |true=>
   simp only
   rw[<-cf x (by simp [ho,Op.operands])]
   unfold ju
   split
   ·rename_i e
    simp only[bp _ (by simp only[zq,ho,e,bU];exact List.mem_singleton.2 rfl)]
   ·rfl
 |makeSlice T l c=>
  simp only
  rw[<-cf l (by simp [ho,Op.operands]),<-cf c (by simp [ho,Op.operands])]
  cases hd:o.dst with
  |none=>rfl
  |some d=>
   have:=h.bs (d+1) (by simp [zq,ho,hd])
   simp only[jt,iG,this]
 |load T x=>
  have hx:=cf x (by simp [ho,Op.operands])
  simp only
  rw[<-hx]
  unfold load
  split
  ·split
   ·rfl
   ·rename_i id t p e
    simp only[Ao,lC,bp id (by simp [zq,ho,e,bU])]
   ·rfl
  ·unfold iE
   split
   ·rename_i id a b j e
    simp only[lC,bp id (by simp [zq,ho,e,bU])]
   ·rfl
 |store T x y=>
  have hx:=cf x (by simp [ho,Op.operands])
  have hy:=cf y (by simp [ho,Op.operands])
  simp only
  rw[<-hx]
  unfold store
  rw[<-hy]
  split
  ·split
   ·rename_i id t p e
    simp only[zX,lC,bp id (by simp [zq,ho,e,bU])]
   ·rfl
  ·rfl
 |nilCheck x=>simp only;rw[cf x (by simp [ho,Op.operands])]
 |fieldAddr T x j=>simp only;rw[cf x (by simp [ho,Op.operands])]
 |indexAddr T x i=>simp only;rw[cf x (by simp [ho,Op.operands]),cf i (by simp [ho,Op.operands])]
 |index T x i=>simp only;rw[cf x (by simp [ho,Op.operands]),cf i (by simp [ho,Op.operands])]
 |field T x j=>simp only;rw[cf x (by simp [ho,Op.operands])]
 |slice T x lo hi mx=>
  cases mx with
  |none=>
   simp only
   have ye:lo.map s.aF=lo.map s'.aF:=by
    cases lo with
    |none=>rfl
    |some l=>simp only[Option.map_some,cf l (by simp [ho,Op.operands])]
   have D3:hi.map s.aF=hi.map s'.aF:=by
    cases hi with
    |none=>rfl
    |some l=>simp only[Option.map_some,cf l (by simp [ho,Op.operands])]
   rw[<-cf x (by simp [ho,Op.operands]),ye,D3]
   split
   ·rfl
   ·rename_i id n t e
    simp only[nZ,bp id (by simp [zq,ho,e,bU])]
   ·rfl
  |some m=>rfl
 |makeFunc fn fi ca=>
  cases fn with
  |func f=>
   simp only
   split
   ·rename_i x e1 e2
    have hm:x∈o.op.operands.toList:=by
     simp only[ho,Op.operands,Array.toList_append,List.mem_append,e2]
     exact .inr (by simp)
    rw[cf x hm]
   ·rename_i x y e1 e2
    have hm:∀z∈ [x,y],z∈o.op.operands.toList:=fun z hz=>by
     simp only[ho,Op.operands,Array.toList_append,List.mem_append,e2]
     exact .inr hz
    rw[cf x (hm x (by simp)),cf y (hm y (by simp))]
   ·rfl
  |_=>rfl
 |alloc T=>
  simp only
  cases hd:o.dst with
  |none=>split<;>simp_all
  |some d=>
   have:=h.bs (d+1) (by simp [zq,ho,hd])
   cases E.ty T<;>cases E.gr T<;>simp only[this]
 |box T x=>
  have hx:=cf x (by simp [ho,Op.operands])
  simp only
  cases hd:o.dst with
  |none=>split<;>simp_all
  |some d=>
   have:=h.bs (d+1) (by simp [zq,ho,hd])
   cases E.ty T<;>simp only[this,hx]
 |build T parts=>
  have hp:kp s parts.toList=kp s' parts.toList:=zk1 fQ (fun t ht=>by simpa [ho,Op.operands] using ht)
  simp only[hp]
 |buildSlice T n parts=>
  have hp:(parts.toList.map fun p=>(p.1,s.aF p.2))=parts.toList.map fun p=>(p.1,s'.aF p.2):=List.map_congr_left fun p hp=>by
   rw[cf p.2 (by
    simp only[ho,Op.operands]
    exact List.mem_map.2 ⟨p,hp,rfl⟩)]
  simp only[hp]
 |extract x j=>
  cases x with
  |tmp t=>
   have:s.slot t=s'.slot t:=fQ t (by simp [ho,Op.operands,oC])
   simp only[this]
  |_=>rfl
 |call c=>
  obtain⟨callee,args,ts⟩:=c
  cases callee with
  |value x=>
   cases x with
   |func f=>
    have bJ:args.toList.map s.aF=args.toList.map s'.aF:=List.map_congr_left fun x hx=>cf x (by
     simp only[ho,Op.operands,Call.operands,Array.toList_append,List.mem_append]
     exact .inr hx)
    have gD:gP s (args.toList.map s'.aF)=gP s' (args.toList.map s'.aF):=Hi fun id eF=>bp id (by
     simp only[zq,ho,List.mem_append]
     refine .inl ?_
     rw[<-bJ,List.flatMap_map] at eF
     exact eF)
    have hlk:AD s args.toList=AD s' args.toList:=by
     cases DT:args.toList with
     |nil=>rfl
     |cons x r=>
      cases x with
      |tmp t=>
       have:s.slot t=s'.slot t:=fQ t (by
        simp only[ho,Op.operands,Call.operands,Array.toList_append,DT]
        exact FR (List.mem_append_right _ (by simp)))
       simp only[AD,this]
      |_=>rfl
    simp only
    rw[<-hlk]
    split
    ·rename_i t id a b j r hl
     obtain⟨DT,bL⟩:=zjw hl
     have hr:r.map s.aF=r.map s'.aF:=by
      have:=bJ
      rw[DT] at this
      simpa using(List.cons.inj this).2
     have hbr:gP s (r.map s'.aF)=gP s' (r.map s'.aF):=Hi fun id eF=>bp id (by
      simp only[zq,ho,List.mem_append]
      refine .inl ?_
      rw[<-hr,List.flatMap_map] at eF
      rw[DT,List.flatMap_cons,List.mem_append]
      exact .inr eF)
     have eF:s.box id=s'.box id:=bp id (by
      simp only[zq,ho,List.mem_append]
      refine .inl ?_
      rw[DT,List.flatMap_cons,List.mem_append]
      refine .inl ?_
      have:s.aF (.tmp t)= .bh id a b j:=by show one (s.slot t)=_;rw[bL];rfl
      rw[this];simp [bU])
     simp only[im,lC,hr,hbr,eF]
    simp only[eN,bJ,gD]
    cases hd:o.dst with
    |none=>rfl
    |some d=>
     have:=h.bs (d+1) (by simp [zq,ho,hd])
     simp only[this]
   |tmp y=>
    have hy:s.aF (.tmp y)=s'.aF (.tmp y):=cf (.tmp y) (by
     simp only[ho,Op.operands,Call.operands,Array.toList_append,List.mem_append]
     exact .inl (by simp))
    have bJ:args.toList.map s.aF=args.toList.map s'.aF:=List.map_congr_left fun x hx=>cf x (by
     simp only[ho,Op.operands,Call.operands,Array.toList_append,List.mem_append]
     exact .inr hx)
    simp only
    rw[<-hy]
    split
    ·rename_i id f t b e
     have gD:gP s (args.toList.map s'.aF++ [.ptr id t []])=gP s' (args.toList.map s'.aF++ [.ptr id t []]):=Hi fun aV eF=>bp aV (by
      simp only[zq,ho,List.mem_append,e]
      rw[List.flatMap_append,List.mem_append] at eF
      rcases eF with eF|eF
      ·refine .inl ?_
       rw[<-bJ,List.flatMap_map] at eF
       exact eF
      ·exact .inr (.inl (by simpa [bU] using eF)))
     simp only[eN,bJ,gD]
     cases hd:o.dst with
     |none=>rfl
     |some d=>
      have:=h.bs (d+1) (by simp [zq,ho,hd])
      simp only[this]
    ·rename_i f t x u y e
     have gD:gP s (args.toList.map s'.aF++ [.view t x,.view u y])=gP s' (args.toList.map s'.aF++ [.view t x,.view u y]):=Hi fun aV eF=>bp aV (by
      simp only[zq,ho,List.mem_append]
      rw[List.flatMap_append,List.mem_append] at eF
      rcases eF with eF|eF
      ·refine .inl ?_
       rw[<-bJ,List.flatMap_map] at eF
       exact eF
      ·simp [bU] at eF)
     simp only[eN,bJ,gD]
     cases hd:o.dst with
     |none=>rfl
     |some d=>
      have:=h.bs (d+1) (by simp [zq,ho,hd])
      simp only[this]
    ·rfl
   |_=>rfl
  |builtin b=>
   have bJ:∀x∈args.toList,s.aF x=s'.aF x:=fun x hx=>cf x (by
    simp only[ho,Op.operands,Call.operands,Array.toList_append,List.mem_append]
    exact .inr hx)
   cases b with
   |copy=>
    simp only
    split
    ·rename_i d x T r e1 e2
     rw[bJ x (by rw[e1];simp),<-bJ d (by rw[e1];simp)]
     unfold copyV
     split
     ·rename_i e0 t0 id n ta tb hT e
      have hb:s.box id=s'.box id:=bp id (by simp only[zq,ho,e1,List.flatMap_cons,e,bU];exact List.mem_append_left _ (List.mem_singleton.2 rfl))
      simp only[fN,iq,hb]
     ·rename_i e0 t0 id n ta tb l hT e
      have hb:s.box id=s'.box id:=bp id (by simp only[zq,ho,e1,List.flatMap_cons,e,bU];exact List.mem_append_left _ (List.mem_singleton.2 rfl))
      simp only[fN,hb]
     ·rfl
    ·rfl
   |len=>
    simp only
    split
    ·rename_i x T e1 e2
     rw[bJ x (by rw[e1];simp)]
    ·rfl
   |append=>
    simp only
    split
    ·rename_i x y T U e1 e2
     rw[bJ x (by rw[e1];simp),bJ y (by rw[e1];simp)]
    ·rfl
   |max=>
    simp only
    split
    ·rename_i x y e1
     rw[bJ x (by rw[e1];simp),bJ y (by rw[e1];simp)]
    ·rfl
   |min=>
    simp only
    split
    ·rename_i x y e1
     rw[bJ x (by rw[e1];simp),bJ y (by rw[e1];simp)]
    ·rfl
   |_=>rfl
  |_=>rfl
 |_=>rfl
end Go.Ref

namespace Go.Ref
open Go
variable {P:Program} {E:Env} {X:ar} {s:State} {a:Act} {o:Oper} {u:Out}
def Iw:List (Nat×Nat)->Nat->List SV->List SV
 | [],_,l=>l
 |(i,j)::r,t,l=>Iw r t (if t=i then bz l j else l)
theorem Ju{t:Nat}:∀{c:List (Nat×Nat)} {s:State},(s.close c).slot t=Iw c t (s.slot t)
 | [],s=>rfl
 |(i,j)::r,s=>by rw[z31,Ju (c:=r),z8e];rfl
theorem oP{t:Nat}:∀{c:List (Nat×Nat)} {l:List SV},t∉c.map (·.1)->Iw c t l=l
 | [],l,h=>rfl
 |(i,j)::r,l,h=>by
  simp only[List.map_cons,List.mem_cons,not_or] at h
  simp only[Iw]
  rw[if_neg h.1]
  exact oP h.2
theorem Bg{d:Option Nat}:(s.apply d u).sl.length=s.sl.length:=by
 cases d with
 |none=>simp only[State.apply,State.ap];cases u.bx<;>simp [State.az,Hr]
 |some d=>simp only[State.apply,State.ap,List.length_set];cases u.bx<;>simp [State.az,Hr]
theorem Hh{d:Option Nat}{t:Nat}:(s.apply d u).slot t=if d=some t/\t<s.sl.length then u.v else Iw u.cl t (s.slot t):=by
 have hb:∀(s:State) b,(s.az b).slot t=s.slot t:=fun s b=>by cases b<;>rfl
 cases d with
 |none=>
  simp only[State.apply,State.ap,hb,Ju]
  rw[if_neg (by simp)]
 |some d=>
  simp only[State.apply]
  by_cases e:d=t
  ·subst e
   by_cases aw:d<s.sl.length
   ·rw[if_pos ⟨rfl,aw⟩]
    have:d<((s.close u.cl).az u.bx).sl.length:=by
     have:((s.close u.cl).az u.bx).sl.length=s.sl.length:=by cases u.bx<;>simp [State.az,Hr]
     omega
    simp only[State.ap,State.slot,List.getD_eq_getElem?_getD,List.getElem?_set_self this,Option.getD_some]
   ·rw[if_neg (fun h=>aw h.2)]
    have:((s.close u.cl).az u.bx).sl.length<=d:=by
     have:((s.close u.cl).az u.bx).sl.length=s.sl.length:=by cases u.bx<;>simp [State.az,Hr]
     omega
    have h2:(((s.close u.cl).az u.bx).ap (some d) u.v).slot d=((s.close u.cl).az u.bx).slot d:=by
     simp only[State.ap,State.slot]
     rw[List.set_eq_of_length_le this]
    rw[h2,hb,Ju]
  ·rw[if_neg (fun h=>e (by injection h.1))]
   have h2:(((s.close u.cl).az u.bx).ap (some d) u.v).slot t=((s.close u.cl).az u.bx).slot t:=by
    simp only[State.ap,State.slot,List.getD_eq_getElem?_getD,List.getElem?_set_ne e]
   rw[h2,hb,Ju]
theorem Hw{d:Option Nat}{id:Nat}:(s.apply d u).bs[id]? =match u.bx with
 |some (aV,B)=>if aV=id then(s.bs[id]?).map (fun _=>some B) else s.bs[id]?
 |none=>s.bs[id]? :=by
 have hs:∀(s:State) d l,(s.ap d l).bs=s.bs:=fun s d l=>by cases d<;>rfl
 simp only[State.apply,hs]
 cases hb:u.bx with
 |none=>simp only[State.az,ub]
 |some b=>
  obtain⟨aV,B⟩:=b
  simp only[State.az,ub]
  rw[List.getElem?_set]
  by_cases e:aV=id
  ·subst e
   rw[if_pos rfl,if_pos rfl]
   by_cases aw:aV<s.bs.length
   ·rw[if_pos aw,List.getElem?_eq_getElem aw];rfl
   ·rw[if_neg aw,List.getElem?_eq_none (by omega)];rfl
  ·rw[if_neg e,if_neg e]
theorem Wh{s s':State}(h1:s.sl.length=s'.sl.length)(h2:∀t,s.slot t=s'.slot t)(h3:∀id:Nat,s.bs[id]? =s'.bs[id]?):s=s':=by
 cases s with
 |mk sl bs=>
  cases s' with
  |mk sl' bs'=>
   simp only[State.mk.injEq]
   refine⟨List.ext_getElem? fun i=> ?_,List.ext_getElem? h3⟩
   have:=h2 i
   simp only[State.slot,List.getD_eq_getElem?_getD] at this h1
   by_cases aw:i<sl.length
   ·rw[List.getElem?_eq_getElem aw,List.getElem?_eq_getElem (by omega)] at this⊢
    simpa using this
   ·rw[List.getElem?_eq_none (by omega),List.getElem?_eq_none (by omega)]
structure wT(R1 W1 b1 c1 R2 W2 b2 c2:List Nat):Prop where
 h1:∀t∈W1,t∉R2/\t∉W2
 h2:∀t∈W2,t∉R1
 h3:∀id∈c1,id∉b2/\id∉c2
 h4:∀id∈c2,id∉b1
theorem R3{o1 o2:Oper}{ops:List Oper}{i1 i2:Nat}{s1 s2:State}{u1 u2:Out}(h:(zv ops o1 i1 s1 u1).apart (zv ops o2 i2 s2 u2)=true):
 wT (looks ops o1) (o1.dst.toList++u1.cl.map (·.1)) (zq s1 o1) (u1.bx.toList.map (·.1)) (looks ops o2) (o2.dst.toList++u2.cl.map (·.1)) (zq s2 o2) (u2.bx.toList.map (·.1)):=by
 simp only[dp.apart,zv,Bool.and_eq_true] at h
 obtain⟨g1,g2,g3,g4⟩:=h
 refine⟨fun t ht=> ?_,fun t ht=> ?_,fun t ht=> ?_,fun t ht=> ?_⟩
 ·have:=JU g1 t (by rw[ua];exact decide_eq_true ht)
  simp only[Nat.testBit_or,ua,Bool.or_eq_false_iff,decide_eq_false_iff_not] at this
  exact this
 ·have:=JU g2 t (by rw[ua];exact decide_eq_true ht)
  simpa only[ua,decide_eq_false_iff_not] using this
 ·have:=JU g3 t (by rw[ua];exact decide_eq_true ht)
  simp only[Nat.testBit_or,ua,Bool.or_eq_false_iff,decide_eq_false_iff_not] at this
  exact this
 ·have:=JU g4 t (by rw[ua];exact decide_eq_true ht)
  simpa only[ua,decide_eq_false_iff_not] using this
theorem zjg{d:Option Nat}{ts bs:List Nat}(h1:∀t∈ts,t∉d.toList++u.cl.map (·.1))(h2:∀id∈bs,id∉u.bx.toList.map (·.1)):kq ts bs (s.apply d u) s where
 sl:=fun t ht=>by
  have h:=h1 t ht
  simp only[List.mem_append,not_or] at h
  rw[Hh,if_neg (fun hc=>h.1 (by rw[hc.1];simp)),oP h.2]
 bs:=fun id eF=>by
  have h:=h2 id eF
  rw[Hw]
  cases hb:u.bx with
  |none=>rfl
  |some b=>
   obtain⟨aV,B⟩:=b
   rw[hb] at h
   simp only
   rw[if_neg (fun e=>h (by simp [e]))]
theorem SP{d1 d2:Option Nat}{u1 u2:Out}(h1:∀t∈d1.toList++u1.cl.map (·.1),t∉d2.toList++u2.cl.map (·.1))(h2:∀id∈u1.bx.toList.map (·.1),id∉u2.bx.toList.map (·.1)):
 (s.apply d1 u1).apply d2 u2=(s.apply d2 u2).apply d1 u1:=by
 refine Wh (by rw[Bg,Bg,Bg,Bg]) (fun t=> ?_) (fun id=> ?_)
 ·rw[Hh,Hh,Hh,Hh,Bg,Bg]
  by_cases x4:d1=some t
  ·have hm:t∈d1.toList++u1.cl.map (·.1):=by rw[x4];simp
   have hn:=h1 t hm
   simp only[List.mem_append,not_or] at hn
   have oJ:¬d2=some t:=fun e=>hn.1 (by rw[e];simp)
   by_cases aw:t<s.sl.length
   ·rw[if_neg (fun h=>oJ h.1),if_pos ⟨x4,aw⟩,oP hn.2,if_pos ⟨x4,aw⟩]
   ·rw[if_neg (fun h=>oJ h.1),if_neg (fun h=>aw h.2),if_neg (fun h=>aw h.2),if_neg (fun h=>aw h.2),oP hn.2,oP hn.2]
  ·by_cases oJ:d2=some t
   ·have hn:t∉d1.toList++u1.cl.map (·.1):=fun hm=>h1 t hm (by rw[oJ];simp)
    simp only[List.mem_append,not_or] at hn
    by_cases aw:t<s.sl.length
    ·rw[if_pos ⟨oJ,aw⟩,if_neg (fun h=>x4 h.1),if_pos ⟨oJ,aw⟩,oP hn.2]
    ·rw[if_neg (fun h=>aw h.2),if_neg (fun h=>aw h.2),if_neg (fun h=>aw h.2),if_neg (fun h=>aw h.2),oP hn.2,oP hn.2]
   ·rw[if_neg (fun h=>oJ h.1),if_neg (fun h=>x4 h.1),if_neg (fun h=>x4 h.1),if_neg (fun h=>oJ h.1)]
    by_cases hm:t∈u1.cl.map (·.1)
    ·have hn:=h1 t (by simp only[List.mem_append];exact .inr hm)
     simp only[List.mem_append,not_or] at hn
     rw[oP hn.2,oP hn.2]
    ·rw[oP hm,oP hm]
 ·rw[Hw,Hw,Hw,Hw]
  cases ly:u1.bx with
  |none=>rfl
  |some b1=>
   obtain⟨P8,B1⟩:=b1
   cases ki:u2.bx with
   |none=>rfl
   |some b2=>
    obtain⟨od,B2⟩:=b2
    rw[ly,ki] at h2
    have bB:P8≠od:=fun e=>h2 P8 (by simp) (by simp [e])
    simp only
    by_cases e1:P8=id
    ·subst e1
     rw[if_neg (fun e=>bB e.symm),if_pos rfl,if_pos rfl,if_neg (fun e=>bB e.symm)]
    ·by_cases e2:od=id
     ·subst e2
      rw[if_pos rfl,if_neg e1,if_neg e1,if_pos rfl]
     ·rw[if_neg e2,if_neg e1,if_neg e1,if_neg e2]
theorem zk3{ops:List Oper}{s s':State}(h:∀t∈looks ops o,s.slot t=s'.slot t):zq s o=zq s' o:=by
 have cf:∀x∈o.op.operands.toList,s.aF x=s'.aF x:=fun x hx=>zef (ts:=oC o.op.operands.toList) (fun t ht=>h t (by simp only[looks,List.mem_append];exact .inl ht)) (fun _ ht=>ht) hx
 unfold zq
 cases ho:o.op with
 |load T x=>simp only;rw[cf x (by simp [ho,Op.operands])]
 |store T x y=>simp only;rw[cf x (by simp [ho,Op.operands])]
 |convert S T x=>simp only;rw[cf x (by simp [ho,Op.operands])]
 |slice T x lo hi mx=>simp only;rw[cf x (by simp [ho,Op.operands])]
 |lookup T x i ok=>simp only;rw[cf x (by simp [ho,Op.operands])]
 |mapUpdate T m k x=>simp only;rw[cf m (by simp [ho,Op.operands])]
 |insert T m k x=>simp only;rw[cf m (by simp [ho,Op.operands])]
 |next x str=>simp only;rw[cf x (by simp [ho,Op.operands])]
 |call c=>
  obtain⟨callee,args,ts⟩:=c
  have:(args.toList.map fun x=>bU (s.aF x))=args.toList.map fun x=>bU (s'.aF x):=List.map_congr_left fun x hx=>by
   rw[cf x (by
    simp only[ho,Op.operands,Call.operands,Array.toList_append,List.mem_append]
    exact .inr hx)]
  cases callee with
  |value f=>
   simp only
   have hf:s.aF f=s'.aF f:=cf f (by
    simp only[ho,Op.operands,Call.operands,Array.toList_append,List.mem_append]
    exact .inl (by simp))
   rw[hf,List.flatMap_def,List.flatMap_def,this]
  |builtin b=>
   cases b with
   |copy=>simp only;rw[List.flatMap_def,List.flatMap_def,this]
   |_=>rfl
  |_=>rfl
 |_=>rfl
theorem zxq{C:af}{ops:List Oper}{s s':State}(h:kq (looks ops o) (zq s o) s s'):dM E C ops o s=dM E C ops o s':=by
 unfold dM
 rw[Vb h]
 split
 ·rfl
 ·rename_i g want hg
  split
  ·rfl
  ·rename_i d hd
   rw[h.sl d (by simp [looks,hg,hd])]
theorem swap{C:af}{ops:List Oper}{o1 o2:Oper}{i1 i2:Nat}{u1 u2:Out}(h1:dM E C ops o1 s=some u1)(h2:dM E C ops o2 (s.apply o1.dst u1)=some u2)(h:(zv ops o1 i1 s u1).apart (zv ops o2 i2 (s.apply o1.dst u1) u2)=true):
 dM E C ops o2 s=some u2/\zv ops o2 i2 s u2=zv ops o2 i2 (s.apply o1.dst u1) u2/\dM E C ops o1 (s.apply o2.dst u2)=some u1/\zv ops o1 i1 (s.apply o2.dst u2) u1=zv ops o1 i1 s u1/\
  (s.apply o2.dst u2).apply o1.dst u1=(s.apply o1.dst u1).apply o2.dst u2:=by
 have hp:=R3 h
 have ag1:kq (looks ops o2) (zq (s.apply o1.dst u1) o2) (s.apply o1.dst u1) s:=zjg (fun t ht hm=>(hp.h1 t hm).1 ht) (fun id eF hm=>(hp.h3 id hm).1 eF)
 have dV:=zk3 (ops:=ops) (o:=o2) ag1.sl
 have OV:kq (looks ops o1) (zq s o1) (s.apply o2.dst u2) s:=zjg (fun t ht hm=>hp.h2 t hm ht) (fun id eF hm=>hp.h4 id hm eF)
 have eG:=zk3 (ops:=ops) (o:=o1) OV.sl
 refine⟨by rw[<-zxq ag1];exact h2,by simp only[zv,dV],?_,by simp only[zv,eG],(SP (fun t ht=>(hp.h1 t ht).2) (fun id eF=>(hp.h3 id eF).2)).symm⟩
 rw[zxq (s:=s.apply o2.dst u2) (s':=s) ⟨OV.sl,fun id eF=>OV.bs id (by rw[<-eG];exact eF)⟩]
 exact h1
end Go.Ref

namespace Go.Ref
open Go
variable {P:Program} {E:Env} {X:ar} {s:State} {a:Act} {o:Oper} {u:Out}
def lP(E:Env)(C:af)(ops:Array Oper):List Nat->State->List dp->State->Prop
 | [],s,tr,z=>s=z/\tr=[]
 |i::r,s,f::tr,z=>∃u,dM E C ops.toList (ops.getD i default) s=some u/\f=zv ops.toList (ops.getD i default) i s u/\lP E C ops r (s.apply (ops.getD i default).dst u) tr z
 |_::_,_,[],_=>False
def rB(ops:Array Oper)(i:Nat):Nat:=zr (ops.getD i default).after.toList
theorem zy0{ops:List Oper}{q:Nat}:∀(n m:Nat),m.testBit q=true->(gL ops n m).testBit q=true
 |0,m,h=>h
 |i+1,m,h=>by
  refine zy0 i _ ?_
  split
  ·cases m.testBit i with
   |false=>exact h
   |true=>rw[cond_true,Nat.testBit_or,h];rfl
  ·exact h
theorem zjx{listed:Array Bool}{i q:Nat}(h:listed.getD q false=true):(listed.setIfInBounds i true).getD q false=true:=by
 simp only[Array.getD_eq_getD_getElem?,Array.getElem?_setIfInBounds] at h⊢
 split
 ·split
  ·rfl
  ·rename_i h1 h2
   subst h1
   rw[Array.getElem?_eq_none (by omega)] at h
   exact h
 ·exact h
theorem VS{listed:Array Bool}{i q:Nat}(e:q≠i):(listed.setIfInBounds i true).getD q false=listed.getD q false:=by
 simp only[Array.getD_eq_getD_getElem?]
 rw[Array.getElem?_setIfInBounds_ne (by omega)]
def p9(ops:Array Oper)(listed:Array Bool):Prop:=∀i,listed.getD i false=true->∀q,(rB ops i).testBit q=true->listed.getD q false=true
theorem Jr{ops:Array Oper}{listed:Array Bool}(eg:p9 ops listed):∀(n m:Nat),(∀q,m.testBit q=true->listed.getD q false=true)->∀q,(gL ops.toList n m).testBit q=true->listed.getD q false=true
 |0,m,h=>h
 |i+1,m,h=>by
  refine Jr eg i _ fun q hq=> ?_
  split at hq
  ·rename_i o ho
   cases hb:m.testBit i with
   |false=>rw[hb] at hq;exact h q hq
   |true=>
    rw[hb,cond_true,Nat.testBit_or,Bool.or_eq_true] at hq
    rcases hq with hq|hq
    ·exact h q hq
    ·refine eg i (h i hb) q ?_
     have:ops.getD i default=o:=by
      rw[Array.getElem?_toList] at ho
      simp only[Array.getD_eq_getD_getElem?,ho,Option.getD_some]
     unfold rB
     rw[this]
     exact hq
  ·exact h q hq
theorem FK{ops:Array Oper}{listed:Array Bool}(eg:p9 ops listed){i:Nat}(h:∀q,(rB ops i).testBit q=true->listed.getD q false=true):p9 ops (listed.setIfInBounds i true):=fun j hj q hq=>by
 by_cases e:j=i
 ·subst e
  exact zjx (h q hq)
 ·rw[VS e] at hj
  exact zjx (eg j hj q hq)
def rW(ops:Array Oper)(a b:dp):Prop:=(gL ops.toList b.i (rB ops b.i)).testBit a.i=true\/a.apart b=true
theorem yY{C:af}{ops:Array Oper}:∀{l:List Nat} {s z:State} {tr:List dp},lP E C ops l s tr z->tr.map (·.i)=l
 | [],s,z,tr,h=>by rw[h.2];rfl
 |i::r,s,z,f::tr,h=>by
  obtain⟨u,_,rfl,h3⟩:=h
  simp only[List.map_cons,yY h3]
  rfl
 |_::_,s,z,[],h=>h.elim
theorem z8k{C:af}(hC:C.Nat){ops:Array Oper}{z:State}:∀(l:List Nat) (i:Nat) (s:State) (tr:List dp),(∀(j:Nat) k,l[j]? =some k->k=i+j)->
 uw E (C State) ops.toList (l.map fun k=>ops.getD k default) i s tr some=some z->∃tT,lP E C ops l s tT z/\(∀a∈tr,∀b∈tT,rW ops a b)/\tT.Pairwise (rW ops)/\∀k∈l,Nat.ble (rB ops k+1) (bit k)=true
 | [],i,s,tr,hl,h=>by
   cases h
   exact⟨[],⟨rfl,rfl⟩,(fun a _ b hb=>by cases hb),List.Pairwise.nil,fun k hk=>by cases hk⟩
 |k::r,i,s,tr,hl,h=>by
  have hk:k=i:=by simpa using hl 0 k rfl
  subst hk
  simp only[List.map_cons,uw] at h
  obtain⟨u,h1,h2,h3⟩:=Wj hC h
  obtain⟨tT,r1,r2,r3,r4⟩:=z8k hC r (k+1) _ _ (fun j k' hj=>by
   have:=hl (j+1) k' hj
   omega) h3
  simp only[fits,Bool.and_eq_true] at h2
  obtain⟨h2a,Pa⟩:=h2
  have Pa:=List.all_eq_true.1 Pa
  refine⟨zv ops.toList (ops.getD k default) k s u::tT,⟨u,h1,rfl,r1⟩,fun a ha b hb=> ?_,?_,fun k' D6=> ?_⟩
  ·rcases List.mem_cons.1 hb with rfl|hb
   ·have:=Pa a ha
    simp only[Bool.or_eq_true] at this
    rcases this with this|this|this
    ·exact .inl (zy0 _ _ this)
    ·exact .inr this
    ·exact .inl this
   ·exact r2 a (List.mem_cons_of_mem _ ha) b hb
  ·exact List.pairwise_cons.2 ⟨fun b hb=>r2 _ (by simp) b hb,r3⟩
  ·rcases List.mem_cons.1 D6 with rfl|D6
   ·exact h2a
   ·exact r4 k' D6
theorem zlp{C:af}{ops:Array Oper}{z:State}{i:Nat}{q:List Nat}:∀(p:List Nat) (s:State) (tr:List dp),lP E C ops (p++i::q) s tr z->(∀(tp:List dp) f tq,tr=tp++f::tq->tp.length=p.length->∀a∈tp,a.apart f=true)->
 ∃tp f tq u,tr=tp++f::tq/\tp.length=p.length/\dM E C ops.toList (ops.getD i default) s=some u/\f=zv ops.toList (ops.getD i default) i s u/\lP E C ops (p++q) (s.apply (ops.getD i default).dst u) (tp++tq) z
 | [],s,[],h,vF=>h.elim
 | [],s,f::tr,h,vF=>by
   obtain⟨u,h1,h2,h3⟩:=h
   exact⟨[],f,tr,u,rfl,rfl,h1,h2,h3⟩
 |j::p,s,[],h,vF=>h.elim
 |j::p,s,g::tr,h,vF=>by
  obtain⟨uj,h1,h2,h3⟩:=h
  obtain⟨tp,f,tq,u,e1,e2,k1,k2,k3⟩:=zlp p _ tr h3 (fun tp f tq e hl a ha=>vF (g::tp) f tq (by rw[e];rfl) (by simp [hl]) a (List.mem_cons_of_mem _ ha))
  have hg:=vF (g::tp) f tq (by rw[e1];rfl) (by simp [e2]) g (by simp)
  rw[h2,k2] at hg
  obtain⟨w1,w2,w3,w4,w5⟩:=swap h1 k1 hg
  refine⟨g::tp,f,tq,u,by rw[e1];rfl,by simp [e2],w1,by rw[k2,w2],uj,w3,by rw[h2,w4],?_⟩
  rw[w5]
  exact k3
theorem FN{l:List Nat}{i:Nat}(h:i∈l):∃p q,l=p++i::q:=List.append_of_mem h
theorem zos{p q:List Nat}{i:Nat}(h:(p++i::q).Nodup):(p++i::q).filter (fun j=> !(Nat.beq j i))=p++q:=by
 have h':=List.nodup_append.1 h
 have hp:∀j∈p,j≠i:=fun j hj=>h'.2.2 j hj i (by simp)
 have hq:∀j∈q,j≠i:=fun j hj e=>by
  have:=(List.nodup_cons.1 h'.2.1).1
  rw[e] at hj;exact this hj
 rw[List.filter_append,List.filter_cons]
 have hb:∀j,j≠i->(!(Nat.beq j i))=true:=fun j hj=>by
  cases hh:Nat.beq j i with
  |false=>rfl
  |true=>exact absurd (Nat.eq_of_beq_eq_true hh) hj
 rw[List.filter_eq_self.2 (fun j hj=>hb j (hp j hj)),List.filter_eq_self.2 (fun j hj=>hb j (hq j hj))]
 have:(!(Nat.beq i i))=false:=by simp
 rw[this]
 simp
def rest(n:Nat)(listed:Array Bool):List Nat:=(List.range n).filter fun i=> !listed.getD i true
theorem Y1{n:Nat}{listed:Array Bool}(hs:listed.size=n){i:Nat}{p q:List Nat}(h:rest n listed=p++i::q):rest n (listed.setIfInBounds i true)=p++q:=by
 have lA:(rest n listed).Nodup:=List.nodup_range.filter _
 rw[h] at lA
 rw[<-zos lA,<-h]
 simp only[rest,List.filter_filter]
 refine List.filter_congr fun j hj=> ?_
 have Pv:=List.mem_range.1 hj
 by_cases e:j=i
 ·subst e
  have:(listed.setIfInBounds j true).getD j true=true:=by simp [Array.getD_eq_getD_getElem?,hs,Pv]
  rw[this];simp
 ·have h1:(listed.setIfInBounds i true).getD j true=listed.getD j true:=by
   simp only[Array.getD_eq_getD_getElem?]
   rw[Array.getElem?_setIfInBounds_ne (fun h=>e h.symm)]
  have h2:Nat.beq j i=false:=by
   cases hh:Nat.beq j i with
   |false=>rfl
   |true=>exact absurd (Nat.eq_of_beq_eq_true hh) e
  rw[h1,h2];simp
theorem Bi{ops:Array Oper}{listed:Array Bool}{i:Nat}(h:i∈Region.ready .any ops listed):i∈rest ops.size listed/\∀e∈(ops.getD i default).after.toList,Region.binds .any e=true->listed.getD e.on false=true:=by
 unfold Region.ready at h
 obtain⟨h1,h2⟩:=List.mem_filter.1 h
 have hi:=List.mem_range.1 h1
 rw[Bool.and_eq_true] at h2
 refine⟨List.mem_filter.2 ⟨h1,h2.1⟩,fun e he hb=> ?_⟩
 have h3:=h2.2
 rw[Array.getElem?_eq_getElem hi] at h3
 simp only[Option.map_some,Option.getD_some] at h3
 have cc:ops.getD i default=ops[i]:=by simp [hi]
 rw[cc] at he
 have h4:=Array.all_eq_true_iff_forall_mem.1 h3 e (by simpa using he)
 rw[hb] at h4
 simpa using h4
theorem FI{ops:Array Oper}{listed:Array Bool}{i:Nat}(h:i∈rest ops.size listed)(ha:∀e∈(ops.getD i default).after.toList,Region.binds .any e=true->listed.getD e.on false=true):i∈Region.ready .any ops listed:=by
 obtain⟨h1,h2⟩:=List.mem_filter.1 h
 have hi:=List.mem_range.1 h1
 refine List.mem_filter.2 ⟨h1,?_⟩
 rw[Bool.and_eq_true]
 refine⟨h2,?_⟩
 have cc:ops.getD i default=ops[i]:=by simp [hi]
 rw[Array.getElem?_eq_getElem hi]
 simp only[Option.map_some,Option.getD_some]
 refine Array.all_eq_true_iff_forall_mem.2 fun e he=> ?_
 cases hb:Region.binds .any e with
 |false=>rfl
 |true=>
  rw[ha e (by rw[cc];simpa using he) hb]
  simp
theorem Yy(hE:aj P E){C:af}(hC:C.Nat)(hf:∀f,cG P C f){ops:Array Oper}{z:State}{Q:Exit->Act->World->Prop}(n8:∀k,k<ops.size->Nat.ble (rB ops k+1) (bit k)=true):
 ∀(bY:Nat) (listed:Array Bool) (X:ar) (s:State) (a:Act) (tr:List dp),Rel X s a->p9 ops listed->listed.size=ops.size->bY=(rest ops.size listed).length->lP E C ops (rest ops.size listed) s tr z->tr.Pairwise (rW ops)->
  (∀Y a',Ext X Y->Rel Y z a'->Q .normal a' Y.w)->wpAny P .any ops Q bY listed a X.w:=by
 intro bY
 have done:∀(listed:Array Bool),listed.size=ops.size->Region.ready .any ops listed=[]->rest ops.size listed=[]:=by
  intro listed hs hr
  rcases hl:rest ops.size listed with _|⟨i,r⟩
  ·rfl
  have cD:i∈rest ops.size listed:=by rw[hl];simp
  have cP:=List.mem_range.1 (List.mem_filter.1 cD).1
  have iy:i∈Region.ready .any ops listed:=by
   refine FI cD fun e he hb=> ?_
   have aw:e.on<i:=zwo (n8 i cP) (zdp _ e he hb)
   cases hx:listed.getD e.on false with
   |true=>rfl
   |false=>
    exfalso
    have fw:e.on<listed.size:=by omega
    have AY:listed.getD e.on true=false:=by
     simp only[Array.getD_eq_getD_getElem?,Array.getElem?_eq_getElem fw,Option.getD_some] at hx⊢
     exact hx
    have hm:e.on∈rest ops.size listed:=List.mem_filter.2 ⟨List.mem_range.2 (by omega),by rw[AY];rfl⟩
    have fS:(rest ops.size listed).Pairwise (· < ·):=List.pairwise_lt_range.filter _
    rw[hl] at fS hm
    rcases List.mem_cons.1 hm with e1|hm
    ·omega
    ·have:=(List.pairwise_cons.1 fS).1 _ hm
     omega
  rw[hr] at iy
  cases iy
 induction bY with
 |zero=>
  intro listed X s a tr hr eg hs lz dg rG hQ
  have qy:rest ops.size listed=[]:=List.eq_nil_of_length_eq_zero lz.symm
  rw[qy] at dg
  obtain⟨rfl,_⟩:=dg
  refine⟨?_,hQ X a (Ext.refl X) hr⟩
  rcases Ek:Region.ready .any ops listed with _|⟨i,r⟩
  ·rfl
  ·have:=(Bi (i:=i) (by rw[Ek];simp)).1
   rw[qy] at this
   cases this
 |succ bY ih=>
  intro listed X s a tr hr eg hs lz dg rG hQ
  refine⟨fun fP=> ?_,fun i hi=> ?_⟩
  ·rw[done listed hs fP] at lz
   cases lz
  ·obtain⟨cD,n4⟩:=Bi hi
   obtain⟨p,q,tC⟩:=FN cD
   have cP:=List.mem_range.1 (List.mem_filter.1 cD).1
   rw[tC] at dg
   have jZ:=yY dg
   obtain⟨tp,f,tq,u,e1,e2,k1,k2,k3⟩:=zlp p s tr dg (fun tp f tq e hl a' vE=>by
    have qo:f.i=i:=by
     rw[e,List.map_append,List.map_cons] at jZ
     have:=List.append_inj jZ (by simp [hl])
     injection this.2
    have Pf:a'.i∈p:=by
     rw[e,List.map_append,List.map_cons] at jZ
     have:=List.append_inj jZ (by simp [hl])
     rw[<-this.1]
     exact List.mem_map.2 ⟨a',vE,rfl⟩
    rw[e] at rG
    have qq:=(List.pairwise_append.1 rG).2.2 a' vE f (by simp)
    rcases qq with hb|hb
    ·exfalso
     rw[qo] at hb
     obtain ew:=Jr eg _ _ (fun q hq=>by
      obtain⟨ed,tn,tu,D0⟩:=zH _ _ hq
      have:=n4 ed tn tu
      rw[D0] at this
      exact this) a'.i hb
     have bm:a'.i∈rest ops.size listed:=by rw[tC];exact List.mem_append_left _ Pf
     have dn:=(List.mem_filter.1 bm).2
     have aw:=List.mem_range.1 (List.mem_filter.1 bm).1
     have fw:a'.i<listed.size:=by omega
     simp only[Array.getD_eq_getD_getElem?,Array.getElem?_eq_getElem fw,Option.getD_some] at ew dn
     rw[ew] at dn
     cases dn
    ·exact hb)
   have bm:=Y1 hs tC
   have Pt:ops[i]? =some (ops.getD i default):=by simp [cP]
   refine MG hE hr hC hf Pt (zk7 hC k1) fun Y a' aT bg=> ?_
   refine ih (listed.setIfInBounds i true) Y _ a' (tp++tq) bg (FK eg fun q hq=>by
    obtain⟨ed,g1,g2,g3⟩:=zH _ _ hq
    have:=n4 ed g1 g2
    rw[g3] at this
    exact this) (by simp [hs]) ?_ (by rw[bm];exact k3) ?_ (fun Z a2 bR cJ=>hQ Z a2 (aT.trans bR) cJ)
   ·rw[bm]
    rw[tC] at lz
    simp only[List.length_append,List.length_cons] at lz⊢
    omega
   ·rw[e1] at rG
    obtain⟨a1,a2,a3⟩:=List.pairwise_append.1 rG
    exact List.pairwise_append.2 ⟨a1,(List.pairwise_cons.1 a2).2,fun x hx y hy=>a3 x hx y (List.mem_cons_of_mem _ hy)⟩
theorem VJ(hE:aj P E)(hm:P.follows .mixedOrders=true){C:af}(hC:C.Nat)(hf:∀f,cG P C f){id:Nat}{ops:Array Oper}{z:State}{Q:Exit->Act->World->Prop}(hr:Rel X s a)(h:uw E (C State) ops.toList ops.toList 0 s [] some=some z)
 (hQ:∀Y a',Ext X Y->Rel Y z a'->Q .normal a' Y.w):(Code.region id ops true).wp P Q a X.w:=by
 have ix:(List.range ops.size).map (fun i=>ops.getD i default)=ops.toList:=by
  apply List.ext_getElem?
  intro i
  rw[List.getElem?_map]
  by_cases hi:i<ops.size
  ·simp [hi]
  ·simp [hi]
 have bm:rest ops.size (Array.replicate ops.size false)=List.range ops.size:=by
  refine List.filter_eq_self.2 fun i hi=> ?_
  have:=List.mem_range.1 hi
  simp [this]
 obtain⟨tT,r1,_,r3,r4⟩:=z8k hC (List.range ops.size) 0 s [] (fun j k hj=>by
  have:=(List.getElem?_eq_some_iff.1 hj)
  obtain⟨h1,h2⟩:=this
  simp at h2
  omega) (by rw[ix];exact h)
 have hk:dO s X {X with w:={X.w with drawn:=X.w.drawn+1}}:=⟨Nat.le_refl _,rfl,rfl,rfl,fun g _=>⟨rfl,rfl⟩,rfl,fun _ _ _=>rfl⟩
 refine wp_region_any hm ?_
 exact Yy hE hC hf (fun k hk=>r4 k (List.mem_range.2 hk)) ops.size (Array.replicate ops.size false) _ s a tT (hr.cS hk) (fun i hi=>by
  by_cases h:i<ops.size<;>simp [h] at hi) (by simp) (by rw[bm];simp) (by rw[bm];exact r1) r3 (fun Y a' aT bg=>hQ Y a' (hk.ext.trans aT) bg)
end Go.Ref

namespace Go.Ref
open Go
variable {P:Program} {E:Env} {X:ar} {s:State} {a:Act}
theorem aY.flat{X Y:ar}:∀{t:Ty} {x:El t} {cs:List Value},t.flat=true->aY X t x cs->aY Y t x cs
 | .bool,_,_,_,hr=>hr
 | .int _,_,_,_,hr=>hr
 | .str,_,_,_,hr=>hr
 | .unit,_,_,_,hr=>hr
 | .sl _ _,_,_,hf,_=>by cases hf
 | .aI _ _ _,_,_,hf,_=>by cases hf
 | .arr n t,xs,cs,hf,⟨h1,h2,h3⟩=>⟨h1,h2,fun j x hj=>aY.flat (t:=t) hf (h3 j x hj)⟩
 | .pair a b,x,cs,hf,⟨c1,c2,h1,h2,h3⟩=>by
   have hf:(a.flat&&b.flat)=true:=hf
   rw[Bool.and_eq_true] at hf
   exact⟨c1,c2,h1,aY.flat hf.1 h2,aY.flat hf.2 h3⟩
theorem ay.flat{X Y:ar}{pl:List Nat->Place}{sv:SV}{v:Value}(hf:sv.flat=true)(hr:ay X pl sv v):ay Y pl sv v:=by
 cases sv with
 |ai t x own=>
  have hf:(t.flat&&own.isEmpty)=true:=hf
  rw[Bool.and_eq_true] at hf
  obtain⟨cs,h1,h2,_⟩:=hr
  have:own=[]:=List.isEmpty_iff.1 hf.2
  subst this
  exact⟨cs,h1.flat hf.1,h2,km⟩
 |undef=>trivial
 |skip=>exact hr
 |cj=>exact hr
 |dF=>exact hr
 |over=>exact hr
 |_=>cases hf
theorem JJ{o:Nat}:∀{sl:List (List SV)} {i:Nat},jn o i sl=true->∀(j:Nat) l,sl[j]? =some l->i+j≠o->∀sv∈l,SV.flat sv=true
 | [],i,_,j,l,h,_=>by simp at h
 |l0::r,i,h,j,l,hl,bB=>by
  rw[jn,Bool.and_eq_true,Bool.or_eq_true] at h
  cases j with
  |zero=>
   cases hl
   rcases h.1 with h1|h1
   ·exact absurd (Nat.eq_of_beq_eq_true h1) bB
   ·exact fun sv hm=>List.all_eq_true.1 h1 sv hm
  |succ j=>exact JJ h.2 j l hl (by omega)
structure lG(X:ar)(a:Act)(o:Nat)(e:TypeId)(xs:List Int)(own:List (List Nat))(g c:Nat)(cur:Array Value):Prop where
 val:a.tmps.getD o Go.undef= .slice (some ⟨g,0,none⟩) xs.length c
 heap:X.w.heap[g]? =some (.cells cur e (0,0))
 cell:∀(j:Nat) x,xs[j]? =some x->X.w.cell? ⟨g,j,none⟩=some (.int .u8 x)
 le:xs.length<=c
 most:c<=maxLen
 size:cur.size=c
 ow:X.ow g= .row (.c o 0 []) (xs.length*1)
 own:∀p∈own,p=[]
theorem aa0{o:Nat}{e:TypeId}{xs:List Int}{own:List (List Nat)}(hr:Rel X s a)(hs:s.slot o=[.ai (.sl e (.int .u8)) xs own])(bG:zx own []=true){i:Nat}(hi:i<xs.length):∃g c cur,lG X a o e xs own g c cur:=by
 have fQ:=hr.slot o
 rw[hs] at fQ
 obtain⟨cs,aK,hv,hO⟩:=(show ay X (.c o 0) (.ai (.sl e (.int .u8)) xs own) (a.tmps.getD o Go.undef) from fQ)
 have cD:([]:List Nat)∈own:=by
  unfold zx at bG
  obtain⟨q,h1,h2⟩:=List.any_eq_true.1 bG
  have:q=[]:=by simpa using h2
  rw[<-this];exact h1
 have cI:∀p∈own,p=[]:=fun p hp=>by
  obtain⟨e2,t2,xs2,v2,g1,g2,g3,g4⟩:=hO p hp
  cases p with
  |cons q r=>simp [El.get] at g2
  |nil=>rfl
 obtain⟨e1,t1,xs1,v1,_,hg,hc,bW⟩:=hO [] cD
 simp only[El.get,Option.some.injEq] at hg
 cases hg
 obtain⟨A,c,eH,hle,eI⟩:=aK
 subst eH
 have hv:a.tmps.getD o Go.undef= .slice A xs.length c:=hv
 have vS:v1= .slice A xs.length c:=by
  have:([Value.slice A xs.length c]:List Value)[0]? =some v1:=hc
  simpa using this.symm
 subst vS
 rcases bW with⟨_,h0⟩|⟨g,cap,cur,h1,h2,h3,h4,h5,h6⟩
 ·have h0:List.length xs=0:=h0
  omega
 injection h1 with k1 k2 k3
 subst k1 k3
 have h5:cur.size=c*1:=h5
 have h6:X.ow g= .row (.c o 0 []) (List.length xs*1):=h6
 have df:∀(j:Nat) x,xs[j]? =some x->X.w.cell? ⟨g,j,none⟩=some (.int .u8 x):=fun j x hj=>by
  obtain⟨ad,dI,e1,_,e2,e3⟩:=eI j x hj
  cases e1
  have e2:dI=[.int .u8 x]:=e2
  subst e2
  have:=(e3 0 (.int .u8 x) rfl).2.1
  rw[zy] at this
  simpa [Ty.cells] using this
 exact⟨g,c,cur,hv,h2,df,hle,h4,by omega,h6,cI⟩
theorem YZ{o:Nat}{e:TypeId}{xs:List Int}{own:List (List Nat)}{X0:ar}(hF:∀g pl n,X0.ow g≠ .row pl n)(hx:Ext X0 X)(hr:Rel X s a)(ho:o<s.sl.length)(qp:jn o 0 s.sl=true)(gD:s.bs.all Option.isNone=true)
 {g c:Nat} {cur:Array Value} (hR:lG X a o e xs own g c cur) {i:Nat} (hi:i<xs.length) (z:Int):
   Ext X0 (X.row g (cur.toList.take i++ [Value.int .u8 z]++cur.toList.drop (i+1)).toArray)/\Rel (X.row g (cur.toList.take i++ [Value.int .u8 z]++cur.toList.drop (i+1)).toArray) ⟨s.sl.set o [.ai (.sl e (.int .u8)) (xs.set i z:List Int) own],s.bs⟩ a:=by
 obtain⟨hv,h2,df,hle,h4,h5,h6,cI⟩:=hR
 refine⟨?_,?_⟩
 ·
  have cN:∀b,b≠g->(X.row g (cur.toList.take i++ [Value.int .u8 z]++cur.toList.drop (i+1)).toArray).w.heap[b]? =X.w.heap[b]? :=fun b hb=>setRow_other X.w g b _ hb
  have lX:∀ad v,X0.ax ad v->ad.block≠g:=fun ad v dx e0=>by
   have aw:=ar.fW dx
   have hu:=dx.2.2
   cases hw:X0.ow ad.block with
   |all=>have:=(hx.still ad.block aw (by rw[hw];trivial)).1;rw[e0,h6] at this;rw[<-e0,hw] at this;cases this
   |ro n=>have:=(hx.still ad.block aw (by rw[hw];trivial)).1;rw[e0,h6] at this;rw[<-e0,hw] at this;cases this
   |box id=>rw[hw] at hu;exact hu
   |row pl n=>exact hF _ _ _ hw
  refine⟨fun ad v dx=> ?_,?_,hx.os,hx.tape,hx.output,hx.β0,fun b hb bL=> ?_⟩
  ·have h7:=hx.ax ad v dx
   refine⟨h7.1,?_,h7.2.2⟩
   have:=h7.2.1
   simp only[World.cell?] at this⊢
   rw[cN _ (lX ad v dx)];exact this
  ·have:=hx.size
   simpa [ar.row] using this
  ·have h7:=hx.still b hb bL
   have bB:b≠g:=fun e0=>by
    have h8:=h7.1
    rw[e0,h6] at h8
    rw[e0,<-h8] at bL
    exact bL
   exact⟨h7.1,(cN b bB).trans h7.2⟩
 ·generalize fy:(cur.toList.take i++ [Value.int .u8 z]++cur.toList.drop (i+1)).toArray=new
  have dn:new.toList=cur.toList.take i++ [Value.int .u8 z]++cur.toList.drop (i+1):=by rw[<-fy]
  have dw:new.size=cur.size:=by
   have:new.toList.length=cur.toList.length:=by rw[dn];simp;omega
   simpa using this
  have aC:(X.row g new).w.heap[g]? =some (.cells new e (0,0)):=setRow_heap X.w g cur new e (0,0) h2
  refine⟨by simpa using hr.size,by simpa using hr.fh,fun j l v hl gX=> ?_,fun id B hB=> ?_,fun j l id t p hl hm=> ?_,hr.defers,fun j l id c b k hl hm=> ?_⟩
  ·rw[List.getElem?_set] at hl
   by_cases vM:o=j
   ·subst vM
    rw[if_pos rfl,if_pos ho] at hl
    cases hl
    have hvv:a.tmps.getD o Go.undef=v:=by rw[Array.getD_eq_getD_getElem?,gX];rfl
    rw[hvv] at hv
    subst hv
    refine⟨[.slice (some ⟨g,0,none⟩) xs.length c],?_,rfl,fun p hp=> ?_⟩
    ·refine aY.tO (t:= .int .u8) (List.length_set ..) hle fun j x hj=>⟨⟨g,0,none⟩,[.int .u8 x],rfl,rfl,rfl,fun k w hk=> ?_⟩
     have qs:j<xs.length:=by have:=(List.getElem?_eq_some_iff.1 hj).1;rw[List.length_set] at this;exact this
     cases k with
     |succ k=>simp at hk
     |zero=>
      have hk:Value.int .u8 x=w:=by simpa using hk
      subst hk
      refine⟨wG rfl _,?_,?_⟩
      ·rw[zy]
       show(X.row g new).w.cell? _=_
       simp only[World.cell?,aC,Ty.cells]
       rw[show 0+(j*1+0)=j by omega,<-Array.getElem?_toList,dn]
       have hj:(xs.set i z)[j]? =some x:=hj
       rw[List.getElem?_set] at hj
       have acR:i<cur.toList.length:=by simp;omega
       by_cases hij:i=j
       ·subst hij
        rw[if_pos rfl,if_pos hi] at hj
        cases hj
        rw[List.append_assoc,List.getElem?_append_right (by simp;omega)]
        have:i-(cur.toList.take i).length=0:=by simp;omega
        rw[this];rfl
       ·rw[if_neg hij] at hj
        have rF:=df j x hj
        simp only[World.cell?,h2] at rF
        rw[<-Array.getElem?_toList] at rF
        rcases Nat.lt_or_ge j i with aw|Pq
        ·rw[List.append_assoc,List.getElem?_append_left (by simp;omega),List.getElem?_take,if_pos aw]
         exact rF
        ·have hgt:i<j:=by omega
         rw[List.getElem?_append_right (by simp;omega),List.getElem?_drop]
         have:i+1+(j-(cur.toList.take i++ [Value.int .u8 z]).length)=j:=by simp;omega
         rw[this]
         exact rF
      ·rw[zy]
       show Ow.used (X.ow g) _
       rw[h6]
       show _<_
       simp only[Ty.cells]
       omega
    ·have:=cI p hp
     subst this
     refine⟨e,.int .u8,(xs.set i z:List Int),_,by simp [Ty.dJ],rfl,rfl,?_⟩
     have hls:List.length (xs.set i z)=xs.length:=List.length_set ..
     rw[hls]
     exact .inr ⟨g,c,new,rfl,aC,hle,h4,by rw[dw,h5];simp [Ty.cells],h6⟩
   ·rw[if_neg vM] at hl
    have:=JJ qp j l hl (by omega)
    exact(hr.bC j l v hl gX).gg fun k sv u hk hu=>hu.flat (this sv (List.mem_of_getElem? hk))
  ·have:=List.all_eq_true.1 gD (some B) (List.mem_of_getElem? hB)
   cases this
  ·rw[List.getElem?_set] at hl
   by_cases vM:o=j
   ·subst vM
    rw[if_pos rfl,if_pos ho] at hl
    cases hl
    simp at hm
   ·rw[if_neg vM] at hl
    have:=JJ qp j l hl (by omega) _ hm
    cases this
  ·exfalso
   replace hl:(s.sl.set o [.ai (.sl e (.int .u8)) (xs.set i z:List Int) own])[j]? =some l:=hl
   rw[List.getElem?_set] at hl
   by_cases vM:o=j
   ·subst vM
    rw[if_pos rfl,if_pos ho] at hl
    cases hl
    simp at hm
   ·rw[if_neg vM] at hl
    have:=JJ qp j l hl (by omega) _ hm
    cases this
theorem lD{a:Act}{d i:Nat}{v:Value}(hd:d<a.tmps.size):(a.put (some d) v).tmps.getD i Go.undef=if d=i then v else a.tmps.getD i Go.undef:=by
 simp only[Act.put,Array.getD_eq_getD_getElem?,Array.getElem?_setIfInBounds]
 split
 ·first|rfl|(rw[if_pos hd];rfl)
 ·rfl
theorem ot{a:Act}{d:Nat}{v:Value}:(a.put (some d) v).tmps.size=a.tmps.size:=by simp [Act.put]
theorem raw{ops:Array Oper}{Q:Exit->Act->World->Prop}{i d:Nat}{rest:List Nat}{a:Act}{w:World}{o:Oper}{v:Value}(hi:ops[i]? =some o)(hd:isDst o d=true)(aR:(execOp a.eval o).run P w= .ok (.value v) w)(K:wpOps P ops Q rest (a.put (some d) v) w):wpOps P ops Q (i::rest) a w:=by
 have jo:o.dst=some d/\o.guard=none:=by
  unfold isDst at hd
  split at hd
  ·rename_i d' h1 h2
   exact⟨by rw[h1,Nat.eq_of_beq_eq_true hd],h2⟩
  ·cases hd
 rw[wpOps_cons]
 unfold wpOp
 simp only[hi]
 have hw:Region.wanted o (yielded ops a.tmps)=true:=by simp [Region.wanted,jo.2]
 rw[if_pos hw]
 refine .inl ?_
 unfold Oper.wp
 rw[aR,Oper.upon_value,jo.1]
 exact K
theorem rN{x:Operand}{i:Nat}(h:eA x i=true):x= .tmp i:=by
 unfold eA at h
 split at h
 ·rw[Nat.eq_of_beq_eq_true h]
 ·cases h
theorem Gs{T:TypeId}(h:tG E T=true):E.ty T=some (.int .u8):=by
 unfold tG at h
 split at h
 ·assumption
 ·cases h
theorem zp3{T:TypeId}(h:MA E T=true):∃e,E.ty T=some (.sl e (.int .u8)):=by
 unfold MA at h
 split at h
 ·exact⟨_,by assumption⟩
 ·cases h
theorem rO{o:Oper}{d x:Nat}(h:AB o d x=true):isDst o d=true/\∀(a:Act) (w:World),(execOp a.eval o).run P w= .ok (.value (a.tmps.getD x Go.undef)) w:=by
 unfold AB at h
 rw[Bool.and_eq_true] at h
 refine⟨h.1,fun a w=> ?_⟩
 have h:=h.2
 split at h
 ·rename_i y ho
  have:=rN h
  subst this
  simp only[execOp,ho]
  rfl
 ·cases h
theorem MD(hE:aj P E){o:Oper}{d x:Nat}(h:isLen E o d x=true):isDst o d=true/\∀(a:Act) (w:World) A n c,a.tmps.getD x Go.undef= .slice A n c->(execOp a.eval o).run P w= .ok (.value (.int .i64 n)) w:=by
 unfold isLen at h
 rw[Bool.and_eq_true] at h
 refine⟨h.1,fun a w A n c hv=> ?_⟩
 have h:=h.2
 split at h
 ·rename_i dd ts ho
  split at h
  ·rename_i y T qI xU
   have has:dd= #[y]:=by rw[<-Array.toArray_toList (xs:=dd),qI]
   have n9:ts= #[T]:=by rw[<-Array.toArray_toList (xs:=ts),xU]
   subst has n9
   rw[Bool.and_eq_true] at h
   have:=rN h.1
   subst this
   obtain⟨e,hT⟩:=zp3 h.2
   have hu:=(hE.ty T _ hT).cQ
   have ev:a.eval (.tmp x)= .slice A n c:=hv
   simp [execOp,ho,resolve,invoke,builtin,Builtin.len_,ev,run_underlying hu.1,goInt]
  ·cases h
 ·cases h
theorem JW{o:Oper}{d x:Nat}(h:Oo o d x=true):isDst o d=true/\∀(a:Act) (w:World) (n:Int),a.tmps.getD x Go.undef= .int .i64 n->(execOp a.eval o).run P w= .ok (.value (.int .i64 (IntKind.i64.wrap (n-1)))) w:=by
 unfold Oo at h
 rw[Bool.and_eq_true] at h
 refine⟨h.1,fun a w n hv=> ?_⟩
 have h:=h.2
 split at h
 ·rename_i T y c T' ho
  rw[Bool.and_eq_true] at h
  have:=rN h.1
  subst this
  have hc:=of_decide_eq_true h.2
  subst hc
  have ev:a.eval (.tmp x)= .int .i64 n:=hv
  have ec:a.eval (.const (.int .i64 1))= .int .i64 1:=rfl
  obtain⟨sv,v,hl,Ez,_,hr,_⟩:=zl7 (P:=P) (op:= .sub) (T:=T) (k:= .i64) (k':= .i64) (m:=n) (n:=1) w rfl
  cases hl
  have:=wC (hr ⟨w,fun _=> .all,fun _=>none⟩ (fun _=> .r 0 []))
  subst this
  simp only[execOp,ho,Sem.run_bind,ev,ec,Jn,Result.andThen_ok,Ez,Sem.run_pure]
 ·cases h
theorem GI{o:Oper}{d x y:Nat}(h:qN o d x y=true):isDst o d=true/\∀(a:Act) (w:World) (n m:Int),a.tmps.getD x Go.undef= .int .u8 n->a.tmps.getD y Go.undef= .int .u8 m->(execOp a.eval o).run P w= .ok (.value (.int .u8 (IntKind.u8.wrap (n+m)))) w:=by
 unfold qN at h
 rw[Bool.and_eq_true] at h
 refine⟨h.1,fun a w n m hv hu=> ?_⟩
 have h:=h.2
 split at h
 ·rename_i T u v T' ho
  rw[Bool.and_eq_true] at h
  have:=rN h.1
  subst this
  have:=rN h.2
  subst this
  have ev:a.eval (.tmp x)= .int .u8 n:=hv
  have eu:a.eval (.tmp y)= .int .u8 m:=hu
  obtain⟨sv,v,hl,Ez,_,hr,_⟩:=zl7 (P:=P) (op:= .add) (T:=T) (k:= .u8) (k':= .u8) (m:=n) (n:=m) w rfl
  cases hl
  have:=wC (hr ⟨w,fun _=> .all,fun _=>none⟩ (fun _=> .r 0 []))
  subst this
  simp only[execOp,ho,Sem.run_bind,ev,eu,Jn,Result.andThen_ok,Ez,Sem.run_pure]
 ·cases h
theorem Oi(hE:aj P E){o:Oper}{d x i:Nat}(h:tF E o d x i=true):isDst o d=true/\∀(a:Act) (w:World) (g n c:Nat) (j:Int),a.tmps.getD x Go.undef= .slice (some ⟨g,0,none⟩) n c->a.tmps.getD i Go.undef= .int .i64 j->0<=j->j<n->(execOp a.eval o).run P w= .ok (.value (.pointer (some ⟨g,j.toNat,none⟩))) w:=by
 unfold tF at h
 rw[Bool.and_eq_true] at h
 refine⟨h.1,fun a w g n c j hv hj h0 h1=> ?_⟩
 have h:=h.2
 split at h
 ·rename_i T y z ho
  rw[Bool.and_eq_true,Bool.and_eq_true] at h
  have:=rN h.1
  subst this
  have:=rN h.2.1
  subst this
  obtain⟨e,hT⟩:=zp3 h.2.2
  have hu:=(hE.ty T _ hT).cQ
  have ev:a.eval (.tmp x)= .slice (some ⟨g,0,none⟩) n c:=hv
  have ei:a.eval (.tmp i)= .int .i64 j:=hj
  simp only[execOp,ho,Sem.run_bind,Instr.indexAt,ei,ev,asIntOf,Sem.run_pure,Result.andThen_ok,run_underlying hu.1,Sem.run_ite,h0,h1,and_self,if_true,zw hE hu.2]
  simp [Ty.cells,zy]
 ·cases h
theorem Fv(hE:aj P E){o:Oper}{d x:Nat}(h:yX E o d x=true):isDst o d=true/\∀(a:Act) (w:World) (g j:Nat) (y:Int),a.tmps.getD x Go.undef= .pointer (some ⟨g,j,none⟩)->w.cell? ⟨g,j,none⟩=some (.int .u8 y)->(execOp a.eval o).run P w= .ok (.value (.int .u8 y)) w:=by
 unfold yX at h
 rw[Bool.and_eq_true] at h
 refine⟨h.1,fun a w g j y hv hc=> ?_⟩
 have h:=h.2
 split at h
 ·rename_i T z ho
  rw[Bool.and_eq_true] at h
  have:=rN h.1
  subst this
  have hT:=Gs h.2
  have ev:a.eval (.tmp x)= .pointer (some ⟨g,j,none⟩):=hv
  have hl:=wD (P:=P) hE hT (X:=⟨w,fun _=> .all,fun _=>none⟩) (x:=y) (cs:=[.int .u8 y]) rfl (ad:=⟨g,j,none⟩) (w:=w) (fun k v hk=>by
   cases k with
   |zero=>rw[zy];have hk:Value.int .u8 y=v:=by simpa using hk
          rw[<-hk];exact hc
   |succ k=>simp at hk)
  simp only[execOp,ho,Sem.run_bind,Instr.loadAt,ev,Instr.sureAddr,Sem.run_pure,Result.andThen_ok,hl]
  rfl
 ·cases h
theorem aa2(hE:aj P E){ops:Array Oper}{Q:Exit->Act->World->Prop}{o:Oper}{x y:Nat}(h:qM E o x y=true){k:Nat}{rest:List Nat}(hi:ops[k]? =some o){a:Act}{X:ar}{g j:Nat}{z:Int}{cur:Array Value}{T':TypeId}(hv:a.tmps.getD x Go.undef= .pointer (some ⟨g,j,none⟩))(hz:a.tmps.getD y Go.undef= .int .u8 z)(hg:X.w.heap[g]? =some (.cells cur T' (0,0)))(hj:j+1<=cur.size)
 (K:wpOps P ops Q rest (a.put none Go.undef) (X.row g (cur.toList.take j++ [Value.int .u8 z]++cur.toList.drop (j+1)).toArray).w):wpOps P ops Q (k::rest) a X.w:=by
 unfold qM at h
 rw[Bool.and_eq_true] at h
 have jo:o.dst=none/\o.guard=none:=by
  have h:=h.1
  split at h
  ·exact⟨by assumption,by assumption⟩
  ·cases h
 have h:=h.2
 rw[wpOps_cons]
 unfold wpOp
 simp only[hi]
 have hw:Region.wanted o (yielded ops a.tmps)=true:=by simp [Region.wanted,jo.2]
 rw[if_pos hw]
 refine .inl ?_
 unfold Oper.wp
 split at h
 ·rename_i T u v ho
  rw[Bool.and_eq_true,Bool.and_eq_true] at h
  have:=rN h.1
  subst this
  have:=rN h.2.1
  subst this
  have hT:=Gs h.2.2
  have ev:a.eval (.tmp x)= .pointer (some ⟨g,j,none⟩):=hv
  have ez:a.eval (.tmp y)= .int .u8 z:=hz
  have bL:=A9 (P:=P) hE hT (X:=X) (x:=z) (cs:=[.int .u8 z]) rfl (off:=j) (w:=X.w) (r:=g) (cur:=cur) (T':=T') hg hj
  have fx:dk (.int .u8) [.int .u8 z]= .int .u8 z:=rfl
  rw[fx] at bL
  have aR:(execOp a.eval o).run P X.w= .ok .skip (X.row g (cur.toList.take j++ [Value.int .u8 z]++cur.toList.drop (j+1)).toArray).w:=by
   simp only[execOp,ho,Sem.run_bind,Instr.storeAt,ev,Instr.sureAddr,Sem.run_pure,Result.andThen_ok,ez,bL]
   rfl
  rw[aR,Oper.upon_skip,jo.1]
  exact K
 ·cases h
theorem zxg:∀(n m:Nat) (sl:List (List SV)),(iB n m sl).length=sl.length
 |0,m,sl=>rfl
 |n+1,m,sl=>by rw[iB,zxg n (m+1),List.length_set]
def dead(s:State)(d:Nat):State:=s.ap (some d) [.undef]
theorem Rel.dead(hr:Rel X s a)(d:Nat)(v:Value):Rel X (Ref.dead s d) (a.put (some d) v):=hr.put (fun _ _=>trivial) (fun id t p hm=>by simp at hm)
theorem Wn(hE:aj P E){X0:ar}(hF:∀g pl n,X0.ow g≠ .row pl n)(hx:Ext X0 X)(hr:Rel X s a){q:Nat×Nat×Nat}{id:Nat}{ops:Array Oper}{s':State}(h:jC E q ops.toList s some=some s'){Q:Exit->Act->World->Prop}(hQ:∀Y a',Ext X0 Y->Rel Y s' a'->Q .normal a' Y.w):(Code.region id ops false).wp P Q a X.w:=by
 obtain⟨o,x,m⟩:=q
 unfold jC at h
 simp only at h
 cases fA:yZ E o x m ops.toList with
 |false=>rw[fA] at h;cases h
 |true=>
 rw[fA,cond_true] at h
 cases hb:(Nat.ble (o+1) m&&(Nat.ble (x+1) m&&(!(Nat.beq o x)&&Nat.ble (m+13) s.sl.length))) with
 |false=>rw[hb] at h;cases h
 |true=>
 rw[hb,cond_true] at h
 simp only[Bool.and_eq_true,Bool.not_eq_true',Nat.ble_eq] at hb
 obtain⟨hom,hxm,hox,AU⟩:=hb
 split at h
 case h_2=>cases h
 rename_i et xs own y ow2 fR Ev
 cases bG:zx own [] with
 |false=>rw[bG] at h;cases h
 |true=>
 rw[bG,cond_true] at h
 cases qp:(jn o 0 (iB 13 m s.sl)&&s.bs.all Option.isNone) with
 |false=>rw[qp] at h;cases h
 |true=>
 rw[qp,cond_true] at h
 rw[Bool.and_eq_true] at qp
 obtain⟨h0,h1,h⟩:=rL h
 cases h
 generalize hj:IntKind.i64.wrap ((List.length xs:Int)-1)=j at h0 h1
 have hi:j.toNat<xs.length:=by omega
 obtain⟨g,c,cur,hR⟩:=aa0 hr fR bG hi
 have fa:m+13<=a.tmps.size:=by rw[<-hr.size];exact AU
 have hy:a.tmps.getD x Go.undef= .int .u8 y:=by
  have fQ:=hr.slot x
  rw[Ev] at fQ
  exact wC (show ay X (.c x 0) (.ai (.int .u8) y ow2) _ from fQ)
 have hgx:xs[j.toNat]? =some (xs.getD j.toNat 0):=by rw[List.getD_eq_getElem?_getD,List.getElem?_eq_getElem hi];rfl
 have tm:=hR.cell _ _ hgx
 unfold yZ at fA
 split at fA
 case h_2=>cases fA
 rename_i o0 o1 o2 o3 o4 o5 o6 o7 o8 o9 Ql Qu QF QQ fB
 simp only[Bool.and_eq_true] at fA
 obtain⟨k0,k1,k2,k3,k4,k5,k6,k7,k8,k9,k10,k11,k12,k13⟩:=fA
 have cc:∀i,ops[i]? =([o0,o1,o2,o3,o4,o5,o6,o7,o8,o9,Ql,Qu,QF,QQ]:List Oper)[i]? :=fun i=>by rw[<-Array.getElem?_toList,fB]
 have bN:ops.size=14:=by rw[<-Array.length_toList,fB];rfl
 refine wp_region ?_
 rw[bN,show List.range 14=[0,1,2,3,4,5,6,7,8,9,10,11,12,13] from rfl]
 have vo:=hR.val
 generalize tE:(Value.slice (some ⟨g,0,none⟩) xs.length c)=vs at vo
 refine raw (cc 0) (rO (P:=P) k0).1 ((rO k0).2 a X.w) ?_
 rw[vo]
 have e1:=fun i=>lD (i:=i) (v:=vs) (show m<a.tmps.size by omega)
 have r1:=hr.dead m vs
 generalize IZ:a.put (some m) vs=a1 at e1 r1
 have z1:a1.tmps.size=a.tmps.size:=by rw[<-IZ,ot]
 refine raw (cc 1) (rO (P:=P) k1).1 ((rO k1).2 a1 X.w) ?_
 rw[e1,if_neg (by omega),vo]
 have e2:=fun i=>lD (a:=a1) (i:=i) (v:=vs) (show m+1<a1.tmps.size by omega)
 have r2:=r1.dead (m+1) vs
 generalize PL:a1.put (some (m+1)) vs=a2 at e2 r2
 have z2:a2.tmps.size=a.tmps.size:=by rw[<-PL,ot,z1]
 refine raw (cc 2) (MD hE k2).1 ((MD hE k2).2 a2 X.w _ _ _ (by rw[e2,if_pos rfl];exact tE.symm)) ?_
 have e3:=fun i=>lD (a:=a2) (i:=i) (v:= .int .i64 (xs.length:Nat)) (show m+2<a2.tmps.size by omega)
 have r3:=r2.dead (m+2) (.int .i64 (xs.length:Nat))
 generalize hp3:a2.put (some (m+2)) (.int .i64 (xs.length:Nat))=a3 at e3 r3⊢
 have z3:a3.tmps.size=a.tmps.size:=by rw[<-hp3,ot,z2]
 refine raw (cc 3) (JW (P:=P) k3).1 ((JW k3).2 a3 X.w _ (by rw[e3,if_pos rfl])) ?_
 rw[hj]
 have e4:=fun i=>lD (a:=a3) (i:=i) (v:= .int .i64 j) (show m+3<a3.tmps.size by omega)
 have r4:=r3.dead (m+3) (.int .i64 j)
 generalize hp4:a3.put (some (m+3)) (.int .i64 j)=a4 at e4 r4⊢
 have z4:a4.tmps.size=a.tmps.size:=by rw[<-hp4,ot,z3]
 have q4:∀i,i<m->a4.tmps.getD i Go.undef=a.tmps.getD i Go.undef:=fun i hi=>by rw[e4,if_neg (by omega),e3,if_neg (by omega),e2,if_neg (by omega),e1,if_neg (by omega)]
 have qm:a4.tmps.getD m Go.undef=vs:=by rw[e4,if_neg (by omega),e3,if_neg (by omega),e2,if_neg (by omega),e1,if_pos rfl]
 refine raw (cc 4) (rO (P:=P) k4).1 ((rO k4).2 a4 X.w) ?_
 rw[q4 o (by omega),vo]
 have e5:=fun i=>lD (a:=a4) (i:=i) (v:=vs) (show m+4<a4.tmps.size by omega)
 have r5:=r4.dead (m+4) vs
 generalize hp5:a4.put (some (m+4)) vs=a5 at e5 r5⊢
 have z5:a5.tmps.size=a.tmps.size:=by rw[<-hp5,ot,z4]
 refine raw (cc 5) (rO (P:=P) k5).1 ((rO k5).2 a5 X.w) ?_
 rw[e5,if_neg (by omega),q4 o (by omega),vo]
 have e6:=fun i=>lD (a:=a5) (i:=i) (v:=vs) (show m+5<a5.tmps.size by omega)
 have r6:=r5.dead (m+5) vs
 generalize hp6:a5.put (some (m+5)) vs=a6 at e6 r6⊢
 have z6:a6.tmps.size=a.tmps.size:=by rw[<-hp6,ot,z5]
 refine raw (cc 6) (MD hE k6).1 ((MD hE k6).2 a6 X.w _ _ _ (by rw[e6,if_pos rfl];exact tE.symm)) ?_
 have e7:=fun i=>lD (a:=a6) (i:=i) (v:= .int .i64 (xs.length:Nat)) (show m+6<a6.tmps.size by omega)
 have r7:=r6.dead (m+6) (.int .i64 (xs.length:Nat))
 generalize hp7:a6.put (some (m+6)) (.int .i64 (xs.length:Nat))=a7 at e7 r7⊢
 have z7:a7.tmps.size=a.tmps.size:=by rw[<-hp7,ot,z6]
 refine raw (cc 7) (JW (P:=P) k7).1 ((JW k7).2 a7 X.w _ (by rw[e7,if_pos rfl])) ?_
 rw[hj]
 have e8:=fun i=>lD (a:=a7) (i:=i) (v:= .int .i64 j) (show m+7<a7.tmps.size by omega)
 have r8:=r7.dead (m+7) (.int .i64 j)
 generalize hp8:a7.put (some (m+7)) (.int .i64 j)=a8 at e8 r8⊢
 have z8:a8.tmps.size=a.tmps.size:=by rw[<-hp8,ot,z7]
 have q8:∀i,i<=m+3->a8.tmps.getD i Go.undef=a4.tmps.getD i Go.undef:=fun i hi=>by rw[e8,if_neg (by omega),e7,if_neg (by omega),e6,if_neg (by omega),e5,if_neg (by omega)]
 refine raw (cc 8) (Oi hE k8).1 ((Oi hE k8).2 a8 X.w g xs.length c j (by rw[e8,if_neg (by omega),e7,if_neg (by omega),e6,if_neg (by omega),e5,if_pos rfl];exact tE.symm) (by rw[e8,if_pos rfl]) h0 h1) ?_
 have e9:=fun i=>lD (a:=a8) (i:=i) (v:= .pointer (some ⟨g,j.toNat,none⟩)) (show m+8<a8.tmps.size by omega)
 have r9:=r8.dead (m+8) (.pointer (some ⟨g,j.toNat,none⟩))
 generalize hp9:a8.put (some (m+8)) (.pointer (some ⟨g,j.toNat,none⟩))=a9 at e9 r9⊢
 have z9:a9.tmps.size=a.tmps.size:=by rw[<-hp9,ot,z8]
 refine raw (cc 9) (Fv hE k9).1 ((Fv hE k9).2 a9 X.w g j.toNat _ (by rw[e9,if_pos rfl]) tm) ?_
 generalize hwx:xs.getD j.toNat 0=wx
 have AL:=fun i=>lD (a:=a9) (i:=i) (v:= .int .u8 wx) (show m+9<a9.tmps.size by omega)
 have j9:=r9.dead (m+9) (.int .u8 wx)
 generalize PI:a9.put (some (m+9)) (.int .u8 wx)=xC at AL j9⊢
 have z10:xC.tmps.size=a.tmps.size:=by rw[<-PI,ot,z9]
 refine raw (cc 10) (rO (P:=P) k10).1 ((rO k10).2 xC X.w) ?_
 rw[AL,if_neg (by omega),e9,if_neg (by omega),q8 x (by omega),q4 x (by omega),hy]
 have AM:=fun i=>lD (a:=xC) (i:=i) (v:= .int .u8 y) (show m+10<xC.tmps.size by omega)
 have ll:=j9.dead (m+10) (.int .u8 y)
 generalize PJ:xC.put (some (m+10)) (.int .u8 y)=xD at AM ll⊢
 have z11:xD.tmps.size=a.tmps.size:=by rw[<-PJ,ot,z10]
 refine raw (cc 11) (GI (P:=P) k11).1 ((GI k11).2 xD X.w wx y (by rw[AM,if_neg (by omega),AL,if_pos rfl]) (by rw[AM,if_pos rfl])) ?_
 generalize hwz:IntKind.u8.wrap (wx+y)=wz
 have OX:=fun i=>lD (a:=xD) (i:=i) (v:= .int .u8 wz) (show m+11<xD.tmps.size by omega)
 have qS:=ll.dead (m+11) (.int .u8 wz)
 generalize PK:xD.put (some (m+11)) (.int .u8 wz)=a12 at OX qS⊢
 have z12:a12.tmps.size=a.tmps.size:=by rw[<-PK,ot,z11]
 have RI:∀i,i<=m+3->a12.tmps.getD i Go.undef=a4.tmps.getD i Go.undef:=fun i hi=>by rw[OX,if_neg (by omega),AM,if_neg (by omega),AL,if_neg (by omega),e9,if_neg (by omega),q8 i hi]
 refine raw (cc 12) (Oi hE k12).1 ((Oi hE k12).2 a12 X.w g xs.length c j (by rw[RI m (by omega),qm];exact tE.symm) (by rw[RI (m+3) (by omega),e4,if_pos rfl]) h0 h1) ?_
 have IL:=fun i=>lD (a:=a12) (i:=i) (v:= .pointer (some ⟨g,j.toNat,none⟩)) (show m+12<a12.tmps.size by omega)
 have oN:=qS.dead (m+12) (.pointer (some ⟨g,j.toNat,none⟩))
 generalize acY:a12.put (some (m+12)) (.pointer (some ⟨g,j.toNat,none⟩))=DM at IL oN⊢
 have Pb:lG X DM o et xs own g c cur:=⟨by rw[IL,if_neg (by omega),RI o (by omega),q4 o (by omega),hR.val],hR.heap,hR.cell,hR.le,hR.most,hR.size,hR.ow,hR.own⟩
 refine aa2 hE k13 (cc 13) (by rw[IL,if_pos rfl]) (by rw[IL,if_neg (by omega),OX,if_pos rfl]) hR.heap (by rw[hR.size];have:=hR.le;omega) ?_
 have PU:Rel X ⟨iB 13 m s.sl,s.bs⟩ DM:=oN
 obtain⟨hX,bg⟩:=YZ hF hx PU (by rw[zxg];omega) qp.1 qp.2 Pb hi wz
 have x6:=hQ _ DM hX (by
  unfold wu
  rw[hj,hwx,hwz]
  exact bg)
 exact x6
end Go.Ref

namespace Go.Ref
open Go
variable {P:Program} {E:Env} {X:ar} {s:State} {a:Act}
structure lQ(X Y:ar)(g0:Nat):Prop where
 heap:∀b,b≠g0->Y.w.heap[b]? =X.w.heap[b]?
 ow:Y.ow=X.ow
 β:Y.β=X.β
theorem lQ.ax{Y:ar}{g0:Nat}(h:lQ X Y g0){ad:Addr}{v:Value}(bB:ad.block≠g0)(hs:X.ax ad v):Y.ax ad v:=by
 refine⟨hs.1,?_,?_⟩
 ·have:=hs.2.1
  simp only[World.cell?] at this⊢
  rw[h.heap _ bB];exact this
 ·rw[h.ow];exact hs.2.2
theorem Gq{own:List (List Nat)}{p:List Nat}(h:zx own p=true):p∈own:=by
 unfold zx at h
 obtain⟨q,h1,h2⟩:=List.any_eq_true.1 h
 have:q=p:=by simpa using h2
 rw[<-this];exact h1
def plS(pl:List Nat->Place):List Nat->Place
 |j::p=>pl ((j+1)::p)
 | []=>pl []
theorem YW{pl:List Nat->Place}{a b:Ty}{x:El (.pair a b)}{c1 c2:List Value}{own:List (List Nat)}(hr:aY X a x.1 c1)(h:bc X pl (.pair a b) x (c1++c2) own):bc X (fun p=>pl (0::p)) a x.1 c1 (Ix own [0]):=fun p hp=>by
 unfold Ix at hp
 obtain⟨q,hq,rfl⟩:=List.mem_map.1 hp
 obtain⟨hq,eS⟩:=List.mem_filter.1 hq
 match q,eS with
 |0::q,_=>
  obtain⟨e,t',xs,v,g0,g1,g2,g3⟩:=h (0::q) hq
  have g2:(c1++c2)[a.off q]? =some v:=g2
  refine⟨e,t',xs,v,g0,g1,?_,g3⟩
  show c1[a.off q]? =some v
  rw[<-g2,List.getElem?_append_left]
  obtain⟨_,k2,_⟩:=H9 hr (show a.dJ q from g0) (show El.get a q x.1=_ from g1)
  have k2:a.off q+1<=a.cells:=k2
  have:=hr.len
  omega
 | [],eS=>simp at eS
 |(j+1)::q,eS=>simp at eS
theorem YX{pl:List Nat->Place}{a b:Ty}{x:El (.pair a b)}{c1 c2:List Value}{own:List (List Nat)}(hl:c1.length=a.cells)(h:bc X pl (.pair a b) x (c1++c2) own):bc X (plS pl) b x.2 c2 (tg own):=fun p hp=>by
 unfold tg at hp
 obtain⟨q,hq,he⟩:=List.mem_filterMap.1 hp
 match q,he with
 |(j+1)::q,he=>
  cases he
  obtain⟨e,t',xs,v,g0,g1,g2,g3⟩:=h ((j+1)::q) hq
  refine⟨e,t',xs,v,g0,g1,?_,g3⟩
  have g2:(c1++c2)[a.cells+b.off (j::q)]? =some v:=g2
  rw[List.getElem?_append_right (by omega)] at g2
  rw[<-g2]
  congr 1
  omega
 | [],he=>cases he
 |0::q,he=>cases he
theorem bc.E0{Y:ar}{g0:Nat}(h:lQ X Y g0){pl:List Nat->Place}(eJ:∀p n,X.ow g0≠ .row (pl p) n){t:Ty}{x:El t}{cs:List Value}{own:List (List Nat)}(ho:bc X pl t x cs own):bc Y pl t x cs own:=fun p hp=>by
 obtain⟨e,t',xs,v,k0,k1,k2,k3⟩:=ho p hp
 refine⟨e,t',xs,v,k0,k1,k2,?_⟩
 rcases k3 with ho|⟨g,cap,cur,h1,h2,h3,h4,h5,h6⟩
 ·exact .inl ho
 ·have bB:g≠g0:=fun e=>eJ p _ (e▸h6)
  exact .inr ⟨g,cap,cur,h1,(h.heap g bB).trans h2,h3,h4,h5,by rw[h.ow];exact h6⟩
theorem aY.cp{Y:ar}{g0:Nat}(h:lQ X Y g0):∀{t:Ty} {x:El t} {cs:List Value} {own:List (List Nat)} {pl:List Nat->Place},(∀p n,X.ow g0≠ .row (pl p) n)->t.cp own=true->aY X t x cs->bc X pl t x cs own->aY Y t x cs
 | .bool,_,_,_,_,_,_,hr,_=>hr
 | .int _,_,_,_,_,_,_,hr,_=>hr
 | .str,_,_,_,_,_,_,hr,_=>hr
 | .unit,_,_,_,_,_,_,hr,_=>hr
 | .aI _ _ _,_,_,_,_,_,hs,_,_=>by cases hs
 | .arr n t,xs,cs,own,pl,_,hs,hr,_=>aY.flat (t:= .arr n t) (show t.flat=true from hs) hr
 | .pair a b,x,cs,own,pl,eJ,hs,hr,ho=>by
   have hs:(a.cp (Ix own [0])&&b.cp (tg own))=true:=hs
   rw[Bool.and_eq_true] at hs
   obtain⟨c1,c2,h1,h2,h3⟩:=hr
   subst h1
   exact⟨c1,c2,rfl,aY.cp h (pl:=fun p=>pl (0::p)) (fun p n=>eJ _ n) hs.1 h2 (YW h2 ho),aY.cp h (pl:=plS pl) (fun p n=>by cases p<;>exact eJ _ n) hs.2 h3 (YX h2.len ho)⟩
 | .sl e t,xs,cs,own,pl,eJ,hs,hr,ho=>by
   have hs:(t.flat&&zx own [])=true:=hs
   rw[Bool.and_eq_true] at hs
   obtain⟨A,c,eH,hle,eI⟩:=hr
   subst eH
   refine⟨A,c,rfl,hle,fun j x hj=> ?_⟩
   obtain⟨ad,dI,e1,e2,e3,e4⟩:=eI j x hj
   subst e1
   refine⟨ad,dI,rfl,e2,e3.flat hs.1,fun i v hi=>h.ax ?_ (e4 i v hi)⟩
   obtain⟨e1,t1,xs1,v1,_,hg,hc,bW⟩:=ho [] (Gq hs.2)
   simp only[El.get,Option.some.injEq] at hg
   cases hg
   have vS:v1= .slice (some ad) xs.length c:=by
    have:([Value.slice (some ad) xs.length c]:List Value)[0]? =some v1:=hc
    simpa using this.symm
   subst vS
   rcases bW with⟨h0,_⟩|⟨g,cap,cur,h1,h2,h3,h4,h5,h6⟩
   ·cases h0
   ·injection h1 with k1 k2 k3
    cases k1
    rw[zy]
    intro e
    have e:g=g0:=e
    exact eJ [] _ (e▸h6)
theorem ay.cp{Y:ar}{g0:Nat}(h:lQ X Y g0){pl:List Nat->Place}(eJ:∀p n,X.ow g0≠ .row (pl p) n){bs:List (Option bj)}{sv:SV}{v:Value}(hs:sv.cp bs=true)(hr:ay X pl sv v):ay Y pl sv v:=by
 cases sv with
 |ai t x own=>
  obtain⟨cs,h1,h2,h3⟩:=hr
  exact⟨cs,h1.cp h eJ hs h3,h2,h3.E0 h eJ⟩
 |undef=>trivial
 |skip=>exact hr
 |cj=>exact hr
 |dF=>exact hr
 |over=>exact hr
 |ptr id t p=>
  obtain⟨r,h1,h2⟩:=hr
  exact⟨r,by rw[h.β];exact h1,h2⟩
 |_=>cases hs
theorem Tl{bs:List (Option bj)}{id:Nat}{B:bj}(h:(bs.map Ov)[id]? =some (some B)):bs[id]? =some (some B)/\B.cp=true:=by
 rw[List.getElem?_map] at h
 obtain⟨b0,h0,h1⟩:=Option.map_eq_some_iff.1 h
 cases b0 with
 |none=>cases h1
 |some B0=>
  unfold Ov at h1
  simp only at h1
  cases hb:B0.cp with
  |false=>rw[hb] at h1;cases h1
  |true=>rw[hb] at h1;cases h1;exact⟨h0,hb⟩
structure Oy(X:ar)(o:Nat)(e:TypeId)(k n:Nat)(v:Value)(g c:Nat)(cur:Array Value):Prop where
 val:v= .slice (some ⟨g,0,none⟩) n c
 heap:X.w.heap[g]? =some (.cells cur e (0,0))
 le:n<=c
 size:cur.size=c*k
 ow:X.ow g= .row (.c o 0 []) (n*k)
theorem ES{o:Nat}{e:TypeId}{t:Ty}{xs:List (El t)}{own:List (List Nat)}(hr:Rel X s a)(hs:s.slot o=[.ai (.sl e t) xs own])(bG:zx own []=true){i:Nat}(hi:i<xs.length):∃g c cur,Oy X o e t.cells xs.length (a.tmps.getD o Go.undef) g c cur:=by
 have fQ:=hr.slot o
 rw[hs] at fQ
 obtain⟨cs,aK,hv,hO⟩:=(show ay X (.c o 0) (.ai (.sl e t) xs own) (a.tmps.getD o Go.undef) from fQ)
 obtain⟨e1,t1,xs1,v1,_,hg,hc,bW⟩:=hO [] (Gq bG)
 simp only[El.get,Option.some.injEq] at hg
 cases hg
 obtain⟨A,c,eH,hle,eI⟩:=aK
 subst eH
 have hv:a.tmps.getD o Go.undef= .slice A xs.length c:=hv
 have vS:v1= .slice A xs.length c:=by
  have:([Value.slice A xs.length c]:List Value)[0]? =some v1:=hc
  simpa using this.symm
 subst vS
 rcases bW with⟨_,h0⟩|⟨g,cap,cur,h1,h2,h3,h4,h5,h6⟩
 ·have h0:List.length xs=0:=h0
  omega
 injection h1 with k1 k2 k3
 subst k1 k3
 exact⟨g,c,cur,hv,h2,hle,h5,h6⟩
theorem FJ{g:Nat}{new:Array Value}:lQ X (X.row g new) g:=⟨fun b hb=>setRow_other X.w g b _ hb,rfl,rfl⟩
theorem Y2{X0:ar}(hF:∀g pl n,X0.ow g≠ .row pl n)(hx:Ext X0 X){g m:Nat}{pl:Place}{new:Array Value}(how:X.ow g= .row pl m):Ext X0 (X.row g new):=by
 have cN:∀b,b≠g->(X.row g new).w.heap[b]? =X.w.heap[b]? :=fun b hb=>setRow_other X.w g b _ hb
 have lX:∀ad v,X0.ax ad v->ad.block≠g:=fun ad v dx e0=>by
  have aw:=ar.fW dx
  have hu:=dx.2.2
  cases hw:X0.ow ad.block with
  |all=>have:=(hx.still ad.block aw (by rw[hw];trivial)).1;rw[e0,how] at this;rw[<-e0,hw] at this;cases this
  |ro n=>have:=(hx.still ad.block aw (by rw[hw];trivial)).1;rw[e0,how] at this;rw[<-e0,hw] at this;cases this
  |box id=>rw[hw] at hu;exact hu
  |row pl n=>exact hF _ _ _ hw
 refine⟨fun ad v dx=>FJ.ax (lX ad v dx) (hx.ax ad v dx),?_,hx.os,hx.tape,hx.output,hx.β0,fun b hb bL=> ?_⟩
 ·have:=hx.size
  simpa [ar.row] using this
 ·have h7:=hx.still b hb bL
  have bB:b≠g:=fun e0=>by
   have h8:=h7.1
   rw[e0,how] at h8
   rw[e0,<-h8] at bL
   exact bL
  exact⟨h7.1,(cN b bB).trans h7.2⟩
theorem We(hr:Rel X s a){x g m:Nat}{new:Array Value}(how:X.ow g= .row (.c x 0 []) m):Rel (X.row g new) (s.cp x) a:=by
 have hB:lQ X (X.row g new) g:=FJ
 refine⟨by simpa [State.cp] using hr.size,by simpa [State.cp] using hr.fh,fun j l v hl hv=> ?_,fun id B hb=> ?_,fun j l id t p hl hm=> ?_,hr.defers,fun j l id c b k hl hm=> ?_⟩
 ·simp only[State.cp,List.getElem?_map] at hl
  obtain⟨l0,h0,rfl⟩:=Option.map_eq_some_iff.1 hl
  unfold hold
  cases cI:l0.all (SV.cp s.bs) with
  |false=>trivial
  |true=>
   rw[cond_true]
   rw[List.getElem?_set] at h0
   by_cases P2:x=j
   ·subst P2
    rw[if_pos rfl] at h0
    split at h0
    ·cases h0;trivial
    ·cases h0
   ·rw[if_neg P2] at h0
    exact(hr.bC j l0 v h0 hv).gg fun k sv u hk hu=>hu.cp hB (fun p n e=>by rw[how] at e;injection e with e _;injection e with e _;exact P2 e) (List.all_eq_true.1 cI sv (List.mem_of_getElem? hk))
 ·obtain⟨h1,h2⟩:=Tl hb
  obtain⟨r,k1,k2⟩:=hr.boxes id B h1
  unfold bj.cp at h2
  rw[Bool.and_eq_true] at h2
  have dw:B.t.bn=false:=by simpa using h2.1
  obtain⟨cs,T,aC,aK,lY,bG⟩:=k2.cells dw
  have bB:r≠g:=fun e=>by rw[e,how] at lY;cases lY
  have eJ:∀p n,X.ow g≠ .row (.b id p) n:=fun p n e=>by rw[how] at e;injection e with e _;cases e
  exact⟨r,k1,by rw[hB.ow];exact lY,cT.of dw ((hB.heap r bB).trans aC) (aK.cp hB eJ h2.2 bG) (bG.E0 hB eJ)⟩
 ·simp only[State.cp,List.getElem?_map] at hl
  obtain⟨l0,h0,rfl⟩:=Option.map_eq_some_iff.1 hl
  unfold hold at hm
  cases cI:l0.all (SV.cp s.bs) with
  |false=>rw[cI] at hm;simp at hm
  |true=>
   rw[cI,cond_true] at hm
   have h1:=List.all_eq_true.1 cI _ hm
   unfold SV.cp at h1
   simp only at h1
   split at h1
   case h_2=>cases h1
   rename_i B hB
   have hb:=nw (s:=s) hB
   exact⟨B,by simp only[State.cp,List.getElem?_map,hb,Option.map_some,Ov,h1,cond_true]⟩
 ·exfalso
  simp only[State.cp,List.getElem?_map] at hl
  obtain⟨l0,h0,rfl⟩:=Option.map_eq_some_iff.1 hl
  unfold hold at hm
  cases cI:l0.all (SV.cp s.bs) with
  |false=>rw[cI] at hm;simp at hm
  |true=>
   rw[cI,cond_true] at hm
   have:=List.all_eq_true.1 cI _ hm
   cases this
theorem zp6{α:Type}:∀{l r:List α} {x y:α},MC l=some (r,x,y)->l=r++ [x,y]
 | [],_,_,_,h=>by cases h
 | [_],_,_,_,h=>by cases h
 | [a,b],_,_,_,h=>by cases h;rfl
 |a::b::c::r,_,_,_,h=>by
  simp only[MC] at h
  split at h
  case h_2=>cases h
  rename_i l x y hl
  cases h
  have:=zp6 (l:=b::c::r) hl
  rw[this];rfl
theorem zlm(hE:aj P E){C:af}(hC:C.Nat)(hf:∀f,cG P C f){ops:Array Oper}{s':State}{Q:Exit->Act->World->Prop}{rest:List Nat}:∀(l:List Nat) (X:ar) (s:State) (a:Act),Rel X s a->(∀i∈l,i<ops.size)->
 steps E (C State) ops.toList (l.map fun i=>ops.getD i default) s some=some s'->(∀Y a',Ext X Y->Rel Y s' a'->wpOps P ops Q rest a' Y.w)->wpOps P ops Q (l++rest) a X.w
 | [],X,s,a,hr,_,h,hQ=>by
   cases h
   exact hQ X a (Ext.refl X) hr
 |i::r,X,s,a,hr,hl,h,hQ=>by
  simp only[List.map_cons,steps] at h
  obtain⟨s1,h1,h2⟩:=zz (zll hC (F:=fun s=>steps E (C State) ops.toList (r.map fun i=>ops.getD i default) s some) (G:=some) (K:=fun s=>steps E (C State) ops.toList (r.map fun i=>ops.getD i default) s some) (fun _=>rfl)) h
  have hi:ops[i]? =some (ops.getD i default):=by
   have:=hl i (by simp)
   simp [this]
  rw[List.cons_append,wpOps_cons]
  refine MG hE hr hC hf hi h1 fun Y a' aT bg=> ?_
  exact zlm hE hC hf r Y s1 a' bg (fun j hj=>hl j (List.mem_cons_of_mem _ hj)) h2 fun Z a2 bR cJ=>hQ Z a2 (aT.trans bR) cJ
theorem YY(hE:aj P E){X0:ar}(hF:∀g pl n,X0.ow g≠ .row pl n)(hx:Ext X0 X)(hr:Rel X s a){ops:Array Oper}{k l:Nat}{oA oS:Oper}(hA:ops[k]? =some oA)(hS:ops[l]? =some oS){s':State}(h:gK E oA oS s some=some s'){Q:Exit->Act->World->Prop}(hQ:∀Y a',Ext X0 Y->Rel Y s' a'->Q .normal a' Y.w):wpOps P ops Q [k,l] a X.w:=by
 unfold gK at h
 split at h
 case h_2=>cases h
 rename_i T x i T' d vo PH hoS
 cases fA:(isDst oA d&&(!(Nat.beq x d)&&jv oS)) with
 |false=>rw[fA] at h;cases h
 |true=>
 rw[fA,cond_true] at h
 rw[Bool.and_eq_true,Bool.and_eq_true] at fA
 obtain⟨hd,P1,jo⟩:=fA
 have jo:oS.dst=none/\oS.guard=none:=by
  unfold jv at jo
  split at jo
  ·exact⟨by assumption,by assumption⟩
  ·cases jo
 have P1:x≠d:=fun e=>by rw[e] at P1;simp at P1
 unfold qR at h
 split at h
 case h_2=>cases h
 rename_i e t xs own Ev
 cases hb:zx own [] with
 |false=>rw[hb] at h;cases h
 |true=>
 rw[hb,cond_true] at h
 split at h
 case h_2=>cases h
 rename_i u w hT rE
 cases hu:(u.bV (.sl e t)&&(w.bV t&&Nat.ble (d+1) s.sl.length)) with
 |false=>rw[hu] at h;cases h
 |true=>
 rw[hu,cond_true] at h
 rw[Bool.and_eq_true,Bool.and_eq_true] at hu
 have:=Ty.aH hu.1
 subst this
 have:=Ty.aH hu.2.1
 subst this
 have hds:d<a.tmps.size:=by rw[<-hr.size];exact Nat.le_of_ble_eq_true hu.2.2
 obtain⟨n,kk,h,hn⟩:=zlf h
 obtain⟨y,h,hy⟩:=zt h
 obtain⟨h0,h1,h⟩:=rL h
 cases h
 have hi:n.toNat<xs.length:=by omega
 obtain⟨g,c,cur,hR⟩:=ES hr Ev hb hi
 have cP:=hn X _ _ (hr.aF i)
 have hU:=hE.ty T _ hT
 have ev:a.eval (.tmp x)= .slice (some ⟨g,0,none⟩) xs.length c:=hR.val
 have qE:(execOp a.eval oA).run P X.w= .ok (.value (.pointer (some ⟨g,n.toNat*w.cells,none⟩))) X.w:=by
  have aw:n<(xs.length:Int):=h1
  simp only[execOp,PH,Sem.run_bind,Instr.indexAt,cP,ev,asIntOf,Sem.run_pure,Result.andThen_ok,run_underlying hU.cQ.1,Sem.run_ite,h0,aw,and_self,if_true,zw hE hU.cQ.2]
  simp [zy]
 refine raw hA hd qE ?_
 have dV:Rel X (s.ap (some d) [.undef]) (a.put (some d) (.pointer (some ⟨g,n.toNat*w.cells,none⟩))):=hr.put (fun _ _=>trivial) (fun id t p hm=>by simp at hm)
 have evd:(a.put (some d) (.pointer (some ⟨g,n.toNat*w.cells,none⟩))).eval (.tmp d)= .pointer (some ⟨g,n.toNat*w.cells,none⟩):=by
  show(a.put (some d) _).tmps.getD d Go.undef=_
  rw[lD hds,if_pos rfl]
 generalize a.put (some d) (.pointer (some ⟨g,n.toNat*w.cells,none⟩))=a1 at dV evd⊢
 obtain⟨cs,jz,O1⟩:=hy X _ _ (dV.aF vo)
 have hle:(n.toNat+1)*w.cells<=c*w.cells:=Nat.mul_le_mul_right _ (by have:=hR.le;omega)
 rw[Nat.add_mul,Nat.one_mul] at hle
 have bL:=A9 (P:=P) hE rE jz (r:=g) (off:=n.toNat*w.cells) (w:=X.w) hR.heap (by rw[hR.size];exact hle)
 rw[wpOps_cons]
 unfold wpOp
 simp only[hS]
 have hw:Region.wanted oS (yielded ops a1.tmps)=true:=by simp [Region.wanted,jo.2]
 rw[if_pos hw]
 refine .inl ?_
 unfold Oper.wp
 generalize fy:(cur.toList.take (n.toNat*w.cells)++cs++cur.toList.drop (n.toNat*w.cells+cs.length)).toArray=new at bL
 have aR:(execOp a1.eval oS).run P X.w= .ok .skip (X.row g new).w:=by
  simp only[execOp,hoS,Sem.run_bind,Instr.storeAt,evd,Instr.sureAddr,Sem.run_pure,Result.andThen_ok,O1,bL]
  rfl
 rw[aR,Oper.upon_skip,jo.1]
 exact hQ _ a1 (Y2 hF hx hR.ow) (We dV hR.ow)
theorem V8(hE:aj P E){C:af}(hC:C.Nat)(hf:∀f,cG P C f){X0:ar}(hF:∀g pl n,X0.ow g≠ .row pl n)(hx:Ext X0 X)(hr:Rel X s a){id:Nat}{ops:Array Oper}{s':State}(h:jy E (C State) ops.toList s some=some s'){Q:Exit->Act->World->Prop}(hQ:∀Y a',Ext X0 Y->Rel Y s' a'->Q .normal a' Y.w):(Code.region id ops false).wp P Q a X.w:=by
 unfold jy at h
 split at h
 case h_2=>cases h
 rename_i l oA oS hl
 obtain⟨s1,h1,h2⟩:=zz (zR hC (F:=fun s=>gK E oA oS s some) (G:=some) (K:=fun s=>gK E oA oS s some) (fun _=>rfl) l s) h
 have fB:=zp6 hl
 have bN:ops.size=l.length+2:=by rw[<-Array.length_toList,fB];simp
 refine wp_region ?_
 have ix:List.range ops.size=List.range l.length++ [l.length,l.length+1]:=by
  rw[bN,List.range_succ,List.range_succ,List.append_assoc];rfl
 rw[ix]
 have hA:ops[l.length]? =some oA:=by rw[<-Array.getElem?_toList,fB,List.getElem?_append_right (Nat.le_refl _),Nat.sub_self];rfl
 have hS:ops[l.length+1]? =some oS:=by rw[<-Array.getElem?_toList,fB,List.getElem?_append_right (by omega),Nat.add_sub_cancel_left];rfl
 have iT:(List.range l.length).map (fun i=>ops.getD i default)=l:=by
  apply List.ext_getElem?
  intro i
  rw[List.getElem?_map]
  by_cases hi:i<l.length
  ·have h3:ops[i]? =l[i]? :=by rw[<-Array.getElem?_toList,fB,List.getElem?_append_left hi]
   have h4:i<ops.size:=by omega
   rw[List.getElem?_range hi,<-h3]
   simp [h4]
  ·rw[List.getElem?_eq_none (by simpa using hi),List.getElem?_eq_none (by omega)];rfl
 refine zlm hE hC hf (List.range l.length) X s a hr (fun i hi=>by have:=List.mem_range.1 hi;omega) (by rw[iT];exact h1) fun Y a' aT bg=> ?_
 exact YY hE hF (hx.trans aT) bg hA hS h2 hQ
end Go.Ref

namespace Go.Ref
open Go
variable {P:Program} {E:Env} {X:ar} {s:State} {a:Act}
theorem RN{ops:Array Oper}{Q:Exit->Act->World->Prop}{i d:Nat}{rest:List Nat}{a:Act}{w w':World}{o:Oper}{v:Value}(hi:ops[i]? =some o)(hd:isDst o d=true)(aR:(execOp a.eval o).run P w= .ok (.value v) w')(K:wpOps P ops Q rest (a.put (some d) v) w'):wpOps P ops Q (i::rest) a w:=by
 have jo:o.dst=some d/\o.guard=none:=by
  unfold isDst at hd
  split at hd
  ·rename_i d' h1 h2
   exact⟨by rw[h1,Nat.eq_of_beq_eq_true hd],h2⟩
  ·cases hd
 rw[wpOps_cons]
 unfold wpOp
 simp only[hi]
 have hw:Region.wanted o (yielded ops a.tmps)=true:=by simp [Region.wanted,jo.2]
 rw[if_pos hw]
 refine .inl ?_
 unfold Oper.wp
 rw[aR,Oper.upon_value,jo.1]
 exact K
theorem zec{α:Type}:∀{l r:List α} {x y z:α},JK l=some (r,x,y,z)->l=r++ [x,y,z]
 | [],_,_,_,_,h=>by cases h
 | [_],_,_,_,_,h=>by cases h
 | [_,_],_,_,_,_,h=>by cases h
 | [a,b,c],_,_,_,_,h=>by cases h;rfl
 |a::b::c::d::r,_,_,_,_,h=>by
  simp only[JK] at h
  split at h
  case h_2=>cases h
  rename_i l x y z hl
  cases h
  have:=zec (l:=b::c::d::r) hl
  rw[this];rfl
theorem Rel.kill(hr:Rel X s a)(d:Nat):Rel X (s.ap (some d) [.undef]) a:=by
 have dz:∀(i:Nat) (l:List SV),(s.ap (some d) [.undef]).sl[i]? =some l->l=[.undef]\/s.sl[i]? =some l:=fun i l hi=>by
  simp only[State.ap,List.getElem?_set] at hi
  split at hi
  ·split at hi
   ·cases hi;exact .inl rfl
   ·cases hi
  ·exact .inr hi
 refine⟨by simpa [State.ap] using hr.size,by simpa [State.ap] using hr.fh,fun i l v hi hv=> ?_,hr.boxes,fun i l id t p hi hm=> ?_,hr.defers,hr.bh.less (fun i l id c b j hi hm=> ?_) (fun id c b x own _ hb ho=>⟨x,own,hb,ho⟩)⟩
 ·rcases dz i l hi with rfl|hi
  ·trivial
  ·exact hr.bC i l v hi hv
 ·rcases dz i l hi with rfl|hi
  ·simp at hm
  ·exact hr.live i l id t p hi hm
 ·rcases dz i l hi with rfl|hi
  ·simp at hm
  ·exact⟨l,hi,hm,fun h=>h⟩
theorem Qe{P:Program}{fs:Array Field}(h:∀f∈fs.toList,∃i,P.info? f.type=some i):∃places,fs.toList.mapM (fun(f:Field)=>(P.info? f.type).map fun i=>(f.offset,i.size))=some places/\∀(j:Nat) (f:Field) i,fs.toList[j]? =some f->P.info? f.type=some i->places[j]? =some (f.offset,i.size):=by
 generalize fs.toList=l at h
 induction l with
 |nil=>exact⟨[],rfl,fun j f i hj=>by simp at hj⟩
 |cons f r ih=>
  obtain⟨i,hi⟩:=h f (by simp)
  obtain⟨places,h1,h2⟩:=ih fun f hf=>h f (List.mem_cons_of_mem _ hf)
  refine⟨(f.offset,i.size)::places,by simp [List.mapM_cons,hi,h1],fun j g k hj hg=> ?_⟩
  cases j with
  |zero=>
   simp only[List.getElem?_cons_zero,Option.some.injEq] at hj
   subst hj
   rw[hi] at hg
   cases hg
   rfl
  |succ j=>exact h2 j g k (by simpa using hj) hg
theorem Vr(hE:aj P E){T:TypeId}{ta tb:Ty}(hT:E.gr T=some (ta,tb)){y:El ta}{cs:List Value}(hr:aY X ta y cs)(w:World):(Instr.build T #[(0,dk ta cs)]).run P w= .ok (.agg (cs++ [Value.pointer none,Value.pointer none,Value.int .i64 0]).toArray) w:=by
 obtain⟨fs,f0,hu,Pp,tA,ht0,cI⟩:=hE.g3 T ta tb hT
 obtain⟨i,hi,hz⟩:=hE.gz T ta tb hT
 obtain⟨places,IZ,PL⟩:=Qe (P:=P) (fs:=fs) cI
 obtain⟨i0,yc,dW,_⟩:=(hE.ty _ _ ht0).info
 have eJ:places[0]? =some (f0.offset,i0.size):=PL 0 f0 i0 (by rw[Array.getElem?_toList];exact Pp) yc
 have hmc:=rM hr
 have eg:=hr.len
 have EE:=ri ta
 refine run_build w T _ _ ?_
 unfold Program.built
 simp only[hi,hu,hz,IZ]
 have ED:(Value.agg (zl ta++ [Value.pointer none,Value.pointer none,Value.int .i64 0]).toArray).cells=(zl ta++ [Value.pointer none,Value.pointer none,Value.int .i64 0]).toArray:=rfl
 simp only[ED,Instr.fill,List.getElem?_toArray,eJ,tA,dW,hmc]
 rw[if_neg (by simp;omega)]
 have jq:=zlc 0 cs (zl ta++ [Value.pointer none,Value.pointer none,Value.int .i64 0]).toArray (by simp;omega)
 congr 1
 apply Array.toList_inj.1
 rw[jq]
 simp only[List.take_zero,List.nil_append,Nat.zero_add]
 rw[eg,<-EE,List.drop_left]
theorem aaW(hE:aj P E){X0:ar}(hx:Ext X0 X)(hr:Rel X s a){ops:Array Oper}{k:Nat}{oB oX oA:Oper}(hB:ops[k]? =some oB)(hX:ops[k+1]? =some oX)(hA:ops[k+2]? =some oA){s':State}(h:oh E oB oX oA s some=some s'){Q:Exit->Act->World->Prop}(hQ:∀Y a',Ext X0 Y->Rel Y s' a'->Q .normal a' Y.w):wpOps P ops Q [k,k+1,k+2] a X.w:=by
 unfold oh at h
 split at h
 case h_2=>cases h
 rename_i T parts T' e1 e2 hoB hoX PH
 split at h
 case h_2=>cases h
 rename_i d1 d2 d3 x4 oJ hd3
 cases fA:(Nat.beq T T'&&(Nat.beq d1 e1&&(Nat.beq d2 e2&&(isDst oB d1&&(isDst oX d2&&(isDst oA d3&&(Nat.ble (d1+1) s.sl.length&&Nat.ble (d2+1) s.sl.length))))))) with
 |false=>rw[fA] at h;cases h
 |true=>
 rw[fA,cond_true] at h
 simp only[Bool.and_eq_true] at fA
 obtain⟨Pd,tn,tu,hB1,hX1,hA1,PT,Et⟩:=fA
 have Pd:=Nat.eq_of_beq_eq_true Pd
 have tn:=Nat.eq_of_beq_eq_true tn
 have tu:=Nat.eq_of_beq_eq_true tu
 subst Pd tn tu
 split at h
 case h_2=>cases h
 rename_i x ta tb l4 x9
 obtain⟨y,h,hy⟩:=zt h
 split at h
 case h_2=>cases h
 rename_i gD
 cases h
 have l4:parts= #[(0,x)]:=by rw[<-Array.toArray_toList (xs:=parts),l4]
 subst l4
 obtain⟨cs,jz,O0⟩:=hy X _ _ (hr.aF x)
 have PV:d1<a.tmps.size:=by rw[<-hr.size];exact Nat.le_of_ble_eq_true PT
 have PW:d2<a.tmps.size:=by rw[<-hr.size];exact Nat.le_of_ble_eq_true Et
 have Ep:(execOp a.eval oB).run P X.w= .ok (.value (.agg (cs++ [Value.pointer none,Value.pointer none,Value.int .i64 0]).toArray)) X.w:=by
  have:=Vr (X:=X) hE x9 jz X.w
  simp only[execOp,hoB,Sem.run_bind]
  have e:(#[((0:Nat),x)].map fun(i,x)=>(i,a.eval x))= #[(0,dk ta cs)]:=by simp [O0]
  rw[e,this]
  rfl
 refine raw hB hB1 Ep ?_
 have dV:Rel X (s.ap (some d1) [.undef]) (a.put (some d1) (.agg (cs++ [Value.pointer none,Value.pointer none,Value.int .i64 0]).toArray)):=hr.put (fun _ _=>trivial) (fun id t p hm=>by simp at hm)
 have IM:(a.put (some d1) (.agg (cs++ [Value.pointer none,Value.pointer none,Value.int .i64 0]).toArray)).eval (.tmp d1)= .agg (cs++ [Value.pointer none,Value.pointer none,Value.int .i64 0]).toArray:=by
  show(a.put (some d1) _).tmps.getD d1 Go.undef=_
  rw[lD PV,if_pos rfl]
 have I8:(a.put (some d1) (.agg (cs++ [Value.pointer none,Value.pointer none,Value.int .i64 0]).toArray)).tmps.size=a.tmps.size:=ot
 generalize a.put (some d1) (.agg (cs++ [Value.pointer none,Value.pointer none,Value.int .i64 0]).toArray)=a1 at dV IM I8⊢
 let β:Nat->Option Nat:=fun id=>if id=d2+1 then some X.w.heap.size else X.β id
 have DV:(s.ap (some d1) [.undef]).bs[d2+1]? =some none:=gD
 have aw:d2+1<s.bs.length:=(List.getElem?_eq_some_iff.1 gD).1
 have hk:dO (s.ap (some d1) [.undef]) X (X.new (cs++ [Value.pointer none,Value.pointer none,Value.int .i64 0]).toArray T (.box (d2+1)) β):=Hz X _ _ _ _ _ (by show(if _ then _ else _)=_;rw[if_neg (by omega)]) (fun id B hB=>by
  show(if id=d2+1 then _ else _)=_
  rw[if_neg (fun e=>by rw[e,DV] at hB;cases hB)])
 obtain⟨n1,n2⟩:=Ht X (cs++ [Value.pointer none,Value.pointer none,Value.int .i64 0]).toArray T (.box (d2+1)) β
 have Es:(execOp a1.eval oX).run P X.w= .ok (.value (.pointer (some ⟨X.w.heap.size,0,none⟩))) (X.new (cs++ [Value.pointer none,Value.pointer none,Value.int .i64 0]).toArray T (.box (d2+1)) β).w:=by
  simp only[execOp,hoX,Sem.run_bind,Instr.box,IM,Hm,Result.andThen_ok,Sem.run_pure]
  rfl
 refine RN hX hX1 Es ?_
 have bp:bk (X.new (cs++ [Value.pointer none,Value.pointer none,Value.int .i64 0]).toArray T (.box (d2+1)) β) (d2+1) X.w.heap.size ⟨.aI .bE ta tb,(y,(none,none),(0:Int)),[]::iY⟩:=
  ⟨n2,⟨_,n1⟩,fun _=>⟨cs,.pointer none,.pointer none,T,n1,jz.ag (fun _ _=>hk.ax),rfl,rfl⟩⟩
 have hβd:β (d2+1)=some X.w.heap.size:=by show(if d2+1=d2+1 then _ else _)=_;rw[if_pos rfl]
 have eG:=((dV.cS hk).ej (d:=d2+1) aw DV hβd bp).dead d2 (.pointer (some ⟨X.w.heap.size,0,none⟩))
 have ev2:(a1.put (some d2) (.pointer (some ⟨X.w.heap.size,0,none⟩))).eval (.tmp d2)= .pointer (some ⟨X.w.heap.size,0,none⟩):=by
  show(a1.put (some d2) _).tmps.getD d2 Go.undef=_
  rw[lD (show d2<a1.tmps.size by rw[I8];exact PW),if_pos rfl]
 generalize a1.put (some d2) (.pointer (some ⟨X.w.heap.size,0,none⟩))=a2 at eG ev2⊢
 have qE:(execOp a2.eval oA).run P (X.new (cs++ [Value.pointer none,Value.pointer none,Value.int .i64 0]).toArray T (.box (d2+1)) β).w= .ok (.value (.pointer (some ⟨X.w.heap.size,0,none⟩))) (X.new (cs++ [Value.pointer none,Value.pointer none,Value.int .i64 0]).toArray T (.box (d2+1)) β).w:=by
  simp only[execOp,PH,Sem.run_bind,ev2,Sem.run_pure,Result.andThen_ok]
 refine raw hA hA1 qE ?_
 refine hQ (X.new _ T (.box (d2+1)) β) _ (hx.trans hk.ext) (eG.put (fun d' e=> ?_) fun id t p hm=> ?_)
 ·exact⟨X.w.heap.size,hβd,rfl,trivial⟩
 ·have:id=d2+1:=by have:=hm;simp at this;exact this.1
  subst this
  exact⟨⟨.aI .bE ta tb,(y,(none,none),(0:Int)),[]::iY⟩,by simp [State.az,State.ap,Ref.dead,List.getElem?_set,aw]⟩
theorem YR(hE:aj P E){C:af}(hC:C.Nat)(hf:∀f,cG P C f){X0:ar}(hx:Ext X0 X)(hr:Rel X s a){id:Nat}{ops:Array Oper}{s':State}(h:A0 E (C State) ops.toList s some=some s'){Q:Exit->Act->World->Prop}(hQ:∀Y a',Ext X0 Y->Rel Y s' a'->Q .normal a' Y.w):(Code.region id ops false).wp P Q a X.w:=by
 unfold A0 at h
 split at h
 case h_2=>cases h
 rename_i l oB oX oA hl
 obtain⟨s1,h1,h2⟩:=zz (zR hC (F:=fun s=>oh E oB oX oA s some) (G:=some) (K:=fun s=>oh E oB oX oA s some) (fun _=>rfl) l s) h
 have fB:=zec hl
 have bN:ops.size=l.length+3:=by rw[<-Array.length_toList,fB];simp
 refine wp_region ?_
 have ix:List.range ops.size=List.range l.length++ [l.length,l.length+1,l.length+2]:=by
  rw[bN,List.range_succ,List.range_succ,List.range_succ,List.append_assoc,List.append_assoc];rfl
 rw[ix]
 have cc:∀j,ops[l.length+j]? =[oB,oX,oA][j]? :=fun j=>by rw[<-Array.getElem?_toList,fB,List.getElem?_append_right (by omega),Nat.add_sub_cancel_left]
 have iT:(List.range l.length).map (fun i=>ops.getD i default)=l:=by
  apply List.ext_getElem?
  intro i
  rw[List.getElem?_map]
  by_cases hi:i<l.length
  ·have h3:ops[i]? =l[i]? :=by rw[<-Array.getElem?_toList,fB,List.getElem?_append_left hi]
   have h4:i<ops.size:=by omega
   rw[List.getElem?_range hi,<-h3]
   simp [h4]
  ·rw[List.getElem?_eq_none (by simpa using hi),List.getElem?_eq_none (by omega)];rfl
 refine zlm hE hC hf (List.range l.length) X s a hr (fun i hi=>by have:=List.mem_range.1 hi;omega) (by rw[iT];exact h1) fun Y a' aT bg=> ?_
 exact aaW hE (hx.trans aT) bg (cc 0) (cc 1) (cc 2) h2 hQ
theorem Fh{Y:ar}{id:Nat}{pl:Nat->List Nat->Place}{l:List SV}{v:Value}(hr:ct Y pl l v):ct Y pl (jW id l) v:=by
 have key:∀(sv:SV) (q:List Nat->Place) (w:Value),ay Y q sv w->ay Y q (match sv with
  | .ptr j _ _=>bif Nat.beq j id then .undef else sv
  |v=>v) w:=by
  intro sv q w h
  cases sv with
  |ptr j t p=>
   simp only
   cases Nat.beq j id with
   |true=>trivial
   |false=>exact h
  |_=>exact h
 match l,hr with
 | [sv],hr=>exact key sv _ _ hr
 | [],hr=>exact hr
 |x::y::r,⟨vs,h1,h2,h3⟩=>
  refine⟨vs,h1,by simpa [jW] using h2,fun j s u hs hu=> ?_⟩
  have hs:(jW id (x::y::r))[j]? =some s:=hs
  unfold jW at hs
  rw[List.getElem?_map] at hs
  obtain⟨s0,dW,rfl⟩:=Option.map_eq_some_iff.1 hs
  exact key s0 _ _ (h3 j s0 u dW hu)
theorem Gp{id:Nat}{l:List SV}{j:Nat}{t:Ty}{p:List Nat}(h:SV.ptr j t p∈jW id l):SV.ptr j t p∈l/\j≠id:=by
 unfold jW at h
 obtain⟨s0,dW,he⟩:=List.mem_map.1 h
 cases s0 with
 |ptr j' t' p'=>
  simp only at he
  cases hb:Nat.beq j' id with
  |true=>rw[hb] at he;cases he
  |false=>
   rw[hb] at he
   cases he
   exact⟨dW,fun e=>Nat.ne_of_beq_eq_false hb e⟩
 |_=>simp only at he;cases he
theorem zw0{id:Nat}{l:List SV}{i j:Nat}{a b:Ty}(h:SV.bh i a b j∈jW id l):SV.bh i a b j∈l/\(l=[.bh i a b j]->jW id l=[.bh i a b j]):=by
 refine⟨?_,fun e=>by rw[e];rfl⟩
 unfold jW at h
 obtain⟨s0,dW,he⟩:=List.mem_map.1 h
 cases s0 with
 |ptr j' t' p'=>
  simp only at he
  cases hb:Nat.beq j' id<;>rw[hb] at he<;>cases he
 |_=>simp only at he;first|(cases he;done)|(rw[<-he];exact dW)
def uv(id m j g:Nat)(X:ar)(q:Nat):Ow:=
 if q=g then .row (.b id [j]) 0 else match X.ow q with
  | .row (.b m' p) n=>if m'=m then .row (.b id (j::p)) n else .row (.b m' p) n
  |w=>w
theorem SA{id m j g q i:Nat}(hg:∃b,X.ow g= .box b):(uv id m j g X q).used i↔(X.ow q).used i:=by
 unfold uv
 split
 ·rename_i e
  obtain⟨b,hb⟩:=hg
  rw[e,hb]
  simp [Ow.used]
 ·cases hq:X.ow q with
  |row pl n=>
   cases pl with
   |b m' p=>simp only;split<;>rfl
   |_=>rfl
  |_=>rfl
theorem Sz{id m j g q:Nat}(bB:q≠g)(h:∀p n,X.ow q≠ .row (.b m p) n):uv id m j g X q=X.ow q:=by
 unfold uv
 rw[if_neg bB]
 cases hq:X.ow q with
 |row pl n=>
  cases pl with
  |b m' p=>
   simp only
   rw[if_neg (fun e=>h p n (by rw[hq,e]))]
  |_=>rfl
 |_=>rfl
theorem Tn{T:TypeId}(hE:aj P E)(nn:E.pt T=true){r off:Nat}{cur:Array Value}{T':TypeId}{w:World}{v:Value}(hv:v.cells= #[v])(ho:v.oneCell'=true)(hg:w.heap[r]? =some (.cells cur T' (0,0)))(hf:off+1<=cur.size):
 (storeVar T ⟨r,off,none⟩ v).run P w= .ok () (w.setRow r (cur.toList.take off++ [v]++cur.toList.drop (off+1)).toArray):=by
 obtain⟨i,hi,hs⟩:=hE.p1 T nn
 have bL:=run_storeCells_at P r off T' [v] 0 cur w hg (by simpa using hf) (fun u hu=>by
  have:u=v:=by simpa using hu
  rw[this];exact ho)
 simp only[Nat.add_zero] at bL
 have fR:(sizeOf T).run P w= .ok 1 w:=by simp [sizeOf,typeInfo,hi,hs]
 unfold storeVar
 simp only[Sem.run_bind,fR,Result.andThen_ok,hv]
 rw[if_neg (by simp)]
 exact bL
theorem Y4{c:List Value}{p0 p1 n v:Value}{k j:Nat}(hk:c.length=k)(hj:j<2):(c++ [p0,p1,n]).take (k+j)++ [v]++(c++ [p0,p1,n]).drop (k+j+1)=c++ [if j=0 then v else p0,if j=1 then v else p1,n]:=by
 subst hk
 match j,hj with
 |0,_=>simp
 |1,_=>
  rw[List.take_append,List.drop_append]
  simp [List.take_of_length_le]
  rw[List.drop_eq_nil_of_le (by omega),show c.length+1+1-c.length=2 by omega]
  rfl
theorem YN(hE:aj P E)(hr:Rel X s a){oS:Oper}{s':State}(h:iD E oS s some=some s'):(oS.dst=none/\oS.guard=none)/\(∀i,s.slot i=[.undef]->s'.slot i=[.undef])/\∃Z,(execOp a.eval oS).run P X.w= .ok .skip Z.w/\Ext X Z/\Rel Z s' a:=by
 unfold iD at h
 split at h
 case h_2=>cases h
 rename_i T tx ty ho
 cases lA:jv oS with
 |false=>rw[lA] at h;cases h
 |true=>
 rw[lA,cond_true] at h
 have jo:oS.dst=none/\oS.guard=none:=by
  unfold jv at lA
  split at lA
  ·exact⟨by assumption,by assumption⟩
  ·cases lA
 refine⟨jo,?_⟩
 split at h
 case isFalse=>cases h
 rename_i nn
 split at h
 case h_2=>cases h
 rename_i id ta tb j Ev
 have hx:=hr.slot tx
 rw[Ev] at hx
 obtain⟨rr,hβ,hv,hj⟩:ay X (.c tx 0) (.ptr id (.aI .bE ta tb) [1,j]) (a.tmps.getD tx Go.undef):=hx
 have hv:a.tmps.getD tx Go.undef= .pointer (some ⟨rr,ta.cells+j,none⟩):=hv
 have hj:j<2:=hj
 have O0:a.eval (.tmp tx)= .pointer (some ⟨rr,ta.cells+j,none⟩):=hv
 obtain⟨z,own,r1,hb,h,bG,h1,how,c,p0,p1,T',aC,aK,oL,oM⟩:=An hr h
 rw[hβ] at h1
 cases h1
 cases fx:zx own [] with
 |false=>rw[fx] at h;cases h
 |true=>
 rw[fx,cond_true] at h
 have fx:=wE fx
 have eg:=aK.len
 have cM:ta.cells+j+1<=(c++ [p0,p1,Value.int .i64 z.2.2]).toArray.size:=by simp;omega
 have aR:∀v,v.cells= #[v]->v.oneCell'=true->a.eval (.tmp ty)=v->(execOp a.eval oS).run P X.w= .ok .skip (X.row rr (c++ [if j=0 then v else p0,if j=1 then v else p1,Value.int .i64 z.2.2]).toArray).w:=fun v h1 h2 h3=>by
  have bL:=Tn (P:=P) hE nn h1 h2 aC cM
  rw[Y4 eg hj] at bL
  simp only[execOp,ho,Sem.run_bind,Instr.storeAt,O0,Instr.sureAddr,Sem.run_pure,Result.andThen_ok,h3,bL]
  rfl
 split at h
 case h_3=>cases h
 case h_2=>
  rename_i Ew
  cases h
  have hy:=hr.slot ty
  rw[Ew] at hy
  have hy:a.tmps.getD ty Go.undef= .pointer none:=hy
  have aR:=aR (.pointer none) rfl rfl hy
  generalize fy:(c++ [if j=0 then Value.pointer none else p0,if j=1 then Value.pointer none else p1,Value.int .i64 z.2.2]).toArray=new at aR
  refine⟨fun i hi=>hi,X.row rr new,aR,Ar how,hr.row hb hβ how ⟨how,⟨_,setRow_heap X.w rr _ _ T' (0,0) aC⟩,fun _=> ?_⟩ (.inr fx)⟩
  have hg:∀k,∀{m:Option (El tb)} {v:Value},cU X (fun p=> .b id (k::p)) tb m v->cU (X.row rr new) (fun p=> .b id (k::p)) tb m v:=fun k m v hm=>hm.move (fun _ _=>ko how) fun p _ q o n hq hw=>by
   have bB:q≠rr:=fun e=>by rw[e,how] at hw;cases hw
   exact⟨(setRow_other X.w rr q _ bB).trans hq,hw⟩
  refine⟨c,if j=0 then Value.pointer none else p0,if j=1 then Value.pointer none else p1,T',?_,aK.ag (fun _ _=>ko how),?_,?_⟩
  ·rw[fy];exact setRow_heap X.w rr _ _ T' (0,0) aC
  ·match j,hj with
   |0,_=>rfl
   |1,_=>exact hg 0 oL
  ·match j,hj with
   |0,_=>exact hg 1 oM
   |1,_=>rfl
 rename_i m RT Ew
 split at h
 case h_2=>cases h
 rename_i B hB
 split at h
 case isFalse=>cases h
 rename_i de
 cases fA:(RT.bV tb&&(!tb.bn&&(zx B.own [2]&& !(Nat.beq id m)))) with
 |false=>rw[fA] at h;cases h
 |true=>
 rw[fA,cond_true] at h
 cases h
 simp only[Bool.and_eq_true,Bool.not_eq_true'] at fA
 obtain⟨ht,dw,Ee,AR⟩:=fA
 have:=Ty.aH ht
 subst this
 have AR:id≠m:=fun e=>by rw[e] at AR;simp at AR
 have hbm:=nw hB
 obtain⟨g,hβm,ql⟩:=hr.boxes m B hbm
 obtain⟨bt,bx,bo⟩:=B
 have e:=Ty.aH de
 simp only at e
 subst e
 obtain⟨csg,Tg,Pr,PR,kj,P0⟩:=ql.cells dw
 have hy:=hr.slot ty
 rw[Ew] at hy
 obtain⟨g',hβ',PZ⟩:ay X (.c ty 0) (.ptr m bt []) (a.tmps.getD ty Go.undef):=hy
 rw[hβm] at hβ'
 cases hβ'
 have PZ:a.tmps.getD ty Go.undef= .pointer (some ⟨g,0,none⟩):=by
  have:=((nv dw).1 PZ).1
  rw[this];simp [Ty.off]
 have x9:g≠rr:=fun e=>by rw[e,how] at kj;injection kj with kj;exact AR kj
 generalize fy:(c++ [if j=0 then Value.pointer (some ⟨g,0,none⟩) else p0,if j=1 then Value.pointer (some ⟨g,0,none⟩) else p1,Value.int .i64 z.2.2]).toArray=new at*
 have aR:=aR (.pointer (some ⟨g,0,none⟩)) rfl rfl PZ
 rw[fy] at aR
 let Z:ar:=⟨(X.row rr new).w,uv id m j g X,X.β⟩
 have cN:∀q,q≠rr->Z.w.heap[q]? =X.w.heap[q]? :=fun q hq=>setRow_other X.w rr q _ hq
 have dy:∀ad v,X.ax ad v->Z.ax ad v:=fun ad v hs=>by
  have bB:ad.block≠rr:=fun e=>by
   have:=hs.2.2
   rw[e,how] at this
   exact this
  refine⟨hs.1,?_,(SA ⟨m,kj⟩).2 hs.2.2⟩
  have:=hs.2.1
  simp only[World.cell?] at this⊢
  rw[cN _ bB];exact this
 have gF:∀q,q≠g->(∀p n,X.ow q≠ .row (.b m p) n)->Z.ow q=X.ow q:=fun q h1 h2=>Sz h1 h2
 have bp:∀q b,b≠m->X.ow q= .box b->Z.ow q= .box b:=fun q b hb hq=>by
  rw[gF q (fun e=>by rw[e,kj] at hq;injection hq with hq;exact hb hq.symm) (fun p n e=>by rw[hq] at e;cases e)]
  exact hq
 have yj:∀q pl n,X.ow q= .row pl n->(∀p,pl≠ .b m p)->Z.ow q= .row pl n:=fun q pl n hq hp=>by
  rw[gF q (fun e=>by rw[e,kj] at hq;cases hq) (fun p n' e=>by rw[hq] at e;injection e with e _;exact hp p e)]
  exact hq
 have DS:∀{pl:Place} {e:TypeId} {k n:Nat} {v:Value},(∀p,pl≠ .b m p)->bf X pl e k n v->bf Z pl e k n v:=fun hp ho=>by
  rcases ho with ho|⟨q,cap,cur,k1,k2,k3,k4,k5,k6⟩
  ·exact .inl ho
  ·exact .inr ⟨q,cap,cur,k1,(cN q (fun e=>by rw[e,how] at k6;cases k6)).trans k2,k3,k4,k5,yj q _ _ k6 hp⟩
 have vL:∀k,∀{x:Option (El bt)} {v:Value},cU X (fun p=> .b id (k::p)) bt x v->cU Z (fun p=> .b id (k::p)) bt x v:=fun k x v hm=>hm.move dy fun p _ q o n hq hw=>⟨(cN q (fun e=>by rw[e,how] at hw;cases hw)).trans hq,yj q _ _ hw (fun p' e=>by injection e with e _;exact AR e)⟩
 have cD:cU Z (fun p=> .b id (j::p)) bt (some bx) (.pointer (some ⟨g,0,none⟩)):=by
  refine⟨g,csg,Tg,rfl,(cN g x9).trans Pr,by show uv id m j g X g=_;simp [uv],PR.ag dy,fun p hp=> ?_⟩
  have:p=[2]:=by simpa [wQ] using hp
  subst this
  obtain⟨e,t',xs,v,g0,g1,g2,g3⟩:=P0 [2] (wE Ee)
  refine⟨e,t',xs,v,g0,g1,g2,?_⟩
  rcases g3 with g3|⟨q,cap,cur,k1,k2,k3,k4,k5,k6⟩
  ·exact .inl g3
  ·refine .inr ⟨q,cap,cur,k1,(cN q (fun e=>by rw[e,how] at k6;cases k6)).trans k2,k3,k4,k5,?_⟩
   show uv id m j g X q=_
   unfold uv
   rw[if_neg (fun e=>by rw[e,kj] at k6;cases k6),k6]
   simp
 have ya:fJ Z rr (.b id) ta bt (z.1,fE j (some bx) z.2.1,z.2.2):=by
  refine⟨c,if j=0 then Value.pointer (some ⟨g,0,none⟩) else p0,if j=1 then Value.pointer (some ⟨g,0,none⟩) else p1,T',?_,aK.ag dy,?_,?_⟩
  ·rw[fy];exact setRow_heap X.w rr _ _ T' (0,0) aC
  ·match j,hj,cD with
   |0,_,cD=>exact cD
   |1,_,_=>exact vL 0 oL
  ·match j,hj,cD with
   |0,_,_=>exact vL 1 oM
   |1,_,cD=>exact cD
 have Eh:=hr.l8 hb (.inr fx)
 have Ei:=hr.l8 hbm (.inl (Ie dw))
 have aT:Ext X Z:=⟨dy,by show X.w.heap.size<=(X.row rr new).w.heap.size;simp [ar.row],rfl,rfl,rfl,rfl,fun q hq bL=>⟨gF q (fun e=>by rw[e,kj] at bL;exact bL) (fun p n e=>by rw[e] at bL;exact bL),cN q (fun e=>by rw[e,how] at bL;exact bL)⟩⟩
 have D4:id<s.bs.length:=(List.getElem?_eq_some_iff.1 hb).1
 refine⟨fun i hi=> ?_,Z,aR,aT,by simpa [kZ] using hr.size,by simpa [kZ] using hr.fh,fun i l v hl hx=> ?_,fun aV B' dC=> ?_,fun i l aV t p hl hm=> ?_,hr.defers,hr.bh.less (fun i l od c2 d2 k hl hm=> ?_) (fun od c2 d2 x2 iI hex ki PG=> ?_)⟩
 ·by_cases aw:i<s.sl.length
  ·have:=nz aw
   rw[hi] at this
   simp [kZ,State.slot,this,jW]
  ·simp [kZ,State.slot,List.getElem?_eq_none (Nat.le_of_not_lt aw)]
 ·replace hl:(s.sl.map (jW m))[i]? =some l:=hl
  rw[List.getElem?_map] at hl
  obtain⟨l0,h0,rfl⟩:=Option.map_eq_some_iff.1 hl
  refine Fh ((hr.bC i l0 v h0 hx).gg fun k sv u hk hu=> ?_)
  cases sv with
  |undef=>trivial
  |skip=>exact hu
  |cj=>exact hu
  |dF=>exact hu
  |over=>exact hu
  |ai t x own=>
   obtain⟨cs,q1,q2,q3⟩:=hu
   refine⟨cs,q1.ag dy,q2,fun p hp=> ?_⟩
   obtain⟨e,t',xs,v,g0,g1,g2,g3⟩:=q3 p hp
   exact⟨e,t',xs,v,g0,g1,g2,DS (fun p' e=>by cases e) g3⟩
  |ptr aV t p=>exact hu
  |view t x=>
   obtain⟨ad,cs,q1,q2,q3,q4⟩:=hu
   exact⟨ad,cs,q1,q2,q3.ag dy,fun i u hi=>dy _ _ (q4 i u hi)⟩
  |cap f t x u y=>exact z21 dy hu
  |bh aV c' d' n=>
   obtain⟨r',q1,q2,q3⟩:=hu
   have bB:aV≠id:=fun e=>Eh i l0 c' d' n h0 (e▸List.mem_of_getElem? hk)
   have hnm:aV≠m:=fun e=>Ei i l0 c' d' n h0 (e▸List.mem_of_getElem? hk)
   refine⟨r',q1,bp r' aV hnm q2,?_⟩
   simp only[World.cell?] at q3⊢
   rw[cN r' (fun e=>by rw[e,how] at q2;injection q2 with q2;exact bB q2.symm)]
   exact q3
 ·replace dC:((s.bs.set m none).set id (some ⟨.aI .bE ta bt,(z.1,fE j (some bx) z.2.1,z.2.2),own⟩))[aV]? =some (some B'):=dC
  rw[List.getElem?_set] at dC
  by_cases e1:id=aV
  ·subst e1
   rw[if_pos rfl,if_pos (by simpa using D4)] at dC
   cases dC
   exact⟨rr,hβ,bp rr id AR how,⟨_,setRow_heap X.w rr _ _ T' (0,0) aC⟩,fun _=>ya⟩
  ·rw[if_neg e1,List.getElem?_set] at dC
   by_cases e2:m=aV
   ·rw[if_pos e2] at dC
    split at dC<;>cases dC
   ·rw[if_neg e2] at dC
    obtain⟨r',q1,q2,q3⟩:=hr.boxes aV B' dC
    have bB:r'≠rr:=fun e=>by rw[e,how] at q2;injection q2 with q2;exact e1 q2
    exact⟨r',q1,bp r' aV (fun e=>e2 e.symm) q2,q3.move dy (cN r' bB) (fun cs ho p hp=>by
     obtain⟨e,t',xs,v,g0,g1,g2,g3⟩:=ho p hp
     exact⟨e,t',xs,v,g0,g1,g2,DS (fun p' e=>by injection e with e _;exact e2 e.symm) g3⟩) fun p _ q o n hq hw=>⟨(cN q (fun e=>by rw[e,how] at hw;cases hw)).trans hq,yj q _ _ hw (fun p' e=>by injection e with e _;exact e2 e.symm)⟩⟩
 ·replace hl:(s.sl.map (jW m))[i]? =some l:=hl
  rw[List.getElem?_map] at hl
  obtain⟨l0,h0,rfl⟩:=Option.map_eq_some_iff.1 hl
  obtain⟨hm,bB⟩:=Gp hm
  obtain⟨B2,cE⟩:=hr.live i l0 aV t p h0 hm
  show∃B,((s.bs.set m none).set id (some ⟨.aI .bE ta bt,(z.1,fE j (some bx) z.2.1,z.2.2),own⟩))[aV]? =some (some B)
  rw[List.getElem?_set]
  by_cases e1:id=aV
  ·rw[if_pos e1,if_pos (by simpa using D4)];exact⟨_,rfl⟩
  ·rw[if_neg e1,List.getElem?_set,if_neg (fun e=>bB e.symm)];exact⟨B2,cE⟩
 ·replace hl:(s.sl.map (jW m))[i]? =some l:=hl
  rw[List.getElem?_map] at hl
  obtain⟨l0,h0,rfl⟩:=Option.map_eq_some_iff.1 hl
  obtain⟨g1,g2⟩:=zw0 hm
  exact⟨l0,h0,g1,g2⟩
 ·obtain⟨i,l,k,hl,hm⟩:=hex
  replace hl:(s.sl.map (jW m))[i]? =some l:=hl
  rw[List.getElem?_map] at hl
  obtain⟨l0,h0,rfl⟩:=Option.map_eq_some_iff.1 hl
  obtain⟨g1,_⟩:=zw0 hm
  refine⟨x2,iI,?_,PG⟩
  show((s.bs.set m none).set id (some ⟨.aI .bE ta bt,(z.1,fE j (some bx) z.2.1,z.2.2),own⟩))[od]? =_
  rw[List.getElem?_set,if_neg (show¬id=od from fun e=>Eh i l0 c2 d2 k h0 (by rw[e];exact g1)),List.getElem?_set,if_neg (show¬m=od from fun e=>Ei i l0 c2 d2 k h0 (by rw[e];exact g1))]
  exact ki
theorem zp5{α:Type}:∀{l r:List α} {x:α},MB l=some (r,x)->l=r++ [x]
 | [],_,_,h=>by cases h
 | [a],_,_,h=>by cases h;rfl
 |a::b::r,_,_,h=>by
  simp only[MB] at h
  split at h
  case h_2=>cases h
  rename_i l x hl
  cases h
  have:=zp5 (l:=b::r) hl
  rw[this];rfl
theorem zxu{n:Nat}{listed:Array Bool}(hs:n<=listed.size){i:Nat}{p q:List Nat}(h:rest n listed=p++i::q):rest n (listed.setIfInBounds i true)=p++q:=by
 have lA:(rest n listed).Nodup:=List.nodup_range.filter _
 rw[h] at lA
 rw[<-zos lA,<-h]
 simp only[rest,List.filter_filter]
 refine List.filter_congr fun j hj=> ?_
 have Pv:=List.mem_range.1 hj
 by_cases e:j=i
 ·subst e
  have:(listed.setIfInBounds j true).getD j true=true:=by
   have:j<listed.size:=by omega
   simp [Array.getD_eq_getD_getElem?,this]
  rw[this];simp
 ·have h1:(listed.setIfInBounds i true).getD j true=listed.getD j true:=by
   simp only[Array.getD_eq_getD_getElem?]
   rw[Array.getElem?_setIfInBounds_ne (fun h=>e h.symm)]
  have h2:Nat.beq j i=false:=by
   cases hh:Nat.beq j i with
   |false=>rfl
   |true=>exact absurd (Nat.eq_of_beq_eq_true hh) e
  rw[h1,h2];simp
theorem Tc{n:Nat}{listed:Array Bool}{i:Nat}(h:n<=i):rest n (listed.setIfInBounds i true)=rest n listed:=by
 simp only[rest]
 refine List.filter_congr fun j hj=> ?_
 have Pv:=List.mem_range.1 hj
 simp only[Array.getD_eq_getD_getElem?]
 rw[Array.getElem?_setIfInBounds_ne (by omega)]
theorem zxv{n:Nat}{listed:Array Bool}(hs:listed.size=n+1):rest (n+1) listed=rest n listed++(if listed.getD n true=true then [] else [n]):=by
 simp only[rest,List.range_succ,List.filter_append]
 congr 1
 cases h:listed.getD n true with
 |false=>
  rw[if_neg (by simp)]
  simp only[List.filter_cons,h,Bool.not_false,if_true,List.filter_nil]
 |true=>
  rw[if_pos rfl]
  simp only[List.filter_cons,h,Bool.not_true,Bool.false_eq_true,if_false,List.filter_nil]
theorem zpb{ops:Array Oper}(n8:∀k,k<ops.size->Nat.ble (rB ops k+1) (bit k)=true){listed:Array Bool}(hs:listed.size=ops.size)(hr:Region.ready .any ops listed=[]):rest ops.size listed=[]:=by
 rcases hl:rest ops.size listed with _|⟨i,r⟩
 ·rfl
 have cD:i∈rest ops.size listed:=by rw[hl];simp
 have cP:=List.mem_range.1 (List.mem_filter.1 cD).1
 have iy:i∈Region.ready .any ops listed:=by
  refine FI cD fun e he hb=> ?_
  have aw:e.on<i:=zwo (n8 i cP) (zdp _ e he hb)
  cases hx:listed.getD e.on false with
  |true=>rfl
  |false=>
   exfalso
   have fw:e.on<listed.size:=by omega
   have AY:listed.getD e.on true=false:=by
    simp only[Array.getD_eq_getD_getElem?,Array.getElem?_eq_getElem fw,Option.getD_some] at hx⊢
    exact hx
   have hm:e.on∈rest ops.size listed:=List.mem_filter.2 ⟨List.mem_range.2 (by omega),by rw[AY];rfl⟩
   have fS:(rest ops.size listed).Pairwise (· < ·):=List.pairwise_lt_range.filter _
   rw[hl] at fS hm
   rcases List.mem_cons.1 hm with e1|hm
   ·omega
   ·have:=(List.pairwise_cons.1 fS).1 _ hm
    omega
 rw[hr] at iy
 cases iy
theorem z131{o:Oper}{t j:Nat}(ho:o.op= .extract (.tmp t) j){vs:Array Value}(hv:a.tmps.getD t Go.undef= .tuple vs){v:Value}(hj:vs[j]? =some v)(w:World):(execOp a.eval o).run P w= .ok (.value v) w:=by
 have ev:a.eval (.tmp t)= .tuple vs:=hv
 simp [execOp,ho,ev,Instr.extract,hj]
structure BX(E:Env)(C:af)(ops:Array Oper)(n k t j d:Nat)(oS oD:Oper)(s1 s':State):Prop where
 size:ops.size=n+1
 last:ops[n]? =some oS
 DO:ops[k]? =some oD
 kn:k<n
 ext:oD.op= .extract (.tmp t) j
 dst:isDst oD d=true
 Qc:Nat.ble (zr oS.after.toList+1) (bit n)=true
 mask:gL ops.toList n (zr oS.after.toList)|||bit k=bit n-1
 low:∀i,i<n->Nat.ble (rB ops i+1) (bit i)=true
 len:j<(s1.slot t).length
 tup:(s1.slot t).length≠1
 link:iD E oS (s1.ap (some d) [.undef]) some=some s'
theorem V9{m n k i:Nat}(h:m|||bit k=bit n-1)(hi:i<n)(hk:i≠k):m.testBit i=true:=by
 have h1:(m|||bit k).testBit i=true:=by
  rw[h]
  simp only[bit,Nat.shiftLeft_eq,Nat.one_mul]
  rw[Nat.testBit_two_pow_sub_one]
  simpa using hi
 rw[Nat.testBit_or] at h1
 have h2:(bit k).testBit i=false:=by
  simp only[bit,Nat.shiftLeft_eq,Nat.one_mul]
  rw[Nat.testBit_two_pow]
  simp
  omega
 rw[h2,Bool.or_false] at h1
 exact h1
theorem Tj(c:List (Nat×Nat)):∀(s:State) (t:Nat),((s.close c).slot t).length=(s.slot t).length:=by
 induction c with
 |nil=>intro s t;rfl
 |cons x r ih=>
  intro s t
  obtain⟨i,j⟩:=x
  rw[z31,ih]
  simp only[State.bS,State.slot,List.getD_eq_getElem?_getD,List.getElem?_set]
  by_cases e:i=t
  ·subst e
   by_cases aw:i<s.sl.length
   ·rw[if_pos rfl,if_pos aw,List.getElem?_eq_getElem aw]
    simp [z66]
   ·rw[if_pos rfl,if_neg aw,List.getElem?_eq_none (by omega)]
  ·rw[if_neg e]
theorem VA{s:State}{d:Nat}(h:s.slot d=[.undef]):s.ap (some d) [.undef]=s:=by
 simp only[State.ap]
 have:s.sl.set d [.undef]=s.sl:=by
  apply List.ext_getElem?
  intro i
  rw[List.getElem?_set]
  by_cases e:d=i
  ·subst e
   by_cases aw:d<s.sl.length
   ·rw[if_pos rfl,if_pos aw,nz aw,h]
   ·rw[if_pos rfl,if_neg aw,List.getElem?_eq_none (by omega)]
  ·rw[if_neg e]
 rw[this]
theorem Tk(s:State)(d:Nat):(s.ap (some d) [.undef]).slot d=[.undef]:=by
 simp only[State.slot,State.ap,List.getD_eq_getElem?_getD,List.getElem?_set]
 by_cases aw:d<s.sl.length
 ·simp [aw]
 ·simp [aw]
theorem z130{C:af}{ops:List Oper}{o:Oper}{t j:Nat}(ho:o.op= .extract (.tmp t) j){u:Out}(h:act E (C Out) ops o s some=some u):u.bx=none/\u.v.length=1:=by
 unfold act at h
 simp only[ho] at h
 split at h
 ·split at h
  ·cases h;exact⟨rfl,rfl⟩
  ·cases h
 ·split at h<;>cases h<;>exact⟨rfl,rfl⟩
theorem aaV(hE:aj P E){C:af}(hC:C.Nat)(hf:∀f,cG P C f){ops:Array Oper}{n k t j d:Nat}{oS oD:Oper}{s1 s':State}(H:BX E C ops n k t j d oS oD s1 s'){Q:Exit->Act->World->Prop}:
 ∀(bY:Nat) (listed:Array Bool) (X:ar) (s:State) (a:Act) (tr:List dp),Rel X s a->p9 ops listed->listed.size=n+1->listed.getD n true=false->bY=(rest n listed).length+1->lP E C ops (rest n listed) s tr s1->tr.Pairwise (rW ops)->
  (∀Y a',Ext X Y->Rel Y s' a'->Q .normal a' Y.w)->wpAny P .any ops Q bY listed a X.w:=by
 have hgS:ops.getD n default=oS:=by
  have:=H.last
  simp only[Array.getD_eq_getD_getElem?,this,Option.getD_some]
 have hgD:ops.getD k default=oD:=by
  have:=H.DO
  simp only[Array.getD_eq_getD_getElem?,this,Option.getD_some]
 have n8:∀i,i<ops.size->Nat.ble (rB ops i+1) (bit i)=true:=fun i hi=>by
  rcases Nat.lt_or_ge i n with h|h
  ·exact H.low i h
  ·have:i=n:=by have:=H.size;omega
   subst this
   unfold rB
   rw[hgS]
   exact H.Qc
 intro bY
 induction bY with
 |zero=>intro listed X s a tr hr eg hs hn lz;omega
 |succ bY ih=>
  intro listed X s a tr hr eg hs hn lz dg rG hQ
  have hrs:rest ops.size listed=rest n listed++ [n]:=by rw[H.size,zxv hs,if_neg (by rw[hn];simp)]
  refine⟨fun fP=> ?_,fun i hi=> ?_⟩
  ·have:=zpb n8 (by rw[hs,H.size]) fP
   rw[hrs] at this
   simp at this
  ·obtain⟨Ed,n4⟩:=Bi hi
   have cD:=Ed
   rw[hrs] at cD
   rcases List.mem_append.1 cD with cD|cD
   ·obtain⟨p,q,tC⟩:=FN cD
    have cP:=List.mem_range.1 (List.mem_filter.1 cD).1
    rw[tC] at dg
    have jZ:=yY dg
    obtain⟨tp,f,tq,u,e1,e2,k1,k2,k3⟩:=zlp p s tr dg (fun tp f tq e hl a' vE=>by
     have qo:f.i=i:=by
      rw[e,List.map_append,List.map_cons] at jZ
      have:=List.append_inj jZ (by simp [hl])
      injection this.2
     have Pf:a'.i∈p:=by
      rw[e,List.map_append,List.map_cons] at jZ
      have:=List.append_inj jZ (by simp [hl])
      rw[<-this.1]
      exact List.mem_map.2 ⟨a',vE,rfl⟩
     rw[e] at rG
     have qq:=(List.pairwise_append.1 rG).2.2 a' vE f (by simp)
     rcases qq with hb|hb
     ·exfalso
      rw[qo] at hb
      obtain ew:=Jr eg _ _ (fun q hq=>by
       obtain⟨ed,tn,tu,D0⟩:=zH _ _ hq
       have:=n4 ed tn tu
       rw[D0] at this
       exact this) a'.i hb
      have bm:a'.i∈rest n listed:=by rw[tC];exact List.mem_append_left _ Pf
      have dn:=(List.mem_filter.1 bm).2
      have aw:=List.mem_range.1 (List.mem_filter.1 bm).1
      have fw:a'.i<listed.size:=by omega
      simp only[Array.getD_eq_getD_getElem?,Array.getElem?_eq_getElem fw,Option.getD_some] at ew dn
      rw[ew] at dn
      cases dn
     ·exact hb)
    have bm:=zxu (n:=n) (by omega) tC
    have Pt:ops[i]? =some (ops.getD i default):=by
     have:i<ops.size:=by rw[H.size];omega
     simp [this]
    refine MG hE hr hC hf Pt (zk7 hC k1) fun Y a' aT bg=> ?_
    refine ih (listed.setIfInBounds i true) Y _ a' (tp++tq) bg (FK eg fun q hq=>by
     obtain⟨ed,g1,g2,g3⟩:=zH _ _ hq
     have:=n4 ed g1 g2
     rw[g3] at this
     exact this) (by simp [hs]) ?_ ?_ (by rw[bm];exact k3) ?_ (fun Z a2 bR cJ=>hQ Z a2 (aT.trans bR) cJ)
    ·simp only[Array.getD_eq_getD_getElem?] at hn⊢
     rw[Array.getElem?_setIfInBounds_ne (by omega)]
     exact hn
    ·rw[bm]
     rw[tC] at lz
     simp only[List.length_append,List.length_cons] at lz⊢
     omega
    ·rw[e1] at rG
     obtain⟨a1,a2,a3⟩:=List.pairwise_append.1 rG
     exact List.pairwise_append.2 ⟨a1,(List.pairwise_cons.1 a2).2,fun x hx y hy=>a3 x hx y (List.mem_cons_of_mem _ hy)⟩
   ·have cP:i=n:=by simpa using cD
    subst cP
    have cI:∀q∈rest i listed,q=k:=fun q hq=>by
     obtain⟨h1,h2⟩:=List.mem_filter.1 hq
     have hqn:=List.mem_range.1 h1
     by_cases e:q=k
     ·exact e
     ·exfalso
      have ew:=Jr eg _ _ (fun q hq=>by
       obtain⟨ed,tn,tu,D0⟩:=zH _ _ hq
       have:=n4 ed (by rw[hgS];exact tn) tu
       rw[D0] at this
       exact this) q (V9 H.mask hqn e)
      have fw:q<listed.size:=by omega
      simp only[Array.getD_eq_getD_getElem?,Array.getElem?_eq_getElem fw,Option.getD_some] at ew h2
      rw[ew] at h2
      cases h2
    have lA:(rest i listed).Nodup:=List.nodup_range.filter _
    have bm:rest i listed=[]\/rest i listed=[k]:=by
     match hl:rest i listed,cI,lA with
     | [],_,_=>exact .inl rfl
     | [q],cI,_=>exact .inr (by rw[cI q (by simp)])
     |q::q'::r,cI,lA=>
      have h1:=cI q (by simp)
      have h2:=cI q' (by simp)
      have:=(List.nodup_cons.1 lA).1
      rw[h1,h2] at this
      simp at this
    have Ej:Rel X (s1.ap (some d) [.undef]) a/\(rest i listed=[k]->d≠t/\(s1.slot t).length=(s.slot t).length):=by
     rcases bm with bm|bm
     ·rw[bm] at dg
      obtain⟨rfl,_⟩:=dg
      exact⟨hr.kill d,fun e=>by rw[bm] at e;cases e⟩
     ·rw[bm] at dg
      match tr,dg with
      | [],dg=>exact dg.elim
      |f::tr,⟨u,h1,_,h3,_⟩=>
       rw[hgD] at h1 h3
       have DZ:oD.dst=some d/\oD.guard=none:=by
        have:=H.dst
        unfold isDst at this
        split at this
        ·rename_i d' h1 h2
         exact⟨by rw[h1,Nat.eq_of_beq_eq_true this],h2⟩
        ·cases this
       unfold dM at h1
       rw[DZ.2] at h1
       obtain⟨hbx,hvl⟩:=z130 H.ext h1
       rw[DZ.1] at h3
       have e:s1=(s.close u.cl).ap (some d) u.v:=by
        rw[<-h3]
        unfold State.apply
        rw[hbx]
        rfl
       have Pn:d≠t:=fun e2=>by
        have h5:=H.tup
        have h6:=H.len
        rw[e,e2] at h5 h6
        simp only[State.slot,State.ap,List.getD_eq_getElem?_getD,List.getElem?_set] at h5 h6
        by_cases aw:t<(s.close u.cl).sl.length
        ·simp [aw] at h5
         omega
        ·simp [aw] at h5
       refine⟨?_,fun _=>⟨Pn,?_⟩⟩
       ·have e3:s1.ap (some d) [.undef]=(s.close u.cl).ap (some d) [.undef]:=by
         rw[e]
         simp only[State.ap,List.set_set]
        rw[e3]
        exact(hr.close u.cl).kill d
       ·rw[e,<-Tj u.cl s t]
        simp only[State.slot,State.ap,List.getD_eq_getElem?_getD,List.getElem?_set]
        rw[if_neg Pn]
    obtain⟨cJ,D7⟩:=Ej
    obtain⟨jo,PY,Z,aR,aT,vP⟩:=YN hE cJ H.link
    have hud:=PY d (Tk s1 d)
    unfold wpOp
    simp only[H.last]
    have hw:Region.wanted oS (yielded ops a.tmps)=true:=by simp [Region.wanted,jo.2]
    rw[if_pos hw]
    refine .inl ?_
    unfold Oper.wp
    rw[aR,Oper.upon_skip,jo.1]
    show wpAny P .any ops Q bY (listed.setIfInBounds i true) a Z.w
    have yk:(listed.setIfInBounds i true).size=i+1:=by simpa using hs
    have eh:(listed.setIfInBounds i true).getD i true=true:=by
     have:i<listed.size:=by omega
     simp [Array.getD_eq_getD_getElem?,this]
    have tD:rest ops.size (listed.setIfInBounds i true)=rest i listed:=by
     rw[H.size,zxv yk,if_pos eh,List.append_nil,Tc (Nat.le_refl _)]
    rcases bm with bm|bm
    ·have:bY=0:=by rw[bm] at lz;simpa using lz
     subst this
     refine⟨?_,hQ Z a aT vP⟩
     rcases Ek:Region.ready .any ops (listed.setIfInBounds i true) with _|⟨q,r⟩
     ·rfl
     ·have:=(Bi (i:=q) (by rw[Ek];simp)).1
      rw[tD,bm] at this
      cases this
    ·have:bY=1:=by rw[bm] at lz;simpa using lz
     subst this
     refine⟨fun fP=> ?_,fun q hq=> ?_⟩
     ·have:=zpb n8 (by rw[yk,H.size]) fP
      rw[tD,bm] at this
      cases this
     ·have I0:=(Bi hq).1
      rw[tD,bm] at I0
      have I0:q=k:=by simpa using I0
      subst I0
      obtain⟨Pn,hlen⟩:=D7 bm
      have DZ:oD.dst=some d/\oD.guard=none:=by
       have:=H.dst
       unfold isDst at this
       split at this
       ·rename_i d' h1 h2
        exact⟨by rw[h1,Nat.eq_of_beq_eq_true this],h2⟩
       ·cases this
      have yl:∃vs:Array Value,a.tmps.getD t Go.undef= .tuple vs/\vs.size=(s.slot t).length:=by
       have fQ:=hr.slot t
       have h5:=H.tup
       rw[hlen] at h5
       match hq:s.slot t,fQ,h5 with
       | [],⟨vs,g1,g2,_⟩,_=>exact⟨vs,g1,by rw[g2]⟩
       | [x],_,h5=>simp at h5
       |x::y::r,⟨vs,g1,g2,_⟩,_=>exact⟨vs,g1,by rw[g2]⟩
      obtain⟨vs,hv,tE⟩:=yl
      have qs:j<vs.size:=by rw[tE,<-hlen];exact H.len
      have Er:=z131 (P:=P) H.ext hv (Array.getElem?_eq_getElem qs) Z.w
      unfold wpOp
      simp only[H.DO]
      have hw:Region.wanted oD (yielded ops a.tmps)=true:=by simp [Region.wanted,DZ.2]
      rw[if_pos hw]
      refine .inl ?_
      unfold Oper.wp
      rw[Er,Oper.upon_value,DZ.1]
      have x6:Rel Z s' (a.put (some d) vs[j]):=by
       have:=vP.dead d vs[j]
       rw[Ref.dead,VA hud] at this
       exact this
      refine⟨?_,hQ Z _ aT x6⟩
      have hkn:=H.kn
      have PS:rest ops.size ((listed.setIfInBounds i true).setIfInBounds q true)=[]:=by
       have:=zxu (n:=ops.size) (listed:=listed.setIfInBounds i true) (i:=q) (p:=[]) (q:=[]) (by rw[yk,H.size];exact Nat.le_refl _) (by rw[tD,bm];rfl)
       simpa using this
      rcases Ek:Region.ready .any ops ((listed.setIfInBounds i true).setIfInBounds q true) with _|⟨z,r⟩
      ·rfl
      ·have:=(Bi (i:=z) (by rw[Ek];simp)).1
       rw[PS] at this
       cases this
theorem VT(hE:aj P E)(hm:P.follows .mixedOrders=true){C:af}(hC:C.Nat)(hf:∀f,cG P C f){X0:ar}(hx:Ext X0 X)(hr:Rel X s a){id k:Nat}{ops:Array Oper}{s':State}(h:og E (C State) k ops.toList s some=some s'){Q:Exit->Act->World->Prop}(hQ:∀Y a',Ext X0 Y->Rel Y s' a'->Q .normal a' Y.w):(Code.region id ops true).wp P Q a X.w:=by
 unfold og at h
 split at h
 case h_2=>cases h
 rename_i l oS hl
 split at h
 case h_2=>cases h
 rename_i oD hoD
 split at h
 case h_2=>cases h
 rename_i t j d aT acW
 cases fA:(isDst oD d&&(Nat.ble (k+1) l.length&&(Nat.ble (zr oS.after.toList+1) (bit l.length)&&Nat.beq (gL ops.toList l.length (zr oS.after.toList)|||bit k) (bit l.length-1)))) with
 |false=>rw[fA] at h;cases h
 |true=>
 rw[fA,cond_true] at h
 simp only[Bool.and_eq_true] at fA
 obtain⟨hd,Pw,Ec,qw⟩:=fA
 have Pw:k<l.length:=Nat.le_of_ble_eq_true Pw
 have qw:=Nat.eq_of_beq_eq_true qw
 obtain⟨s1,h1,h2⟩:=zz (Ho hC (F:=fun s=>bif Nat.ble (j+1) (s.slot t).length&& !(Nat.beq (s.slot t).length 1) then iD E oS (s.ap (some d) [.undef]) some else none) (G:=some) (K:=fun s=>bif Nat.ble (j+1) (s.slot t).length&& !(Nat.beq (s.slot t).length 1) then iD E oS (s.ap (some d) [.undef]) some else none) (fun _=>rfl) l 0 s []) h
 cases hlen:(Nat.ble (j+1) (s1.slot t).length&& !(Nat.beq (s1.slot t).length 1)) with
 |false=>simp only[hlen] at h2;cases h2
 |true=>
 simp only[hlen,cond_true] at h2
 rw[Bool.and_eq_true] at hlen
 have fB:=zp5 hl
 have bN:ops.size=l.length+1:=by rw[<-Array.length_toList,fB];simp
 have kP:ops[l.length]? =some oS:=by rw[<-Array.getElem?_toList,fB,List.getElem?_append_right (Nat.le_refl _),Nat.sub_self];rfl
 have iT:(List.range l.length).map (fun i=>ops.getD i default)=l:=by
  apply List.ext_getElem?
  intro i
  rw[List.getElem?_map]
  by_cases hi:i<l.length
  ·have h3:ops[i]? =l[i]? :=by rw[<-Array.getElem?_toList,fB,List.getElem?_append_left hi]
   have h4:i<ops.size:=by omega
   rw[List.getElem?_range hi,<-h3]
   simp [h4]
  ·rw[List.getElem?_eq_none (by simpa using hi),List.getElem?_eq_none (by omega)];rfl
 obtain⟨tT,r1,_,r3,r4⟩:=z8k hC (List.range l.length) 0 s [] (fun j k hj=>by
  obtain⟨g1,g2⟩:=List.getElem?_eq_some_iff.1 hj
  simp at g2
  omega) (by rw[iT];exact h1)
 have H:BX E C ops l.length k t j d oS oD s1 s':=⟨bN,kP,by rw[<-Array.getElem?_toList];exact hoD,Pw,aT,hd,Ec,qw,fun i hi=>r4 i (List.mem_range.2 hi),Nat.le_of_ble_eq_true hlen.1,fun e=>by rw[e] at hlen;simp at hlen,h2⟩
 have hk:dO s X {X with w:={X.w with drawn:=X.w.drawn+1}}:=⟨Nat.le_refl _,rfl,rfl,rfl,fun g _=>⟨rfl,rfl⟩,rfl,fun _ _ _=>rfl⟩
 have bm:rest l.length (Array.replicate ops.size false)=List.range l.length:=by
  refine List.filter_eq_self.2 fun i hi=> ?_
  have:=List.mem_range.1 hi
  have h2:i<ops.size:=by omega
  simp [h2]
 refine wp_region_any hm ?_
 have lz:ops.size=(rest l.length (Array.replicate ops.size false)).length+1:=by rw[bm,bN];simp
 exact aaV hE hC hf H ops.size (Array.replicate ops.size false) _ s a tT (hr.cS hk) (fun i hi=>by
  by_cases h:i<ops.size<;>simp [h] at hi) (by simp [bN]) (by simp [bN]) lz (by rw[bm];exact r1) r3 (fun Y a' aT bg=>hQ Y a' (hx.trans (hk.ext.trans aT)) bg)
end Go.Ref

namespace Go.Ref
open Go
variable {P:Program} {E:Env} {X:ar} {s:State} {a:Act}
def Ex.exit':Ex->Exit
 | .normal=> .normal
 | .exit id=> .exit id
 | .ret=> .ret
theorem Wz{Q:Exit->Act->World->Prop}{c:Code}(I:Nat->Act->World->Prop)(round:∀n a w,I n a w->∃m,n=m+1/\c.wp P (Exit.then (I m) Q) a w){n:Nat}{a:Act}{w:World}(h₀:I n a w):(Code.loop c).wp P Q a w:=by
 intro b k cs
 have key:∀n a w,I n a w->∃e a' w',Q e a' w'/\Arrives P (lone (b.at a (.code c:: .inLoop c::k)) cs w) b k cs e a' w':=by
  intro n
  induction n with
  |zero=>intro a w h;obtain⟨m,hm,_⟩:=round 0 a w h;cases hm
  |succ n ih=>
   intro a w h
   obtain⟨m,hm,hr⟩:=round (n+1) a w h
   cases hm
   obtain⟨e,a₁,w₁,hq,kL⟩:=hr b (.inLoop c::k) cs
   cases e with
   |normal=>
    obtain⟨e₂,a₂,w₂,hq₂,harr₂⟩:=ih a₁ w₁ hq
    exact⟨e₂,a₂,w₂,hq₂,.of_steps (Steps.trans kL (.one step_inLoop)) harr₂⟩
   |exit id=>exact⟨_,a₁,w₁,hq,.pass (x:= .inLoop c) rfl (fun _ _=> .inl (by simp)) kL⟩
   |goto l=>exact⟨_,a₁,w₁,hq,.pass (x:= .inLoop c) rfl (fun _ _=> .inl (by simp)) kL⟩
   |ret=>exact⟨_,a₁,w₁,hq,.pass (x:= .inLoop c) rfl (fun _ _=> .inl (by simp)) kL⟩
   |panic ch=>exact⟨_,a₁,w₁,hq,.pass (x:= .inLoop c) rfl (fun _ _=> .inl (by simp)) kL⟩
   |outgrown=>exact⟨_,a₁,w₁,hq,.pass (x:= .inLoop c) rfl (fun _ _=> .inl (by simp)) kL⟩
 obtain⟨e,a',w',hq,kL⟩:=key n a w h₀
 exact⟨e,a',w',hq,.of_steps (.one step_loop) kL⟩
theorem zN{α:Type}(z:α)(l:List Nat):∀(xs:List α) (i j:Nat),(eU z l i xs)[j]? =(xs[j]?).map fun x=>bif l.any (Nat.beq (i+j)) then x else z
 | [],i,j=>by simp [eU]
 |x::r,i,0=>by simp [eU]
 |x::r,i,j+1=>by
  simp only[eU,List.getElem?_cons_succ]
  rw[zN z l r (i+1) j,show i+1+j=i+(j+1) by omega]
theorem zeb{α:Type}(z:α)(l:List Nat):∀(xs:List α) (i:Nat),(eU z l i xs).length=xs.length
 | [],i=>rfl
 |x::r,i=>by simp [eU,zeb z l r]
theorem Fy{p q:List Nat}:∀{l:List (List Nat)},q∈qK p l->q=p\/q∈l
 | [],h=>by simp [qK] at h;exact .inl h
 |r::l,h=>by
  simp only[qK] at h
  cases hl:Qd r p with
  |false=>rw[hl] at h;simpa using h
  |true=>
   rw[hl] at h
   rcases List.mem_cons.1 h with h|h
   ·exact .inr (by simp [h])
   ·rcases Fy h with h|h
    ·exact .inl h
    ·exact .inr (List.mem_cons_of_mem _ h)
theorem JL{q:List Nat}:∀{l:List (List Nat)},q∈lj l->q∈l
 | [],h=>h
 |p::l,h=>by
  rcases Fy h with h|h
  ·simp [h]
  ·exact List.mem_cons_of_mem _ (JL h)
theorem YU{v:SV}{id:Nat}{t:Ty}{p:List Nat}(h:v.norm= .ptr id t p):v= .ptr id t p:=by
 cases v<;>simp [SV.norm] at h
 obtain⟨h1,h2,h3⟩:=h
 rw[h1,h2,h3]
theorem ay.norm{pl:List Nat->Place}{sv:SV}{v:Value}(hr:ay X pl sv v):ay X pl sv.norm v:=by
 cases sv with
 |ai t x own=>
  obtain⟨cs,h1,h2,h3⟩:=hr
  exact⟨cs,h1,h2,fun p hp=>h3 p (JL hp)⟩
 |_=>exact hr
theorem ct.norm{pl:Nat->List Nat->Place}{l:List SV}{v:Value}(hr:ct X pl l v):ct X pl (l.map SV.norm) v:=by
 match l,hr with
 | [s],hr=>exact ay.norm hr
 | [],hr=>exact hr
 |x::y::r,⟨vs,h1,h2,h3⟩=>
  refine⟨vs,h1,by simpa using h2,fun j s u hs hu=> ?_⟩
  have hs:((x::y::r).map SV.norm)[j]? =some s:=hs
  rw[List.getElem?_map] at hs
  obtain⟨s0,dW,rfl⟩:=Option.map_eq_some_iff.1 hs
  exact ay.norm (h3 j s0 u dW hu)
theorem cT.less{r:Nat}{pl:List Nat->Place}{t:Ty}{x:El t}{own gY:List (List Nat)}(ho:∀p∈gY,p∈own)(h:cT X r pl t x own):cT X r pl t x gY:=by
 unfold cT at h⊢
 split at h
 ·exact h
 ·exact h
 ·exact h
 ·exact⟨h.1,fun hm=>h.2 (ho [] hm)⟩
 ·exact⟨h.1,fun hp=>h.2 fun p hm=>ho p (hp p hm)⟩
 ·exact h.elim
 ·obtain⟨cs,T,h1,h2,h3⟩:=h
  exact⟨cs,T,h1,h2,fun p hp=>h3 p (ho p hp)⟩
theorem Rel.norm(hr:Rel X s a):Rel X s.norm a where
 size:=by simpa [State.norm] using hr.size
 fh:=by simpa [State.norm] using hr.fh
 bC:=fun i l v hl hv=>by
  simp only[State.norm,List.getElem?_map] at hl
  obtain⟨l0,h0,rfl⟩:=Option.map_eq_some_iff.1 hl
  exact ct.norm (hr.bC i l0 v h0 hv)
 boxes:=fun id B hB=>by
  simp only[State.norm,List.getElem?_map] at hB
  obtain⟨b0,h0,h1⟩:=Option.map_eq_some_iff.1 hB
  obtain⟨B0,rfl,rfl⟩:=Option.map_eq_some_iff.1 h1
  obtain⟨r,g1,g2,g3⟩:=hr.boxes id B0 h0
  exact⟨r,g1,g2,g3.less fun p hp=>JL hp⟩
 live:=fun i l id t p hl hm=>by
  simp only[State.norm,List.getElem?_map] at hl
  obtain⟨l0,h0,rfl⟩:=Option.map_eq_some_iff.1 hl
  obtain⟨v0,I4,he⟩:=List.mem_map.1 hm
  rw[YU he] at I4
  obtain⟨B,hB⟩:=hr.live i l0 id t p h0 I4
  exact⟨B.norm,by simp [State.norm,hB]⟩
 defers:=hr.defers
 bh:=hr.bh.less (fun i l id b c j hl hm=>by
  simp only[State.norm,List.getElem?_map] at hl
  obtain⟨l0,h0,rfl⟩:=Option.map_eq_some_iff.1 hl
  obtain⟨v0,I4,he⟩:=List.mem_map.1 hm
  have:v0= .bh id b c j:=by cases v0<;>simp [SV.norm] at he;rw[he.1,he.2.1,he.2.2.1,he.2.2.2]
  subst this
  exact⟨l0,h0,I4,fun e=>by rw[e];rfl⟩) (fun id b c x own _ hb ho=>⟨x,lj own,by simp [State.norm,hb,bj.norm],fun hm=>ho (JL hm)⟩)
theorem Hk(hr:Rel X s a){l:List Nat}{R:Type}{K:State->Option R}{z:R}(h:ox l s K=some z):∃s',K s'=some z/\Rel X s' a:=by
 unfold ox at h
 simp only at h
 cases hb:(eU [.undef] l 0 s.sl).all (fun v=>v.all (SV.roots l)) with
 |false=>rw[hb] at h;cases h
 |true=>
  rw[hb] at h
  refine⟨_,h,Rel.norm ?_⟩
  have gD:s.bs=s.bs.headD none::s.bs.tail:=by
   have:=hr.fh
   cases hs:s.bs with
   |nil=>rw[hs] at this;simp at this
   |cons b r=>rfl
  have cc:∀(id:Nat) B,(s.bs.headD none::eU none l 0 s.bs.tail)[id]? =some (some B)->s.bs[id]? =some (some B):=by
   intro id B hB
   rw[gD]
   cases id with
   |zero=>exact hB
   |succ id=>
    simp only[List.getElem?_cons_succ] at hB⊢
    rw[zN] at hB
    obtain⟨x,hx,he⟩:=Option.map_eq_some_iff.1 hB
    rw[hx]
    cases hl:l.any (Nat.beq (0+id))<;>rw[hl] at he
    ·cases he
    ·rw[<-he];rfl
  refine⟨by rw[zeb];exact hr.size,?_,fun i v x hv hx=> ?_,fun id B hB=>hr.boxes id B (cc id B hB),fun i v id t p hv hm=> ?_,hr.defers,hr.bh.less (fun i v id c d j hv hm=> ?_) (fun id c d x own hex ly ho=> ?_)⟩
  ·simp only[List.length_cons,zeb,List.length_tail]
   have:=hr.fh
   omega
  ·rw[zN] at hv
   obtain⟨y,hy,rfl⟩:=Option.map_eq_some_iff.1 hv
   cases hl:l.any (Nat.beq (0+i)) with
   |false=>trivial
   |true=>exact hr.bC i y x hy hx
  ·have qD:SV.roots l (.ptr id t p)=true:=by
    have:=List.all_eq_true.1 hb v (List.mem_of_getElem? hv)
    exact List.all_eq_true.1 this _ hm
   rw[zN] at hv
   obtain⟨y,hy,he⟩:=Option.map_eq_some_iff.1 hv
   have oK:SV.ptr id t p∈y:=by
    cases hl:l.any (Nat.beq (0+i)) with
    |false=>rw[hl] at he;subst he;simp at hm
    |true=>rw[hl] at he;subst he;exact hm
   obtain⟨B,hB⟩:=hr.live i y id t p hy oK
   refine⟨B,?_⟩
   rw[gD] at hB
   cases id with
   |zero=>exact hB
   |succ id=>
    simp only[List.getElem?_cons_succ] at hB⊢
    rw[zN,hB]
    have:l.any (Nat.beq id)=true:=qD
    have h2:l.any (Nat.beq (0+id))=true:=by rw[Nat.zero_add];exact this
    simp [this]
  ·rw[zN] at hv
   obtain⟨y,hy,he⟩:=Option.map_eq_some_iff.1 hv
   cases hl:l.any (Nat.beq (0+i)) with
   |false=>rw[hl] at he;subst he;simp at hm
   |true=>rw[hl] at he;subst he;exact⟨y,hy,hm,fun h=>h⟩
  ·obtain⟨i,v,j,hv,hm⟩:=hex
   have qD:SV.roots l (.bh id c d j)=true:=by
    have:=List.all_eq_true.1 hb v (List.mem_of_getElem? hv)
    exact List.all_eq_true.1 this _ hm
   refine⟨x,own,?_,ho⟩
   rw[gD] at ly
   cases id with
   |zero=>exact ly
   |succ id=>
    simp only[List.getElem?_cons_succ] at ly⊢
    rw[zN,ly]
    have:l.any (Nat.beq id)=true:=qD
    have h2:l.any (Nat.beq (0+id))=true:=by rw[Nat.zero_add];exact this
    simp [this]
def ar.still(X:ar)(r n:Nat):ar:={X with ow:=fun g=>if g=r then .ro n else X.ow g}
theorem tX{r n id:Nat}(h:X.ow r= .box id){ad:Addr}{v:Value}(hs:X.ax ad v):(X.still r n).ax ad v:=by
 have bB:ad.block≠r:=fun e=>by
  have:=hs.2.2
  rw[e,h] at this
  exact this
 refine⟨hs.1,hs.2.1,?_⟩
 simp only[ar.still]
 rw[if_neg bB]
 exact hs.2.2
theorem zy1{r n id:Nat}(h:X.ow r= .box id):Ext X (X.still r n) where
 ax:=fun _ _=>tX h
 size:=Nat.le_refl _
 os:=rfl
 tape:=rfl
 output:=rfl
 β0:=rfl
 still:=fun g _ bL=>by
  have bB:g≠r:=fun e=>by rw[e,h] at bL;exact bL
  exact⟨by simp only[ar.still];rw[if_neg bB],rfl⟩
theorem bf.dN{r n id:Nat}(h:X.ow r= .box id){pl:Place}{e:TypeId}{k m:Nat}{v:Value}(ho:bf X pl e k m v):bf (X.still r n) pl e k m v:=by
 rcases ho with ho|⟨g,cap,cur,h1,h2,h3,h4,h5,h6⟩
 ·exact .inl ho
 ·have bB:g≠r:=fun e=>by rw[e,h] at h6;cases h6
  exact .inr ⟨g,cap,cur,h1,h2,h3,h4,h5,by simp only[ar.still];rw[if_neg bB];exact h6⟩
theorem bc.dN{r n id:Nat}(h:X.ow r= .box id){pl:List Nat->Place}{t:Ty}{x:El t}{c:List Value}{own:List (List Nat)}(ho:bc X pl t x c own):bc (X.still r n) pl t x c own:=fun p hp=>by
 obtain⟨e,t',xs,v,g0,g1,g2,g3⟩:=ho p hp
 exact⟨e,t',xs,v,g0,g1,g2,g3.dN h⟩
theorem ay.dN{r n id:Nat}(h:X.ow r= .box id){pl:List Nat->Place}{sv:SV}{v:Value}(hk:∀aV c d j,sv= .bh aV c d j->aV≠id)(hr:ay X pl sv v):ay (X.still r n) pl sv v:=by
 cases sv with
 |ai t x own=>
  obtain⟨c,h1,h2,h3⟩:=hr
  exact⟨c,h1.ag (fun _ _=>tX h),h2,h3.dN h⟩
 |view t x=>
  obtain⟨ad,c,h1,h2,h3,h4⟩:=hr
  exact⟨ad,c,h1,h2,h3.ag (fun _ _=>tX h),fun i u hi=>tX h (h4 i u hi)⟩
 |cap f t x u y=>exact z21 (fun _ _=>tX h) hr
 |bh aV c d j=>
  obtain⟨r',h1,h2,h3⟩:=hr
  have bB:r'≠r:=fun e=>by rw[e,h] at h2;injection h2 with h2;exact hk aV c d j rfl h2.symm
  exact⟨r',h1,by simp only[ar.still];rw[if_neg bB];exact h2,h3⟩
 |_=>exact hr
theorem JI(l:List Nat):∀(xs:List (Option bj)) (i j:Nat),(gB l i xs)[j]? =(xs[j]?).map fun b=>bif l.any (Nat.beq (i+j)) then b.map (fun B=>{B with own:=[]}) else b
 | [],i,j=>by simp [gB]
 |x::r,i,0=>by simp [gB]
 |x::r,i,j+1=>by
  simp only[gB,List.getElem?_cons_succ]
  rw[JI l r (i+1) j,show i+1+j=i+(j+1) by omega]
theorem zww(l:List Nat):∀(xs:List (Option bj)) (i:Nat),(gB l i xs).length=xs.length
 | [],i=>rfl
 |x::r,i=>by simp [gB,zww l r]
theorem Rel.drop(hr:Rel X s a)(l:List Nat):Rel X (s.drop l) a where
 size:=hr.size
 fh:=by simp only[State.drop,zww];exact hr.fh
 bC:=hr.bC
 boxes:=fun id B hB=>by
  simp only[State.drop,JI] at hB
  obtain⟨b0,h0,h1⟩:=Option.map_eq_some_iff.1 hB
  cases hl:l.any (Nat.beq (0+id)) with
  |false=>rw[hl] at h1;simp only[cond_false] at h1;subst h1;exact hr.boxes id B h0
  |true=>
   rw[hl] at h1
   simp only[cond_true] at h1
   obtain⟨B0,rfl,rfl⟩:=Option.map_eq_some_iff.1 h1
   obtain⟨r,g1,g2,g3⟩:=hr.boxes id B0 h0
   exact⟨r,g1,g2,g3.less fun p hp=>by cases hp⟩
 live:=fun i v id t p hv hm=>by
  obtain⟨B,hB⟩:=hr.live i v id t p hv hm
  simp only[State.drop,JI,hB,Option.map_some]
  cases l.any (Nat.beq (0+id))<;>exact⟨_,rfl⟩
 defers:=hr.defers
 bh:=hr.bh.less (fun i l id c d j hl hm=>⟨l,hl,hm,fun h=>h⟩) (fun id c d x own _ hb ho=>by
  simp only[State.drop,JI,hb,Option.map_some]
  cases l.any (Nat.beq (0+id)) with
  |false=>exact⟨x,own,rfl,ho⟩
  |true=>exact⟨x,[],rfl,by simp⟩)
theorem Y8(hr:Rel X s a){r:Nat}{R:Type}{K:State->Option R}{z:R}(h:om E r s K=some z):∃Y s',Y.w=X.w/\Ext X Y/\K s'=some z/\Rel Y s' a:=by
 unfold om at h
 split at h
 ·exact⟨X,s,rfl,Ext.refl X,h,hr⟩
 rename_i d T hfz
 split at h
 case h_2=>cases h
 rename_i id n ta tb e t fQ hT
 split at h
 case isFalse=>cases h
 rename_i heq
 have:=Ty.aH heq
 subst this
 split at h
 case h_2=>cases h
 rename_i B hB
 split at h
 case isFalse=>cases h
 rename_i de
 obtain⟨hb,rr,h1,how,cs,T',aC,fa,eI⟩:=Aq hr hB de
 generalize(Ty.cast de B.x:List (El ta))=xs at*
 cases hn:Nat.beq n (List.length xs) with
 |false=>rw[hn] at h;cases h
 |true=>
  rw[hn] at h
  have hn:=Nat.eq_of_beq_eq_true hn
  have hd:d<s.sl.length:=by
   rcases Nat.lt_or_ge d s.sl.length with h1|h1
   ·exact h1
   ·simp [State.slot,List.getElem?_eq_none h1] at fQ
  have dz:=hr.slot d
  rw[fQ] at dz
  obtain⟨r0,hβ,cap,hv,kO⟩:=(show ay X (.c d 0) (.ptr id (.aI (.gW n) ta tb) []) _ from dz)
  rw[h1] at hβ
  cases hβ
  have aw:id<s.bs.length:=(List.getElem?_eq_some_iff.1 hb).1
  have lX:=hr.l8 hb (.inl (by rw[Ty.aH de];rfl))
  refine⟨X.still rr (xs.length*ta.cells),_,rfl,zy1 how,h,?_,?_,fun i l v hl hx=> ?_,fun aV B' dC=> ?_,fun i l j t p hl hm=> ?_,hr.defers,hr.bh.less (fun i l od c2 d2 j hl hm=> ?_) (fun od c2 d2 x2 iI hex ki ho=> ?_)⟩
  ·simpa using hr.size
  ·simpa using hr.fh
  ·replace hl:((s.sl.map (jW id)).set d [.ai (.sl e ta) xs []])[i]? =some l:=hl
   rw[List.getElem?_set] at hl
   split at hl
   ·rename_i qn
    subst qn
    rw[if_pos (by simpa using hd)] at hl
    cases hl
    have EA:a.tmps.getD d Go.undef=v:=by
     rw[Array.getD_eq_getD_getElem?,hx];rfl
    rw[EA] at hv
    refine⟨[v],?_,rfl,km⟩
    rw[hv,hn]
    refine aY.tO rfl (by omega) (fun j y hj=>⟨⟨rr,0,none⟩,_,rfl,rfl,(eI j y hj).ag (fun _ _=>tX how),fun i u hi=> ?_⟩)
    have qs:=(List.getElem?_eq_some_iff.1 hj).1
    have hle:(j+1)*ta.cells<=xs.length*ta.cells:=Nat.mul_le_mul_right _ qs
    rw[Nat.add_mul,Nat.one_mul] at hle
    rw[List.getElem?_take] at hi
    split at hi
    case isFalse=>cases hi
    rename_i IV
    rw[List.getElem?_drop] at hi
    refine⟨wG rfl _,?_,?_⟩
    ·rw[zy,Nat.zero_add]
     show X.w.cell? _=_
     simp only[World.cell?,aC]
     simpa using hi
    ·rw[zy,Nat.zero_add]
     show Ow.used (if rr=rr then .ro (xs.length*ta.cells) else X.ow rr) _
     rw[if_pos rfl]
     show j*ta.cells+i<_
     omega
   ·rw[List.getElem?_map] at hl
    obtain⟨l0,h0,rfl⟩:=Option.map_eq_some_iff.1 hl
    exact Fh ((hr.bC i l0 v h0 hx).gg fun j sv u hm hH=>hH.dN how (fun aV c d k e e2=>lX i l0 c d k h0 (e2▸e▸List.mem_of_getElem? hm)))
  ·replace dC:(s.bs.set id none)[aV]? =some (some B'):=dC
   rw[List.getElem?_set] at dC
   split at dC
   ·rename_i D5
    cases dC
   ·rename_i D5
    obtain⟨r',g1,g2,g3⟩:=hr.boxes aV B' dC
    have bB:r'≠rr:=fun e2=>by rw[e2,how] at g2;cases g2;exact D5 rfl
    exact⟨r',g1,by simp only[ar.still];rw[if_neg bB];exact g2,g3.move (fun _ _=>tX how) rfl (fun cs h5=>h5.dN how) fun _ _ g o _ ho hw=>⟨ho,by simp only[ar.still];rw[if_neg (fun e3=>by rw[e3,how] at hw;cases hw)];exact hw⟩⟩
  ·replace hl:((s.sl.map (jW id)).set d [.ai (.sl e ta) xs []])[i]? =some l:=hl
   rw[List.getElem?_set] at hl
   split at hl
   ·rw[if_pos (by simpa using hd)] at hl
    cases hl
    simp at hm
   ·rw[List.getElem?_map] at hl
    obtain⟨l0,h0,rfl⟩:=Option.map_eq_some_iff.1 hl
    obtain⟨hm,bB⟩:=Gp hm
    obtain⟨B2,cE⟩:=hr.live i l0 j t p h0 hm
    exact⟨B2,by show(s.bs.set id none)[j]? =_;rw[List.getElem?_set,if_neg (fun e=>bB e.symm)];exact cE⟩
  ·replace hl:((s.sl.map (jW id)).set d [.ai (.sl e ta) xs []])[i]? =some l:=hl
   rw[List.getElem?_set] at hl
   split at hl
   ·rw[if_pos (by simpa using hd)] at hl
    cases hl
    simp at hm
   ·rw[List.getElem?_map] at hl
    obtain⟨l0,h0,rfl⟩:=Option.map_eq_some_iff.1 hl
    obtain⟨g1,g2⟩:=zw0 hm
    exact⟨l0,h0,g1,g2⟩
  ·refine⟨x2,iI,?_,ho⟩
   show(s.bs.set id none)[od]? =_
   rw[List.getElem?_set,if_neg (fun e=> ?_)]
   ·exact ki
   ·subst e
    rw[hb] at ki
    cases ki
    cases(Ty.aH de)
theorem zy6(hr:Rel X s a){id rr:Nat}{B:bj}(hb:s.bs[id]? =some (some B))(hs:B.t.bn=false)(h1:X.β id=some rr)(how:X.ow rr= .box id){cs:Array Value}{T:TypeId}(aC:X.w.heap[rr]? =some (.cells cs T (0,0)))(aK:aY X B.t B.x cs.toList){pl:List Nat->Place}{sv:SV}{v:Value}(hk:∀aV c d j,sv= .bh aV c d j->aV≠id)(h:ay X pl sv v):ay (X.still rr cs.size) pl (oE id B sv) v:=by
 have cS:=h.dN (n:=cs.size) how hk
 cases sv with
 |ptr j t p=>
  unfold oE
  simp only
  cases hj:Nat.beq j id with
  |false=>exact cS
  |true=>
   have:=Nat.eq_of_beq_eq_true hj
   subst this
   simp only[cond_true]
   split
   case isFalse=>trivial
   rename_i heq
   have:=Ty.aH heq
   subst this
   split
   case h_2=>trivial
   rename_i u y cc
   obtain⟨r0,hβ,hv⟩:=h
   rw[h1] at hβ
   cases hβ
   obtain⟨hv,cP⟩:=(nv hs).1 hv
   obtain⟨k1,k2,k3⟩:=H9 aK cP cc
   refine⟨_,_,hv,rfl,k3.ag (fun _ _=>tX how),fun i w hi=>⟨wG rfl _,?_,?_⟩⟩
   ·exact JV aC hi
   ·rw[zy]
    show Ow.used (if rr=rr then .ro cs.size else X.ow rr) _
    rw[if_pos rfl]
    rw[List.getElem?_take] at hi
    split at hi
    case isFalse=>cases hi
    rw[List.getElem?_drop] at hi
    have:=(List.getElem?_eq_some_iff.1 hi).1
    show _<cs.size
    simpa using this
 |_=>exact cS
theorem Wu(hr:Rel X s a){id rr:Nat}{B:bj}(hb:s.bs[id]? =some (some B))(hs:B.t.bn=false)(h1:X.β id=some rr)(how:X.ow rr= .box id){cs:Array Value}{T:TypeId}(aC:X.w.heap[rr]? =some (.cells cs T (0,0)))(aK:aY X B.t B.x cs.toList){pl:Nat->List Nat->Place}{l:List SV}{v:Value}(hk:∀aV c d j,SV.bh aV c d j∈l->aV≠id)(h:ct X pl l v):ct (X.still rr cs.size) pl (l.map (oE id B)) v:=by
 match l,h with
 | [sv],h=>exact zy6 hr hb hs h1 how aC aK (fun aV c d j e=>hk aV c d j (by simp [e])) h
 | [],⟨vs,g1,g2,g3⟩=>exact⟨vs,g1,g2,fun j sv u jY=>by simp at jY⟩
 |x::y::r,⟨vs,g1,g2,g3⟩=>
  refine⟨vs,g1,by simpa using g2,fun j sv u jY hu=> ?_⟩
  have jY:((x::y::r).map (oE id B))[j]? =some sv:=jY
  rw[List.getElem?_map] at jY
  obtain⟨s0,dW,rfl⟩:=Option.map_eq_some_iff.1 jY
  exact zy6 hr hb hs h1 how aC aK (fun aV c d j e=>hk aV c d j (e▸List.mem_of_getElem? dW)) (g3 j s0 u dW hu)
theorem Zd{id:Nat}{B:bj}{l:List SV}{j:Nat}{t:Ty}{p:List Nat}(h:SV.ptr j t p∈l.map (oE id B)):SV.ptr j t p∈l/\j≠id:=by
 obtain⟨s0,dW,he⟩:=List.mem_map.1 h
 unfold oE at he
 cases s0 with
 |ptr j' t' p'=>
  simp only at he
  cases hb:Nat.beq j' id with
  |true=>
   rw[hb] at he
   simp only[cond_true] at he
   split at he
   ·split at he<;>cases he
   ·cases he
  |false=>
   rw[hb] at he
   cases he
   exact⟨dW,fun e=>Nat.ne_of_beq_eq_false hb e⟩
 |_=>simp only at he;cases he
theorem Zc{id:Nat}{B:bj}{l:List SV}{i j:Nat}{a b:Ty}(h:SV.bh i a b j∈l.map (oE id B)):SV.bh i a b j∈l/\(l=[.bh i a b j]->l.map (oE id B)=[.bh i a b j]):=by
 refine⟨?_,fun e=>by rw[e];rfl⟩
 obtain⟨s0,dW,he⟩:=List.mem_map.1 h
 unfold oE at he
 cases s0 with
 |ptr j' t' p'=>
  simp only at he
  cases hb:Nat.beq j' id with
  |true=>
   rw[hb] at he
   simp only[cond_true] at he
   split at he
   ·split at he<;>cases he
   ·cases he
  |false=>rw[hb] at he;cases he
 |_=>simp only at he;first|(cases he;done)|(rw[<-he];exact dW)
theorem Sw(hr:Rel X s a){id:Nat}{R:Type}{K:State->Option R}{z:R}(h:Mz id s K=some z):∃Y s',Y.w=X.w/\Ext X Y/\K s'=some z/\Rel Y s' a:=by
 unfold Mz at h
 split at h
 case h_2=>cases h
 rename_i B hB
 split at h
 case isTrue=>cases h
 rename_i hs
 have hs:B.t.bn=false:=by simpa using hs
 have hb:=nw hB
 obtain⟨rr,h1,ql⟩:=hr.boxes id B hb
 obtain⟨cs,T,aC,aK,how,_⟩:=ql.cells hs
 refine⟨X.still rr cs.size,_,rfl,zy1 how,h,by simpa using hr.size,by simpa using hr.fh,fun i l v hl hx=> ?_,fun aV B' dC=> ?_,fun i l j t p hl hm=> ?_,hr.defers,hr.bh.less (fun i l od c2 d2 j hl hm=> ?_) (fun od c2 d2 x2 iI hex ki ho=> ?_)⟩
 ·replace hl:(s.sl.map fun l=>l.map (oE id B))[i]? =some l:=hl
  rw[List.getElem?_map] at hl
  obtain⟨l0,h0,rfl⟩:=Option.map_eq_some_iff.1 hl
  exact Wu hr hb hs h1 how aC aK (fun aV c d j hm e=>hr.l8 hb (.inl (Ie hs)) i l0 c d j h0 (e▸hm)) (hr.bC i l0 v h0 hx)
 ·replace dC:(s.bs.set id none)[aV]? =some (some B'):=dC
  rw[List.getElem?_set] at dC
  split at dC
  ·split at dC<;>cases dC
  ·rename_i D5
   obtain⟨r',g1,g2,g3⟩:=hr.boxes aV B' dC
   have bB:r'≠rr:=fun e2=>by rw[e2,how] at g2;cases g2;exact D5 rfl
   exact⟨r',g1,by simp only[ar.still];rw[if_neg bB];exact g2,g3.move (fun _ _=>tX how) rfl (fun cs h5=>h5.dN how) fun _ _ g o _ ho hw=>⟨ho,by simp only[ar.still];rw[if_neg (fun e3=>by rw[e3,how] at hw;cases hw)];exact hw⟩⟩
 ·replace hl:(s.sl.map fun l=>l.map (oE id B))[i]? =some l:=hl
  rw[List.getElem?_map] at hl
  obtain⟨l0,h0,rfl⟩:=Option.map_eq_some_iff.1 hl
  obtain⟨hm,bB⟩:=Zd hm
  obtain⟨B2,cE⟩:=hr.live i l0 j t p h0 hm
  exact⟨B2,by show(s.bs.set id none)[j]? =_;rw[List.getElem?_set,if_neg (fun e=>bB e.symm)];exact cE⟩
 ·replace hl:(s.sl.map fun l=>l.map (oE id B))[i]? =some l:=hl
  rw[List.getElem?_map] at hl
  obtain⟨l0,h0,rfl⟩:=Option.map_eq_some_iff.1 hl
  obtain⟨g1,g2⟩:=Zc hm
  exact⟨l0,h0,g1,g2⟩
 ·refine⟨x2,iI,?_,ho⟩
  show(s.bs.set id none)[od]? =_
  rw[List.getElem?_set,if_neg (fun e=> ?_)]
  ·exact ki
  ·subst e
   rw[hb] at ki
   cases ki
   cases hs
theorem zjr{R:Type}{K:State->Option R}{z:R}:∀(l:List Nat) (X:ar) (s:State),Rel X s a->BK l s K=some z->∃Y s',Y.w=X.w/\Ext X Y/\K s'=some z/\Rel Y s' a
 | [],X,s,hr,h=>⟨X,s,rfl,Ext.refl X,h,hr⟩
 |id::r,X,s,hr,h=>by
  obtain⟨Y,s1,h1,h2,h3,h4⟩:=Sw hr h
  obtain⟨Z,s2,k1,k2,k3,k4⟩:=zjr r Y s1 h4 h3
  exact⟨Z,s2,k1.trans h1,h2.trans k2,k3,k4⟩
def Fr(E:Env)(X0:ar):Prop:=E.sp≠none->∀g pl n,X0.ow g≠ .row pl n
def zyg(P:Program)(E:Env)(C:af)(k:Nat)(c:Code):Prop:=
 ∀(X0 X:ar) (s:State) (a:Act) (e:Ex) (s':State),Fr E X0->Ext X0 X->Rel X s a->ev E (C (Ex×State)) k c s (fun e s=>some (e,s))=some (e,s')->
  ∀(Q:Exit->Act->World->Prop),(∀Y a',Ext X0 Y->Rel Y s' a'->Q e.exit' a' Y.w)->c.wp P Q a X.w
theorem YQ(hr:Rel X s a){k r:Nat}{R:Type}{K:State->Option R}{z:R}(h:lf E k r s K=some z):∃s',K s'=some z/\Rel X s' a:=by
 unfold lf at h
 split at h
 ·exact⟨s,h,hr⟩
 ·obtain⟨s',h1,h2⟩:=Hk hr h
  refine⟨s',?_,h2⟩
  unfold cm at h1
  split at h1
  ·cases h1
  ·exact h1
theorem VW{C:af}(hC:C.Nat){k:Nat}{b:Code}(hb:zyg P E C k b){l lx:List Nat}{Q:Exit->Act->World->Prop}{e':Ex}{s':State}{X0:ar}(hF:Fr E X0)(hQ:∀Y a',Ext X0 Y->Rel Y s' a'->Q e'.exit' a' Y.w):
 ∀(n:Nat) (a:Act) (w:World),(∃X s,X.w=w/\Ext X0 X/\Rel X s a/\aA (ev E (C (Ex×State)) k b) l lx n s (fun e s=>some (e,s))=some (e',s'))->
  ∃m,n=m+1/\b.wp P (Exit.then (fun a w=>∃X s,X.w=w/\Ext X0 X/\Rel X s a/\aA (ev E (C (Ex×State)) k b) l lx m s (fun e s=>some (e,s))=some (e',s')) Q) a w:=by
 rintro n a w ⟨X,s,rfl,aT,hr,h⟩
 cases n with
 |zero=>cases h
 |succ m=>
  refine⟨m,rfl,?_⟩
  simp only[aA] at h
  obtain⟨⟨e1,s2⟩,h1,h2⟩:=zz (rU hC b _ (fun e s=>some (e,s)) (K:=fun z=>match z.1 with
   | .normal=>ox l z.2 fun s=>aA (ev E (C (Ex×State)) k b) l lx m s (fun e s=>some (e,s))
   |e=>ox lx z.2 fun s=>some (e,s)) (fun e s=>by cases e<;>rfl) s) h
  refine hb X0 X s a e1 s2 hF aT hr h1 _ fun Y a' bR bg=> ?_
  cases e1 with
  |normal=>
   obtain⟨s3,h3,yh⟩:=Hk bg h2
   exact⟨Y,s3,rfl,bR,yh,h3⟩
  |exit id=>
   obtain⟨s3,h3,yh⟩:=Hk bg h2
   cases h3
   exact hQ Y a' bR yh
  |ret=>
   obtain⟨s3,h3,yh⟩:=Hk bg h2
   cases h3
   exact hQ Y a' bR yh
theorem z7u(hE:aj P E)(hm:P.follows .mixedOrders=true){C:af}(hC:C.Nat)(hf:∀f,cG P C f){id:Nat}{ops:Array Oper}{d:Bool}{X00 X0:ar}{s0:State}{a:Act}{e:Ex}{s':State}(hx:Ext X00 X0)(hr0:Rel X0 s0 a)(h0:Ap E (C (Ex×State)) id ops d s0 ((fun e s=>some (e,s)) Ex.normal)=some (e,s')){Q:Exit->Act->World->Prop}(hQ0:∀Y a',Ext X00 Y->Rel Y s' a'->Q e.exit' a' Y.w):(Code.region id ops d).wp P Q a X0.w:=by
 unfold Ap at h0
 obtain⟨X1,s1,I6,vI,h01,dV⟩:=Y8 hr0 h0
 obtain⟨X,s,rH,bR,h,hr⟩:=zjr _ X1 s1 dV h01
 have hw:X.w=X0.w:=rH.trans I6
 have vH:Ext X0 X:=vI.trans bR
 clear h01 dV I6 rH vI bR
 have hQ:∀Y a',Ext X Y->Rel Y s' a'->Q e.exit' a' Y.w:=fun Y a' aT bg=>hQ0 Y a' (hx.trans (vH.trans aT)) bg
 rw[<-hw]
 clear h0 hr0 hQ0 vH hw
 cases d with
 |true=>
  simp only[cond_true] at h
  obtain⟨s1,h1,h2⟩:=zz (Ho hC (F:=fun s=>some (Ex.normal,s)) (G:=some) (K:=fun s=>some (Ex.normal,s)) (fun _=>rfl) ops.toList 0 s []) h
  cases h2
  exact VJ hE hm hC hf hr h1 hQ
 |false=>
  simp only[cond_false] at h
  obtain⟨s1,h1,h2⟩:=zz (zR hC (F:=fun s=>some (Ex.normal,s)) (G:=some) (K:=fun s=>some (Ex.normal,s)) (fun _=>rfl) ops.toList s) h
  cases h2
  refine wp_region (FO hE hC hf (List.range ops.size) X s a hr (fun i hi=>List.mem_range.1 hi) ?_ hQ)
  have:(List.range ops.size).map (fun i=>ops.getD i default)=ops.toList:=by
   apply List.ext_getElem?
   intro i
   rw[List.getElem?_map]
   by_cases hi:i<ops.size
   ·simp [hi]
   ·simp [hi]
  rw[this];exact h1
theorem zM(hE:aj P E)(hm:P.follows .mixedOrders=true){C:af}(hC:C.Nat)(hf:∀f,cG P C f)(k:Nat):∀c:Code,zyg P E C k c
 | .skip=>fun X0 X s a e s' hF hx hr h Q hQ=>by
   simp only[ev,Option.some.injEq,Prod.mk.injEq] at h
   obtain⟨rfl,rfl⟩:=h
   exact wp_skip (hQ X a hx hr)
 | .region id ops d=>fun X0 X s a e s' hF hx hr h Q hQ=>by
   simp only[ev] at h
   split at h
   ·rename_i j q kl
    cases hj:Nat.beq id j with
    |true=>
     rw[hj,cond_true] at h
     cases d with
     |true=>cases h
     |false=>
      cases hq:Nat.beq q.2.2 0 with
      |true=>
       simp only[hq,cond_true] at h
       obtain⟨s1,h1,h2⟩:=zz (FG hC (F:=fun s=>some (Ex.normal,s)) (G:=some) (K:=fun s=>some (Ex.normal,s)) (fun _=>rfl)) h
       cases h2
       exact V8 hE hC hf (hF (by rw[kl];exact fun e=>by cases e)) hx hr h1 hQ
      |false=>
      simp only[hq,cond_false] at h
      obtain⟨s1,h1,h2⟩:=zz (FP (F:=fun s=>some (Ex.normal,s)) (G:=some) (K:=fun s=>some (Ex.normal,s)) (fun _=>rfl)) h
      cases h2
      exact Wn hE (hF (by rw[kl];exact fun e=>by cases e)) hx hr h1 hQ
    |false=>
     rw[hj,cond_false] at h
     exact z7u hE hm hC hf hx hr h hQ
   ·split at h
    ·exact z7u hE hm hC hf hx hr h hQ
    ·rename_i m l k hsg
     cases hi:Nat.beq id m with
     |true=>
      rw[hi,cond_true] at h
      cases d with
      |true=>cases h
      |false=>
       obtain⟨s1,h1,h2⟩:=zz (Gt hC (F:=fun s=>some (Ex.normal,s)) (G:=some) (K:=fun s=>some (Ex.normal,s)) (fun _=>rfl)) h
       cases h2
       exact YR hE hC hf hx hr h1 hQ
     |false=>
     rw[hi,cond_false] at h
     cases yd:Nat.beq id l with
     |true=>
      rw[yd,cond_true] at h
      cases d with
      |false=>cases h
      |true=>
       obtain⟨s1,h1,h2⟩:=zz (Fu hC (F:=fun s=>some (Ex.normal,s)) (G:=some) (K:=fun s=>some (Ex.normal,s)) (fun _=>rfl)) h
       cases h2
       exact VT hE hm hC hf hx hr h1 hQ
     |false=>
      rw[yd,cond_false] at h
      exact z7u hE hm hC hf hx hr h hQ
 | .seq x y=>fun X0 X s a e s' hF hx hr h Q hQ=>by
   simp only[ev] at h
   obtain⟨⟨e1,s1⟩,h1,h2⟩:=zz (rU hC x _ (fun e s=>some (e,s)) (K:=fun z=>match z.1 with
    | .normal=>lf E k (rh y) z.2 fun s=>ev E (C (Ex×State)) k y s (fun e s=>some (e,s))
    |e=>some (e,z.2)) (fun e s=>by cases e<;>rfl) s) h
   refine wp_seq (zM hE hm hC hf k x X0 X s a e1 s1 hF hx hr h1 _ fun Y a' aT bg=> ?_)
   cases e1 with
   |normal=>
    obtain⟨s2,h2,bg⟩:=YQ bg h2
    exact zM hE hm hC hf k y X0 Y s2 a' e s' hF aT bg h2 Q hQ
   |exit id=>cases h2;exact hQ Y a' aT bg
   |ret=>cases h2;exact hQ Y a' aT bg
 | .cond c x y=>fun X0 X s a e s' hF hx hr h Q hQ=>by
   simp only[ev] at h
   have hc:=hr.aF c
   split at h
   case h_2=>cases h
   rename_i p w hs
   rw[hs] at hc
   have hv:=He hc
   have dV:Rel X (s.ap (qY c) (bl p)) a:=by
    cases c with
    |tmp i=>
     have fQ:s.slot i=[.ai .bool p w]:=by
      have hh:one (s.slot i)= .ai .bool p w:=hs
      match hm:s.slot i,hh with
      | [sv],hh=>have yb:sv= .ai .bool p w:=hh;rw[yb]
      | [],hh=>cases hh
      |_::_::_,hh=>cases hh
     exact(hr.know fQ).1
    |_=>exact hr
   refine wp_cond_split hv (fun hp=> ?_) (fun hp=> ?_)
   ·subst hp
    exact zM hE hm hC hf k x X0 X _ a e s' hF hx dV h Q hQ
   ·subst hp
    exact zM hE hm hC hf k y X0 X _ a e s' hF hx dV h Q hQ
 | .block id b=>fun X0 X s a e s' hF hx hr h Q hQ=>by
   simp only[ev] at h
   obtain⟨⟨e1,s1⟩,h1,h2⟩:=zz (rU hC b _ (fun e s=>some (e,s)) (K:=fun z=>match z.1 with
    | .exit j=>bif Nat.beq j id then some (.normal,z.2) else some (.exit j,z.2)
    |e=>some (e,z.2)) (fun e s=>by cases e<;>rfl) s) h
   refine wp_block (zM hE hm hC hf k b X0 X s a e1 s1 hF hx hr h1 _ fun Y a' aT bg=> ?_)
   cases e1 with
   |normal=>cases h2;exact hQ Y a' aT bg
   |ret=>cases h2;exact hQ Y a' aT bg
   |exit j=>
    simp only at h2
    show(if j=id then Q .normal a' Y.w else Q (.exit j) a' Y.w)
    cases hj:Nat.beq j id with
    |true=>
     rw[hj] at h2;cases h2
     rw[if_pos (Nat.eq_of_beq_eq_true hj)]
     exact hQ Y a' aT bg
    |false=>
     rw[hj] at h2;cases h2
     rw[if_neg (Nat.ne_of_beq_eq_false hj)]
     exact hQ Y a' aT bg
 | .loop b=>fun X0 X s a e s' hF hx hr h Q hQ=>by
   simp only[ev] at h
   obtain⟨s1,h,dV⟩:=Hk (hr.drop _) h
   exact Wz _ (VW hC (zM hE hm hC hf k b) hF (Q:=Q) hQ) ⟨X,s1,rfl,hx,dV,h⟩
 | .exit id=>fun X0 X s a e s' hF hx hr h Q hQ=>by
   simp only[ev,Option.some.injEq,Prod.mk.injEq] at h
   obtain⟨rfl,rfl⟩:=h
   exact wp_exit (hQ X a hx hr)
 | .ret=>fun X0 X s a e s' hF hx hr h Q hQ=>by
   simp only[ev,Option.some.injEq,Prod.mk.injEq] at h
   obtain⟨rfl,rfl⟩:=h
   exact wp_ret (hQ X a hx hr)
 | .rangeFunc .. =>fun X0 X s a e s' hF hx hr h Q hQ=>by simp only[ev] at h;cases h
 | .scope _=>fun X0 X s a e s' hF hx hr h Q hQ=>by simp only[ev] at h;cases h
 | .label _=>fun X0 X s a e s' hF hx hr h Q hQ=>by simp only[ev] at h;cases h
 | .goto _=>fun X0 X s a e s' hF hx hr h Q hQ=>by simp only[ev] at h;cases h
 | .refuse _=>fun X0 X s a e s' hF hx hr h Q hQ=>by simp only[ev] at h;cases h
end Go.Ref

