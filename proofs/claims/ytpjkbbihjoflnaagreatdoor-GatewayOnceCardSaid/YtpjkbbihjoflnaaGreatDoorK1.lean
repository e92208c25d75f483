/- No condition. -/
import Derived.Test.YtpjkbbihjoflnaaGreatDoorK0
import Derived.WideKeyRuns
import Derived.MapKept
import Derived.Laws.CopyRow
set_option linter.unusedVariables false
set_option linter.unusedSimpArgs false
set_option maxRecDepth 100000
namespace Go.Ref
open Go
variable {P:Program} {E:Env} {X:ax} {s:State} {a:Act} {o:Oper} {u:Out}
inductive Grown(w w':World)(e:TypeId)(k:Nat)(vb v':Value)(cx cy:List Value)(n:Nat):Prop where
 |same (h:w'=w) (hv:v'=vb) (hy:cy=[])
 |room (g cap:Nat) (cur fY:Array Value) (hb:∃m,vb= .slice (some ⟨g,0,none⟩) m cap) (hg:w.heap[g]? =some (.cells cur e (0,0))) (hv:v'= .slice (some ⟨g,0,none⟩) n cap) (hn:n<=cap) (hm:cap<=maxLen)
   (hw:w'=w.setRow g fY) (hs:fY.size=cap*k) (ht:fY.toList.take (n*k)=cx++cy)
 |new (cap:Nat) (fY:Array Value) (hv:v'= .slice (some ⟨w.heap.size,0,none⟩) n cap) (hn:n<=cap) (hm:cap<=maxLen) (hw:w'=w.drew.alloc (.cells fY e)) (hs:fY.size=cap*k) (ht:fY.toList.take (n*k)=cx++cy)
theorem ac5(hE:ap P E){T ty e:TypeId}{t:Ty}(hT:E.ty T=some (.sl e t))(hk:0<t.cells)(nG:E.bytes e≠0){xs ys:List (El t)}{vb vx:Value}{pl:Place}
 (bU:bq X pl e t.cells xs.length vb) {cx cy:List Value} (rx:bh X (.arr xs.length t) xs cx) (sx:∀g m c,vb= .slice (some ⟨g,0,none⟩) m c->∀(i:Nat) v,cx[i]? =some v->X.az ((⟨g,0,none⟩:Addr).add i) v)
 (ry:bh X (.arr ys.length t) ys cy) (hvx:∃A c,vx= .slice A ys.length c/\(A=none->ys=[])/\∀ad,A=some ad->∀(i:Nat) v,cy[i]? =some v->X.az (ad.add i) v)
 (hbound:(xs.length+ys.length)*E.bytes e<=140737488355328):
 ∃v' w',(Builtin.append_ #[T,T] ty #[vb,vx]).run P X.w= .ok v' w'/\Grown X.w w' e t.cells vb v' cx cy (xs.length+ys.length)/\(v'= .slice none 0 0->xs.length+ys.length=0):=by
 obtain⟨hu,he⟩:=(hE.ty T _ hT).dt
 obtain⟨i,hi,b8,gh,hz⟩:=(hE.ty e t he).info
 have hzs:(dR t (zp t)).cells.size=t.cells:=by rw[vw (sr X t)];simp [uZ]
 have xp:cx.length=xs.length*t.cells:=rx.2.1
 have ue:cy.length=ys.length*t.cells:=ry.2.1
 have h1:∀u∈cy,u.oneCell'=true:=ry.one
 have hle:xs.length+ys.length<=140737488355328:=Nat.le_trans (Nat.le_mul_of_pos_right _ (Nat.pos_of_ne_zero nG)) hbound
 have An:xs.length+ys.length<=maxLen:=by simp only[maxLen];omega
 obtain⟨A,c,rfl,hA,Gg⟩:=hvx
 cases A with
 |none=>
  have ux:=hA rfl
  subst ux
  have Zg:cy=[]:=List.eq_nil_of_length_eq_zero (by simpa using ue)
  subst Zg
  rcases bU with⟨rfl,hn⟩|⟨g,cap,cur,rfl,hg,Kc,rX,eD,how⟩
  ·refine⟨.slice none 0 0,X.w,?_,.same rfl rfl rfl,fun _=>by simp [hn]⟩
   simp [Builtin.append_,run_underlying hu,sizeOf,typeInfo,hi,Builtin.lenOf,Builtin.firstCells]
  ·refine⟨_,X.w,?_,.same rfl rfl rfl,fun e=>by cases e⟩
   simp [Builtin.append_,run_underlying hu,sizeOf,typeInfo,hi,Builtin.lenOf,Builtin.firstCells,Kc,storeCells]
 |some ad=>
  have ZA:∀j u,cy[j]? =some u->X.w.cell? (ad.add j)=some u:=fun j u hj=>(Gg ad rfl j u hj).2.1
  have l9:∀(old:Nat),(cx.toArray++cy.toArray++Builtin.zeroCells (dR t (zp t)).cells (grownCap X.w (xs.length+ys.length) old e-(xs.length+ys.length))).size=grownCap X.w (xs.length+ys.length) old e*t.cells/\
   (cx.toArray++cy.toArray++Builtin.zeroCells (dR t (zp t)).cells (grownCap X.w (xs.length+ys.length) old e-(xs.length+ys.length))).toList.take ((xs.length+ys.length)*t.cells)=cx++cy:=by
   intro old
   have RU:=grownCap_ge X.w (xs.length+ys.length) old e
   refine⟨?_,?_⟩
   ·simp only[Array.size_append,List.size_toArray,size_zeroCells,hzs,xp,ue,<-Nat.add_mul]
    congr 1
    omega
   ·have hl:(cx++cy).length=(xs.length+ys.length)*t.cells:=by rw[List.length_append,xp,ue,Nat.add_mul]
    rw[<-hl]
    simp only[Array.toList_append]
    exact List.take_left
  rcases bU with⟨rfl,hn⟩|⟨g,cap,cur,rfl,hg,Kc,rX,eD,how⟩
  ·have xi:cx=[]:=List.eq_nil_of_length_eq_zero (by rw[xp,hn,Nat.zero_mul])
   subst xi
   by_cases hm:ys.length=0
   ·have Zg:cy=[]:=List.eq_nil_of_length_eq_zero (by rw[ue,hm,Nat.zero_mul])
    subst Zg
    refine⟨.slice none 0 0,X.w,?_,.same rfl rfl rfl,fun _=>by omega⟩
    simp [Builtin.append_,run_underlying hu,sizeOf,typeInfo,hi,Builtin.lenOf,Builtin.firstCells,hm,loadCells,loadCellsFrom]
   ·have AK:xs.length=0:=hn
    rw[AK,Nat.zero_add] at hbound hle An
    have hr:=run_append_nil (P:=P) X.w T ty e i (dR t (zp t)) hu hi hz ad ys.length c cy (by rw[b8];exact ue) ZA (by omega) (by omega) (by rw[gh];omega)
    obtain⟨c1,c2⟩:=l9 0
    have RU:=grownCap_ge X.w (xs.length+ys.length) 0 e
    have rX:=grownCap_le_maxLen X.w (xs.length+ys.length) 0 e (by rw[AK,Nat.zero_add];exact An)
    refine⟨_,_,hr,.new (grownCap X.w (xs.length+ys.length) 0 e) _ (by rw[AK,Nat.zero_add]) RU rX ?_ c1 c2,fun e=>by cases e⟩
    rw[AK,Nat.zero_add]
    simp
  ·by_cases nh:xs.length+ys.length<=cap
   ·have dg:xs.length*i.size+cy.length<=cur.size:=by rw[b8,ue,eD,<-Nat.add_mul];exact Nat.mul_le_mul_right _ nh
    have hr:=run_append_room (P:=P) X.w T ty e i hu hi g xs.length cap cur hg ad ys.length c cy (by rw[b8];exact ue) ZA h1 nh dg
    refine⟨_,_,hr,.room g cap cur _ ⟨_,rfl⟩ hg rfl nh rX rfl ?_ ?_,fun e=>by cases e⟩
    ·simp only[List.size_toArray,List.length_append,List.length_take,List.length_drop,Array.length_toList]
     omega
    ·have ni:cur.toList.take (xs.length*i.size)=cx:=by
      rw[b8]
      apply List.ext_getElem?
      intro q
      by_cases hq:q<xs.length*t.cells
      ·rw[List.getElem?_take,if_pos hq]
       have Kv:=List.getElem?_eq_getElem (l:=cx) (i:=q) (by rw[xp];exact hq)
       have:=(sx g _ _ rfl q _ Kv).2.1
       rw[iM,Nat.zero_add] at this
       simp only[World.cell?,hg] at this
       rw[Kv]
       simpa using this
      ·rw[List.getElem?_eq_none (by rw[List.length_take];omega),List.getElem?_eq_none (by omega)]
     have hl:(cx++cy).length=(xs.length+ys.length)*t.cells:=by rw[List.length_append,xp,ue,Nat.add_mul]
     rw[ni,<-hl]
     simp only[List.take_left]
   ·have holds:∀j u,cx[j]? =some u->X.w.cell? ((⟨g,0,none⟩:Addr).add j)=some u:=fun j u hj=>(sx g _ _ rfl j u hj).2.1
    have hr:=run_append_grow (P:=P) X.w T ty e i (dR t (zp t)) hu hi hz ⟨g,0,none⟩ xs.length cap cx (by rw[b8];exact xp) holds ad ys.length c cy (by rw[b8];exact ue) ZA (by omega) (by omega) (growslice_fits (by omega) (by rw[gh];exact hbound))
    obtain⟨c1,c2⟩:=l9 cap
    exact⟨_,_,hr,.new _ _ rfl (grownCap_ge _ _ _ _) (grownCap_le_maxLen _ _ _ _ An) rfl c1 c2,fun e=>by cases e⟩
theorem bq.Y1{X:ax}{s:State}{pl:Place}{e:TypeId}{k n:Nat}{v:Value}(h:bq X pl e k n v)(hf:¬cV s pl)(q:Place):∃Y,dX s X Y/\bq Y q e k n v:=by
 rcases h with h|⟨g,cap,cur,h1,h2,h3,h4,h5,h6⟩
 ·exact⟨X,dX.refl s X,.inl h⟩
 ·refine⟨{X with ow:=fun g'=>if g'=g then .row q (n*k) else X.ow g'},⟨rfl,rfl,fun g'=> ?_⟩,.inr ⟨g,cap,cur,h1,h2,h3,h4,h5,by simp⟩⟩
  by_cases e:g'=g
  ·subst e;exact .inr ⟨pl,_,q,h6,hf,by simp⟩
  ·exact .inl (by simp [e])
theorem aor{R:Type}{t t':Ty}{x:El t'}{w:List (List Nat)}{K:El t->Option R}{z:R}(h:(SV.ak t' x w).el t K=some z):∃he:t'.cn t=true,K (Ty.cast he x)=some z:=by
 simp only[SV.el] at h
 split at h
 ·rename_i he;exact⟨he,h⟩
 ·cases h
theorem acw(hE:ap P E)(hr:Rel X s a){ops:List Oper}{dM:Array Operand}{ts:Array TypeId}(ho:o.op= .call ⟨.builtin .append,dM,ts⟩){C:FuncId->bW Out}(h:act E C ops o s some=some u):aI P X s a o u:=by
 unfold act at h
 simp only[ho] at h
 split at h
 case h_2=>cases h
 rename_i b x T U se B3
 have has:dM= #[b,x]:=by rw[<-Array.toArray_toList (xs:=dM),se]
 have kG:ts= #[T,U]:=by rw[<-Array.toArray_toList (xs:=ts),B3]
 subst has kG
 have hb:=hr.aH b
 have hx:=hr.aH x
 unfold QJ at h
 split at h
 case isTrue=>cases h
 rename_i hTU
 have hTU:T=U:=by
  have:T.beq U=true:=by cases tV:Nat.beq T U<;>simp_all
  exact Nat.eq_of_beq_eq_true this
 subst hTU
 split at h
 case h_2=>cases h
 rename_i e t hT
 split at h
 case isTrue=>cases h
 rename_i h0
 have h0:Nat.beq (E.bytes e) 0=false/\Nat.beq t.cells 0=false:=by
  cases h1:Nat.beq (E.bytes e) 0<;>cases h2:Nat.beq t.cells 0<;>simp_all
 have nG:E.bytes e≠0:=fun e0=>by rw[e0] at h0;simp at h0
 have hk:0<t.cells:=by
  rcases Nat.eq_zero_or_pos t.cells with e0|e0
  ·rw[e0] at h0;simp at h0
  ·exact e0
 have key:∀(xs ys:List (El t)) (cl:List (Nat×Nat)) (pl:Place),¬cV (s.close cl) pl->bq X pl e t.cells xs.length (a.eval b)->bh X (.sl e t) xs [a.eval b]->bh X (.sl e t) ys [a.eval x]->
  (xs.length+ys.length)*E.bytes e<=140737488355328->aI P X s a o {v:=[.ak (.sl e t) (xs++ys:List (El t)) [[]]],cl:=cl}:=by
  intro xs ys cl pl Ge bU CM lG hbound
  obtain⟨A1,c1,AG,AW⟩:=CM
  have e1:a.eval b= .slice A1 xs.length c1:=by simpa using AG
  obtain⟨A2,c2,Kt,KU⟩:=lG
  have e2:a.eval x= .slice A2 ys.length c2:=by simpa using Kt
  obtain⟨_,_,cx,rx,_,sx⟩:=zay (X:=X) (e:=e) (show bh X (.sl e t) xs [.slice A1 xs.length c1] from⟨A1,c1,rfl,AW⟩)
  obtain⟨_,_,cy,ry,ny,sy⟩:=zay (X:=X) (e:=e) (show bh X (.sl e t) ys [.slice A2 ys.length c2] from⟨A2,c2,rfl,KU⟩)
  have sx':∀g m c,a.eval b= .slice (some ⟨g,0,none⟩) m c->∀(i:Nat) v,cx[i]? =some v->X.az ((⟨g,0,none⟩:Addr).add i) v:=by
   intro g m c hv
   rw[e1] at hv
   injection hv with hA
   exact sx _ hA
  obtain⟨v',w',aX,Cd,uh⟩:=ac5 (ty:=o.type) hE hT hk nG bU rx sx' ry ⟨A2,c2,e2,ny,sy⟩ hbound
  have xp:cx.length=xs.length*t.cells:=rx.2.1
  have ue:cy.length=ys.length*t.cells:=ry.2.1
  have Km:(execOp a.eval o).run P X.w= .ok (.value v') w':=by
   simp only[execOp,ho,resolve,invoke,builtin,Sem.run_bind,Sem.run_pure,Result.andThen_ok,List.map_toArray,List.map_cons,List.map_nil,aX]
  have fin:∀(Y:ax),Y.w=w'->Mod (s.close cl) X Y->bh Y (.arr (xs.length+ys.length) t) (xs++ys:List (El t)) (cx++cy)->bq Y (.c (o.dst.getD 0) 0 []) e t.cells (xs.length+ys.length) v'->
   bh Y (.sl e t) (xs++ys:List (El t)) [v']->aI P X s a o {v:=[.ak (.sl e t) (xs++ys:List (El t)) [[]]],cl:=cl}:=by
   intro Y hY hm eP ZC Cn
   refine⟨Y,v',.inl (by rw[hY];exact Km),hm.ext,((hr.close cl).mod hm).fin ⟨[v'],Cn,rfl,OE ?_⟩ (fun id t p Gd=>by simp at Gd)⟩
   rw[List.length_append]
   exact ZC
  cases Cd with
  |same h1 h2 h3=>
   subst h2
   have hy0:ys=[]:=by
    have:ys.length=0:=by
     rcases Nat.mul_eq_zero.1 (show ys.length*t.cells=0 by rw[<-ue,h3];rfl) with h|h
     ·exact h
     ·omega
    exact List.eq_nil_of_length_eq_zero this
   subst hy0
   obtain⟨Y,mz,hO2⟩:=bq.Y1 (s:=s.close cl) bU Ge (.c (o.dst.getD 0) 0 [])
   refine fin Y (by rw[mz.w,h1]) mz.mod ?_ (by simpa using hO2) ?_
   ·have:=(Gp rx ry)
    exact this.aj (fun _ _=>mz.az.1)
   ·rw[List.append_nil]
    exact bh.aj (fun _ _=>mz.az.1) (show bh X (.sl e t) xs [a.eval b] from⟨A1,c1,AG,AW⟩)
  |new cap fY hv hn hm hw hs ht=>
   let Y:ax:=⟨w',fun g=>if g=X.w.heap.size then .row (.c (o.dst.getD 0) 0 []) ((xs.length+ys.length)*t.cells) else X.ow g,X.β⟩
   have xm:eN (s.close cl) X Y:=⟨by simp [Y,hw],by simp only[Y,hw];rfl,by simp only[Y,hw];rfl,by simp only[Y,hw];rfl,fun g hg=>⟨by simp only[Y];rw[if_neg (by omega)],by simp only[Y,hw];exact RowKit.Below.heap_alloc _ _ _ hg⟩,rfl,fun _ _ _=>rfl⟩
   have aE:Y.w.heap[X.w.heap.size]? =some (.cells fY e (0,0)):=by simp only[Y,hw];exact heap_alloc_new X.w.drew _
   have how:Y.ow X.w.heap.size= .row (.c (o.dst.getD 0) 0 []) ((xs.length+ys.length)*t.cells):=by simp [Y]
   have aL:=(Gp rx ry).aj (fun _ _=>xm.az)
   refine fin Y rfl xm.mod aL (.inr ⟨_,cap,fY,hv,aE,hn,hm,hs,how⟩) ?_
   rw[hv,<-List.length_append]
   exact zit (cs:=cx++cy) aE (by rw[List.length_append];exact how) (by rw[List.length_append];exact ht) (by rw[List.length_append];exact aL) (by rw[List.length_append];exact hn)
  |room g cap cur fY kc hg hv hn hm hw hs ht=>
   obtain⟨m,B4⟩:=kc
   rcases bU with⟨hz,_⟩|⟨g',xb,JG,ji,F8,Kc,rX,eD,how⟩
   ·rw[hz] at B4;cases B4
   have Cc:g'=g:=by rw[B4] at ji;injection ji with h1;injection h1 with h1;injection h1 with h1;exact h1.symm
   subst Cc
   have Zf:JG=cur:=by rw[hg] at F8;cases F8;rfl
   subst Zf
   have ar:=vE hg
   let Y:ax:=⟨w',fun k=>if k=g' then .row (.c (o.dst.getD 0) 0 []) ((xs.length+ys.length)*t.cells) else X.ow k,X.β⟩
   have aE:Y.w.heap[g']? =some (.cells fY e (0,0)):=by simp only[Y,hw];exact setRow_heap X.w g' JG fY e (0,0) hg
   have oq:Y.ow g'= .row (.c (o.dst.getD 0) 0 []) ((xs.length+ys.length)*t.cells):=by simp [Y]
   have eh:∀ad v,X.az ad v->Y.az ad v:=by
    intro ad v jM
    by_cases heq:ad.block=g'
    ·obtain⟨k1,k2,k3⟩:=jM
     rw[heq,how] at k3
     have k3:ad.off<xs.length*t.cells:=k3
     have had:ad=(⟨g',0,none⟩:Addr).add ad.off:=by rw[iM,Nat.zero_add];cases ad;simp_all
     have Kv:=List.getElem?_eq_getElem (l:=cx) (i:=ad.off) (by rw[xp];exact k3)
     have xi:=(sx' g' _ _ B4 ad.off _ Kv).2.1
     rw[<-had,k2] at xi
     refine⟨k1,?_,?_⟩
     ·have hq:fY.toList[ad.off]? =some v:=by
       have:=congrArg (fun l=>l[ad.off]?) ht
       simp only[List.getElem?_take] at this
       have hle:xs.length*t.cells<=(xs.length+ys.length)*t.cells:=Nat.mul_le_mul_right _ (Nat.le_add_right _ _)
       rw[if_pos (by omega),List.getElem?_append_left (by rw[xp];exact k3),Kv] at this
       rw[this];exact xi.symm
      simp only[World.cell?,heq,aE,k1]
      simpa using hq
     ·rw[heq,oq]
      have hle:xs.length*t.cells<=(xs.length+ys.length)*t.cells:=Nat.mul_le_mul_right _ (Nat.le_add_right _ _)
      show ad.off<_
      omega
    ·refine⟨jM.1,?_,?_⟩
     ·have:=jM.2.1
      simp only[World.cell?,Y,hw] at this⊢
      rw[setRow_other X.w g' ad.block fY heq]
      exact this
     ·simp only[Y]
      rw[if_neg heq]
      exact jM.2.2
   have Cl:Mod (s.close cl) X Y:=⟨eh,by simp [Y,hw],by simp only[Y,hw];rfl,by simp only[Y,hw];rfl,by simp only[Y,hw];rfl,rfl,fun _ _ _=>rfl,fun k hk=>by
    by_cases heq:k=g'
    ·subst heq;exact .inr ⟨pl,_,how,Ge⟩
    ·refine .inl ⟨by simp only[Y];rw[if_neg heq],?_⟩
     simp only[Y,hw]
     exact setRow_other X.w g' k fY heq⟩
   have aL:=(Gp rx ry).aj eh
   refine fin Y rfl Cl aL (.inr ⟨_,cap,fY,hv,aE,hn,hm,hs,oq⟩) ?_
   rw[hv,<-List.length_append]
   exact zit (cs:=cx++cy) aE (by rw[List.length_append];exact oq) (by rw[List.length_append];exact ht) (by rw[List.length_append];exact aL) (by rw[List.length_append];exact hn)
 split at h
 ·rename_i je
  rw[je] at hb
  obtain⟨ys,h,ux⟩:=zy h
  cases hd:decide (List.length ys*E.bytes e<=140737488355328) with
  |false=>rw[hd] at h;cases h
  |true=>
   rw[hd] at h
   cases h
   obtain⟨cs,lG,ev⟩:=ux X _ _ hx
   have B4:a.eval b= .slice none 0 0:=hb
   have uk:cs=[a.eval x]:=by
    obtain⟨A,c,eD,_⟩:=lG
    rw[ev,eD];rfl
   have:=key [] ys [] (.r 0 []) (fun hf=>hf) (.inl ⟨B4,rfl⟩) (by rw[B4];exact⟨none,0,rfl,Nat.le_refl _,fun j x hj=>by simp at hj⟩) (by rw[<-uk];exact lG) (by simpa using of_decide_eq_true hd)
   simpa using this
 ·rename_i t' xs0 xI je
  rw[je] at hb
  split at h
  case isTrue=>cases h
  rename_i JX
  have JX:gL xI []=true:=by cases tV:gL xI []<;>simp_all
  obtain⟨heq,h⟩:=aor h
  have:=Ty.aJ heq
  subst this
  obtain⟨ys,h,ux⟩:=zy h
  cases hd:decide ((List.length (Ty.cast heq xs0)+List.length ys)*E.bytes e<=140737488355328) with
  |false=>rw[hd] at h;cases h
  |true=>
   rw[hd] at h
   cases h
   obtain⟨cs,lG,ev⟩:=ux X _ _ hx
   have cE:=A7 JX
   obtain⟨i,rfl⟩:=amQ je (fun e=>by rw[e] at cE;cases cE)
   obtain⟨cs1,r1,RS,hO⟩:=hb
   have uk:cs=[a.eval x]:=by
    obtain⟨A,c,eD,_⟩:=lG
    rw[ev,eD];rfl
   have Az:cs1=[a.eval (.tmp i)]:=by
    obtain⟨A,c,eD,_⟩:=r1
    rw[RS,eD];rfl
   obtain⟨e',t'',xs',v',_,g1,g2,g3⟩:=hO [] cE
   simp only[El.get,Option.some.injEq,Sigma.mk.injEq,Ty.sl.injEq] at g1
   obtain⟨⟨rfl,rfl⟩,g1⟩:=g1
   cases g1
   have ji:v'=a.eval (.tmp i):=by
    rw[Az] at g2
    simpa [Ty.off] using g2.symm
   rw[ji] at g3
   exact key xs0 ys [(i,0)] (.c i 0 []) cV.close g3 (by rw[<-Az];exact r1) (by rw[<-uk];exact lG) (of_decide_eq_true hd)
 ·cases h
end Go.Ref

namespace Go.Ref
open Go
variable {P:Program} {E:Env} {X:ax} {s:State} {a:Act} {o:Oper} {u:Out}
def ax.obj(X:ax)(r:Nat)(b:Obj):ax:={X with w:={X.w with heap:=X.w.heap.setIfInBounds r b}}
theorem Gx{r g:Nat}{b:Obj}(h:g≠r):(X.obj r b).w.heap[g]? =X.w.heap[g]? :=by
 simp [ax.obj,Ne.symm h]
theorem Np{r:Nat}{b b':Obj}(h:X.w.heap[r]? =some b'):(X.obj r b).w.heap[r]? =some b:=(MapKept.heap_set h).1
theorem E5{r id:Nat}{b:Obj}(h:X.ow r= .box id){ad:Addr}{v:Value}(hs:X.az ad v):(X.obj r b).az ad v:=by
 have bM:ad.block≠r:=fun e=>by
  have:=hs.2.2
  rw[e,h] at this
  exact this
 refine⟨hs.1,?_,hs.2.2⟩
 have:=hs.2.1
 simp only[World.cell?] at this⊢
 rw[Gx bM]
 exact this
theorem OB{r id:Nat}{b:Obj}(h:X.ow r= .box id):Ext X (X.obj r b) where
 az:=fun _ _=>E5 h
 size:=by simp [ax.obj]
 os:=rfl
 tape:=rfl
 output:=rfl
 β0:=rfl
 still:=fun g _ bR=>by
  have bM:g≠r:=fun e=>by rw[e,h] at bR;exact bR
  exact⟨rfl,Gx bM⟩
theorem bq.obj{r id:Nat}{b:Obj}(h:X.ow r= .box id){pl:Place}{e:TypeId}{k n:Nat}{v:Value}(ho:bq X pl e k n v):bq (X.obj r b) pl e k n v:=by
 rcases ho with ho|⟨g,cap,cur,h1,h2,h3,h4,h5,h6⟩
 ·exact .inl ho
 ·have bM:g≠r:=fun e=>by rw[e,h] at h6;cases h6
  exact .inr ⟨g,cap,cur,h1,(Gx bM).trans h2,h3,h4,h5,h6⟩
theorem bm.obj{r id:Nat}{b:Obj}(h:X.ow r= .box id){pl:List Nat->Place}{t:Ty}{x:El t}{c:List Value}{own:List (List Nat)}(ho:bm X pl t x c own):bm (X.obj r b) pl t x c own:=fun p hp=>by
 obtain⟨e,t',xs,v,g0,g1,g2,g3⟩:=ho p hp
 exact⟨e,t',xs,v,g0,g1,g2,g3.obj h⟩
theorem aA.obj{r id:Nat}{b:Obj}(h:X.ow r= .box id){pl:List Nat->Place}{sv:SV}{v:Value}(hk:∀bc c d j,sv= .bz bc c d j->bc≠id)(hr:aA X pl sv v):aA (X.obj r b) pl sv v:=by
 cases sv with
 |ak t x own=>
  obtain⟨c,h1,h2,h3⟩:=hr
  exact⟨c,h1.aj (fun _ _=>E5 h),h2,h3.obj h⟩
 |view t x=>
  obtain⟨ad,c,h1,h2,h3,h4⟩:=hr
  exact⟨ad,c,h1,h2,h3.aj (fun _ _=>E5 h),fun i u hi=>E5 h (h4 i u hi)⟩
 |cap f t x u y=>exact rN (fun _ _=>E5 h) hr
 |bz bc c d j=>
  obtain⟨r',h1,h2,h3⟩:=hr
  have bM:r'≠r:=fun e=>by rw[e,h] at h2;injection h2 with h2;exact hk bc c d j rfl h2.symm
  refine⟨r',h1,h2,?_⟩
  simp only[World.cell?] at h3⊢
  rw[show(X.obj r b).w.heap[r']? =X.w.heap[r']? from Gx bM];exact h3
 |_=>exact hr
theorem Rel.obj{r id:Nat}{B B':bE}{b:Obj}(hr:Rel X s a)(hb:s.bs[id]? =some (some B))(hβ:X.β id=some r)(h:X.ow r= .box id)(hB:bF (X.obj r b) id r B')(hg:B.t.eJ=false\/ []∈B.own):Rel (X.obj r b) (s.aC (some (id,B'))) a where
 size:=hr.size
 gM:=by simpa [State.aC] using hr.gM
 bS:=fun i l v hl hv=>(hr.bS i l v hl hv).iT fun j sv u hm jM=>jM.obj h (fun bc c d k e e2=>hr.oI hb hg i l c d k hl (e2▸e▸List.mem_of_getElem? hm))
 boxes:=fun bc B2 cU=>by
  have ar:id<s.bs.length:=(List.getElem?_eq_some_iff.1 hb).1
  simp only[State.aC,List.getElem?_set] at cU
  by_cases e:id=bc
  ·subst e
   rw[if_pos rfl,if_pos ar] at cU
   cases cU;exact⟨r,hβ,hB⟩
  ·rw[if_neg e] at cU
   obtain⟨r',h1,h4,h2⟩:=hr.boxes bc B2 cU
   have bM:r'≠r:=fun e2=>by rw[e2,h] at h4;cases h4;exact e rfl
   exact⟨r',h1,h4,h2.move (fun _ _=>E5 h) (Gx bM) (fun cs h5=>h5.obj h) fun _ _ g o _ ho hw=>⟨(Gx (fun e3=>by rw[e3,h] at hw;cases hw)).trans ho,hw⟩⟩
 live:=fun i l bc t p hi hm=>by
  have ar:id<s.bs.length:=(List.getElem?_eq_some_iff.1 hb).1
  obtain⟨B2,cU⟩:=hr.live i l bc t p hi hm
  simp only[State.aC,List.getElem?_set]
  by_cases e:id=bc
  ·subst e;exact⟨B',by rw[if_pos rfl,if_pos ar]⟩
  ·rw[if_neg e];exact⟨B2,cU⟩
 defers:=hr.defers
 bz:=hr.bz.aC (hr.oI hb hg)
def ax.kR(X:ax)(b:Obj)(w:Ow)(β:Nat->Option Nat):ax:={w:=X.w.alloc b,ow:=fun g=>if g=X.w.heap.size then w else X.ow g,β}
theorem L3(X:ax)(s:State)(b:Obj)(w:Ow)(β:Nat->Option Nat)(hβ0:β 0=X.β 0)(hβ:∀(id:Nat) B,s.bs[id]? =some (some B)->β id=X.β id):eN s X (X.kR b w β) where
 size:=by simp [ax.kR]
 os:=rfl
 tape:=rfl
 output:=rfl
 mW:=fun g hg=>⟨by simp only[ax.kR];rw[if_neg (by omega)],RowKit.Below.heap_alloc _ _ _ hg⟩
 β0:=hβ0
 β:=hβ
theorem zhz(hr:Rel X s a){t p:Ty}{x:El t}{b:Obj}{v:Value}(aX:(execOp a.eval o).run P X.w= .ok (.value v) (X.w.alloc b))
 (JY:∀Y:ax,(∀ad v,X.az ad v->Y.az ad v)->Y.w.heap[X.w.heap.size]? =some b->∀pl,dy Y X.w.heap.size pl t x []) (ox:nv p [] X.w.heap.size v) (h:kq s o.dst t x p some=some u):aI P X s a o u:=by
 unfold kq at h
 split at h
 case h_2=>cases h
 rename_i d hd
 split at h
 case h_2=>cases h
 rename_i hb
 cases h
 let β:Nat->Option Nat:=fun id=>if id=d+1 then some X.w.heap.size else X.β id
 have ar:d+1<s.bs.length:=(List.getElem?_eq_some_iff.1 hb).1
 have hk:eN s X (X.kR b (.box (d+1)) β):=L3 X _ _ _ _ (by show(if _ then _ else _)=_;rw[if_neg (by omega)]) (fun id B hB=>by
  show(if id=d+1 then _ else _)=_
  rw[if_neg (fun e=>by rw[e,hb] at hB;cases hB)])
 have bL:bF (X.kR b (.box (d+1)) β) (d+1) X.w.heap.size ⟨t,x,[]⟩:=⟨by simp [ax.kR],JY _ (fun _ _=>hk.az) (heap_alloc_new X.w _) _⟩
 have hβd:β (d+1)=some X.w.heap.size:=by show(if d+1=d+1 then _ else _)=_;rw[if_pos rfl]
 have eP:=(hr.dv hk).fp ar hb hβd bL
 refine⟨X.kR b (.box (d+1)) β,v,.inl aX,hk.ext,?_⟩
 rw[hd]
 refine eP.put (fun d' e=> ?_) (fun id t' q hm=> ?_)
 ·cases e
  exact⟨X.w.heap.size,hβd,ox⟩
 ·have:id=d+1:=by have:=hm;simp at this;exact this.1
  subst this
  exact⟨⟨t,x,[]⟩,by simp [State.aC,List.getElem?_set,ar]⟩
def ki:(t:Ty)->El t->Value
 | .bool,b=> .bool b
 | .int k,n=> .int k n
 | .str,x=> .string x
 |_,_=>Go.undef
def Ty.iF:Ty->Bool
 | .bool| .int _| .str=>true
 |_=>false
theorem zqz{t:Ty}(hk:t.iF=true){x:El t}{v:Value}(h:eB X t x v):v=ki t x:=by
 obtain⟨cs,h1,h2⟩:=h
 cases t<;>simp [Ty.iF] at hk
 ·rw[h2,vC h1];rfl
 ·rw[h2,lM h1];rfl
 ·rw[h2,z28 h1];rfl
theorem Pk{T:TypeId}{t:Ty}(hE:ap P E)(hT:E.ty T=some t)(hk:t.iF=true)(x:El t):∃d,P.underlying T=some d/\MapKept.IsKey d (ki t x)/\∀y,Instr.sameNow d (ki t x) (ki t y)=some (gd t x y):=by
 have hu:=(hE.ty T t hT).dt
 cases t<;>simp [Ty.iF] at hk
 ·have hu:P.underlying T=some .bool:=hu
  exact⟨_,hu,trivial,fun y=>by cases x<;>cases y<;>rfl⟩
 ·have hu:P.underlying T=some (.int _):=hu
  refine⟨_,hu,by simp [MapKept.IsKey,ki],fun y=> ?_⟩
  simp only[Instr.sameNow,ki,if_true,gd]
  congr 1
 ·have hu:P.underlying T=some .string:=hu
  refine⟨_,hu,trivial,fun y=> ?_⟩
  simp only[Instr.sameNow,ki,gd]
  congr 1
  by_cases e:x=y
  ·rw[decide_eq_true e];exact(MapKept.bytes_beq _ _).2 e
  ·rw[decide_eq_false e]
   cases hb:(x==y) with
   |false=>rfl
   |true=>exact absurd ((MapKept.bytes_beq _ _).1 hb) e
theorem M3{kt vt:Ty}{d:TypeDesc}{k:El kt}(hk:kt.iF=true)(hs:∀y,Instr.sameNow d (ki kt k) (ki kt y)=some (gd kt k y)):∀(es:List MapEntry) (xs:List (El kt×El vt)) (i:Nat),es.length=xs.length->
 (∀(i:Nat) q e,xs[i]? =some q->es[i]? =some e->eB X kt q.1 e.key/\eB X vt q.2 e.val)->
 (ff (gd kt) xs k=false/\fe (gd kt) (El.bV vt) xs k=El.bV vt/\Instr.findNow d (ki kt k) es i=some none)\/(ff (gd kt) xs k=true/\∃j v,Instr.findNow d (ki kt k) es i=some (some (j,v))/\eB X vt (fe (gd kt) (El.bV vt) xs k) v)
 | [],[],i,_,_=> .inl ⟨rfl,rfl,rfl⟩
 |e::es,q::xs,i,hl,hp=>by
  obtain⟨h1,h2⟩:=hp 0 q e rfl rfl
  have hke:=zqz hk h1
  have jh:=hs q.1
  rw[<-hke] at jh
  simp only[Instr.findNow,jh,ff,fe]
  cases heq:gd kt k q.1 with
  |true=>exact .inr ⟨rfl,i,e.val,rfl,h2⟩
  |false=>exact M3 hk hs es xs (i+1) (by simpa using hl) (fun i q e hq he=>hp (i+1) q e (by simpa using hq) (by simpa using he))
 | [],_::_,_,hl,_=>by simp at hl
 |_::_,[],_,hl,_=>by simp at hl
theorem zvl:∀{t:Ty},t.hJ=true->t.depth<=2
 | .unit,_=>by decide
 | .pair (.int _) b,h=>by
   have:=zvl (t:=b) h
   simp only[Ty.depth];omega
theorem Ou:∀{t:Ty},t.hJ=true->∀x y:El t,dI t x y=some (vj t x y)
 | .unit,_,_,_=>rfl
 | .pair (.int _) b,h,x,y=>by
   have:=Ou (t:=b) h x.2 y.2
   simp only[dI,this,vj]
theorem gW(hE:ap P E){xs:Array Value}(w:World)(em:Bool)(n:Nat):
 ∀(fl:List Field) (t:Ty) (off:Nat),ju E fl t off->t.hJ=true->∀(x:El t) (c1:List Value),bh X t x c1->(xs.toList.drop off).take t.cells=c1->
  (forIn fl () fun(f:Field) (_:Unit)=>(if f.name≠ "_" then do
    let __do_lift<-part f.type xs f.offset
    Instr.checkKey em (n+1) f.type __do_lift
    pure (ForInStep.yield ()) else pure (ForInStep.yield ()):Sem (ForInStep Unit))).run P w= .ok () w:=by
 intro fl
 induction fl with
 |nil=>intro t off hf hi x c1 h1 h3;simp [List.forIn_nil]
 |cons f fl Z5=>
  intro t off hf hi x c1 h1 h3
  cases t<;>simp only[ju] at hf<;>try exact hf.elim
  rename_i ta tb
  obtain⟨ho,Gh,hn,bH⟩:=hf
  obtain⟨ca,cb,e1,ra,rb⟩:=h1
  have la:=ra.len
  have t1:(xs.toList.drop off).take ta.cells=ca:=by
   have:=congrArg (fun l=>l.take ta.cells) (h3.trans e1)
   simp only[List.take_take,Ty.cells] at this
   rw[Nat.min_eq_left (Nat.le_add_right _ _),<-la,List.take_left] at this
   rw[<-la];exact this
  have u1:(xs.toList.drop (off+ta.cells)).take tb.cells=cb:=by
   have:=congrArg (fun l=>l.drop ta.cells) (h3.trans e1)
   simp only[Ty.cells] at this
   rw[List.drop_take,Nat.add_sub_cancel_left,List.drop_drop,<-la,List.drop_left] at this
   rw[<-la];exact this
  have ot:=E6 hE Gh ra (all:=xs) (off:=f.offset) (by rw[ho];exact t1) w
  cases ta<;>simp [Ty.hJ] at hi
  rename_i k
  have hu:P.underlying f.type=some (.int k):=(hE.ty f.type _ Gh).dt
  have F5:(Instr.checkKey em (n+1) f.type (dR (.int k) ca)).run P w= .ok () w:=by
   rw[lM ra]
   exact MapKept.run_checkKey hu (by simp [MapKept.IsKey]) em n
  rw[List.forIn_cons]
  simp only[hn,ne_eq,not_false_eq_true,if_true,Sem.run_bind,ot,F5,Result.andThen_ok,Sem.run_pure]
  exact Z5 tb _ bH hi x.2 cb rb u1
theorem z138{T:TypeId}{t:Ty}(hE:ap P E)(hT:E.ty T=some t)(hk:t.isKey=true){x:El t}{v:Value}(h:eB X t x v)(em:Bool)(w:World):(Instr.checkKey em 10000 T v).run P w= .ok () w:=by
 cases h1:t.iF with
 |true=>
  obtain⟨d,hd,RV,_⟩:=Pk hE hT h1 x
  rw[zqz h1 h]
  exact MapKept.run_checkKey hd RV em 9999
 |false=>
  have hu:=(hE.ty T t hT).dt
  cases t<;>simp [Ty.isKey,Ty.iF] at hk h1
  rename_i ta tb
  obtain⟨fs,iD,iS,R4,_⟩:=hu
  obtain⟨cs,hr,rfl⟩:=h
  rw[jJ rfl]
  unfold Instr.checkKey
  simp only[Sem.run_bind,run_underlying iD,Result.andThen_ok]
  rw[<-Array.forIn_toList]
  have:=gW (X:=X) hE (xs:=cs.toArray) w em 9998 fs.toList (.pair ta tb) 0 iS hk x cs hr (by have:=hr.len;simp only[List.drop_zero];rw[<-this];exact List.take_length)
  exact(congrArg (fun r=>Result.andThen r (fun a w'=>Sem.run P (pure ()) w')) this).trans (by simp)
theorem zod(hE:ap P E){T:TypeId}{kt vt:Ty}(hT:E.ty T=some kt)(hk:kt.hJ=true){k:El kt}{v:Value}(h:eB X kt k v)(w:World):∀(es:List MapEntry) (xs:List (El kt×El vt)) (i:Nat),es.length=xs.length->
 (∀(i:Nat) q e,xs[i]? =some q->es[i]? =some e->eB X kt q.1 e.key/\eB X vt q.2 e.val)->
 (ff (vj kt) xs k=false/\fe (vj kt) (El.bV vt) xs k=El.bV vt/\(Instr.findAsking T v es i).run P w= .ok none w)\/(ff (vj kt) xs k=true/\∃j u,(Instr.findAsking T v es i).run P w= .ok (some (j,u)) w/\eB X vt (fe (vj kt) (El.bV vt) xs k) u)
 | [],[],i,_,_=> .inl ⟨rfl,rfl,by simp [Instr.findAsking]⟩
 |e::es,q::xs,i,hl,hp=>by
  obtain⟨h1,h2⟩:=hp 0 q e rfl rfl
  obtain⟨c1,r1,rfl⟩:=h
  obtain⟨c2,r2,e2⟩:=h1
  have heq:(Op.equal T (dR kt c1) e.key).run P w= .ok (vj kt k q.1) w:=by
   rw[e2]
   exact LH (X:=X) hE w 10000 kt T hT (Nat.le_trans (zvl hk) (by decide)) k q.1 c1 c2 _ r1 r2 (Ou hk k q.1)
  unfold Instr.findAsking
  simp only[Sem.run_bind,heq,Result.andThen_ok,ff,fe]
  cases heq:vj kt k q.1 with
  |true=>exact .inr ⟨rfl,i,e.val,by simp,h2⟩
  |false=>exact zod hE hT hk ⟨c1,r1,rfl⟩ w es xs (i+1) (by simpa using hl) (fun i q e hq he=>hp (i+1) q e (by simpa using hq) (by simpa using he))
 | [],_::_,_,hl,_=>by simp at hl
 |_::_,[],_,hl,_=>by simp at hl
theorem Nf(hE:ap P E){T:TypeId}{kt vt:Ty}(hT:E.ty T=some kt)(hk:kt.isKey=true){k:El kt}{v:Value}(h:eB X kt k v)(w:World)(es:List MapEntry)(xs:List (El kt×El vt))(hl:es.length=xs.length)
 (hp:∀(i:Nat) q e,xs[i]? =some q->es[i]? =some e->eB X kt q.1 e.key/\eB X vt q.2 e.val):
 (ff (gd kt) xs k=false/\fe (gd kt) (El.bV vt) xs k=El.bV vt/\(Instr.findKey T v es).run P w= .ok none w)\/(ff (gd kt) xs k=true/\∃j u,(Instr.findKey T v es).run P w= .ok (some (j,u)) w/\eB X vt (fe (gd kt) (El.bV vt) xs k) u):=by
 cases h1:kt.iF with
 |true=>
  obtain⟨d,hd,RV,jh⟩:=Pk hE hT h1 k
  rw[zqz h1 h]
  rcases M3 (X:=X) h1 jh es xs 0 hl hp with⟨g1,g2,g3⟩|⟨g1,j,u,g3,g4⟩
  ·exact .inl ⟨g1,g2,MapKept.run_findKey hd g3⟩
  ·exact .inr ⟨g1,j,u,MapKept.run_findKey hd g3,g4⟩
 |false=>
  have hu:=(hE.ty T kt hT).dt
  cases kt<;>simp [Ty.isKey,Ty.iF] at hk h1
  rename_i ta tb
  obtain⟨fs,iD,_⟩:=hu
  have e:=run_findKey_eq (P:=P) w (k:=T) (by rw[iD]) v es
  have:=zod (X:=X) hE hT hk h w es xs 0 hl hp
  rw[e]
  exact this
theorem zvu{T:TypeId}{kt vt:Ty}(hE:ap P E)(h:np E T=some (kt,vt)):∃k e,P.underlying T=some (.map k e)/\E.ty k=some kt/\E.ty e=some vt/\kt.isKey=true:=by
 unfold np at h
 split at h
 case h_2=>cases h
 rename_i k e hm
 split at h
 case h_2=>cases h
 rename_i Z6 vt' h1 h2
 split at h
 case isFalse=>cases h
 rename_i hk
 cases h
 exact⟨k,e,hE.mp T k e hm,h1,h2,hk⟩
theorem zop{m:Operand}{kt vt:Ty}{R:Type}{K:Nat->List (El kt×El vt)->Option R}{z:R}(hr:Rel X s a)(h:vJ s (s.aH m) kt vt K=some z):
 ∃id B r xs,K id xs=some z/\s.bs[id]? =some (some B)/\X.β id=some r/\X.ow r= .box id/\a.eval m= .map (some r)/\B.t.eJ=false/\∃es clock,X.w.heap[r]? =some (.map es clock)/\es.size=xs.length/\
  ∀(i:Nat) (q:El kt×El vt) (e:MapEntry),xs[i]? =some q->es[i]? =some e->eB X kt q.1 e.key/\eB X vt q.2 e.val:=by
 have hx:=hr.aH m
 unfold vJ at h
 split at h
 case h_2=>cases h
 rename_i id Z6 vt' hm
 rw[hm] at hx
 obtain⟨r,hβ,hv⟩:=hx
 split at h
 case isFalse=>cases h
 split at h
 case h_2=>cases h
 rename_i B hB
 split at h
 case isFalse=>cases h
 rename_i dk
 have hb:=qB hB
 obtain⟨r',h1,h2,h3⟩:=hr.boxes id B hb
 rw[hβ] at h1
 cases h1
 refine⟨id,B,r,_,h,hb,hβ,h2,hv,by rw[Ty.aJ dk];rfl,?_⟩
 obtain⟨bt,bx,bo⟩:=B
 have e:=Ty.aJ dk
 simp only at e
 subst e
 exact h3
theorem ab6(hE:ap P E)(hr:Rel X s a){ops:List Oper}{T:TypeId}{rs:Option Operand}(ho:o.op= .makeMap T rs){C:FuncId->bW Out}(h:act E C ops o s some=some u):aI P X s a o u:=by
 unfold act at h
 cases rs with
 |some r=>simp only[ho] at h;cases h
 |none=>
  simp only[ho] at h
  split at h
  case h_2=>cases h
  rename_i kt vt hm
  refine zhz hr (t:= .aG .mp kt vt) (p:= .aG .mp kt vt) (x:=([]:List (El kt×El vt))) (b:= .map #[] 0) (v:= .map (some X.w.heap.size)) ?_ (fun Y _ hY pl=>⟨#[],0,hY,rfl,fun i q e hq=>by simp at hq⟩) rfl h
  simp [execOp,ho,Instr.makeMap]
theorem acz(hE:ap P E)(hr:Rel X s a){ops:List Oper}{T:TypeId}{x i:Operand}{ok:Bool}(ho:o.op= .lookup T x i ok){C:FuncId->bW Out}(h:act E C ops o s some=some u):aI P X s a o u:=by
 unfold act at h
 cases ok with
 |true=>simp only[ho] at h;cases h
 |false=>
  simp only[ho] at h
  unfold ly at h
  split at h
  case h_2=>cases h
  rename_i kt vt hm
  obtain⟨k,e,hu,hk,he,uc⟩:=zvu hE hm
  obtain⟨id,B,r,xs,h,hb,hβ,how,hv,hBg,es,clock,aE,di,fN⟩:=zop hr h
  obtain⟨key,h,Zs⟩:=zy h
  cases h
  obtain⟨ck,rk,evk⟩:=Zs X _ _ (hr.aH i)
  have F5:=z138 hE hk uc (X:=X) (x:=key) ⟨ck,rk,evk⟩ es.isEmpty X.w
  rcases Nf (X:=X) hE hk uc (k:=key) ⟨ck,rk,evk⟩ X.w es.toList xs (by simpa using di) (fun i q e hq he=>fN i q e hq (by simpa using he)) with⟨g1,g2,hf⟩|⟨g1,j,v,hf,g4⟩
  ·rw[g2]
   have hz:=Tc (P:=P) hE he X.w
   refine aI.plain hr (v:=dR vt (zp vt)) ?_ (Bk (sr X vt)) (fun _ _ _ e'=>by cases e')
   simp only[execOp,ho,Sem.run_bind,Instr.lookup,run_underlying hu,Result.andThen_ok,hv,MapKept.run_getObj_map aE,Sem.run_pure,F5,hf,hz,Bool.false_eq_true,if_false]
  ·obtain⟨cv,rv,ev⟩:=g4
   refine aI.plain hr (v:=v) ?_ ⟨cv,rv,ev,mE⟩ (fun _ _ _ e'=>by cases e')
   simp only[execOp,ho,Sem.run_bind,Instr.lookup,run_underlying hu,Result.andThen_ok,hv,MapKept.run_getObj_map aE,Sem.run_pure,F5,hf,Bool.false_eq_true,if_false]
theorem MX(hE:ap P E)(hr:Rel X s a){T:TypeId}{m k x:Operand}(ho:(execOp a.eval o).run P X.w=((Instr.mapUpdate T (a.eval m) (a.eval k) (a.eval x)).run P X.w).andThen fun _ w=> .ok .skip w)(h:mr E T s (s.aH m) (s.aH k) (s.aH x) some=some u):aI P X s a o u:=by
 unfold mr at h
 split at h
 case h_2=>cases h
 rename_i kt vt hm
 obtain⟨kT,eT,hu,hk,he,uc⟩:=zvu hE hm
 obtain⟨id,B,r,xs,h,hb,hβ,how,hv,hBg,es,clock,aE,di,fN⟩:=zop hr h
 obtain⟨key,h,Zs⟩:=zy h
 obtain⟨y,h,hyv⟩:=zy h
 obtain⟨ck,rk,BV⟩:=Zs X _ _ (hr.aH k)
 obtain⟨cy,ry,YW⟩:=hyv X _ _ (hr.aH x)
 have F5:=z138 hE hk uc (X:=X) (x:=key) ⟨ck,rk,BV⟩ false X.w
 rcases Nf (X:=X) hE hk uc (k:=key) ⟨ck,rk,BV⟩ X.w es.toList xs (by simpa using di) (fun i q e hq he=>fN i q e hq (by simpa using he)) with⟨g1,g2,hf⟩|⟨g1,j,v,hf,g4⟩
 ·rw[g1] at h
  cases h
  let new:Obj:= .map (es.push {key:=a.eval k,val:=a.eval x,born:=clock}) (clock+1)
  have aX:(execOp a.eval o).run P X.w= .ok .skip (X.obj r new).w:=by
   rw[ho]
   simp only[Instr.mapUpdate,Sem.run_bind,run_underlying hu,Result.andThen_ok,hv,MapKept.run_getObj_map aE,F5,hf,MapKept.run_setObj_map _ aE]
   simp only[new]
   rfl
  have bL:bF (X.obj r new) id r ⟨.aG .mp kt vt,(xs++ [(key,y)]:List (El kt×El vt)),[]⟩:=by
   refine⟨how,es.push {key:=a.eval k,val:=a.eval x,born:=clock},clock+1,Np aE,by simp [di],fun i q e hq he=> ?_⟩
   have hs:∀ad v,X.az ad v->(X.obj r new).az ad v:=fun _ _=>E5 how
   have hq:(xs++ [(key,y)])[i]? =some q:=hq
   rw[List.getElem?_append] at hq
   rw[Array.getElem?_push] at he
   split at hq
   ·rename_i ar
    rw[if_neg (by omega)] at he
    obtain⟨j1,j2⟩:=fN i q e hq he
    exact⟨j1.mono hs,j2.mono hs⟩
   ·rename_i ar
    have hi:i-xs.length=0:=by
     have:=(List.getElem?_eq_some_iff.1 hq).1
     simp at this
     omega
    rw[hi] at hq
    cases hq
    rw[if_pos (by omega)] at he
    cases he
    exact⟨eB.mono hs ⟨ck,rk,BV⟩,eB.mono hs ⟨cy,ry,YW⟩⟩
  exact⟨X.obj r new,Go.undef,.inr ⟨aX,rfl⟩,OB how,(hr.obj hb hβ how bL (.inl hBg)).skip o.dst⟩
 ·rw[g1] at h
  cases h
theorem zcm(hE:ap P E)(hr:Rel X s a){ops:List Oper}{T:TypeId}{m k x:Operand}(ho:o.op= .mapUpdate T m k x\/o.op= .insert T m k x){C:FuncId->bW Out}(h:act E C ops o s some=some u):aI P X s a o u:=by
 unfold act at h
 rcases ho with ho|ho
 ·simp only[ho] at h
  exact MX hE hr (by simp [execOp,ho]) h
 ·simp only[ho] at h
  exact MX hE hr (by simp [execOp,ho]) h
theorem adp(hE:ap P E)(hr:Rel X s a){ops:List Oper}{T:TypeId}{x:Operand}(ho:o.op= .range T x){C:FuncId->bW Out}(h:act E C ops o s some=some u):aI P X s a o u:=by
 unfold act at h
 simp only[ho] at h
 split at h
 case h_2=>cases h
 rename_i hT
 obtain⟨y,h,hy⟩:=zy h
 obtain⟨cs,ry,ev⟩:=hy X _ _ (hr.aH x)
 rw[z28 ry] at ev
 have hu:=(hE.ty T _ hT).dt
 refine zhz hr (t:=kh) (p:=kh) (x:=((y,0):ByteArray×Nat)) (b:= .stringIter y 0) (v:= .pointer (some ⟨X.w.heap.size,0,none⟩)) ?_ (fun Y _ hY pl=>hY) ⟨rfl,trivial⟩ h
 simp [execOp,ho,Instr.range,run_underlying hu,ev]
theorem agi(hr:Rel X s a){ops:List Oper}{x:Operand}{str:Bool}(ho:o.op= .next x str){C:FuncId->bW Out}(h:act E C ops o s some=some u):aI P X s a o u:=by
 unfold act at h
 cases str with
 |false=>simp only[ho] at h;cases h
 |true=>
  simp only[ho] at h
  unfold lB at h
  have hx:=hr.aH x
  split at h
  case h_2=>cases h
  rename_i id hm
  rw[hm] at hx
  obtain⟨r,hβ,hv,_⟩:=hx
  split at h
  case h_2=>cases h
  rename_i B hB
  split at h
  case isFalse=>cases h
  rename_i dk
  have hb:=qB hB
  obtain⟨r',h1,how,h3⟩:=hr.boxes id B hb
  rw[hβ] at h1
  cases h1
  have aE:X.w.heap[r]? =some (.stringIter (Ty.cast dk B.x:ByteArray×Nat).1 (Ty.cast dk B.x:ByteArray×Nat).2):=by
   obtain⟨bt,bx,bo⟩:=B
   have e:=Ty.aJ dk
   simp only at e
   subst e
   exact h3
  generalize(Ty.cast dk B.x:ByteArray×Nat)=q at*
  obtain⟨st,pos⟩:=q
  simp only at h aE
  have hv:a.eval x= .pointer (some ⟨r,0,none⟩):=by simpa [Ty.off] using hv
  have cB:(getObj r).run P X.w= .ok (.stringIter st pos) X.w:=by simp [getObj,Sem.run,aE]
  cases ar:decide (pos<st.size) with
  |false=>
   rw[ar] at h
   cases h
   have ar:=of_decide_eq_false ar
   refine aI.plain hr (sv:= .over) (v:= .tuple #[.bool false]) ?_ rfl (fun _ _ _ e'=>by cases e')
   simp only[execOp,ho,Sem.run_bind,Instr.next,hv,cB,Result.andThen_ok,if_neg ar,Sem.run_pure]
  |true=>
   rw[ar] at h
   cases h
   have ar:=of_decide_eq_true ar
   let new:Obj:= .stringIter st (pos+(Utf8.decode st pos).2)
   have fo:(setObj r new).run P X.w= .ok () (X.obj r new).w:=by simp [setObj,Sem.run,aE,ax.obj]
   have bL:bF (X.obj r new) id r ⟨kh,((st,pos+(Utf8.decode st pos).2):ByteArray×Nat),[]⟩:=⟨how,Np aE⟩
   have eP:=hr.obj hb hβ how bL (.inl (by rw[Ty.aJ dk];rfl))
   refine⟨X.obj r new,.tuple #[.bool true,.int .i64 pos,.int .i32 (Utf8.decode st pos).1],.inl ?_,OB how,?_⟩
   ·simp only[execOp,ho,Sem.run_bind,Instr.next,hv,cB,Result.andThen_ok,if_pos ar,Sem.run_pure]
    simp only[new] at fo
    rw[fo]
    rfl
   ·refine eP.put (fun d' e=>⟨_,rfl,rfl,fun j sv v hj hv=> ?_⟩) (fun id t' q hm=>by simp at hm)
    match j with
    |0=>cases hj;cases hv;exact nC
    |1=>cases hj;cases hv;exact js
    |2=>cases hj;cases hv;exact js
    |j+3=>simp at hj
theorem akK{t:Ty}{k:Nat}(hk:(zp t).length=k)(n:Nat):((Array.range (n*k)).map fun i=>(zp t).toArray[i % (zp t).toArray.size]!).size=n*k/\
 ∀j,j<n->((((Array.range (n*k)).map fun i=>(zp t).toArray[i % (zp t).toArray.size]!).toList.drop (j*k)).take k)=zp t:=by
 refine⟨by simp,fun j hj=> ?_⟩
 apply List.ext_getElem?
 intro i
 rw[List.getElem?_take]
 split
 ·rename_i hi
  have ar:j*k+i<n*k:=by
   have:(j+1)*k<=n*k:=Nat.mul_le_mul_right _ hj
   rw[Nat.add_mul,Nat.one_mul] at this
   omega
  have Cl:(j*k+i)% k=i:=by rw[Nat.mul_comm,Nat.mul_add_mod,Nat.mod_eq_of_lt hi]
  rw[List.getElem?_drop,Array.getElem?_toList,Array.getElem?_map,Array.getElem?_range,if_pos ar]
  simp only[Option.map_some,List.size_toArray,hk,Cl]
  rw[List.getElem?_eq_getElem (by omega)]
  simp [getElem!_def,List.getElem?_eq_getElem (show i<(zp t).length by omega)]
 ·rename_i hi
  rw[List.getElem?_eq_none (by omega)]
theorem Ni(hE:ap P E){T e:TypeId}{t:Ty}(hT:E.ty T=some (.sl e t))(hk:t.cells≠0)(nG:E.bytes e≠0){n m:Int}(hn:0<=n)(hnm:n<=m)(hb:m*E.bytes e<=140737488355328)(w:World):
 m.toNat<=maxLen/\∃cur,cur.size=m.toNat*t.cells/\(∀j,j<m.toNat->(cur.toList.drop (j*t.cells)).take t.cells=zp t)/\
  (Instr.makeSlice T (.int .i64 n) (.int .i64 m)).run P w= .ok (.slice (some ⟨w.heap.size,0,none⟩) n.toNat m.toNat) (w.alloc (.cells cur e)):=by
 obtain⟨hu,he⟩:=(hE.ty T _ hT).dt
 obtain⟨i,hi,b8,gh,hz⟩:=(hE.ty e t he).info
 have hle:m<=m*E.bytes e:=by
  have h1:(1:Int)<=E.bytes e:=by omega
  have:=Int.mul_le_mul_of_nonneg_left h1 (show 0<=m by omega)
  simpa using this
 have Ck:m.toNat<=maxLen:=by simp only[maxLen];omega
 have l9:(dR t (zp t)).cells=(zp t).toArray:=vw (X:=⟨w,fun _=> .all,fun _=>none⟩) (sr _ t)
 obtain⟨z1,z2⟩:=akK (uZ t) m.toNat
 refine⟨Ck,(Array.range (m.toNat*t.cells)).map (fun i=>(zp t).toArray[i % (zp t).toArray.size]!),z1,z2,?_⟩
 have R7:IntKind.i64.wrap n=n:=by simp [IntKind.wrap,IntKind.signed,IntKind.bits];omega
 have vp:IntKind.i64.wrap m=m:=by simp [IntKind.wrap,IntKind.signed,IntKind.bits];omega
 have hmul:(i.bytes:Int)*m<=2^48:=by rw[gh,Int.mul_comm];omega
 have c1:¬m<0:=by omega
 have c2:¬(281474976710656:Int)<(i.bytes:Int)*m:=by omega
 have c3:¬n<0:=by omega
 have c4:¬m<n:=by omega
 have hai:∀(n:Int) (w:World),(asInt (.int .i64 n)).run P w= .ok n w:=fun n w=>by simp [asInt,asIntOf]
 have ZS:∀w:World,(typeInfo e).run P w= .ok i w:=fun w=>by simp [typeInfo,hi]
 have iB:∀w:World,(sizeOf e).run P w= .ok t.cells w:=fun w=>lK hE he w
 have hzv:∀w:World,(zeroValue e).run P w= .ok (dR t (zp t)) w:=fun w=>Tc hE he w
 simp only[Instr.makeSlice,Sem.run_bind,run_underlying hu,Result.andThen_ok,hai,ZS,R7,vp]
 by_cases h0:m.toNat*t.cells=0
 ·simp [c1,c2,c3,c4,iB,h0,newRow]
  rw[show Array.range 0= #[] from rfl]
  simp
 ·simp [c1,c2,c3,c4,iB,h0,hzv,l9,newRow]
theorem z116(hE:ap P E)(hr:Rel X s a){ops:List Oper}{T:TypeId}{l c:Operand}(ho:o.op= .makeSlice T l c){C:FuncId->bW Out}(h:act E C ops o s some=some u):aI P X s a o u:=by
 unfold act at h
 simp only[ho] at h
 unfold lA at h
 split at h
 case h_2=>cases h
 rename_i e t hT
 split at h
 ·cases h
 rename_i bM
 have nG:E.bytes e≠0:=fun e0=>bM (by rw[e0];rfl)
 have hk:t.cells≠0:=fun e0=>bM (by rw[e0];simp)
 obtain⟨n,h,hn⟩:=zy h
 obtain⟨m,h,hm⟩:=zy h
 obtain⟨_,rn,en⟩:=hn X _ _ (hr.aH l)
 rw[lM rn] at en
 obtain⟨_,rm,em⟩:=hm X _ _ (hr.aH c)
 rw[lM rm] at em
 cases hc:Ov l with
 |true=>
  rw[hc] at h
  simp only[cond_true] at h
  cases d1:decide (n=0)<;>rw[d1] at h<;>simp only[cond_true,cond_false] at h
  ·cases h
  cases d2:decide (0<=m)<;>rw[d2] at h<;>simp only[cond_true,cond_false] at h
  ·cases h
  cases d3:decide (m*E.bytes e<=140737488355328)<;>rw[d3] at h<;>simp only[cond_true,cond_false] at h
  ·cases h
  cases h
  have d1:=of_decide_eq_true d1
  have d2:=of_decide_eq_true d2
  have d3:=of_decide_eq_true d3
  subst d1
  obtain⟨Ck,cur,g1,g2,aX⟩:=Ni (P:=P) hE hT hk nG (n:=0) (m:=m) (by omega) d2 d3 X.w
  have xm:eN s X (X.kR (.cells cur e) (.row (.c (o.dst.getD 0) 0 []) 0) X.β):=L3 X _ _ _ _ rfl (fun _ _ _=>rfl)
  refine⟨X.kR (.cells cur e) (.row (.c (o.dst.getD 0) 0 []) 0) X.β,.slice (some ⟨X.w.heap.size,0,none⟩) 0 m.toNat,.inl ?_,xm.ext,(hr.dv xm).fin ⟨[.slice (some ⟨X.w.heap.size,0,none⟩) 0 m.toNat],⟨_,_,rfl,Nat.zero_le _,fun j x hj=>by simp at hj⟩,rfl,fun p hp=> ?_⟩ (fun id t p hm=>by simp at hm)⟩
  ·simp only[execOp,ho,Sem.run_bind,en,em,aX,Result.andThen_ok,Sem.run_pure]
   rfl
  ·have hp:p=[]:=by simpa using hp
   subst hp
   refine⟨e,t,[],_,by simp [Ty.eI],rfl,rfl,.inr ⟨X.w.heap.size,m.toNat,cur,rfl,heap_alloc_new X.w _,Nat.zero_le _,Ck,g1,?_⟩⟩
   simp [ax.kR]
 |false=>
  rw[hc] at h
  simp only[cond_false] at h
  cases d1:decide (n=m)<;>rw[d1] at h<;>simp only[cond_true,cond_false] at h
  ·cases h
  cases d2:decide (0<=n)<;>rw[d2] at h<;>simp only[cond_true,cond_false] at h
  ·cases h
  cases d3:decide (n*E.bytes e<=140737488355328)<;>rw[d3] at h<;>simp only[cond_true,cond_false] at h
  ·cases h
  have d1:=of_decide_eq_true d1
  have d2:=of_decide_eq_true d2
  have d3:=of_decide_eq_true d3
  have d1:m=n:=d1.symm
  subst d1
  obtain⟨Ck,cur,g1,g2,aX⟩:=Ni (P:=P) hE hT hk nG (n:=m) (m:=m) d2 (Int.le_refl _) d3 X.w
  refine zhz hr (t:= .aG .row t .unit) (p:= .aG (.iQ m.toNat) t .unit) (x:=(List.replicate m.toNat (El.bV t):List (El t))) (b:= .cells cur e) (v:= .slice (some ⟨X.w.heap.size,0,none⟩) m.toNat m.toNat) ?_ (fun Y _ hY pl=>⟨cur,e,hY,?_,fun j x hj=> ?_⟩) ⟨_,rfl,Nat.le_refl _⟩ h
  ·simp only[execOp,ho,Sem.run_bind,en,em,aX,Result.andThen_ok,Sem.run_pure]
  ·rw[g1];show _=List.length (List.replicate _ _)*_;rw[List.length_replicate]
  ·have hj:(List.replicate m.toNat (El.bV t))[j]? =some x:=hj
   rw[List.getElem?_replicate] at hj
   split at hj
   ·rename_i ar
    cases hj
    rw[g2 j ar]
    exact sr Y t
   ·cases hj
end Go.Ref

namespace Go.Ref
open Go
variable {P:Program} {E:Env} {X:ax} {s:State} {a:Act} {o:Oper} {u:Out}
theorem ajK(hE:ap P E)(hr:Rel X s a){ops:List Oper}{T:TypeId}{x:Operand}{lo hi:Option Operand}(ho:o.op= .slice T x lo hi none){C:FuncId->bW Out}(h:act E C ops o s some=some u):aI P X s a o u:=by
 unfold act at h
 simp only[ho] at h
 split at h
 ·rename_i id n ta tb dF
  split at h
  case h_2=>cases h
  rename_i e t hT
  split at h
  case isFalse=>cases h
  rename_i heq
  have:=Ty.aJ heq
  subst this
  unfold tO at h
  split at h
  ·cases h
  rename_i JZ
  have Cg:hi=none:=by
   cases hi with
   |none=>rfl
   |some _=>cases JZ
  subst Cg
  obtain⟨l,h,h1,hl⟩:=zaq h
  cases h
  have hx:=hr.aH x
  rw[dF] at hx
  obtain⟨r0,hβ,cap,hv,m8⟩:=hx
  have hu:=(hE.ty T _ hT).dt
  have hbd:=zdi (P:=P) (isS:=true) hr hl (hi:=none) (m:=n) (n:=n) (c:=cap) rfl h1 (Nat.le_refl _) m8 X.w
  rw[Option.map_none] at hbd
  refine aI.plain hr (v:= .slice (if cap=l then some ⟨r0,0,none⟩ else(some (⟨r0,0,none⟩:Addr)).map (·.add (l*ta.cells))) (n-l) (cap-l)) ?_ ⟨r0,hβ,?_⟩ (fun _ _ _ e=>by cases e;exact su hr dF)
  ·simp only[execOp,ho,Sem.run_bind,Instr.sliceAt,run_underlying hu.1,Result.andThen_ok,Instr.slice,hv,Option.map_none,hbd,Sem.run_pure,lK hE hu.2]
  ·show∃xb off,_=Value.slice (some ⟨r0,off,none⟩) (n-l) xb/\_
   by_cases e':cap=l
   ·rw[if_pos e']
    exact⟨_,_,rfl,by omega,h1,.inl ⟨by omega,rfl⟩⟩
   ·rw[if_neg e']
    refine⟨cap-l,l*ta.cells,?_,by omega,h1,.inr rfl⟩
    rw[Option.map_some,iM,Nat.zero_add]
 ·rename_i id n t dF
  have hx:=hr.aH x
  rw[dF] at hx
  obtain⟨r0,hβ,hv⟩:=hx
  unfold re at h
  split at h
  case h_2=>cases h
  rename_i u' hT Cj JZ
  have lo0:lo=none:=by
   cases lo with
   |none=>rfl
   |some _=>cases Cj
  have Cg:hi=none:=by
   cases hi with
   |none=>rfl
   |some _=>cases JZ
  subst lo0 Cg
  split at h
  case isFalse=>cases h
  rename_i heq
  have:=Ty.aJ heq
  subst this
  split at h
  case h_2=>cases h
  rename_i B hB
  split at h
  case isFalse=>cases h
  rename_i dk
  cases h
  have hb:=qB hB
  obtain⟨r,h1,tT⟩:=hr.boxes id B hb
  rw[hβ] at h1
  cases h1
  obtain⟨bt,bx,bo⟩:=B
  have e:=Ty.aJ dk
  simp only at e
  subst e
  obtain⟨cs,T',aE,aL,how,_⟩:=tT.cells rfl
  have hv:a.eval x= .pointer (some ⟨r0,0,none⟩):=by rw[((qA rfl).1 hv).1];rfl
  obtain⟨e,iD,iS,_⟩:=(hE.ty T _ hT).dt
  have hlen:List.length (bx:List (El t))=n:=aL.1
  have bL:bF X id r0 ⟨.aG .row t .unit,(bx:List (El t)),[]⟩:=⟨how,cs,T',aE,by have:=aL.2.1;rw[hlen];simpa using this,aL.2.2⟩
  have JT:(Ty.cast dk bx:El (.arr n t))=bx:=rfl
  rw[JT]
  refine⟨X,.slice (some ⟨r0,0,none⟩) n n,.inl ?_,Ext.refl X,(hr.mm hb hβ bL (.inl rfl)).fin ⟨r0,hβ,n,rfl,Nat.le_refl _⟩ (fun bc t' p' hm=> ?_)⟩
  ·simp only[execOp,ho,Sem.run_bind,Instr.sliceAt,run_underlying iD,Result.andThen_ok,Option.map_none,hv,Instr.sureAddr,Sem.run_pure,lK hE iS]
   simp [Instr.sliceBounds]
   intro _
   rw[iM]
  ·have rZ:SV.ptr bc t' p'= .ptr id (.aG (.iQ n) t .unit) []:=by simpa using hm
   cases rZ
   exact⟨_,Sz hb⟩
 ·exact age hE hr ho h
theorem abG(hr:Rel X s a){ops:List Oper}{fn:Fn}{fi ca:Array Operand}(ho:o.op= .makeFunc fn fi ca){C:FuncId->bW Out}(h:act E C ops o s some=some u):aI P X s a o u:=by
 unfold act at h
 cases fn with
 |func f=>
  simp only[ho] at h
  split at h
  case h_3=>cases h
  case h_2=>
   rename_i x y tY B5
   have tY:fi= #[]:=by rw[<-Array.toArray_toList (xs:=fi),tY]
   have B5:ca= #[x,y]:=by rw[<-Array.toArray_toList (xs:=ca),B5]
   subst tY B5
   unfold tM at h
   split at h
   case h_2=>cases h
   rename_i t x1 u' y1 dF Kw
   cases h
   have hx:=hr.aH x
   have hy:=hr.aH y
   rw[dF] at hx
   rw[Kw] at hy
   obtain⟨ad,cs,h1,h2,h3,h4⟩:=hx
   obtain⟨qo,eH,k1,k2,k3,k4⟩:=hy
   refine aI.plain hr (v:= .func (.func f) #[] #[.pointer (some ad),.pointer (some qo)]) ?_ ⟨ad,qo,cs,eH,rfl,⟨h2,h3,h4⟩,k2,k3,k4⟩ (fun _ _ _ e=>by cases e)
   simp [execOp,ho,Instr.makeFunc,h1,k1]
  rename_i x tY B5
  have tY:fi= #[]:=by rw[<-Array.toArray_toList (xs:=fi),tY]
  have B5:ca= #[x]:=by rw[<-Array.toArray_toList (xs:=ca),B5]
  subst tY B5
  unfold mX at h
  split at h
  case h_2=>cases h
  rename_i id u' dF
  split at h
  case isTrue=>cases h
  rename_i hs
  cases h
  have hx:=hr.aH x
  rw[dF] at hx
  obtain⟨r0,hβ,hv⟩:=hx
  have hv:=((PZ (by simpa using hs)).1 hv).1
  refine aI.plain hr (v:= .func (.func f) #[] #[.pointer (some ⟨r0,0,none⟩)]) ?_ ⟨r0,hβ,rfl⟩ (fun _ _ _ e=>by cases e;exact su hr dF)
  have hv:a.eval x= .pointer (some ⟨r0,0,none⟩):=by rw[hv];simp [Ty.off]
  simp [execOp,ho,Instr.makeFunc,hv]
 |_=>simp only[ho] at h;cases h
theorem MK{t:Ty}{xs:List (El t)}{n l:Nat}{cs:List Value}(h:bh X (.arr n t) xs cs)(hl:l<=n):bh X (.arr l t) (xs.take l:List (El t)) (cs.take (l*t.cells)):=by
 obtain⟨h1,h2,h3⟩:=h
 have hm:=Nat.mul_le_mul_right t.cells hl
 refine⟨by rw[List.length_take];omega,by rw[List.length_take];omega,fun j y hj=> ?_⟩
 have hj:(xs.take l)[j]? =some y:=hj
 rw[List.getElem?_take] at hj
 split at hj
 case isFalse=>cases hj
 rename_i ub
 have hk:(j+1)*t.cells<=l*t.cells:=Nat.mul_le_mul_right _ ub
 rw[Nat.add_mul,Nat.one_mul] at hk
 have e:((cs.take (l*t.cells)).drop (j*t.cells)).take t.cells=(cs.drop (j*t.cells)).take t.cells:=by
  rw[List.drop_take,List.take_take,Nat.min_eq_left (by omega)]
 rw[e]
 exact h3 j y hj
theorem MJ{t:Ty}{xs:List (El t)}{n l:Nat}{cs:List Value}(h:bh X (.arr n t) xs cs)(hl:l<=n):bh X (.arr (n-l) t) (xs.drop l:List (El t)) (cs.drop (l*t.cells)):=by
 obtain⟨h1,h2,h3⟩:=h
 refine⟨by rw[List.length_drop];omega,by rw[List.length_drop,Nat.sub_mul];omega,fun j y hj=> ?_⟩
 have hj:(xs.drop l)[j]? =some y:=hj
 rw[List.getElem?_drop] at hj
 rw[List.drop_drop,<-Nat.add_mul]
 exact h3 (l+j) y hj
theorem Nv{α:Type}(xs ys:List α)(lo:Nat)(h:lo+ys.length<=xs.length):(b6 xs ys lo).length=xs.length:=by
 unfold b6;simp;omega
theorem zv2(hE:ap P E)(hr:Rel X s a){d x:Operand}{T e:TypeId}{t:Ty}{ts:Array TypeId}(ho:o.op= .call ⟨.builtin .copy,#[d,x],ts⟩)(kG:ts[0]? =some T)(hT:E.ty T=some (.sl e t)){id n lo:Nat}{ta tb:Ty}{p:List Nat}
 (dF:s.aH d= .ptr id (.aG (.iQ n) ta tb) p) (oC:∀r,nv (.aG (.iQ n) ta tb) p r (a.eval d)->∃cap off,a.eval d= .slice (some ⟨r,off,none⟩) (n-lo) cap/\lo<=n/\((n=lo/\off=0)\/off=lo*ta.cells))
 (h:iw t s id n lo ta tb (s.aH x) e some=some u):aI P X s a o u:=by
 have hx:=hr.aH d
 rw[dF] at hx
 obtain⟨r0,hβ,hv⟩:=hx
 unfold iw at h
 split at h
 case isFalse=>cases h
 rename_i heq
 have:=Ty.aJ heq
 subst this
 obtain⟨ys,h,ux⟩:=zy h
 split at h
 case h_2=>cases h
 rename_i B hB
 split at h
 case isFalse=>cases h
 rename_i dk
 obtain⟨hb,r,h1,how,cs,T',aE,di,fN⟩:=Fy hr hB dk
 rw[hβ] at h1
 cases h1
 generalize(Ty.cast dk B.x:List (El ta))=xs at*
 cases hn:Nat.beq n (List.length xs)<;>rw[hn] at h
 ·cases h
 cases Cj:Nat.ble lo n<;>rw[Cj] at h
 ·cases h
 cases h
 have hn:=Nat.eq_of_beq_eq_true hn
 have Cj:=Nat.le_of_ble_eq_true Cj
 obtain⟨cap,off,hd,_,xr⟩:=oC r0 hv
 obtain⟨cx,lG,ev⟩:=ux X _ _ (hr.aH x)
 have aby:=lG
 obtain⟨A,c,xi,_⟩:=aby
 have ev:a.eval x= .slice A ys.length c:=by rw[ev,xi];rfl
 rw[xi] at lG
 obtain⟨_,hc,cy,ry,ny,sy⟩:=zay (X:=X) lG
 have hu:=(hE.ty T _ hT).dt
 have hm:(ys.take (n-lo)).length=min ys.length (n-lo):=by rw[List.length_take,Nat.min_comm]
 generalize Gd:min ys.length (n-lo)=m at hm
 have hmy:m<=ys.length:=by omega
 have hmn:m<=n-lo:=by omega
 have htk:ys.take (n-lo)=ys.take m:=by
  rw[<-Gd]
  rcases Nat.le_total ys.length (n-lo) with g|g
  ·rw[Nat.min_eq_left g,List.take_of_length_le g,List.take_of_length_le (Nat.le_refl _)]
  ·rw[Nat.min_eq_right g]
 have rz:=MK ry hmy
 have Ky:(cy.take (m*ta.cells)).length=m*ta.cells:=rz.2.1
 have eD:bh X (.arr xs.length ta) xs cs.toList:=⟨rfl,by simpa using di,fN⟩
 have kd:(Builtin.firstCells ta.cells m (a.eval x)).run P X.w= .ok (cy.take (m*ta.cells)).toArray X.w:=by
  rw[ev]
  cases A with
  |none=>
   have:=ny rfl
   subst this
   have:m=0:=by simpa using hmy
   subst this
   simp [Builtin.firstCells]
  |some ad=>
   have:=run_loadCells_list (P:=P) X.w ad (cy.take (m*ta.cells)) (fun j v hj=>by
    rw[List.getElem?_take] at hj
    split at hj
    ·exact(sy ad rfl j v hj).2.1
    ·cases hj)
   rw[Ky] at this
   simpa [Builtin.firstCells] using this
 have dg:off+0+(cy.take (m*ta.cells)).length<=cs.size:=by
  rw[Ky,di,<-hn]
  rcases xr with⟨g1,g2⟩|g
  ·have:m=0:=by omega
   subst this
   omega
  ·rw[g,Nat.add_zero,<-Nat.add_mul]
   exact Nat.mul_le_mul_right _ (by omega)
 let new:=(cs.toList.take off++cy.take (m*ta.cells)++cs.toList.drop (off+(cy.take (m*ta.cells)).length)).toArray
 have bR:=run_storeCells_at P r0 off T' (cy.take (m*ta.cells)) 0 cs X.w aE dg rz.one
 simp only[Nat.add_zero] at bR dg
 have aX:(execOp a.eval o).run P X.w= .ok (.value (.int .i64 m)) (X.row r0 new).w:=by
  have Zt:Nat.min ys.length (n-lo)=m:=Gd
  simp only[execOp,ho,resolve,invoke,builtin,Sem.run_bind,Sem.run_pure,Result.andThen_ok,List.map_toArray,List.map_cons,List.map_nil,Builtin.copy_,kG,hd]
  have e1:(Builtin.lenOf (a.eval x)).run P X.w= .ok ys.length X.w:=by rw[ev];simp [Builtin.lenOf]
  simp [run_underlying hu.1,e1,Zt,kd,bR,goInt,lK hE hu.2]
  show _=X.w.setRow r0 new
  congr 1
  simp [new]
 have dU:new.toList=cs.toList.take off++cy.take (m*ta.cells)++cs.toList.drop (off+(cy.take (m*ta.cells)).length):=rfl
 have aL:bh X (.arr xs.length ta) (b6 xs (ys.take m) lo:List (El ta)) new.toList:=by
  rw[dU,Ky]
  by_cases m0:m=0
  ·subst m0
   have e1:b6 xs (ys.take 0) lo=xs:=by unfold b6;simp
   rw[e1]
   simpa using eD
  ·have g:off=lo*ta.cells:=by rcases xr with⟨g1,_⟩|g<;>omega
   have h1:=MK eD (show lo<=xs.length by omega)
   have h3:=MJ eD (show lo+m<=xs.length by omega)
   have:=Gp h1 (Gp rz h3)
   rw[show lo+(m+(xs.length-(lo+m)))=xs.length by omega] at this
   unfold b6
   rw[show(ys.take m).length=m by rw[List.length_take];omega,g,<-Nat.add_mul,List.append_assoc]
   exact this
 have b8:new.size=cs.size:=by
  have h1:new.toList.length=xs.length*ta.cells:=aL.2.1
  rw[di,<-h1];simp
 have bL:bF (X.row r0 new) id r0 ⟨.aG .row ta tb,(b6 xs (ys.take (n-lo)) lo:List (El ta)),[]⟩:=by
  rw[htk]
  refine⟨how,new,T',setRow_heap X.w r0 cs new T' (0,0) aE,?_,fun j z hj=> ?_⟩
  ·rw[b8,di]
   show _=List.length (b6 xs (ys.take m) lo)*_
   rw[Nv _ _ _ (by rw[List.length_take];omega)]
  ·exact bh.aj (fun _ _=>mF (cs:=new) how) (aL.2.2 j z hj)
 refine⟨X.row r0 new,.int .i64 m,.inl aX,Fz how,?_⟩
 rw[hm]
 exact(hr.row hb hβ how bL (.inl (by rw[Ty.aJ dk];rfl))).fin js (fun id t p hm=>by simp [i64] at hm)
theorem afZ{X:ax}(l:List UInt8):bh X (.arr l.length (.int .u8)) (l.map fun c=>(c.toNat:Int):List Int) (l.map fun c=>Value.int .u8 c.toNat):=by
 refine⟨by show(l.map _).length=_;simp,by simp [Ty.cells],fun j y hj=> ?_⟩
 have hj:(l.map fun c=>(c.toNat:Int))[j]? =some y:=hj
 rw[List.getElem?_map] at hj
 obtain⟨c,hc,rfl⟩:=Option.map_eq_some_iff.1 hj
 have:((l.map fun c=>Value.int .u8 c.toNat).drop (j*(Ty.int IntKind.u8).cells)).take (Ty.int IntKind.u8).cells=[Value.int .u8 c.toNat]:=by
  rw[show(Ty.int IntKind.u8).cells=1 from rfl,Nat.mul_one]
  apply List.ext_getElem?
  intro i
  rw[List.getElem?_take]
  cases i with
  |zero=>simp [hc]
  |succ i=>simp
 rw[this]
 rfl
theorem adk(hE:ap P E)(hr:Rel X s a){d x:Operand}{T e:TypeId}{t:Ty}{ts:Array TypeId}(ho:o.op= .call ⟨.builtin .copy,#[d,x],ts⟩)(kG:ts[0]? =some T)(hT:E.ty T=some (.sl e t)){id n:Nat}{ta tb:Ty}
 (dF:s.aH d= .ptr id (.aG (.iQ n) ta tb) []) {y:ByteArray} {w:List (List Nat)} (Kw:s.aH x= .ak .str y w) (h:ka t s id n ta tb y some=some u):aI P X s a o u:=by
 have hx:=hr.aH d
 rw[dF] at hx
 obtain⟨r0,hβ,cap,hd,m8⟩:=hx
 unfold ka at h
 split at h
 case isFalse=>cases h
 rename_i Zi
 have:=Ty.aJ Zi
 subst this
 split at h
 case isFalse=>cases h
 rename_i heq
 have:=Ty.aJ heq
 subst this
 split at h
 case h_2=>cases h
 rename_i B hB
 split at h
 case isFalse=>cases h
 rename_i dk
 obtain⟨hb,r,h1,how,cs,T',aE,di,fN⟩:=Fy hr hB dk
 rw[hβ] at h1
 cases h1
 generalize(Ty.cast dk B.x:List Int)=xs at*
 cases hn:Nat.beq n (List.length xs)<;>rw[hn] at h
 ·cases h
 cases h
 have hn:=Nat.eq_of_beq_eq_true hn
 have hy:=hr.aH x
 rw[Kw] at hy
 obtain⟨cy,ry,ev,_⟩:=hy
 have ev:a.eval x= .string y:=by rw[ev,z28 ry]
 have hu:=(hE.ty T _ hT).dt
 have vm:(Ty.int IntKind.u8).cells=1:=rfl
 rw[vm,Nat.mul_one] at di
 let l:=y.data.toList.take n
 have Gc:l.length=min n y.size:=by simp [l]
 have JP:List.take n (nM y)=l.map fun c=>(c.toNat:Int):=by simp [nM,l]
 have kd:(Builtin.firstCells 1 (Nat.min y.size n) (.string y)).run P X.w= .ok (l.map fun c=>Value.int .u8 c.toNat).toArray X.w:=by
  have e1:((y.extract 0 (Nat.min y.size n)).data.map fun b=>Value.int .u8 b.toNat)=(l.map fun c=>Value.int .u8 c.toNat).toArray:=by
   apply Array.ext'
   have e0:(y.extract 0 (Nat.min y.size n)).data.toList=l:=by
    rw[ByteArray.data_extract,Array.toList_extract,List.extract_eq_take_drop]
    show List.take (Nat.min y.size n-0) (y.data.toList.drop 0)=y.data.toList.take n
    rw[Nat.sub_zero,List.drop_zero]
    show List.take (min y.data.toList.length n) y.data.toList=y.data.toList.take n
    rw[Nat.min_comm,<-List.take_eq_take_min]
   rw[Array.toList_map,e0]
  simp only[Builtin.firstCells,Sem.run_pure,e1]
 have dg:0+(l.map fun c=>Value.int .u8 c.toNat).length<=cs.size:=by
  rw[List.length_map,di,<-hn,Gc];omega
 let new:=((l.map fun c=>Value.int .u8 c.toNat)++cs.toList.drop l.length).toArray
 have rz:=afZ (X:=X) l
 have bR:=run_storeCells_at P r0 0 T' (l.map fun c=>Value.int .u8 c.toNat) 0 cs X.w aE (by simpa using dg) rz.one
 have aX:(execOp a.eval o).run P X.w= .ok (.value (.int .i64 (l.length:Nat))) (X.row r0 new).w:=by
  have e1:(Builtin.lenOf (a.eval x)).run P X.w= .ok y.size X.w:=by rw[ev];simp [Builtin.lenOf]
  have e2:Nat.min y.size n=l.length:=by rw[Gc];exact Nat.min_comm _ _
  have e3:=kd
  rw[e2] at e3
  simp only[execOp,ho,resolve,invoke,builtin,Sem.run_bind,Sem.run_pure,Result.andThen_ok,List.map_toArray,List.map_cons,List.map_nil,Builtin.copy_,kG,hd]
  rw[ev] at e1⊢
  simp [run_underlying hu.1,e1,e2,e3,bR,goInt,lK hE hu.2,vm]
  rfl
 have eD:bh X (.arr xs.length (.int .u8)) xs cs.toList:=⟨rfl,by simpa [vm] using di,fN⟩
 have aL:bh X (.arr xs.length (.int .u8)) (b6 xs (l.map fun c=>(c.toNat:Int)) 0:List Int) new.toList:=by
  have hle:l.length<=xs.length:=by rw[Gc];omega
  have h3:=MJ eD hle
  have:=Gp rz h3
  rw[show l.length+(xs.length-l.length)=xs.length by omega] at this
  unfold b6
  simp only[List.take_zero,List.nil_append,Nat.zero_add,List.length_map]
  rw[vm,Nat.mul_one] at this
  exact this
 have b8:new.size=cs.size:=by
  have h1:new.toList.length=xs.length*1:=aL.2.1
  rw[di];simpa using h1
 have bL:bF (X.row r0 new) id r0 ⟨.aG .row (.int .u8) tb,(b6 xs (List.take n (nM y)) 0:List Int),[]⟩:=by
  rw[JP]
  refine⟨how,new,T',setRow_heap X.w r0 cs new T' (0,0) aE,?_,fun j z hj=> ?_⟩
  ·rw[b8,di]
   show _=List.length (b6 xs (l.map fun c=>(c.toNat:Int)) 0)*_
   rw[Nv _ _ _ (by rw[List.length_map,Gc];omega)]
   simp [vm]
  ·exact bh.aj (fun _ _=>mF (cs:=new) how) (aL.2.2 j z hj)
 refine⟨X.row r0 new,.int .i64 (l.length:Nat),.inl aX,Fz how,?_⟩
 have J7:(List.take n (nM y)).length=l.length:=by rw[JP,List.length_map]
 rw[J7]
 exact(hr.row hb hβ how bL (.inl (by rw[Ty.aJ dk];rfl))).fin js (fun id t p hm=>by simp [i64] at hm)
theorem agd(hE:ap P E)(hr:Rel X s a){ops:List Oper}{dM:Array Operand}{ts:Array TypeId}(ho:o.op= .call ⟨.builtin .copy,dM,ts⟩){C:FuncId->bW Out}(h:act E C ops o s some=some u):aI P X s a o u:=by
 unfold act at h
 simp only[ho] at h
 split at h
 case h_2=>cases h
 rename_i d x T r se B3
 have has:dM= #[d,x]:=by rw[<-Array.toArray_toList (xs:=dM),se]
 have kG:ts[0]? =some T:=by rw[<-Array.getElem?_toList,B3];rfl
 subst has
 unfold copyV at h
 split at h
 ·rename_i e t id n ta tb hT dF
  split at h
  ·rename_i y w Kw
   exact adk hE hr ho kG hT dF Kw h
  ·exact zv2 hE hr ho kG hT dF (fun r hv=>by
    obtain⟨cap,h1,h2⟩:=hv
    exact⟨cap,0,h1,Nat.zero_le _,.inr (by simp)⟩) h
 ·rename_i e t id n ta tb l hT dF
  exact zv2 hE hr ho kG hT dF (fun r hv=>by
   obtain⟨cap,off,h1,h2,h3,h4⟩:=hv
   exact⟨cap,off,h1,h3,h4⟩) h
 ·cases h
end Go.Ref

namespace Go.Ref
open Go
variable {P:Program} {E:Env} {X:ax} {s:State} {a:Act} {o:Oper} {u:Out}
structure jS(X:ax)(l:List SV)(b:Option bE)(args:Array Value):Prop where
 size:args.size=l.length
 rep:∀(i:Nat) sv v,l[i]? =some sv->args[i]? =some v->aA X (.c i 0) sv v
 ptr:∀id t p,SV.ptr id t p∈l->id=0/\b.isSome=true
 box:∀B,b=some B->∃r,X.β 0=some r/\bF X 0 r B
 rows:b=none->∀g pl n,X.ow g≠ .row pl n
 oI:l.any SV.bO=false
def yl(X Y:ax)(b:Option bE)(r:List SV)(b':Option bE)(v:Value):Prop:=
 ∃r0,cM {Y with β:=fun _=>some r0} .r r v/\
  (∀B',b'=some B'->bF Y 0 r0 B'/\(b.isSome=true->X.β 0=some r0))/\
  ((b'=none\/b.isSome=true)->∀id t p,SV.ptr id t p∉r)/\r.any SV.bO=false
def rU(P:Program)(f:FuncId):Prop:=∃fn c,P.funcs[f]? =some fn/\(fn.name== "runtime.NumGoroutine")=false/\fn.body=some c
def cW(P:Program)(C:ah)(f:FuncId):Prop:=
 ∀(l:List SV) (b:Option bE) (r:List SV) (b':Option bE),C (List SV×Option bE) f l b (fun r b=>some (r,b))=some (r,b')->rU P f/\
  ∀(X:ax) (args:Array Value),jS X l b args->Calls P f args X.w fun e w'=>match e with
   | .returned v=>∃Y,Y.w=w'/\Ext X Y/\yl X Y b r b' v
   |_=>False
def iU(k:Option Nat):Ow->Bool
 | .box id=>decide (k=some id)
 | .row (.b id _) _=>decide (k=some id)
 |_=>false
def iE(k:Option Nat):Ow->Ow
 | .all=> .all
 | .ro n=> .ro n
 | .box id=>if k=some id then .box 0 else .ro 0
 | .row (.b id p) n=>if k=some id then .row (.b 0 p) n else .ro n
 | .row _ n=> .ro n
def jm(k:Option Nat)(d:Nat):Ow->Ow
 | .all=> .all
 | .ro n=> .ro n
 | .box 0=>match k with
   |some id=> .box id
   |none=> .ro 0
 | .box _=> .ro 0
 | .row (.r j p) n=> .row (.c d j p) n
 | .row (.b 0 p) n=>match k with
   |some id=> .row (.b id p) n
   |none=> .ro n
 | .row _ n=> .ro n
theorem z131{k:Option Nat}{w:Ow}{i:Nat}:(iE k w).used i↔w.used i:=by
 cases w with
 |all=>rfl
 |ro n=>rfl
 |box id=>simp only[iE];split<;>simp [Ow.used]
 |row pl n=>
  cases pl with
  |b id p=>simp only[iE];split<;>simp [Ow.used]
  |_=>rfl
theorem adE{k:Option Nat}{d:Nat}{w:Ow}{i:Nat}(h:w.used i):(jm k d w).used i:=by
 cases w with
 |all=>exact h
 |ro n=>exact h
 |box id=>exact h.elim
 |row pl n=>
  cases pl with
  |b id p=>
   cases id with
   |zero=>simp only[jm];split<;>exact h
   |succ id=>exact h
  |c i j p=>exact h
  |r j p=>exact h
theorem zvj{k:Option Nat}{w:Ow}(h:iU k w=false):(iE k w).still:=by
 cases w with
 |all=>trivial
 |ro n=>trivial
 |box id=>simp only[iU,decide_eq_false_iff_not] at h;simp only[iE];rw[if_neg h];trivial
 |row pl n=>
  cases pl with
  |b id p=>simp only[iU,decide_eq_false_iff_not] at h;simp only[iE];rw[if_neg h];trivial
  |_=>trivial
def ax.cS(X:ax)(k:Option Nat):ax:=⟨X.w,fun g=>iE k (X.ow g),match k with
 |some id=>fun _=>X.β id
 |none=>X.β⟩
theorem va{k:Option Nat}{ad:Addr}{v:Value}:(X.cS k).az ad v↔X.az ad v:=by
 simp only[ax.az,ax.cS,z131]
def ax.back(X Y:ax)(k k':Option Nat)(d:Nat)(β:Nat->Option Nat):ax:=
 ⟨Y.w,fun g=>if g<X.w.heap.size/\iU k (X.ow g)=false then X.ow g else jm k' d (Y.ow g),β⟩
section
variable {k k':Option Nat} {d:Nat} {β:Nat->Option Nat} {Y:ax}
theorem E3(h:Ext (X.cS k) Y){g:Nat}(hg:g<X.w.heap.size)(hm:iU k (X.ow g)=false):(X.back Y k k' d β).ow g=X.ow g/\(X.back Y k k' d β).w.heap[g]? =X.w.heap[g]? /\(Y.ow g).still/\Y.ow g=iE k (X.ow g):=by
 obtain⟨h1,h2⟩:=h.still g hg (zvj hm)
 refine⟨by simp only[ax.back];rw[if_pos ⟨hg,hm⟩],h2,?_,h1⟩
 rw[h1];exact zvj hm
theorem zdg(h:Ext (X.cS k) Y){g:Nat}(hs:¬(Y.ow g).still):(X.back Y k k' d β).ow g=jm k' d (Y.ow g):=by
 simp only[ax.back]
 rw[if_neg]
 rintro⟨hg,hm⟩
 exact hs (E3 (k':=k') (d:=d) (β:=β) h hg hm).2.2.1
theorem u6(h:Ext (X.cS k) Y){ad:Addr}{v:Value}(hs:Y.az ad v):(X.back Y k k' d β).az ad v:=by
 refine⟨hs.1,hs.2.1,?_⟩
 simp only[ax.back]
 split
 ·rename_i hc
  have:=(E3 (k':=k') (d:=d) (β:=β) h hc.1 hc.2).2.2.2
  have hu:=hs.2.2
  rw[this,z131] at hu
  exact hu
 ·exact adE hs.2.2
theorem zqe(h:Ext (X.cS k) Y)(hβ:β 0=X.β 0):Ext X (X.back Y k k' d β) where
 az:=fun ad v hs=>u6 h (h.az ad v (va.2 hs))
 size:=h.size
 os:=h.os
 tape:=h.tape
 output:=h.output
 β0:=hβ
 still:=fun g hg bR=>by
  have hm:iU k (X.ow g)=false:=by cases hx:X.ow g<;>rw[hx] at bR<;>first|rfl|exact bR.elim
  obtain⟨h1,h2,_⟩:=E3 (k':=k') (d:=d) (β:=β) h hg hm
  exact⟨h1,h2⟩
theorem bq.back(h:Ext (X.cS k) Y){pl:Place}(fO:∀n,iU k (.row pl n)=false){e:TypeId}{m n:Nat}{v:Value}(ho:bq X pl e m n v):bq (X.back Y k k' d β) pl e m n v:=by
 rcases ho with ho|⟨g,cap,cur,h1,h2,h3,h4,h5,h6⟩
 ·exact .inl ho
 ·obtain⟨k1,k2,_⟩:=E3 (k':=k') (d:=d) (β:=β) h (vE h2) (by rw[h6];exact fO _)
  exact .inr ⟨g,cap,cur,h1,k2.trans h2,h3,h4,h5,k1.trans h6⟩
theorem bm.back(h:Ext (X.cS k) Y){pl:List Nat->Place}(fO:∀p n,iU k (.row (pl p) n)=false){t:Ty}{x:El t}{cs:List Value}{own:List (List Nat)}(ho:bm X pl t x cs own):bm (X.back Y k k' d β) pl t x cs own:=fun p hp=>by
 obtain⟨e,t',xs,v,g0,g1,g2,g3⟩:=ho p hp
 exact⟨e,t',xs,v,g0,g1,g2,g3.back h (fO p)⟩
theorem bm.out(h:Ext (X.cS k) Y){pl gu:List Nat->Place}(fO:∀p n,jm k' d (.row (pl p) n)= .row (gu p) n){t:Ty}{x:El t}{cs:List Value}{own:List (List Nat)}(ho:bm Y pl t x cs own):bm (X.back Y k k' d β) gu t x cs own:=fun p hp=>by
 obtain⟨e,t',xs,v,g0,g1,g2,g3⟩:=ho p hp
 refine⟨e,t',xs,v,g0,g1,g2,?_⟩
 rcases g3 with ho|⟨g,cap,cur,h1,h2,h3,h4,h5,h6⟩
 ·exact .inl ho
 ·refine .inr ⟨g,cap,cur,h1,h2,h3,h4,h5,?_⟩
  rw[zdg h (by rw[h6];exact fun e=>e),h6,fO]
theorem aA.back(h:Ext (X.cS k) Y){i j:Nat}{sv:SV}{v:Value}(hβ:∀id t p,sv= .ptr id t p->β id=X.β id)(hl:∀id a b n,sv= .bz id a b n->k≠some id/\β id=X.β id)(hr:aA X (.c i j) sv v):aA (X.back Y k k' d β) (.c i j) sv v:=by
 cases sv with
 |undef=>trivial
 |skip=>exact hr
 |cF=>exact hr
 |dS=>exact hr
 |over=>exact hr
 |ak t x own=>
  obtain⟨cs,h1,h2,h3⟩:=hr
  exact⟨cs,h1.aj (fun _ _ hs=>u6 h (h.az _ _ (va.2 hs))),h2,h3.back h (fun _ _=>rfl)⟩
 |ptr id t p=>
  obtain⟨r,h1,h2⟩:=hr
  exact⟨r,(hβ id t p rfl).trans h1,h2⟩
 |view t x=>
  obtain⟨ad,cs,h1,h2,h3,h4⟩:=hr
  exact⟨ad,cs,h1,h2,h3.aj (fun _ _ hs=>u6 h (h.az _ _ (va.2 hs))),fun i u hi=>u6 h (h.az _ _ (va.2 (h4 i u hi)))⟩
 |cap f t x u y=>exact rN (fun _ _ hs=>u6 h (h.az _ _ (va.2 hs))) hr
 |bz id a b n=>
  obtain⟨r,h1,h2,h3⟩:=hr
  obtain⟨hk,hb⟩:=hl id a b n rfl
  obtain⟨e1,e2,_⟩:=E3 (k':=k') (d:=d) (β:=β) h (World.block_lt_of_cell? X.w _ h3) (by rw[h2];simp [iU,hk])
  refine⟨r,hb.trans h1,e1.trans h2,?_⟩
  simp only[World.cell?] at h3⊢
  rw[e2];exact h3
theorem bF.back(h:Ext (X.cS k) Y){id r:Nat}{B:bE}(hk:k≠some id)(hb:bF X id r B):bF (X.back Y k k' d β) id r B:=by
 obtain⟨h3,h1⟩:=hb
 have hm:iU k (X.ow r)=false:=by rw[h3];simp [iU,hk]
 obtain⟨k1,k2,_⟩:=E3 (k':=k') (d:=d) (β:=β) h h1.lt hm
 exact⟨k1.trans h3,h1.move (fun _ _ hs=>u6 h (h.az _ _ (va.2 hs))) k2 (fun cs h4=>h4.back h (fun _ _=>by simp [iU,hk])) fun _ _ g o _ ho hw=>by
  obtain⟨e1,e2,_⟩:=E3 (k':=k') (d:=d) (β:=β) h (vE ho) (by rw[hw];simp [iU,hk])
  exact⟨e2.trans ho,e1.trans hw⟩⟩
theorem bF.out(h:Ext (X.cS k) Y){id r:Nat}{B:bE}(hk:k'=some id)(hb:bF Y 0 r B):bF (X.back Y k k' d β) id r B:=by
 obtain⟨h3,h1⟩:=hb
 refine⟨?_,h1.move (fun _ _ hs=>u6 h hs) rfl (fun cs h4=>h4.out h (fun p n=>by simp [jm,hk])) fun _ _ g o _ ho hw=>⟨ho,by rw[zdg h (by rw[hw];exact fun hh=>hh),hw];simp [jm,hk]⟩⟩
 rw[zdg h (by rw[h3];exact fun e=>e),h3]
 simp [jm,hk]
theorem aA.out(h:Ext (X.cS k) Y){r0 id j:Nat}{sv:SV}{v:Value}(hβ:∀bc t p,sv= .ptr bc t p->β id=some r0)(hn:sv.bO=false)(hr:aA {Y with β:=fun _=>some r0} (.r j) sv v):aA (X.back Y k k' d β) (.c d j) (sv.gx id) v:=by
 cases sv with
 |undef=>trivial
 |skip=>exact hr
 |cF=>exact hr
 |dS=>exact hr
 |over=>exact hr
 |ak t x own=>
  obtain⟨cs,h1,h2,h3⟩:=hr
  have h3:bm Y (.r j) t x cs own:=h3
  exact⟨cs,bh.aj (fun ad v (hs:({Y with β:=fun _=>some r0}:ax).az ad v)=>u6 (Y:=Y) h hs) h1,h2,h3.out h (fun _ _=>rfl)⟩
 |ptr bc t p=>
  obtain⟨r,h1,h2⟩:=hr
  have h1:some r0=some r:=h1
  cases h1
  exact⟨r0,hβ bc t p rfl,h2⟩
 |view t x=>
  obtain⟨ad,cs,h1,h2,h3,h4⟩:=hr
  exact⟨ad,cs,h1,h2,bh.aj (fun ad v (hs:({Y with β:=fun _=>some r0}:ax).az ad v)=>u6 (Y:=Y) h hs) h3,fun i u hi=>u6 h (show Y.az _ _ from h4 i u hi)⟩
 |cap f t x u y=>exact rN (X:={Y with β:=fun _=>some r0}) (fun ad v (hs:({Y with β:=fun _=>some r0}:ax).az ad v)=>u6 (Y:=Y) h hs) hr
 |bz bc a b n=>cases hn
theorem Rel.back(h:Ext (X.cS k) Y)(hr:Rel X s a)(hβ:∀(id:Nat) B,s.bs[id]? =some (some B)->β id=X.β id)(hk:∀(id:Nat) B,s.bs[id]? =some (some B)->k≠some id):Rel (X.back Y k k' d β) s a where
 size:=hr.size
 gM:=hr.gM
 bS:=fun i l v hl hv=>(hr.bS i l v hl hv).iT fun j sv u hm jM=>jM.back h (fun id t p e=>by
  obtain⟨B,hB⟩:=hr.live i l id t p hl (e▸List.mem_of_getElem? hm)
  exact hβ id B hB) (fun id c d n e=>by
  obtain⟨_,⟨x,own,hb,_⟩,_⟩:=hr.bz i l id c d n hl (e▸List.mem_of_getElem? hm)
  exact⟨hk id _ hb,hβ id _ hb⟩)
 boxes:=fun id B hB=>by
  obtain⟨r,h1,h2⟩:=hr.boxes id B hB
  exact⟨r,(hβ id B hB).trans h1,h2.back h (hk id B hB)⟩
 live:=hr.live
 defers:=hr.defers
 bz:=hr.bz
theorem Rel.xa(h:Ext (X.cS k) Y)(hr:Rel X s a){id r:Nat}{B B':bE}(hb:s.bs[id]? =some (some B))(hk:k=some id)(J3:k'=some id)(hβ:X.β id=some r)(hB:bF Y 0 r B')(hg:B.t.eJ=false\/ []∈B.own):Rel (X.back Y k k' d X.β) (s.aC (some (id,B'))) a where
 size:=hr.size
 gM:=by simpa [State.aC] using hr.gM
 bS:=fun i l v hl hv=>(hr.bS i l v hl hv).iT fun j sv u hm jM=>jM.back h (fun _ _ _ _=>rfl) (fun bc c d n e=>⟨fun e2=>by
  rw[hk] at e2
  cases e2
  exact hr.oI hb hg i l c d n hl (e▸List.mem_of_getElem? hm),rfl⟩)
 boxes:=fun bc B2 cU=>by
  have ar:id<s.bs.length:=(List.getElem?_eq_some_iff.1 hb).1
  simp only[State.aC,List.getElem?_set] at cU
  by_cases e:id=bc
  ·subst e
   rw[if_pos rfl,if_pos ar] at cU
   cases cU;exact⟨r,hβ,hB.out h J3⟩
  ·rw[if_neg e] at cU
   obtain⟨r',h1,h2⟩:=hr.boxes bc B2 cU
   exact⟨r',h1,h2.back h (by rw[hk];intro e2;cases e2;exact e rfl)⟩
 live:=fun i l bc t p hi hm=>by
  have ar:id<s.bs.length:=(List.getElem?_eq_some_iff.1 hb).1
  obtain⟨B2,cU⟩:=hr.live i l bc t p hi hm
  simp only[State.aC,List.getElem?_set]
  by_cases e:id=bc
  ·subst e;exact⟨B',by rw[if_pos rfl,if_pos ar]⟩
  ·rw[if_neg e];exact⟨B2,cU⟩
 defers:=hr.defers
 bz:=hr.bz.aC (hr.oI hb hg)
end
theorem aA.cS{k:Option Nat}{pl gu:List Nat->Place}{t:Ty}{x:El t}{w:List (List Nat)}{v:Value}(hr:aA X pl (.ak t x w) v):aA (X.cS k) gu (.ak t x []) v:=by
 obtain⟨cs,h1,h2,_⟩:=hr
 exact⟨cs,h1.aj (fun _ _=>va.2),h2,mE⟩
theorem bF.cS{id r:Nat}{B:bE}(hb:bF X id r B):bF (X.cS (some id)) 0 r B:=by
 obtain⟨h3,h1⟩:=hb
 refine⟨by simp [ax.cS,h3,iE],h1.move (fun _ _=>va.2) rfl (fun cs h4 p hp=> ?_) fun _ _ g o _ ho hw=>⟨ho,by simp [ax.cS,hw,iE]⟩⟩
 obtain⟨e,t',xs,v,g0,g1,g2,g3⟩:=h4 p hp
 refine⟨e,t',xs,v,g0,g1,g2,?_⟩
 rcases g3 with ho|⟨g,cap,cur,k1,k2,k3,k4,k5,k6⟩
 ·exact .inl ho
 ·exact .inr ⟨g,cap,cur,k1,k2,k3,k4,k5,by simp [ax.cS,k6,iE]⟩
theorem zqc:∀(vs l:List SV) (b:Option (Nat×bE)),jv s vs=some (l,b)->l.any SV.bO=false
 | [],l,b,h=>by
   simp only[jv,Option.some.injEq,Prod.mk.injEq] at h
   rw[<-h.1];rfl
 |v::r,l,b,h=>by
  simp only[jv] at h
  split at h
  ·cases h
  rename_i l1 b1 h1
  have ih:=zqc r l1 b1 h1
  split at h
  ·cases h;simpa [SV.bO] using ih
  ·cases h;simpa [SV.bO] using ih
  ·cases h;simpa [SV.bO] using ih
  ·split at h
   case h_2=>cases h
   split at h
   case isFalse=>cases h
   cases h;simpa [SV.bO] using ih
  ·cases h
theorem zqd(hr:Rel X s a):∀(vs:List (SV×Value)) (l:List SV) (b:Option (Nat×bE)),(∀x∈vs,∃q,aA X q x.1 x.2)->jv s (vs.map (·.1))=some (l,b)->l.length=vs.length/\
 (∀id B,b=some (id,B)->s.bs[id]? =some (some B))/\
 (∀id t p,SV.ptr id t p∈l->id=0/\b.isSome=true)/\
 ∀k,(∀id B,b=some (id,B)->k=some id)->∀(i:Nat) sv x,l[i]? =some sv->vs[i]? =some x->∀q,aA (X.cS k) q sv x.2:=by
 intro vs
 induction vs with
 |nil=>
  intro l b _ h
  simp only[List.map_nil,jv,Option.some.injEq,Prod.mk.injEq] at h
  obtain⟨rfl,rfl⟩:=h
  refine⟨rfl,(fun id B e=>by cases e),(fun id t p hm=>by cases hm),fun k _ i sv x hl=>by simp at hl⟩
 |cons x r ih=>
  intro l b jg h
  simp only[List.map_cons,jv] at h
  split at h
  ·cases h
  rename_i l1 b1 h1
  obtain⟨i1,i2,i3,i4⟩:=ih l1 b1 (fun y hy=>jg y (List.mem_cons_of_mem _ hy)) h1
  obtain⟨q0,hx⟩:=jg x List.mem_cons_self
  have fin:∀(sv:SV),l=sv::l1->(∀id B,b1=some (id,B)->b=b1)->(∀id B,b=some (id,B)->s.bs[id]? =some (some B))->(∀id t p,sv= .ptr id t p->id=0/\b.isSome=true)->
   (∀k,(∀id B,b=some (id,B)->k=some id)->∀q,aA (X.cS k) q sv x.2)->l.length=(x::r).length/\
   (∀id B,b=some (id,B)->s.bs[id]? =some (some B))/\
   (∀id t p,SV.ptr id t p∈l->id=0/\b.isSome=true)/\
   ∀k,(∀id B,b=some (id,B)->k=some id)->∀(i:Nat) sv y,l[i]? =some sv->(x::r)[i]? =some y->∀q,aA (X.cS k) q sv y.2:=by
   intro sv hl hb bL bM aL
   subst hl
   refine⟨by simp [i1],bL,fun id t p hm=> ?_,fun k hk i sv' y hl hv=> ?_⟩
   ·rcases List.mem_cons.1 hm with e|hm
    ·exact bM id t p e.symm
    ·obtain⟨j1,j2⟩:=i3 id t p hm
     cases nF:b1 with
     |none=>rw[nF] at j2;cases j2
     |some bb=>rw[hb bb.1 bb.2 nF];exact⟨j1,j2⟩
   ·cases i with
    |zero=>
     simp only[List.getElem?_cons_zero,Option.some.injEq] at hl hv
     subst hl hv
     exact aL k hk
    |succ i=>
     simp only[List.getElem?_cons_succ] at hl hv
     exact i4 k (fun id B e=>hk id B (by rw[hb id B e];exact e)) i sv' y hl hv
  obtain⟨x1,x2⟩:=x
  simp only at h hx fin
  split at h
  ·cases h
   exact fin _ rfl (fun _ _ _=>rfl) i2 (fun _ _ _ e=>by cases e) (fun k _ q=>hx.cS)
  ·cases h
   exact fin _ rfl (fun _ _ _=>rfl) i2 (fun _ _ _ e=>by cases e) (fun k _ q=>hx)
  ·cases h
   refine fin _ rfl (fun _ _ _=>rfl) i2 (fun _ _ _ e=>by cases e) (fun k _ q=> ?_)
   obtain⟨ad,cs,g1,g2,g3,g4⟩:=hx
   exact⟨ad,cs,g1,g2,g3.aj (fun _ _=>va.2),fun i w hi=>va.2 (g4 i w hi)⟩
  ·rename_i id t
   split at h
   case h_2=>cases h
   rename_i B hB
   split at h
   case isFalse=>cases h
   cases h
   obtain⟨rr,g1,g2⟩:=hx
   refine fin _ rfl (fun _ _ e=>by cases e) (fun id B e=>by cases e;exact qB hB) (fun _ _ _ e=>by cases e;exact⟨rfl,rfl⟩) (fun k hk q=> ?_)
   have:=hk id B rfl
   subst this
   exact⟨rr,g1,g2⟩
  ·cases h
def kJ(P:Program)(X:ax)(s:State)(a:Act)(o:Oper)(u:Out):Prop:=
 ∀(next:Act->World->Prop) (Q:Exit->Act->World->Prop),(∀Y v,Ext X Y->Rel Y (s.apply o.dst u) (a.put o.dst v)->next (a.put o.dst v) Y.w)->o.wp P a X.w next Q
theorem aI.does(h:aI P X s a o u):kJ P X s a o u:=fun next Q hn=>by
 obtain⟨Y,v,h1,h2,h3⟩:=h
 unfold Oper.wp
 rcases h1 with h1|⟨h1,rfl⟩
 ·rw[h1,Oper.upon_value];exact hn Y v h2 h3
 ·rw[h1,Oper.upon_skip];exact hn Y _ h2 h3
theorem LF{f:FuncId}(h:rU P f){dM:Array Operand}{ts:Array TypeId}(ho:o.op= .call ⟨.value (.func f),dM,ts⟩)(w:World):(execOp a.eval o).run P w= .ok (.enter f (dM.map a.eval)) w:=by
 obtain⟨fn,c,h1,h2,h3⟩:=h
 simp [execOp,ho,resolve,Deferred.ofValue,Act.eval,invoke,callFunc,h1,h3]
 simpa using h2
theorem zw2{l:List SV}{id:Nat}(h:∀id t p,SV.ptr id t p∉l):l.map (SV.gx id)=l:=by
 induction l with
 |nil=>rfl
 |cons v r ih=>
  rw[List.map_cons,ih (fun id t p hm=>h id t p (List.mem_cons_of_mem _ hm))]
  congr 1
  cases v<;>first|rfl|skip
  exact absurd (List.mem_cons_self) (h _ _ _)
theorem zr0{k k':Option Nat}{d:Nat}{β:Nat->Option Nat}{Y:ax}(h:Ext (X.cS k) Y){r0 id:Nat}{r:List SV}{v:Value}(hβ:∀bc t p,SV.ptr bc t p∈r->β id=some r0)(hn:r.any SV.bO=false)(hr:cM {Y with β:=fun _=>some r0} .r r v):cM (X.back Y k k' d β) (.c d) (r.map (SV.gx id)) v:=by
 match r,hr with
 | [sv],hr=>exact aA.out h (fun bc t p e=>hβ bc t p (by simp [e])) (by simpa using hn) hr
 | [],⟨vs,h1,h2,h3⟩=>exact⟨vs,h1,h2,fun j s u hs=>by simp at hs⟩
 |x::y::r,⟨vs,h1,h2,h3⟩=>
  refine⟨vs,h1,by simpa using h2,fun j sv u hs hu=> ?_⟩
  have hs:((x::y::r).map (SV.gx id))[j]? =some sv:=hs
  rw[List.getElem?_map] at hs
  obtain⟨s0,fb,rfl⟩:=Option.map_eq_some_iff.1 hs
  exact aA.out h (fun bc t p e=>hβ bc t p (e▸List.mem_of_getElem? fb)) (by simpa using List.any_eq_false.1 hn s0 (List.mem_of_getElem? fb)) (h3 j s0 u fb hu)
theorem Mk{l:List SV}{id:Nat}(h:l.any SV.bO=false):(l.map (SV.gx id)).any SV.bO=false:=List.any_eq_false.2 fun v hv=>by
 obtain⟨w,hw,rfl⟩:=List.mem_map.1 hv
 have:=List.any_eq_false.1 h w hw
 cases w<;>first|exact this|simp [SV.gx,SV.bO]
theorem adA:∀g pl n,(X.cS none).ow g≠ .row pl n:=fun g pl n=>by
 show iE none (X.ow g)≠_
 cases X.ow g with
 |row q m=>cases q<;>simp [iE]
 |_=>simp [iE]
theorem zdq(hr:Rel X s a){C:ah}(hC:C.Nat){f:FuncId}(hf:cW P C f){vs:List (SV×Value)}(xA:∀x∈vs,∃q,aA X q x.1 x.2)(eE:rU P f->(execOp a.eval o).run P X.w= .ok (.enter f (vs.map (·.2)).toArray) X.w)(h:fW (C Out) s o.dst f (vs.map (·.1)) some=some u):kJ P X s a o u:=by
 have aX:=eE
 clear eE
 unfold fW at h
 have enter:∀(l:List SV) (b:Option (Nat×bE)) (k:Option Nat),jv s (vs.map (·.1))=some (l,b)->(∀id B,b=some (id,B)->k=some id)->(b=none->k=none)->jS (X.cS k) l (b.map (·.2)) (vs.map (·.2)).toArray:=by
  intro l b k bX hk Av
  obtain⟨i1,i2,i3,i4⟩:=zqd hr vs l b xA bX
  refine⟨by simpa using i1.symm,fun i sv v hl hv=> ?_,fun id t p hm=> ?_,fun B hB=> ?_,fun hb=> ?_,zqc _ _ _ bX⟩
  ·rw[List.getElem?_toArray,List.getElem?_map] at hv
   obtain⟨x,hx,rfl⟩:=Option.map_eq_some_iff.1 hv
   exact i4 k hk i sv x hl hx _
  ·obtain⟨j1,j2⟩:=i3 id t p hm
   exact⟨j1,by simpa using j2⟩
  ·obtain⟨bb,hbb,rfl⟩:=Option.map_eq_some_iff.1 hB
   obtain⟨id,B⟩:=bb
   obtain⟨r,h1,h2⟩:=hr.boxes id B (i2 id B hbb)
   have:=hk id B hbb
   subst this
   exact⟨r,h1,h2.cS⟩
  ·have hb:b=none:=by cases b<;>simp at hb⊢
   rw[Av hb]
   exact adA
 split at h
 ·rename_i l bX
  obtain⟨⟨r,b'⟩,m7,h⟩:=jP (hC Out _ f l none _ (fun r b=>some (r,b)) (fun z=>match z.2 with
   |none=>some {v:=z.1}
   |some B=>match o.dst with
    |some d=>match s.bs[d+1]? with
     |some none=>some {v:=z.1.map (SV.gx (d+1)),bx:=some (d+1,B)}
     |_=>none
    |none=>none) (fun r b=>rfl)) h
  obtain⟨eE,na⟩:=hf l none r b' m7
  have ia:=enter l none none bX (fun id B e=>by cases e) (fun _=>rfl)
  intro next Q hn
  unfold Oper.wp
  rw[aX eE,Oper.upon_enter]
  refine(na (X.cS none) _ ia).mono fun e w' he=> ?_
  cases e with
  |returned v=>
   obtain⟨Y,rfl,aZ,r0,aL,bL,ox,dU⟩:=he
   simp only at h
   cases b' with
   |none=>
    cases h
    have hp:=ox (.inl rfl)
    have cc:=zqe (k':=none) (d:=o.dst.getD 0) (β:=X.β) aZ rfl
    refine hn (X.back Y none none (o.dst.getD 0) X.β) v cc ?_
    refine(Rel.back (k':=none) aZ hr (fun _ _ _=>rfl) (fun _ _ _=>by simp)).fin ?_ (fun id t p hm=>absurd hm (hp id t p)) dU
    have:=zr0 (k':=none) (d:=o.dst.getD 0) (β:=X.β) (id:=0) aZ (fun bc t p hm=>absurd hm (hp bc t p)) dU aL
    rw[zw2 hp] at this
    exact this
   |some B=>
    simp only at h
    split at h
    case h_2=>cases h
    rename_i d hd
    split at h
    case h_2=>cases h
    rename_i je
    cases h
    have ar:d+1<s.bs.length:=(List.getElem?_eq_some_iff.1 je).1
    obtain⟨hB,_⟩:=bL B rfl
    let β:Nat->Option Nat:=fun id=>if id=d+1 then some r0 else X.β id
    have hβd:β (d+1)=some r0:=by simp [β]
    have cc:=zqe (k':=some (d+1)) (d:=d) (β:=β) aZ (by simp [β])
    refine hn (X.back Y none (some (d+1)) d β) v cc ?_
    have bu:=(Rel.back (k':=some (d+1)) (d:=d) (β:=β) aZ hr (fun id B2 cU=>by
     show(if _ then _ else _)=_
     rw[if_neg (fun e=>by rw[e,je] at cU;cases cU)]) (fun _ _ _=>by simp)).fp ar je hβd (hB.out aZ rfl)
    rw[hd]
    refine bu.put (fun d' e=> ?_) (fun id t p hm=> ?_) (Mk dU)
    ·cases e
     exact zr0 aZ (fun _ _ _ _=>hβd) dU aL
    ·obtain⟨s0,_,he0⟩:=List.mem_map.1 hm
     have:id=d+1:=by
      cases s0<;>simp [SV.gx] at he0
      exact he0.1.symm
     subst this
     exact⟨B,by simp [State.close,State.aC,List.getElem?_set,ar]⟩
  |panicked c=>exact he.elim
  |outgrown=>exact he.elim
 ·rename_i l id B bX
  split at h
  case isTrue=>cases h
  rename_i ru
  have hg:B.t.eJ=false\/ []∈B.own:=by
   rw[Bool.not_eq_true,Bool.and_eq_false_iff,Bool.not_eq_false'] at ru
   exact ru.imp (fun h=>h) A7
  obtain⟨⟨r,b'⟩,m7,h⟩:=jP (hC Out _ f l (some B) _ (fun r b=>some (r,b)) (fun z=>match z.2 with
   |some B'=>if B'.t.cn B.t=true then some {v:=z.1,bx:=some (id,B')} else none
   |none=>none) (fun r b=>rfl)) h
  obtain⟨eE,na⟩:=hf l (some B) r b' m7
  have ia:=enter l (some (id,B)) (some id) bX (fun id B e=>by cases e;rfl) (fun e=>by cases e)
  obtain⟨_,i2,_,_⟩:=zqd hr vs l _ xA bX
  have hb:=i2 id B rfl
  intro next Q hn
  unfold Oper.wp
  rw[aX eE,Oper.upon_enter]
  refine(na (X.cS (some id)) _ ia).mono fun e w' he=> ?_
  cases e with
  |returned v=>
   obtain⟨Y,rfl,aZ,r0,aL,bL,ox,dU⟩:=he
   simp only at h
   cases b' with
   |none=>cases h
   |some B'=>
    simp only at h
    split at h
    case isFalse=>cases h
    cases h
    have hp:=ox (.inr rfl)
    obtain⟨hB,hβ⟩:=bL B' rfl
    have hβ:=hβ rfl
    have cc:=zqe (k':=some id) (d:=o.dst.getD 0) (β:=X.β) aZ rfl
    refine hn (X.back Y (some id) (some id) (o.dst.getD 0) X.β) v cc ?_
    refine(Rel.xa (k:=some id) (k':=some id) aZ hr hb rfl rfl hβ hB hg).fin ?_ (fun id t p hm=>absurd hm (hp id t p)) dU
    have:=zr0 (k':=some id) (d:=o.dst.getD 0) (β:=X.β) (id:=0) aZ (fun bc t p hm=>absurd hm (hp bc t p)) dU aL
    rw[zw2 hp] at this
    exact this
  |panicked c=>exact he.elim
  |outgrown=>exact he.elim
 ·cases h
theorem zdf(hr:Rel X s a)(dM:Array Operand):∀x∈dM.toList.map (fun x=>(s.aH x,a.eval x)),∃q,aA X q x.1 x.2:=fun x hx=>by
 obtain⟨y,_,rfl⟩:=List.mem_map.1 hx
 exact⟨_,hr.aH y⟩
theorem Mq{X:ax}{pl:List Nat->Place}{sv:SV}{v:Value}(h:aA X pl sv v):aA X pl sv.shut v:=by
 cases sv with
 |ak t x own=>
  obtain⟨cs,h1,h2,_⟩:=h
  exact⟨cs,h1,h2,mE⟩
 |bz id a b j=>trivial
 |_=>exact h
theorem ag7{X:ax}{pl:Nat->List Nat->Place}{l:List SV}{v:Value}(h:cM X pl l v):cM X pl (l.map SV.shut) v:=by
 match l,h with
 | [sv],h=>exact Mq (sv:=sv) h
 | [],h=>exact h
 |x::y::r,⟨vs,g1,g2,g3⟩=>
  refine⟨vs,g1,by simpa using g2,fun j sv u me hu=> ?_⟩
  have me:((x::y::r).map SV.shut)[j]? =some sv:=me
  rw[List.getElem?_map] at me
  obtain⟨s0,fb,rfl⟩:=Option.map_eq_some_iff.1 me
  exact Mq (g3 j s0 u fb hu)
theorem ag6{l:List SV}{j:Nat}{t:Ty}{p:List Nat}(h:SV.ptr j t p∈l.map SV.shut):SV.ptr j t p∈l:=by
 obtain⟨s0,fb,he⟩:=List.mem_map.1 h
 cases s0<;>first|(cases he;done)|(rw[<-he];exact fb)|skip
theorem Rel.bQ(hr:Rel X s a){d:Nat}{l:List SV}:Rel X {s with sl:=s.sl.set d l} a->Rel X {s with sl:=s.sl.set d (l.map SV.shut)} a:=fun h=>{
 size:=by simpa using hr.size
 gM:=by simpa using hr.gM
 bS:=fun i l' v hl hv=>by
  replace hl:(s.sl.set d (l.map SV.shut))[i]? =some l':=hl
  rw[List.getElem?_set] at hl
  split at hl
  ·rename_i tW
   split at hl
   ·cases hl
    rename_i ar
    exact ag7 (h.bS i l v (by show(s.sl.set d l)[i]? =_;rw[List.getElem?_set,if_pos tW,if_pos ar]) hv)
   ·cases hl
  ·rename_i tW
   exact h.bS i l' v (by show(s.sl.set d l)[i]? =_;rw[List.getElem?_set,if_neg tW];exact hl) hv
 boxes:=h.boxes
 live:=fun i l' id t p hl hm=>by
  replace hl:(s.sl.set d (l.map SV.shut))[i]? =some l':=hl
  rw[List.getElem?_set] at hl
  split at hl
  ·rename_i tW
   split at hl
   ·cases hl
    rename_i ar
    exact h.live i l id t p (by show(s.sl.set d l)[i]? =_;rw[List.getElem?_set,if_pos tW,if_pos ar]) (ag6 hm)
   ·cases hl
  ·rename_i tW
   exact h.live i l' id t p (by show(s.sl.set d l)[i]? =_;rw[List.getElem?_set,if_neg tW];exact hl) hm
 defers:=h.defers
 bz:=h.bz.less (fun i l' id c b j hl hm=>by
  replace hl:(s.sl.set d (l.map SV.shut))[i]? =some l':=hl
  rw[List.getElem?_set] at hl
  split at hl
  ·split at hl
   ·cases hl
    exact(Yu (zir l) hm).elim
   ·cases hl
  ·rename_i tW
   exact⟨l',by show(s.sl.set d l)[i]? =_;rw[List.getElem?_set,if_neg tW];exact hl,hm,fun h=>h⟩) (fun id c b x own _ hb ho=>⟨x,own,hb,ho⟩)}
theorem kJ.shut(h:kJ P X s a o u):kJ P X s a o u.shut:=fun next Q hn=>h next Q fun Y v aZ bu=>hn Y v aZ (by
 unfold State.apply at bu⊢
 show Rel Y (((s.close u.cl).aC u.bx).av o.dst (u.v.map SV.shut)) _
 generalize(s.close u.cl).aC u.bx=s1 at*
 cases hd:o.dst with
 |none=>rw[hd] at bu;exact bu
 |some d=>
  rw[hd] at bu
  have e:=Rel.bQ (X:=Y) (s:={s1 with sl:=s1.sl.set d u.v}) (a:=a.put (some d) v) (d:=d) (l:=u.v) bu (by
   show Rel Y {s1 with sl:=(s1.sl.set d u.v).set d u.v} _
   rw[List.set_set];exact bu)
  show Rel Y {s1 with sl:=s1.sl.set d (u.v.map SV.shut)} _
  have e2:Rel Y {s1 with sl:=(s1.sl.set d u.v).set d (u.v.map SV.shut)} (a.put (some d) v):=e
  rw[List.set_set] at e2
  exact e2)
def fg(id j:Nat):Ow->Bool
 | .row (.b bc (j'::_)) _=>Nat.beq bc id&&Nat.beq j' j
 |_=>false
def yh(id j:Nat):Ow->Ow
 | .all=> .all
 | .ro n=> .ro n
 | .box _=> .ro 0
 | .row (.b bc (j'::p)) n=>if Nat.beq bc id&&Nat.beq j' j then .row (.b 0 p) n else .ro n
 | .row _ n=> .ro n
def Yn(id j d:Nat):Ow->Ow
 | .all=> .all
 | .ro n=> .ro n
 | .box _=> .ro 0
 | .row (.r i p) n=> .row (.c d i p) n
 | .row (.b 0 p) n=> .row (.b id (j::p)) n
 | .row _ n=> .ro n
theorem zom{id j:Nat}{w:Ow}{i:Nat}:(yh id j w).used i↔w.used i:=by
 cases w with
 |all=>rfl
 |ro n=>rfl
 |box id=>simp [yh,Ow.used]
 |row pl n=>
  cases pl with
  |b bc p=>
   cases p with
   |nil=>rfl
   |cons j' p=>simp only[yh];split<;>rfl
  |_=>rfl
theorem acr{id j d:Nat}{w:Ow}{i:Nat}(h:w.used i):(Yn id j d w).used i:=by
 cases w with
 |all=>exact h
 |ro n=>exact h
 |box id=>exact h.elim
 |row pl n=>
  cases pl with
  |b bc p=>cases bc<;>exact h
  |c i j p=>exact h
  |r j p=>exact h
theorem zii{id j:Nat}{w:Ow}(h:fg id j w=false):(yh id j w).still:=by
 cases w with
 |all=>trivial
 |ro n=>trivial
 |box id=>trivial
 |row pl n=>
  cases pl with
  |b bc p=>
   cases p with
   |nil=>trivial
   |cons j' p=>simp only[fg] at h;simp only[yh,h];trivial
  |_=>trivial
def ax.ew(X:ax)(id j g:Nat):ax:=⟨X.w,fun q=>if q=g then .box 0 else yh id j (X.ow q),fun _=>some g⟩
def ax.bf(X Y:ax)(id j g d:Nat):ax:=⟨Y.w,fun q=>if q=g then .row (.b id [j]) 0 else if q<X.w.heap.size/\fg id j (X.ow q)=false then X.ow q else Yn id j d (Y.ow q),X.β⟩
section
variable {Y:ax} {id j g d:Nat}
theorem L4(hg:X.ow g= .row (.b id [j]) 0){ad:Addr}{v:Value}:(X.ew id j g).az ad v↔X.az ad v:=by
 simp only[ax.az,ax.ew]
 split
 ·rename_i e
  rw[e,hg]
  simp [Ow.used]
 ·rw[zom]
theorem z31(h:Ext (X.ew id j g) Y){q:Nat}(hq:q<X.w.heap.size)(hm:fg id j (X.ow q)=false)(bM:q≠g):(X.bf Y id j g d).ow q=X.ow q/\(X.bf Y id j g d).w.heap[q]? =X.w.heap[q]? /\(Y.ow q).still/\Y.ow q=yh id j (X.ow q):=by
 have e:(X.ew id j g).ow q=yh id j (X.ow q):=by simp only[ax.ew];rw[if_neg bM]
 obtain⟨h1,h2⟩:=h.still q hq (by rw[e];exact zii hm)
 refine⟨by simp only[ax.bf];rw[if_neg bM,if_pos ⟨hq,hm⟩],h2,?_,h1.trans e⟩
 rw[h1,e];exact zii hm
theorem adW(h:Ext (X.ew id j g) Y){q:Nat}(bM:q≠g)(hs:¬(Y.ow q).still):(X.bf Y id j g d).ow q=Yn id j d (Y.ow q):=by
 simp only[ax.bf]
 rw[if_neg bM,if_neg]
 rintro⟨hq,hm⟩
 exact hs (z31 (d:=d) h hq hm bM).2.2.1
theorem zb0(h:Ext (X.ew id j g) Y)(hY:Y.ow g= .box 0){ad:Addr}{v:Value}(hs:Y.az ad v):(X.bf Y id j g d).az ad v:=by
 have bM:ad.block≠g:=fun e=>by
  have:=hs.2.2
  rw[e,hY] at this
  exact this
 refine⟨hs.1,hs.2.1,?_⟩
 simp only[ax.bf]
 rw[if_neg bM]
 split
 ·rename_i hc
  have:=(z31 (d:=d) h hc.1 hc.2 bM).2.2.2
  have hu:=hs.2.2
  rw[this,zom] at hu
  exact hu
 ·exact acr hs.2.2
theorem z87(h:Ext (X.ew id j g) Y)(hg:X.ow g= .row (.b id [j]) 0)(hY:Y.ow g= .box 0):Ext X (X.bf Y id j g d) where
 az:=fun ad v hs=>zb0 h hY (h.az ad v ((L4 hg).2 hs))
 size:=h.size
 os:=h.os
 tape:=h.tape
 output:=h.output
 β0:=rfl
 still:=fun q hq bR=>by
  have hm:fg id j (X.ow q)=false:=by cases hx:X.ow q<;>rw[hx] at bR<;>first|rfl|exact bR.elim
  obtain⟨h1,h2,_⟩:=z31 (d:=d) h hq hm (fun e=>by rw[e,hg] at bR;exact bR)
  exact⟨h1,h2⟩
theorem bq.bf(h:Ext (X.ew id j g) Y)(hg:X.ow g= .row (.b id [j]) 0){pl:Place}(fO:∀n,fg id j (.row pl n)=false){e:TypeId}{m n:Nat}{v:Value}(ho:bq X pl e m n v):bq (X.bf Y id j g d) pl e m n v:=by
 rcases ho with ho|⟨q,cap,cur,h1,h2,h3,h4,h5,h6⟩
 ·exact .inl ho
 ·obtain⟨k1,k2,_⟩:=z31 (d:=d) h (vE h2) (by rw[h6];exact fO _) (fun e=>by
   rw[e,hg] at h6
   injection h6 with h6 _
   have:=fO 0
   rw[<-h6] at this
   simp [fg] at this)
  exact .inr ⟨q,cap,cur,h1,k2.trans h2,h3,h4,h5,k1.trans h6⟩
theorem bm.bf(h:Ext (X.ew id j g) Y)(hg:X.ow g= .row (.b id [j]) 0){pl:List Nat->Place}(fO:∀p n,fg id j (.row (pl p) n)=false){t:Ty}{x:El t}{cs:List Value}{own:List (List Nat)}(ho:bm X pl t x cs own):bm (X.bf Y id j g d) pl t x cs own:=fun p hp=>by
 obtain⟨e,t',xs,v,g0,g1,g2,g3⟩:=ho p hp
 exact⟨e,t',xs,v,g0,g1,g2,g3.bf h hg (fO p)⟩
theorem bm.rB(h:Ext (X.ew id j g) Y)(hY:Y.ow g= .box 0){pl gu:List Nat->Place}(fO:∀p n,Yn id j d (.row (pl p) n)= .row (gu p) n){t:Ty}{x:El t}{cs:List Value}{own:List (List Nat)}(ho:bm Y pl t x cs own):bm (X.bf Y id j g d) gu t x cs own:=fun p hp=>by
 obtain⟨e,t',xs,v,g0,g1,g2,g3⟩:=ho p hp
 refine⟨e,t',xs,v,g0,g1,g2,?_⟩
 rcases g3 with ho|⟨q,cap,cur,h1,h2,h3,h4,h5,h6⟩
 ·exact .inl ho
 ·refine .inr ⟨q,cap,cur,h1,h2,h3,h4,h5,?_⟩
  rw[adW h (fun e=>by rw[e,hY] at h6;cases h6) (by rw[h6];exact fun e=>e),h6,fO]
theorem aA.bf(h:Ext (X.ew id j g) Y)(hg:X.ow g= .row (.b id [j]) 0)(hY:Y.ow g= .box 0){i k:Nat}{sv:SV}{v:Value}(hr:aA X (.c i k) sv v):aA (X.bf Y id j g d) (.c i k) sv v:=by
 have hs:∀a v,X.az a v->(X.bf Y id j g d).az a v:=(z87 h hg hY).az
 cases sv with
 |undef=>trivial
 |skip=>exact hr
 |cF=>exact hr
 |dS=>exact hr
 |over=>exact hr
 |ak t x own=>
  obtain⟨cs,h1,h2,h3⟩:=hr
  exact⟨cs,h1.aj hs,h2,h3.bf h hg (fun _ _=>rfl)⟩
 |ptr bc t p=>
  obtain⟨r,h1,h2⟩:=hr
  exact⟨r,h1,h2⟩
 |view t x=>
  obtain⟨ad,cs,h1,h2,h3,h4⟩:=hr
  exact⟨ad,cs,h1,h2,h3.aj hs,fun i u hi=>hs _ _ (h4 i u hi)⟩
 |cap f t x u y=>exact rN hs hr
 |bz bc a b n=>
  obtain⟨r,h1,h2,h3⟩:=hr
  obtain⟨e1,e2,_⟩:=z31 (d:=d) (q:=r) h (World.block_lt_of_cell? X.w _ h3) (by rw[h2];rfl) (fun e=>by rw[e,hg] at h2;cases h2)
  refine⟨r,h1,e1.trans h2,?_⟩
  simp only[World.cell?] at h3⊢
  rw[e2];exact h3
theorem bF.bf(h:Ext (X.ew id j g) Y)(hg:X.ow g= .row (.b id [j]) 0)(hY:Y.ow g= .box 0){bc r:Nat}{B:bE}(bM:bc≠id)(hb:bF X bc r B):bF (X.bf Y id j g d) bc r B:=by
 obtain⟨h3,h1⟩:=hb
 have hm:∀p n,fg id j (.row (.b bc p) n)=false:=fun p n=>by
  cases p with
  |nil=>rfl
  |cons j' p=>simp [fg,bM]
 obtain⟨k1,k2,_⟩:=z31 (d:=d) h h1.lt (by rw[h3];rfl) (fun e=>by rw[e,hg] at h3;cases h3)
 exact⟨k1.trans h3,h1.move (z87 h hg hY).az k2 (fun cs h4=>h4.bf h hg hm) fun p _ q o n ho hw=>by
  obtain⟨e1,e2,_⟩:=z31 (d:=d) h (vE ho) (by rw[hw];exact hm _ _) (fun e=>by
   rw[e,hg] at hw
   injection hw with hw _
   have:=hm p n
   rw[<-hw] at this
   simp [fg] at this)
  exact⟨e2.trans ho,e1.trans hw⟩⟩
theorem aA.rB(h:Ext (X.ew id j g) Y)(hY:Y.ow g= .box 0){r0 k:Nat}{sv:SV}{v:Value}(hp:∀id t p,sv≠ .ptr id t p)(hn:sv.bO=false)(hr:aA {Y with β:=fun _=>some r0} (.r k) sv v):aA (X.bf Y id j g d) (.c d k) sv v:=by
 have hs:∀a v,({Y with β:=fun _=>some r0}:ax).az a v->(X.bf Y id j g d).az a v:=fun a v hs=>zb0 h hY (show Y.az a v from hs)
 cases sv with
 |undef=>trivial
 |skip=>exact hr
 |cF=>exact hr
 |dS=>exact hr
 |over=>exact hr
 |ak t x own=>
  obtain⟨cs,h1,h2,h3⟩:=hr
  have h3:bm Y (.r k) t x cs own:=h3
  exact⟨cs,bh.aj hs h1,h2,h3.rB h hY (fun _ _=>rfl)⟩
 |ptr bc t p=>exact absurd rfl (hp bc t p)
 |view t x=>
  obtain⟨ad,cs,h1,h2,h3,h4⟩:=hr
  exact⟨ad,cs,h1,h2,bh.aj hs h3,fun i u hi=>hs _ _ (h4 i u hi)⟩
 |cap f t x u y=>exact rN (X:={Y with β:=fun _=>some r0}) hs hr
 |bz bc a b n=>cases hn
theorem cM.rB(h:Ext (X.ew id j g) Y)(hY:Y.ow g= .box 0){r0:Nat}{r:List SV}{v:Value}(hp:∀id t p,SV.ptr id t p∉r)(hn:r.any SV.bO=false)(hr:cM {Y with β:=fun _=>some r0} .r r v):cM (X.bf Y id j g d) (.c d) r v:=
 hr.iT fun k sv u hk hu=>hu.rB h hY (fun id t p e=>hp id t p (e▸List.mem_of_getElem? hk)) (by simpa using List.any_eq_false.1 hn sv (List.mem_of_getElem? hk))
theorem dz.bf(h:Ext (X.ew id j g) Y)(hg:X.ow g= .row (.b id [j]) 0)(hY:Y.ow g= .box 0){k:Nat}(hk:k≠j){b:Ty}{m:Option (El b)}{v:Value}(hm:dz X (fun p=> .b id (k::p)) b m v):dz (X.bf Y id j g d) (fun p=> .b id (k::p)) b m v:=
 hm.move (z87 h hg hY).az fun p _ q o n ho hw=>by
  have hf:fg id j (.row (.b id (k::p)) n)=false:=by
   simp only[fg]
   rw[show Nat.beq k j=false from by
    cases h:Nat.beq k j with
    |false=>rfl
    |true=>exact absurd (Nat.eq_of_beq_eq_true h) hk,Bool.and_false]
  obtain⟨e1,e2,_⟩:=z31 (d:=d) h (vE ho) (by rw[hw];exact hf) (fun e=>by
   rw[e,hg] at hw
   injection hw with hw _
   injection hw with _ hw
   injection hw with hw _
   exact hk hw.symm)
  exact⟨e2.trans ho,e1.trans hw⟩
end
theorem PL:∀(vs l:List SV),jv s vs=some (l,none)->∀sv∈l,(∃t x,sv= .ak t x [])\/sv= .cF\/∃t x,sv= .view t x
 | [],l,h,sv,hm=>by
   simp only[jv,Option.some.injEq,Prod.mk.injEq] at h
   rw[<-h.1] at hm
   cases hm
 |v::r,l,h,sv,hm=>by
  simp only[jv] at h
  split at h
  ·cases h
  rename_i l1 b1 h1
  split at h
  ·cases h
   rcases List.mem_cons.1 hm with rfl|hm
   ·exact .inl ⟨_,_,rfl⟩
   ·exact PL r l1 h1 sv hm
  ·cases h
   rcases List.mem_cons.1 hm with rfl|hm
   ·exact .inr (.inl rfl)
   ·exact PL r l1 h1 sv hm
  ·cases h
   rcases List.mem_cons.1 hm with rfl|hm
   ·exact .inr (.inr ⟨_,_,rfl⟩)
   ·exact PL r l1 h1 sv hm
  ·split at h
   case h_2=>cases h
   split at h
   case isFalse=>cases h
   cases h
  ·cases h
theorem zon{dM:List Operand}{t id j:Nat}{ta tb:Ty}{r:List Operand}(h:FM s dM=some (t,id,ta,tb,j,r)):dM= .tmp t::r/\s.slot t=[.bz id ta tb j]:=by
 unfold FM at h
 split at h
 case h_2=>cases h
 split at h
 case h_2=>cases h
 rename_i hs
 cases h
 exact⟨rfl,hs⟩
theorem ajV{X:ax}{id j:Nat}{b:Ty}{m:Option (El b)×Option (El b)}{p0 p1:Value}{y:El b}(hj:j<2)(h0:dz X (fun p=> .b id (0::p)) b m.1 p0)(h1:dz X (fun p=> .b id (1::p)) b m.2 p1)(hy:getM j m=some y):dz X (fun p=> .b id (j::p)) b (some y) (if j=0 then p0 else p1):=by
 match j,hj with
 |0,_=>
  have hy:m.1=some y:=hy
  rw[hy] at h0
  exact h0
 |1,_=>
  have hy:m.2=some y:=hy
  rw[hy] at h1
  exact h1
theorem adh(hr:Rel X s a){C:ah}(hC:C.Nat){f:FuncId}(hf:cW P C f){dM:Array Operand}{ts:Array TypeId}(ho:o.op= .call ⟨.value (.func f),dM,ts⟩){t id j:Nat}{ta tb:Ty}{r:List Operand}(hl:FM s dM.toList=some (t,id,ta,tb,j,r))(h:j7 (C Out) s f t id ta tb j (r.map s.aH) some=some u):kJ P X s a o u:=by
 obtain⟨has,bR⟩:=zon hl
 have iA:=hr.slot t
 rw[bR] at iA
 obtain⟨rr,hβ,how,dN⟩:aA X (.c t 0) (.bz id ta tb j) (a.tmps.getD t Go.undef):=iA
 have ZS:t<s.sl.length:=by
  rcases Nat.lt_or_ge t s.sl.length with h|h
  ·exact h
  ·simp [State.slot,List.getElem?_eq_none h] at bR
 have hsi:s.sl[t]? =some [.bz id ta tb j]:=by rw[qC ZS,bR]
 obtain⟨_,⟨x1,KK,nF,aoT⟩,Ks⟩:=hr.bz t _ id ta tb j hsi (by simp)
 unfold j7 at h
 split at h
 case isTrue=>cases h
 rename_i eb
 have eb:tb.bI=false:=by simpa using eb
 split at h
 case h_2=>cases h
 rename_i l bX
 obtain⟨x,own,r1,hb,h,bU,h1,_,c,p0,p1,T,aE,aL,sc,sd⟩:=Fv hr h
 rw[hβ] at h1
 cases h1
 split at h
 case h_2=>cases h
 rename_i y hy
 have hv:(c++ [p0,p1,Value.int .i64 x.2.2])[ta.cells+j]? =some (a.tmps.getD t Go.undef):=by
  simp only[World.cell?,aE] at dN
  simpa using dN
 rw[List.getElem?_append_right (by rw[aL.len];omega),aL.len,Nat.add_sub_cancel_left] at hv
 have hj:j<2:=by
  match j,hy with
  |0,_=>omega
  |1,_=>omega
  |j+2,hy=>cases hy
 obtain⟨g,csg,Tg,AA,Zl,mA,ZM,ZW⟩:=ajV hj sc sd hy
 have hvt:a.tmps.getD t Go.undef= .pointer (some ⟨g,0,none⟩):=by
  match j,hj with
  |0,_=>
   have hv:p0=a.tmps.getD t Go.undef:=by simpa using hv
   rw[<-hv];exact AA
  |1,_=>
   have hv:p1=a.tmps.getD t Go.undef:=by simpa using hv
   rw[<-hv];exact AA
 obtain⟨⟨res,b'⟩,m7,h⟩:=jP (hC Out _ f (.ptr 0 tb []::l) (some ⟨tb,y,Br⟩) _ (fun r b=>some (r,b)) (fun z=>match z.2 with
  |some B'=>if h:B'.t.cn tb=true then bif gL B'.own [2] then some {v:=z.1,bx:=some (id,⟨.aG .bB ta tb,(x.1,fL j (some (Ty.cast h B'.x)) x.2.1,x.2.2),[]::own⟩),cl:=[(t,0)]} else none else none
  |none=>none) (fun r b=>rfl)) h
 obtain⟨eE,na⟩:=hf _ _ res b' m7
 have ia:jS (X.ew id j g) (.ptr 0 tb []::l) (some ⟨tb,y,Br⟩) (dM.map a.eval):=by
  have eh:∀ad v,X.az ad v->(X.ew id j g).az ad v:=fun _ _=>(L4 mA).2
  have JO:dM.toList.map a.eval=a.eval (.tmp t)::r.map a.eval:=by rw[has];rfl
  have cB:∀i,(dM.map a.eval)[i]? =(a.eval (.tmp t)::r.map a.eval)[i]? :=fun i=>by
   rw[<-JO,<-Array.toList_map,Array.getElem?_toList]
  obtain⟨i1,_,_,i4⟩:=zqd hr (r.map fun x=>(s.aH x,a.eval x)) l none (fun z hz=>by
   obtain⟨q,_,rfl⟩:=List.mem_map.1 hz
   exact⟨_,hr.aH q⟩) (by rw[List.map_map];exact bX)
  refine⟨?_,fun i sv v hs hv=> ?_,fun bc t' p hm=> ?_,fun B hB=> ?_,(fun hb=>by cases hb),(by have:=zqc _ _ _ bX;simpa [SV.bO] using this)⟩
  ·have:=congrArg List.length JO
   simp at this i1⊢
   omega
  ·rw[cB] at hv
   cases i with
   |zero=>
    simp only[List.getElem?_cons_zero,Option.some.injEq] at hs hv
    subst hs hv
    refine⟨g,rfl,(qA eb).2 ⟨?_,by simp [Ty.eI]⟩⟩
    show a.tmps.getD t Go.undef=_
    rw[hvt]
    simp [Ty.off]
   |succ i=>
    simp only[List.getElem?_cons_succ] at hs hv
    have hx:=i4 none (fun _ _ e=>by cases e) i sv
    rw[List.getElem?_map] at hv
    obtain⟨q,hq,rfl⟩:=Option.map_eq_some_iff.1 hv
    have uo:=hx (s.aH q,a.eval q) hs (by rw[List.getElem?_map,hq];rfl) (.c (i+1) 0)
    have AE:∀ad v,(X.cS none).az ad v->(X.ew id j g).az ad v:=fun ad v h=>eh ad v (va.1 h)
    rcases PL _ _ bX sv (List.mem_of_getElem? hs) with⟨t1,y1,rfl⟩|rfl|⟨t1,y1,rfl⟩
    ·obtain⟨cs,e1,e2,_⟩:=uo
     exact⟨cs,e1.aj AE,e2,mE⟩
    ·exact uo
    ·obtain⟨ad,cs,e1,e2,e3,e4⟩:=uo
     exact⟨ad,cs,e1,e2,e3.aj AE,fun i w hi=>AE _ _ (e4 i w hi)⟩
  ·rcases List.mem_cons.1 hm with e|hm
   ·cases e;exact⟨rfl,rfl⟩
   ·rcases PL _ _ bX _ hm with⟨_,_,e⟩|e|⟨_,_,e⟩<;>cases e
  ·cases hB
   refine⟨g,rfl,by simp [ax.ew],dy.of eb Zl (ZM.aj eh) fun p hp=> ?_⟩
   obtain⟨e,t',xs,v,g0,g1,g2,g3⟩:=ZW p hp
   refine⟨e,t',xs,v,g0,g1,g2,?_⟩
   rcases g3 with g3|⟨q,cap,cur,k1,k2,k3,k4,k5,k6⟩
   ·exact .inl g3
   ·refine .inr ⟨q,cap,cur,k1,k2,k3,k4,k5,?_⟩
    have bM:q≠g:=fun e=>by
     rw[e,mA] at k6
     injection k6 with k6 _
     injection k6 with _ k6
     injection k6 with _ k6
     have:p=[2]:=by simpa [Br] using hp
     rw[this] at k6
     cases k6
    simp only[ax.ew]
    rw[if_neg bM,k6]
    simp [yh]
 intro next Q hn
 unfold Oper.wp
 rw[LF eE ho,Oper.upon_enter]
 refine(na (X.ew id j g) _ ia).mono fun e w' he=> ?_
 cases e with
 |panicked c=>exact he.elim
 |outgrown=>exact he.elim
 |returned v=>
  obtain⟨Y,rfl,aZ,r0,Kl,bL,ox,dU⟩:=he
  cases b' with
  |none=>cases h
  |some B'=>
   simp only at h
   split at h
   case isFalse=>cases h
   rename_i dk
   cases Kb:gL B'.own [2] with
   |false=>rw[Kb] at h;cases h
   |true=>
   rw[Kb,cond_true] at h
   cases h
   have hp:=ox (.inr rfl)
   obtain⟨hB,hβ0⟩:=bL B' rfl
   have hβ0:=hβ0 rfl
   have:g=r0:=by
    have e:(X.ew id j g).β 0=some g:=rfl
    rw[e] at hβ0
    injection hβ0
   subst this
   have hY:Y.ow g= .box 0:=hB.1
   have hX:=z87 (d:=o.dst.getD 0) aZ mA hY
   refine hn (X.bf Y id j g (o.dst.getD 0)) v hX ?_
   obtain⟨er1,er2,_⟩:=z31 (d:=o.dst.getD 0) (q:=rr) aZ (vE aE) (by rw[how];rfl) (fun e=>by rw[e,mA] at how;cases how)
   have cE:dz (X.bf Y id j g (o.dst.getD 0)) (fun p=> .b id (j::p)) tb (some (Ty.cast dk B'.x)) (.pointer (some ⟨g,0,none⟩)):=by
    obtain⟨bt,bx,bo⟩:=B'
    have e:=Ty.aJ dk
    simp only at e
    subst e
    obtain⟨eH,T',k1,k2,k3⟩:=(dy.plain eb).1 hB.2
    refine⟨g,eH,T',rfl,k1,by simp [ax.bf],k2.aj fun _ _=>zb0 aZ hY,?_⟩
    have h2:bm (X.bf Y id j g (o.dst.getD 0)) (fun p=> .b id (j::p)) bt bx eH.toList bo:=bm.rB aZ hY (pl:= .b 0) (fun _ _=>rfl) k3
    intro p hp
    have:p=[2]:=by simpa [Br] using hp
    subst this
    exact h2 [2] (A7 Kb)
   have Ce:ig (X.bf Y id j g (o.dst.getD 0)) rr (.b id) ta tb (x.1,fL j (some (Ty.cast dk B'.x)) x.2.1,x.2.2):=by
    refine⟨c,p0,p1,T,er2.trans aE,aL.aj hX.az,?_,?_⟩
    ·match j,hj,AA with
     |0,_,AA=>
      have:p0= .pointer (some ⟨g,0,none⟩):=AA
      rw[this];exact cE
     |1,_,_=>exact sc.bf aZ mA hY (by omega)
    ·match j,hj,AA with
     |0,_,_=>exact sd.bf aZ mA hY (by omega)
     |1,_,AA=>
      have:p1= .pointer (some ⟨g,0,none⟩):=AA
      rw[this];exact cE
   have dQ:=hr.cf t 0
   have iz:∀(i:Nat) (l:List SV) a b j,(s.cf t 0).sl[i]? =some l->SV.bz id a b j∈l->False:=fun i l a' b' j' kN hm=>by
    simp only[State.cf,List.getElem?_set] at kN
    split at kN
    ·first
      |(split at kN
        ·cases kN
         rw[bR] at hm
         simp [Ref.bQ,SV.shut] at hm
        ·cases kN)
      |(cases kN
        rw[bR] at hm
        simp [Ref.bQ,SV.shut] at hm)
    ·rename_i e
     exact e (Ks i l a' b' j' kN hm).symm
   have ar:id<(s.cf t 0).bs.length:=(List.getElem?_eq_some_iff.1 hb).1
   have bu:Rel (X.bf Y id j g (o.dst.getD 0)) ((s.cf t 0).aC (some (id,⟨.aG .bB ta tb,(x.1,fL j (some (Ty.cast dk B'.x)) x.2.1,x.2.2),[]::own⟩))) a:=by
    refine⟨dQ.size,by simpa [State.aC] using dQ.gM,fun i l v kN ji=>(dQ.bS i l v kN ji).iT fun k sv u hm hu=>hu.bf aZ mA hY,fun bc B2 cU=> ?_,fun i l bc t' p hi hm=> ?_,dQ.defers,dQ.bz.aC iz⟩
    ·simp only[State.aC,List.getElem?_set] at cU
     by_cases e:id=bc
     ·subst e
      rw[if_pos rfl,if_pos ar] at cU
      cases cU
      exact⟨rr,hβ,er1.trans how,⟨_,er2.trans aE⟩,fun _=>Ce⟩
     ·rw[if_neg e] at cU
      obtain⟨r',k1,k2⟩:=dQ.boxes bc B2 cU
      exact⟨r',k1,k2.bf aZ mA hY (fun e2=>e e2.symm)⟩
    ·obtain⟨B2,cU⟩:=dQ.live i l bc t' p hi hm
     simp only[State.aC,List.getElem?_set]
     by_cases e:id=bc
     ·subst e;exact⟨_,by rw[if_pos rfl,if_pos ar]⟩
     ·rw[if_neg e];exact⟨B2,cU⟩
   exact bu.fin (Kl.rB aZ hY hp dU) (fun id t p hm=>absurd hm (hp id t p)) dU
theorem agb(hr:Rel X s a){C:ah}(hC:C.Nat){f:FuncId}(hf:cW P C f){ops:List Oper}{dM:Array Operand}{ts:Array TypeId}(ho:o.op= .call ⟨.value (.func f),dM,ts⟩)(h:act E (C Out) ops o s some=some u):kJ P X s a o u:=by
 unfold act at h
 simp only[ho] at h
 split at h
 ·rename_i t id ta tb j r hl
  exact adh hr hC hf ho hl h
 obtain⟨u0,h0,h1⟩:=jP (SF hC (F:=fun u=>some (bif fE E o.dst then u.shut else u)) (G:=some) (K:=fun u=>some (bif fE E o.dst then u.shut else u)) (fun _=>rfl)) h
 have hd:kJ P X s a o u0:=by
  refine zdq hr hC hf (zdf hr dM) (fun eE=> ?_) (by rw[List.map_map];exact h0)
  rw[LF eE ho]
  congr 2
  apply Array.toList_inj.1
  simp [Function.comp_def]
 cases hs:fE E o.dst with
 |false=>rw[hs] at h1;cases h1;exact hd
 |true=>rw[hs] at h1;cases h1;exact hd.shut
theorem amq{f:FuncId}(h:rU P f){x:Operand}{v:Value}{dM:Array Operand}{ts:Array TypeId}(ho:o.op= .call ⟨.value x,dM,ts⟩)(hx:a.eval x= .func (.func f) #[] #[v])(w:World):(execOp a.eval o).run P w= .ok (.enter f (dM.map a.eval++ #[v])) w:=by
 obtain⟨fn,c,h1,h2,h3⟩:=h
 simp [execOp,ho,resolve,Deferred.ofValue,hx,invoke,callFunc,h1,h3]
 simpa using h2
theorem ajB{f:FuncId}(h:rU P f){x:Operand}{v v2:Value}{dM:Array Operand}{ts:Array TypeId}(ho:o.op= .call ⟨.value x,dM,ts⟩)(hx:a.eval x= .func (.func f) #[] #[v,v2])(w:World):(execOp a.eval o).run P w= .ok (.enter f (dM.map a.eval++ #[v,v2])) w:=by
 obtain⟨fn,c,h1,h2,h3⟩:=h
 simp [execOp,ho,resolve,Deferred.ofValue,hx,invoke,callFunc,h1,h3]
 simpa using h2
theorem adg(hr:Rel X s a){C:ah}(hC:C.Nat)(hf:∀f,cW P C f){ops:List Oper}{y:Nat}{dM:Array Operand}{ts:Array TypeId}(ho:o.op= .call ⟨.value (.tmp y),dM,ts⟩)(h:act E (C Out) ops o s some=some u):kJ P X s a o u:=by
 unfold act at h
 simp only[ho] at h
 split at h
 case h_3=>cases h
 case h_2=>
  rename_i f t x1 u' y1 dF
  have hx:=hr.aH (.tmp y)
  rw[dF] at hx
  obtain⟨ad,qo,cs,eH,hv,⟨g2,g3,g4⟩,k2,k3,k4⟩:=hx
  refine zdq hr hC (hf f) (vs:=dM.toList.map (fun x=>(s.aH x,a.eval x))++ [(.view t x1,.pointer (some ad)),(.view u' y1,.pointer (some qo))]) (fun x hx=> ?_) (fun eE=> ?_) (by rw[List.map_append,List.map_map];exact h)
  ·rcases List.mem_append.1 hx with hx|hx
   ·exact zdf hr dM x hx
   ·rcases List.mem_cons.1 hx with rfl|hx
    ·exact⟨.r 0,ad,cs,rfl,g2,g3,g4⟩
    ·rw[List.mem_singleton.1 hx]
     exact⟨.r 0,qo,eH,rfl,k2,k3,k4⟩
  ·rw[ajB eE ho hv]
   congr 2
   apply Array.toList_inj.1
   simp [Function.comp_def]
 rename_i id f t b dF
 have hx:=hr.aH (.tmp y)
 rw[dF] at hx
 obtain⟨r0,hβ,hv⟩:=hx
 have hv:a.eval (.tmp y)= .func (.func f) #[] #[.pointer (some ⟨r0,0,none⟩)]:=hv
 split at h
 case isTrue=>cases h
 rename_i hs
 refine zdq hr hC (hf f) (vs:=dM.toList.map (fun x=>(s.aH x,a.eval x))++ [(.ptr id t [],.pointer (some ⟨r0,0,none⟩))]) (fun x hx=> ?_) (fun eE=> ?_) (by rw[List.map_append,List.map_map];exact h)
 ·rcases List.mem_append.1 hx with hx|hx
  ·exact zdf hr dM x hx
  ·rw[List.mem_singleton.1 hx]
   exact⟨.r 0,r0,hβ,(PZ (by simpa using hs)).2 ⟨by simp [Ty.off],by simp [Ty.eI]⟩⟩
 ·rw[amq eE ho hv]
  congr 2
  apply Array.toList_inj.1
  simp [Function.comp_def]
end Go.Ref

namespace Go.Ref
open Go
variable {P:Program} {E:Env} {X:ax} {s:State} {a:Act} {o:Oper} {u:Out}
theorem ajn(hE:ap P E)(hr:Rel X s a){C:ah}(hC:C.Nat)(hf:∀f,cW P C f){ops:List Oper}(h:act E (C Out) ops o s some=some u):kJ P X s a o u:=by
 cases ho:o.op with
 |move x=>exact(agh hr ho h).does
 |assign x=>exact(acx hr ho h).does
 |pick c x y=>exact(agj hr ho h).does
 |binOp op T x y T'=>exact(ajI hE hr ho h).does
 |unOp op T x=>exact(amt hr ho h).does
 |convert S T x=>exact(agc hE hr ho h).does
 |load T x=>exact(agf hE hr ho h).does
 |store T x y=>exact(adq hE hr ho h).does
 |nilCheck x=>exact(abH hr ho h).does
 |fieldAddr T x j=>exact(abB hE hr ho h).does
 |indexAddr T x i=>exact(abC hE hr ho h).does
 |index T x i=>exact(adn hE hr ho h).does
 |field T x j=>exact(adl hE hr ho h).does
 |slice T x lo hi mx=>
  cases mx with
  |none=>exact(ajK hE hr ho h).does
  |some m=>unfold act at h;simp only[ho] at h;cases h
 |alloc T=>exact(ade hE hr ho h).does
 |box T x=>exact(ajJ hE hr ho h).does
 |build T parts=>exact(adf hE hr ho h).does
 |buildSlice T n parts=>exact(zv1 hE hr ho h).does
 |extract x j=>exact(ab1 hr ho h).does
 |makeMap T r=>exact(ab6 hE hr ho h).does
 |lookup T x i ok=>exact(acz hE hr ho h).does
 |mapUpdate T m k x=>exact(zcm hE hr (.inl ho) h).does
 |insert T m k x=>exact(zcm hE hr (.inr ho) h).does
 |range T x=>exact(adp hE hr ho h).does
 |next x str=>exact(agi hr ho h).does
 |makeSlice T l c=>exact(z116 hE hr ho h).does
 |makeFunc fn fi ca=>exact(abG hr ho h).does
 |call c=>
  obtain⟨callee,args,ts⟩:=c
  cases callee with
  |value x=>
   cases x with
   |func f=>exact agb hr hC (hf f) ho h
   |tmp y=>exact adg hr hC hf ho h
   |_=>unfold act at h;simp only[ho] at h;cases h
  |builtin b=>
   cases b with
   |len=>exact(ajL (x:= .const Go.undef) (T:=0) hE hr ho h).does
   |append=>exact(acw hE hr ho h).does
   |copy=>exact(agd hE hr ho h).does
   |max=>exact(Lx (g:=true) hr ho h).does
   |min=>exact(Lx (g:=false) hr ho h).does
   |_=>unfold act at h;simp only[ho] at h;cases h
  |_=>unfold act at h;simp only[ho] at h;cases h
 |_=>unfold act at h;simp only[ho] at h;cases h
theorem Rel.know(hr:Rel X s a){d:Nat}{p:Bool}{o:List (List Nat)}(h:s.slot d=[.ak .bool p o]):Rel X (s.av (some d) (bl p)) a/\a.tmps[d]? =some (.bool p):=by
 have hd:d<s.sl.length:=by
  rcases Nat.lt_or_ge d s.sl.length with h1|h1
  ·exact h1
  ·simp [State.slot,List.getElem?_eq_none h1] at h
 have rY:d<a.tmps.size:=by rw[<-hr.size];exact hd
 have hv:a.tmps[d]? =some (a.tmps.getD d Go.undef):=by simp [Array.getElem?_eq_getElem rY]
 have hs:=hr.slot d
 rw[h] at hs
 have hb:=Pv (X:=X) hs
 rw[hb] at hv
 refine⟨?_,hv⟩
 have ZI:a.put (some d) (.bool p)=a:=by
  cases a with
  |mk tmps defers=>
   simp only[Act.put,Act.mk.injEq,and_true]
   apply Array.ext_getElem?
   intro i
   rw[Array.getElem?_setIfInBounds]
   split
   ·rename_i e
    subst e
    first
     |exact hv.symm
     |(rw[if_pos rY];exact hv.symm)
   ·rfl
 have:=hr.put (d:=some d) (l:=bl p) (v:= .bool p) (fun _ _=>nC) (fun id t q hm=>by simp [bl] at hm)
 rw[ZI] at this
 exact this
theorem Wa(hE:ap P E)(hr:Rel X s a){C:ah}(hC:C.Nat)(hf:∀f,cW P C f){ops:Array Oper}{i:Nat}(hi:ops[i]? =some o){s':State}(h:step E (C State) ops.toList o s some=some s'){Q:Exit->Act->World->Prop}{K:Act->World->Prop}
 (hK:∀Y a',Ext X Y->Rel Y s' a'->K a' Y.w):wpOp P ops Q i K a X.w:=by
 unfold wpOp
 simp only[hi]
 have ru:∀{s1:State},Rel X s1 a->(act E (C State) ops.toList o s1 fun u=>some (s1.apply o.dst u))=some s'->o.wp P a X.w K Q:=by
  intro s1 dQ h1
  obtain⟨u,hu,h2⟩:=jP (x8 hC (F:=fun u=>some (s1.apply o.dst u)) (G:=some) (K:=fun u=>some (s1.apply o.dst u)) (fun _=>rfl)) h1
  cases h2
  exact ajn hE dQ hC hf hu K Q (fun Y v aZ bu=>hK Y _ aZ bu)
 have ke:∀{s1:State},Rel X s1 a->some (s1.av o.dst [.skip])=some s'->K (a.put o.dst Go.undef) X.w:=by
  intro s1 dQ h1
  cases h1
  exact hK X _ (Ext.refl X) (dQ.skip o.dst)
 unfold step at h
 simp only at h
 split at h
 ·rename_i hg
  have hw:Region.wanted o (yielded ops a.tmps)=true:=by simp [Region.wanted,hg]
  rw[if_pos hw]
  exact .inl (ru hr h)
 ·rename_i g want hg
  split at h
  ·cases h
  rename_i d hd
  have hd':(ops[g]?).bind (·.dst)=some d:=by simpa [QP] using hd
  split at h
  ·rename_i p hs
   obtain⟨dQ,hv⟩:=hr.know hs
   have hy:yielded ops a.tmps g=some p:=by simp [yielded,hd',hv]
   have hw:Region.wanted o (yielded ops a.tmps)=(p==want):=by simp [Region.wanted,hg,hy]
   cases p<;>cases want<;>simp only[cond_true,cond_false] at h<;>rw[hw]
   ·exact .inl (ru dQ h)
   ·exact ke dQ h
   ·exact ke dQ h
   ·exact .inl (ru dQ h)
  ·rename_i hs
   have iA:=hr.slot d
   rw[hs] at iA
   have oC:a.tmps.getD d Go.undef=Go.undef:=iA
   have hy:yielded ops a.tmps g=none:=by
    simp only[yielded,hd',Option.bind_some]
    cases ht:a.tmps[d]? with
    |none=>rfl
    |some v=>
     have:v=Go.undef:=by
      rw[<-oC]
      simp [Array.getD_eq_getD_getElem?,ht]
     subst this
     rfl
   have hw:Region.wanted o (yielded ops a.tmps)=false:=by simp [Region.wanted,hg,hy]
   rw[hw]
   exact ke hr h
  ·cases h
theorem z198(hE:ap P E){C:ah}(hC:C.Nat)(hf:∀f,cW P C f){ops:Array Oper}{s':State}{Q:Exit->Act->World->Prop}:∀(l:List Nat) (X:ax) (s:State) (a:Act),Rel X s a->(∀i∈l,i<ops.size)->
 steps E (C State) ops.toList (l.map fun i=>ops.getD i default) s some=some s'->(∀Y a',Ext X Y->Rel Y s' a'->Q .normal a' Y.w)->wpOps P ops Q l a X.w
 | [],X,s,a,hr,_,h,hQ=>by
   cases h
   exact hQ X a (Ext.refl X) hr
 |i::r,X,s,a,hr,hl,h,hQ=>by
  simp only[List.map_cons,steps] at h
  obtain⟨s1,h1,h2⟩:=jP (zr4 hC (F:=fun s=>steps E (C State) ops.toList (r.map fun i=>ops.getD i default) s some) (G:=some) (K:=fun s=>steps E (C State) ops.toList (r.map fun i=>ops.getD i default) s some) (fun _=>rfl)) h
  have hi:ops[i]? =some (ops.getD i default):=by
   have:=hl i (by simp)
   simp [this]
  rw[wpOps_cons]
  refine Wa hE hr hC hf hi h1 fun Y a' aZ bu=> ?_
  exact z198 hE hC hf r Y s1 a' bu (fun j hj=>hl j (List.mem_cons_of_mem _ hj)) h2 fun Z a2 cc c9=>hQ Z a2 (aZ.trans cc) c9
end Go.Ref

namespace Go.Ref
open Go
variable {P:Program} {E:Env} {X:ax} {s:State} {a:Act} {o:Oper} {u:Out}
theorem zqm(i j:Nat):(bit i).testBit j=decide (i=j):=by
 simp [bit,Nat.shiftLeft_eq,Nat.testBit_two_pow]
theorem x4:∀(l:List Nat) (j:Nat),(jl l).testBit j=decide (j∈l)
 | [],j=>by simp [jl]
 |i::r,j=>by
  rw[jl,Nat.testBit_or,zqm,x4 r j]
  by_cases h:i=j
  ·subst h;simp
  ·have h':¬j=i:=fun e=>h e.symm
   simp [h,h']
theorem S0{a b:Nat}(h:Nat.beq (a&&&b) 0=true)(j:Nat):a.testBit j=true->b.testBit j=false:=by
 intro ha
 have h0:=Nat.eq_of_beq_eq_true h
 have:=congrArg (fun n=>Nat.testBit n j) h0
 simp only[Nat.testBit_and,Nat.zero_testBit,ha,Bool.true_and] at this
 exact this
theorem EQ:∀(l:List Edge) (j:Nat),(zx l).testBit j=true->∃e∈l,Region.binds .any e=true/\e.on=j
 | [],j,h=>by simp [zx] at h
 |e::r,j,h=>by
  simp only[zx] at h
  cases hb:Region.binds .any e with
  |false=>
   rw[hb] at h
   obtain⟨e',h1,h2⟩:=EQ r j h
   exact⟨e',List.mem_cons_of_mem _ h1,h2⟩
  |true=>
   rw[hb] at h
   simp only[cond_true,Nat.testBit_or,zqm,Bool.or_eq_true,decide_eq_true_eq] at h
   rcases h with h|h
   ·exact⟨e,by simp,hb,h⟩
   ·obtain⟨e',h1,h2⟩:=EQ r j h
    exact⟨e',List.mem_cons_of_mem _ h1,h2⟩
theorem zhd:∀(l:List Edge) (e:Edge),e∈l->Region.binds .any e=true->(zx l).testBit e.on=true
 |e'::r,e,h,hb=>by
  simp only[zx]
  rcases List.mem_cons.1 h with rfl|h
  ·rw[hb];simp [Nat.testBit_or,zqm]
  ·have:=zhd r e h hb
   cases Region.binds .any e'<;>simp [Nat.testBit_or,this]
theorem Lk{m i j:Nat}(h:Nat.ble (m+1) (bit i)=true)(hj:m.testBit j=true):j<i:=by
 have h1:m<2^i:=by
  have:=Nat.le_of_ble_eq_true h
  simp only[bit,Nat.shiftLeft_eq,Nat.one_mul] at this
  omega
 rcases Nat.lt_or_ge j i with h2|h2
 ·exact h2
 ·have h3:m<2^j:=Nat.lt_of_lt_of_le h1 (Nat.pow_le_pow_right (by omega) h2)
  rw[Nat.testBit_lt_two_pow h3] at hj
  cases hj
def eL(E:Env)(C:ah)(ops:List Oper)(o:Oper)(s:State):Option Out:=
 match o.guard with
 |none=>act E (C Out) ops o s some
 |some (g,want)=>match QP ops g with
  |none=>none
  |some d=>match s.slot d with
   | [.ak .bool p []]=>if p=want then act E (C Out) ops o s some else some {v:=[.skip]}
   | [.skip]=>some {v:=[.skip]}
   |_=>none
theorem GF{d:Nat}{l:List SV}(h:s.slot d=l):s.av (some d) l=s:=by
 cases s with
 |mk sl bs=>
  simp only[State.av,State.mk.injEq,and_true]
  simp only[State.slot] at h
  apply List.ext_getElem?
  intro i
  rw[List.getElem?_set]
  split
  ·rename_i e
   subst e
   split
   ·rename_i ar
    rw[List.getD_eq_getElem?_getD,List.getElem?_eq_getElem ar] at h
    rw[List.getElem?_eq_getElem ar]
    simpa using h.symm
   ·rename_i ar
    rw[List.getElem?_eq_none (by omega)]
  ·rfl
theorem ahc{C:ah}(hC:C.Nat){R:Type}{ops:List Oper}{i:Nat}{tr:List dV}{K:State->List dV->Option R}{z:R}(h:lH E (C R) ops o i s tr K=some z):
 ∃u,eL E C ops o s=some u/\fits ops (zx o.after.toList) (gE ops o i s u) tr=true/\K (s.apply o.dst u) (gE ops o i s u::tr)=some z:=by
 have ru:(act E (C R) ops o s fun u=>bif fits ops (zx o.after.toList) (gE ops o i s u) tr then K (s.apply o.dst u) (gE ops o i s u::tr) else none)=some z->
  ∃u,act E (C Out) ops o s some=some u/\fits ops (zx o.after.toList) (gE ops o i s u) tr=true/\K (s.apply o.dst u) (gE ops o i s u::tr)=some z:=by
  intro h
  obtain⟨u,h1,h2⟩:=jP (x8 hC (F:=fun u=>bif fits ops (zx o.after.toList) (gE ops o i s u) tr then K (s.apply o.dst u) (gE ops o i s u::tr) else none) (G:=some) (K:=fun u=>bif fits ops (zx o.after.toList) (gE ops o i s u) tr then K (s.apply o.dst u) (gE ops o i s u::tr) else none) (fun _=>rfl)) h
  cases hf:fits ops (zx o.after.toList) (gE ops o i s u) tr with
  |false=>rw[hf] at h2;cases h2
  |true=>rw[hf] at h2;exact⟨u,h1,hf,h2⟩
 have ke:(bif fits ops (zx o.after.toList) (gE ops o i s {v:=[.skip]}) tr then K (s.apply o.dst {v:=[.skip]}) (gE ops o i s {v:=[.skip]}::tr) else none)=some z->
  fits ops (zx o.after.toList) (gE ops o i s {v:=[.skip]}) tr=true/\K (s.apply o.dst {v:=[.skip]}) (gE ops o i s {v:=[.skip]}::tr)=some z:=by
  intro h
  cases hf:fits ops (zx o.after.toList) (gE ops o i s {v:=[.skip]}) tr with
  |false=>rw[hf] at h;cases h
  |true=>rw[hf] at h;exact⟨rfl,h⟩
 unfold lH at h
 unfold eL
 simp only at h
 split at h
 ·rename_i hg
  try simp only[hg]
  exact ru h
 ·rename_i g want hg
  try simp only[hg]
  split at h
  ·cases h
  rename_i d hd
  try simp only[hd]
  split at h
  ·rename_i p hs
   have me:s.slot d=bl p:=hs
   try simp only[hs]
   cases p<;>cases want<;>simp only[cond_true,cond_false] at h
   ·rw[GF me] at h;rw[if_pos rfl];exact ru h
   ·rw[GF me] at h;rw[if_neg (by simp)];exact⟨_,rfl,ke h⟩
   ·rw[GF me] at h;rw[if_neg (by simp)];exact⟨_,rfl,ke h⟩
   ·rw[GF me] at h;rw[if_pos rfl];exact ru h
  ·rename_i hs
   try simp only[hs]
   exact⟨_,rfl,ke h⟩
  ·cases h
theorem zoz{C:ah}(hC:C.Nat){ops:List Oper}(h:eL E C ops o s=some u):step E (C State) ops o s some=some (s.apply o.dst u):=by
 have ru:act E (C Out) ops o s some=some u->(act E (C State) ops o s fun u=>some (s.apply o.dst u))=some (s.apply o.dst u):=by
  intro h
  rw[x8 hC (F:=fun u=>some (s.apply o.dst u)) (G:=some) (K:=fun u=>some (s.apply o.dst u)) (fun _=>rfl),h]
  rfl
 unfold eL at h
 unfold step
 simp only
 split at h
 ·rename_i hg
  try simp only[hg]
  exact ru h
 ·rename_i g want hg
  try simp only[hg]
  split at h
  ·cases h
  rename_i d hd
  try simp only[hd]
  split at h
  ·rename_i p hs
   have me:s.slot d=bl p:=hs
   try simp only[hs]
   split at h
   ·rename_i e
    subst e
    cases p<;>simp only[cond_true,cond_false]<;>rw[GF me]<;>exact ru h
   ·rename_i e
    cases h
    cases p<;>cases want<;>simp only[cond_true,cond_false]<;>first|exact absurd rfl e|(rw[GF me];rfl)
  ·rename_i hs
   try simp only[hs]
   cases h
   rfl
  ·cases h
structure mG(ts bs:List Nat)(s s':State):Prop where
 sl:∀t∈ts,s.slot t=s'.slot t
 bs:∀id∈bs,s.bs[id]? =s'.bs[id]?
theorem NE{l:List Operand}{t:Nat}:Operand.tmp t∈l->t∈rS l:=by
 induction l with
 |nil=>intro h;cases h
 |cons x r ih=>
  intro h
  rcases List.mem_cons.1 h with e|h
  ·subst e;simp [rS]
  ·have:=ih h
   cases x<;>simp [rS,this]
theorem zik{s s':State}{ts:List Nat}(h:∀t∈ts,s.slot t=s'.slot t){l:List Operand}(hl:∀t∈rS l,t∈ts){x:Operand}(hx:x∈l):s.aH x=s'.aH x:=by
 cases x with
 |tmp t=>simp only[State.aH,State.xG,h t (hl t (NE hx))]
 |_=>rfl
theorem adN(j:Nat):bQ [SV.undef] j=[SV.undef]:=by
 cases j<;>rfl
theorem zan{s:State}{i j t:Nat}:(s.cf i j).slot t=if t=i then bQ (s.slot t) j else s.slot t:=by
 simp only[State.cf,State.slot,List.getD_eq_getElem?_getD,List.getElem?_set]
 by_cases e:t=i
 ·subst e
  rw[if_pos rfl,if_pos rfl]
  by_cases ar:t<s.sl.length
  ·rw[if_pos ar];rfl
  ·rw[if_neg ar,List.getElem?_eq_none (by omega)]
   simp [adN]
 ·rw[if_neg e,if_neg (fun h=>e h.symm)]
theorem zo7{t:Nat}:∀{c:List (Nat×Nat)} {s s':State},s.slot t=s'.slot t->(s.close c).slot t=(s'.close c).slot t
 | [],s,s',h=>h
 |(i,j)::r,s,s',h=>by
  rw[ER,ER]
  refine zo7 (c:=r) ?_
  rw[zan,zan,h]
theorem zos{ts:List Nat}:∀{l:List (Nat×Operand)} {s s':State},(∀t∈ts,s.slot t=s'.slot t)->(∀t∈rS (l.map (·.2)),t∈ts)->z21 s l=z21 s' l
 | [],s,s',h,hl=>rfl
 |(i,x)::r,s,s',h,hl=>by
  have hx:s.aH x=s'.aH x:=zik h hl (by simp)
  have hr:∀c:List (Nat×Nat),z21 (s.close c) r=z21 (s'.close c) r:=fun c=>zos (fun t ht=>zo7 (h t ht)) (fun t ht=>hl t (by
   cases x<;>simp [rS,ht]))
  simp only[z21,hx,hr]
theorem PB{s s':State}:∀{l:List SV},(∀id∈l.flatMap cm,s.box id=s'.box id)->jv s l=jv s' l
 | [],h=>rfl
 |v::r,h=>by
  have hr:jv s r=jv s' r:=PB fun id fI=>h id (by simp only[List.flatMap_cons,List.mem_append];exact .inr fI)
  simp only[jv,hr]
  split
  ·rfl
  ·rename_i l b _
   cases v with
   |ptr id t p=>
    have hb:s.box id=s'.box id:=h id (by simp [cm])
    cases p with
    |nil=>cases b<;>simp only[hb]
    |cons _ _=>rfl
   |_=>rfl
theorem afG{C:FuncId->bW Out}{ops:List Oper}{s s':State}(h:mG (looks ops o) (zv s o) s s'):act E C ops o s some=act E C ops o s' some:=by
 have iA:∀t∈rS o.op.operands.toList,s.slot t=s'.slot t:=fun t ht=>h.sl t (by simp only[looks,List.mem_append];exact .inl ht)
 have cC:∀x∈o.op.operands.toList,s.aH x=s'.aH x:=fun x hx=>zik iA (fun _ ht=>ht) hx
 have bL:∀id∈zv s o,s.box id=s'.box id:=fun id fI=>by
  simp only[State.box,List.getD_eq_getElem?_getD,h.bs id fI]
 unfold act
 cases ho:o.op with
 |move x=>
  have ht:nx s x=nx s' x:=by
   cases x with
   |tmp t=>
    have:s.slot t=s'.slot t:=iA t (by simp [ho,Op.operands,rS])
    simp only[nx,this]
   |_=>rfl
  simp only;rw[cC x (by simp [ho,Op.operands]),ht]
 |assign x=>simp only;rw[cC x (by simp [ho,Op.operands])]
 |pick c x y=>simp only;rw[cC c (by simp [ho,Op.operands]),cC x (by simp [ho,Op.operands]),cC y (by simp [ho,Op.operands])]
 |binOp op T x y T'=>simp only;rw[cC x (by simp [ho,Op.operands]),cC y (by simp [ho,Op.operands])]
 |unOp op T x=>simp only;rw[cC x (by simp [ho,Op.operands])]
 |convert S T x=>
  have hx:=cC x (by simp [ho,Op.operands])
  simp only
  rw[<-hx]
  split
  ·rename_i id n ta tb e
   simp only[j9,bL id (by simp [zv,ho,e,cm])]
  ·rfl
 |makeMap T r=>
  cases r with
  |some r=>rfl
  |none=>
   simp only
   cases hd:o.dst with
   |none=>rfl
   |some d=>
    have:=h.bs (d+1) (by simp [zv,ho,hd])
    simp only[kq,this]
 |lookup T x i ok=>
  cases ok with
  |true=>rfl
  |false=>
   simp only
   rw[<-cC x (by simp [ho,Op.operands]),<-cC i (by simp [ho,Op.operands])]
   unfold ly vJ
   split
   ·split
    ·rename_i e
     simp only[bL _ (by simp only[zv,ho,e,cm];exact List.mem_singleton.2 rfl)]
    ·rfl
   ·rfl
 |mapUpdate T m k x=>
  simp only
  rw[<-cC m (by simp [ho,Op.operands]),<-cC k (by simp [ho,Op.operands]),<-cC x (by simp [ho,Op.operands])]
  unfold mr vJ
  split
  ·split
   ·rename_i e
    simp only[bL _ (by simp only[zv,ho,e,cm];exact List.mem_singleton.2 rfl)]
   ·rfl
  ·rfl
 |insert T m k x=>
  simp only
  rw[<-cC m (by simp [ho,Op.operands]),<-cC k (by simp [ho,Op.operands]),<-cC x (by simp [ho,Op.operands])]
  unfold mr vJ
  split
  ·split
   ·rename_i e
    simp only[bL _ (by simp only[zv,ho,e,cm];exact List.mem_singleton.2 rfl)]
   ·rfl
  ·rfl
 |range T x=>
  simp only
  rw[<-cC x (by simp [ho,Op.operands])]
  cases hd:o.dst with
  |none=>rfl
  |some d=>
   have:=h.bs (d+1) (by simp [zv,ho,hd])
   simp only[kq,this]
 |next x str=>
  cases str with
  |false=>rfl
  |true=>
   simp only
   rw[<-cC x (by simp [ho,Op.operands])]
   unfold lB
   split
   ·rename_i e
    simp only[bL _ (by simp only[zv,ho,e,cm];exact List.mem_singleton.2 rfl)]
   ·rfl
 |makeSlice T l c=>
  simp only
  rw[<-cC l (by simp [ho,Op.operands]),<-cC c (by simp [ho,Op.operands])]
  cases hd:o.dst with
  |none=>rfl
  |some d=>
   have:=h.bs (d+1) (by simp [zv,ho,hd])
   simp only[lA,kq,this]
 |load T x=>
  have hx:=cC x (by simp [ho,Op.operands])
  simp only
  rw[<-hx]
  unfold load
  split
  ·split
   ·rfl
   ·rename_i id t p e
    simp only[Fw,nN,bL id (by simp [zv,ho,e,cm])]
   ·rfl
  ·unfold ko
   split
   ·rename_i id a b j e
    simp only[nN,bL id (by simp [zv,ho,e,cm])]
   ·rfl
 |store T x y=>
  have hx:=cC x (by simp [ho,Op.operands])
  have hy:=cC y (by simp [ho,Op.operands])
  simp only
  rw[<-hx]
  unfold store
  rw[<-hy]
  split
  ·split
   ·rename_i id t p e
    simp only[E7,nN,bL id (by simp [zv,ho,e,cm])]
   ·rfl
  ·rfl
 |nilCheck x=>simp only;rw[cC x (by simp [ho,Op.operands])]
 |fieldAddr T x j=>simp only;rw[cC x (by simp [ho,Op.operands])]
 |indexAddr T x i=>simp only;rw[cC x (by simp [ho,Op.operands]),cC i (by simp [ho,Op.operands])]
 |index T x i=>simp only;rw[cC x (by simp [ho,Op.operands]),cC i (by simp [ho,Op.operands])]
 |field T x j=>simp only;rw[cC x (by simp [ho,Op.operands])]
 |slice T x lo hi mx=>
  cases mx with
  |none=>
   simp only
   have Cj:lo.map s.aH=lo.map s'.aH:=by
    cases lo with
    |none=>rfl
    |some l=>simp only[Option.map_some,cC l (by simp [ho,Op.operands])]
   have JZ:hi.map s.aH=hi.map s'.aH:=by
    cases hi with
    |none=>rfl
    |some l=>simp only[Option.map_some,cC l (by simp [ho,Op.operands])]
   rw[<-cC x (by simp [ho,Op.operands]),Cj,JZ]
   split
   ·rfl
   ·rename_i id n t e
    simp only[re,bL id (by simp [zv,ho,e,cm])]
   ·rfl
  |some m=>rfl
 |makeFunc fn fi ca=>
  cases fn with
  |func f=>
   simp only
   split
   ·rename_i x e1 e2
    have hm:x∈o.op.operands.toList:=by
     simp only[ho,Op.operands,Array.toList_append,List.mem_append,e2]
     exact .inr (by simp)
    rw[cC x hm]
   ·rename_i x y e1 e2
    have hm:∀z∈ [x,y],z∈o.op.operands.toList:=fun z hz=>by
     simp only[ho,Op.operands,Array.toList_append,List.mem_append,e2]
     exact .inr hz
    rw[cC x (hm x (by simp)),cC y (hm y (by simp))]
   ·rfl
  |_=>rfl
 |alloc T=>
  simp only
  cases hd:o.dst with
  |none=>split<;>simp_all
  |some d=>
   have:=h.bs (d+1) (by simp [zv,ho,hd])
   cases E.ty T<;>cases E.gr T<;>simp only[this]
 |box T x=>
  have hx:=cC x (by simp [ho,Op.operands])
  simp only
  cases hd:o.dst with
  |none=>split<;>simp_all
  |some d=>
   have:=h.bs (d+1) (by simp [zv,ho,hd])
   cases E.ty T<;>simp only[this,hx]
 |build T parts=>
  have hp:z21 s parts.toList=z21 s' parts.toList:=zos iA (fun t ht=>by simpa [ho,Op.operands] using ht)
  simp only[hp]
 |buildSlice T n parts=>
  have hp:(parts.toList.map fun p=>(p.1,s.aH p.2))=parts.toList.map fun p=>(p.1,s'.aH p.2):=List.map_congr_left fun p hp=>by
   rw[cC p.2 (by
    simp only[ho,Op.operands]
    exact List.mem_map.2 ⟨p,hp,rfl⟩)]
  simp only[hp]
 |extract x j=>
  cases x with
  |tmp t=>
   have:s.slot t=s'.slot t:=iA t (by simp [ho,Op.operands,rS])
   simp only[this]
  |_=>rfl
 |call c=>
  obtain⟨callee,args,ts⟩:=c
  cases callee with
  |value x=>
   cases x with
   |func f=>
    have bX:args.toList.map s.aH=args.toList.map s'.aH:=List.map_congr_left fun x hx=>cC x (by
     simp only[ho,Op.operands,Call.operands,Array.toList_append,List.mem_append]
     exact .inr hx)
    have je:jv s (args.toList.map s'.aH)=jv s' (args.toList.map s'.aH):=PB fun id fI=>bL id (by
     simp only[zv,ho,List.mem_append]
     refine .inl ?_
     rw[<-bX,List.flatMap_map] at fI
     exact fI)
    have hlk:FM s args.toList=FM s' args.toList:=by
     cases JN:args.toList with
     |nil=>rfl
     |cons x r=>
      cases x with
      |tmp t=>
       have:s.slot t=s'.slot t:=iA t (by
        simp only[ho,Op.operands,Call.operands,Array.toList_append,JN]
        exact NE (List.mem_append_right _ (by simp)))
       simp only[FM,this]
      |_=>rfl
    simp only
    rw[<-hlk]
    split
    ·rename_i t id a b j r hl
     obtain⟨JN,bR⟩:=zon hl
     have hr:r.map s.aH=r.map s'.aH:=by
      have:=bX
      rw[JN] at this
      simpa using(List.cons.inj this).2
     have hbr:jv s (r.map s'.aH)=jv s' (r.map s'.aH):=PB fun id fI=>bL id (by
      simp only[zv,ho,List.mem_append]
      refine .inl ?_
      rw[<-hr,List.flatMap_map] at fI
      rw[JN,List.flatMap_cons,List.mem_append]
      exact .inr fI)
     have fI:s.box id=s'.box id:=bL id (by
      simp only[zv,ho,List.mem_append]
      refine .inl ?_
      rw[JN,List.flatMap_cons,List.mem_append]
      refine .inl ?_
      have:s.aH (.tmp t)= .bz id a b j:=by show one (s.slot t)=_;rw[bR];rfl
      rw[this];simp [cm])
     simp only[j7,nN,hr,hbr,fI]
    simp only[fW,bX,je]
    cases hd:o.dst with
    |none=>rfl
    |some d=>
     have:=h.bs (d+1) (by simp [zv,ho,hd])
     simp only[this]
   |tmp y=>
    have hy:s.aH (.tmp y)=s'.aH (.tmp y):=cC (.tmp y) (by
     simp only[ho,Op.operands,Call.operands,Array.toList_append,List.mem_append]
     exact .inl (by simp))
    have bX:args.toList.map s.aH=args.toList.map s'.aH:=List.map_congr_left fun x hx=>cC x (by
     simp only[ho,Op.operands,Call.operands,Array.toList_append,List.mem_append]
     exact .inr hx)
    simp only
    rw[<-hy]
    split
    ·rename_i id f t b e
     have je:jv s (args.toList.map s'.aH++ [.ptr id t []])=jv s' (args.toList.map s'.aH++ [.ptr id t []]):=PB fun bc fI=>bL bc (by
      simp only[zv,ho,List.mem_append,e]
      rw[List.flatMap_append,List.mem_append] at fI
      rcases fI with fI|fI
      ·refine .inl ?_
       rw[<-bX,List.flatMap_map] at fI
       exact fI
      ·exact .inr (.inl (by simpa [cm] using fI)))
     simp only[fW,bX,je]
     cases hd:o.dst with
     |none=>rfl
     |some d=>
      have:=h.bs (d+1) (by simp [zv,ho,hd])
      simp only[this]
    ·rename_i f t x u y e
     have je:jv s (args.toList.map s'.aH++ [.view t x,.view u y])=jv s' (args.toList.map s'.aH++ [.view t x,.view u y]):=PB fun bc fI=>bL bc (by
      simp only[zv,ho,List.mem_append]
      rw[List.flatMap_append,List.mem_append] at fI
      rcases fI with fI|fI
      ·refine .inl ?_
       rw[<-bX,List.flatMap_map] at fI
       exact fI
      ·simp [cm] at fI)
     simp only[fW,bX,je]
     cases hd:o.dst with
     |none=>rfl
     |some d=>
      have:=h.bs (d+1) (by simp [zv,ho,hd])
      simp only[this]
    ·rfl
   |_=>rfl
  |builtin b=>
   have bX:∀x∈args.toList,s.aH x=s'.aH x:=fun x hx=>cC x (by
    simp only[ho,Op.operands,Call.operands,Array.toList_append,List.mem_append]
    exact .inr hx)
   cases b with
   |copy=>
    simp only
    split
    ·rename_i d x T r e1 e2
     rw[bX x (by rw[e1];simp),<-bX d (by rw[e1];simp)]
     unfold copyV
     split
     ·rename_i e0 t0 id n ta tb hT e
      have hb:s.box id=s'.box id:=bL id (by simp only[zv,ho,e1,List.flatMap_cons,e,cm];exact List.mem_append_left _ (List.mem_singleton.2 rfl))
      simp only[iw,ka,hb]
     ·rename_i e0 t0 id n ta tb l hT e
      have hb:s.box id=s'.box id:=bL id (by simp only[zv,ho,e1,List.flatMap_cons,e,cm];exact List.mem_append_left _ (List.mem_singleton.2 rfl))
      simp only[iw,hb]
     ·rfl
    ·rfl
   |len=>
    simp only
    split
    ·rename_i x T e1 e2
     rw[bX x (by rw[e1];simp)]
    ·rfl
   |append=>
    simp only
    split
    ·rename_i x y T U e1 e2
     rw[bX x (by rw[e1];simp),bX y (by rw[e1];simp)]
    ·rfl
   |max=>
    simp only
    split
    ·rename_i x y e1
     rw[bX x (by rw[e1];simp),bX y (by rw[e1];simp)]
    ·rfl
   |min=>
    simp only
    split
    ·rename_i x y e1
     rw[bX x (by rw[e1];simp),bX y (by rw[e1];simp)]
    ·rfl
   |_=>rfl
  |_=>rfl
 |_=>rfl
end Go.Ref

namespace Go.Ref
open Go
variable {P:Program} {E:Env} {X:ax} {s:State} {a:Act} {o:Oper} {u:Out}
def RB:List (Nat×Nat)->Nat->List SV->List SV
 | [],_,l=>l
 |(i,j)::r,t,l=>RB r t (if t=i then bQ l j else l)
theorem St{t:Nat}:∀{c:List (Nat×Nat)} {s:State},(s.close c).slot t=RB c t (s.slot t)
 | [],s=>rfl
 |(i,j)::r,s=>by rw[ER,St (c:=r),zan];rfl
theorem sk{t:Nat}:∀{c:List (Nat×Nat)} {l:List SV},t∉c.map (·.1)->RB c t l=l
 | [],l,h=>rfl
 |(i,j)::r,l,h=>by
  simp only[List.map_cons,List.mem_cons,not_or] at h
  simp only[RB]
  rw[if_neg h.1]
  exact sk h.2
theorem Gt{d:Option Nat}:(s.apply d u).sl.length=s.sl.length:=by
 cases d with
 |none=>simp only[State.apply,State.av];cases u.bx<;>simp [State.aC,PM]
 |some d=>simp only[State.apply,State.av,List.length_set];cases u.bx<;>simp [State.aC,PM]
theorem PA{d:Option Nat}{t:Nat}:(s.apply d u).slot t=if d=some t/\t<s.sl.length then u.v else RB u.cl t (s.slot t):=by
 have hb:∀(s:State) b,(s.aC b).slot t=s.slot t:=fun s b=>by cases b<;>rfl
 cases d with
 |none=>
  simp only[State.apply,State.av,hb,St]
  rw[if_neg (by simp)]
 |some d=>
  simp only[State.apply]
  by_cases e:d=t
  ·subst e
   by_cases ar:d<s.sl.length
   ·rw[if_pos ⟨rfl,ar⟩]
    have:d<((s.close u.cl).aC u.bx).sl.length:=by
     have:((s.close u.cl).aC u.bx).sl.length=s.sl.length:=by cases u.bx<;>simp [State.aC,PM]
     omega
    simp only[State.av,State.slot,List.getD_eq_getElem?_getD,List.getElem?_set_self this,Option.getD_some]
   ·rw[if_neg (fun h=>ar h.2)]
    have:((s.close u.cl).aC u.bx).sl.length<=d:=by
     have:((s.close u.cl).aC u.bx).sl.length=s.sl.length:=by cases u.bx<;>simp [State.aC,PM]
     omega
    have h2:(((s.close u.cl).aC u.bx).av (some d) u.v).slot d=((s.close u.cl).aC u.bx).slot d:=by
     simp only[State.av,State.slot]
     rw[List.set_eq_of_length_le this]
    rw[h2,hb,St]
  ·rw[if_neg (fun h=>e (by injection h.1))]
   have h2:(((s.close u.cl).aC u.bx).av (some d) u.v).slot t=((s.close u.cl).aC u.bx).slot t:=by
    simp only[State.av,State.slot,List.getD_eq_getElem?_getD,List.getElem?_set_ne e]
   rw[h2,hb,St]
theorem PS{d:Option Nat}{id:Nat}:(s.apply d u).bs[id]? =match u.bx with
 |some (bc,B)=>if bc=id then(s.bs[id]?).map (fun _=>some B) else s.bs[id]?
 |none=>s.bs[id]? :=by
 have hs:∀(s:State) d l,(s.av d l).bs=s.bs:=fun s d l=>by cases d<;>rfl
 simp only[State.apply,hs]
 cases hb:u.bx with
 |none=>simp only[State.aC,x5]
 |some b=>
  obtain⟨bc,B⟩:=b
  simp only[State.aC,x5]
  rw[List.getElem?_set]
  by_cases e:bc=id
  ·subst e
   rw[if_pos rfl,if_pos rfl]
   by_cases ar:bc<s.bs.length
   ·rw[if_pos ar,List.getElem?_eq_getElem ar];rfl
   ·rw[if_neg ar,List.getElem?_eq_none (by omega)];rfl
  ·rw[if_neg e,if_neg e]
theorem aha{s s':State}(h1:s.sl.length=s'.sl.length)(h2:∀t,s.slot t=s'.slot t)(h3:∀id:Nat,s.bs[id]? =s'.bs[id]?):s=s':=by
 cases s with
 |mk sl bs=>
  cases s' with
  |mk sl' bs'=>
   simp only[State.mk.injEq]
   refine⟨List.ext_getElem? fun i=> ?_,List.ext_getElem? h3⟩
   have:=h2 i
   simp only[State.slot,List.getD_eq_getElem?_getD] at this h1
   by_cases ar:i<sl.length
   ·rw[List.getElem?_eq_getElem ar,List.getElem?_eq_getElem (by omega)] at this⊢
    simpa using this
   ·rw[List.getElem?_eq_none (by omega),List.getElem?_eq_none (by omega)]
structure Bv(R1 W1 b1 c1 R2 W2 b2 c2:List Nat):Prop where
 h1:∀t∈W1,t∉R2/\t∉W2
 h2:∀t∈W2,t∉R1
 h3:∀id∈c1,id∉b2/\id∉c2
 h4:∀id∈c2,id∉b1
theorem abW{o1 o2:Oper}{ops:List Oper}{i1 i2:Nat}{s1 s2:State}{u1 u2:Out}(h:(gE ops o1 i1 s1 u1).apart (gE ops o2 i2 s2 u2)=true):
 Bv (looks ops o1) (o1.dst.toList++u1.cl.map (·.1)) (zv s1 o1) (u1.bx.toList.map (·.1)) (looks ops o2) (o2.dst.toList++u2.cl.map (·.1)) (zv s2 o2) (u2.bx.toList.map (·.1)):=by
 simp only[dV.apart,gE,Bool.and_eq_true] at h
 obtain⟨g1,g2,g3,g4⟩:=h
 refine⟨fun t ht=> ?_,fun t ht=> ?_,fun t ht=> ?_,fun t ht=> ?_⟩
 ·have:=S0 g1 t (by rw[x4];exact decide_eq_true ht)
  simp only[Nat.testBit_or,x4,Bool.or_eq_false_iff,decide_eq_false_iff_not] at this
  exact this
 ·have:=S0 g2 t (by rw[x4];exact decide_eq_true ht)
  simpa only[x4,decide_eq_false_iff_not] using this
 ·have:=S0 g3 t (by rw[x4];exact decide_eq_true ht)
  simp only[Nat.testBit_or,x4,Bool.or_eq_false_iff,decide_eq_false_iff_not] at this
  exact this
 ·have:=S0 g4 t (by rw[x4];exact decide_eq_true ht)
  simpa only[x4,decide_eq_false_iff_not] using this
theorem zo4{d:Option Nat}{ts bs:List Nat}(h1:∀t∈ts,t∉d.toList++u.cl.map (·.1))(h2:∀id∈bs,id∉u.bx.toList.map (·.1)):mG ts bs (s.apply d u) s where
 sl:=fun t ht=>by
  have h:=h1 t ht
  simp only[List.mem_append,not_or] at h
  rw[PA,if_neg (fun hc=>h.1 (by rw[hc.1];simp)),sk h.2]
 bs:=fun id fI=>by
  have h:=h2 id fI
  rw[PS]
  cases hb:u.bx with
  |none=>rfl
  |some b=>
   obtain⟨bc,B⟩:=b
   rw[hb] at h
   simp only
   rw[if_neg (fun e=>h (by simp [e]))]
theorem ac6{d1 d2:Option Nat}{u1 u2:Out}(h1:∀t∈d1.toList++u1.cl.map (·.1),t∉d2.toList++u2.cl.map (·.1))(h2:∀id∈u1.bx.toList.map (·.1),id∉u2.bx.toList.map (·.1)):
 (s.apply d1 u1).apply d2 u2=(s.apply d2 u2).apply d1 u1:=by
 refine aha (by rw[Gt,Gt,Gt,Gt]) (fun t=> ?_) (fun id=> ?_)
 ·rw[PA,PA,PA,PA,Gt,Gt]
  by_cases B8:d1=some t
  ·have hm:t∈d1.toList++u1.cl.map (·.1):=by rw[B8];simp
   have hn:=h1 t hm
   simp only[List.mem_append,not_or] at hn
   have rY:¬d2=some t:=fun e=>hn.1 (by rw[e];simp)
   by_cases ar:t<s.sl.length
   ·rw[if_neg (fun h=>rY h.1),if_pos ⟨B8,ar⟩,sk hn.2,if_pos ⟨B8,ar⟩]
   ·rw[if_neg (fun h=>rY h.1),if_neg (fun h=>ar h.2),if_neg (fun h=>ar h.2),if_neg (fun h=>ar h.2),sk hn.2,sk hn.2]
  ·by_cases rY:d2=some t
   ·have hn:t∉d1.toList++u1.cl.map (·.1):=fun hm=>h1 t hm (by rw[rY];simp)
    simp only[List.mem_append,not_or] at hn
    by_cases ar:t<s.sl.length
    ·rw[if_pos ⟨rY,ar⟩,if_neg (fun h=>B8 h.1),if_pos ⟨rY,ar⟩,sk hn.2]
    ·rw[if_neg (fun h=>ar h.2),if_neg (fun h=>ar h.2),if_neg (fun h=>ar h.2),if_neg (fun h=>ar h.2),sk hn.2,sk hn.2]
   ·rw[if_neg (fun h=>rY h.1),if_neg (fun h=>B8 h.1),if_neg (fun h=>B8 h.1),if_neg (fun h=>rY h.1)]
    by_cases hm:t∈u1.cl.map (·.1)
    ·have hn:=h1 t (by simp only[List.mem_append];exact .inr hm)
     simp only[List.mem_append,not_or] at hn
     rw[sk hn.2,sk hn.2]
    ·rw[sk hm,sk hm]
 ·rw[PS,PS,PS,PS]
  cases nF:u1.bx with
  |none=>rfl
  |some b1=>
   obtain⟨Z3,B1⟩:=b1
   cases kc:u2.bx with
   |none=>rfl
   |some b2=>
    obtain⟨rA,B2⟩:=b2
    rw[nF,kc] at h2
    have bM:Z3≠rA:=fun e=>h2 Z3 (by simp) (by simp [e])
    simp only
    by_cases e1:Z3=id
    ·subst e1
     rw[if_neg (fun e=>bM e.symm),if_pos rfl,if_pos rfl,if_neg (fun e=>bM e.symm)]
    ·by_cases e2:rA=id
     ·subst e2
      rw[if_pos rfl,if_neg e1,if_neg e1,if_pos rfl]
     ·rw[if_neg e2,if_neg e1,if_neg e1,if_neg e2]
theorem zou{ops:List Oper}{s s':State}(h:∀t∈looks ops o,s.slot t=s'.slot t):zv s o=zv s' o:=by
 have cC:∀x∈o.op.operands.toList,s.aH x=s'.aH x:=fun x hx=>zik (ts:=rS o.op.operands.toList) (fun t ht=>h t (by simp only[looks,List.mem_append];exact .inl ht)) (fun _ ht=>ht) hx
 unfold zv
 cases ho:o.op with
 |load T x=>simp only;rw[cC x (by simp [ho,Op.operands])]
 |store T x y=>simp only;rw[cC x (by simp [ho,Op.operands])]
 |convert S T x=>simp only;rw[cC x (by simp [ho,Op.operands])]
 |slice T x lo hi mx=>simp only;rw[cC x (by simp [ho,Op.operands])]
 |lookup T x i ok=>simp only;rw[cC x (by simp [ho,Op.operands])]
 |mapUpdate T m k x=>simp only;rw[cC m (by simp [ho,Op.operands])]
 |insert T m k x=>simp only;rw[cC m (by simp [ho,Op.operands])]
 |next x str=>simp only;rw[cC x (by simp [ho,Op.operands])]
 |call c=>
  obtain⟨callee,args,ts⟩:=c
  have:(args.toList.map fun x=>cm (s.aH x))=args.toList.map fun x=>cm (s'.aH x):=List.map_congr_left fun x hx=>by
   rw[cC x (by
    simp only[ho,Op.operands,Call.operands,Array.toList_append,List.mem_append]
    exact .inr hx)]
  cases callee with
  |value f=>
   simp only
   have hf:s.aH f=s'.aH f:=cC f (by
    simp only[ho,Op.operands,Call.operands,Array.toList_append,List.mem_append]
    exact .inl (by simp))
   rw[hf,List.flatMap_def,List.flatMap_def,this]
  |builtin b=>
   cases b with
   |copy=>simp only;rw[List.flatMap_def,List.flatMap_def,this]
   |_=>rfl
  |_=>rfl
 |_=>rfl
theorem Mf{C:ah}{ops:List Oper}{s s':State}(h:mG (looks ops o) (zv s o) s s'):eL E C ops o s=eL E C ops o s':=by
 unfold eL
 rw[afG h]
 split
 ·rfl
 ·rename_i g want hg
  split
  ·rfl
  ·rename_i d hd
   rw[h.sl d (by simp [looks,hg,hd])]
theorem swap{C:ah}{ops:List Oper}{o1 o2:Oper}{i1 i2:Nat}{u1 u2:Out}(h1:eL E C ops o1 s=some u1)(h2:eL E C ops o2 (s.apply o1.dst u1)=some u2)(h:(gE ops o1 i1 s u1).apart (gE ops o2 i2 (s.apply o1.dst u1) u2)=true):
 eL E C ops o2 s=some u2/\gE ops o2 i2 s u2=gE ops o2 i2 (s.apply o1.dst u1) u2/\eL E C ops o1 (s.apply o2.dst u2)=some u1/\gE ops o1 i1 (s.apply o2.dst u2) u1=gE ops o1 i1 s u1/\
  (s.apply o2.dst u2).apply o1.dst u1=(s.apply o1.dst u1).apply o2.dst u2:=by
 have hp:=abW h
 have ag1:mG (looks ops o2) (zv (s.apply o1.dst u1) o2) (s.apply o1.dst u1) s:=zo4 (fun t ht hm=>(hp.h1 t hm).1 ht) (fun id fI hm=>(hp.h3 id hm).1 fI)
 have dQ:=zou (ops:=ops) (o:=o2) ag1.sl
 have YL:mG (looks ops o1) (zv s o1) (s.apply o2.dst u2) s:=zo4 (fun t ht hm=>hp.h2 t hm ht) (fun id fI hm=>hp.h4 id hm fI)
 have eP:=zou (ops:=ops) (o:=o1) YL.sl
 refine⟨by rw[<-Mf ag1];exact h2,by simp only[gE,dQ],?_,by simp only[gE,eP],(ac6 (fun t ht=>(hp.h1 t ht).2) (fun id fI=>(hp.h3 id fI).2)).symm⟩
 rw[Mf (s:=s.apply o2.dst u2) (s':=s) ⟨YL.sl,fun id fI=>YL.bs id (by rw[<-eP];exact fI)⟩]
 exact h1
end Go.Ref

namespace Go.Ref
open Go
variable {P:Program} {E:Env} {X:ax} {s:State} {a:Act} {o:Oper} {u:Out}
def oc(E:Env)(C:ah)(ops:Array Oper):List Nat->State->List dV->State->Prop
 | [],s,tr,z=>s=z/\tr=[]
 |i::r,s,f::tr,z=>∃u,eL E C ops.toList (ops.getD i default) s=some u/\f=gE ops.toList (ops.getD i default) i s u/\oc E C ops r (s.apply (ops.getD i default).dst u) tr z
 |_::_,_,[],_=>False
def vh(ops:Array Oper)(i:Nat):Nat:=zx (ops.getD i default).after.toList
theorem Mr{ops:List Oper}{q:Nat}:∀(n m:Nat),m.testBit q=true->(jq ops n m).testBit q=true
 |0,m,h=>h
 |i+1,m,h=>by
  refine Mr i _ ?_
  split
  ·cases m.testBit i with
   |false=>exact h
   |true=>rw[cond_true,Nat.testBit_or,h];rfl
  ·exact h
theorem zoo{listed:Array Bool}{i q:Nat}(h:listed.getD q false=true):(listed.setIfInBounds i true).getD q false=true:=by
 simp only[Array.getD_eq_getD_getElem?,Array.getElem?_setIfInBounds] at h⊢
 split
 ·split
  ·rfl
  ·rename_i h1 h2
   subst h1
   rw[Array.getElem?_eq_none (by omega)] at h
   exact h
 ·exact h
theorem agA{listed:Array Bool}{i q:Nat}(e:q≠i):(listed.setIfInBounds i true).getD q false=listed.getD q false:=by
 simp only[Array.getD_eq_getD_getElem?]
 rw[Array.getElem?_setIfInBounds_ne (by omega)]
def tH(ops:Array Oper)(listed:Array Bool):Prop:=∀i,listed.getD i false=true->∀q,(vh ops i).testBit q=true->listed.getD q false=true
theorem Sp{ops:Array Oper}{listed:Array Bool}(fk:tH ops listed):∀(n m:Nat),(∀q,m.testBit q=true->listed.getD q false=true)->∀q,(jq ops.toList n m).testBit q=true->listed.getD q false=true
 |0,m,h=>h
 |i+1,m,h=>by
  refine Sp fk i _ fun q hq=> ?_
  split at hq
  ·rename_i o ho
   cases hb:m.testBit i with
   |false=>rw[hb] at hq;exact h q hq
   |true=>
    rw[hb,cond_true,Nat.testBit_or,Bool.or_eq_true] at hq
    rcases hq with hq|hq
    ·exact h q hq
    ·refine fk i (h i hb) q ?_
     have:ops.getD i default=o:=by
      rw[Array.getElem?_toList] at ho
      simp only[Array.getD_eq_getD_getElem?,ho,Option.getD_some]
     unfold vh
     rw[this]
     exact hq
  ·exact h q hq
theorem z193{ops:Array Oper}{listed:Array Bool}(fk:tH ops listed){i:Nat}(h:∀q,(vh ops i).testBit q=true->listed.getD q false=true):tH ops (listed.setIfInBounds i true):=fun j hj q hq=>by
 by_cases e:j=i
 ·subst e
  exact zoo (h q hq)
 ·rw[agA e] at hj
  exact zoo (fk j hj q hq)
def vL(ops:Array Oper)(a b:dV):Prop:=(jq ops.toList b.i (vh ops b.i)).testBit a.i=true\/a.apart b=true
theorem EK{C:ah}{ops:Array Oper}:∀{l:List Nat} {s z:State} {tr:List dV},oc E C ops l s tr z->tr.map (·.i)=l
 | [],s,z,tr,h=>by rw[h.2];rfl
 |i::r,s,z,f::tr,h=>by
  obtain⟨u,_,rfl,h3⟩:=h
  simp only[List.map_cons,EK h3]
  rfl
 |_::_,s,z,[],h=>h.elim
theorem zaz{C:ah}(hC:C.Nat){ops:Array Oper}{z:State}:∀(l:List Nat) (i:Nat) (s:State) (tr:List dV),(∀(j:Nat) k,l[j]? =some k->k=i+j)->
 yj E (C State) ops.toList (l.map fun k=>ops.getD k default) i s tr some=some z->∃xQ,oc E C ops l s xQ z/\(∀a∈tr,∀b∈xQ,vL ops a b)/\xQ.Pairwise (vL ops)/\∀k∈l,Nat.ble (vh ops k+1) (bit k)=true
 | [],i,s,tr,hl,h=>by
   cases h
   exact⟨[],⟨rfl,rfl⟩,(fun a _ b hb=>by cases hb),List.Pairwise.nil,fun k hk=>by cases hk⟩
 |k::r,i,s,tr,hl,h=>by
  have hk:k=i:=by simpa using hl 0 k rfl
  subst hk
  simp only[List.map_cons,yj] at h
  obtain⟨u,h1,h2,h3⟩:=ahc hC h
  obtain⟨xQ,r1,r2,r3,r4⟩:=zaz hC r (k+1) _ _ (fun j k' hj=>by
   have:=hl (j+1) k' hj
   omega) h3
  simp only[fits,Bool.and_eq_true] at h2
  obtain⟨h2a,Y6⟩:=h2
  have Y6:=List.all_eq_true.1 Y6
  refine⟨gE ops.toList (ops.getD k default) k s u::xQ,⟨u,h1,rfl,r1⟩,fun a ha b hb=> ?_,?_,fun k' J3=> ?_⟩
  ·rcases List.mem_cons.1 hb with rfl|hb
   ·have:=Y6 a ha
    simp only[Bool.or_eq_true] at this
    rcases this with this|this|this
    ·exact .inl (Mr _ _ this)
    ·exact .inr this
    ·exact .inl this
   ·exact r2 a (List.mem_cons_of_mem _ ha) b hb
  ·exact List.pairwise_cons.2 ⟨fun b hb=>r2 _ (by simp) b hb,r3⟩
  ·rcases List.mem_cons.1 J3 with rfl|J3
   ·exact h2a
   ·exact r4 k' J3
theorem zr8{C:ah}{ops:Array Oper}{z:State}{i:Nat}{q:List Nat}:∀(p:List Nat) (s:State) (tr:List dV),oc E C ops (p++i::q) s tr z->(∀(tp:List dV) f tq,tr=tp++f::tq->tp.length=p.length->∀a∈tp,a.apart f=true)->
 ∃tp f tq u,tr=tp++f::tq/\tp.length=p.length/\eL E C ops.toList (ops.getD i default) s=some u/\f=gE ops.toList (ops.getD i default) i s u/\oc E C ops (p++q) (s.apply (ops.getD i default).dst u) (tp++tq) z
 | [],s,[],h,Ap=>h.elim
 | [],s,f::tr,h,Ap=>by
   obtain⟨u,h1,h2,h3⟩:=h
   exact⟨[],f,tr,u,rfl,rfl,h1,h2,h3⟩
 |j::p,s,[],h,Ap=>h.elim
 |j::p,s,g::tr,h,Ap=>by
  obtain⟨uj,h1,h2,h3⟩:=h
  obtain⟨tp,f,tq,u,e1,e2,k1,k2,k3⟩:=zr8 p _ tr h3 (fun tp f tq e hl a ha=>Ap (g::tp) f tq (by rw[e];rfl) (by simp [hl]) a (List.mem_cons_of_mem _ ha))
  have hg:=Ap (g::tp) f tq (by rw[e1];rfl) (by simp [e2]) g (by simp)
  rw[h2,k2] at hg
  obtain⟨w1,w2,w3,w4,w5⟩:=swap h1 k1 hg
  refine⟨g::tp,f,tq,u,by rw[e1];rfl,by simp [e2],w1,by rw[k2,w2],uj,w3,by rw[h2,w4],?_⟩
  rw[w5]
  exact k3
theorem NA{l:List Nat}{i:Nat}(h:i∈l):∃p q,l=p++i::q:=List.append_of_mem h
theorem zv8{p q:List Nat}{i:Nat}(h:(p++i::q).Nodup):(p++i::q).filter (fun j=> !(Nat.beq j i))=p++q:=by
 have h':=List.nodup_append.1 h
 have hp:∀j∈p,j≠i:=fun j hj=>h'.2.2 j hj i (by simp)
 have hq:∀j∈q,j≠i:=fun j hj e=>by
  have:=(List.nodup_cons.1 h'.2.1).1
  rw[e] at hj;exact this hj
 rw[List.filter_append,List.filter_cons]
 have hb:∀j,j≠i->(!(Nat.beq j i))=true:=fun j hj=>by
  cases hh:Nat.beq j i with
  |false=>rfl
  |true=>exact absurd (Nat.eq_of_beq_eq_true hh) hj
 rw[List.filter_eq_self.2 (fun j hj=>hb j (hp j hj)),List.filter_eq_self.2 (fun j hj=>hb j (hq j hj))]
 have:(!(Nat.beq i i))=false:=by simp
 rw[this]
 simp
def rest(n:Nat)(listed:Array Bool):List Nat:=(List.range n).filter fun i=> !listed.getD i true
theorem akq{n:Nat}{listed:Array Bool}(hs:listed.size=n){i:Nat}{p q:List Nat}(h:rest n listed=p++i::q):rest n (listed.setIfInBounds i true)=p++q:=by
 have nI:(rest n listed).Nodup:=List.nodup_range.filter _
 rw[h] at nI
 rw[<-zv8 nI,<-h]
 simp only[rest,List.filter_filter]
 refine List.filter_congr fun j hj=> ?_
 have Zq:=List.mem_range.1 hj
 by_cases e:j=i
 ·subst e
  have:(listed.setIfInBounds j true).getD j true=true:=by simp [Array.getD_eq_getD_getElem?,hs,Zq]
  rw[this];simp
 ·have h1:(listed.setIfInBounds i true).getD j true=listed.getD j true:=by
   simp only[Array.getD_eq_getD_getElem?]
   rw[Array.getElem?_setIfInBounds_ne (fun h=>e h.symm)]
  have h2:Nat.beq j i=false:=by
   cases hh:Nat.beq j i with
   |false=>rfl
   |true=>exact absurd (Nat.eq_of_beq_eq_true hh) e
  rw[h1,h2];simp
theorem Gy{ops:Array Oper}{listed:Array Bool}{i:Nat}(h:i∈Region.ready .any ops listed):i∈rest ops.size listed/\∀e∈(ops.getD i default).after.toList,Region.binds .any e=true->listed.getD e.on false=true:=by
 unfold Region.ready at h
 obtain⟨h1,h2⟩:=List.mem_filter.1 h
 have hi:=List.mem_range.1 h1
 rw[Bool.and_eq_true] at h2
 refine⟨List.mem_filter.2 ⟨h1,h2.1⟩,fun e he hb=> ?_⟩
 have h3:=h2.2
 rw[Array.getElem?_eq_getElem hi] at h3
 simp only[Option.map_some,Option.getD_some] at h3
 have cB:ops.getD i default=ops[i]:=by simp [hi]
 rw[cB] at he
 have h4:=Array.all_eq_true_iff_forall_mem.1 h3 e (by simpa using he)
 rw[hb] at h4
 simpa using h4
theorem Nx{ops:Array Oper}{listed:Array Bool}{i:Nat}(h:i∈rest ops.size listed)(ha:∀e∈(ops.getD i default).after.toList,Region.binds .any e=true->listed.getD e.on false=true):i∈Region.ready .any ops listed:=by
 obtain⟨h1,h2⟩:=List.mem_filter.1 h
 have hi:=List.mem_range.1 h1
 refine List.mem_filter.2 ⟨h1,?_⟩
 rw[Bool.and_eq_true]
 refine⟨h2,?_⟩
 have cB:ops.getD i default=ops[i]:=by simp [hi]
 rw[Array.getElem?_eq_getElem hi]
 simp only[Option.map_some,Option.getD_some]
 refine Array.all_eq_true_iff_forall_mem.2 fun e he=> ?_
 cases hb:Region.binds .any e with
 |false=>rfl
 |true=>
  rw[ha e (by rw[cB];simpa using he) hb]
  simp
theorem ajM(hE:ap P E){C:ah}(hC:C.Nat)(hf:∀f,cW P C f){ops:Array Oper}{z:State}{Q:Exit->Act->World->Prop}(mc:∀k,k<ops.size->Nat.ble (vh ops k+1) (bit k)=true):
 ∀(cp:Nat) (listed:Array Bool) (X:ax) (s:State) (a:Act) (tr:List dV),Rel X s a->tH ops listed->listed.size=ops.size->cp=(rest ops.size listed).length->oc E C ops (rest ops.size listed) s tr z->tr.Pairwise (vL ops)->
  (∀Y a',Ext X Y->Rel Y z a'->Q .normal a' Y.w)->wpAny P .any ops Q cp listed a X.w:=by
 intro cp
 have done:∀(listed:Array Bool),listed.size=ops.size->Region.ready .any ops listed=[]->rest ops.size listed=[]:=by
  intro listed hs hr
  rcases hl:rest ops.size listed with _|⟨i,r⟩
  ·rfl
  have cE:i∈rest ops.size listed:=by rw[hl];simp
  have dm:=List.mem_range.1 (List.mem_filter.1 cE).1
  have kg:i∈Region.ready .any ops listed:=by
   refine Nx cE fun e he hb=> ?_
   have ar:e.on<i:=Lk (mc i dm) (zhd _ e he hb)
   cases hx:listed.getD e.on false with
   |true=>rfl
   |false=>
    exfalso
    have gi:e.on<listed.size:=by omega
    have AJ:listed.getD e.on true=false:=by
     simp only[Array.getD_eq_getD_getElem?,Array.getElem?_eq_getElem gi,Option.getD_some] at hx⊢
     exact hx
    have hm:e.on∈rest ops.size listed:=List.mem_filter.2 ⟨List.mem_range.2 (by omega),by rw[AJ];rfl⟩
    have iC:(rest ops.size listed).Pairwise (· < ·):=List.pairwise_lt_range.filter _
    rw[hl] at iC hm
    rcases List.mem_cons.1 hm with e1|hm
    ·omega
    ·have:=(List.pairwise_cons.1 iC).1 _ hm
     omega
  rw[hr] at kg
  cases kg
 induction cp with
 |zero=>
  intro listed X s a tr hr fk hs nH dO vn hQ
  have uh:rest ops.size listed=[]:=List.eq_nil_of_length_eq_zero nH.symm
  rw[uh] at dO
  obtain⟨rfl,_⟩:=dO
  refine⟨?_,hQ X a (Ext.refl X) hr⟩
  rcases Kj:Region.ready .any ops listed with _|⟨i,r⟩
  ·rfl
  ·have:=(Gy (i:=i) (by rw[Kj];simp)).1
   rw[uh] at this
   cases this
 |succ cp ih=>
  intro listed X s a tr hr fk hs nH dO vn hQ
  refine⟨fun iz=> ?_,fun i hi=> ?_⟩
  ·rw[done listed hs iz] at nH
   cases nH
  ·obtain⟨cE,rj⟩:=Gy hi
   obtain⟨p,q,xt⟩:=NA cE
   have dm:=List.mem_range.1 (List.mem_filter.1 cE).1
   rw[xt] at dO
   have mf:=EK dO
   obtain⟨tp,f,tq,u,e1,e2,k1,k2,k3⟩:=zr8 p s tr dO (fun tp f tq e hl a' Ao=>by
    have tY:f.i=i:=by
     rw[e,List.map_append,List.map_cons] at mf
     have:=List.append_inj mf (by simp [hl])
     injection this.2
    have Zb:a'.i∈p:=by
     rw[e,List.map_append,List.map_cons] at mf
     have:=List.append_inj mf (by simp [hl])
     rw[<-this.1]
     exact List.mem_map.2 ⟨a',Ao,rfl⟩
    rw[e] at vn
    have ua:=(List.pairwise_append.1 vn).2.2 a' Ao f (by simp)
    rcases ua with hb|hb
    ·exfalso
     rw[tY] at hb
     obtain fC:=Sp fk _ _ (fun q hq=>by
      obtain⟨ed,xj,xk,JW⟩:=EQ _ _ hq
      have:=rj ed xj xk
      rw[JW] at this
      exact this) a'.i hb
     have bH:a'.i∈rest ops.size listed:=by rw[xt];exact List.mem_append_left _ Zb
     have dU:=(List.mem_filter.1 bH).2
     have ar:=List.mem_range.1 (List.mem_filter.1 bH).1
     have gi:a'.i<listed.size:=by omega
     simp only[Array.getD_eq_getD_getElem?,Array.getElem?_eq_getElem gi,Option.getD_some] at fC dU
     rw[fC] at dU
     cases dU
    ·exact hb)
   have bH:=akq hs xt
   have Zo:ops[i]? =some (ops.getD i default):=by simp [dm]
   refine Wa hE hr hC hf Zo (zoz hC k1) fun Y a' aZ bu=> ?_
   refine ih (listed.setIfInBounds i true) Y _ a' (tp++tq) bu (z193 fk fun q hq=>by
    obtain⟨ed,g1,g2,g3⟩:=EQ _ _ hq
    have:=rj ed g1 g2
    rw[g3] at this
    exact this) (by simp [hs]) ?_ (by rw[bH];exact k3) ?_ (fun Z a2 cc c9=>hQ Z a2 (aZ.trans cc) c9)
   ·rw[bH]
    rw[xt] at nH
    simp only[List.length_append,List.length_cons] at nH⊢
    omega
   ·rw[e1] at vn
    obtain⟨a1,a2,a3⟩:=List.pairwise_append.1 vn
    exact List.pairwise_append.2 ⟨a1,(List.pairwise_cons.1 a2).2,fun x hx y hy=>a3 x hx y (List.mem_cons_of_mem _ hy)⟩
theorem agk(hE:ap P E)(hm:P.follows .mixedOrders=true){C:ah}(hC:C.Nat)(hf:∀f,cW P C f){id:Nat}{ops:Array Oper}{z:State}{Q:Exit->Act->World->Prop}(hr:Rel X s a)(h:yj E (C State) ops.toList ops.toList 0 s [] some=some z)
 (hQ:∀Y a',Ext X Y->Rel Y z a'->Q .normal a' Y.w):(Code.region id ops true).wp P Q a X.w:=by
 have kf:(List.range ops.size).map (fun i=>ops.getD i default)=ops.toList:=by
  apply List.ext_getElem?
  intro i
  rw[List.getElem?_map]
  by_cases hi:i<ops.size
  ·simp [hi]
  ·simp [hi]
 have bH:rest ops.size (Array.replicate ops.size false)=List.range ops.size:=by
  refine List.filter_eq_self.2 fun i hi=> ?_
  have:=List.mem_range.1 hi
  simp [this]
 obtain⟨xQ,r1,_,r3,r4⟩:=zaz hC (List.range ops.size) 0 s [] (fun j k hj=>by
  have:=(List.getElem?_eq_some_iff.1 hj)
  obtain⟨h1,h2⟩:=this
  simp at h2
  omega) (by rw[kf];exact h)
 have hk:eN s X {X with w:={X.w with drawn:=X.w.drawn+1}}:=⟨Nat.le_refl _,rfl,rfl,rfl,fun g _=>⟨rfl,rfl⟩,rfl,fun _ _ _=>rfl⟩
 refine wp_region_any hm ?_
 exact ajM hE hC hf (fun k hk=>r4 k (List.mem_range.2 hk)) ops.size (Array.replicate ops.size false) _ s a xQ (hr.dv hk) (fun i hi=>by
  by_cases h:i<ops.size<;>simp [h] at hi) (by simp) (by rw[bH];simp) (by rw[bH];exact r1) r3 (fun Y a' aZ bu=>hQ Y a' (hk.ext.trans aZ) bu)
end Go.Ref

namespace Go.Ref
open Go
variable {P:Program} {E:Env} {X:ax} {s:State} {a:Act}
theorem bh.flat{X Y:ax}:∀{t:Ty} {x:El t} {cs:List Value},t.flat=true->bh X t x cs->bh Y t x cs
 | .bool,_,_,_,hr=>hr
 | .int _,_,_,_,hr=>hr
 | .str,_,_,_,hr=>hr
 | .unit,_,_,_,hr=>hr
 | .sl _ _,_,_,hf,_=>by cases hf
 | .aG _ _ _,_,_,hf,_=>by cases hf
 | .arr n t,xs,cs,hf,⟨h1,h2,h3⟩=>⟨h1,h2,fun j x hj=>bh.flat (t:=t) hf (h3 j x hj)⟩
 | .pair a b,x,cs,hf,⟨c1,c2,h1,h2,h3⟩=>by
   have hf:(a.flat&&b.flat)=true:=hf
   rw[Bool.and_eq_true] at hf
   exact⟨c1,c2,h1,bh.flat hf.1 h2,bh.flat hf.2 h3⟩
theorem aA.flat{X Y:ax}{pl:List Nat->Place}{sv:SV}{v:Value}(hf:sv.flat=true)(hr:aA X pl sv v):aA Y pl sv v:=by
 cases sv with
 |ak t x own=>
  have hf:(t.flat&&own.isEmpty)=true:=hf
  rw[Bool.and_eq_true] at hf
  obtain⟨cs,h1,h2,_⟩:=hr
  have:own=[]:=List.isEmpty_iff.1 hf.2
  subst this
  exact⟨cs,h1.flat hf.1,h2,mE⟩
 |undef=>trivial
 |skip=>exact hr
 |cF=>exact hr
 |dS=>exact hr
 |over=>exact hr
 |_=>cases hf
theorem SI{o:Nat}:∀{sl:List (List SV)} {i:Nat},lq o i sl=true->∀(j:Nat) l,sl[j]? =some l->i+j≠o->∀sv∈l,SV.flat sv=true
 | [],i,_,j,l,h,_=>by simp at h
 |l0::r,i,h,j,l,hl,bM=>by
  rw[lq,Bool.and_eq_true,Bool.or_eq_true] at h
  cases j with
  |zero=>
   cases hl
   rcases h.1 with h1|h1
   ·exact absurd (Nat.eq_of_beq_eq_true h1) bM
   ·exact fun sv hm=>List.all_eq_true.1 h1 sv hm
  |succ j=>exact SI h.2 j l hl (by omega)
structure nV(X:ax)(a:Act)(o:Nat)(e:TypeId)(xs:List Int)(own:List (List Nat))(g c:Nat)(cur:Array Value):Prop where
 val:a.tmps.getD o Go.undef= .slice (some ⟨g,0,none⟩) xs.length c
 heap:X.w.heap[g]? =some (.cells cur e (0,0))
 cell:∀(j:Nat) x,xs[j]? =some x->X.w.cell? ⟨g,j,none⟩=some (.int .u8 x)
 le:xs.length<=c
 most:c<=maxLen
 size:cur.size=c
 ow:X.ow g= .row (.c o 0 []) (xs.length*1)
 own:∀p∈own,p=[]
theorem amP{o:Nat}{e:TypeId}{xs:List Int}{own:List (List Nat)}(hr:Rel X s a)(hs:s.slot o=[.ak (.sl e (.int .u8)) xs own])(bU:gL own []=true){i:Nat}(hi:i<xs.length):∃g c cur,nV X a o e xs own g c cur:=by
 have iA:=hr.slot o
 rw[hs] at iA
 obtain⟨cs,aL,hv,hO⟩:=(show aA X (.c o 0) (.ak (.sl e (.int .u8)) xs own) (a.tmps.getD o Go.undef) from iA)
 have cE:([]:List Nat)∈own:=by
  unfold gL at bU
  obtain⟨q,h1,h2⟩:=List.any_eq_true.1 bU
  have:q=[]:=by simpa using h2
  rw[<-this];exact h1
 have cR:∀p∈own,p=[]:=fun p hp=>by
  obtain⟨e2,t2,xs2,v2,g1,g2,g3,g4⟩:=hO p hp
  cases p with
  |cons q r=>simp [El.get] at g2
  |nil=>rfl
 obtain⟨e1,t1,xs1,v1,_,hg,hc,cg⟩:=hO [] cE
 simp only[El.get,Option.some.injEq] at hg
 cases hg
 obtain⟨A,c,eD,hle,fN⟩:=aL
 subst eD
 have hv:a.tmps.getD o Go.undef= .slice A xs.length c:=hv
 have AG:v1= .slice A xs.length c:=by
  have:([Value.slice A xs.length c]:List Value)[0]? =some v1:=hc
  simpa using this.symm
 subst AG
 rcases cg with⟨_,h0⟩|⟨g,cap,cur,h1,h2,h3,h4,h5,h6⟩
 ·have h0:List.length xs=0:=h0
  omega
 injection h1 with k1 k2 k3
 subst k1 k3
 have h5:cur.size=c*1:=h5
 have h6:X.ow g= .row (.c o 0 []) (List.length xs*1):=h6
 have dN:∀(j:Nat) x,xs[j]? =some x->X.w.cell? ⟨g,j,none⟩=some (.int .u8 x):=fun j x hj=>by
  obtain⟨ad,eH,e1,_,e2,e3⟩:=fN j x hj
  cases e1
  have e2:eH=[.int .u8 x]:=e2
  subst e2
  have:=(e3 0 (.int .u8 x) rfl).2.1
  rw[iM] at this
  simpa [Ty.cells] using this
 exact⟨g,c,cur,hv,h2,dN,hle,h4,by omega,h6,cR⟩
theorem ako{o:Nat}{e:TypeId}{xs:List Int}{own:List (List Nat)}{X0:ax}(hF:∀g pl n,X0.ow g≠ .row pl n)(hx:Ext X0 X)(hr:Rel X s a)(ho:o<s.sl.length)(tZ:lq o 0 s.sl=true)(je:s.bs.all Option.isNone=true)
 {g c:Nat} {cur:Array Value} (hR:nV X a o e xs own g c cur) {i:Nat} (hi:i<xs.length) (z:Int):
   Ext X0 (X.row g (cur.toList.take i++ [Value.int .u8 z]++cur.toList.drop (i+1)).toArray)/\Rel (X.row g (cur.toList.take i++ [Value.int .u8 z]++cur.toList.drop (i+1)).toArray) ⟨s.sl.set o [.ak (.sl e (.int .u8)) (xs.set i z:List Int) own],s.bs⟩ a:=by
 obtain⟨hv,h2,dN,hle,h4,h5,h6,cR⟩:=hR
 refine⟨?_,?_⟩
 ·
  have dh:∀b,b≠g->(X.row g (cur.toList.take i++ [Value.int .u8 z]++cur.toList.drop (i+1)).toArray).w.heap[b]? =X.w.heap[b]? :=fun b hb=>setRow_other X.w g b _ hb
  have nJ:∀ad v,X0.az ad v->ad.block≠g:=fun ad v eg e0=>by
   have ar:=ax.iI eg
   have hu:=eg.2.2
   cases hw:X0.ow ad.block with
   |all=>have:=(hx.still ad.block ar (by rw[hw];trivial)).1;rw[e0,h6] at this;rw[<-e0,hw] at this;cases this
   |ro n=>have:=(hx.still ad.block ar (by rw[hw];trivial)).1;rw[e0,h6] at this;rw[<-e0,hw] at this;cases this
   |box id=>rw[hw] at hu;exact hu
   |row pl n=>exact hF _ _ _ hw
  refine⟨fun ad v eg=> ?_,?_,hx.os,hx.tape,hx.output,hx.β0,fun b hb bR=> ?_⟩
  ·have h7:=hx.az ad v eg
   refine⟨h7.1,?_,h7.2.2⟩
   have:=h7.2.1
   simp only[World.cell?] at this⊢
   rw[dh _ (nJ ad v eg)];exact this
  ·have:=hx.size
   simpa [ax.row] using this
  ·have h7:=hx.still b hb bR
   have bM:b≠g:=fun e0=>by
    have h8:=h7.1
    rw[e0,h6] at h8
    rw[e0,<-h8] at bR
    exact bR
   exact⟨h7.1,(dh b bM).trans h7.2⟩
 ·generalize gZ:(cur.toList.take i++ [Value.int .u8 z]++cur.toList.drop (i+1)).toArray=new
  have dU:new.toList=cur.toList.take i++ [Value.int .u8 z]++cur.toList.drop (i+1):=by rw[<-gZ]
  have eb:new.size=cur.size:=by
   have:new.toList.length=cur.toList.length:=by rw[dU];simp;omega
   simpa using this
  have aE:(X.row g new).w.heap[g]? =some (.cells new e (0,0)):=setRow_heap X.w g cur new e (0,0) h2
  refine⟨by simpa using hr.size,by simpa using hr.gM,fun j l v hl ji=> ?_,fun id B hB=> ?_,fun j l id t p hl hm=> ?_,hr.defers,fun j l id c b k hl hm=> ?_⟩
  ·rw[List.getElem?_set] at hl
   by_cases Ay:o=j
   ·subst Ay
    rw[if_pos rfl,if_pos ho] at hl
    cases hl
    have hvv:a.tmps.getD o Go.undef=v:=by rw[Array.getD_eq_getD_getElem?,ji];rfl
    rw[hvv] at hv
    subst hv
    refine⟨[.slice (some ⟨g,0,none⟩) xs.length c],?_,rfl,fun p hp=> ?_⟩
    ·refine bh.xM (t:= .int .u8) (List.length_set ..) hle fun j x hj=>⟨⟨g,0,none⟩,[.int .u8 x],rfl,rfl,rfl,fun k w hk=> ?_⟩
     have ub:j<xs.length:=by have:=(List.getElem?_eq_some_iff.1 hj).1;rw[List.length_set] at this;exact this
     cases k with
     |succ k=>simp at hk
     |zero=>
      have hk:Value.int .u8 x=w:=by simpa using hk
      subst hk
      refine⟨Bb rfl _,?_,?_⟩
      ·rw[iM]
       show(X.row g new).w.cell? _=_
       simp only[World.cell?,aE,Ty.cells]
       rw[show 0+(j*1+0)=j by omega,<-Array.getElem?_toList,dU]
       have hj:(xs.set i z)[j]? =some x:=hj
       rw[List.getElem?_set] at hj
       have aoM:i<cur.toList.length:=by simp;omega
       by_cases hij:i=j
       ·subst hij
        rw[if_pos rfl,if_pos hi] at hj
        cases hj
        rw[List.append_assoc,List.getElem?_append_right (by simp;omega)]
        have:i-(cur.toList.take i).length=0:=by simp;omega
        rw[this];rfl
       ·rw[if_neg hij] at hj
        have vm:=dN j x hj
        simp only[World.cell?,h2] at vm
        rw[<-Array.getElem?_toList] at vm
        rcases Nat.lt_or_ge j i with ar|RU
        ·rw[List.append_assoc,List.getElem?_append_left (by simp;omega),List.getElem?_take,if_pos ar]
         exact vm
        ·have hgt:i<j:=by omega
         rw[List.getElem?_append_right (by simp;omega),List.getElem?_drop]
         have:i+1+(j-(cur.toList.take i++ [Value.int .u8 z]).length)=j:=by simp;omega
         rw[this]
         exact vm
      ·rw[iM]
       show Ow.used (X.ow g) _
       rw[h6]
       show _<_
       simp only[Ty.cells]
       omega
    ·have:=cR p hp
     subst this
     refine⟨e,.int .u8,(xs.set i z:List Int),_,by simp [Ty.eI],rfl,rfl,?_⟩
     have hls:List.length (xs.set i z)=xs.length:=List.length_set ..
     rw[hls]
     exact .inr ⟨g,c,new,rfl,aE,hle,h4,by rw[eb,h5];simp [Ty.cells],h6⟩
   ·rw[if_neg Ay] at hl
    have:=SI tZ j l hl (by omega)
    exact(hr.bS j l v hl ji).iT fun k sv u hk hu=>hu.flat (this sv (List.mem_of_getElem? hk))
  ·have:=List.all_eq_true.1 je (some B) (List.mem_of_getElem? hB)
   cases this
  ·rw[List.getElem?_set] at hl
   by_cases Ay:o=j
   ·subst Ay
    rw[if_pos rfl,if_pos ho] at hl
    cases hl
    simp at hm
   ·rw[if_neg Ay] at hl
    have:=SI tZ j l hl (by omega) _ hm
    cases this
  ·exfalso
   replace hl:(s.sl.set o [.ak (.sl e (.int .u8)) (xs.set i z:List Int) own])[j]? =some l:=hl
   rw[List.getElem?_set] at hl
   by_cases Ay:o=j
   ·subst Ay
    rw[if_pos rfl,if_pos ho] at hl
    cases hl
    simp at hm
   ·rw[if_neg Ay] at hl
    have:=SI tZ j l hl (by omega) _ hm
    cases this
theorem nP{a:Act}{d i:Nat}{v:Value}(hd:d<a.tmps.size):(a.put (some d) v).tmps.getD i Go.undef=if d=i then v else a.tmps.getD i Go.undef:=by
 simp only[Act.put,Array.getD_eq_getD_getElem?,Array.getElem?_setIfInBounds]
 split
 ·first|rfl|(rw[if_pos hd];rfl)
 ·rfl
theorem rO{a:Act}{d:Nat}{v:Value}:(a.put (some d) v).tmps.size=a.tmps.size:=by simp [Act.put]
theorem raw{ops:Array Oper}{Q:Exit->Act->World->Prop}{i d:Nat}{rest:List Nat}{a:Act}{w:World}{o:Oper}{v:Value}(hi:ops[i]? =some o)(hd:isDst o d=true)(aX:(execOp a.eval o).run P w= .ok (.value v) w)(K:wpOps P ops Q rest (a.put (some d) v) w):wpOps P ops Q (i::rest) a w:=by
 have lr:o.dst=some d/\o.guard=none:=by
  unfold isDst at hd
  split at hd
  ·rename_i d' h1 h2
   exact⟨by rw[h1,Nat.eq_of_beq_eq_true hd],h2⟩
  ·cases hd
 rw[wpOps_cons]
 unfold wpOp
 simp only[hi]
 have hw:Region.wanted o (yielded ops a.tmps)=true:=by simp [Region.wanted,lr.2]
 rw[if_pos hw]
 refine .inl ?_
 unfold Oper.wp
 rw[aX,Oper.upon_value,lr.1]
 exact K
theorem vA{x:Operand}{i:Nat}(h:fD x i=true):x= .tmp i:=by
 unfold fD at h
 split at h
 ·rw[Nat.eq_of_beq_eq_true h]
 ·cases h
theorem Ox{T:TypeId}(h:xC E T=true):E.ty T=some (.int .u8):=by
 unfold xC at h
 split at h
 ·assumption
 ·cases h
theorem zvn{T:TypeId}(h:V2 E T=true):∃e,E.ty T=some (.sl e (.int .u8)):=by
 unfold V2 at h
 split at h
 ·exact⟨_,by assumption⟩
 ·cases h
theorem vB{o:Oper}{d x:Nat}(h:FL o d x=true):isDst o d=true/\∀(a:Act) (w:World),(execOp a.eval o).run P w= .ok (.value (a.tmps.getD x Go.undef)) w:=by
 unfold FL at h
 rw[Bool.and_eq_true] at h
 refine⟨h.1,fun a w=> ?_⟩
 have h:=h.2
 split at h
 ·rename_i y ho
  have:=vA h
  subst this
  simp only[execOp,ho]
  rfl
 ·cases h
theorem V6(hE:ap P E){o:Oper}{d x:Nat}(h:isLen E o d x=true):isDst o d=true/\∀(a:Act) (w:World) A n c,a.tmps.getD x Go.undef= .slice A n c->(execOp a.eval o).run P w= .ok (.value (.int .i64 n)) w:=by
 unfold isLen at h
 rw[Bool.and_eq_true] at h
 refine⟨h.1,fun a w A n c hv=> ?_⟩
 have h:=h.2
 split at h
 ·rename_i dM ts ho
  split at h
  ·rename_i y T se B3
   have has:dM= #[y]:=by rw[<-Array.toArray_toList (xs:=dM),se]
   have kG:ts= #[T]:=by rw[<-Array.toArray_toList (xs:=ts),B3]
   subst has kG
   rw[Bool.and_eq_true] at h
   have:=vA h.1
   subst this
   obtain⟨e,hT⟩:=zvn h.2
   have hu:=(hE.ty T _ hT).dt
   have ev:a.eval (.tmp x)= .slice A n c:=hv
   simp [execOp,ho,resolve,invoke,builtin,Builtin.len_,ev,run_underlying hu.1,goInt]
  ·cases h
 ·cases h
theorem S8{o:Oper}{d x:Nat}(h:Yt o d x=true):isDst o d=true/\∀(a:Act) (w:World) (n:Int),a.tmps.getD x Go.undef= .int .i64 n->(execOp a.eval o).run P w= .ok (.value (.int .i64 (IntKind.i64.wrap (n-1)))) w:=by
 unfold Yt at h
 rw[Bool.and_eq_true] at h
 refine⟨h.1,fun a w n hv=> ?_⟩
 have h:=h.2
 split at h
 ·rename_i T y c T' ho
  rw[Bool.and_eq_true] at h
  have:=vA h.1
  subst this
  have hc:=of_decide_eq_true h.2
  subst hc
  have ev:a.eval (.tmp x)= .int .i64 n:=hv
  have ec:a.eval (.const (.int .i64 1))= .int .i64 1:=rfl
  obtain⟨sv,v,hl,Kt,_,hr,_⟩:=zqk (P:=P) (op:= .sub) (T:=T) (k:= .i64) (k':= .i64) (m:=n) (n:=1) w rfl
  cases hl
  have:=A4 (hr ⟨w,fun _=> .all,fun _=>none⟩ (fun _=> .r 0 []))
  subst this
  simp only[execOp,ho,Sem.run_bind,ev,ec,z49,Result.andThen_ok,Kt,Sem.run_pure]
 ·cases h
theorem OP{o:Oper}{d x y:Nat}(h:uA o d x y=true):isDst o d=true/\∀(a:Act) (w:World) (n m:Int),a.tmps.getD x Go.undef= .int .u8 n->a.tmps.getD y Go.undef= .int .u8 m->(execOp a.eval o).run P w= .ok (.value (.int .u8 (IntKind.u8.wrap (n+m)))) w:=by
 unfold uA at h
 rw[Bool.and_eq_true] at h
 refine⟨h.1,fun a w n m hv hu=> ?_⟩
 have h:=h.2
 split at h
 ·rename_i T u v T' ho
  rw[Bool.and_eq_true] at h
  have:=vA h.1
  subst this
  have:=vA h.2
  subst this
  have ev:a.eval (.tmp x)= .int .u8 n:=hv
  have eu:a.eval (.tmp y)= .int .u8 m:=hu
  obtain⟨sv,v,hl,Kt,_,hr,_⟩:=zqk (P:=P) (op:= .add) (T:=T) (k:= .u8) (k':= .u8) (m:=n) (n:=m) w rfl
  cases hl
  have:=A4 (hr ⟨w,fun _=> .all,fun _=>none⟩ (fun _=> .r 0 []))
  subst this
  simp only[execOp,ho,Sem.run_bind,ev,eu,z49,Result.andThen_ok,Kt,Sem.run_pure]
 ·cases h
theorem Ym(hE:ap P E){o:Oper}{d x i:Nat}(h:xB E o d x i=true):isDst o d=true/\∀(a:Act) (w:World) (g n c:Nat) (j:Int),a.tmps.getD x Go.undef= .slice (some ⟨g,0,none⟩) n c->a.tmps.getD i Go.undef= .int .i64 j->0<=j->j<n->(execOp a.eval o).run P w= .ok (.value (.pointer (some ⟨g,j.toNat,none⟩))) w:=by
 unfold xB at h
 rw[Bool.and_eq_true] at h
 refine⟨h.1,fun a w g n c j hv hj h0 h1=> ?_⟩
 have h:=h.2
 split at h
 ·rename_i T y z ho
  rw[Bool.and_eq_true,Bool.and_eq_true] at h
  have:=vA h.1
  subst this
  have:=vA h.2.1
  subst this
  obtain⟨e,hT⟩:=zvn h.2.2
  have hu:=(hE.ty T _ hT).dt
  have ev:a.eval (.tmp x)= .slice (some ⟨g,0,none⟩) n c:=hv
  have ei:a.eval (.tmp i)= .int .i64 j:=hj
  simp only[execOp,ho,Sem.run_bind,Instr.indexAt,ei,ev,asIntOf,Sem.run_pure,Result.andThen_ok,run_underlying hu.1,Sem.run_ite,h0,h1,and_self,if_true,lK hE hu.2]
  simp [Ty.cells,iM]
 ·cases h
theorem Nh(hE:ap P E){o:Oper}{d x:Nat}(h:EI E o d x=true):isDst o d=true/\∀(a:Act) (w:World) (g j:Nat) (y:Int),a.tmps.getD x Go.undef= .pointer (some ⟨g,j,none⟩)->w.cell? ⟨g,j,none⟩=some (.int .u8 y)->(execOp a.eval o).run P w= .ok (.value (.int .u8 y)) w:=by
 unfold EI at h
 rw[Bool.and_eq_true] at h
 refine⟨h.1,fun a w g j y hv hc=> ?_⟩
 have h:=h.2
 split at h
 ·rename_i T z ho
  rw[Bool.and_eq_true] at h
  have:=vA h.1
  subst this
  have hT:=Ox h.2
  have ev:a.eval (.tmp x)= .pointer (some ⟨g,j,none⟩):=hv
  have hl:=A6 (P:=P) hE hT (X:=⟨w,fun _=> .all,fun _=>none⟩) (x:=y) (cs:=[.int .u8 y]) rfl (ad:=⟨g,j,none⟩) (w:=w) (fun k v hk=>by
   cases k with
   |zero=>rw[iM];have hk:Value.int .u8 y=v:=by simpa using hk
          rw[<-hk];exact hc
   |succ k=>simp at hk)
  simp only[execOp,ho,Sem.run_bind,Instr.loadAt,ev,Instr.sureAddr,Sem.run_pure,Result.andThen_ok,hl]
  rfl
 ·cases h
theorem amR(hE:ap P E){ops:Array Oper}{Q:Exit->Act->World->Prop}{o:Oper}{x y:Nat}(h:uz E o x y=true){k:Nat}{rest:List Nat}(hi:ops[k]? =some o){a:Act}{X:ax}{g j:Nat}{z:Int}{cur:Array Value}{T':TypeId}(hv:a.tmps.getD x Go.undef= .pointer (some ⟨g,j,none⟩))(hz:a.tmps.getD y Go.undef= .int .u8 z)(hg:X.w.heap[g]? =some (.cells cur T' (0,0)))(hj:j+1<=cur.size)
 (K:wpOps P ops Q rest (a.put none Go.undef) (X.row g (cur.toList.take j++ [Value.int .u8 z]++cur.toList.drop (j+1)).toArray).w):wpOps P ops Q (k::rest) a X.w:=by
 unfold uz at h
 rw[Bool.and_eq_true] at h
 have lr:o.dst=none/\o.guard=none:=by
  have h:=h.1
  split at h
  ·exact⟨by assumption,by assumption⟩
  ·cases h
 have h:=h.2
 rw[wpOps_cons]
 unfold wpOp
 simp only[hi]
 have hw:Region.wanted o (yielded ops a.tmps)=true:=by simp [Region.wanted,lr.2]
 rw[if_pos hw]
 refine .inl ?_
 unfold Oper.wp
 split at h
 ·rename_i T u v ho
  rw[Bool.and_eq_true,Bool.and_eq_true] at h
  have:=vA h.1
  subst this
  have:=vA h.2.1
  subst this
  have hT:=Ox h.2.2
  have ev:a.eval (.tmp x)= .pointer (some ⟨g,j,none⟩):=hv
  have ez:a.eval (.tmp y)= .int .u8 z:=hz
  have bR:=Gm (P:=P) hE hT (X:=X) (x:=z) (cs:=[.int .u8 z]) rfl (off:=j) (w:=X.w) (r:=g) (cur:=cur) (T':=T') hg hj
  have gY:dR (.int .u8) [.int .u8 z]= .int .u8 z:=rfl
  rw[gY] at bR
  have aX:(execOp a.eval o).run P X.w= .ok .skip (X.row g (cur.toList.take j++ [Value.int .u8 z]++cur.toList.drop (j+1)).toArray).w:=by
   simp only[execOp,ho,Sem.run_bind,Instr.storeAt,ev,Instr.sureAddr,Sem.run_pure,Result.andThen_ok,ez,bR]
   rfl
  rw[aX,Oper.upon_skip,lr.1]
  exact K
 ·cases h
theorem z139:∀(n m:Nat) (sl:List (List SV)),(kj n m sl).length=sl.length
 |0,m,sl=>rfl
 |n+1,m,sl=>by rw[kj,z139 n (m+1),List.length_set]
def dead(s:State)(d:Nat):State:=s.av (some d) [.undef]
theorem Rel.dead(hr:Rel X s a)(d:Nat)(v:Value):Rel X (Ref.dead s d) (a.put (some d) v):=hr.put (fun _ _=>trivial) (fun id t p hm=>by simp at hm)
theorem ahg(hE:ap P E){X0:ax}(hF:∀g pl n,X0.ow g≠ .row pl n)(hx:Ext X0 X)(hr:Rel X s a){q:Nat×Nat×Nat}{id:Nat}{ops:Array Oper}{s':State}(h:lI E q ops.toList s some=some s'){Q:Exit->Act->World->Prop}(hQ:∀Y a',Ext X0 Y->Rel Y s' a'->Q .normal a' Y.w):(Code.region id ops false).wp P Q a X.w:=by
 obtain⟨o,x,m⟩:=q
 unfold lI at h
 simp only at h
 cases fm:EM E o x m ops.toList with
 |false=>rw[fm] at h;cases h
 |true=>
 rw[fm,cond_true] at h
 cases hb:(Nat.ble (o+1) m&&(Nat.ble (x+1) m&&(!(Nat.beq o x)&&Nat.ble (m+13) s.sl.length))) with
 |false=>rw[hb] at h;cases h
 |true=>
 rw[hb,cond_true] at h
 simp only[Bool.and_eq_true,Bool.not_eq_true',Nat.ble_eq] at hb
 obtain⟨hom,hxm,hox,Ck⟩:=hb
 split at h
 case h_2=>cases h
 rename_i et xs own y ow2 iB Kr
 cases bU:gL own [] with
 |false=>rw[bU] at h;cases h
 |true=>
 rw[bU,cond_true] at h
 cases tZ:(lq o 0 (kj 13 m s.sl)&&s.bs.all Option.isNone) with
 |false=>rw[tZ] at h;cases h
 |true=>
 rw[tZ,cond_true] at h
 rw[Bool.and_eq_true] at tZ
 obtain⟨h0,h1,h⟩:=vu h
 cases h
 generalize hj:IntKind.i64.wrap ((List.length xs:Int)-1)=j at h0 h1
 have hi:j.toNat<xs.length:=by omega
 obtain⟨g,c,cur,hR⟩:=amP hr iB bU hi
 have di:m+13<=a.tmps.size:=by rw[<-hr.size];exact Ck
 have hy:a.tmps.getD x Go.undef= .int .u8 y:=by
  have iA:=hr.slot x
  rw[Kr] at iA
  exact A4 (show aA X (.c x 0) (.ak (.int .u8) y ow2) _ from iA)
 have hgx:xs[j.toNat]? =some (xs.getD j.toNat 0):=by rw[List.getD_eq_getElem?_getD,List.getElem?_eq_getElem hi];rfl
 have xi:=hR.cell _ _ hgx
 unfold EM at fm
 split at fm
 case h_2=>cases fm
 rename_i o0 o1 o2 o3 o4 o5 o6 o7 o8 o9 o10 o11 o12 o13 hD
 simp only[Bool.and_eq_true] at fm
 obtain⟨k0,k1,k2,k3,k4,k5,k6,k7,k8,k9,k10,k11,k12,k13⟩:=fm
 have cB:∀i,ops[i]? =([o0,o1,o2,o3,o4,o5,o6,o7,o8,o9,o10,o11,o12,o13]:List Oper)[i]? :=fun i=>by rw[<-Array.getElem?_toList,hD]
 have b8:ops.size=14:=by rw[<-Array.length_toList,hD];rfl
 refine wp_region ?_
 rw[b8,show List.range 14=[0,1,2,3,4,5,6,7,8,9,10,11,12,13] from rfl]
 have vo:=hR.val
 generalize xA:(Value.slice (some ⟨g,0,none⟩) xs.length c)=vs at vo
 refine raw (cB 0) (vB (P:=P) k0).1 ((vB k0).2 a X.w) ?_
 rw[vo]
 have e1:=fun i=>nP (i:=i) (v:=vs) (show m<a.tmps.size by omega)
 have r1:=hr.dead m vs
 generalize Kh:a.put (some m) vs=a1 at e1 r1
 have z1:a1.tmps.size=a.tmps.size:=by rw[<-Kh,rO]
 refine raw (cB 1) (vB (P:=P) k1).1 ((vB k1).2 a1 X.w) ?_
 rw[e1,if_neg (by omega),vo]
 have e2:=fun i=>nP (a:=a1) (i:=i) (v:=vs) (show m+1<a1.tmps.size by omega)
 have r2:=r1.dead (m+1) vs
 generalize ZH:a1.put (some (m+1)) vs=a2 at e2 r2
 have z2:a2.tmps.size=a.tmps.size:=by rw[<-ZH,rO,z1]
 refine raw (cB 2) (V6 hE k2).1 ((V6 hE k2).2 a2 X.w _ _ _ (by rw[e2,if_pos rfl];exact xA.symm)) ?_
 have e3:=fun i=>nP (a:=a2) (i:=i) (v:= .int .i64 (xs.length:Nat)) (show m+2<a2.tmps.size by omega)
 have r3:=r2.dead (m+2) (.int .i64 (xs.length:Nat))
 generalize hp3:a2.put (some (m+2)) (.int .i64 (xs.length:Nat))=a3 at e3 r3⊢
 have z3:a3.tmps.size=a.tmps.size:=by rw[<-hp3,rO,z2]
 refine raw (cB 3) (S8 (P:=P) k3).1 ((S8 k3).2 a3 X.w _ (by rw[e3,if_pos rfl])) ?_
 rw[hj]
 have e4:=fun i=>nP (a:=a3) (i:=i) (v:= .int .i64 j) (show m+3<a3.tmps.size by omega)
 have r4:=r3.dead (m+3) (.int .i64 j)
 generalize hp4:a3.put (some (m+3)) (.int .i64 j)=a4 at e4 r4⊢
 have z4:a4.tmps.size=a.tmps.size:=by rw[<-hp4,rO,z3]
 have q4:∀i,i<m->a4.tmps.getD i Go.undef=a.tmps.getD i Go.undef:=fun i hi=>by rw[e4,if_neg (by omega),e3,if_neg (by omega),e2,if_neg (by omega),e1,if_neg (by omega)]
 have qm:a4.tmps.getD m Go.undef=vs:=by rw[e4,if_neg (by omega),e3,if_neg (by omega),e2,if_neg (by omega),e1,if_pos rfl]
 refine raw (cB 4) (vB (P:=P) k4).1 ((vB k4).2 a4 X.w) ?_
 rw[q4 o (by omega),vo]
 have e5:=fun i=>nP (a:=a4) (i:=i) (v:=vs) (show m+4<a4.tmps.size by omega)
 have r5:=r4.dead (m+4) vs
 generalize hp5:a4.put (some (m+4)) vs=a5 at e5 r5⊢
 have z5:a5.tmps.size=a.tmps.size:=by rw[<-hp5,rO,z4]
 refine raw (cB 5) (vB (P:=P) k5).1 ((vB k5).2 a5 X.w) ?_
 rw[e5,if_neg (by omega),q4 o (by omega),vo]
 have e6:=fun i=>nP (a:=a5) (i:=i) (v:=vs) (show m+5<a5.tmps.size by omega)
 have r6:=r5.dead (m+5) vs
 generalize hp6:a5.put (some (m+5)) vs=a6 at e6 r6⊢
 have z6:a6.tmps.size=a.tmps.size:=by rw[<-hp6,rO,z5]
 refine raw (cB 6) (V6 hE k6).1 ((V6 hE k6).2 a6 X.w _ _ _ (by rw[e6,if_pos rfl];exact xA.symm)) ?_
 have e7:=fun i=>nP (a:=a6) (i:=i) (v:= .int .i64 (xs.length:Nat)) (show m+6<a6.tmps.size by omega)
 have r7:=r6.dead (m+6) (.int .i64 (xs.length:Nat))
 generalize hp7:a6.put (some (m+6)) (.int .i64 (xs.length:Nat))=a7 at e7 r7⊢
 have z7:a7.tmps.size=a.tmps.size:=by rw[<-hp7,rO,z6]
 refine raw (cB 7) (S8 (P:=P) k7).1 ((S8 k7).2 a7 X.w _ (by rw[e7,if_pos rfl])) ?_
 rw[hj]
 have e8:=fun i=>nP (a:=a7) (i:=i) (v:= .int .i64 j) (show m+7<a7.tmps.size by omega)
 have r8:=r7.dead (m+7) (.int .i64 j)
 generalize hp8:a7.put (some (m+7)) (.int .i64 j)=a8 at e8 r8⊢
 have z8:a8.tmps.size=a.tmps.size:=by rw[<-hp8,rO,z7]
 have q8:∀i,i<=m+3->a8.tmps.getD i Go.undef=a4.tmps.getD i Go.undef:=fun i hi=>by rw[e8,if_neg (by omega),e7,if_neg (by omega),e6,if_neg (by omega),e5,if_neg (by omega)]
 refine raw (cB 8) (Ym hE k8).1 ((Ym hE k8).2 a8 X.w g xs.length c j (by rw[e8,if_neg (by omega),e7,if_neg (by omega),e6,if_neg (by omega),e5,if_pos rfl];exact xA.symm) (by rw[e8,if_pos rfl]) h0 h1) ?_
 have e9:=fun i=>nP (a:=a8) (i:=i) (v:= .pointer (some ⟨g,j.toNat,none⟩)) (show m+8<a8.tmps.size by omega)
 have r9:=r8.dead (m+8) (.pointer (some ⟨g,j.toNat,none⟩))
 generalize hp9:a8.put (some (m+8)) (.pointer (some ⟨g,j.toNat,none⟩))=a9 at e9 r9⊢
 have z9:a9.tmps.size=a.tmps.size:=by rw[<-hp9,rO,z8]
 refine raw (cB 9) (Nh hE k9).1 ((Nh hE k9).2 a9 X.w g j.toNat _ (by rw[e9,if_pos rfl]) xi) ?_
 generalize hwx:xs.getD j.toNat 0=wx
 have F1:=fun i=>nP (a:=a9) (i:=i) (v:= .int .u8 wx) (show m+9<a9.tmps.size by omega)
 have kV:=r9.dead (m+9) (.int .u8 wx)
 generalize ZE:a9.put (some (m+9)) (.int .u8 wx)=BJ at F1 kV⊢
 have z10:BJ.tmps.size=a.tmps.size:=by rw[<-ZE,rO,z9]
 refine raw (cB 10) (vB (P:=P) k10).1 ((vB k10).2 BJ X.w) ?_
 rw[F1,if_neg (by omega),e9,if_neg (by omega),q8 x (by omega),q4 x (by omega),hy]
 have F2:=fun i=>nP (a:=BJ) (i:=i) (v:= .int .u8 y) (show m+10<BJ.tmps.size by omega)
 have lF:=kV.dead (m+10) (.int .u8 y)
 generalize ZF:BJ.put (some (m+10)) (.int .u8 y)=BK at F2 lF⊢
 have z11:BK.tmps.size=a.tmps.size:=by rw[<-ZF,rO,z10]
 refine raw (cB 11) (OP (P:=P) k11).1 ((OP k11).2 BK X.w wx y (by rw[F2,if_neg (by omega),F1,if_pos rfl]) (by rw[F2,if_pos rfl])) ?_
 generalize hwz:IntKind.u8.wrap (wx+y)=wz
 have YS:=fun i=>nP (a:=BK) (i:=i) (v:= .int .u8 wz) (show m+11<BK.tmps.size by omega)
 have qu:=lF.dead (m+11) (.int .u8 wz)
 generalize ZG:BK.put (some (m+11)) (.int .u8 wz)=a12 at YS qu⊢
 have z12:a12.tmps.size=a.tmps.size:=by rw[<-ZG,rO,z11]
 have q12:∀i,i<=m+3->a12.tmps.getD i Go.undef=a4.tmps.getD i Go.undef:=fun i hi=>by rw[YS,if_neg (by omega),F2,if_neg (by omega),F1,if_neg (by omega),e9,if_neg (by omega),q8 i hi]
 refine raw (cB 12) (Ym hE k12).1 ((Ym hE k12).2 a12 X.w g xs.length c j (by rw[q12 m (by omega),qm];exact xA.symm) (by rw[q12 (m+3) (by omega),e4,if_pos rfl]) h0 h1) ?_
 have RR:=fun i=>nP (a:=a12) (i:=i) (v:= .pointer (some ⟨g,j.toNat,none⟩)) (show m+12<a12.tmps.size by omega)
 have nw:=qu.dead (m+12) (.pointer (some ⟨g,j.toNat,none⟩))
 generalize aoU:a12.put (some (m+12)) (.pointer (some ⟨g,j.toNat,none⟩))=JD at RR nw⊢
 have Y7:nV X JD o et xs own g c cur:=⟨by rw[RR,if_neg (by omega),q12 o (by omega),q4 o (by omega),hR.val],hR.heap,hR.cell,hR.le,hR.most,hR.size,hR.ow,hR.own⟩
 refine amR hE k13 (cB 13) (by rw[RR,if_pos rfl]) (by rw[RR,if_neg (by omega),YS,if_pos rfl]) hR.heap (by rw[hR.size];have:=hR.le;omega) ?_
 have ZO:Rel X ⟨kj 13 m s.sl,s.bs⟩ JD:=nw
 obtain⟨hX,bu⟩:=ako hF hx ZO (by rw[z139];omega) tZ.1 tZ.2 Y7 hi wz
 have Ca:=hQ _ JD hX (by
  unfold AZ
  rw[hj,hwx,hwz]
  exact bu)
 exact Ca
end Go.Ref

namespace Go.Ref
open Go
variable {P:Program} {E:Env} {X:ax} {s:State} {a:Act}
structure od(X Y:ax)(g0:Nat):Prop where
 heap:∀b,b≠g0->Y.w.heap[b]? =X.w.heap[b]?
 ow:Y.ow=X.ow
 β:Y.β=X.β
theorem od.az{Y:ax}{g0:Nat}(h:od X Y g0){ad:Addr}{v:Value}(bM:ad.block≠g0)(hs:X.az ad v):Y.az ad v:=by
 refine⟨hs.1,?_,?_⟩
 ·have:=hs.2.1
  simp only[World.cell?] at this⊢
  rw[h.heap _ bM];exact this
 ·rw[h.ow];exact hs.2.2
theorem Oq{own:List (List Nat)}{p:List Nat}(h:gL own p=true):p∈own:=by
 unfold gL at h
 obtain⟨q,h1,h2⟩:=List.any_eq_true.1 h
 have:q=p:=by simpa using h2
 rw[<-this];exact h1
def plS(pl:List Nat->Place):List Nat->Place
 |j::p=>pl ((j+1)::p)
 | []=>pl []
theorem akk{pl:List Nat->Place}{a b:Ty}{x:El (.pair a b)}{c1 c2:List Value}{own:List (List Nat)}(hr:bh X a x.1 c1)(h:bm X pl (.pair a b) x (c1++c2) own):bm X (fun p=>pl (0::p)) a x.1 c1 (RC own [0]):=fun p hp=>by
 unfold RC at hp
 obtain⟨q,hq,rfl⟩:=List.mem_map.1 hp
 obtain⟨hq,gj⟩:=List.mem_filter.1 hq
 match q,gj with
 |0::q,_=>
  obtain⟨e,t',xs,v,g0,g1,g2,g3⟩:=h (0::q) hq
  have g2:(c1++c2)[a.off q]? =some v:=g2
  refine⟨e,t',xs,v,g0,g1,?_,g3⟩
  show c1[a.off q]? =some v
  rw[<-g2,List.getElem?_append_left]
  obtain⟨_,k2,_⟩:=QO hr (show a.eI q from g0) (show El.get a q x.1=_ from g1)
  have k2:a.off q+1<=a.cells:=k2
  have:=hr.len
  omega
 | [],gj=>simp at gj
 |(j+1)::q,gj=>simp at gj
theorem akl{pl:List Nat->Place}{a b:Ty}{x:El (.pair a b)}{c1 c2:List Value}{own:List (List Nat)}(hl:c1.length=a.cells)(h:bm X pl (.pair a b) x (c1++c2) own):bm X (plS pl) b x.2 c2 (xc own):=fun p hp=>by
 unfold xc at hp
 obtain⟨q,hq,he⟩:=List.mem_filterMap.1 hp
 match q,he with
 |(j+1)::q,he=>
  cases he
  obtain⟨e,t',xs,v,g0,g1,g2,g3⟩:=h ((j+1)::q) hq
  refine⟨e,t',xs,v,g0,g1,?_,g3⟩
  have g2:(c1++c2)[a.cells+b.off (j::q)]? =some v:=g2
  rw[List.getElem?_append_right (by omega)] at g2
  rw[<-g2]
  congr 1
  omega
 | [],he=>cases he
 |0::q,he=>cases he
theorem bm.KY{Y:ax}{g0:Nat}(h:od X Y g0){pl:List Nat->Place}(fO:∀p n,X.ow g0≠ .row (pl p) n){t:Ty}{x:El t}{cs:List Value}{own:List (List Nat)}(ho:bm X pl t x cs own):bm Y pl t x cs own:=fun p hp=>by
 obtain⟨e,t',xs,v,k0,k1,k2,k3⟩:=ho p hp
 refine⟨e,t',xs,v,k0,k1,k2,?_⟩
 rcases k3 with ho|⟨g,cap,cur,h1,h2,h3,h4,h5,h6⟩
 ·exact .inl ho
 ·have bM:g≠g0:=fun e=>fO p _ (e▸h6)
  exact .inr ⟨g,cap,cur,h1,(h.heap g bM).trans h2,h3,h4,h5,by rw[h.ow];exact h6⟩
theorem bh.cJ{Y:ax}{g0:Nat}(h:od X Y g0):∀{t:Ty} {x:El t} {cs:List Value} {own:List (List Nat)} {pl:List Nat->Place},(∀p n,X.ow g0≠ .row (pl p) n)->t.cJ own=true->bh X t x cs->bm X pl t x cs own->bh Y t x cs
 | .bool,_,_,_,_,_,_,hr,_=>hr
 | .int _,_,_,_,_,_,_,hr,_=>hr
 | .str,_,_,_,_,_,_,hr,_=>hr
 | .unit,_,_,_,_,_,_,hr,_=>hr
 | .aG _ _ _,_,_,_,_,_,hs,_,_=>by cases hs
 | .arr n t,xs,cs,own,pl,_,hs,hr,_=>bh.flat (t:= .arr n t) (show t.flat=true from hs) hr
 | .pair a b,x,cs,own,pl,fO,hs,hr,ho=>by
   have hs:(a.cJ (RC own [0])&&b.cJ (xc own))=true:=hs
   rw[Bool.and_eq_true] at hs
   obtain⟨c1,c2,h1,h2,h3⟩:=hr
   subst h1
   exact⟨c1,c2,rfl,bh.cJ h (pl:=fun p=>pl (0::p)) (fun p n=>fO _ n) hs.1 h2 (akk h2 ho),bh.cJ h (pl:=plS pl) (fun p n=>by cases p<;>exact fO _ n) hs.2 h3 (akl h2.len ho)⟩
 | .sl e t,xs,cs,own,pl,fO,hs,hr,ho=>by
   have hs:(t.flat&&gL own [])=true:=hs
   rw[Bool.and_eq_true] at hs
   obtain⟨A,c,eD,hle,fN⟩:=hr
   subst eD
   refine⟨A,c,rfl,hle,fun j x hj=> ?_⟩
   obtain⟨ad,eH,e1,e2,e3,e4⟩:=fN j x hj
   subst e1
   refine⟨ad,eH,rfl,e2,e3.flat hs.1,fun i v hi=>h.az ?_ (e4 i v hi)⟩
   obtain⟨e1,t1,xs1,v1,_,hg,hc,cg⟩:=ho [] (Oq hs.2)
   simp only[El.get,Option.some.injEq] at hg
   cases hg
   have AG:v1= .slice (some ad) xs.length c:=by
    have:([Value.slice (some ad) xs.length c]:List Value)[0]? =some v1:=hc
    simpa using this.symm
   subst AG
   rcases cg with⟨h0,_⟩|⟨g,cap,cur,h1,h2,h3,h4,h5,h6⟩
   ·cases h0
   ·injection h1 with k1 k2 k3
    cases k1
    rw[iM]
    intro e
    have e:g=g0:=e
    exact fO [] _ (e▸h6)
theorem aA.cJ{Y:ax}{g0:Nat}(h:od X Y g0){pl:List Nat->Place}(fO:∀p n,X.ow g0≠ .row (pl p) n){bs:List (Option bE)}{sv:SV}{v:Value}(hs:sv.cJ bs=true)(hr:aA X pl sv v):aA Y pl sv v:=by
 cases sv with
 |ak t x own=>
  obtain⟨cs,h1,h2,h3⟩:=hr
  exact⟨cs,h1.cJ h fO hs h3,h2,h3.KY h fO⟩
 |undef=>trivial
 |skip=>exact hr
 |cF=>exact hr
 |dS=>exact hr
 |over=>exact hr
 |ptr id t p=>
  obtain⟨r,h1,h2⟩:=hr
  exact⟨r,by rw[h.β];exact h1,h2⟩
 |_=>cases hs
theorem adQ{bs:List (Option bE)}{id:Nat}{B:bE}(h:(bs.map Yx)[id]? =some (some B)):bs[id]? =some (some B)/\B.cJ=true:=by
 rw[List.getElem?_map] at h
 obtain⟨b0,h0,h1⟩:=Option.map_eq_some_iff.1 h
 cases b0 with
 |none=>cases h1
 |some B0=>
  unfold Yx at h1
  simp only at h1
  cases hb:B0.cJ with
  |false=>rw[hb] at h1;cases h1
  |true=>rw[hb] at h1;cases h1;exact⟨h0,hb⟩
structure Yz(X:ax)(o:Nat)(e:TypeId)(k n:Nat)(v:Value)(g c:Nat)(cur:Array Value):Prop where
 val:v= .slice (some ⟨g,0,none⟩) n c
 heap:X.w.heap[g]? =some (.cells cur e (0,0))
 le:n<=c
 size:cur.size=c*k
 ow:X.ow g= .row (.c o 0 []) (n*k)
theorem KQ{o:Nat}{e:TypeId}{t:Ty}{xs:List (El t)}{own:List (List Nat)}(hr:Rel X s a)(hs:s.slot o=[.ak (.sl e t) xs own])(bU:gL own []=true){i:Nat}(hi:i<xs.length):∃g c cur,Yz X o e t.cells xs.length (a.tmps.getD o Go.undef) g c cur:=by
 have iA:=hr.slot o
 rw[hs] at iA
 obtain⟨cs,aL,hv,hO⟩:=(show aA X (.c o 0) (.ak (.sl e t) xs own) (a.tmps.getD o Go.undef) from iA)
 obtain⟨e1,t1,xs1,v1,_,hg,hc,cg⟩:=hO [] (Oq bU)
 simp only[El.get,Option.some.injEq] at hg
 cases hg
 obtain⟨A,c,eD,hle,fN⟩:=aL
 subst eD
 have hv:a.tmps.getD o Go.undef= .slice A xs.length c:=hv
 have AG:v1= .slice A xs.length c:=by
  have:([Value.slice A xs.length c]:List Value)[0]? =some v1:=hc
  simpa using this.symm
 subst AG
 rcases cg with⟨_,h0⟩|⟨g,cap,cur,h1,h2,h3,h4,h5,h6⟩
 ·have h0:List.length xs=0:=h0
  omega
 injection h1 with k1 k2 k3
 subst k1 k3
 exact⟨g,c,cur,hv,h2,hle,h5,h6⟩
theorem Ny{g:Nat}{new:Array Value}:od X (X.row g new) g:=⟨fun b hb=>setRow_other X.w g b _ hb,rfl,rfl⟩
theorem akr{X0:ax}(hF:∀g pl n,X0.ow g≠ .row pl n)(hx:Ext X0 X){g m:Nat}{pl:Place}{new:Array Value}(how:X.ow g= .row pl m):Ext X0 (X.row g new):=by
 have dh:∀b,b≠g->(X.row g new).w.heap[b]? =X.w.heap[b]? :=fun b hb=>setRow_other X.w g b _ hb
 have nJ:∀ad v,X0.az ad v->ad.block≠g:=fun ad v eg e0=>by
  have ar:=ax.iI eg
  have hu:=eg.2.2
  cases hw:X0.ow ad.block with
  |all=>have:=(hx.still ad.block ar (by rw[hw];trivial)).1;rw[e0,how] at this;rw[<-e0,hw] at this;cases this
  |ro n=>have:=(hx.still ad.block ar (by rw[hw];trivial)).1;rw[e0,how] at this;rw[<-e0,hw] at this;cases this
  |box id=>rw[hw] at hu;exact hu
  |row pl n=>exact hF _ _ _ hw
 refine⟨fun ad v eg=>Ny.az (nJ ad v eg) (hx.az ad v eg),?_,hx.os,hx.tape,hx.output,hx.β0,fun b hb bR=> ?_⟩
 ·have:=hx.size
  simpa [ax.row] using this
 ·have h7:=hx.still b hb bR
  have bM:b≠g:=fun e0=>by
   have h8:=h7.1
   rw[e0,how] at h8
   rw[e0,<-h8] at bR
   exact bR
  exact⟨h7.1,(dh b bM).trans h7.2⟩
theorem ag8(hr:Rel X s a){x g m:Nat}{new:Array Value}(how:X.ow g= .row (.c x 0 []) m):Rel (X.row g new) (s.cJ x) a:=by
 have hB:od X (X.row g new) g:=Ny
 refine⟨by simpa [State.cJ] using hr.size,by simpa [State.cJ] using hr.gM,fun j l v hl hv=> ?_,fun id B hb=> ?_,fun j l id t p hl hm=> ?_,hr.defers,fun j l id c b k hl hm=> ?_⟩
 ·simp only[State.cJ,List.getElem?_map] at hl
  obtain⟨l0,h0,rfl⟩:=Option.map_eq_some_iff.1 hl
  unfold hold
  cases cR:l0.all (SV.cJ s.bs) with
  |false=>trivial
  |true=>
   rw[cond_true]
   rw[List.getElem?_set] at h0
   by_cases ZY:x=j
   ·subst ZY
    rw[if_pos rfl] at h0
    split at h0
    ·cases h0;trivial
    ·cases h0
   ·rw[if_neg ZY] at h0
    exact(hr.bS j l0 v h0 hv).iT fun k sv u hk hu=>hu.cJ hB (fun p n e=>by rw[how] at e;injection e with e _;injection e with e _;exact ZY e) (List.all_eq_true.1 cR sv (List.mem_of_getElem? hk))
 ·obtain⟨h1,h2⟩:=adQ hb
  obtain⟨r,k1,k2⟩:=hr.boxes id B h1
  unfold bE.cJ at h2
  rw[Bool.and_eq_true] at h2
  have eb:B.t.bI=false:=by simpa using h2.1
  obtain⟨cs,T,aE,aL,oq,bU⟩:=k2.cells eb
  have bM:r≠g:=fun e=>by rw[e,how] at oq;cases oq
  have fO:∀p n,X.ow g≠ .row (.b id p) n:=fun p n e=>by rw[how] at e;injection e with e _;cases e
  exact⟨r,k1,by rw[hB.ow];exact oq,dy.of eb ((hB.heap r bM).trans aE) (aL.cJ hB fO h2.2 bU) (bU.KY hB fO)⟩
 ·simp only[State.cJ,List.getElem?_map] at hl
  obtain⟨l0,h0,rfl⟩:=Option.map_eq_some_iff.1 hl
  unfold hold at hm
  cases cR:l0.all (SV.cJ s.bs) with
  |false=>rw[cR] at hm;simp at hm
  |true=>
   rw[cR,cond_true] at hm
   have h1:=List.all_eq_true.1 cR _ hm
   unfold SV.cJ at h1
   simp only at h1
   split at h1
   case h_2=>cases h1
   rename_i B hB
   have hb:=qB (s:=s) hB
   exact⟨B,by simp only[State.cJ,List.getElem?_map,hb,Option.map_some,Yx,h1,cond_true]⟩
 ·exfalso
  simp only[State.cJ,List.getElem?_map] at hl
  obtain⟨l0,h0,rfl⟩:=Option.map_eq_some_iff.1 hl
  unfold hold at hm
  cases cR:l0.all (SV.cJ s.bs) with
  |false=>rw[cR] at hm;simp at hm
  |true=>
   rw[cR,cond_true] at hm
   have:=List.all_eq_true.1 cR _ hm
   cases this
theorem zvs{α:Type}:∀{l r:List α} {x y:α},V5 l=some (r,x,y)->l=r++ [x,y]
 | [],_,_,_,h=>by cases h
 | [_],_,_,_,h=>by cases h
 | [a,b],_,_,_,h=>by cases h;rfl
 |a::b::c::r,_,_,_,h=>by
  simp only[V5] at h
  split at h
  case h_2=>cases h
  rename_i l x y hl
  cases h
  have:=zvs (l:=b::c::r) hl
  rw[this];rfl
theorem zr5(hE:ap P E){C:ah}(hC:C.Nat)(hf:∀f,cW P C f){ops:Array Oper}{s':State}{Q:Exit->Act->World->Prop}{rest:List Nat}:∀(l:List Nat) (X:ax) (s:State) (a:Act),Rel X s a->(∀i∈l,i<ops.size)->
 steps E (C State) ops.toList (l.map fun i=>ops.getD i default) s some=some s'->(∀Y a',Ext X Y->Rel Y s' a'->wpOps P ops Q rest a' Y.w)->wpOps P ops Q (l++rest) a X.w
 | [],X,s,a,hr,_,h,hQ=>by
   cases h
   exact hQ X a (Ext.refl X) hr
 |i::r,X,s,a,hr,hl,h,hQ=>by
  simp only[List.map_cons,steps] at h
  obtain⟨s1,h1,h2⟩:=jP (zr4 hC (F:=fun s=>steps E (C State) ops.toList (r.map fun i=>ops.getD i default) s some) (G:=some) (K:=fun s=>steps E (C State) ops.toList (r.map fun i=>ops.getD i default) s some) (fun _=>rfl)) h
  have hi:ops[i]? =some (ops.getD i default):=by
   have:=hl i (by simp)
   simp [this]
  rw[List.cons_append,wpOps_cons]
  refine Wa hE hr hC hf hi h1 fun Y a' aZ bu=> ?_
  exact zr5 hE hC hf r Y s1 a' bu (fun j hj=>hl j (List.mem_cons_of_mem _ hj)) h2 fun Z a2 cc c9=>hQ Z a2 (aZ.trans cc) c9
theorem akn(hE:ap P E){X0:ax}(hF:∀g pl n,X0.ow g≠ .row pl n)(hx:Ext X0 X)(hr:Rel X s a){ops:Array Oper}{k l:Nat}{oA oS:Oper}(hA:ops[k]? =some oA)(hS:ops[l]? =some oS){s':State}(h:jo E oA oS s some=some s'){Q:Exit->Act->World->Prop}(hQ:∀Y a',Ext X0 Y->Rel Y s' a'->Q .normal a' Y.w):wpOps P ops Q [k,l] a X.w:=by
 unfold jo at h
 split at h
 case h_2=>cases h
 rename_i T x i T' d vo ZD hoS
 cases fm:(isDst oA d&&(!(Nat.beq x d)&&lC oS)) with
 |false=>rw[fm] at h;cases h
 |true=>
 rw[fm,cond_true] at h
 rw[Bool.and_eq_true,Bool.and_eq_true] at fm
 obtain⟨hd,ZX,lr⟩:=fm
 have lr:oS.dst=none/\oS.guard=none:=by
  unfold lC at lr
  split at lr
  ·exact⟨by assumption,by assumption⟩
  ·cases lr
 have ZX:x≠d:=fun e=>by rw[e] at ZX;simp at ZX
 unfold uF at h
 split at h
 case h_2=>cases h
 rename_i e t xs own Kr
 cases hb:gL own [] with
 |false=>rw[hb] at h;cases h
 |true=>
 rw[hb,cond_true] at h
 split at h
 case h_2=>cases h
 rename_i u w hT vl
 cases hu:(u.cn (.sl e t)&&(w.cn t&&Nat.ble (d+1) s.sl.length)) with
 |false=>rw[hu] at h;cases h
 |true=>
 rw[hu,cond_true] at h
 rw[Bool.and_eq_true,Bool.and_eq_true] at hu
 have:=Ty.aJ hu.1
 subst this
 have:=Ty.aJ hu.2.1
 subst this
 have hds:d<a.tmps.size:=by rw[<-hr.size];exact Nat.le_of_ble_eq_true hu.2.2
 obtain⟨n,kk,h,hn⟩:=zqv h
 obtain⟨y,h,hy⟩:=zy h
 obtain⟨h0,h1,h⟩:=vu h
 cases h
 have hi:n.toNat<xs.length:=by omega
 obtain⟨g,c,cur,hR⟩:=KQ hr Kr hb hi
 have dm:=hn X _ _ (hr.aH i)
 have hU:=hE.ty T _ hT
 have ev:a.eval (.tmp x)= .slice (some ⟨g,0,none⟩) xs.length c:=hR.val
 have ur:(execOp a.eval oA).run P X.w= .ok (.value (.pointer (some ⟨g,n.toNat*w.cells,none⟩))) X.w:=by
  have ar:n<(xs.length:Int):=h1
  simp only[execOp,ZD,Sem.run_bind,Instr.indexAt,dm,ev,asIntOf,Sem.run_pure,Result.andThen_ok,run_underlying hU.dt.1,Sem.run_ite,h0,ar,and_self,if_true,lK hE hU.dt.2]
  simp [iM]
 refine raw hA hd ur ?_
 have dQ:Rel X (s.av (some d) [.undef]) (a.put (some d) (.pointer (some ⟨g,n.toNat*w.cells,none⟩))):=hr.put (fun _ _=>trivial) (fun id t p hm=>by simp at hm)
 have evd:(a.put (some d) (.pointer (some ⟨g,n.toNat*w.cells,none⟩))).eval (.tmp d)= .pointer (some ⟨g,n.toNat*w.cells,none⟩):=by
  show(a.put (some d) _).tmps.getD d Go.undef=_
  rw[nP hds,if_pos rfl]
 generalize a.put (some d) (.pointer (some ⟨g,n.toNat*w.cells,none⟩))=a1 at dQ evd⊢
 obtain⟨cs,lG,YW⟩:=hy X _ _ (dQ.aH vo)
 have hle:(n.toNat+1)*w.cells<=c*w.cells:=Nat.mul_le_mul_right _ (by have:=hR.le;omega)
 rw[Nat.add_mul,Nat.one_mul] at hle
 have bR:=Gm (P:=P) hE vl lG (r:=g) (off:=n.toNat*w.cells) (w:=X.w) hR.heap (by rw[hR.size];exact hle)
 rw[wpOps_cons]
 unfold wpOp
 simp only[hS]
 have hw:Region.wanted oS (yielded ops a1.tmps)=true:=by simp [Region.wanted,lr.2]
 rw[if_pos hw]
 refine .inl ?_
 unfold Oper.wp
 generalize gZ:(cur.toList.take (n.toNat*w.cells)++cs++cur.toList.drop (n.toNat*w.cells+cs.length)).toArray=new at bR
 have aX:(execOp a1.eval oS).run P X.w= .ok .skip (X.row g new).w:=by
  simp only[execOp,hoS,Sem.run_bind,Instr.storeAt,evd,Instr.sureAddr,Sem.run_pure,Result.andThen_ok,YW,bR]
  rfl
 rw[aX,Oper.upon_skip,lr.1]
 exact hQ _ a1 (akr hF hx hR.ow) (ag8 dQ hR.ow)
theorem agS(hE:ap P E){C:ah}(hC:C.Nat)(hf:∀f,cW P C f){X0:ax}(hF:∀g pl n,X0.ow g≠ .row pl n)(hx:Ext X0 X)(hr:Rel X s a){id:Nat}{ops:Array Oper}{s':State}(h:lE E (C State) ops.toList s some=some s'){Q:Exit->Act->World->Prop}(hQ:∀Y a',Ext X0 Y->Rel Y s' a'->Q .normal a' Y.w):(Code.region id ops false).wp P Q a X.w:=by
 unfold lE at h
 split at h
 case h_2=>cases h
 rename_i l oA oS hl
 obtain⟨s1,h1,h2⟩:=jP (E2 hC (F:=fun s=>jo E oA oS s some) (G:=some) (K:=fun s=>jo E oA oS s some) (fun _=>rfl) l s) h
 have hD:=zvs hl
 have b8:ops.size=l.length+2:=by rw[<-Array.length_toList,hD];simp
 refine wp_region ?_
 have kf:List.range ops.size=List.range l.length++ [l.length,l.length+1]:=by
  rw[b8,List.range_succ,List.range_succ,List.append_assoc];rfl
 rw[kf]
 have hA:ops[l.length]? =some oA:=by rw[<-Array.getElem?_toList,hD,List.getElem?_append_right (Nat.le_refl _),Nat.sub_self];rfl
 have hS:ops[l.length+1]? =some oS:=by rw[<-Array.getElem?_toList,hD,List.getElem?_append_right (by omega),Nat.add_sub_cancel_left];rfl
 have kO:(List.range l.length).map (fun i=>ops.getD i default)=l:=by
  apply List.ext_getElem?
  intro i
  rw[List.getElem?_map]
  by_cases hi:i<l.length
  ·have h3:ops[i]? =l[i]? :=by rw[<-Array.getElem?_toList,hD,List.getElem?_append_left hi]
   have h4:i<ops.size:=by omega
   rw[List.getElem?_range hi,<-h3]
   simp [h4]
  ·rw[List.getElem?_eq_none (by simpa using hi),List.getElem?_eq_none (by omega)];rfl
 refine zr5 hE hC hf (List.range l.length) X s a hr (fun i hi=>by have:=List.mem_range.1 hi;omega) (by rw[kO];exact h1) fun Y a' aZ bu=> ?_
 exact akn hE hF (hx.trans aZ) bu hA hS h2 hQ
end Go.Ref

namespace Go.Ref
open Go
variable {P:Program} {E:Env} {X:ax} {s:State} {a:Act}
theorem abv{ops:Array Oper}{Q:Exit->Act->World->Prop}{i d:Nat}{rest:List Nat}{a:Act}{w w':World}{o:Oper}{v:Value}(hi:ops[i]? =some o)(hd:isDst o d=true)(aX:(execOp a.eval o).run P w= .ok (.value v) w')(K:wpOps P ops Q rest (a.put (some d) v) w'):wpOps P ops Q (i::rest) a w:=by
 have lr:o.dst=some d/\o.guard=none:=by
  unfold isDst at hd
  split at hd
  ·rename_i d' h1 h2
   exact⟨by rw[h1,Nat.eq_of_beq_eq_true hd],h2⟩
  ·cases hd
 rw[wpOps_cons]
 unfold wpOp
 simp only[hi]
 have hw:Region.wanted o (yielded ops a.tmps)=true:=by simp [Region.wanted,lr.2]
 rw[if_pos hw]
 refine .inl ?_
 unfold Oper.wp
 rw[aX,Oper.upon_value,lr.1]
 exact K
theorem zih{α:Type}:∀{l r:List α} {x y z:α},SK l=some (r,x,y,z)->l=r++ [x,y,z]
 | [],_,_,_,_,h=>by cases h
 | [_],_,_,_,_,h=>by cases h
 | [_,_],_,_,_,_,h=>by cases h
 | [a,b,c],_,_,_,_,h=>by cases h;rfl
 |a::b::c::d::r,_,_,_,_,h=>by
  simp only[SK] at h
  split at h
  case h_2=>cases h
  rename_i l x y z hl
  cases h
  have:=zih (l:=b::c::d::r) hl
  rw[this];rfl
theorem Rel.kill(hr:Rel X s a)(d:Nat):Rel X (s.av (some d) [.undef]) a:=by
 have ej:∀(i:Nat) (l:List SV),(s.av (some d) [.undef]).sl[i]? =some l->l=[.undef]\/s.sl[i]? =some l:=fun i l hi=>by
  simp only[State.av,List.getElem?_set] at hi
  split at hi
  ·split at hi
   ·cases hi;exact .inl rfl
   ·cases hi
  ·exact .inr hi
 refine⟨by simpa [State.av] using hr.size,by simpa [State.av] using hr.gM,fun i l v hi hv=> ?_,hr.boxes,fun i l id t p hi hm=> ?_,hr.defers,hr.bz.less (fun i l id c b j hi hm=> ?_) (fun id c b x own _ hb ho=>⟨x,own,hb,ho⟩)⟩
 ·rcases ej i l hi with rfl|hi
  ·trivial
  ·exact hr.bS i l v hi hv
 ·rcases ej i l hi with rfl|hi
  ·simp at hm
  ·exact hr.live i l id t p hi hm
 ·rcases ej i l hi with rfl|hi
  ·simp at hm
  ·exact⟨l,hi,hm,fun h=>h⟩
theorem Z9{P:Program}{fs:Array Field}(h:∀f∈fs.toList,∃i,P.info? f.type=some i):∃places,fs.toList.mapM (fun(f:Field)=>(P.info? f.type).map fun i=>(f.offset,i.size))=some places/\∀(j:Nat) (f:Field) i,fs.toList[j]? =some f->P.info? f.type=some i->places[j]? =some (f.offset,i.size):=by
 generalize fs.toList=l at h
 induction l with
 |nil=>exact⟨[],rfl,fun j f i hj=>by simp at hj⟩
 |cons f r ih=>
  obtain⟨i,hi⟩:=h f (by simp)
  obtain⟨places,h1,h2⟩:=ih fun f hf=>h f (List.mem_cons_of_mem _ hf)
  refine⟨(f.offset,i.size)::places,by simp [List.mapM_cons,hi,h1],fun j g k hj hg=> ?_⟩
  cases j with
  |zero=>
   simp only[List.getElem?_cons_zero,Option.some.injEq] at hj
   subst hj
   rw[hi] at hg
   cases hg
   rfl
  |succ j=>exact h2 j g k (by simpa using hj) hg
theorem afX(hE:ap P E){T:TypeId}{ta tb:Ty}(hT:E.gr T=some (ta,tb)){y:El ta}{cs:List Value}(hr:bh X ta y cs)(w:World):(Instr.build T #[(0,dR ta cs)]).run P w= .ok (.agg (cs++ [Value.pointer none,Value.pointer none,Value.int .i64 0]).toArray) w:=by
 obtain⟨fs,f0,hu,Zk,xr,ZR,cR⟩:=hE.g3 T ta tb hT
 obtain⟨i,hi,hz⟩:=hE.gz T ta tb hT
 obtain⟨places,Kh,ZH⟩:=Z9 (P:=P) (fs:=fs) cR
 obtain⟨i0,Cg,fb,_⟩:=(hE.ty _ _ ZR).info
 have fO:places[0]? =some (f0.offset,i0.size):=ZH 0 f0 i0 (by rw[Array.getElem?_toList];exact Zk) Cg
 have hmc:=vw hr
 have fk:=hr.len
 have Ky:=uZ ta
 refine run_build w T _ _ ?_
 unfold Program.built
 simp only[hi,hu,hz,Kh]
 have Kx:(Value.agg (zp ta++ [Value.pointer none,Value.pointer none,Value.int .i64 0]).toArray).cells=(zp ta++ [Value.pointer none,Value.pointer none,Value.int .i64 0]).toArray:=rfl
 simp only[Kx,Instr.fill,List.getElem?_toArray,fO,xr,fb,hmc]
 rw[if_neg (by simp;omega)]
 have lu:=zqr 0 cs (zp ta++ [Value.pointer none,Value.pointer none,Value.int .i64 0]).toArray (by simp;omega)
 congr 1
 apply Array.toList_inj.1
 rw[lu]
 simp only[List.take_zero,List.nil_append,Nat.zero_add]
 rw[fk,<-Ky,List.drop_left]
theorem amL(hE:ap P E){X0:ax}(hx:Ext X0 X)(hr:Rel X s a){ops:Array Oper}{k:Nat}{oB oX oA:Oper}(hB:ops[k]? =some oB)(hX:ops[k+1]? =some oX)(hA:ops[k+2]? =some oA){s':State}(h:rD E oB oX oA s some=some s'){Q:Exit->Act->World->Prop}(hQ:∀Y a',Ext X0 Y->Rel Y s' a'->Q .normal a' Y.w):wpOps P ops Q [k,k+1,k+2] a X.w:=by
 unfold rD at h
 split at h
 case h_2=>cases h
 rename_i T parts T' e1 e2 hoB hoX ZD
 split at h
 case h_2=>cases h
 rename_i d1 d2 d3 B8 rY hd3
 cases fm:(Nat.beq T T'&&(Nat.beq d1 e1&&(Nat.beq d2 e2&&(isDst oB d1&&(isDst oX d2&&(isDst oA d3&&(Nat.ble (d1+1) s.sl.length&&Nat.ble (d2+1) s.sl.length))))))) with
 |false=>rw[fm] at h;cases h
 |true=>
 rw[fm,cond_true] at h
 simp only[Bool.and_eq_true] at fm
 obtain⟨Y9,xj,xk,hB1,hX1,hA1,Cr,AE⟩:=fm
 have Y9:=Nat.eq_of_beq_eq_true Y9
 have xj:=Nat.eq_of_beq_eq_true xj
 have xk:=Nat.eq_of_beq_eq_true xk
 subst Y9 xj xk
 split at h
 case h_2=>cases h
 rename_i x ta tb ou Cd
 obtain⟨y,h,hy⟩:=zy h
 split at h
 case h_2=>cases h
 rename_i je
 cases h
 have ou:parts= #[(0,x)]:=by rw[<-Array.toArray_toList (xs:=parts),ou]
 subst ou
 obtain⟨cs,lG,YV⟩:=hy X _ _ (hr.aH x)
 have ZQ:d1<a.tmps.size:=by rw[<-hr.size];exact Nat.le_of_ble_eq_true Cr
 have xx:d2<a.tmps.size:=by rw[<-hr.size];exact Nat.le_of_ble_eq_true AE
 have Kn:(execOp a.eval oB).run P X.w= .ok (.value (.agg (cs++ [Value.pointer none,Value.pointer none,Value.int .i64 0]).toArray)) X.w:=by
  have:=afX (X:=X) hE Cd lG X.w
  simp only[execOp,hoB,Sem.run_bind]
  have e:(#[((0:Nat),x)].map fun(i,x)=>(i,a.eval x))= #[(0,dR ta cs)]:=by simp [YV]
  rw[e,this]
  rfl
 refine raw hB hB1 Kn ?_
 have dQ:Rel X (s.av (some d1) [.undef]) (a.put (some d1) (.agg (cs++ [Value.pointer none,Value.pointer none,Value.int .i64 0]).toArray)):=hr.put (fun _ _=>trivial) (fun id t p hm=>by simp at hm)
 have RS:(a.put (some d1) (.agg (cs++ [Value.pointer none,Value.pointer none,Value.int .i64 0]).toArray)).eval (.tmp d1)= .agg (cs++ [Value.pointer none,Value.pointer none,Value.int .i64 0]).toArray:=by
  show(a.put (some d1) _).tmps.getD d1 Go.undef=_
  rw[nP ZQ,if_pos rfl]
 have Sa:(a.put (some d1) (.agg (cs++ [Value.pointer none,Value.pointer none,Value.int .i64 0]).toArray)).tmps.size=a.tmps.size:=rO
 generalize a.put (some d1) (.agg (cs++ [Value.pointer none,Value.pointer none,Value.int .i64 0]).toArray)=a1 at dQ RS Sa⊢
 let β:Nat->Option Nat:=fun id=>if id=d2+1 then some X.w.heap.size else X.β id
 have JQ:(s.av (some d1) [.undef]).bs[d2+1]? =some none:=je
 have ar:d2+1<s.bs.length:=(List.getElem?_eq_some_iff.1 je).1
 have hk:eN (s.av (some d1) [.undef]) X (X.new (cs++ [Value.pointer none,Value.pointer none,Value.int .i64 0]).toArray T (.box (d2+1)) β):=PX X _ _ _ _ _ (by show(if _ then _ else _)=_;rw[if_neg (by omega)]) (fun id B hB=>by
  show(if id=d2+1 then _ else _)=_
  rw[if_neg (fun e=>by rw[e,JQ] at hB;cases hB)])
 obtain⟨n1,n2⟩:=PN X (cs++ [Value.pointer none,Value.pointer none,Value.int .i64 0]).toArray T (.box (d2+1)) β
 have Kp:(execOp a1.eval oX).run P X.w= .ok (.value (.pointer (some ⟨X.w.heap.size,0,none⟩))) (X.new (cs++ [Value.pointer none,Value.pointer none,Value.int .i64 0]).toArray T (.box (d2+1)) β).w:=by
  simp only[execOp,hoX,Sem.run_bind,Instr.box,RS,PG,Result.andThen_ok,Sem.run_pure]
  rfl
 refine abv hX hX1 Kp ?_
 have bL:bF (X.new (cs++ [Value.pointer none,Value.pointer none,Value.int .i64 0]).toArray T (.box (d2+1)) β) (d2+1) X.w.heap.size ⟨.aG .bB ta tb,(y,(none,none),(0:Int)),[]::z24⟩:=
  ⟨n2,⟨_,n1⟩,fun _=>⟨cs,.pointer none,.pointer none,T,n1,lG.aj (fun _ _=>hk.az),rfl,rfl⟩⟩
 have hβd:β (d2+1)=some X.w.heap.size:=by show(if d2+1=d2+1 then _ else _)=_;rw[if_pos rfl]
 have eP:=((dQ.dv hk).fp (d:=d2+1) ar JQ hβd bL).dead d2 (.pointer (some ⟨X.w.heap.size,0,none⟩))
 have ev2:(a1.put (some d2) (.pointer (some ⟨X.w.heap.size,0,none⟩))).eval (.tmp d2)= .pointer (some ⟨X.w.heap.size,0,none⟩):=by
  show(a1.put (some d2) _).tmps.getD d2 Go.undef=_
  rw[nP (show d2<a1.tmps.size by rw[Sa];exact xx),if_pos rfl]
 generalize a1.put (some d2) (.pointer (some ⟨X.w.heap.size,0,none⟩))=a2 at eP ev2⊢
 have ur:(execOp a2.eval oA).run P (X.new (cs++ [Value.pointer none,Value.pointer none,Value.int .i64 0]).toArray T (.box (d2+1)) β).w= .ok (.value (.pointer (some ⟨X.w.heap.size,0,none⟩))) (X.new (cs++ [Value.pointer none,Value.pointer none,Value.int .i64 0]).toArray T (.box (d2+1)) β).w:=by
  simp only[execOp,ZD,Sem.run_bind,ev2,Sem.run_pure,Result.andThen_ok]
 refine raw hA hA1 ur ?_
 refine hQ (X.new _ T (.box (d2+1)) β) _ (hx.trans hk.ext) (eP.put (fun d' e=> ?_) fun id t p hm=> ?_)
 ·exact⟨X.w.heap.size,hβd,rfl,trivial⟩
 ·have:id=d2+1:=by have:=hm;simp at this;exact this.1
  subst this
  exact⟨⟨.aG .bB ta tb,(y,(none,none),(0:Int)),[]::z24⟩,by simp [State.aC,State.av,Ref.dead,List.getElem?_set,ar]⟩
theorem akc(hE:ap P E){C:ah}(hC:C.Nat)(hf:∀f,cW P C f){X0:ax}(hx:Ext X0 X)(hr:Rel X s a){id:Nat}{ops:Array Oper}{s':State}(h:Gi E (C State) ops.toList s some=some s'){Q:Exit->Act->World->Prop}(hQ:∀Y a',Ext X0 Y->Rel Y s' a'->Q .normal a' Y.w):(Code.region id ops false).wp P Q a X.w:=by
 unfold Gi at h
 split at h
 case h_2=>cases h
 rename_i l oB oX oA hl
 obtain⟨s1,h1,h2⟩:=jP (E2 hC (F:=fun s=>rD E oB oX oA s some) (G:=some) (K:=fun s=>rD E oB oX oA s some) (fun _=>rfl) l s) h
 have hD:=zih hl
 have b8:ops.size=l.length+3:=by rw[<-Array.length_toList,hD];simp
 refine wp_region ?_
 have kf:List.range ops.size=List.range l.length++ [l.length,l.length+1,l.length+2]:=by
  rw[b8,List.range_succ,List.range_succ,List.range_succ,List.append_assoc,List.append_assoc];rfl
 rw[kf]
 have cB:∀j,ops[l.length+j]? =[oB,oX,oA][j]? :=fun j=>by rw[<-Array.getElem?_toList,hD,List.getElem?_append_right (by omega),Nat.add_sub_cancel_left]
 have kO:(List.range l.length).map (fun i=>ops.getD i default)=l:=by
  apply List.ext_getElem?
  intro i
  rw[List.getElem?_map]
  by_cases hi:i<l.length
  ·have h3:ops[i]? =l[i]? :=by rw[<-Array.getElem?_toList,hD,List.getElem?_append_left hi]
   have h4:i<ops.size:=by omega
   rw[List.getElem?_range hi,<-h3]
   simp [h4]
  ·rw[List.getElem?_eq_none (by simpa using hi),List.getElem?_eq_none (by omega)];rfl
 refine zr5 hE hC hf (List.range l.length) X s a hr (fun i hi=>by have:=List.mem_range.1 hi;omega) (by rw[kO];exact h1) fun Y a' aZ bu=> ?_
 exact amL hE (hx.trans aZ) bu (cB 0) (cB 1) (cB 2) h2 hQ
theorem MT{Y:ax}{id:Nat}{pl:Nat->List Nat->Place}{l:List SV}{v:Value}(hr:cM Y pl l v):cM Y pl (l8 id l) v:=by
 have key:∀(sv:SV) (q:List Nat->Place) (w:Value),aA Y q sv w->aA Y q (match sv with
  | .ptr j _ _=>bif Nat.beq j id then .undef else sv
  |v=>v) w:=by
  intro sv q w h
  cases sv with
  |ptr j t p=>
   simp only
   cases Nat.beq j id with
   |true=>trivial
   |false=>exact h
  |_=>exact h
 match l,hr with
 | [sv],hr=>exact key sv _ _ hr
 | [],hr=>exact hr
 |x::y::r,⟨vs,h1,h2,h3⟩=>
  refine⟨vs,h1,by simpa [l8] using h2,fun j s u hs hu=> ?_⟩
  have hs:(l8 id (x::y::r))[j]? =some s:=hs
  unfold l8 at hs
  rw[List.getElem?_map] at hs
  obtain⟨s0,fb,rfl⟩:=Option.map_eq_some_iff.1 hs
  exact key s0 _ _ (h3 j s0 u fb hu)
theorem Oj{id:Nat}{l:List SV}{j:Nat}{t:Ty}{p:List Nat}(h:SV.ptr j t p∈l8 id l):SV.ptr j t p∈l/\j≠id:=by
 unfold l8 at h
 obtain⟨s0,fb,he⟩:=List.mem_map.1 h
 cases s0 with
 |ptr j' t' p'=>
  simp only at he
  cases hb:Nat.beq j' id with
  |true=>rw[hb] at he;cases he
  |false=>
   rw[hb] at he
   cases he
   exact⟨fb,fun e=>Nat.ne_of_beq_eq_false hb e⟩
 |_=>simp only at he;cases he
theorem Dr{id:Nat}{l:List SV}{i j:Nat}{a b:Ty}(h:SV.bz i a b j∈l8 id l):SV.bz i a b j∈l/\(l=[.bz i a b j]->l8 id l=[.bz i a b j]):=by
 refine⟨?_,fun e=>by rw[e];rfl⟩
 unfold l8 at h
 obtain⟨s0,fb,he⟩:=List.mem_map.1 h
 cases s0 with
 |ptr j' t' p'=>
  simp only at he
  cases hb:Nat.beq j' id<;>rw[hb] at he<;>cases he
 |_=>simp only at he;first|(cases he;done)|(rw[<-he];exact fb)
def yi(id m j g:Nat)(X:ax)(q:Nat):Ow:=
 if q=g then .row (.b id [j]) 0 else match X.ow q with
  | .row (.b m' p) n=>if m'=m then .row (.b id (j::p)) n else .row (.b m' p) n
  |w=>w
theorem acJ{id m j g q i:Nat}(hg:∃b,X.ow g= .box b):(yi id m j g X q).used i↔(X.ow q).used i:=by
 unfold yi
 split
 ·rename_i e
  obtain⟨b,hb⟩:=hg
  rw[e,hb]
  simp [Ow.used]
 ·cases hq:X.ow q with
  |row pl n=>
   cases pl with
   |b m' p=>simp only;split<;>rfl
   |_=>rfl
  |_=>rfl
theorem acI{id m j g q:Nat}(bM:q≠g)(h:∀p n,X.ow q≠ .row (.b m p) n):yi id m j g X q=X.ow q:=by
 unfold yi
 rw[if_neg bM]
 cases hq:X.ow q with
 |row pl n=>
  cases pl with
  |b m' p=>
   simp only
   rw[if_neg (fun e=>h p n (by rw[hq,e]))]
  |_=>rfl
 |_=>rfl
theorem adS{T:TypeId}(hE:ap P E)(kF:E.pt T=true){r off:Nat}{cur:Array Value}{T':TypeId}{w:World}{v:Value}(hv:v.cells= #[v])(ho:v.oneCell'=true)(hg:w.heap[r]? =some (.cells cur T' (0,0)))(hf:off+1<=cur.size):
 (storeVar T ⟨r,off,none⟩ v).run P w= .ok () (w.setRow r (cur.toList.take off++ [v]++cur.toList.drop (off+1)).toArray):=by
 obtain⟨i,hi,hs⟩:=hE.p1 T kF
 have bR:=run_storeCells_at P r off T' [v] 0 cur w hg (by simpa using hf) (fun u hu=>by
  have:u=v:=by simpa using hu
  rw[this];exact ho)
 simp only[Nat.add_zero] at bR
 have iB:(sizeOf T).run P w= .ok 1 w:=by simp [sizeOf,typeInfo,hi,hs]
 unfold storeVar
 simp only[Sem.run_bind,iB,Result.andThen_ok,hv]
 rw[if_neg (by simp)]
 exact bR
theorem akv{c:List Value}{p0 p1 n v:Value}{k j:Nat}(hk:c.length=k)(hj:j<2):(c++ [p0,p1,n]).take (k+j)++ [v]++(c++ [p0,p1,n]).drop (k+j+1)=c++ [if j=0 then v else p0,if j=1 then v else p1,n]:=by
 subst hk
 match j,hj with
 |0,_=>simp
 |1,_=>
  rw[List.take_append,List.drop_append]
  simp [List.take_of_length_le]
  rw[List.drop_eq_nil_of_le (by omega),show c.length+1+1-c.length=2 by omega]
  rfl
theorem aj7(hE:ap P E)(hr:Rel X s a){oS:Oper}{s':State}(h:km E oS s some=some s'):(oS.dst=none/\oS.guard=none)/\(∀i,s.slot i=[.undef]->s'.slot i=[.undef])/\∃Z,(execOp a.eval oS).run P X.w= .ok .skip Z.w/\Ext X Z/\Rel Z s' a:=by
 unfold km at h
 split at h
 case h_2=>cases h
 rename_i T tx ty ho
 cases nI:lC oS with
 |false=>rw[nI] at h;cases h
 |true=>
 rw[nI,cond_true] at h
 have lr:oS.dst=none/\oS.guard=none:=by
  unfold lC at nI
  split at nI
  ·exact⟨by assumption,by assumption⟩
  ·cases nI
 refine⟨lr,?_⟩
 split at h
 case isFalse=>cases h
 rename_i kF
 split at h
 case h_2=>cases h
 rename_i id ta tb j Kr
 have hx:=hr.slot tx
 rw[Kr] at hx
 obtain⟨rr,hβ,hv,hj⟩:aA X (.c tx 0) (.ptr id (.aG .bB ta tb) [1,j]) (a.tmps.getD tx Go.undef):=hx
 have hv:a.tmps.getD tx Go.undef= .pointer (some ⟨rr,ta.cells+j,none⟩):=hv
 have hj:j<2:=hj
 have YV:a.eval (.tmp tx)= .pointer (some ⟨rr,ta.cells+j,none⟩):=hv
 obtain⟨z,own,r1,hb,h,bU,h1,how,c,p0,p1,T',aE,aL,sc,sd⟩:=Fv hr h
 rw[hβ] at h1
 cases h1
 cases gY:gL own [] with
 |false=>rw[gY] at h;cases h
 |true=>
 rw[gY,cond_true] at h
 have gY:=A7 gY
 have fk:=aL.len
 have dg:ta.cells+j+1<=(c++ [p0,p1,Value.int .i64 z.2.2]).toArray.size:=by simp;omega
 have aX:∀v,v.cells= #[v]->v.oneCell'=true->a.eval (.tmp ty)=v->(execOp a.eval oS).run P X.w= .ok .skip (X.row rr (c++ [if j=0 then v else p0,if j=1 then v else p1,Value.int .i64 z.2.2]).toArray).w:=fun v h1 h2 h3=>by
  have bR:=adS (P:=P) hE kF h1 h2 aE dg
  rw[akv fk hj] at bR
  simp only[execOp,ho,Sem.run_bind,Instr.storeAt,YV,Instr.sureAddr,Sem.run_pure,Result.andThen_ok,h3,bR]
  rfl
 split at h
 case h_3=>cases h
 case h_2=>
  rename_i Gg
  cases h
  have hy:=hr.slot ty
  rw[Gg] at hy
  have hy:a.tmps.getD ty Go.undef= .pointer none:=hy
  have aX:=aX (.pointer none) rfl rfl hy
  generalize gZ:(c++ [if j=0 then Value.pointer none else p0,if j=1 then Value.pointer none else p1,Value.int .i64 z.2.2]).toArray=new at aX
  refine⟨fun i hi=>hi,X.row rr new,aX,Fz how,hr.row hb hβ how ⟨how,⟨_,setRow_heap X.w rr _ _ T' (0,0) aE⟩,fun _=> ?_⟩ (.inr gY)⟩
  have hg:∀k,∀{m:Option (El tb)} {v:Value},dz X (fun p=> .b id (k::p)) tb m v->dz (X.row rr new) (fun p=> .b id (k::p)) tb m v:=fun k m v hm=>hm.move (fun _ _=>mF how) fun p _ q o n hq hw=>by
   have bM:q≠rr:=fun e=>by rw[e,how] at hw;cases hw
   exact⟨(setRow_other X.w rr q _ bM).trans hq,hw⟩
  refine⟨c,if j=0 then Value.pointer none else p0,if j=1 then Value.pointer none else p1,T',?_,aL.aj (fun _ _=>mF how),?_,?_⟩
  ·rw[gZ];exact setRow_heap X.w rr _ _ T' (0,0) aE
  ·match j,hj with
   |0,_=>rfl
   |1,_=>exact hg 0 sc
  ·match j,hj with
   |0,_=>exact hg 1 sd
   |1,_=>rfl
 rename_i m tb' Gg
 split at h
 case h_2=>cases h
 rename_i B hB
 split at h
 case isFalse=>cases h
 rename_i dk
 cases fm:(tb'.cn tb&&(!tb.bI&&(gL B.own [2]&& !(Nat.beq id m)))) with
 |false=>rw[fm] at h;cases h
 |true=>
 rw[fm,cond_true] at h
 cases h
 simp only[Bool.and_eq_true,Bool.not_eq_true'] at fm
 obtain⟨ht,eb,Kb,Ga⟩:=fm
 have:=Ty.aJ ht
 subst this
 have Ga:id≠m:=fun e=>by rw[e] at Ga;simp at Ga
 have hbm:=qB hB
 obtain⟨g,hβm,tT⟩:=hr.boxes m B hbm
 obtain⟨bt,bx,bo⟩:=B
 have e:=Ty.aJ dk
 simp only at e
 subst e
 obtain⟨csg,Tg,Zl,ZM,mA,ZW⟩:=tT.cells eb
 have hy:=hr.slot ty
 rw[Gg] at hy
 obtain⟨g',hβ',ZV⟩:aA X (.c ty 0) (.ptr m bt []) (a.tmps.getD ty Go.undef):=hy
 rw[hβm] at hβ'
 cases hβ'
 have ZV:a.tmps.getD ty Go.undef= .pointer (some ⟨g,0,none⟩):=by
  have:=((qA eb).1 ZV).1
  rw[this];simp [Ty.off]
 have Cd:g≠rr:=fun e=>by rw[e,how] at mA;injection mA with mA;exact Ga mA
 generalize gZ:(c++ [if j=0 then Value.pointer (some ⟨g,0,none⟩) else p0,if j=1 then Value.pointer (some ⟨g,0,none⟩) else p1,Value.int .i64 z.2.2]).toArray=new at*
 have aX:=aX (.pointer (some ⟨g,0,none⟩)) rfl rfl ZV
 rw[gZ] at aX
 let Z:ax:=⟨(X.row rr new).w,yi id m j g X,X.β⟩
 have dh:∀q,q≠rr->Z.w.heap[q]? =X.w.heap[q]? :=fun q hq=>setRow_other X.w rr q _ hq
 have eh:∀ad v,X.az ad v->Z.az ad v:=fun ad v hs=>by
  have bM:ad.block≠rr:=fun e=>by
   have:=hs.2.2
   rw[e,how] at this
   exact this
  refine⟨hs.1,?_,(acJ ⟨m,mA⟩).2 hs.2.2⟩
  have:=hs.2.1
  simp only[World.cell?] at this⊢
  rw[dh _ bM];exact this
 have jh:∀q,q≠g->(∀p n,X.ow q≠ .row (.b m p) n)->Z.ow q=X.ow q:=fun q h1 h2=>acI h1 h2
 have bL:∀q b,b≠m->X.ow q= .box b->Z.ow q= .box b:=fun q b hb hq=>by
  rw[jh q (fun e=>by rw[e,mA] at hq;injection hq with hq;exact hb hq.symm) (fun p n e=>by rw[hq] at e;cases e)]
  exact hq
 have Cq:∀q pl n,X.ow q= .row pl n->(∀p,pl≠ .b m p)->Z.ow q= .row pl n:=fun q pl n hq hp=>by
  rw[jh q (fun e=>by rw[e,mA] at hq;cases hq) (fun p n' e=>by rw[hq] at e;injection e with e _;exact hp p e)]
  exact hq
 have JM:∀{pl:Place} {e:TypeId} {k n:Nat} {v:Value},(∀p,pl≠ .b m p)->bq X pl e k n v->bq Z pl e k n v:=fun hp ho=>by
  rcases ho with ho|⟨q,cap,cur,k1,k2,k3,k4,k5,k6⟩
  ·exact .inl ho
  ·exact .inr ⟨q,cap,cur,k1,(dh q (fun e=>by rw[e,how] at k6;cases k6)).trans k2,k3,k4,k5,Cq q _ _ k6 hp⟩
 have Ax:∀k,∀{x:Option (El bt)} {v:Value},dz X (fun p=> .b id (k::p)) bt x v->dz Z (fun p=> .b id (k::p)) bt x v:=fun k x v hm=>hm.move eh fun p _ q o n hq hw=>⟨(dh q (fun e=>by rw[e,how] at hw;cases hw)).trans hq,Cq q _ _ hw (fun p' e=>by injection e with e _;exact Ga e)⟩
 have cE:dz Z (fun p=> .b id (j::p)) bt (some bx) (.pointer (some ⟨g,0,none⟩)):=by
  refine⟨g,csg,Tg,rfl,(dh g Cd).trans Zl,by show yi id m j g X g=_;simp [yi],ZM.aj eh,fun p hp=> ?_⟩
  have:p=[2]:=by simpa [Br] using hp
  subst this
  obtain⟨e,t',xs,v,g0,g1,g2,g3⟩:=ZW [2] (A7 Kb)
  refine⟨e,t',xs,v,g0,g1,g2,?_⟩
  rcases g3 with g3|⟨q,cap,cur,k1,k2,k3,k4,k5,k6⟩
  ·exact .inl g3
  ·refine .inr ⟨q,cap,cur,k1,(dh q (fun e=>by rw[e,how] at k6;cases k6)).trans k2,k3,k4,k5,?_⟩
   show yi id m j g X q=_
   unfold yi
   rw[if_neg (fun e=>by rw[e,mA] at k6;cases k6),k6]
   simp
 have Ce:ig Z rr (.b id) ta bt (z.1,fL j (some bx) z.2.1,z.2.2):=by
  refine⟨c,if j=0 then Value.pointer (some ⟨g,0,none⟩) else p0,if j=1 then Value.pointer (some ⟨g,0,none⟩) else p1,T',?_,aL.aj eh,?_,?_⟩
  ·rw[gZ];exact setRow_heap X.w rr _ _ T' (0,0) aE
  ·match j,hj,cE with
   |0,_,cE=>exact cE
   |1,_,_=>exact Ax 0 sc
  ·match j,hj,cE with
   |0,_,_=>exact Ax 1 sd
   |1,_,cE=>exact cE
 have Kf:=hr.oI hb (.inr gY)
 have Kg:=hr.oI hbm (.inl (QS eb))
 have aZ:Ext X Z:=⟨eh,by show X.w.heap.size<=(X.row rr new).w.heap.size;simp [ax.row],rfl,rfl,rfl,rfl,fun q hq bR=>⟨jh q (fun e=>by rw[e,mA] at bR;exact bR) (fun p n e=>by rw[e] at bR;exact bR),dh q (fun e=>by rw[e,how] at bR;exact bR)⟩⟩
 have J0:id<s.bs.length:=(List.getElem?_eq_some_iff.1 hb).1
 refine⟨fun i hi=> ?_,Z,aX,aZ,by simpa [nm] using hr.size,by simpa [nm] using hr.gM,fun i l v hl hx=> ?_,fun bc B' eA=> ?_,fun i l bc t p hl hm=> ?_,hr.defers,hr.bz.less (fun i l rA c2 d2 k hl hm=> ?_) (fun rA c2 d2 x2 kv hex kc ZC=> ?_)⟩
 ·by_cases ar:i<s.sl.length
  ·have:=qC ar
   rw[hi] at this
   simp [nm,State.slot,this,l8]
  ·simp [nm,State.slot,List.getElem?_eq_none (Nat.le_of_not_lt ar)]
 ·replace hl:(s.sl.map (l8 m))[i]? =some l:=hl
  rw[List.getElem?_map] at hl
  obtain⟨l0,h0,rfl⟩:=Option.map_eq_some_iff.1 hl
  refine MT ((hr.bS i l0 v h0 hx).iT fun k sv u hk hu=> ?_)
  cases sv with
  |undef=>trivial
  |skip=>exact hu
  |cF=>exact hu
  |dS=>exact hu
  |over=>exact hu
  |ak t x own=>
   obtain⟨cs,q1,q2,q3⟩:=hu
   refine⟨cs,q1.aj eh,q2,fun p hp=> ?_⟩
   obtain⟨e,t',xs,v,g0,g1,g2,g3⟩:=q3 p hp
   exact⟨e,t',xs,v,g0,g1,g2,JM (fun p' e=>by cases e) g3⟩
  |ptr bc t p=>exact hu
  |view t x=>
   obtain⟨ad,cs,q1,q2,q3,q4⟩:=hu
   exact⟨ad,cs,q1,q2,q3.aj eh,fun i u hi=>eh _ _ (q4 i u hi)⟩
  |cap f t x u y=>exact rN eh hu
  |bz bc c' d' n=>
   obtain⟨r',q1,q2,q3⟩:=hu
   have bM:bc≠id:=fun e=>Kf i l0 c' d' n h0 (e▸List.mem_of_getElem? hk)
   have hnm:bc≠m:=fun e=>Kg i l0 c' d' n h0 (e▸List.mem_of_getElem? hk)
   refine⟨r',q1,bL r' bc hnm q2,?_⟩
   simp only[World.cell?] at q3⊢
   rw[dh r' (fun e=>by rw[e,how] at q2;injection q2 with q2;exact bM q2.symm)]
   exact q3
 ·replace eA:((s.bs.set m none).set id (some ⟨.aG .bB ta bt,(z.1,fL j (some bx) z.2.1,z.2.2),own⟩))[bc]? =some (some B'):=eA
  rw[List.getElem?_set] at eA
  by_cases e1:id=bc
  ·subst e1
   rw[if_pos rfl,if_pos (by simpa using J0)] at eA
   cases eA
   exact⟨rr,hβ,bL rr id Ga how,⟨_,setRow_heap X.w rr _ _ T' (0,0) aE⟩,fun _=>Ce⟩
  ·rw[if_neg e1,List.getElem?_set] at eA
   by_cases e2:m=bc
   ·rw[if_pos e2] at eA
    split at eA<;>cases eA
   ·rw[if_neg e2] at eA
    obtain⟨r',q1,q2,q3⟩:=hr.boxes bc B' eA
    have bM:r'≠rr:=fun e=>by rw[e,how] at q2;injection q2 with q2;exact e1 q2
    exact⟨r',q1,bL r' bc (fun e=>e2 e.symm) q2,q3.move eh (dh r' bM) (fun cs ho p hp=>by
     obtain⟨e,t',xs,v,g0,g1,g2,g3⟩:=ho p hp
     exact⟨e,t',xs,v,g0,g1,g2,JM (fun p' e=>by injection e with e _;exact e2 e.symm) g3⟩) fun p _ q o n hq hw=>⟨(dh q (fun e=>by rw[e,how] at hw;cases hw)).trans hq,Cq q _ _ hw (fun p' e=>by injection e with e _;exact e2 e.symm)⟩⟩
 ·replace hl:(s.sl.map (l8 m))[i]? =some l:=hl
  rw[List.getElem?_map] at hl
  obtain⟨l0,h0,rfl⟩:=Option.map_eq_some_iff.1 hl
  obtain⟨hm,bM⟩:=Oj hm
  obtain⟨B2,cU⟩:=hr.live i l0 bc t p h0 hm
  show∃B,((s.bs.set m none).set id (some ⟨.aG .bB ta bt,(z.1,fL j (some bx) z.2.1,z.2.2),own⟩))[bc]? =some (some B)
  rw[List.getElem?_set]
  by_cases e1:id=bc
  ·rw[if_pos e1,if_pos (by simpa using J0)];exact⟨_,rfl⟩
  ·rw[if_neg e1,List.getElem?_set,if_neg (fun e=>bM e.symm)];exact⟨B2,cU⟩
 ·replace hl:(s.sl.map (l8 m))[i]? =some l:=hl
  rw[List.getElem?_map] at hl
  obtain⟨l0,h0,rfl⟩:=Option.map_eq_some_iff.1 hl
  obtain⟨g1,g2⟩:=Dr hm
  exact⟨l0,h0,g1,g2⟩
 ·obtain⟨i,l,k,hl,hm⟩:=hex
  replace hl:(s.sl.map (l8 m))[i]? =some l:=hl
  rw[List.getElem?_map] at hl
  obtain⟨l0,h0,rfl⟩:=Option.map_eq_some_iff.1 hl
  obtain⟨g1,_⟩:=Dr hm
  refine⟨x2,kv,?_,ZC⟩
  show((s.bs.set m none).set id (some ⟨.aG .bB ta bt,(z.1,fL j (some bx) z.2.1,z.2.2),own⟩))[rA]? =_
  rw[List.getElem?_set,if_neg (show¬id=rA from fun e=>Kf i l0 c2 d2 k h0 (by rw[e];exact g1)),List.getElem?_set,if_neg (show¬m=rA from fun e=>Kg i l0 c2 d2 k h0 (by rw[e];exact g1))]
  exact kc
theorem zvr{α:Type}:∀{l r:List α} {x:α},V4 l=some (r,x)->l=r++ [x]
 | [],_,_,h=>by cases h
 | [a],_,_,h=>by cases h;rfl
 |a::b::r,_,_,h=>by
  simp only[V4] at h
  split at h
  case h_2=>cases h
  rename_i l x hl
  cases h
  have:=zvr (l:=b::r) hl
  rw[this];rfl
theorem Ml{n:Nat}{listed:Array Bool}(hs:n<=listed.size){i:Nat}{p q:List Nat}(h:rest n listed=p++i::q):rest n (listed.setIfInBounds i true)=p++q:=by
 have nI:(rest n listed).Nodup:=List.nodup_range.filter _
 rw[h] at nI
 rw[<-zv8 nI,<-h]
 simp only[rest,List.filter_filter]
 refine List.filter_congr fun j hj=> ?_
 have Zq:=List.mem_range.1 hj
 by_cases e:j=i
 ·subst e
  have:(listed.setIfInBounds j true).getD j true=true:=by
   have:j<listed.size:=by omega
   simp [Array.getD_eq_getD_getElem?,this]
  rw[this];simp
 ·have h1:(listed.setIfInBounds i true).getD j true=listed.getD j true:=by
   simp only[Array.getD_eq_getD_getElem?]
   rw[Array.getElem?_setIfInBounds_ne (fun h=>e h.symm)]
  have h2:Nat.beq j i=false:=by
   cases hh:Nat.beq j i with
   |false=>rfl
   |true=>exact absurd (Nat.eq_of_beq_eq_true hh) e
  rw[h1,h2];simp
theorem adI{n:Nat}{listed:Array Bool}{i:Nat}(h:n<=i):rest n (listed.setIfInBounds i true)=rest n listed:=by
 simp only[rest]
 refine List.filter_congr fun j hj=> ?_
 have Zq:=List.mem_range.1 hj
 simp only[Array.getD_eq_getD_getElem?]
 rw[Array.getElem?_setIfInBounds_ne (by omega)]
theorem Mm{n:Nat}{listed:Array Bool}(hs:listed.size=n+1):rest (n+1) listed=rest n listed++(if listed.getD n true=true then [] else [n]):=by
 simp only[rest,List.range_succ,List.filter_append]
 congr 1
 cases h:listed.getD n true with
 |false=>
  rw[if_neg (by simp)]
  simp only[List.filter_cons,h,Bool.not_false,if_true,List.filter_nil]
 |true=>
  rw[if_pos rfl]
  simp only[List.filter_cons,h,Bool.not_true,Bool.false_eq_true,if_false,List.filter_nil]
theorem zvy{ops:Array Oper}(mc:∀k,k<ops.size->Nat.ble (vh ops k+1) (bit k)=true){listed:Array Bool}(hs:listed.size=ops.size)(hr:Region.ready .any ops listed=[]):rest ops.size listed=[]:=by
 rcases hl:rest ops.size listed with _|⟨i,r⟩
 ·rfl
 have cE:i∈rest ops.size listed:=by rw[hl];simp
 have dm:=List.mem_range.1 (List.mem_filter.1 cE).1
 have kg:i∈Region.ready .any ops listed:=by
  refine Nx cE fun e he hb=> ?_
  have ar:e.on<i:=Lk (mc i dm) (zhd _ e he hb)
  cases hx:listed.getD e.on false with
  |true=>rfl
  |false=>
   exfalso
   have gi:e.on<listed.size:=by omega
   have AJ:listed.getD e.on true=false:=by
    simp only[Array.getD_eq_getD_getElem?,Array.getElem?_eq_getElem gi,Option.getD_some] at hx⊢
    exact hx
   have hm:e.on∈rest ops.size listed:=List.mem_filter.2 ⟨List.mem_range.2 (by omega),by rw[AJ];rfl⟩
   have iC:(rest ops.size listed).Pairwise (· < ·):=List.pairwise_lt_range.filter _
   rw[hl] at iC hm
   rcases List.mem_cons.1 hm with e1|hm
   ·omega
   ·have:=(List.pairwise_cons.1 iC).1 _ hm
    omega
 rw[hr] at kg
 cases kg
theorem acC{o:Oper}{t j:Nat}(ho:o.op= .extract (.tmp t) j){vs:Array Value}(hv:a.tmps.getD t Go.undef= .tuple vs){v:Value}(hj:vs[j]? =some v)(w:World):(execOp a.eval o).run P w= .ok (.value v) w:=by
 have ev:a.eval (.tmp t)= .tuple vs:=hv
 simp [execOp,ho,ev,Instr.extract,hj]
structure Hq(E:Env)(C:ah)(ops:Array Oper)(n k t j d:Nat)(oS oD:Oper)(s1 s':State):Prop where
 size:ops.size=n+1
 last:ops[n]? =some oS
 JH:ops[k]? =some oD
 kn:k<n
 ext:oD.op= .extract (.tmp t) j
 dst:isDst oD d=true
 Z7:Nat.ble (zx oS.after.toList+1) (bit n)=true
 mask:jq ops.toList n (zx oS.after.toList)|||bit k=bit n-1
 low:∀i,i<n->Nat.ble (vh ops i+1) (bit i)=true
 len:j<(s1.slot t).length
 tup:(s1.slot t).length≠1
 link:km E oS (s1.av (some d) [.undef]) some=some s'
theorem agY{m n k i:Nat}(h:m|||bit k=bit n-1)(hi:i<n)(hk:i≠k):m.testBit i=true:=by
 have h1:(m|||bit k).testBit i=true:=by
  rw[h]
  simp only[bit,Nat.shiftLeft_eq,Nat.one_mul]
  rw[Nat.testBit_two_pow_sub_one]
  simpa using hi
 rw[Nat.testBit_or] at h1
 have h2:(bit k).testBit i=false:=by
  simp only[bit,Nat.shiftLeft_eq,Nat.one_mul]
  rw[Nat.testBit_two_pow]
  simp
  omega
 rw[h2,Bool.or_false] at h1
 exact h1
theorem adO(c:List (Nat×Nat)):∀(s:State) (t:Nat),((s.close c).slot t).length=(s.slot t).length:=by
 induction c with
 |nil=>intro s t;rfl
 |cons x r ih=>
  intro s t
  obtain⟨i,j⟩:=x
  rw[ER,ih]
  simp only[State.cf,State.slot,List.getD_eq_getElem?_getD,List.getElem?_set]
  by_cases e:i=t
  ·subst e
   by_cases ar:i<s.sl.length
   ·rw[if_pos rfl,if_pos ar,List.getElem?_eq_getElem ar]
    simp [z7s]
   ·rw[if_pos rfl,if_neg ar,List.getElem?_eq_none (by omega)]
  ·rw[if_neg e]
theorem af9{s:State}{d:Nat}(h:s.slot d=[.undef]):s.av (some d) [.undef]=s:=by
 simp only[State.av]
 have:s.sl.set d [.undef]=s.sl:=by
  apply List.ext_getElem?
  intro i
  rw[List.getElem?_set]
  by_cases e:d=i
  ·subst e
   by_cases ar:d<s.sl.length
   ·rw[if_pos rfl,if_pos ar,qC ar,h]
   ·rw[if_pos rfl,if_neg ar,List.getElem?_eq_none (by omega)]
  ·rw[if_neg e]
 rw[this]
theorem adP(s:State)(d:Nat):(s.av (some d) [.undef]).slot d=[.undef]:=by
 simp only[State.slot,State.av,List.getD_eq_getElem?_getD,List.getElem?_set]
 by_cases ar:d<s.sl.length
 ·simp [ar]
 ·simp [ar]
theorem acB{C:ah}{ops:List Oper}{o:Oper}{t j:Nat}(ho:o.op= .extract (.tmp t) j){u:Out}(h:act E (C Out) ops o s some=some u):u.bx=none/\u.v.length=1:=by
 unfold act at h
 simp only[ho] at h
 split at h
 ·split at h
  ·cases h;exact⟨rfl,rfl⟩
  ·cases h
 ·split at h<;>cases h<;>exact⟨rfl,rfl⟩
theorem amJ(hE:ap P E){C:ah}(hC:C.Nat)(hf:∀f,cW P C f){ops:Array Oper}{n k t j d:Nat}{oS oD:Oper}{s1 s':State}(H:Hq E C ops n k t j d oS oD s1 s'){Q:Exit->Act->World->Prop}:
 ∀(cp:Nat) (listed:Array Bool) (X:ax) (s:State) (a:Act) (tr:List dV),Rel X s a->tH ops listed->listed.size=n+1->listed.getD n true=false->cp=(rest n listed).length+1->oc E C ops (rest n listed) s tr s1->tr.Pairwise (vL ops)->
  (∀Y a',Ext X Y->Rel Y s' a'->Q .normal a' Y.w)->wpAny P .any ops Q cp listed a X.w:=by
 have hgS:ops.getD n default=oS:=by
  have:=H.last
  simp only[Array.getD_eq_getD_getElem?,this,Option.getD_some]
 have hgD:ops.getD k default=oD:=by
  have:=H.JH
  simp only[Array.getD_eq_getD_getElem?,this,Option.getD_some]
 have mc:∀i,i<ops.size->Nat.ble (vh ops i+1) (bit i)=true:=fun i hi=>by
  rcases Nat.lt_or_ge i n with h|h
  ·exact H.low i h
  ·have:i=n:=by have:=H.size;omega
   subst this
   unfold vh
   rw[hgS]
   exact H.Z7
 intro cp
 induction cp with
 |zero=>intro listed X s a tr hr fk hs hn nH;omega
 |succ cp ih=>
  intro listed X s a tr hr fk hs hn nH dO vn hQ
  have hrs:rest ops.size listed=rest n listed++ [n]:=by rw[H.size,Mm hs,if_neg (by rw[hn];simp)]
  refine⟨fun iz=> ?_,fun i hi=> ?_⟩
  ·have:=zvy mc (by rw[hs,H.size]) iz
   rw[hrs] at this
   simp at this
  ·obtain⟨Ka,rj⟩:=Gy hi
   have cE:=Ka
   rw[hrs] at cE
   rcases List.mem_append.1 cE with cE|cE
   ·obtain⟨p,q,xt⟩:=NA cE
    have dm:=List.mem_range.1 (List.mem_filter.1 cE).1
    rw[xt] at dO
    have mf:=EK dO
    obtain⟨tp,f,tq,u,e1,e2,k1,k2,k3⟩:=zr8 p s tr dO (fun tp f tq e hl a' Ao=>by
     have tY:f.i=i:=by
      rw[e,List.map_append,List.map_cons] at mf
      have:=List.append_inj mf (by simp [hl])
      injection this.2
     have Zb:a'.i∈p:=by
      rw[e,List.map_append,List.map_cons] at mf
      have:=List.append_inj mf (by simp [hl])
      rw[<-this.1]
      exact List.mem_map.2 ⟨a',Ao,rfl⟩
     rw[e] at vn
     have ua:=(List.pairwise_append.1 vn).2.2 a' Ao f (by simp)
     rcases ua with hb|hb
     ·exfalso
      rw[tY] at hb
      obtain fC:=Sp fk _ _ (fun q hq=>by
       obtain⟨ed,xj,xk,JW⟩:=EQ _ _ hq
       have:=rj ed xj xk
       rw[JW] at this
       exact this) a'.i hb
      have bH:a'.i∈rest n listed:=by rw[xt];exact List.mem_append_left _ Zb
      have dU:=(List.mem_filter.1 bH).2
      have ar:=List.mem_range.1 (List.mem_filter.1 bH).1
      have gi:a'.i<listed.size:=by omega
      simp only[Array.getD_eq_getD_getElem?,Array.getElem?_eq_getElem gi,Option.getD_some] at fC dU
      rw[fC] at dU
      cases dU
     ·exact hb)
    have bH:=Ml (n:=n) (by omega) xt
    have Zo:ops[i]? =some (ops.getD i default):=by
     have:i<ops.size:=by rw[H.size];omega
     simp [this]
    refine Wa hE hr hC hf Zo (zoz hC k1) fun Y a' aZ bu=> ?_
    refine ih (listed.setIfInBounds i true) Y _ a' (tp++tq) bu (z193 fk fun q hq=>by
     obtain⟨ed,g1,g2,g3⟩:=EQ _ _ hq
     have:=rj ed g1 g2
     rw[g3] at this
     exact this) (by simp [hs]) ?_ ?_ (by rw[bH];exact k3) ?_ (fun Z a2 cc c9=>hQ Z a2 (aZ.trans cc) c9)
    ·simp only[Array.getD_eq_getD_getElem?] at hn⊢
     rw[Array.getElem?_setIfInBounds_ne (by omega)]
     exact hn
    ·rw[bH]
     rw[xt] at nH
     simp only[List.length_append,List.length_cons] at nH⊢
     omega
    ·rw[e1] at vn
     obtain⟨a1,a2,a3⟩:=List.pairwise_append.1 vn
     exact List.pairwise_append.2 ⟨a1,(List.pairwise_cons.1 a2).2,fun x hx y hy=>a3 x hx y (List.mem_cons_of_mem _ hy)⟩
   ·have dm:i=n:=by simpa using cE
    subst dm
    have cR:∀q∈rest i listed,q=k:=fun q hq=>by
     obtain⟨h1,h2⟩:=List.mem_filter.1 hq
     have hqn:=List.mem_range.1 h1
     by_cases e:q=k
     ·exact e
     ·exfalso
      have fC:=Sp fk _ _ (fun q hq=>by
       obtain⟨ed,xj,xk,JW⟩:=EQ _ _ hq
       have:=rj ed (by rw[hgS];exact xj) xk
       rw[JW] at this
       exact this) q (agY H.mask hqn e)
      have gi:q<listed.size:=by omega
      simp only[Array.getD_eq_getD_getElem?,Array.getElem?_eq_getElem gi,Option.getD_some] at fC h2
      rw[fC] at h2
      cases h2
    have nI:(rest i listed).Nodup:=List.nodup_range.filter _
    have bH:rest i listed=[]\/rest i listed=[k]:=by
     match hl:rest i listed,cR,nI with
     | [],_,_=>exact .inl rfl
     | [q],cR,_=>exact .inr (by rw[cR q (by simp)])
     |q::q'::r,cR,nI=>
      have h1:=cR q (by simp)
      have h2:=cR q' (by simp)
      have:=(List.nodup_cons.1 nI).1
      rw[h1,h2] at this
      simp at this
    have Ki:Rel X (s1.av (some d) [.undef]) a/\(rest i listed=[k]->d≠t/\(s1.slot t).length=(s.slot t).length):=by
     rcases bH with bH|bH
     ·rw[bH] at dO
      obtain⟨rfl,_⟩:=dO
      exact⟨hr.kill d,fun e=>by rw[bH] at e;cases e⟩
     ·rw[bH] at dO
      match tr,dO with
      | [],dO=>exact dO.elim
      |f::tr,⟨u,h1,_,h3,_⟩=>
       rw[hgD] at h1 h3
       have JU:oD.dst=some d/\oD.guard=none:=by
        have:=H.dst
        unfold isDst at this
        split at this
        ·rename_i d' h1 h2
         exact⟨by rw[h1,Nat.eq_of_beq_eq_true this],h2⟩
        ·cases this
       unfold eL at h1
       rw[JU.2] at h1
       obtain⟨hbx,hvl⟩:=acB H.ext h1
       rw[JU.1] at h3
       have e:s1=(s.close u.cl).av (some d) u.v:=by
        rw[<-h3]
        unfold State.apply
        rw[hbx]
        rfl
       have JV:d≠t:=fun e2=>by
        have h5:=H.tup
        have h6:=H.len
        rw[e,e2] at h5 h6
        simp only[State.slot,State.av,List.getD_eq_getElem?_getD,List.getElem?_set] at h5 h6
        by_cases ar:t<(s.close u.cl).sl.length
        ·simp [ar] at h5
         omega
        ·simp [ar] at h5
       refine⟨?_,fun _=>⟨JV,?_⟩⟩
       ·have e3:s1.av (some d) [.undef]=(s.close u.cl).av (some d) [.undef]:=by
         rw[e]
         simp only[State.av,List.set_set]
        rw[e3]
        exact(hr.close u.cl).kill d
       ·rw[e,<-adO u.cl s t]
        simp only[State.slot,State.av,List.getD_eq_getElem?_getD,List.getElem?_set]
        rw[if_neg JV]
    obtain⟨c9,J4⟩:=Ki
    obtain⟨lr,ZU,Z,aX,aZ,AB⟩:=aj7 hE c9 H.link
    have hud:=ZU d (adP s1 d)
    unfold wpOp
    simp only[H.last]
    have hw:Region.wanted oS (yielded ops a.tmps)=true:=by simp [Region.wanted,lr.2]
    rw[if_pos hw]
    refine .inl ?_
    unfold Oper.wp
    rw[aX,Oper.upon_skip,lr.1]
    show wpAny P .any ops Q cp (listed.setIfInBounds i true) a Z.w
    have Ct:(listed.setIfInBounds i true).size=i+1:=by simpa using hs
    have fo:(listed.setIfInBounds i true).getD i true=true:=by
     have:i<listed.size:=by omega
     simp [Array.getD_eq_getD_getElem?,this]
    have xu:rest ops.size (listed.setIfInBounds i true)=rest i listed:=by
     rw[H.size,Mm Ct,if_pos fo,List.append_nil,adI (Nat.le_refl _)]
    rcases bH with bH|bH
    ·have:cp=0:=by rw[bH] at nH;simpa using nH
     subst this
     refine⟨?_,hQ Z a aZ AB⟩
     rcases Kj:Region.ready .any ops (listed.setIfInBounds i true) with _|⟨q,r⟩
     ·rfl
     ·have:=(Gy (i:=q) (by rw[Kj];simp)).1
      rw[xu,bH] at this
      cases this
    ·have:cp=1:=by rw[bH] at nH;simpa using nH
     subst this
     refine⟨fun iz=> ?_,fun q hq=> ?_⟩
     ·have:=zvy mc (by rw[Ct,H.size]) iz
      rw[xu,bH] at this
      cases this
     ·have RZ:=(Gy hq).1
      rw[xu,bH] at RZ
      have RZ:q=k:=by simpa using RZ
      subst RZ
      obtain⟨JV,hlen⟩:=J4 bH
      have JU:oD.dst=some d/\oD.guard=none:=by
       have:=H.dst
       unfold isDst at this
       split at this
       ·rename_i d' h1 h2
        exact⟨by rw[h1,Nat.eq_of_beq_eq_true this],h2⟩
       ·cases this
      have Cu:∃vs:Array Value,a.tmps.getD t Go.undef= .tuple vs/\vs.size=(s.slot t).length:=by
       have iA:=hr.slot t
       have h5:=H.tup
       rw[hlen] at h5
       match hq:s.slot t,iA,h5 with
       | [],⟨vs,g1,g2,_⟩,_=>exact⟨vs,g1,by rw[g2]⟩
       | [x],_,h5=>simp at h5
       |x::y::r,⟨vs,g1,g2,_⟩,_=>exact⟨vs,g1,by rw[g2]⟩
      obtain⟨vs,hv,xA⟩:=Cu
      have ub:j<vs.size:=by rw[xA,<-hlen];exact H.len
      have Ko:=acC (P:=P) H.ext hv (Array.getElem?_eq_getElem ub) Z.w
      unfold wpOp
      simp only[H.JH]
      have hw:Region.wanted oD (yielded ops a.tmps)=true:=by simp [Region.wanted,JU.2]
      rw[if_pos hw]
      refine .inl ?_
      unfold Oper.wp
      rw[Ko,Oper.upon_value,JU.1]
      have Ca:Rel Z s' (a.put (some d) vs[j]):=by
       have:=AB.dead d vs[j]
       rw[Ref.dead,af9 hud] at this
       exact this
      refine⟨?_,hQ Z _ aZ Ca⟩
      have hkn:=H.kn
      have ZN:rest ops.size ((listed.setIfInBounds i true).setIfInBounds q true)=[]:=by
       have:=Ml (n:=ops.size) (listed:=listed.setIfInBounds i true) (i:=q) (p:=[]) (q:=[]) (by rw[Ct,H.size];exact Nat.le_refl _) (by rw[xu,bH];rfl)
       simpa using this
      rcases Kj:Region.ready .any ops ((listed.setIfInBounds i true).setIfInBounds q true) with _|⟨z,r⟩
      ·rfl
      ·have:=(Gy (i:=z) (by rw[Kj];simp)).1
       rw[ZN] at this
       cases this
theorem agB(hE:ap P E)(hm:P.follows .mixedOrders=true){C:ah}(hC:C.Nat)(hf:∀f,cW P C f){X0:ax}(hx:Ext X0 X)(hr:Rel X s a){id k:Nat}{ops:Array Oper}{s':State}(h:rC E (C State) k ops.toList s some=some s'){Q:Exit->Act->World->Prop}(hQ:∀Y a',Ext X0 Y->Rel Y s' a'->Q .normal a' Y.w):(Code.region id ops true).wp P Q a X.w:=by
 unfold rC at h
 split at h
 case h_2=>cases h
 rename_i l oS hl
 split at h
 case h_2=>cases h
 rename_i oD hoD
 split at h
 case h_2=>cases h
 rename_i t j d aZ aoS
 cases fm:(isDst oD d&&(Nat.ble (k+1) l.length&&(Nat.ble (zx oS.after.toList+1) (bit l.length)&&Nat.beq (jq ops.toList l.length (zx oS.after.toList)|||bit k) (bit l.length-1)))) with
 |false=>rw[fm] at h;cases h
 |true=>
 rw[fm,cond_true] at h
 simp only[Bool.and_eq_true] at fm
 obtain⟨hd,Zr,J9,uf⟩:=fm
 have Zr:k<l.length:=Nat.le_of_ble_eq_true Zr
 have uf:=Nat.eq_of_beq_eq_true uf
 obtain⟨s1,h1,h2⟩:=jP (PI hC (F:=fun s=>bif Nat.ble (j+1) (s.slot t).length&& !(Nat.beq (s.slot t).length 1) then km E oS (s.av (some d) [.undef]) some else none) (G:=some) (K:=fun s=>bif Nat.ble (j+1) (s.slot t).length&& !(Nat.beq (s.slot t).length 1) then km E oS (s.av (some d) [.undef]) some else none) (fun _=>rfl) l 0 s []) h
 cases hlen:(Nat.ble (j+1) (s1.slot t).length&& !(Nat.beq (s1.slot t).length 1)) with
 |false=>simp only[hlen] at h2;cases h2
 |true=>
 simp only[hlen,cond_true] at h2
 rw[Bool.and_eq_true] at hlen
 have hD:=zvr hl
 have b8:ops.size=l.length+1:=by rw[<-Array.length_toList,hD];simp
 have m9:ops[l.length]? =some oS:=by rw[<-Array.getElem?_toList,hD,List.getElem?_append_right (Nat.le_refl _),Nat.sub_self];rfl
 have kO:(List.range l.length).map (fun i=>ops.getD i default)=l:=by
  apply List.ext_getElem?
  intro i
  rw[List.getElem?_map]
  by_cases hi:i<l.length
  ·have h3:ops[i]? =l[i]? :=by rw[<-Array.getElem?_toList,hD,List.getElem?_append_left hi]
   have h4:i<ops.size:=by omega
   rw[List.getElem?_range hi,<-h3]
   simp [h4]
  ·rw[List.getElem?_eq_none (by simpa using hi),List.getElem?_eq_none (by omega)];rfl
 obtain⟨xQ,r1,_,r3,r4⟩:=zaz hC (List.range l.length) 0 s [] (fun j k hj=>by
  obtain⟨g1,g2⟩:=List.getElem?_eq_some_iff.1 hj
  simp at g2
  omega) (by rw[kO];exact h1)
 have H:Hq E C ops l.length k t j d oS oD s1 s':=⟨b8,m9,by rw[<-Array.getElem?_toList];exact hoD,Zr,aZ,hd,J9,uf,fun i hi=>r4 i (List.mem_range.2 hi),Nat.le_of_ble_eq_true hlen.1,fun e=>by rw[e] at hlen;simp at hlen,h2⟩
 have hk:eN s X {X with w:={X.w with drawn:=X.w.drawn+1}}:=⟨Nat.le_refl _,rfl,rfl,rfl,fun g _=>⟨rfl,rfl⟩,rfl,fun _ _ _=>rfl⟩
 have bH:rest l.length (Array.replicate ops.size false)=List.range l.length:=by
  refine List.filter_eq_self.2 fun i hi=> ?_
  have:=List.mem_range.1 hi
  have h2:i<ops.size:=by omega
  simp [h2]
 refine wp_region_any hm ?_
 have nH:ops.size=(rest l.length (Array.replicate ops.size false)).length+1:=by rw[bH,b8];simp
 exact amJ hE hC hf H ops.size (Array.replicate ops.size false) _ s a xQ (hr.dv hk) (fun i hi=>by
  by_cases h:i<ops.size<;>simp [h] at hi) (by simp [b8]) (by simp [b8]) nH (by rw[bH];exact r1) r3 (fun Y a' aZ bu=>hQ Y a' (hx.trans (hk.ext.trans aZ)) bu)
end Go.Ref

namespace Go.Ref
open Go
variable {P:Program} {E:Env} {X:ax} {s:State} {a:Act}
def Ex.exit':Ex->Exit
 | .normal=> .normal
 | .exit id=> .exit id
 | .ret=> .ret
theorem ahw{Q:Exit->Act->World->Prop}{c:Code}(I:Nat->Act->World->Prop)(round:∀n a w,I n a w->∃m,n=m+1/\c.wp P (Exit.then (I m) Q) a w){n:Nat}{a:Act}{w:World}(h₀:I n a w):(Code.loop c).wp P Q a w:=by
 intro b k cs
 have key:∀n a w,I n a w->∃e a' w',Q e a' w'/\Arrives P (lone (b.at a (.code c:: .inLoop c::k)) cs w) b k cs e a' w':=by
  intro n
  induction n with
  |zero=>intro a w h;obtain⟨m,hm,_⟩:=round 0 a w h;cases hm
  |succ n ih=>
   intro a w h
   obtain⟨m,hm,hr⟩:=round (n+1) a w h
   cases hm
   obtain⟨e,a₁,w₁,hq,m5⟩:=hr b (.inLoop c::k) cs
   cases e with
   |normal=>
    obtain⟨e₂,a₂,w₂,hq₂,harr₂⟩:=ih a₁ w₁ hq
    exact⟨e₂,a₂,w₂,hq₂,.of_steps (Steps.trans m5 (.one step_inLoop)) harr₂⟩
   |exit id=>exact⟨_,a₁,w₁,hq,.pass (x:= .inLoop c) rfl (fun _ _=> .inl (by simp)) m5⟩
   |goto l=>exact⟨_,a₁,w₁,hq,.pass (x:= .inLoop c) rfl (fun _ _=> .inl (by simp)) m5⟩
   |ret=>exact⟨_,a₁,w₁,hq,.pass (x:= .inLoop c) rfl (fun _ _=> .inl (by simp)) m5⟩
   |panic ch=>exact⟨_,a₁,w₁,hq,.pass (x:= .inLoop c) rfl (fun _ _=> .inl (by simp)) m5⟩
   |outgrown=>exact⟨_,a₁,w₁,hq,.pass (x:= .inLoop c) rfl (fun _ _=> .inl (by simp)) m5⟩
 obtain⟨e,a',w',hq,m5⟩:=key n a w h₀
 exact⟨e,a',w',hq,.of_steps (.one step_loop) m5⟩
theorem EX{α:Type}(z:α)(l:List Nat):∀(xs:List α) (i j:Nat),(gk z l i xs)[j]? =(xs[j]?).map fun x=>bif l.any (Nat.beq (i+j)) then x else z
 | [],i,j=>by simp [gk]
 |x::r,i,0=>by simp [gk]
 |x::r,i,j+1=>by
  simp only[gk,List.getElem?_cons_succ]
  rw[EX z l r (i+1) j,show i+1+j=i+(j+1) by omega]
theorem zig{α:Type}(z:α)(l:List Nat):∀(xs:List α) (i:Nat),(gk z l i xs).length=xs.length
 | [],i=>rfl
 |x::r,i=>by simp [gk,zig z l r]
theorem Nj{p q:List Nat}:∀{l:List (List Nat)},q∈uy p l->q=p\/q∈l
 | [],h=>by simp [uy] at h;exact .inl h
 |r::l,h=>by
  simp only[uy] at h
  cases hl:Z8 r p with
  |false=>rw[hl] at h;simpa using h
  |true=>
   rw[hl] at h
   rcases List.mem_cons.1 h with h|h
   ·exact .inr (by simp [h])
   ·rcases Nj h with h|h
    ·exact .inl h
    ·exact .inr (List.mem_cons_of_mem _ h)
theorem SL{q:List Nat}:∀{l:List (List Nat)},q∈nu l->q∈l
 | [],h=>h
 |p::l,h=>by
  rcases Nj h with h|h
  ·simp [h]
  ·exact List.mem_cons_of_mem _ (SL h)
theorem akh{v:SV}{id:Nat}{t:Ty}{p:List Nat}(h:v.norm= .ptr id t p):v= .ptr id t p:=by
 cases v<;>simp [SV.norm] at h
 obtain⟨h1,h2,h3⟩:=h
 rw[h1,h2,h3]
theorem aA.norm{pl:List Nat->Place}{sv:SV}{v:Value}(hr:aA X pl sv v):aA X pl sv.norm v:=by
 cases sv with
 |ak t x own=>
  obtain⟨cs,h1,h2,h3⟩:=hr
  exact⟨cs,h1,h2,fun p hp=>h3 p (SL hp)⟩
 |_=>exact hr
theorem cM.norm{pl:Nat->List Nat->Place}{l:List SV}{v:Value}(hr:cM X pl l v):cM X pl (l.map SV.norm) v:=by
 match l,hr with
 | [s],hr=>exact aA.norm hr
 | [],hr=>exact hr
 |x::y::r,⟨vs,h1,h2,h3⟩=>
  refine⟨vs,h1,by simpa using h2,fun j s u hs hu=> ?_⟩
  have hs:((x::y::r).map SV.norm)[j]? =some s:=hs
  rw[List.getElem?_map] at hs
  obtain⟨s0,fb,rfl⟩:=Option.map_eq_some_iff.1 hs
  exact aA.norm (h3 j s0 u fb hu)
theorem dy.less{r:Nat}{pl:List Nat->Place}{t:Ty}{x:El t}{own jF:List (List Nat)}(ho:∀p∈jF,p∈own)(h:dy X r pl t x own):dy X r pl t x jF:=by
 unfold dy at h⊢
 split at h
 ·exact h
 ·exact h
 ·exact h
 ·exact⟨h.1,fun hm=>h.2 (ho [] hm)⟩
 ·exact⟨h.1,fun hp=>h.2 fun p hm=>ho p (hp p hm)⟩
 ·exact h.elim
 ·obtain⟨cs,T,h1,h2,h3⟩:=h
  exact⟨cs,T,h1,h2,fun p hp=>h3 p (ho p hp)⟩
theorem Rel.norm(hr:Rel X s a):Rel X s.norm a where
 size:=by simpa [State.norm] using hr.size
 gM:=by simpa [State.norm] using hr.gM
 bS:=fun i l v hl hv=>by
  simp only[State.norm,List.getElem?_map] at hl
  obtain⟨l0,h0,rfl⟩:=Option.map_eq_some_iff.1 hl
  exact cM.norm (hr.bS i l0 v h0 hv)
 boxes:=fun id B hB=>by
  simp only[State.norm,List.getElem?_map] at hB
  obtain⟨b0,h0,h1⟩:=Option.map_eq_some_iff.1 hB
  obtain⟨B0,rfl,rfl⟩:=Option.map_eq_some_iff.1 h1
  obtain⟨r,g1,g2,g3⟩:=hr.boxes id B0 h0
  exact⟨r,g1,g2,g3.less fun p hp=>SL hp⟩
 live:=fun i l id t p hl hm=>by
  simp only[State.norm,List.getElem?_map] at hl
  obtain⟨l0,h0,rfl⟩:=Option.map_eq_some_iff.1 hl
  obtain⟨v0,R5,he⟩:=List.mem_map.1 hm
  rw[akh he] at R5
  obtain⟨B,hB⟩:=hr.live i l0 id t p h0 R5
  exact⟨B.norm,by simp [State.norm,hB]⟩
 defers:=hr.defers
 bz:=hr.bz.less (fun i l id b c j hl hm=>by
  simp only[State.norm,List.getElem?_map] at hl
  obtain⟨l0,h0,rfl⟩:=Option.map_eq_some_iff.1 hl
  obtain⟨v0,R5,he⟩:=List.mem_map.1 hm
  have:v0= .bz id b c j:=by cases v0<;>simp [SV.norm] at he;rw[he.1,he.2.1,he.2.2.1,he.2.2.2]
  subst this
  exact⟨l0,h0,R5,fun e=>by rw[e];rfl⟩) (fun id b c x own _ hb ho=>⟨x,nu own,by simp [State.norm,hb,bE.norm],fun hm=>ho (SL hm)⟩)
theorem PE(hr:Rel X s a){l:List Nat}{R:Type}{K:State->Option R}{z:R}(h:rR l s K=some z):∃s',K s'=some z/\Rel X s' a:=by
 unfold rR at h
 simp only at h
 cases hb:(gk [.undef] l 0 s.sl).all (fun v=>v.all (SV.roots l)) with
 |false=>rw[hb] at h;cases h
 |true=>
  rw[hb] at h
  refine⟨_,h,Rel.norm ?_⟩
  have je:s.bs=s.bs.headD none::s.bs.tail:=by
   have:=hr.gM
   cases hs:s.bs with
   |nil=>rw[hs] at this;simp at this
   |cons b r=>rfl
  have cB:∀(id:Nat) B,(s.bs.headD none::gk none l 0 s.bs.tail)[id]? =some (some B)->s.bs[id]? =some (some B):=by
   intro id B hB
   rw[je]
   cases id with
   |zero=>exact hB
   |succ id=>
    simp only[List.getElem?_cons_succ] at hB⊢
    rw[EX] at hB
    obtain⟨x,hx,he⟩:=Option.map_eq_some_iff.1 hB
    rw[hx]
    cases hl:l.any (Nat.beq (0+id))<;>rw[hl] at he
    ·cases he
    ·rw[<-he];rfl
  refine⟨by rw[zig];exact hr.size,?_,fun i v x hv hx=> ?_,fun id B hB=>hr.boxes id B (cB id B hB),fun i v id t p hv hm=> ?_,hr.defers,hr.bz.less (fun i v id c d j hv hm=> ?_) (fun id c d x own hex nF ho=> ?_)⟩
  ·simp only[List.length_cons,zig,List.length_tail]
   have:=hr.gM
   omega
  ·rw[EX] at hv
   obtain⟨y,hy,rfl⟩:=Option.map_eq_some_iff.1 hv
   cases hl:l.any (Nat.beq (0+i)) with
   |false=>trivial
   |true=>exact hr.bS i y x hy hx
  ·have uq:SV.roots l (.ptr id t p)=true:=by
    have:=List.all_eq_true.1 hb v (List.mem_of_getElem? hv)
    exact List.all_eq_true.1 this _ hm
   rw[EX] at hv
   obtain⟨y,hy,he⟩:=Option.map_eq_some_iff.1 hv
   have rZ:SV.ptr id t p∈y:=by
    cases hl:l.any (Nat.beq (0+i)) with
    |false=>rw[hl] at he;subst he;simp at hm
    |true=>rw[hl] at he;subst he;exact hm
   obtain⟨B,hB⟩:=hr.live i y id t p hy rZ
   refine⟨B,?_⟩
   rw[je] at hB
   cases id with
   |zero=>exact hB
   |succ id=>
    simp only[List.getElem?_cons_succ] at hB⊢
    rw[EX,hB]
    have:l.any (Nat.beq id)=true:=uq
    have h2:l.any (Nat.beq (0+id))=true:=by rw[Nat.zero_add];exact this
    simp [this]
  ·rw[EX] at hv
   obtain⟨y,hy,he⟩:=Option.map_eq_some_iff.1 hv
   cases hl:l.any (Nat.beq (0+i)) with
   |false=>rw[hl] at he;subst he;simp at hm
   |true=>rw[hl] at he;subst he;exact⟨y,hy,hm,fun h=>h⟩
  ·obtain⟨i,v,j,hv,hm⟩:=hex
   have uq:SV.roots l (.bz id c d j)=true:=by
    have:=List.all_eq_true.1 hb v (List.mem_of_getElem? hv)
    exact List.all_eq_true.1 this _ hm
   refine⟨x,own,?_,ho⟩
   rw[je] at nF
   cases id with
   |zero=>exact nF
   |succ id=>
    simp only[List.getElem?_cons_succ] at nF⊢
    rw[EX,nF]
    have:l.any (Nat.beq id)=true:=uq
    have h2:l.any (Nat.beq (0+id))=true:=by rw[Nat.zero_add];exact this
    simp [this]
def ax.still(X:ax)(r n:Nat):ax:={X with ow:=fun g=>if g=r then .ro n else X.ow g}
theorem xY{r n id:Nat}(h:X.ow r= .box id){ad:Addr}{v:Value}(hs:X.az ad v):(X.still r n).az ad v:=by
 have bM:ad.block≠r:=fun e=>by
  have:=hs.2.2
  rw[e,h] at this
  exact this
 refine⟨hs.1,hs.2.1,?_⟩
 simp only[ax.still]
 rw[if_neg bM]
 exact hs.2.2
theorem Ms{r n id:Nat}(h:X.ow r= .box id):Ext X (X.still r n) where
 az:=fun _ _=>xY h
 size:=Nat.le_refl _
 os:=rfl
 tape:=rfl
 output:=rfl
 β0:=rfl
 still:=fun g _ bR=>by
  have bM:g≠r:=fun e=>by rw[e,h] at bR;exact bR
  exact⟨by simp only[ax.still];rw[if_neg bM],rfl⟩
theorem bq.eM{r n id:Nat}(h:X.ow r= .box id){pl:Place}{e:TypeId}{k m:Nat}{v:Value}(ho:bq X pl e k m v):bq (X.still r n) pl e k m v:=by
 rcases ho with ho|⟨g,cap,cur,h1,h2,h3,h4,h5,h6⟩
 ·exact .inl ho
 ·have bM:g≠r:=fun e=>by rw[e,h] at h6;cases h6
  exact .inr ⟨g,cap,cur,h1,h2,h3,h4,h5,by simp only[ax.still];rw[if_neg bM];exact h6⟩
theorem bm.eM{r n id:Nat}(h:X.ow r= .box id){pl:List Nat->Place}{t:Ty}{x:El t}{c:List Value}{own:List (List Nat)}(ho:bm X pl t x c own):bm (X.still r n) pl t x c own:=fun p hp=>by
 obtain⟨e,t',xs,v,g0,g1,g2,g3⟩:=ho p hp
 exact⟨e,t',xs,v,g0,g1,g2,g3.eM h⟩
theorem aA.eM{r n id:Nat}(h:X.ow r= .box id){pl:List Nat->Place}{sv:SV}{v:Value}(hk:∀bc c d j,sv= .bz bc c d j->bc≠id)(hr:aA X pl sv v):aA (X.still r n) pl sv v:=by
 cases sv with
 |ak t x own=>
  obtain⟨c,h1,h2,h3⟩:=hr
  exact⟨c,h1.aj (fun _ _=>xY h),h2,h3.eM h⟩
 |view t x=>
  obtain⟨ad,c,h1,h2,h3,h4⟩:=hr
  exact⟨ad,c,h1,h2,h3.aj (fun _ _=>xY h),fun i u hi=>xY h (h4 i u hi)⟩
 |cap f t x u y=>exact rN (fun _ _=>xY h) hr
 |bz bc c d j=>
  obtain⟨r',h1,h2,h3⟩:=hr
  have bM:r'≠r:=fun e=>by rw[e,h] at h2;injection h2 with h2;exact hk bc c d j rfl h2.symm
  exact⟨r',h1,by simp only[ax.still];rw[if_neg bM];exact h2,h3⟩
 |_=>exact hr
theorem SG(l:List Nat):∀(xs:List (Option bE)) (i j:Nat),(jd l i xs)[j]? =(xs[j]?).map fun b=>bif l.any (Nat.beq (i+j)) then b.map (fun B=>{B with own:=[]}) else b
 | [],i,j=>by simp [jd]
 |x::r,i,0=>by simp [jd]
 |x::r,i,j+1=>by
  simp only[jd,List.getElem?_cons_succ]
  rw[SG l r (i+1) j,show i+1+j=i+(j+1) by omega]
theorem Ly(l:List Nat):∀(xs:List (Option bE)) (i:Nat),(jd l i xs).length=xs.length
 | [],i=>rfl
 |x::r,i=>by simp [jd,Ly l r]
theorem Rel.drop(hr:Rel X s a)(l:List Nat):Rel X (s.drop l) a where
 size:=hr.size
 gM:=by simp only[State.drop,Ly];exact hr.gM
 bS:=hr.bS
 boxes:=fun id B hB=>by
  simp only[State.drop,SG] at hB
  obtain⟨b0,h0,h1⟩:=Option.map_eq_some_iff.1 hB
  cases hl:l.any (Nat.beq (0+id)) with
  |false=>rw[hl] at h1;simp only[cond_false] at h1;subst h1;exact hr.boxes id B h0
  |true=>
   rw[hl] at h1
   simp only[cond_true] at h1
   obtain⟨B0,rfl,rfl⟩:=Option.map_eq_some_iff.1 h1
   obtain⟨r,g1,g2,g3⟩:=hr.boxes id B0 h0
   exact⟨r,g1,g2,g3.less fun p hp=>by cases hp⟩
 live:=fun i v id t p hv hm=>by
  obtain⟨B,hB⟩:=hr.live i v id t p hv hm
  simp only[State.drop,SG,hB,Option.map_some]
  cases l.any (Nat.beq (0+id))<;>exact⟨_,rfl⟩
 defers:=hr.defers
 bz:=hr.bz.less (fun i l id c d j hl hm=>⟨l,hl,hm,fun h=>h⟩) (fun id c d x own _ hb ho=>by
  simp only[State.drop,SG,hb,Option.map_some]
  cases l.any (Nat.beq (0+id)) with
  |false=>exact⟨x,own,rfl,ho⟩
  |true=>exact⟨x,[],rfl,by simp⟩)
theorem akB(hr:Rel X s a){r:Nat}{R:Type}{K:State->Option R}{z:R}(h:rI E r s K=some z):∃Y s',Y.w=X.w/\Ext X Y/\K s'=some z/\Rel Y s' a:=by
 unfold rI at h
 split at h
 ·exact⟨X,s,rfl,Ext.refl X,h,hr⟩
 rename_i d T hfz
 split at h
 case h_2=>cases h
 rename_i id n ta tb e t iA hT
 split at h
 case isFalse=>cases h
 rename_i heq
 have:=Ty.aJ heq
 subst this
 split at h
 case h_2=>cases h
 rename_i B hB
 split at h
 case isFalse=>cases h
 rename_i dk
 obtain⟨hb,rr,h1,how,cs,T',aE,di,fN⟩:=Fy hr hB dk
 generalize(Ty.cast dk B.x:List (El ta))=xs at*
 cases hn:Nat.beq n (List.length xs) with
 |false=>rw[hn] at h;cases h
 |true=>
  rw[hn] at h
  have hn:=Nat.eq_of_beq_eq_true hn
  have hd:d<s.sl.length:=by
   rcases Nat.lt_or_ge d s.sl.length with h1|h1
   ·exact h1
   ·simp [State.slot,List.getElem?_eq_none h1] at iA
  have ej:=hr.slot d
  rw[iA] at ej
  obtain⟨r0,hβ,cap,hv,m8⟩:=(show aA X (.c d 0) (.ptr id (.aG (.iQ n) ta tb) []) _ from ej)
  rw[h1] at hβ
  cases hβ
  have ar:id<s.bs.length:=(List.getElem?_eq_some_iff.1 hb).1
  have nJ:=hr.oI hb (.inl (by rw[Ty.aJ dk];rfl))
  refine⟨X.still rr (xs.length*ta.cells),_,rfl,Ms how,h,?_,?_,fun i l v hl hx=> ?_,fun bc B' eA=> ?_,fun i l j t p hl hm=> ?_,hr.defers,hr.bz.less (fun i l rA c2 d2 j hl hm=> ?_) (fun rA c2 d2 x2 kv hex kc ho=> ?_)⟩
  ·simpa using hr.size
  ·simpa using hr.gM
  ·replace hl:((s.sl.map (l8 id)).set d [.ak (.sl e ta) xs []])[i]? =some l:=hl
   rw[List.getElem?_set] at hl
   split at hl
   ·rename_i tW
    subst tW
    rw[if_pos (by simpa using hd)] at hl
    cases hl
    have Ku:a.tmps.getD d Go.undef=v:=by
     rw[Array.getD_eq_getD_getElem?,hx];rfl
    rw[Ku] at hv
    refine⟨[v],?_,rfl,mE⟩
    rw[hv,hn]
    refine bh.xM rfl (by omega) (fun j y hj=>⟨⟨rr,0,none⟩,_,rfl,rfl,(fN j y hj).aj (fun _ _=>xY how),fun i u hi=> ?_⟩)
    have ub:=(List.getElem?_eq_some_iff.1 hj).1
    have hle:(j+1)*ta.cells<=xs.length*ta.cells:=Nat.mul_le_mul_right _ ub
    rw[Nat.add_mul,Nat.one_mul] at hle
    rw[List.getElem?_take] at hi
    split at hi
    case isFalse=>cases hi
    rename_i RV
    rw[List.getElem?_drop] at hi
    refine⟨Bb rfl _,?_,?_⟩
    ·rw[iM,Nat.zero_add]
     show X.w.cell? _=_
     simp only[World.cell?,aE]
     simpa using hi
    ·rw[iM,Nat.zero_add]
     show Ow.used (if rr=rr then .ro (xs.length*ta.cells) else X.ow rr) _
     rw[if_pos rfl]
     show j*ta.cells+i<_
     omega
   ·rw[List.getElem?_map] at hl
    obtain⟨l0,h0,rfl⟩:=Option.map_eq_some_iff.1 hl
    exact MT ((hr.bS i l0 v h0 hx).iT fun j sv u hm jM=>jM.eM how (fun bc c d k e e2=>nJ i l0 c d k h0 (e2▸e▸List.mem_of_getElem? hm)))
  ·replace eA:(s.bs.set id none)[bc]? =some (some B'):=eA
   rw[List.getElem?_set] at eA
   split at eA
   ·rename_i J1
    cases eA
   ·rename_i J1
    obtain⟨r',g1,g2,g3⟩:=hr.boxes bc B' eA
    have bM:r'≠rr:=fun e2=>by rw[e2,how] at g2;cases g2;exact J1 rfl
    exact⟨r',g1,by simp only[ax.still];rw[if_neg bM];exact g2,g3.move (fun _ _=>xY how) rfl (fun cs h5=>h5.eM how) fun _ _ g o _ ho hw=>⟨ho,by simp only[ax.still];rw[if_neg (fun e3=>by rw[e3,how] at hw;cases hw)];exact hw⟩⟩
  ·replace hl:((s.sl.map (l8 id)).set d [.ak (.sl e ta) xs []])[i]? =some l:=hl
   rw[List.getElem?_set] at hl
   split at hl
   ·rw[if_pos (by simpa using hd)] at hl
    cases hl
    simp at hm
   ·rw[List.getElem?_map] at hl
    obtain⟨l0,h0,rfl⟩:=Option.map_eq_some_iff.1 hl
    obtain⟨hm,bM⟩:=Oj hm
    obtain⟨B2,cU⟩:=hr.live i l0 j t p h0 hm
    exact⟨B2,by show(s.bs.set id none)[j]? =_;rw[List.getElem?_set,if_neg (fun e=>bM e.symm)];exact cU⟩
  ·replace hl:((s.sl.map (l8 id)).set d [.ak (.sl e ta) xs []])[i]? =some l:=hl
   rw[List.getElem?_set] at hl
   split at hl
   ·rw[if_pos (by simpa using hd)] at hl
    cases hl
    simp at hm
   ·rw[List.getElem?_map] at hl
    obtain⟨l0,h0,rfl⟩:=Option.map_eq_some_iff.1 hl
    obtain⟨g1,g2⟩:=Dr hm
    exact⟨l0,h0,g1,g2⟩
  ·refine⟨x2,kv,?_,ho⟩
   show(s.bs.set id none)[rA]? =_
   rw[List.getElem?_set,if_neg (fun e=> ?_)]
   ·exact kc
   ·subst e
    rw[hb] at kc
    cases kc
    cases(Ty.aJ dk)
theorem z145(hr:Rel X s a){id rr:Nat}{B:bE}(hb:s.bs[id]? =some (some B))(hs:B.t.bI=false)(h1:X.β id=some rr)(how:X.ow rr= .box id){cs:Array Value}{T:TypeId}(aE:X.w.heap[rr]? =some (.cells cs T (0,0)))(aL:bh X B.t B.x cs.toList){pl:List Nat->Place}{sv:SV}{v:Value}(hk:∀bc c d j,sv= .bz bc c d j->bc≠id)(h:aA X pl sv v):aA (X.still rr cs.size) pl (rT id B sv) v:=by
 have dv:=h.eM (n:=cs.size) how hk
 cases sv with
 |ptr j t p=>
  unfold rT
  simp only
  cases hj:Nat.beq j id with
  |false=>exact dv
  |true=>
   have:=Nat.eq_of_beq_eq_true hj
   subst this
   simp only[cond_true]
   split
   case isFalse=>trivial
   rename_i heq
   have:=Ty.aJ heq
   subst this
   split
   case h_2=>trivial
   rename_i u y cB
   obtain⟨r0,hβ,hv⟩:=h
   rw[h1] at hβ
   cases hβ
   obtain⟨hv,dm⟩:=(qA hs).1 hv
   obtain⟨k1,k2,k3⟩:=QO aL dm cB
   refine⟨_,_,hv,rfl,k3.aj (fun _ _=>xY how),fun i w hi=>⟨Bb rfl _,?_,?_⟩⟩
   ·exact S1 aE hi
   ·rw[iM]
    show Ow.used (if rr=rr then .ro cs.size else X.ow rr) _
    rw[if_pos rfl]
    rw[List.getElem?_take] at hi
    split at hi
    case isFalse=>cases hi
    rw[List.getElem?_drop] at hi
    have:=(List.getElem?_eq_some_iff.1 hi).1
    show _<cs.size
    simpa using this
 |_=>exact dv
theorem ahs(hr:Rel X s a){id rr:Nat}{B:bE}(hb:s.bs[id]? =some (some B))(hs:B.t.bI=false)(h1:X.β id=some rr)(how:X.ow rr= .box id){cs:Array Value}{T:TypeId}(aE:X.w.heap[rr]? =some (.cells cs T (0,0)))(aL:bh X B.t B.x cs.toList){pl:Nat->List Nat->Place}{l:List SV}{v:Value}(hk:∀bc c d j,SV.bz bc c d j∈l->bc≠id)(h:cM X pl l v):cM (X.still rr cs.size) pl (l.map (rT id B)) v:=by
 match l,h with
 | [sv],h=>exact z145 hr hb hs h1 how aE aL (fun bc c d j e=>hk bc c d j (by simp [e])) h
 | [],⟨vs,g1,g2,g3⟩=>exact⟨vs,g1,g2,fun j sv u me=>by simp at me⟩
 |x::y::r,⟨vs,g1,g2,g3⟩=>
  refine⟨vs,g1,by simpa using g2,fun j sv u me hu=> ?_⟩
  have me:((x::y::r).map (rT id B))[j]? =some sv:=me
  rw[List.getElem?_map] at me
  obtain⟨s0,fb,rfl⟩:=Option.map_eq_some_iff.1 me
  exact z145 hr hb hs h1 how aE aL (fun bc c d j e=>hk bc c d j (e▸List.mem_of_getElem? fb)) (g3 j s0 u fb hu)
theorem akG{id:Nat}{B:bE}{l:List SV}{j:Nat}{t:Ty}{p:List Nat}(h:SV.ptr j t p∈l.map (rT id B)):SV.ptr j t p∈l/\j≠id:=by
 obtain⟨s0,fb,he⟩:=List.mem_map.1 h
 unfold rT at he
 cases s0 with
 |ptr j' t' p'=>
  simp only at he
  cases hb:Nat.beq j' id with
  |true=>
   rw[hb] at he
   simp only[cond_true] at he
   split at he
   ·split at he<;>cases he
   ·cases he
  |false=>
   rw[hb] at he
   cases he
   exact⟨fb,fun e=>Nat.ne_of_beq_eq_false hb e⟩
 |_=>simp only at he;cases he
theorem akF{id:Nat}{B:bE}{l:List SV}{i j:Nat}{a b:Ty}(h:SV.bz i a b j∈l.map (rT id B)):SV.bz i a b j∈l/\(l=[.bz i a b j]->l.map (rT id B)=[.bz i a b j]):=by
 refine⟨?_,fun e=>by rw[e];rfl⟩
 obtain⟨s0,fb,he⟩:=List.mem_map.1 h
 unfold rT at he
 cases s0 with
 |ptr j' t' p'=>
  simp only at he
  cases hb:Nat.beq j' id with
  |true=>
   rw[hb] at he
   simp only[cond_true] at he
   split at he
   ·split at he<;>cases he
   ·cases he
  |false=>rw[hb] at he;cases he
 |_=>simp only at he;first|(cases he;done)|(rw[<-he];exact fb)
theorem acE(hr:Rel X s a){id:Nat}{R:Type}{K:State->Option R}{z:R}(h:V1 id s K=some z):∃Y s',Y.w=X.w/\Ext X Y/\K s'=some z/\Rel Y s' a:=by
 unfold V1 at h
 split at h
 case h_2=>cases h
 rename_i B hB
 split at h
 case isTrue=>cases h
 rename_i hs
 have hs:B.t.bI=false:=by simpa using hs
 have hb:=qB hB
 obtain⟨rr,h1,tT⟩:=hr.boxes id B hb
 obtain⟨cs,T,aE,aL,how,_⟩:=tT.cells hs
 refine⟨X.still rr cs.size,_,rfl,Ms how,h,by simpa using hr.size,by simpa using hr.gM,fun i l v hl hx=> ?_,fun bc B' eA=> ?_,fun i l j t p hl hm=> ?_,hr.defers,hr.bz.less (fun i l rA c2 d2 j hl hm=> ?_) (fun rA c2 d2 x2 kv hex kc ho=> ?_)⟩
 ·replace hl:(s.sl.map fun l=>l.map (rT id B))[i]? =some l:=hl
  rw[List.getElem?_map] at hl
  obtain⟨l0,h0,rfl⟩:=Option.map_eq_some_iff.1 hl
  exact ahs hr hb hs h1 how aE aL (fun bc c d j hm e=>hr.oI hb (.inl (QS hs)) i l0 c d j h0 (e▸hm)) (hr.bS i l0 v h0 hx)
 ·replace eA:(s.bs.set id none)[bc]? =some (some B'):=eA
  rw[List.getElem?_set] at eA
  split at eA
  ·split at eA<;>cases eA
  ·rename_i J1
   obtain⟨r',g1,g2,g3⟩:=hr.boxes bc B' eA
   have bM:r'≠rr:=fun e2=>by rw[e2,how] at g2;cases g2;exact J1 rfl
   exact⟨r',g1,by simp only[ax.still];rw[if_neg bM];exact g2,g3.move (fun _ _=>xY how) rfl (fun cs h5=>h5.eM how) fun _ _ g o _ ho hw=>⟨ho,by simp only[ax.still];rw[if_neg (fun e3=>by rw[e3,how] at hw;cases hw)];exact hw⟩⟩
 ·replace hl:(s.sl.map fun l=>l.map (rT id B))[i]? =some l:=hl
  rw[List.getElem?_map] at hl
  obtain⟨l0,h0,rfl⟩:=Option.map_eq_some_iff.1 hl
  obtain⟨hm,bM⟩:=akG hm
  obtain⟨B2,cU⟩:=hr.live i l0 j t p h0 hm
  exact⟨B2,by show(s.bs.set id none)[j]? =_;rw[List.getElem?_set,if_neg (fun e=>bM e.symm)];exact cU⟩
 ·replace hl:(s.sl.map fun l=>l.map (rT id B))[i]? =some l:=hl
  rw[List.getElem?_map] at hl
  obtain⟨l0,h0,rfl⟩:=Option.map_eq_some_iff.1 hl
  obtain⟨g1,g2⟩:=akF hm
  exact⟨l0,h0,g1,g2⟩
 ·refine⟨x2,kv,?_,ho⟩
  show(s.bs.set id none)[rA]? =_
  rw[List.getElem?_set,if_neg (fun e=> ?_)]
  ·exact kc
  ·subst e
   rw[hb] at kc
   cases kc
   cases hs
theorem zog{R:Type}{K:State->Option R}{z:R}:∀(l:List Nat) (X:ax) (s:State),Rel X s a->G5 l s K=some z->∃Y s',Y.w=X.w/\Ext X Y/\K s'=some z/\Rel Y s' a
 | [],X,s,hr,h=>⟨X,s,rfl,Ext.refl X,h,hr⟩
 |id::r,X,s,hr,h=>by
  obtain⟨Y,s1,h1,h2,h3,h4⟩:=acE hr h
  obtain⟨Z,s2,k1,k2,k3,k4⟩:=zog r Y s1 h4 h3
  exact⟨Z,s2,k1.trans h1,h2.trans k2,k3,k4⟩
def Fr(E:Env)(X0:ax):Prop:=E.sp≠none->∀g pl n,X0.ow g≠ .row pl n
def MA(P:Program)(E:Env)(C:ah)(k:Nat)(c:Code):Prop:=
 ∀(X0 X:ax) (s:State) (a:Act) (e:Ex) (s':State),Fr E X0->Ext X0 X->Rel X s a->ev E (C (Ex×State)) k c s (fun e s=>some (e,s))=some (e,s')->
  ∀(Q:Exit->Act->World->Prop),(∀Y a',Ext X0 Y->Rel Y s' a'->Q e.exit' a' Y.w)->c.wp P Q a X.w
theorem aka(hr:Rel X s a){k r:Nat}{R:Type}{K:State->Option R}{z:R}(h:nq E k r s K=some z):∃s',K s'=some z/\Rel X s' a:=by
 unfold nq at h
 split at h
 ·exact⟨s,h,hr⟩
 ·obtain⟨s',h1,h2⟩:=PE hr h
  refine⟨s',?_,h2⟩
  unfold cI at h1
  split at h1
  ·cases h1
  ·exact h1
theorem agE{C:ah}(hC:C.Nat){k:Nat}{b:Code}(hb:MA P E C k b){l lx:List Nat}{Q:Exit->Act->World->Prop}{e':Ex}{s':State}{X0:ax}(hF:Fr E X0)(hQ:∀Y a',Ext X0 Y->Rel Y s' a'->Q e'.exit' a' Y.w):
 ∀(n:Nat) (a:Act) (w:World),(∃X s,X.w=w/\Ext X0 X/\Rel X s a/\aB (ev E (C (Ex×State)) k b) l lx n s (fun e s=>some (e,s))=some (e',s'))->
  ∃m,n=m+1/\b.wp P (Exit.then (fun a w=>∃X s,X.w=w/\Ext X0 X/\Rel X s a/\aB (ev E (C (Ex×State)) k b) l lx m s (fun e s=>some (e,s))=some (e',s')) Q) a w:=by
 rintro n a w ⟨X,s,rfl,aZ,hr,h⟩
 cases n with
 |zero=>cases h
 |succ m=>
  refine⟨m,rfl,?_⟩
  simp only[aB] at h
  obtain⟨⟨e1,s2⟩,h1,h2⟩:=jP (vI hC b _ (fun e s=>some (e,s)) (K:=fun z=>match z.1 with
   | .normal=>rR l z.2 fun s=>aB (ev E (C (Ex×State)) k b) l lx m s (fun e s=>some (e,s))
   |e=>rR lx z.2 fun s=>some (e,s)) (fun e s=>by cases e<;>rfl) s) h
  refine hb X0 X s a e1 s2 hF aZ hr h1 _ fun Y a' cc bu=> ?_
  cases e1 with
  |normal=>
   obtain⟨s3,h3,Cn⟩:=PE bu h2
   exact⟨Y,s3,rfl,cc,Cn,h3⟩
  |exit id=>
   obtain⟨s3,h3,Cn⟩:=PE bu h2
   cases h3
   exact hQ Y a' cc Cn
  |ret=>
   obtain⟨s3,h3,Cn⟩:=PE bu h2
   cases h3
   exact hQ Y a' cc Cn
theorem z9s(hE:ap P E)(hm:P.follows .mixedOrders=true){C:ah}(hC:C.Nat)(hf:∀f,cW P C f){id:Nat}{ops:Array Oper}{d:Bool}{X00 X0:ax}{s0:State}{a:Act}{e:Ex}{s':State}(hx:Ext X00 X0)(hr0:Rel X0 s0 a)(h0:Fx E (C (Ex×State)) id ops d s0 ((fun e s=>some (e,s)) Ex.normal)=some (e,s')){Q:Exit->Act->World->Prop}(hQ0:∀Y a',Ext X00 Y->Rel Y s' a'->Q e.exit' a' Y.w):(Code.region id ops d).wp P Q a X0.w:=by
 unfold Fx at h0
 obtain⟨X1,s1,R7,At,h01,dQ⟩:=akB hr0 h0
 obtain⟨X,s,vp,cc,h,hr⟩:=zog _ X1 s1 dQ h01
 have hw:X.w=X0.w:=vp.trans R7
 have As:Ext X0 X:=At.trans cc
 clear h01 dQ R7 vp At cc
 have hQ:∀Y a',Ext X Y->Rel Y s' a'->Q e.exit' a' Y.w:=fun Y a' aZ bu=>hQ0 Y a' (hx.trans (As.trans aZ)) bu
 rw[<-hw]
 clear h0 hr0 hQ0 As hw
 cases d with
 |true=>
  simp only[cond_true] at h
  obtain⟨s1,h1,h2⟩:=jP (PI hC (F:=fun s=>some (Ex.normal,s)) (G:=some) (K:=fun s=>some (Ex.normal,s)) (fun _=>rfl) ops.toList 0 s []) h
  cases h2
  exact agk hE hm hC hf hr h1 hQ
 |false=>
  simp only[cond_false] at h
  obtain⟨s1,h1,h2⟩:=jP (E2 hC (F:=fun s=>some (Ex.normal,s)) (G:=some) (K:=fun s=>some (Ex.normal,s)) (fun _=>rfl) ops.toList s) h
  cases h2
  refine wp_region (z198 hE hC hf (List.range ops.size) X s a hr (fun i hi=>List.mem_range.1 hi) ?_ hQ)
  have:(List.range ops.size).map (fun i=>ops.getD i default)=ops.toList:=by
   apply List.ext_getElem?
   intro i
   rw[List.getElem?_map]
   by_cases hi:i<ops.size
   ·simp [hi]
   ·simp [hi]
  rw[this];exact h1
theorem EV(hE:ap P E)(hm:P.follows .mixedOrders=true){C:ah}(hC:C.Nat)(hf:∀f,cW P C f)(k:Nat):∀c:Code,MA P E C k c
 | .skip=>fun X0 X s a e s' hF hx hr h Q hQ=>by
   simp only[ev,Option.some.injEq,Prod.mk.injEq] at h
   obtain⟨rfl,rfl⟩:=h
   exact wp_skip (hQ X a hx hr)
 | .region id ops d=>fun X0 X s a e s' hF hx hr h Q hQ=>by
   simp only[ev] at h
   split at h
   ·rename_i j q mB
    cases hj:Nat.beq id j with
    |true=>
     rw[hj,cond_true] at h
     cases d with
     |true=>cases h
     |false=>
      cases hq:Nat.beq q.2.2 0 with
      |true=>
       simp only[hq,cond_true] at h
       obtain⟨s1,h1,h2⟩:=jP (Nu hC (F:=fun s=>some (Ex.normal,s)) (G:=some) (K:=fun s=>some (Ex.normal,s)) (fun _=>rfl)) h
       cases h2
       exact agS hE hC hf (hF (by rw[mB];exact fun e=>by cases e)) hx hr h1 hQ
      |false=>
      simp only[hq,cond_false] at h
      obtain⟨s1,h1,h2⟩:=jP (NC (F:=fun s=>some (Ex.normal,s)) (G:=some) (K:=fun s=>some (Ex.normal,s)) (fun _=>rfl)) h
      cases h2
      exact ahg hE (hF (by rw[mB];exact fun e=>by cases e)) hx hr h1 hQ
    |false=>
     rw[hj,cond_false] at h
     exact z9s hE hm hC hf hx hr h hQ
   ·split at h
    ·exact z9s hE hm hC hf hx hr h hQ
    ·rename_i m l k hsg
     cases hi:Nat.beq id m with
     |true=>
      rw[hi,cond_true] at h
      cases d with
      |true=>cases h
      |false=>
       obtain⟨s1,h1,h2⟩:=jP (Oz hC (F:=fun s=>some (Ex.normal,s)) (G:=some) (K:=fun s=>some (Ex.normal,s)) (fun _=>rfl)) h
       cases h2
       exact akc hE hC hf hx hr h1 hQ
     |false=>
     rw[hi,cond_false] at h
     cases oo:Nat.beq id l with
     |true=>
      rw[oo,cond_true] at h
      cases d with
      |false=>cases h
      |true=>
       obtain⟨s1,h1,h2⟩:=jP (Ng hC (F:=fun s=>some (Ex.normal,s)) (G:=some) (K:=fun s=>some (Ex.normal,s)) (fun _=>rfl)) h
       cases h2
       exact agB hE hm hC hf hx hr h1 hQ
     |false=>
      rw[oo,cond_false] at h
      exact z9s hE hm hC hf hx hr h hQ
 | .seq x y=>fun X0 X s a e s' hF hx hr h Q hQ=>by
   simp only[ev] at h
   obtain⟨⟨e1,s1⟩,h1,h2⟩:=jP (vI hC x _ (fun e s=>some (e,s)) (K:=fun z=>match z.1 with
    | .normal=>nq E k (uX y) z.2 fun s=>ev E (C (Ex×State)) k y s (fun e s=>some (e,s))
    |e=>some (e,z.2)) (fun e s=>by cases e<;>rfl) s) h
   refine wp_seq (EV hE hm hC hf k x X0 X s a e1 s1 hF hx hr h1 _ fun Y a' aZ bu=> ?_)
   cases e1 with
   |normal=>
    obtain⟨s2,h2,bu⟩:=aka bu h2
    exact EV hE hm hC hf k y X0 Y s2 a' e s' hF aZ bu h2 Q hQ
   |exit id=>cases h2;exact hQ Y a' aZ bu
   |ret=>cases h2;exact hQ Y a' aZ bu
 | .cond c x y=>fun X0 X s a e s' hF hx hr h Q hQ=>by
   simp only[ev] at h
   have hc:=hr.aH c
   split at h
   case h_2=>cases h
   rename_i p w hs
   rw[hs] at hc
   have hv:=Pv hc
   have dQ:Rel X (s.av (uN c) (bl p)) a:=by
    cases c with
    |tmp i=>
     have iA:s.slot i=[.ak .bool p w]:=by
      have hh:one (s.slot i)= .ak .bool p w:=hs
      match hm:s.slot i,hh with
      | [sv],hh=>have Cf:sv= .ak .bool p w:=hh;rw[Cf]
      | [],hh=>cases hh
      |_::_::_,hh=>cases hh
     exact(hr.know iA).1
    |_=>exact hr
   refine wp_cond_split hv (fun hp=> ?_) (fun hp=> ?_)
   ·subst hp
    exact EV hE hm hC hf k x X0 X _ a e s' hF hx dQ h Q hQ
   ·subst hp
    exact EV hE hm hC hf k y X0 X _ a e s' hF hx dQ h Q hQ
 | .block id b=>fun X0 X s a e s' hF hx hr h Q hQ=>by
   simp only[ev] at h
   obtain⟨⟨e1,s1⟩,h1,h2⟩:=jP (vI hC b _ (fun e s=>some (e,s)) (K:=fun z=>match z.1 with
    | .exit j=>bif Nat.beq j id then some (.normal,z.2) else some (.exit j,z.2)
    |e=>some (e,z.2)) (fun e s=>by cases e<;>rfl) s) h
   refine wp_block (EV hE hm hC hf k b X0 X s a e1 s1 hF hx hr h1 _ fun Y a' aZ bu=> ?_)
   cases e1 with
   |normal=>cases h2;exact hQ Y a' aZ bu
   |ret=>cases h2;exact hQ Y a' aZ bu
   |exit j=>
    simp only at h2
    show(if j=id then Q .normal a' Y.w else Q (.exit j) a' Y.w)
    cases hj:Nat.beq j id with
    |true=>
     rw[hj] at h2;cases h2
     rw[if_pos (Nat.eq_of_beq_eq_true hj)]
     exact hQ Y a' aZ bu
    |false=>
     rw[hj] at h2;cases h2
     rw[if_neg (Nat.ne_of_beq_eq_false hj)]
     exact hQ Y a' aZ bu
 | .loop b=>fun X0 X s a e s' hF hx hr h Q hQ=>by
   simp only[ev] at h
   obtain⟨s1,h,dQ⟩:=PE (hr.drop _) h
   exact ahw _ (agE hC (EV hE hm hC hf k b) hF (Q:=Q) hQ) ⟨X,s1,rfl,hx,dQ,h⟩
 | .exit id=>fun X0 X s a e s' hF hx hr h Q hQ=>by
   simp only[ev,Option.some.injEq,Prod.mk.injEq] at h
   obtain⟨rfl,rfl⟩:=h
   exact wp_exit (hQ X a hx hr)
 | .ret=>fun X0 X s a e s' hF hx hr h Q hQ=>by
   simp only[ev,Option.some.injEq,Prod.mk.injEq] at h
   obtain⟨rfl,rfl⟩:=h
   exact wp_ret (hQ X a hx hr)
 | .rangeFunc .. =>fun X0 X s a e s' hF hx hr h Q hQ=>by simp only[ev] at h;cases h
 | .scope _=>fun X0 X s a e s' hF hx hr h Q hQ=>by simp only[ev] at h;cases h
 | .label _=>fun X0 X s a e s' hF hx hr h Q hQ=>by simp only[ev] at h;cases h
 | .goto _=>fun X0 X s a e s' hF hx hr h Q hQ=>by simp only[ev] at h;cases h
 | .refuse _=>fun X0 X s a e s' hF hx hr h Q hQ=>by simp only[ev] at h;cases h
end Go.Ref

